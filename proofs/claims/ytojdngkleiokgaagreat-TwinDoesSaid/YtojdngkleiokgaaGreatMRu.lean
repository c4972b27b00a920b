/- Plain facts for the references: the year beside a day's civil year. Contracts of the references: the year in which a day lies (layer 14). Contracts of the references: what may be asked (layer 17). Contracts of the references: in which unit a day lies, and which are beside one (layer 17). -/
import Derived.Test.YtojdngkleiokgaaGreatMFr
import Derived.Test.YtojdngkleiokgaaGreatMRh
import Derived.Test.YtojdngkleiokgaaGreatMRb
import Derived.Test.YtojdngkleiokgaaGreatMFi
import Derived.Test.YtojdngkleiokgaaGreatMUn
import Derived.Test.YtojdngkleiokgaaGreatMRq
namespace Go.Proofs.YtojdngkleiokgaaGreat
open Go.RowKit Qd
set_option linter.unusedSimpArgs false
set_option linter.unusedVariables false

theorem un_bds {c : Cal} {u : Un} (h : unitE c u = 0) : 1 ≤ u.ix ∧ u.ix ≤ 60 ∧ 1602 ≤ u.yr ∧ u.yr ≤ 9996 ∧ (cntL c u.yr u.lv : Int) ≤ 60 ∧ c.first ≤ u.yr ∧ u.yr ≤ c.last := by
  obtain ⟨hf, hl1, hl5, hA, hx, hi⟩ := un_lv h
  obtain ⟨hok, hk, _, _, hy1, hy2, _⟩ := frame_ok hf
  obtain ⟨_, _, y3, y4, y5⟩ := ok_years hk
  have hc := cnt_bd c u.yr hA u.lv
  omega

end Go.Proofs.YtojdngkleiokgaaGreat
