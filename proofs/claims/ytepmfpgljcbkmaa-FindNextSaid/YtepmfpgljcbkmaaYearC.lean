/- The periods of a year by months are civil months: the plain law. -/
import Derived.Test.YtepmfpgljcbkmaaShapeW
namespace Go.Proofs.Ytepmfpgljcbkmaa
open Go.RowKit Qd
set_option linter.unusedSimpArgs false
set_option linter.unusedVariables false

theorem month_end (c : Cal) (y : Int) (hE : askE c y 1601 = 0) (hk6 : c.kind = 6) (j : Nat) (hj : j < 12) : endAt c y j = mFirst (mOf c y + j + 1) - 1 := by
  obtain ⟨hok, hy1, hy2⟩ := ask_ok hE
  obtain ⟨hm, hs, _, _⟩ := ok_rule hok
  have h5 := (ok_shape hok).2.1.1 hk6
  have eL : endsL c y = monL (startV c y) := by simp [endsL, h5]
  have b1 : 19200 ≤ mOf c y ∧ mOf c y + 12 < 120000 := by unfold mOf; omega
  unfold endAt
  rw [eL, start_mFirst c y hE hk6]
  have := monS_mFirst (mOf c y) b1.1 (j + 1) (by omega)
  simp [monL, monF, hj, this]
  congr 1
  omega
theorem month_from (c : Cal) (y : Int) (hE : askE c y 1601 = 0) (hk6 : c.kind = 6) (k : Nat) (hk : k < 12) : fromAt c y k = mFirst (mOf c y + k) := by
  cases k with
  | zero => simp [fromAt, start_mFirst c y hE hk6]
  | succ k =>
    rw [from_succ, month_end c y hE hk6 k (by omega)]
    have e1 : mOf c y + ((k + 1 : Nat) : Int) = mOf c y + k + 1 := by omega
    rw [e1]
    omega
/-- The date of a month's last day; how many weeks the month has. -/
theorem month_date (c : Cal) (y : Int) (hE : askE c y 1601 = 0) (hk6 : c.kind = 6) (k : Nat) (hk : k < 12) :
    isB (endAt c y k) = true ∧ ofY (endAt c y k) = (mOf c y + k) / 12 ∧ ofM (endAt c y k) = (c.month + k) % 12 + 1 ∧
    thereB (ofY (endAt c y k)) (ofM (endAt c y k)) = true ∧ ofD (endAt c y k) = lenV (ofY (endAt c y k)) (ofM (endAt c y k)) ∧ wkAt c y k = (lenV (ofY (endAt c y k)) (ofM (endAt c y k)) + 6) / 7 := by
  obtain ⟨hok, hy1, hy2⟩ := ask_ok hE
  obtain ⟨hm, hs, _, _⟩ := ok_rule hok
  have b1 : 19200 ≤ mOf c y ∧ mOf c y + 12 < 120000 := by unfold mOf; omega
  have ht := mFirst_there (mOf c y + k) (by omega) (by omega)
  have e1 := month_end c y hE hk6 k hk
  have e2 := mFirst_succ (mOf c y + k) (by omega) (by omega)
  have ed : endAt c y k = dayN ((mOf c y + k) / 12) ((mOf c y + k) % 12 + 1) (lenV ((mOf c y + k) / 12) ((mOf c y + k) % 12 + 1)) := by
    rw [e1, ← e2]
    unfold mFirst dayN
    omega
  have hd := end_date _ _ ht
  have ho := of_dayN hd
  have hb := dayN_bd hd
  have ew : wkAt c y k = (lenV ((mOf c y + k) / 12) ((mOf c y + k) % 12 + 1) - 1) / 7 + 1 := by
    unfold wkAt
    rw [month_from c y hE hk6 k hk, e1, ← e2]
    congr 2
    omega
  have em : (mOf c y + k) % 12 = (c.month + k) % 12 := by unfold mOf; omega
  rw [ed, ho.1, ho.2.1, ho.2.2]
  refine ⟨hb, rfl, by rw [em], ht, rfl, ?_⟩
  rw [ew]
  omega
end Go.Proofs.Ytepmfpgljcbkmaa
