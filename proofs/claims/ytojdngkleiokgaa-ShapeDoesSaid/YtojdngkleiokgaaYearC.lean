/- The periods of a year by months are civil months: the plain law. The last period ends with the year: the plain law. -/
import Derived.Test.YtojdngkleiokgaaShapeW
namespace Go.Proofs.Ytojdngkleiokgaa
open Go.RowKit Qd
set_option linter.unusedSimpArgs false
set_option linter.unusedVariables false

theorem month_end (c : Cal) (y : Int) (hE : askE c y 1601 = 0) (hk6 : c.kind = 6) (j : Nat) (hj : j < 12) : endAt c y j = mFirst (mOf c y + j + 1) - 1 := by
  obtain ⟨hok, hy1, hy2⟩ := ask_ok hE
  obtain ⟨hm, hs, _, _⟩ := ok_rule hok
  have h5 := (ok_shape hok).2.1.1 hk6
  have eL : endsL c y = monL (startV c y) := by simp [endsL, h5]
  have b1 : 19200 ≤ mOf c y ∧ mOf c y + 12 < 120000 := by unfold mOf; omega
  unfold endAt
  rw [eL, start_mFirst c y hE hk6]
  have := monS_mFirst (mOf c y) b1.1 (j + 1) (by omega)
  simp [monL, monF, hj, this]
  congr 1
  omega
theorem month_from (c : Cal) (y : Int) (hE : askE c y 1601 = 0) (hk6 : c.kind = 6) (k : Nat) (hk : k < 12) : fromAt c y k = mFirst (mOf c y + k) := by
  cases k with
  | zero => simp [fromAt, start_mFirst c y hE hk6]
  | succ k =>
    rw [from_succ, month_end c y hE hk6 k (by omega)]
    have e1 : mOf c y + ((k + 1 : Nat) : Int) = mOf c y + k + 1 := by omega
    rw [e1]
    omega
/-- The date of a month's last day; how many weeks the month has. -/
theorem month_date (c : Cal) (y : Int) (hE : askE c y 1601 = 0) (hk6 : c.kind = 6) (k : Nat) (hk : k < 12) :
    isB (endAt c y k) = true ∧ ofY (endAt c y k) = (mOf c y + k) / 12 ∧ ofM (endAt c y k) = (c.month + k) % 12 + 1 ∧
    thereB (ofY (endAt c y k)) (ofM (endAt c y k)) = true ∧ ofD (endAt c y k) = lenV (ofY (endAt c y k)) (ofM (endAt c y k)) ∧ wkAt c y k = (lenV (ofY (endAt c y k)) (ofM (endAt c y k)) + 6) / 7 := by
  obtain ⟨hok, hy1, hy2⟩ := ask_ok hE
  obtain ⟨hm, hs, _, _⟩ := ok_rule hok
  have b1 : 19200 ≤ mOf c y ∧ mOf c y + 12 < 120000 := by unfold mOf; omega
  have ht := mFirst_there (mOf c y + k) (by omega) (by omega)
  have e1 := month_end c y hE hk6 k hk
  have e2 := mFirst_succ (mOf c y + k) (by omega) (by omega)
  have ed : endAt c y k = dayN ((mOf c y + k) / 12) ((mOf c y + k) % 12 + 1) (lenV ((mOf c y + k) / 12) ((mOf c y + k) % 12 + 1)) := by
    rw [e1, ← e2]
    unfold mFirst dayN
    omega
  have hd := end_date _ _ ht
  have ho := of_dayN hd
  have hb := dayN_bd hd
  have ew : wkAt c y k = (lenV ((mOf c y + k) / 12) ((mOf c y + k) % 12 + 1) - 1) / 7 + 1 := by
    unfold wkAt
    rw [month_from c y hE hk6 k hk, e1, ← e2]
    congr 2
    omega
  have em : (mOf c y + k) % 12 = (c.month + k) % 12 := by unfold mOf; omega
  rw [ed, ho.1, ho.2.1, ho.2.2]
  refine ⟨hb, rfl, by rw [em], ht, rfl, ?_⟩
  rw [ew]
  omega
end Go.Proofs.Ytojdngkleiokgaa

namespace Go.Proofs.Ytojdngkleiokgaa
open Go.RowKit Qd
set_option linter.unusedSimpArgs false
set_option linter.unusedVariables false

theorem last_end (c : Cal) (y : Int) (hE : askE c y 1601 = 0) : fromAt c y (endsL c y).length = endV c y + 1 ∧ 12 ≤ (endsL c y).length ∧ (endsL c y).length ≤ 52 := by
  obtain ⟨hok, hy1, hy2⟩ := ask_ok hE
  have hok2 : c.okB = true := by simpa [Cal.okB] using hok
  have hlen := ends_len c y hok2
  have hpb := per_bounds c hok2
  obtain ⟨s4, s6, _, _⟩ := ok_shape hok
  refine ⟨?_, by omega, by omega⟩
  by_cases h4 : c.shape = 4
  · have hk4 : c.kind = 4 := s4.2 h4
    have eL : endsL c y = sunL y := by simp [endsL, h4]
    have e12 : (endsL c y).length = 11 + 1 := by rw [eL, sun_len]
    rw [e12, from_succ]
    have eA : endAt c y 11 = lastV y 12 7 := by unfold endAt; rw [eL]; simp [sunL, sunF]
    obtain ⟨_, _, _, hr⟩ := hok
    unfold Cal.ruled Cal.weeks weeksP Cal.pat0 at hr
    have hm : c.month = 12 ∧ c.day = 7 ∧ c.shift = 0 := by omega
    have ht : thereB y 12 = true := by simp [thereB]; omega
    rw [eA, last_eq y 12 ht]
    simp [endV, ask_mono hE, finV, hk4, hm.1, hm.2.1, hm.2.2]
  · by_cases h5 : c.shape = 5
    · have hk6 : c.kind = 6 := s6.2 h5
      have eL : endsL c y = monL (startV c y) := by simp [endsL, h5]
      have e12 : (endsL c y).length = 11 + 1 := by rw [eL, mon_len]
      rw [e12, from_succ, month_end c y hE hk6 11 (by omega), end_mFirst c y (ask_mono hE) hk6]
      congr 3
      omega
    · have eL : endsL c y = (List.range (perV c).toNat).map fun i => wkDay c y (i + 1) - 1 := by simp [endsL, h4, h5]
      have hw := wkDay_end c y hE h4 h5
      obtain ⟨n, hn⟩ : ∃ n : Nat, (perV c).toNat = n + 1 := ⟨(perV c).toNat - 1, by omega⟩
      have e12 : (endsL c y).length = n + 1 := by rw [eL]; simp [hn]
      rw [e12, from_succ]
      rw [hn] at hw
      have eA : endAt c y n = wkDay c y (n + 1) - 1 := by
        unfold endAt
        rw [eL]
        simp [hn]
      rw [eA, hw]
      omega
end Go.Proofs.Ytojdngkleiokgaa
