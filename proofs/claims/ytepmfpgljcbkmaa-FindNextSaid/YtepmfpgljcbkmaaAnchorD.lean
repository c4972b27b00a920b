/- Contracts of anchor: Days, Weeks; how long years are. -/
import Derived.Test.YtepmfpgljcbkmaaAnchorC
namespace Go.Proofs.Ytepmfpgljcbkmaa
open Go.RowKit Qd
set_option linter.unusedSimpArgs false
set_option linter.unusedVariables false

theorem endN_eq (y m : Int) (h : thereB y m = true) : endN y m = yearsV y + aheadV y (m + 1) - 1 := by
  have hl : lenV y m = aheadV y (m + 1) - aheadV y m := by unfold lenV; rw [if_pos h]
  unfold endN dayN
  omega
/-- A year ends 357 to 374 days behind the one ahead. -/
theorem ahead_next (y y' m : Int) : aheadV y m - 1 ≤ aheadV y' m ∧ aheadV y' m ≤ aheadV y m + 1 := by
  unfold aheadV
  split <;> split <;> omega
theorem endN_next (y m : Int) (h : thereB y m = true) (hy : y ≤ 9998) : endN y m + 364 ≤ endN (y + 1) m ∧ endN (y + 1) m ≤ endN y m + 367 := by
  have ht : 1600 ≤ y ∧ y ≤ 9999 ∧ 1 ≤ m ∧ m ≤ 12 := by simpa [thereB] using h
  have h2 : thereB (y + 1) m = true := by simp [thereB]; omega
  rw [endN_eq y m h, endN_eq (y + 1) m h2]
  have e1 := years_succ y (by omega) (by omega)
  have e2 := ahead_next y (y + 1) (m + 1)
  split at e1 <;> omega
theorem fin_next (c : Cal) (z : Int) (hok : c.Ok) (ht : thereB z c.month = true) (hz : z ≤ 9998) : finV c z + 358 ≤ finV c (z + 1) ∧ finV c (z + 1) ≤ finV c z + 373 := by
  have e := endN_next z c.month ht hz
  obtain ⟨hm, hs, hk, hd⟩ := ok_rule hok
  have w1 := endW_bd z c.month
  have w2 := endW_bd (z + 1) c.month
  unfold finV nearD
  split
  · omega
  · split <;> omega
/-- A year of weeks ends on its weekday. -/
theorem fin_day (c : Cal) (z : Int) (hok : c.Ok) (hk6 : c.kind ≠ 6) : (finV c z + 5) % 7 + 1 = c.day := by
  obtain ⟨hm, hs, hk, hd⟩ := ok_rule hok
  have hd2 := hd hk6
  unfold finV
  split
  · unfold endW; omega
  · unfold nearD endW; omega
theorem ask_mono {c : Cal} {y : Int} (h : askE c y 1601 = 0) : askE c y 1600 = 0 := by
  obtain ⟨hok, h1, h2⟩ := ask_ok h
  have : c.okB = true := by simpa [Cal.okB] using hok
  simp [askE, this]
  omega
theorem ask_there {c : Cal} {y a : Int} (h : askE c y a = 0) (ha : 1600 ≤ a) : thereB (y + c.shift) c.month = true := by
  obtain ⟨hok, h1, h2⟩ := ask_ok h
  obtain ⟨hm, hs, hk, hd⟩ := ok_rule hok
  simp [thereB]
  omega
theorem ask_there1 {c : Cal} {y : Int} (h : askE c y 1601 = 0) : thereB (y - 1 + c.shift) c.month = true := by
  obtain ⟨hok, h1, h2⟩ := ask_ok h
  obtain ⟨hm, hs, hk, hd⟩ := ok_rule hok
  simp [thereB]
  omega

/-- How long a year is; 0, if it is not told. -/
def daysV (c : Cal) (y : Int) : Int := if askE c y 1601 = 0 then endV c y - startV c y + 1 else 0
theorem year_bd (c : Cal) (y : Int) (h : askE c y 1601 = 0) : 0 ≤ startV c y ∧ startV c y ≤ 3068037 ∧ 0 ≤ endV c y ∧ endV c y ≤ 3068037 ∧ 358 ≤ daysV c y ∧ daysV c y ≤ 373 := by
  obtain ⟨hok, h1, h2⟩ := ask_ok h
  obtain ⟨hm, hs, hk, hd⟩ := ok_rule hok
  have t1 := ask_there1 h
  have t2 := ask_there h (by omega)
  have b1 := fin_bd c (y - 1 + c.shift) hok t1 (by omega)
  have b2 := fin_bd c (y + c.shift) hok t2 (by omega)
  have hn := fin_next c (y - 1 + c.shift) hok t1 (by omega)
  have e : y - 1 + c.shift + 1 = y + c.shift := by omega
  rw [e] at hn
  have eS : startV c y = finV c (y - 1 + c.shift) + 1 := by simp [startV, h]
  have eE : endV c y = finV c (y + c.shift) := by simp [endV, ask_mono h]
  have eD : daysV c y = endV c y - startV c y + 1 := by simp [daysV, h]
  rw [eD, eS, eE]
  have hlo := end_lo _ _ t1
  have hhi := end_hi _ _ t1 (by omega)
  have hw := endW_bd (y - 1 + c.shift) c.month
  have b3 : finV c (y - 1 + c.shift) + 1 ≤ 3068037 := by
    unfold finV nearD
    split
    · omega
    · split <;> omega
  omega
/-- A year of weeks has 364 days, or 371. -/
theorem days_weeks (c : Cal) (y : Int) (h : askE c y 1601 = 0) (hk6 : c.kind ≠ 6) : daysV c y = 364 ∨ daysV c y = 371 := by
  obtain ⟨hok, h1, h2⟩ := ask_ok h
  have hb := year_bd c y h
  have f1 := fin_day c (y - 1 + c.shift) hok hk6
  have f2 := fin_day c (y + c.shift) hok hk6
  have eS : startV c y = finV c (y - 1 + c.shift) + 1 := by simp [startV, h]
  have eE : endV c y = finV c (y + c.shift) := by simp [endV, ask_mono h]
  have eD : daysV c y = endV c y - startV c y + 1 := by simp [daysV, h]
  omega

set_option maxRecDepth 100000 in
set_option maxHeartbeats 1600000 in
theorem days_any (c : Cal) (y : Int) (w : World) (hn : c.name.size ≤ 1000) :
    Calls Try.prog 86 #[calV c, .int .i64 y] w fun e w' => e = .returned (.tuple #[.int .i64 (daysV c y), .int .i64 (askE c y 1601)]) ∧ Below w.heap.size w w' := by
  by_cases hE : askE c y 1601 = 0
  · have hE2 := ask_mono hE
    have hb := year_bd c y hE
    have H1 := hide (show daysV c y = endV c y - startV c y + 1 by simp [daysV, hE])
    have H2 := hide hE
    have H3 := hide hE2
    clear hE hE2
    simp only [calV]
    go_enter Try.func86, Try.ntmps86
    go_wp2_with fail
    refine (start_any c _ _ hn).mono ?_
    rintro e w1 ⟨rfl, hb1⟩
    have hz1 : w.heap.size < w1.heap.size := by have := hb1.size; simp at this; omega
    have HB1 := hide (Below.trans ((Below.refl _ _).alloc (Nat.le_refl _) _) (hb1.mono (by simp)) : Below w.heap.size w w1)
    have HQ := hide (calAt_below hb1 (by simp) (calAt_new w c))
    obtain ⟨q0, q1, q2, q3, q4, q5, q6, q7, q8, q9, q10, q11, q12, q13⟩ := HQ.out
    clear hb1
    rw [H2.out]
    go_wp2_with fail
    refine (end_any c _ _ hn).mono ?_
    rintro e w2 ⟨rfl, hb2⟩
    rw [H3.out]
    clear q0 q1 q2 q3 q4 q5 q6 q7 q8 q9 q10 q11 q12 q13
    go_wp2
    go_ret2
    exact ⟨ret_int2 H1.out.symm H2.out.symm, HB1.out.trans (hb2.mono (Nat.le_of_lt hz1))⟩
  · have hE' : (askE c y 1601 != 0) = true := by simpa using hE
    have H1 := hide (show daysV c y = 0 by simp [daysV, hE])
    clear hE
    simp only [calV]
    go_enter Try.func86, Try.ntmps86
    go_wp2_with fail
    refine (start_any c _ _ hn).mono ?_
    rintro e w1 ⟨rfl, hb1⟩
    go_wp2
    go_ret2
    exact ⟨ret_int2 H1.out.symm rfl, ((Below.refl _ _).alloc (Nat.le_refl _) _).trans (hb1.mono (by simp))⟩

def wksB (c : Cal) : Bool := c.okB && decide (c.kind ≠ 6)
def wksV (c : Cal) (y : Int) : Int := if wksB c then daysV c y / 7 else 0
def wksE (c : Cal) (y : Int) : Int := if wksB c then askE c y 1601 else 1
theorem days_nn (c : Cal) (y : Int) : 0 ≤ daysV c y ∧ daysV c y ≤ 380 := by
  by_cases h : askE c y 1601 = 0
  · have := year_bd c y h; omega
  · simp [daysV, h]

set_option maxRecDepth 100000 in
set_option maxHeartbeats 1600000 in
theorem aweeks_any (c : Cal) (y : Int) (w : World) (hn : c.name.size ≤ 1000) :
    Calls Try.prog 65 #[calV c, .int .i64 y] w fun e w' => e = .returned (.tuple #[.int .i64 (wksV c y), .int .i64 (wksE c y)]) ∧ Below w.heap.size w w' := by
  have hnn := days_nn c y
  cases hk : c.okB
  · have hE : okE c = 1 := by simp [okE, hk]
    have H1 := hide (show wksV c y = 0 by simp [wksV, wksB, hk])
    have H2 := hide (show wksE c y = 1 by simp [wksE, wksB, hk])
    simp only [calV]
    go_enter Try.func65, Try.ntmps65
    go_wp2_with fail
    refine (check_any c _ hn).mono ?_
    rintro e w1 ⟨rfl, hb1⟩
    rw [hE]
    go_wp2
    go_ret2
    exact ⟨ret_int2 H1.out.symm H2.out.symm, ((Below.refl _ _).alloc (Nat.le_refl _) _).trans (hb1.mono (by simp))⟩
  · have hE : okE c = 0 := by simp [okE, hk]
    by_cases hk6 : c.kind = 6
    · have H1 := hide (show wksV c y = 0 by simp [wksV, wksB, hk6])
      have H2 := hide (show wksE c y = 1 by simp [wksE, wksB, hk6])
      have hk6' : (c.kind == 6) = true := by simp [hk6]
      clear hk6
      simp only [calV]
      go_enter Try.func65, Try.ntmps65
      go_wp2_with fail
      refine (check_any c _ hn).mono ?_
      rintro e w1 ⟨rfl, hb1⟩
      rw [hE]
      have HQ := hide (calAt_below hb1 (by simp) (calAt_new w c))
      obtain ⟨q0, q1, q2, q3, q4, q5, q6, q7, q8, q9, q10, q11, q12, q13⟩ := HQ.out
      go_wp2
      go_ret2
      exact ⟨ret_int2 H1.out.symm H2.out.symm, ((Below.refl _ _).alloc (Nat.le_refl _) _).trans (hb1.mono (by simp))⟩
    · have H1 := hide (show wksV c y = daysV c y / 7 by simp [wksV, wksB, hk, hk6])
      have H2 := hide (show wksE c y = askE c y 1601 by simp [wksE, wksB, hk, hk6])
      have hk6' : (c.kind == 6) = false := by simp [hk6]
      clear hk6
      simp only [calV]
      go_enter Try.func65, Try.ntmps65
      go_wp2_with fail
      refine (check_any c _ hn).mono ?_
      rintro e w1 ⟨rfl, hb1⟩
      rw [hE]
      have hz1 : w.heap.size < w1.heap.size := by have := hb1.size; simp at this; omega
      have HB1 := hide (Below.trans ((Below.refl _ _).alloc (Nat.le_refl _) _) (hb1.mono (by simp)) : Below w.heap.size w w1)
      have HQ := hide (calAt_below hb1 (by simp) (calAt_new w c))
      obtain ⟨q0, q1, q2, q3, q4, q5, q6, q7, q8, q9, q10, q11, q12, q13⟩ := HQ.out
      clear hb1
      go_wp2_with fail
      refine (days_any c _ _ hn).mono ?_
      rintro e w2 ⟨rfl, hb2⟩
      clear q0 q1 q2 q3 q4 q5 q6 q7 q8 q9 q10 q11 q12 q13
      go_wp2
      go_ret2
      exact ⟨ret_int2 H1.out.symm H2.out.symm, HB1.out.trans (hb2.mono (Nat.le_of_lt hz1))⟩
end Go.Proofs.Ytepmfpgljcbkmaa
