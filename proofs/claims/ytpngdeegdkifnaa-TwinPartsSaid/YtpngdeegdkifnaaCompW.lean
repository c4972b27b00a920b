/- Contracts of comp.Week: its three policies. -/
import Derived.Test.YtpngdeegdkifnaaCompB
namespace Go.Proofs.Ytpngdeegdkifnaa
open Go.RowKit Qd
set_option linter.unusedSimpArgs false
set_option linter.unusedVariables false

/-- The calendar, and the pair. -/
def WkSt (c : Cal) (B P : Nat) (a b s t : Int) (w : World) : Prop := CalAt w B c ∧ B < w.heap.size ∧ BlkIs w P #[.int .i64 a, .int .i64 b, .int .i64 s, .int .i64 t] 87
theorem WkSt.call {c : Cal} {B P : Nat} {a b s t : Int} {w w' : World} (h : WkSt c B P a b s t w) (hb : Below w.heap.size w w') : WkSt c B P a b s t w' :=
  ⟨calAt_below hb h.2.1 h.1, Nat.lt_of_lt_of_le h.2.1 hb.size, h.2.2.call hb⟩
theorem WkSt.drew {c : Cal} {B P : Nat} {a b s t : Int} {w : World} (h : WkSt c B P a b s t w) : WkSt c B P a b s t w.drew := h
theorem WkSt.load {c : Cal} {B P : Nat} {a b s t : Int} {w : World} (h : WkSt c B P a b s t w) : w.cell? ⟨B, 13, none⟩ = some (.int .i64 c.policy) ∧ w.cell? ⟨P, 0, none⟩ = some (.int .i64 a) ∧ w.cell? ⟨P, 1, none⟩ = some (.int .i64 b) ∧ w.cell? ⟨P, 2, none⟩ = some (.int .i64 s) ∧ w.cell? ⟨P, 3, none⟩ = some (.int .i64 t) :=
  ⟨h.1.2.2.2.2.2.2.2.2.2.2.2.2.2, h.2.2.cell 0, h.2.2.cell 1, h.2.2.cell 2, h.2.2.cell 3⟩

set_option maxRecDepth 100000 in
set_option maxHeartbeats 3200000 in
theorem cpweek_1 (c : Cal) (y t x : Int) (w : World) (hn : c.name.size ≤ 1000) (hk : c.okB = true) (hk6 : c.kind ≠ 6) (hy : srv c y) (ht : srv c t) (hx : 1 ≤ x ∧ x ≤ wksV c y) (hp : c.policy = 1) :
    Calls Try.prog 34 #[calV c, .int .i64 y, .int .i64 t, .int .i64 x] w fun e w' => e = .returned (.tuple #[.int .i64 x, .int .i64 0]) ∧ Below w.heap.size w w' := by
  have HO := hide (show okE c = 0 by simp [okE, hk])
  have hkb : (c.kind == 6) = false := by simpa using hk6
  have HY := hide (show decide (c.first ≤ y ∧ y ≤ c.last) = true by simpa using hy)
  have HT := hide (show decide (c.first ≤ t ∧ t ≤ c.last) = true by simpa using ht)
  obtain ⟨wy, _, wy2⟩ := wks_srv hk hk6 hy
  obtain ⟨wt, _, wt2⟩ := wks_srv hk hk6 ht
  have hay := added_bd hk hk6 hy
  have hat := added_bd hk hk6 ht
  have WY := hide wy
  have WT := hide wt
  obtain ⟨ny, hny⟩ : ∃ n, n = wksV c y := ⟨_, rfl⟩
  obtain ⟨nt, hnt⟩ : ∃ n, n = wksV c t := ⟨_, rfl⟩
  obtain ⟨ay, hay'⟩ : ∃ n, n = addedV c y := ⟨_, rfl⟩
  obtain ⟨ta, hat'⟩ : ∃ n, n = addedV c t := ⟨_, rfl⟩
  rw [← hny] at wy2 hay hx
  rw [← hnt] at wt2 hat
  rw [← hay'] at hay
  rw [← hat'] at hat
  have HNY := hide hny
  have HNT := hide hnt
  have HAY := hide hay'
  have HAT := hide hat'
  have hb1 : 0 ≤ ay ∧ ay ≤ 53 ∧ 0 ≤ ta ∧ ta ≤ 53 ∧ 52 ≤ ny ∧ ny ≤ 53 ∧ 52 ≤ nt ∧ nt ≤ 53 := by omega
  clear hk hk6 hy ht wy wt wy2 wt2 hay hat hny hnt hay' hat'
  obtain ⟨hx1, hx2⟩ := hx
  have HP := hide hp
  clear hp
  simp only [calV]
  go_enter Try.func34, Try.ntmps34
  go_wp2_with fail
  refine (check_any c _ hn).mono ?_
  rintro e w1 ⟨rfl, hb1⟩
  rw [HO.out]
  have hz1 : w.heap.size < w1.heap.size := by have := hb1.size; simp at this; omega
  have HB1 := hide (show Below w.heap.size w w1 by refine Below.trans ?_ (hb1.mono (by simp)); (repeat' (first | (with_reducible exact Below.refl _ _) | (with_reducible assumption) | (with_reducible refine Below.alloc ?_ ?_ _) | (with_reducible refine below_drewN ?_ _) | (with_reducible refine Below.drew ?_) | (with_reducible refine Below.setCell ?_ ?_ _) | (with_reducible refine Below.trans ?_ (Below.mono (by assumption) ?_)) | go_size | (simp at *; omega))))
  have HQ1 := hide (calAt_below hb1 (by simp) (calAt_new w c))
  obtain ⟨q0, q1, q2, q3, q4, q5, q6, q7, q8, q9, q10, q11, q12, q13⟩ := HQ1.out
  clear hb1
  go_wp2_with fail
  refine (served2_any c y _).mono ?_
  rintro e w2 ⟨rfl, hb2⟩
  rw [HY.out]
  have hz2 : w.heap.size < w2.heap.size := Nat.lt_of_lt_of_le hz1 hb2.size
  have HB2 := hide (HB1.out.trans (hb2.mono (Nat.le_of_lt hz1)))
  have HQ2 := hide (calAt_below hb2 hz1 HQ1.out)
  clear q0 q1 q2 q3 q4 q5 q6 q7 q8 q9 q10 q11 q12 q13
  obtain ⟨q0, q1, q2, q3, q4, q5, q6, q7, q8, q9, q10, q11, q12, q13⟩ := HQ2.out
  clear hb2
  go_wp2_with fail
  refine (served2_any c t _).mono ?_
  rintro e w3 ⟨rfl, hb3⟩
  rw [HT.out]
  have hz3 : w.heap.size < w3.heap.size := Nat.lt_of_lt_of_le hz2 hb3.size
  have HB3 := hide (HB2.out.trans (hb3.mono (Nat.le_of_lt hz2)))
  have HQ3 := hide (calAt_below hb3 hz2 HQ2.out)
  clear q0 q1 q2 q3 q4 q5 q6 q7 q8 q9 q10 q11 q12 q13
  obtain ⟨q0, q1, q2, q3, q4, q5, q6, q7, q8, q9, q10, q11, q12, q13⟩ := HQ3.out
  clear hb3
  go_wp2_with fail
  refine (paired_ok c y t _ hn WY.out WT.out).mono ?_
  rintro e w4 ⟨rfl, hb4⟩
  simp only [prV]
  rw [← HNY.out, ← HNT.out, ← HAY.out, ← HAT.out]
  have hz4 : w.heap.size < w4.heap.size := Nat.lt_of_lt_of_le hz3 hb4.size
  have HB4 := hide (HB3.out.trans (hb4.mono (Nat.le_of_lt hz3)))
  have HQ4 := hide (calAt_below hb4 hz3 HQ3.out)
  clear q0 q1 q2 q3 q4 q5 q6 q7 q8 q9 q10 q11 q12 q13
  obtain ⟨q0, q1, q2, q3, q4, q5, q6, q7, q8, q9, q10, q11, q12, q13⟩ := HQ4.out
  clear hb4
  have HD := hide (show WkSt c w.heap.size w4.heap.size ny nt ay ta (w4.alloc (.cells #[.int .i64 ny, .int .i64 nt, .int .i64 ay, .int .i64 ta] 87)) from ⟨calAt_alloc HQ4.out hz4 _, by simp; omega, BlkIs.new w4 _ _⟩)
  have HW1 := hide (show Below w.heap.size w (w4.alloc (.cells #[.int .i64 ny, .int .i64 nt, .int .i64 ay, .int .i64 ta] 87)) from HB4.out.alloc (by omega) _)
  go_wp2_with fail
  all_goals first
    | (exfalso; omega)
    | skip
  obtain ⟨P, hP⟩ : ∃ P, P = w4.heap.size := ⟨_, rfl⟩
  rw [← hP] at HD ⊢
  generalize w4.alloc (.cells #[.int .i64 ny, .int .i64 nt, .int .i64 ay, .int .i64 ta] 87) = W at *
  clear q0 q1 q2 q3 q4 q5 q6 q7 q8 q9 q10 q11 q12 q13
  obtain ⟨k0, k1, k2, k3, k4⟩ := HD.out.load
  rw [HP.out] at k0
  have hzW : w.heap.size ≤ W.heap.size := HW1.out.size
  clear hP HB1 HB2 HB3 HB4 HQ1 HQ2 HQ3 HQ4 hz1 hz2 hz3 hz4
  go_region_with (first
    | (go_at_call 58; refine (policies_any2 _).mono ?_; rintro e w5 ⟨⟨M, rfl, hM⟩, hb5⟩; have HD2 := hide (HD.out.drew.call (by exact hb5)); have HW2 := hide (HW1.out.drew.trans (hb5.mono (by exact hzW)) : Below w.heap.size w w5); obtain ⟨m0, m1, m2, m3, m4⟩ := HD2.out.load; rw [HP.out] at m0; have hz5 : w.heap.size ≤ w5.heap.size := HW2.out.size; have hlook := run_look w5 M polEs 3 1 0 (.func (.func 80) #[] #[]) hM rfl; clear hb5 hM)
    | (go_at_call 80; refine (pol1_any ny nt ay ta x _).mono ?_; rintro e w6 ⟨rfl, hb6⟩; have HW3 := hide (HW2.out.trans (hb6.mono (by exact hz5)) : Below w.heap.size w w6); clear hb6))
  all_goals
    go_simp
    go_wp2
    go_ret2
    exact ⟨rfl, HW3.out⟩

set_option maxRecDepth 100000 in
set_option maxHeartbeats 3200000 in
theorem cpweek_2 (c : Cal) (y t x : Int) (w : World) (hn : c.name.size ≤ 1000) (hk : c.okB = true) (hk6 : c.kind ≠ 6) (hy : srv c y) (ht : srv c t) (hx : 1 ≤ x ∧ x ≤ wksV c y) (hp : c.policy = 2) :
    Calls Try.prog 34 #[calV c, .int .i64 y, .int .i64 t, .int .i64 x] w fun e w' => e = .returned (.tuple #[.int .i64 (x + wksV c t - wksV c y), .int .i64 0]) ∧ Below w.heap.size w w' := by
  rw [show (x + wksV c t - wksV c y) = x + wksV c t - wksV c y from rfl]
  have HO := hide (show okE c = 0 by simp [okE, hk])
  have hkb : (c.kind == 6) = false := by simpa using hk6
  have HY := hide (show decide (c.first ≤ y ∧ y ≤ c.last) = true by simpa using hy)
  have HT := hide (show decide (c.first ≤ t ∧ t ≤ c.last) = true by simpa using ht)
  obtain ⟨wy, _, wy2⟩ := wks_srv hk hk6 hy
  obtain ⟨wt, _, wt2⟩ := wks_srv hk hk6 ht
  have hay := added_bd hk hk6 hy
  have hat := added_bd hk hk6 ht
  have WY := hide wy
  have WT := hide wt
  obtain ⟨ny, hny⟩ : ∃ n, n = wksV c y := ⟨_, rfl⟩
  obtain ⟨nt, hnt⟩ : ∃ n, n = wksV c t := ⟨_, rfl⟩
  obtain ⟨ay, hay'⟩ : ∃ n, n = addedV c y := ⟨_, rfl⟩
  obtain ⟨ta, hat'⟩ : ∃ n, n = addedV c t := ⟨_, rfl⟩
  rw [← hny] at wy2 hay hx
  rw [← hnt] at wt2 hat
  rw [← hay'] at hay
  rw [← hat'] at hat
  have HNY := hide hny
  have HNT := hide hnt
  have HAY := hide hay'
  have HAT := hide hat'
  have hb1 : 0 ≤ ay ∧ ay ≤ 53 ∧ 0 ≤ ta ∧ ta ≤ 53 ∧ 52 ≤ ny ∧ ny ≤ 53 ∧ 52 ≤ nt ∧ nt ≤ 53 := by omega
  clear hk hk6 hy ht wy wt wy2 wt2 hay hat hny hnt hay' hat'
  obtain ⟨hx1, hx2⟩ := hx
  have HP := hide hp
  clear hp
  rw [← HNT.out, ← HNY.out]
  simp only [calV]
  go_enter Try.func34, Try.ntmps34
  go_wp2_with fail
  refine (check_any c _ hn).mono ?_
  rintro e w1 ⟨rfl, hb1⟩
  rw [HO.out]
  have hz1 : w.heap.size < w1.heap.size := by have := hb1.size; simp at this; omega
  have HB1 := hide (show Below w.heap.size w w1 by refine Below.trans ?_ (hb1.mono (by simp)); (repeat' (first | (with_reducible exact Below.refl _ _) | (with_reducible assumption) | (with_reducible refine Below.alloc ?_ ?_ _) | (with_reducible refine below_drewN ?_ _) | (with_reducible refine Below.drew ?_) | (with_reducible refine Below.setCell ?_ ?_ _) | (with_reducible refine Below.trans ?_ (Below.mono (by assumption) ?_)) | go_size | (simp at *; omega))))
  have HQ1 := hide (calAt_below hb1 (by simp) (calAt_new w c))
  obtain ⟨q0, q1, q2, q3, q4, q5, q6, q7, q8, q9, q10, q11, q12, q13⟩ := HQ1.out
  clear hb1
  go_wp2_with fail
  refine (served2_any c y _).mono ?_
  rintro e w2 ⟨rfl, hb2⟩
  rw [HY.out]
  have hz2 : w.heap.size < w2.heap.size := Nat.lt_of_lt_of_le hz1 hb2.size
  have HB2 := hide (HB1.out.trans (hb2.mono (Nat.le_of_lt hz1)))
  have HQ2 := hide (calAt_below hb2 hz1 HQ1.out)
  clear q0 q1 q2 q3 q4 q5 q6 q7 q8 q9 q10 q11 q12 q13
  obtain ⟨q0, q1, q2, q3, q4, q5, q6, q7, q8, q9, q10, q11, q12, q13⟩ := HQ2.out
  clear hb2
  go_wp2_with fail
  refine (served2_any c t _).mono ?_
  rintro e w3 ⟨rfl, hb3⟩
  rw [HT.out]
  have hz3 : w.heap.size < w3.heap.size := Nat.lt_of_lt_of_le hz2 hb3.size
  have HB3 := hide (HB2.out.trans (hb3.mono (Nat.le_of_lt hz2)))
  have HQ3 := hide (calAt_below hb3 hz2 HQ2.out)
  clear q0 q1 q2 q3 q4 q5 q6 q7 q8 q9 q10 q11 q12 q13
  obtain ⟨q0, q1, q2, q3, q4, q5, q6, q7, q8, q9, q10, q11, q12, q13⟩ := HQ3.out
  clear hb3
  go_wp2_with fail
  refine (paired_ok c y t _ hn WY.out WT.out).mono ?_
  rintro e w4 ⟨rfl, hb4⟩
  simp only [prV]
  rw [← HNY.out, ← HNT.out, ← HAY.out, ← HAT.out]
  have hz4 : w.heap.size < w4.heap.size := Nat.lt_of_lt_of_le hz3 hb4.size
  have HB4 := hide (HB3.out.trans (hb4.mono (Nat.le_of_lt hz3)))
  have HQ4 := hide (calAt_below hb4 hz3 HQ3.out)
  clear q0 q1 q2 q3 q4 q5 q6 q7 q8 q9 q10 q11 q12 q13
  obtain ⟨q0, q1, q2, q3, q4, q5, q6, q7, q8, q9, q10, q11, q12, q13⟩ := HQ4.out
  clear hb4
  have HD := hide (show WkSt c w.heap.size w4.heap.size ny nt ay ta (w4.alloc (.cells #[.int .i64 ny, .int .i64 nt, .int .i64 ay, .int .i64 ta] 87)) from ⟨calAt_alloc HQ4.out hz4 _, by simp; omega, BlkIs.new w4 _ _⟩)
  have HW1 := hide (show Below w.heap.size w (w4.alloc (.cells #[.int .i64 ny, .int .i64 nt, .int .i64 ay, .int .i64 ta] 87)) from HB4.out.alloc (by omega) _)
  go_wp2_with fail
  all_goals first
    | (exfalso; omega)
    | skip
  obtain ⟨P, hP⟩ : ∃ P, P = w4.heap.size := ⟨_, rfl⟩
  rw [← hP] at HD ⊢
  generalize w4.alloc (.cells #[.int .i64 ny, .int .i64 nt, .int .i64 ay, .int .i64 ta] 87) = W at *
  clear q0 q1 q2 q3 q4 q5 q6 q7 q8 q9 q10 q11 q12 q13
  obtain ⟨k0, k1, k2, k3, k4⟩ := HD.out.load
  rw [HP.out] at k0
  have hzW : w.heap.size ≤ W.heap.size := HW1.out.size
  clear hP HB1 HB2 HB3 HB4 HQ1 HQ2 HQ3 HQ4 hz1 hz2 hz3 hz4
  go_region_with (first
    | (go_at_call 58; refine (policies_any2 _).mono ?_; rintro e w5 ⟨⟨M, rfl, hM⟩, hb5⟩; have HD2 := hide (HD.out.drew.call (by exact hb5)); have HW2 := hide (HW1.out.drew.trans (hb5.mono (by exact hzW)) : Below w.heap.size w w5); obtain ⟨m0, m1, m2, m3, m4⟩ := HD2.out.load; rw [HP.out] at m0; have hz5 : w.heap.size ≤ w5.heap.size := HW2.out.size; have hlook := run_look w5 M polEs 3 2 1 (.func (.func 81) #[] #[]) hM rfl; clear hb5 hM)
    | (go_at_call 81; refine (pol2_any ny nt ay ta x _ (by omega) (by omega) (by omega)).mono ?_; rintro e w6 ⟨rfl, hb6⟩; have HW3 := hide (HW2.out.trans (hb6.mono (by exact hz5)) : Below w.heap.size w w6); clear hb6))
  all_goals
    go_simp
    go_wp2
    go_ret2
    exact ⟨rfl, HW3.out⟩

set_option maxRecDepth 100000 in
set_option maxHeartbeats 3200000 in
theorem cpweek_3 (c : Cal) (y t x : Int) (w : World) (hn : c.name.size ≤ 1000) (hk : c.okB = true) (hk6 : c.kind ≠ 6) (hy : srv c y) (ht : srv c t) (hx : 1 ≤ x ∧ x ≤ wksV c y) (hp : c.policy = 3) :
    Calls Try.prog 34 #[calV c, .int .i64 y, .int .i64 t, .int .i64 x] w fun e w' => e = .returned (.tuple #[.int .i64 (dropV (addedV c y) (addedV c t) x), .int .i64 (dropE (addedV c y) (addedV c t) x)]) ∧ Below w.heap.size w w' := by
  have HO := hide (show okE c = 0 by simp [okE, hk])
  have hkb : (c.kind == 6) = false := by simpa using hk6
  have HY := hide (show decide (c.first ≤ y ∧ y ≤ c.last) = true by simpa using hy)
  have HT := hide (show decide (c.first ≤ t ∧ t ≤ c.last) = true by simpa using ht)
  obtain ⟨wy, _, wy2⟩ := wks_srv hk hk6 hy
  obtain ⟨wt, _, wt2⟩ := wks_srv hk hk6 ht
  have hay := added_bd hk hk6 hy
  have hat := added_bd hk hk6 ht
  have WY := hide wy
  have WT := hide wt
  obtain ⟨ny, hny⟩ : ∃ n, n = wksV c y := ⟨_, rfl⟩
  obtain ⟨nt, hnt⟩ : ∃ n, n = wksV c t := ⟨_, rfl⟩
  obtain ⟨ay, hay'⟩ : ∃ n, n = addedV c y := ⟨_, rfl⟩
  obtain ⟨ta, hat'⟩ : ∃ n, n = addedV c t := ⟨_, rfl⟩
  rw [← hny] at wy2 hay hx
  rw [← hnt] at wt2 hat
  rw [← hay'] at hay
  rw [← hat'] at hat
  have HNY := hide hny
  have HNT := hide hnt
  have HAY := hide hay'
  have HAT := hide hat'
  have hb1 : 0 ≤ ay ∧ ay ≤ 53 ∧ 0 ≤ ta ∧ ta ≤ 53 ∧ 52 ≤ ny ∧ ny ≤ 53 ∧ 52 ≤ nt ∧ nt ≤ 53 := by omega
  clear hk hk6 hy ht wy wt wy2 wt2 hay hat hny hnt hay' hat'
  obtain ⟨hx1, hx2⟩ := hx
  have HP := hide hp
  clear hp
  rw [← HAY.out, ← HAT.out]
  simp only [calV]
  go_enter Try.func34, Try.ntmps34
  go_wp2_with fail
  refine (check_any c _ hn).mono ?_
  rintro e w1 ⟨rfl, hb1⟩
  rw [HO.out]
  have hz1 : w.heap.size < w1.heap.size := by have := hb1.size; simp at this; omega
  have HB1 := hide (show Below w.heap.size w w1 by refine Below.trans ?_ (hb1.mono (by simp)); (repeat' (first | (with_reducible exact Below.refl _ _) | (with_reducible assumption) | (with_reducible refine Below.alloc ?_ ?_ _) | (with_reducible refine below_drewN ?_ _) | (with_reducible refine Below.drew ?_) | (with_reducible refine Below.setCell ?_ ?_ _) | (with_reducible refine Below.trans ?_ (Below.mono (by assumption) ?_)) | go_size | (simp at *; omega))))
  have HQ1 := hide (calAt_below hb1 (by simp) (calAt_new w c))
  obtain ⟨q0, q1, q2, q3, q4, q5, q6, q7, q8, q9, q10, q11, q12, q13⟩ := HQ1.out
  clear hb1
  go_wp2_with fail
  refine (served2_any c y _).mono ?_
  rintro e w2 ⟨rfl, hb2⟩
  rw [HY.out]
  have hz2 : w.heap.size < w2.heap.size := Nat.lt_of_lt_of_le hz1 hb2.size
  have HB2 := hide (HB1.out.trans (hb2.mono (Nat.le_of_lt hz1)))
  have HQ2 := hide (calAt_below hb2 hz1 HQ1.out)
  clear q0 q1 q2 q3 q4 q5 q6 q7 q8 q9 q10 q11 q12 q13
  obtain ⟨q0, q1, q2, q3, q4, q5, q6, q7, q8, q9, q10, q11, q12, q13⟩ := HQ2.out
  clear hb2
  go_wp2_with fail
  refine (served2_any c t _).mono ?_
  rintro e w3 ⟨rfl, hb3⟩
  rw [HT.out]
  have hz3 : w.heap.size < w3.heap.size := Nat.lt_of_lt_of_le hz2 hb3.size
  have HB3 := hide (HB2.out.trans (hb3.mono (Nat.le_of_lt hz2)))
  have HQ3 := hide (calAt_below hb3 hz2 HQ2.out)
  clear q0 q1 q2 q3 q4 q5 q6 q7 q8 q9 q10 q11 q12 q13
  obtain ⟨q0, q1, q2, q3, q4, q5, q6, q7, q8, q9, q10, q11, q12, q13⟩ := HQ3.out
  clear hb3
  go_wp2_with fail
  refine (paired_ok c y t _ hn WY.out WT.out).mono ?_
  rintro e w4 ⟨rfl, hb4⟩
  simp only [prV]
  rw [← HNY.out, ← HNT.out, ← HAY.out, ← HAT.out]
  have hz4 : w.heap.size < w4.heap.size := Nat.lt_of_lt_of_le hz3 hb4.size
  have HB4 := hide (HB3.out.trans (hb4.mono (Nat.le_of_lt hz3)))
  have HQ4 := hide (calAt_below hb4 hz3 HQ3.out)
  clear q0 q1 q2 q3 q4 q5 q6 q7 q8 q9 q10 q11 q12 q13
  obtain ⟨q0, q1, q2, q3, q4, q5, q6, q7, q8, q9, q10, q11, q12, q13⟩ := HQ4.out
  clear hb4
  have HD := hide (show WkSt c w.heap.size w4.heap.size ny nt ay ta (w4.alloc (.cells #[.int .i64 ny, .int .i64 nt, .int .i64 ay, .int .i64 ta] 87)) from ⟨calAt_alloc HQ4.out hz4 _, by simp; omega, BlkIs.new w4 _ _⟩)
  have HW1 := hide (show Below w.heap.size w (w4.alloc (.cells #[.int .i64 ny, .int .i64 nt, .int .i64 ay, .int .i64 ta] 87)) from HB4.out.alloc (by omega) _)
  go_wp2_with fail
  all_goals first
    | (exfalso; omega)
    | skip
  obtain ⟨P, hP⟩ : ∃ P, P = w4.heap.size := ⟨_, rfl⟩
  rw [← hP] at HD ⊢
  generalize w4.alloc (.cells #[.int .i64 ny, .int .i64 nt, .int .i64 ay, .int .i64 ta] 87) = W at *
  clear q0 q1 q2 q3 q4 q5 q6 q7 q8 q9 q10 q11 q12 q13
  obtain ⟨k0, k1, k2, k3, k4⟩ := HD.out.load
  rw [HP.out] at k0
  have hzW : w.heap.size ≤ W.heap.size := HW1.out.size
  clear hP HB1 HB2 HB3 HB4 HQ1 HQ2 HQ3 HQ4 hz1 hz2 hz3 hz4
  go_region_with (first
    | (go_at_call 58; refine (policies_any2 _).mono ?_; rintro e w5 ⟨⟨M, rfl, hM⟩, hb5⟩; have HD2 := hide (HD.out.drew.call (by exact hb5)); have HW2 := hide (HW1.out.drew.trans (hb5.mono (by exact hzW)) : Below w.heap.size w w5); obtain ⟨m0, m1, m2, m3, m4⟩ := HD2.out.load; rw [HP.out] at m0; have hz5 : w.heap.size ≤ w5.heap.size := HW2.out.size; have hlook := run_look w5 M polEs 3 3 2 (.func (.func 82) #[] #[]) hM rfl; clear hb5 hM)
    | (go_at_call 82; refine (drop_any ny nt ay ta x _ (by omega) (by omega) (by omega)).mono ?_; rintro e w6 ⟨rfl, hb6⟩; have HW3 := hide (HW2.out.trans (hb6.mono (by exact hz5)) : Below w.heap.size w w6); clear hb6))
  all_goals
    go_simp
    go_wp2
    go_ret2
    exact ⟨rfl, HW3.out⟩

end Go.Proofs.Ytpngdeegdkifnaa
