/- Contracts of the references: with which week a week is compared (layer 19). Contracts of the references: with which day a day is compared (layer 19). -/
import Derived.Test.YtojdngkleiokgaaGreatMRh
import Derived.Test.YtojdngkleiokgaaGreatMCo
import Derived.Test.YtojdngkleiokgaaGreatMRu
namespace Go.Proofs.YtojdngkleiokgaaGreat
open Go.RowKit Qd
set_option linter.unusedSimpArgs false
set_option linter.unusedVariables false

set_option maxRecDepth 100000 in
set_option maxHeartbeats 1600000 in
theorem r19served_any (c : Cal) (y : Int) (w : World) (r : Bool) (hr : r = decide (c.first ≤ y ∧ y ≤ c.last)) : Calls Tryz.prog 51 #[calV c, .int .i64 y] w fun e w' => e = .returned (.bool r) ∧ Below w.heap.size w w' := by
  simp only [calV]
  subst hr
  go_enter Tryz.func51, Tryz.ntmps51
  go_wp2
  all_goals (go_ret; refine ⟨ret_bool ?_, by (repeat' exact bel)⟩; simp; try omega)

set_option maxRecDepth 100000 in
set_option maxHeartbeats 3200000 in
theorem r19week_cal (c : Cal) (y t x : Int) (w : World) (hn : c.name.size ≤ 1000) (hk : c.okB = false) :
    Calls Tryz.prog 26 #[calV c, .int .i64 y, .int .i64 t, .int .i64 x] w fun e w' => e = .returned (.tuple #[.int .i64 0, .int .i64 1]) ∧ Below w.heap.size w w' := by
  have HOK := hide (show okE c = 1 by simp [okE, hk])
  clear hk
  simp only [calV]
  go_enter Tryz.func26, Tryz.ntmps26
  go_wp2_with fail
  refine (r11check_any c _ hn).mono ?_
  rintro e w1 ⟨rfl, hb1⟩
  rw [HOK.out]
  have hz1 : w.heap.size < w1.heap.size := by have := hb1.size; simp at this; omega
  have HB1 : Hid (Below w.heap.size w w1) := ww hb1
  have HQ1 := hide (calAt_below hb1 (by simp) (calAt_new w c))
  obtain ⟨q0, q1, q2, q3, q4, q5, q6, q7, q8, q9, q10, q11, q12, q13⟩ := HQ1.out
  clear hb1
  have hBel := HB1.out
  go_wp2
  all_goals first
    | (exfalso; omega)
    | (go_ret2; exact ⟨rfl, by (repeat' exact bel)⟩)
    | (go_ret2; exact ⟨ret_int2 (by omega) (by first | rfl | omega), by (repeat' exact bel)⟩)

set_option maxRecDepth 100000 in
set_option maxHeartbeats 3200000 in
theorem r19week_mon (c : Cal) (y t x : Int) (w : World) (hn : c.name.size ≤ 1000) (hk : c.okB = true) (hk6 : c.kind = 6) :
    Calls Tryz.prog 26 #[calV c, .int .i64 y, .int .i64 t, .int .i64 x] w fun e w' => e = .returned (.tuple #[.int .i64 0, .int .i64 1]) ∧ Below w.heap.size w w' := by
  have HOK := hide (show okE c = 0 by simp [okE, hk])
  have hkb : (c.kind == 6) = true := by simp [hk6]
  clear hk hk6
  simp only [calV]
  go_enter Tryz.func26, Tryz.ntmps26
  go_wp2_with fail
  refine (r11check_any c _ hn).mono ?_
  rintro e w1 ⟨rfl, hb1⟩
  rw [HOK.out]
  have hz1 : w.heap.size < w1.heap.size := by have := hb1.size; simp at this; omega
  have HB1 : Hid (Below w.heap.size w w1) := ww hb1
  have HQ1 := hide (calAt_below hb1 (by simp) (calAt_new w c))
  obtain ⟨q0, q1, q2, q3, q4, q5, q6, q7, q8, q9, q10, q11, q12, q13⟩ := HQ1.out
  clear hb1
  have hBel := HB1.out
  go_wp2
  all_goals first
    | (exfalso; omega)
    | (go_ret2; exact ⟨rfl, by (repeat' exact bel)⟩)
    | (go_ret2; exact ⟨ret_int2 (by omega) (by first | rfl | omega), by (repeat' exact bel)⟩)

set_option maxRecDepth 100000 in
set_option maxHeartbeats 3200000 in
theorem r19week_y (c : Cal) (y t x : Int) (w : World) (hn : c.name.size ≤ 1000) (hk : c.okB = true) (hk6 : c.kind ≠ 6) (hy : ¬ srv c y) :
    Calls Tryz.prog 26 #[calV c, .int .i64 y, .int .i64 t, .int .i64 x] w fun e w' => e = .returned (.tuple #[.int .i64 0, .int .i64 11]) ∧ Below w.heap.size w w' := by
  have HOK := hide (show okE c = 0 by simp [okE, hk])
  have hkb : (c.kind == 6) = false := by simpa using hk6
  have HY := hide hy
  clear hk hk6 hy
  simp only [calV]
  go_enter Tryz.func26, Tryz.ntmps26
  go_wp2_with fail
  refine (r11check_any c _ hn).mono ?_
  rintro e w1 ⟨rfl, hb1⟩
  rw [HOK.out]
  have hz1 : w.heap.size < w1.heap.size := by have := hb1.size; simp at this; omega
  have HB1 : Hid (Below w.heap.size w w1) := ww hb1
  have HQ1 := hide (calAt_below hb1 (by simp) (calAt_new w c))
  obtain ⟨q0, q1, q2, q3, q4, q5, q6, q7, q8, q9, q10, q11, q12, q13⟩ := HQ1.out
  clear hb1
  go_wp2_with fail
  refine (r19served_any c y _ false (by simp; have h := HY.out; unfold srv at h; omega)).mono ?_
  rintro e w2 ⟨rfl, hb2⟩
  have hz2 : w.heap.size < w2.heap.size := by have := hb2.size; (try simp at this); omega
  have HB2 : Hid (Below w.heap.size w w2) := by have hp := HB1.out; exact ww hb2
  have HQ2 : Hid (CalAt w2 w.heap.size c) := by have hp := HQ1.out; exact qq hb2
  clear q0 q1 q2 q3 q4 q5 q6 q7 q8 q9 q10 q11 q12 q13
  obtain ⟨q0, q1, q2, q3, q4, q5, q6, q7, q8, q9, q10, q11, q12, q13⟩ := HQ2.out
  clear hb2
  have hBel := HB2.out
  go_wp2
  all_goals first
    | (exfalso; omega)
    | (go_ret2; exact ⟨rfl, by (repeat' exact bel)⟩)
    | (go_ret2; exact ⟨ret_int2 (by omega) (by first | rfl | omega), by (repeat' exact bel)⟩)

set_option maxRecDepth 100000 in
set_option maxHeartbeats 3200000 in
theorem r19week_t (c : Cal) (y t x : Int) (w : World) (hn : c.name.size ≤ 1000) (hk : c.okB = true) (hk6 : c.kind ≠ 6) (hy : srv c y) (ht : ¬ srv c t) :
    Calls Tryz.prog 26 #[calV c, .int .i64 y, .int .i64 t, .int .i64 x] w fun e w' => e = .returned (.tuple #[.int .i64 0, .int .i64 11]) ∧ Below w.heap.size w w' := by
  have HOK := hide (show okE c = 0 by simp [okE, hk])
  have hkb : (c.kind == 6) = false := by simpa using hk6
  have HY := hide hy
  have HT := hide ht
  clear hk hk6 hy ht
  simp only [calV]
  go_enter Tryz.func26, Tryz.ntmps26
  go_wp2_with fail
  refine (r11check_any c _ hn).mono ?_
  rintro e w1 ⟨rfl, hb1⟩
  rw [HOK.out]
  have hz1 : w.heap.size < w1.heap.size := by have := hb1.size; simp at this; omega
  have HB1 : Hid (Below w.heap.size w w1) := ww hb1
  have HQ1 := hide (calAt_below hb1 (by simp) (calAt_new w c))
  obtain ⟨q0, q1, q2, q3, q4, q5, q6, q7, q8, q9, q10, q11, q12, q13⟩ := HQ1.out
  clear hb1
  go_wp2_with fail
  refine (r19served_any c y _ true (by simp; have h := HY.out; unfold srv at h; omega)).mono ?_
  rintro e w2 ⟨rfl, hb2⟩
  have hz2 : w.heap.size < w2.heap.size := by have := hb2.size; (try simp at this); omega
  have HB2 : Hid (Below w.heap.size w w2) := by have hp := HB1.out; exact ww hb2
  have HQ2 : Hid (CalAt w2 w.heap.size c) := by have hp := HQ1.out; exact qq hb2
  clear q0 q1 q2 q3 q4 q5 q6 q7 q8 q9 q10 q11 q12 q13
  obtain ⟨q0, q1, q2, q3, q4, q5, q6, q7, q8, q9, q10, q11, q12, q13⟩ := HQ2.out
  clear hb2
  go_wp2_with fail
  refine (r19served_any c t _ false (by simp; have h := HT.out; unfold srv at h; omega)).mono ?_
  rintro e w3 ⟨rfl, hb3⟩
  have hz3 : w.heap.size < w3.heap.size := by have := hb3.size; (try simp at this); omega
  have HB3 : Hid (Below w.heap.size w w3) := by have hp := HB2.out; exact ww hb3
  have HQ3 : Hid (CalAt w3 w.heap.size c) := by have hp := HQ2.out; exact qq hb3
  clear q0 q1 q2 q3 q4 q5 q6 q7 q8 q9 q10 q11 q12 q13
  obtain ⟨q0, q1, q2, q3, q4, q5, q6, q7, q8, q9, q10, q11, q12, q13⟩ := HQ3.out
  clear hb3
  have hBel := HB3.out
  go_wp2
  all_goals first
    | (exfalso; omega)
    | (go_ret2; exact ⟨rfl, by (repeat' exact bel)⟩)
    | (go_ret2; exact ⟨ret_int2 (by omega) (by first | rfl | omega), by (repeat' exact bel)⟩)

set_option maxRecDepth 100000 in
set_option maxHeartbeats 3200000 in
theorem r19week_none (c : Cal) (y t x : Int) (w : World) (hn : c.name.size ≤ 1000) (hk : c.okB = true) (hk6 : c.kind ≠ 6) (hy : srv c y) (ht : srv c t) (hx : x < 1 ∨ (1 ≤ x ∧ wksV c y < x)) :
    Calls Tryz.prog 26 #[calV c, .int .i64 y, .int .i64 t, .int .i64 x] w fun e w' => e = .returned (.tuple #[.int .i64 0, .int .i64 13]) ∧ Below w.heap.size w w' := by
  have HOK := hide (show okE c = 0 by simp [okE, hk])
  have hkb : (c.kind == 6) = false := by simpa using hk6
  obtain ⟨w1, w2, w3⟩ := wks_srv hk hk6 hy
  obtain ⟨w4, w5, w6⟩ := wks_srv hk hk6 ht
  obtain ⟨N, hN⟩ : ∃ N, wksV c y = N := ⟨_, rfl⟩
  obtain ⟨M, hM⟩ : ∃ N, wksV c t = N := ⟨_, rfl⟩
  rw [hN] at w3 hx
  rw [hM] at w6
  have HWY := hide (And.intro hN w1)
  have HWT := hide (And.intro hM w4)
  clear w1 w2 w4 w5 hN hM
  have HY := hide hy
  have HT := hide ht
  clear hk hk6 hy ht
  rcases hx with hx | ⟨hx1, hx⟩
  all_goals
    simp only [calV]
    go_enter Tryz.func26, Tryz.ntmps26
    go_wp2_with fail
    refine (r11check_any c _ hn).mono ?_
    rintro e w1 ⟨rfl, hb1⟩
    rw [HOK.out]
    have hz1 : w.heap.size < w1.heap.size := by have := hb1.size; simp at this; omega
    have HB1 : Hid (Below w.heap.size w w1) := ww hb1
    have HQ1 := hide (calAt_below hb1 (by simp) (calAt_new w c))
    obtain ⟨q0, q1, q2, q3, q4, q5, q6, q7, q8, q9, q10, q11, q12, q13⟩ := HQ1.out
    clear hb1
    go_wp2_with fail
    refine (r19served_any c y _ true (by simp; have h := HY.out; unfold srv at h; omega)).mono ?_
    rintro e w2 ⟨rfl, hb2⟩
    have hz2 : w.heap.size < w2.heap.size := by have := hb2.size; (try simp at this); omega
    have HB2 : Hid (Below w.heap.size w w2) := by have hp := HB1.out; exact ww hb2
    have HQ2 : Hid (CalAt w2 w.heap.size c) := by have hp := HQ1.out; exact qq hb2
    clear q0 q1 q2 q3 q4 q5 q6 q7 q8 q9 q10 q11 q12 q13
    obtain ⟨q0, q1, q2, q3, q4, q5, q6, q7, q8, q9, q10, q11, q12, q13⟩ := HQ2.out
    clear hb2
    go_wp2_with fail
    refine (r19served_any c t _ true (by simp; have h := HT.out; unfold srv at h; omega)).mono ?_
    rintro e w3 ⟨rfl, hb3⟩
    have hz3 : w.heap.size < w3.heap.size := by have := hb3.size; (try simp at this); omega
    have HB3 : Hid (Below w.heap.size w w3) := by have hp := HB2.out; exact ww hb3
    have HQ3 : Hid (CalAt w3 w.heap.size c) := by have hp := HQ2.out; exact qq hb3
    clear q0 q1 q2 q3 q4 q5 q6 q7 q8 q9 q10 q11 q12 q13
    obtain ⟨q0, q1, q2, q3, q4, q5, q6, q7, q8, q9, q10, q11, q12, q13⟩ := HQ3.out
    clear hb3
    go_wp2_with fail
    refine (r13weeks_any c y _ hn).mono ?_
    rintro e w4 ⟨rfl, hb4⟩
    rw [HWY.out.1, HWY.out.2]
    have hz4 : w.heap.size < w4.heap.size := by have := hb4.size; (try simp at this); omega
    have HB4 : Hid (Below w.heap.size w w4) := by have hp := HB3.out; exact ww hb4
    have HQ4 : Hid (CalAt w4 w.heap.size c) := by have hp := HQ3.out; exact qq hb4
    clear q0 q1 q2 q3 q4 q5 q6 q7 q8 q9 q10 q11 q12 q13
    obtain ⟨q0, q1, q2, q3, q4, q5, q6, q7, q8, q9, q10, q11, q12, q13⟩ := HQ4.out
    clear hb4
    go_wp2_with fail
    refine (r13weeks_any c t _ hn).mono ?_
    rintro e w5 ⟨rfl, hb5⟩
    rw [HWT.out.1, HWT.out.2]
    have hz5 : w.heap.size < w5.heap.size := by have := hb5.size; (try simp at this); omega
    have HB5 : Hid (Below w.heap.size w w5) := by have hp := HB4.out; exact ww hb5
    have HQ5 : Hid (CalAt w5 w.heap.size c) := by have hp := HQ4.out; exact qq hb5
    clear q0 q1 q2 q3 q4 q5 q6 q7 q8 q9 q10 q11 q12 q13
    obtain ⟨q0, q1, q2, q3, q4, q5, q6, q7, q8, q9, q10, q11, q12, q13⟩ := HQ5.out
    clear hb5
    have hBel := HB5.out
    go_wp2
    all_goals first
      | (exfalso; omega)
      | (go_ret2; exact ⟨rfl, by (repeat' exact bel)⟩)
      | (go_ret2; exact ⟨ret_int2 (by omega) (by first | rfl | omega), by (repeat' exact bel)⟩)

set_option maxRecDepth 100000 in
set_option maxHeartbeats 3200000 in
theorem r19week_from (c : Cal) (y t x : Int) (w : World) (hn : c.name.size ≤ 1000) (hk : c.okB = true) (hk6 : c.kind ≠ 6) (hy : srv c y) (ht : srv c t) (hx1 : 1 ≤ x) (hx : x ≤ wksV c y) (hp : c.policy = 1) :
    Calls Tryz.prog 26 #[calV c, .int .i64 y, .int .i64 t, .int .i64 x] w fun e w' => e = .returned (.tuple #[.int .i64 x, .int .i64 0]) ∧ Below w.heap.size w w' := by
  have HOK := hide (show okE c = 0 by simp [okE, hk])
  have hkb : (c.kind == 6) = false := by simpa using hk6
  obtain ⟨w1, w2, w3⟩ := wks_srv hk hk6 hy
  obtain ⟨w4, w5, w6⟩ := wks_srv hk hk6 ht
  obtain ⟨N, hN⟩ : ∃ N, wksV c y = N := ⟨_, rfl⟩
  obtain ⟨M, hM⟩ : ∃ N, wksV c t = N := ⟨_, rfl⟩
  rw [hN] at w3 hx
  rw [hM] at w6
  have HWY := hide (And.intro hN w1)
  have HWT := hide (And.intro hM w4)
  clear w1 w2 w4 w5 hN hM
  have HY := hide hy
  have HT := hide ht
  have hpb : (c.policy == 1) = true := by simp [hp]
  clear hk hk6 hy ht hp
  simp only [calV]
  go_enter Tryz.func26, Tryz.ntmps26
  go_wp2_with fail
  refine (r11check_any c _ hn).mono ?_
  rintro e w1 ⟨rfl, hb1⟩
  rw [HOK.out]
  have hz1 : w.heap.size < w1.heap.size := by have := hb1.size; simp at this; omega
  have HB1 : Hid (Below w.heap.size w w1) := ww hb1
  have HQ1 := hide (calAt_below hb1 (by simp) (calAt_new w c))
  obtain ⟨q0, q1, q2, q3, q4, q5, q6, q7, q8, q9, q10, q11, q12, q13⟩ := HQ1.out
  clear hb1
  go_wp2_with fail
  refine (r19served_any c y _ true (by simp; have h := HY.out; unfold srv at h; omega)).mono ?_
  rintro e w2 ⟨rfl, hb2⟩
  have hz2 : w.heap.size < w2.heap.size := by have := hb2.size; (try simp at this); omega
  have HB2 : Hid (Below w.heap.size w w2) := by have hp := HB1.out; exact ww hb2
  have HQ2 : Hid (CalAt w2 w.heap.size c) := by have hp := HQ1.out; exact qq hb2
  clear q0 q1 q2 q3 q4 q5 q6 q7 q8 q9 q10 q11 q12 q13
  obtain ⟨q0, q1, q2, q3, q4, q5, q6, q7, q8, q9, q10, q11, q12, q13⟩ := HQ2.out
  clear hb2
  go_wp2_with fail
  refine (r19served_any c t _ true (by simp; have h := HT.out; unfold srv at h; omega)).mono ?_
  rintro e w3 ⟨rfl, hb3⟩
  have hz3 : w.heap.size < w3.heap.size := by have := hb3.size; (try simp at this); omega
  have HB3 : Hid (Below w.heap.size w w3) := by have hp := HB2.out; exact ww hb3
  have HQ3 : Hid (CalAt w3 w.heap.size c) := by have hp := HQ2.out; exact qq hb3
  clear q0 q1 q2 q3 q4 q5 q6 q7 q8 q9 q10 q11 q12 q13
  obtain ⟨q0, q1, q2, q3, q4, q5, q6, q7, q8, q9, q10, q11, q12, q13⟩ := HQ3.out
  clear hb3
  go_wp2_with fail
  refine (r13weeks_any c y _ hn).mono ?_
  rintro e w4 ⟨rfl, hb4⟩
  rw [HWY.out.1, HWY.out.2]
  have hz4 : w.heap.size < w4.heap.size := by have := hb4.size; (try simp at this); omega
  have HB4 : Hid (Below w.heap.size w w4) := by have hp := HB3.out; exact ww hb4
  have HQ4 : Hid (CalAt w4 w.heap.size c) := by have hp := HQ3.out; exact qq hb4
  clear q0 q1 q2 q3 q4 q5 q6 q7 q8 q9 q10 q11 q12 q13
  obtain ⟨q0, q1, q2, q3, q4, q5, q6, q7, q8, q9, q10, q11, q12, q13⟩ := HQ4.out
  clear hb4
  go_wp2_with fail
  refine (r13weeks_any c t _ hn).mono ?_
  rintro e w5 ⟨rfl, hb5⟩
  rw [HWT.out.1, HWT.out.2]
  have hz5 : w.heap.size < w5.heap.size := by have := hb5.size; (try simp at this); omega
  have HB5 : Hid (Below w.heap.size w w5) := by have hp := HB4.out; exact ww hb5
  have HQ5 : Hid (CalAt w5 w.heap.size c) := by have hp := HQ4.out; exact qq hb5
  clear q0 q1 q2 q3 q4 q5 q6 q7 q8 q9 q10 q11 q12 q13
  obtain ⟨q0, q1, q2, q3, q4, q5, q6, q7, q8, q9, q10, q11, q12, q13⟩ := HQ5.out
  clear hb5
  have hBel := HB5.out
  go_wp2
  all_goals first
    | (exfalso; omega)
    | (go_ret2; exact ⟨rfl, by (repeat' exact bel)⟩)
    | (go_ret2; exact ⟨ret_int2 (by omega) (by first | rfl | omega), by (repeat' exact bel)⟩)

set_option maxRecDepth 100000 in
set_option maxHeartbeats 3200000 in
theorem r19week_shift (c : Cal) (y t x : Int) (w : World) (hn : c.name.size ≤ 1000) (hk : c.okB = true) (hk6 : c.kind ≠ 6) (hy : srv c y) (ht : srv c t) (hx1 : 1 ≤ x) (hx : x ≤ wksV c y) (hp : c.policy = 2) :
    Calls Tryz.prog 26 #[calV c, .int .i64 y, .int .i64 t, .int .i64 x] w fun e w' => e = .returned (.tuple #[.int .i64 (x + wksV c t - wksV c y), .int .i64 0]) ∧ Below w.heap.size w w' := by
  have HOK := hide (show okE c = 0 by simp [okE, hk])
  have hkb : (c.kind == 6) = false := by simpa using hk6
  obtain ⟨w1, w2, w3⟩ := wks_srv hk hk6 hy
  obtain ⟨w4, w5, w6⟩ := wks_srv hk hk6 ht
  obtain ⟨N, hN⟩ : ∃ N, wksV c y = N := ⟨_, rfl⟩
  obtain ⟨M, hM⟩ : ∃ N, wksV c t = N := ⟨_, rfl⟩
  rw [hN] at w3 hx ⊢
  rw [hM] at w6 ⊢
  have HWY := hide (And.intro hN w1)
  have HWT := hide (And.intro hM w4)
  clear w1 w2 w4 w5 hN hM
  have HY := hide hy
  have HT := hide ht
  have hpb : (c.policy == 1) = false := by simp [hp]
  have hpb2 : (c.policy == 2) = true := by simp [hp]
  clear hk hk6 hy ht hp
  simp only [calV]
  go_enter Tryz.func26, Tryz.ntmps26
  go_wp2_with fail
  refine (r11check_any c _ hn).mono ?_
  rintro e w1 ⟨rfl, hb1⟩
  rw [HOK.out]
  have hz1 : w.heap.size < w1.heap.size := by have := hb1.size; simp at this; omega
  have HB1 : Hid (Below w.heap.size w w1) := ww hb1
  have HQ1 := hide (calAt_below hb1 (by simp) (calAt_new w c))
  obtain ⟨q0, q1, q2, q3, q4, q5, q6, q7, q8, q9, q10, q11, q12, q13⟩ := HQ1.out
  clear hb1
  go_wp2_with fail
  refine (r19served_any c y _ true (by simp; have h := HY.out; unfold srv at h; omega)).mono ?_
  rintro e w2 ⟨rfl, hb2⟩
  have hz2 : w.heap.size < w2.heap.size := by have := hb2.size; (try simp at this); omega
  have HB2 : Hid (Below w.heap.size w w2) := by have hp := HB1.out; exact ww hb2
  have HQ2 : Hid (CalAt w2 w.heap.size c) := by have hp := HQ1.out; exact qq hb2
  clear q0 q1 q2 q3 q4 q5 q6 q7 q8 q9 q10 q11 q12 q13
  obtain ⟨q0, q1, q2, q3, q4, q5, q6, q7, q8, q9, q10, q11, q12, q13⟩ := HQ2.out
  clear hb2
  go_wp2_with fail
  refine (r19served_any c t _ true (by simp; have h := HT.out; unfold srv at h; omega)).mono ?_
  rintro e w3 ⟨rfl, hb3⟩
  have hz3 : w.heap.size < w3.heap.size := by have := hb3.size; (try simp at this); omega
  have HB3 : Hid (Below w.heap.size w w3) := by have hp := HB2.out; exact ww hb3
  have HQ3 : Hid (CalAt w3 w.heap.size c) := by have hp := HQ2.out; exact qq hb3
  clear q0 q1 q2 q3 q4 q5 q6 q7 q8 q9 q10 q11 q12 q13
  obtain ⟨q0, q1, q2, q3, q4, q5, q6, q7, q8, q9, q10, q11, q12, q13⟩ := HQ3.out
  clear hb3
  go_wp2_with fail
  refine (r13weeks_any c y _ hn).mono ?_
  rintro e w4 ⟨rfl, hb4⟩
  rw [HWY.out.1, HWY.out.2]
  have hz4 : w.heap.size < w4.heap.size := by have := hb4.size; (try simp at this); omega
  have HB4 : Hid (Below w.heap.size w w4) := by have hp := HB3.out; exact ww hb4
  have HQ4 : Hid (CalAt w4 w.heap.size c) := by have hp := HQ3.out; exact qq hb4
  clear q0 q1 q2 q3 q4 q5 q6 q7 q8 q9 q10 q11 q12 q13
  obtain ⟨q0, q1, q2, q3, q4, q5, q6, q7, q8, q9, q10, q11, q12, q13⟩ := HQ4.out
  clear hb4
  go_wp2_with fail
  refine (r13weeks_any c t _ hn).mono ?_
  rintro e w5 ⟨rfl, hb5⟩
  rw [HWT.out.1, HWT.out.2]
  have hz5 : w.heap.size < w5.heap.size := by have := hb5.size; (try simp at this); omega
  have HB5 : Hid (Below w.heap.size w w5) := by have hp := HB4.out; exact ww hb5
  have HQ5 : Hid (CalAt w5 w.heap.size c) := by have hp := HQ4.out; exact qq hb5
  clear q0 q1 q2 q3 q4 q5 q6 q7 q8 q9 q10 q11 q12 q13
  obtain ⟨q0, q1, q2, q3, q4, q5, q6, q7, q8, q9, q10, q11, q12, q13⟩ := HQ5.out
  clear hb5
  have hBel := HB5.out
  go_wp2
  all_goals first
    | (exfalso; omega)
    | (go_ret2; exact ⟨rfl, by (repeat' exact bel)⟩)
    | (go_ret2; exact ⟨ret_int2 (by omega) (by first | rfl | omega), by (repeat' exact bel)⟩)

set_option maxRecDepth 100000 in
set_option maxHeartbeats 3200000 in
theorem r19week_added (c : Cal) (y t x : Int) (w : World) (hn : c.name.size ≤ 1000) (hk : c.okB = true) (hk6 : c.kind ≠ 6) (hy : srv c y) (ht : srv c t) (hx1 : 1 ≤ x) (hx : x ≤ wksV c y) (hp : c.policy = 3) (hxa : x = addedV c y) :
    Calls Tryz.prog 26 #[calV c, .int .i64 y, .int .i64 t, .int .i64 x] w fun e w' => e = .returned (.tuple #[.int .i64 (if addedV c t = 0 then 0 else addedV c t), .int .i64 (if addedV c t = 0 then 12 else 0)]) ∧ Below w.heap.size w w' := by
  have HOK := hide (show okE c = 0 by simp [okE, hk])
  have hkb : (c.kind == 6) = false := by simpa using hk6
  obtain ⟨w1, w2, w3⟩ := wks_srv hk hk6 hy
  obtain ⟨w4, w5, w6⟩ := wks_srv hk hk6 ht
  obtain ⟨N, hN⟩ : ∃ N, wksV c y = N := ⟨_, rfl⟩
  obtain ⟨M, hM⟩ : ∃ N, wksV c t = N := ⟨_, rfl⟩
  rw [hN] at w3 hx
  rw [hM] at w6
  have HWY := hide (And.intro hN w1)
  have HWT := hide (And.intro hM w4)
  clear w1 w2 w4 w5 hN hM
  rw [hxa] at hx1 hx ⊢
  clear hxa x
  obtain ⟨a1, a2, _⟩ := added_bd hk hk6 hy
  obtain ⟨b1, b2, _⟩ := added_bd hk hk6 ht
  obtain ⟨a, ha⟩ : ∃ a, addedV c y = a := ⟨_, rfl⟩
  obtain ⟨b, hb⟩ : ∃ b, addedV c t = b := ⟨_, rfl⟩
  rw [ha] at a1 a2 hx1 hx ⊢
  rw [hb] at b1 b2 ⊢
  have HA := hide ha
  have HB := hide hb
  have HY := hide hy
  have HT := hide ht
  have hpb : (c.policy == 1) = false := by simp [hp]
  have hpb2 : (c.policy == 2) = false := by simp [hp]
  clear hk hk6 hy ht hp ha hb
  by_cases hb0 : b = 0
  · rw [if_pos hb0, if_pos hb0]
    have hbb : (b == 0) = true := by simp [hb0]
    have HB0 := hide hb0
    clear hb0
    simp only [calV]
    go_enter Tryz.func26, Tryz.ntmps26
    go_wp2_with fail
    refine (r11check_any c _ hn).mono ?_
    rintro e w1 ⟨rfl, hb1⟩
    rw [HOK.out]
    have hz1 : w.heap.size < w1.heap.size := by have := hb1.size; simp at this; omega
    have HB1 : Hid (Below w.heap.size w w1) := ww hb1
    have HQ1 := hide (calAt_below hb1 (by simp) (calAt_new w c))
    obtain ⟨q0, q1, q2, q3, q4, q5, q6, q7, q8, q9, q10, q11, q12, q13⟩ := HQ1.out
    clear hb1
    go_wp2_with fail
    refine (r19served_any c y _ true (by simp; have h := HY.out; unfold srv at h; omega)).mono ?_
    rintro e w2 ⟨rfl, hb2⟩
    have hz2 : w.heap.size < w2.heap.size := by have := hb2.size; (try simp at this); omega
    have HB2 : Hid (Below w.heap.size w w2) := by have hp := HB1.out; exact ww hb2
    have HQ2 : Hid (CalAt w2 w.heap.size c) := by have hp := HQ1.out; exact qq hb2
    clear q0 q1 q2 q3 q4 q5 q6 q7 q8 q9 q10 q11 q12 q13
    obtain ⟨q0, q1, q2, q3, q4, q5, q6, q7, q8, q9, q10, q11, q12, q13⟩ := HQ2.out
    clear hb2
    go_wp2_with fail
    refine (r19served_any c t _ true (by simp; have h := HT.out; unfold srv at h; omega)).mono ?_
    rintro e w3 ⟨rfl, hb3⟩
    have hz3 : w.heap.size < w3.heap.size := by have := hb3.size; (try simp at this); omega
    have HB3 : Hid (Below w.heap.size w w3) := by have hp := HB2.out; exact ww hb3
    have HQ3 : Hid (CalAt w3 w.heap.size c) := by have hp := HQ2.out; exact qq hb3
    clear q0 q1 q2 q3 q4 q5 q6 q7 q8 q9 q10 q11 q12 q13
    obtain ⟨q0, q1, q2, q3, q4, q5, q6, q7, q8, q9, q10, q11, q12, q13⟩ := HQ3.out
    clear hb3
    go_wp2_with fail
    refine (r13weeks_any c y _ hn).mono ?_
    rintro e w4 ⟨rfl, hb4⟩
    rw [HWY.out.1, HWY.out.2]
    have hz4 : w.heap.size < w4.heap.size := by have := hb4.size; (try simp at this); omega
    have HB4 : Hid (Below w.heap.size w w4) := by have hp := HB3.out; exact ww hb4
    have HQ4 : Hid (CalAt w4 w.heap.size c) := by have hp := HQ3.out; exact qq hb4
    clear q0 q1 q2 q3 q4 q5 q6 q7 q8 q9 q10 q11 q12 q13
    obtain ⟨q0, q1, q2, q3, q4, q5, q6, q7, q8, q9, q10, q11, q12, q13⟩ := HQ4.out
    clear hb4
    go_wp2_with fail
    refine (r13weeks_any c t _ hn).mono ?_
    rintro e w5 ⟨rfl, hb5⟩
    rw [HWT.out.1, HWT.out.2]
    have hz5 : w.heap.size < w5.heap.size := by have := hb5.size; (try simp at this); omega
    have HB5 : Hid (Below w.heap.size w w5) := by have hp := HB4.out; exact ww hb5
    have HQ5 : Hid (CalAt w5 w.heap.size c) := by have hp := HQ4.out; exact qq hb5
    clear q0 q1 q2 q3 q4 q5 q6 q7 q8 q9 q10 q11 q12 q13
    obtain ⟨q0, q1, q2, q3, q4, q5, q6, q7, q8, q9, q10, q11, q12, q13⟩ := HQ5.out
    clear hb5
    go_wp2_with fail
    all_goals first
      | (exfalso; omega)
      | skip
    refine (r15added_any c y _ hn).mono ?_
    rintro e w6 ⟨rfl, hb6⟩
    rw [HA.out, HWY.out.2]
    have hz6 : w.heap.size < w6.heap.size := by have := hb6.size; (try simp at this); omega
    have HB6 : Hid (Below w.heap.size w w6) := by have hp := HB5.out; exact ww hb6
    have HQ6 : Hid (CalAt w6 w.heap.size c) := by have hp := HQ5.out; exact qq hb6
    clear q0 q1 q2 q3 q4 q5 q6 q7 q8 q9 q10 q11 q12 q13
    obtain ⟨q0, q1, q2, q3, q4, q5, q6, q7, q8, q9, q10, q11, q12, q13⟩ := HQ6.out
    clear hb6
    go_wp2_with fail
    refine (r15added_any c t _ hn).mono ?_
    rintro e w7 ⟨rfl, hb7⟩
    rw [HB.out, HWT.out.2]
    have hz7 : w.heap.size < w7.heap.size := by have := hb7.size; (try simp at this); omega
    have HB7 : Hid (Below w.heap.size w w7) := by have hp := HB6.out; exact ww hb7
    have HQ7 : Hid (CalAt w7 w.heap.size c) := by have hp := HQ6.out; exact qq hb7
    clear q0 q1 q2 q3 q4 q5 q6 q7 q8 q9 q10 q11 q12 q13
    obtain ⟨q0, q1, q2, q3, q4, q5, q6, q7, q8, q9, q10, q11, q12, q13⟩ := HQ7.out
    clear hb7
    have hBel := HB7.out
    go_wp2
    all_goals first
      | (exfalso; omega)
      | (go_ret2; exact ⟨rfl, by (repeat' exact bel)⟩)
      | (go_ret2; exact ⟨ret_int2 (by omega) (by first | rfl | omega), by (repeat' exact bel)⟩)
  · rw [if_neg hb0, if_neg hb0]
    have hbb : (b == 0) = false := by simpa using hb0
    clear hb0
    simp only [calV]
    go_enter Tryz.func26, Tryz.ntmps26
    go_wp2_with fail
    refine (r11check_any c _ hn).mono ?_
    rintro e w1 ⟨rfl, hb1⟩
    rw [HOK.out]
    have hz1 : w.heap.size < w1.heap.size := by have := hb1.size; simp at this; omega
    have HB1 : Hid (Below w.heap.size w w1) := ww hb1
    have HQ1 := hide (calAt_below hb1 (by simp) (calAt_new w c))
    obtain ⟨q0, q1, q2, q3, q4, q5, q6, q7, q8, q9, q10, q11, q12, q13⟩ := HQ1.out
    clear hb1
    go_wp2_with fail
    refine (r19served_any c y _ true (by simp; have h := HY.out; unfold srv at h; omega)).mono ?_
    rintro e w2 ⟨rfl, hb2⟩
    have hz2 : w.heap.size < w2.heap.size := by have := hb2.size; (try simp at this); omega
    have HB2 : Hid (Below w.heap.size w w2) := by have hp := HB1.out; exact ww hb2
    have HQ2 : Hid (CalAt w2 w.heap.size c) := by have hp := HQ1.out; exact qq hb2
    clear q0 q1 q2 q3 q4 q5 q6 q7 q8 q9 q10 q11 q12 q13
    obtain ⟨q0, q1, q2, q3, q4, q5, q6, q7, q8, q9, q10, q11, q12, q13⟩ := HQ2.out
    clear hb2
    go_wp2_with fail
    refine (r19served_any c t _ true (by simp; have h := HT.out; unfold srv at h; omega)).mono ?_
    rintro e w3 ⟨rfl, hb3⟩
    have hz3 : w.heap.size < w3.heap.size := by have := hb3.size; (try simp at this); omega
    have HB3 : Hid (Below w.heap.size w w3) := by have hp := HB2.out; exact ww hb3
    have HQ3 : Hid (CalAt w3 w.heap.size c) := by have hp := HQ2.out; exact qq hb3
    clear q0 q1 q2 q3 q4 q5 q6 q7 q8 q9 q10 q11 q12 q13
    obtain ⟨q0, q1, q2, q3, q4, q5, q6, q7, q8, q9, q10, q11, q12, q13⟩ := HQ3.out
    clear hb3
    go_wp2_with fail
    refine (r13weeks_any c y _ hn).mono ?_
    rintro e w4 ⟨rfl, hb4⟩
    rw [HWY.out.1, HWY.out.2]
    have hz4 : w.heap.size < w4.heap.size := by have := hb4.size; (try simp at this); omega
    have HB4 : Hid (Below w.heap.size w w4) := by have hp := HB3.out; exact ww hb4
    have HQ4 : Hid (CalAt w4 w.heap.size c) := by have hp := HQ3.out; exact qq hb4
    clear q0 q1 q2 q3 q4 q5 q6 q7 q8 q9 q10 q11 q12 q13
    obtain ⟨q0, q1, q2, q3, q4, q5, q6, q7, q8, q9, q10, q11, q12, q13⟩ := HQ4.out
    clear hb4
    go_wp2_with fail
    refine (r13weeks_any c t _ hn).mono ?_
    rintro e w5 ⟨rfl, hb5⟩
    rw [HWT.out.1, HWT.out.2]
    have hz5 : w.heap.size < w5.heap.size := by have := hb5.size; (try simp at this); omega
    have HB5 : Hid (Below w.heap.size w w5) := by have hp := HB4.out; exact ww hb5
    have HQ5 : Hid (CalAt w5 w.heap.size c) := by have hp := HQ4.out; exact qq hb5
    clear q0 q1 q2 q3 q4 q5 q6 q7 q8 q9 q10 q11 q12 q13
    obtain ⟨q0, q1, q2, q3, q4, q5, q6, q7, q8, q9, q10, q11, q12, q13⟩ := HQ5.out
    clear hb5
    go_wp2_with fail
    all_goals first
      | (exfalso; omega)
      | skip
    refine (r15added_any c y _ hn).mono ?_
    rintro e w6 ⟨rfl, hb6⟩
    rw [HA.out, HWY.out.2]
    have hz6 : w.heap.size < w6.heap.size := by have := hb6.size; (try simp at this); omega
    have HB6 : Hid (Below w.heap.size w w6) := by have hp := HB5.out; exact ww hb6
    have HQ6 : Hid (CalAt w6 w.heap.size c) := by have hp := HQ5.out; exact qq hb6
    clear q0 q1 q2 q3 q4 q5 q6 q7 q8 q9 q10 q11 q12 q13
    obtain ⟨q0, q1, q2, q3, q4, q5, q6, q7, q8, q9, q10, q11, q12, q13⟩ := HQ6.out
    clear hb6
    go_wp2_with fail
    refine (r15added_any c t _ hn).mono ?_
    rintro e w7 ⟨rfl, hb7⟩
    rw [HB.out, HWT.out.2]
    have hz7 : w.heap.size < w7.heap.size := by have := hb7.size; (try simp at this); omega
    have HB7 : Hid (Below w.heap.size w w7) := by have hp := HB6.out; exact ww hb7
    have HQ7 : Hid (CalAt w7 w.heap.size c) := by have hp := HQ6.out; exact qq hb7
    clear q0 q1 q2 q3 q4 q5 q6 q7 q8 q9 q10 q11 q12 q13
    obtain ⟨q0, q1, q2, q3, q4, q5, q6, q7, q8, q9, q10, q11, q12, q13⟩ := HQ7.out
    clear hb7
    have hBel := HB7.out
    go_wp2
    all_goals first
      | (exfalso; omega)
      | (go_ret2; exact ⟨rfl, by (repeat' exact bel)⟩)
      | (go_ret2; exact ⟨ret_int2 (by omega) (by first | rfl | omega), by (repeat' exact bel)⟩)

set_option maxRecDepth 100000 in
set_option maxHeartbeats 3200000 in
theorem r19week_drop1 (c : Cal) (y t x : Int) (w : World) (hn : c.name.size ≤ 1000) (hk : c.okB = true) (hk6 : c.kind ≠ 6) (hy : srv c y) (ht : srv c t) (hx1 : 1 ≤ x) (hx : x ≤ wksV c y) (hp : c.policy = 3) (hxa0 : ¬ x = addedV c y) (hr3 : 0 < addedV c y) (hr4 : addedV c y < x) :
    Calls Tryz.prog 26 #[calV c, .int .i64 y, .int .i64 t, .int .i64 x] w fun e w' => e = .returned (.tuple #[.int .i64 (dropV (addedV c y) (addedV c t) x), .int .i64 0]) ∧ Below w.heap.size w w' := by
  have HOK := hide (show okE c = 0 by simp [okE, hk])
  have hkb : (c.kind == 6) = false := by simpa using hk6
  obtain ⟨w1, w2, w3⟩ := wks_srv hk hk6 hy
  obtain ⟨w4, w5, w6⟩ := wks_srv hk hk6 ht
  obtain ⟨N, hN⟩ : ∃ N, wksV c y = N := ⟨_, rfl⟩
  obtain ⟨M, hM⟩ : ∃ N, wksV c t = N := ⟨_, rfl⟩
  rw [hN] at w3 hx
  rw [hM] at w6
  have HWY := hide (And.intro hN w1)
  have HWT := hide (And.intro hM w4)
  clear w1 w2 w4 w5 hN hM
  obtain ⟨a1, a2, _⟩ := added_bd hk hk6 hy
  obtain ⟨b1, b2, _⟩ := added_bd hk hk6 ht
  obtain ⟨a, ha⟩ : ∃ a, addedV c y = a := ⟨_, rfl⟩
  obtain ⟨b, hb⟩ : ∃ b, addedV c t = b := ⟨_, rfl⟩
  rw [ha] at a1 a2 hxa0 hr3 hr4 ⊢
  rw [hb] at b1 b2 ⊢
  have HA := hide ha
  have HB := hide hb
  have HY := hide hy
  have HT := hide ht
  have hpb : (c.policy == 1) = false := by simp [hp]
  have hpb2 : (c.policy == 2) = false := by simp [hp]
  clear hk hk6 hy ht hp ha hb
  have hxab : (x == a) = false := by simpa using hxa0
  have HXA := hide hxa0
  obtain ⟨r, hr⟩ : ∃ r, r = x - 1 := ⟨_, rfl⟩
  have HR := hide (show (if 0 < a ∧ a < x then x - 1 else x) = r by rw [if_pos ⟨hr3, hr4⟩, hr])
  have hrb : 1 ≤ r ∧ r ≤ 53 := by omega
  obtain ⟨hrb1, hrb2⟩ := hrb
  have HRX := hide hr
  clear hxa0 hr
  simp only [calV]
  go_enter Tryz.func26, Tryz.ntmps26
  go_wp2_with fail
  refine (r11check_any c _ hn).mono ?_
  rintro e w1 ⟨rfl, hb1⟩
  rw [HOK.out]
  have hz1 : w.heap.size < w1.heap.size := by have := hb1.size; simp at this; omega
  have HB1 : Hid (Below w.heap.size w w1) := ww hb1
  have HQ1 := hide (calAt_below hb1 (by simp) (calAt_new w c))
  obtain ⟨q0, q1, q2, q3, q4, q5, q6, q7, q8, q9, q10, q11, q12, q13⟩ := HQ1.out
  clear hb1
  go_wp2_with fail
  refine (r19served_any c y _ true (by simp; have h := HY.out; unfold srv at h; omega)).mono ?_
  rintro e w2 ⟨rfl, hb2⟩
  have hz2 : w.heap.size < w2.heap.size := by have := hb2.size; (try simp at this); omega
  have HB2 : Hid (Below w.heap.size w w2) := by have hp := HB1.out; exact ww hb2
  have HQ2 : Hid (CalAt w2 w.heap.size c) := by have hp := HQ1.out; exact qq hb2
  clear q0 q1 q2 q3 q4 q5 q6 q7 q8 q9 q10 q11 q12 q13
  obtain ⟨q0, q1, q2, q3, q4, q5, q6, q7, q8, q9, q10, q11, q12, q13⟩ := HQ2.out
  clear hb2
  go_wp2_with fail
  refine (r19served_any c t _ true (by simp; have h := HT.out; unfold srv at h; omega)).mono ?_
  rintro e w3 ⟨rfl, hb3⟩
  have hz3 : w.heap.size < w3.heap.size := by have := hb3.size; (try simp at this); omega
  have HB3 : Hid (Below w.heap.size w w3) := by have hp := HB2.out; exact ww hb3
  have HQ3 : Hid (CalAt w3 w.heap.size c) := by have hp := HQ2.out; exact qq hb3
  clear q0 q1 q2 q3 q4 q5 q6 q7 q8 q9 q10 q11 q12 q13
  obtain ⟨q0, q1, q2, q3, q4, q5, q6, q7, q8, q9, q10, q11, q12, q13⟩ := HQ3.out
  clear hb3
  go_wp2_with fail
  refine (r13weeks_any c y _ hn).mono ?_
  rintro e w4 ⟨rfl, hb4⟩
  rw [HWY.out.1, HWY.out.2]
  have hz4 : w.heap.size < w4.heap.size := by have := hb4.size; (try simp at this); omega
  have HB4 : Hid (Below w.heap.size w w4) := by have hp := HB3.out; exact ww hb4
  have HQ4 : Hid (CalAt w4 w.heap.size c) := by have hp := HQ3.out; exact qq hb4
  clear q0 q1 q2 q3 q4 q5 q6 q7 q8 q9 q10 q11 q12 q13
  obtain ⟨q0, q1, q2, q3, q4, q5, q6, q7, q8, q9, q10, q11, q12, q13⟩ := HQ4.out
  clear hb4
  go_wp2_with fail
  refine (r13weeks_any c t _ hn).mono ?_
  rintro e w5 ⟨rfl, hb5⟩
  rw [HWT.out.1, HWT.out.2]
  have hz5 : w.heap.size < w5.heap.size := by have := hb5.size; (try simp at this); omega
  have HB5 : Hid (Below w.heap.size w w5) := by have hp := HB4.out; exact ww hb5
  have HQ5 : Hid (CalAt w5 w.heap.size c) := by have hp := HQ4.out; exact qq hb5
  clear q0 q1 q2 q3 q4 q5 q6 q7 q8 q9 q10 q11 q12 q13
  obtain ⟨q0, q1, q2, q3, q4, q5, q6, q7, q8, q9, q10, q11, q12, q13⟩ := HQ5.out
  clear hb5
  go_wp2_with fail
  all_goals first
    | (exfalso; omega)
    | skip
  refine (r15added_any c y _ hn).mono ?_
  rintro e w6 ⟨rfl, hb6⟩
  rw [HA.out, HWY.out.2]
  have hz6 : w.heap.size < w6.heap.size := by have := hb6.size; (try simp at this); omega
  have HB6 : Hid (Below w.heap.size w w6) := by have hp := HB5.out; exact ww hb6
  have HQ6 : Hid (CalAt w6 w.heap.size c) := by have hp := HQ5.out; exact qq hb6
  clear q0 q1 q2 q3 q4 q5 q6 q7 q8 q9 q10 q11 q12 q13
  obtain ⟨q0, q1, q2, q3, q4, q5, q6, q7, q8, q9, q10, q11, q12, q13⟩ := HQ6.out
  clear hb6
  go_wp2_with fail
  refine (r15added_any c t _ hn).mono ?_
  rintro e w7 ⟨rfl, hb7⟩
  rw [HB.out, HWT.out.2]
  have hz7 : w.heap.size < w7.heap.size := by have := hb7.size; (try simp at this); omega
  have HB7 : Hid (Below w.heap.size w w7) := by have hp := HB6.out; exact ww hb7
  have HQ7 : Hid (CalAt w7 w.heap.size c) := by have hp := HQ6.out; exact qq hb7
  clear q0 q1 q2 q3 q4 q5 q6 q7 q8 q9 q10 q11 q12 q13
  obtain ⟨q0, q1, q2, q3, q4, q5, q6, q7, q8, q9, q10, q11, q12, q13⟩ := HQ7.out
  clear hb7
  go_wp2_with fail
  all_goals first
    | (exfalso; omega)
    | skip
  go_loop [18, 19] (fun s18 s19 => ∃ v h : Int, s19 = .int .i64 v ∧ s18 = .int .i64 h ∧ 1 ≤ v ∧ v ≤ 60 ∧ 0 ≤ h ∧ h ≤ 60 ∧ ((h = r - v ∧ (b = 0 ∨ v ≤ b)) ∨ (h = r - v + 1 ∧ 0 < b ∧ b < v))) (fun _ s => (100 - intOf s).toNat)
  case atStart => exact ⟨1, r - 1, rfl, by have := HRX.out; congr 1; omega, by omega, by omega, by omega, by omega, .inl ⟨rfl, by omega⟩⟩
  case round =>
    obtain ⟨v, h, rfl, rfl, hv1, hv2, hh1, hh2, hcase⟩ := hrel
    by_cases hvb : v = b
    · subst hvb
      have hd := hcase
      have HD := hide hd
      clear hcase hd
      go_wp2
      go_round
      case rel => exact ⟨v + 1, h, rfl, rfl, by omega, by have := HD.out; omega, by omega, by omega, by have := HD.out; omega⟩
      case measure => simp [intOf]; omega
    · have hvb2 : (v == b) = false := by simpa using hvb
      have HD := hide hcase
      by_cases hh0 : h = 0
      · subst hh0
        have HV := hide (show dropV a b x = v by
          have := HD.out
          unfold dropV
          rw [if_neg HXA.out]
          have hr2 := HR.out
          rw [hr2]
          split <;> omega)
        clear hcase hvb
        have hBel := HB7.out
        go_wp2
        all_goals first
          | (exfalso; omega)
          | (go_ret2; exact ⟨ret_int2 HV.out.symm rfl, by (repeat' exact bel)⟩)
      · have hh3 : (h == 0) = false := by simpa using hh0
        clear hcase hvb hh0
        have hh4 : 1 ≤ h := by
          have h5 : ¬ h = 0 := by simpa using hh3
          omega
        have hvb3 : ¬ v = b := by simpa using hvb2
        have HVB := hide hvb3
        clear hvb3
        go_wp2
        go_round
        case rel => exact ⟨v + 1, h - 1, rfl, rfl, by omega, by have := HD.out; omega, by omega, by omega, by have h7 := HD.out; have h5 := HVB.out; omega⟩
        case measure => simp [intOf]; omega

set_option maxRecDepth 100000 in
set_option maxHeartbeats 3200000 in
theorem r19week_drop2 (c : Cal) (y t x : Int) (w : World) (hn : c.name.size ≤ 1000) (hk : c.okB = true) (hk6 : c.kind ≠ 6) (hy : srv c y) (ht : srv c t) (hx1 : 1 ≤ x) (hx : x ≤ wksV c y) (hp : c.policy = 3) (hxa0 : ¬ x = addedV c y) (hr3 : addedV c y ≤ 0) :
    Calls Tryz.prog 26 #[calV c, .int .i64 y, .int .i64 t, .int .i64 x] w fun e w' => e = .returned (.tuple #[.int .i64 (dropV (addedV c y) (addedV c t) x), .int .i64 0]) ∧ Below w.heap.size w w' := by
  have HOK := hide (show okE c = 0 by simp [okE, hk])
  have hkb : (c.kind == 6) = false := by simpa using hk6
  obtain ⟨w1, w2, w3⟩ := wks_srv hk hk6 hy
  obtain ⟨w4, w5, w6⟩ := wks_srv hk hk6 ht
  obtain ⟨N, hN⟩ : ∃ N, wksV c y = N := ⟨_, rfl⟩
  obtain ⟨M, hM⟩ : ∃ N, wksV c t = N := ⟨_, rfl⟩
  rw [hN] at w3 hx
  rw [hM] at w6
  have HWY := hide (And.intro hN w1)
  have HWT := hide (And.intro hM w4)
  clear w1 w2 w4 w5 hN hM
  obtain ⟨a1, a2, _⟩ := added_bd hk hk6 hy
  obtain ⟨b1, b2, _⟩ := added_bd hk hk6 ht
  obtain ⟨a, ha⟩ : ∃ a, addedV c y = a := ⟨_, rfl⟩
  obtain ⟨b, hb⟩ : ∃ b, addedV c t = b := ⟨_, rfl⟩
  rw [ha] at a1 a2 hxa0 hr3 ⊢
  rw [hb] at b1 b2 ⊢
  have HA := hide ha
  have HB := hide hb
  have HY := hide hy
  have HT := hide ht
  have hpb : (c.policy == 1) = false := by simp [hp]
  have hpb2 : (c.policy == 2) = false := by simp [hp]
  clear hk hk6 hy ht hp ha hb
  have hxab : (x == a) = false := by simpa using hxa0
  have HXA := hide hxa0
  obtain ⟨r, hr⟩ : ∃ r, r = x := ⟨_, rfl⟩
  have HR := hide (show (if 0 < a ∧ a < x then x - 1 else x) = r by rw [if_neg (by omega), hr])
  have hrb : 1 ≤ r ∧ r ≤ 53 := by omega
  obtain ⟨hrb1, hrb2⟩ := hrb
  have HRX := hide hr
  clear hxa0 hr
  simp only [calV]
  go_enter Tryz.func26, Tryz.ntmps26
  go_wp2_with fail
  refine (r11check_any c _ hn).mono ?_
  rintro e w1 ⟨rfl, hb1⟩
  rw [HOK.out]
  have hz1 : w.heap.size < w1.heap.size := by have := hb1.size; simp at this; omega
  have HB1 : Hid (Below w.heap.size w w1) := ww hb1
  have HQ1 := hide (calAt_below hb1 (by simp) (calAt_new w c))
  obtain ⟨q0, q1, q2, q3, q4, q5, q6, q7, q8, q9, q10, q11, q12, q13⟩ := HQ1.out
  clear hb1
  go_wp2_with fail
  refine (r19served_any c y _ true (by simp; have h := HY.out; unfold srv at h; omega)).mono ?_
  rintro e w2 ⟨rfl, hb2⟩
  have hz2 : w.heap.size < w2.heap.size := by have := hb2.size; (try simp at this); omega
  have HB2 : Hid (Below w.heap.size w w2) := by have hp := HB1.out; exact ww hb2
  have HQ2 : Hid (CalAt w2 w.heap.size c) := by have hp := HQ1.out; exact qq hb2
  clear q0 q1 q2 q3 q4 q5 q6 q7 q8 q9 q10 q11 q12 q13
  obtain ⟨q0, q1, q2, q3, q4, q5, q6, q7, q8, q9, q10, q11, q12, q13⟩ := HQ2.out
  clear hb2
  go_wp2_with fail
  refine (r19served_any c t _ true (by simp; have h := HT.out; unfold srv at h; omega)).mono ?_
  rintro e w3 ⟨rfl, hb3⟩
  have hz3 : w.heap.size < w3.heap.size := by have := hb3.size; (try simp at this); omega
  have HB3 : Hid (Below w.heap.size w w3) := by have hp := HB2.out; exact ww hb3
  have HQ3 : Hid (CalAt w3 w.heap.size c) := by have hp := HQ2.out; exact qq hb3
  clear q0 q1 q2 q3 q4 q5 q6 q7 q8 q9 q10 q11 q12 q13
  obtain ⟨q0, q1, q2, q3, q4, q5, q6, q7, q8, q9, q10, q11, q12, q13⟩ := HQ3.out
  clear hb3
  go_wp2_with fail
  refine (r13weeks_any c y _ hn).mono ?_
  rintro e w4 ⟨rfl, hb4⟩
  rw [HWY.out.1, HWY.out.2]
  have hz4 : w.heap.size < w4.heap.size := by have := hb4.size; (try simp at this); omega
  have HB4 : Hid (Below w.heap.size w w4) := by have hp := HB3.out; exact ww hb4
  have HQ4 : Hid (CalAt w4 w.heap.size c) := by have hp := HQ3.out; exact qq hb4
  clear q0 q1 q2 q3 q4 q5 q6 q7 q8 q9 q10 q11 q12 q13
  obtain ⟨q0, q1, q2, q3, q4, q5, q6, q7, q8, q9, q10, q11, q12, q13⟩ := HQ4.out
  clear hb4
  go_wp2_with fail
  refine (r13weeks_any c t _ hn).mono ?_
  rintro e w5 ⟨rfl, hb5⟩
  rw [HWT.out.1, HWT.out.2]
  have hz5 : w.heap.size < w5.heap.size := by have := hb5.size; (try simp at this); omega
  have HB5 : Hid (Below w.heap.size w w5) := by have hp := HB4.out; exact ww hb5
  have HQ5 : Hid (CalAt w5 w.heap.size c) := by have hp := HQ4.out; exact qq hb5
  clear q0 q1 q2 q3 q4 q5 q6 q7 q8 q9 q10 q11 q12 q13
  obtain ⟨q0, q1, q2, q3, q4, q5, q6, q7, q8, q9, q10, q11, q12, q13⟩ := HQ5.out
  clear hb5
  go_wp2_with fail
  all_goals first
    | (exfalso; omega)
    | skip
  refine (r15added_any c y _ hn).mono ?_
  rintro e w6 ⟨rfl, hb6⟩
  rw [HA.out, HWY.out.2]
  have hz6 : w.heap.size < w6.heap.size := by have := hb6.size; (try simp at this); omega
  have HB6 : Hid (Below w.heap.size w w6) := by have hp := HB5.out; exact ww hb6
  have HQ6 : Hid (CalAt w6 w.heap.size c) := by have hp := HQ5.out; exact qq hb6
  clear q0 q1 q2 q3 q4 q5 q6 q7 q8 q9 q10 q11 q12 q13
  obtain ⟨q0, q1, q2, q3, q4, q5, q6, q7, q8, q9, q10, q11, q12, q13⟩ := HQ6.out
  clear hb6
  go_wp2_with fail
  refine (r15added_any c t _ hn).mono ?_
  rintro e w7 ⟨rfl, hb7⟩
  rw [HB.out, HWT.out.2]
  have hz7 : w.heap.size < w7.heap.size := by have := hb7.size; (try simp at this); omega
  have HB7 : Hid (Below w.heap.size w w7) := by have hp := HB6.out; exact ww hb7
  have HQ7 : Hid (CalAt w7 w.heap.size c) := by have hp := HQ6.out; exact qq hb7
  clear q0 q1 q2 q3 q4 q5 q6 q7 q8 q9 q10 q11 q12 q13
  obtain ⟨q0, q1, q2, q3, q4, q5, q6, q7, q8, q9, q10, q11, q12, q13⟩ := HQ7.out
  clear hb7
  go_wp2_with fail
  all_goals first
    | (exfalso; omega)
    | skip
  go_loop [18, 19] (fun s18 s19 => ∃ v h : Int, s19 = .int .i64 v ∧ s18 = .int .i64 h ∧ 1 ≤ v ∧ v ≤ 60 ∧ 0 ≤ h ∧ h ≤ 60 ∧ ((h = r - v ∧ (b = 0 ∨ v ≤ b)) ∨ (h = r - v + 1 ∧ 0 < b ∧ b < v))) (fun _ s => (100 - intOf s).toNat)
  case atStart => exact ⟨1, r - 1, rfl, by have := HRX.out; congr 1; omega, by omega, by omega, by omega, by omega, .inl ⟨rfl, by omega⟩⟩
  case round =>
    obtain ⟨v, h, rfl, rfl, hv1, hv2, hh1, hh2, hcase⟩ := hrel
    by_cases hvb : v = b
    · subst hvb
      have hd := hcase
      have HD := hide hd
      clear hcase hd
      go_wp2
      go_round
      case rel => exact ⟨v + 1, h, rfl, rfl, by omega, by have := HD.out; omega, by omega, by omega, by have := HD.out; omega⟩
      case measure => simp [intOf]; omega
    · have hvb2 : (v == b) = false := by simpa using hvb
      have HD := hide hcase
      by_cases hh0 : h = 0
      · subst hh0
        have HV := hide (show dropV a b x = v by
          have := HD.out
          unfold dropV
          rw [if_neg HXA.out]
          have hr2 := HR.out
          rw [hr2]
          split <;> omega)
        clear hcase hvb
        have hBel := HB7.out
        go_wp2
        all_goals first
          | (exfalso; omega)
          | (go_ret2; exact ⟨ret_int2 HV.out.symm rfl, by (repeat' exact bel)⟩)
      · have hh3 : (h == 0) = false := by simpa using hh0
        clear hcase hvb hh0
        have hh4 : 1 ≤ h := by
          have h5 : ¬ h = 0 := by simpa using hh3
          omega
        have hvb3 : ¬ v = b := by simpa using hvb2
        have HVB := hide hvb3
        clear hvb3
        go_wp2
        go_round
        case rel => exact ⟨v + 1, h - 1, rfl, rfl, by omega, by have := HD.out; omega, by omega, by omega, by have h7 := HD.out; have h5 := HVB.out; omega⟩
        case measure => simp [intOf]; omega

set_option maxRecDepth 100000 in
set_option maxHeartbeats 3200000 in
theorem r19week_drop3 (c : Cal) (y t x : Int) (w : World) (hn : c.name.size ≤ 1000) (hk : c.okB = true) (hk6 : c.kind ≠ 6) (hy : srv c y) (ht : srv c t) (hx1 : 1 ≤ x) (hx : x ≤ wksV c y) (hp : c.policy = 3) (hxa0 : ¬ x = addedV c y) (hr3 : 0 < addedV c y) (hr4 : x < addedV c y) :
    Calls Tryz.prog 26 #[calV c, .int .i64 y, .int .i64 t, .int .i64 x] w fun e w' => e = .returned (.tuple #[.int .i64 (dropV (addedV c y) (addedV c t) x), .int .i64 0]) ∧ Below w.heap.size w w' := by
  have HOK := hide (show okE c = 0 by simp [okE, hk])
  have hkb : (c.kind == 6) = false := by simpa using hk6
  obtain ⟨w1, w2, w3⟩ := wks_srv hk hk6 hy
  obtain ⟨w4, w5, w6⟩ := wks_srv hk hk6 ht
  obtain ⟨N, hN⟩ : ∃ N, wksV c y = N := ⟨_, rfl⟩
  obtain ⟨M, hM⟩ : ∃ N, wksV c t = N := ⟨_, rfl⟩
  rw [hN] at w3 hx
  rw [hM] at w6
  have HWY := hide (And.intro hN w1)
  have HWT := hide (And.intro hM w4)
  clear w1 w2 w4 w5 hN hM
  obtain ⟨a1, a2, _⟩ := added_bd hk hk6 hy
  obtain ⟨b1, b2, _⟩ := added_bd hk hk6 ht
  obtain ⟨a, ha⟩ : ∃ a, addedV c y = a := ⟨_, rfl⟩
  obtain ⟨b, hb⟩ : ∃ b, addedV c t = b := ⟨_, rfl⟩
  rw [ha] at a1 a2 hxa0 hr3 hr4 ⊢
  rw [hb] at b1 b2 ⊢
  have HA := hide ha
  have HB := hide hb
  have HY := hide hy
  have HT := hide ht
  have hpb : (c.policy == 1) = false := by simp [hp]
  have hpb2 : (c.policy == 2) = false := by simp [hp]
  clear hk hk6 hy ht hp ha hb
  have hxab : (x == a) = false := by simpa using hxa0
  have HXA := hide hxa0
  obtain ⟨r, hr⟩ : ∃ r, r = x := ⟨_, rfl⟩
  have HR := hide (show (if 0 < a ∧ a < x then x - 1 else x) = r by rw [if_neg (by omega), hr])
  have hrb : 1 ≤ r ∧ r ≤ 53 := by omega
  obtain ⟨hrb1, hrb2⟩ := hrb
  have HRX := hide hr
  clear hxa0 hr
  simp only [calV]
  go_enter Tryz.func26, Tryz.ntmps26
  go_wp2_with fail
  refine (r11check_any c _ hn).mono ?_
  rintro e w1 ⟨rfl, hb1⟩
  rw [HOK.out]
  have hz1 : w.heap.size < w1.heap.size := by have := hb1.size; simp at this; omega
  have HB1 : Hid (Below w.heap.size w w1) := ww hb1
  have HQ1 := hide (calAt_below hb1 (by simp) (calAt_new w c))
  obtain ⟨q0, q1, q2, q3, q4, q5, q6, q7, q8, q9, q10, q11, q12, q13⟩ := HQ1.out
  clear hb1
  go_wp2_with fail
  refine (r19served_any c y _ true (by simp; have h := HY.out; unfold srv at h; omega)).mono ?_
  rintro e w2 ⟨rfl, hb2⟩
  have hz2 : w.heap.size < w2.heap.size := by have := hb2.size; (try simp at this); omega
  have HB2 : Hid (Below w.heap.size w w2) := by have hp := HB1.out; exact ww hb2
  have HQ2 : Hid (CalAt w2 w.heap.size c) := by have hp := HQ1.out; exact qq hb2
  clear q0 q1 q2 q3 q4 q5 q6 q7 q8 q9 q10 q11 q12 q13
  obtain ⟨q0, q1, q2, q3, q4, q5, q6, q7, q8, q9, q10, q11, q12, q13⟩ := HQ2.out
  clear hb2
  go_wp2_with fail
  refine (r19served_any c t _ true (by simp; have h := HT.out; unfold srv at h; omega)).mono ?_
  rintro e w3 ⟨rfl, hb3⟩
  have hz3 : w.heap.size < w3.heap.size := by have := hb3.size; (try simp at this); omega
  have HB3 : Hid (Below w.heap.size w w3) := by have hp := HB2.out; exact ww hb3
  have HQ3 : Hid (CalAt w3 w.heap.size c) := by have hp := HQ2.out; exact qq hb3
  clear q0 q1 q2 q3 q4 q5 q6 q7 q8 q9 q10 q11 q12 q13
  obtain ⟨q0, q1, q2, q3, q4, q5, q6, q7, q8, q9, q10, q11, q12, q13⟩ := HQ3.out
  clear hb3
  go_wp2_with fail
  refine (r13weeks_any c y _ hn).mono ?_
  rintro e w4 ⟨rfl, hb4⟩
  rw [HWY.out.1, HWY.out.2]
  have hz4 : w.heap.size < w4.heap.size := by have := hb4.size; (try simp at this); omega
  have HB4 : Hid (Below w.heap.size w w4) := by have hp := HB3.out; exact ww hb4
  have HQ4 : Hid (CalAt w4 w.heap.size c) := by have hp := HQ3.out; exact qq hb4
  clear q0 q1 q2 q3 q4 q5 q6 q7 q8 q9 q10 q11 q12 q13
  obtain ⟨q0, q1, q2, q3, q4, q5, q6, q7, q8, q9, q10, q11, q12, q13⟩ := HQ4.out
  clear hb4
  go_wp2_with fail
  refine (r13weeks_any c t _ hn).mono ?_
  rintro e w5 ⟨rfl, hb5⟩
  rw [HWT.out.1, HWT.out.2]
  have hz5 : w.heap.size < w5.heap.size := by have := hb5.size; (try simp at this); omega
  have HB5 : Hid (Below w.heap.size w w5) := by have hp := HB4.out; exact ww hb5
  have HQ5 : Hid (CalAt w5 w.heap.size c) := by have hp := HQ4.out; exact qq hb5
  clear q0 q1 q2 q3 q4 q5 q6 q7 q8 q9 q10 q11 q12 q13
  obtain ⟨q0, q1, q2, q3, q4, q5, q6, q7, q8, q9, q10, q11, q12, q13⟩ := HQ5.out
  clear hb5
  go_wp2_with fail
  all_goals first
    | (exfalso; omega)
    | skip
  refine (r15added_any c y _ hn).mono ?_
  rintro e w6 ⟨rfl, hb6⟩
  rw [HA.out, HWY.out.2]
  have hz6 : w.heap.size < w6.heap.size := by have := hb6.size; (try simp at this); omega
  have HB6 : Hid (Below w.heap.size w w6) := by have hp := HB5.out; exact ww hb6
  have HQ6 : Hid (CalAt w6 w.heap.size c) := by have hp := HQ5.out; exact qq hb6
  clear q0 q1 q2 q3 q4 q5 q6 q7 q8 q9 q10 q11 q12 q13
  obtain ⟨q0, q1, q2, q3, q4, q5, q6, q7, q8, q9, q10, q11, q12, q13⟩ := HQ6.out
  clear hb6
  go_wp2_with fail
  refine (r15added_any c t _ hn).mono ?_
  rintro e w7 ⟨rfl, hb7⟩
  rw [HB.out, HWT.out.2]
  have hz7 : w.heap.size < w7.heap.size := by have := hb7.size; (try simp at this); omega
  have HB7 : Hid (Below w.heap.size w w7) := by have hp := HB6.out; exact ww hb7
  have HQ7 : Hid (CalAt w7 w.heap.size c) := by have hp := HQ6.out; exact qq hb7
  clear q0 q1 q2 q3 q4 q5 q6 q7 q8 q9 q10 q11 q12 q13
  obtain ⟨q0, q1, q2, q3, q4, q5, q6, q7, q8, q9, q10, q11, q12, q13⟩ := HQ7.out
  clear hb7
  go_wp2_with fail
  all_goals first
    | (exfalso; omega)
    | skip
  go_loop [18, 19] (fun s18 s19 => ∃ v h : Int, s19 = .int .i64 v ∧ s18 = .int .i64 h ∧ 1 ≤ v ∧ v ≤ 60 ∧ 0 ≤ h ∧ h ≤ 60 ∧ ((h = r - v ∧ (b = 0 ∨ v ≤ b)) ∨ (h = r - v + 1 ∧ 0 < b ∧ b < v))) (fun _ s => (100 - intOf s).toNat)
  case atStart => exact ⟨1, r - 1, rfl, by have := HRX.out; congr 1; omega, by omega, by omega, by omega, by omega, .inl ⟨rfl, by omega⟩⟩
  case round =>
    obtain ⟨v, h, rfl, rfl, hv1, hv2, hh1, hh2, hcase⟩ := hrel
    by_cases hvb : v = b
    · subst hvb
      have hd := hcase
      have HD := hide hd
      clear hcase hd
      go_wp2
      go_round
      case rel => exact ⟨v + 1, h, rfl, rfl, by omega, by have := HD.out; omega, by omega, by omega, by have := HD.out; omega⟩
      case measure => simp [intOf]; omega
    · have hvb2 : (v == b) = false := by simpa using hvb
      have HD := hide hcase
      by_cases hh0 : h = 0
      · subst hh0
        have HV := hide (show dropV a b x = v by
          have := HD.out
          unfold dropV
          rw [if_neg HXA.out]
          have hr2 := HR.out
          rw [hr2]
          split <;> omega)
        clear hcase hvb
        have hBel := HB7.out
        go_wp2
        all_goals first
          | (exfalso; omega)
          | (go_ret2; exact ⟨ret_int2 HV.out.symm rfl, by (repeat' exact bel)⟩)
      · have hh3 : (h == 0) = false := by simpa using hh0
        clear hcase hvb hh0
        have hh4 : 1 ≤ h := by
          have h5 : ¬ h = 0 := by simpa using hh3
          omega
        have hvb3 : ¬ v = b := by simpa using hvb2
        have HVB := hide hvb3
        clear hvb3
        go_wp2
        go_round
        case rel => exact ⟨v + 1, h - 1, rfl, rfl, by omega, by have := HD.out; omega, by omega, by omega, by have h7 := HD.out; have h5 := HVB.out; omega⟩
        case measure => simp [intOf]; omega

theorem r19week_drop (c : Cal) (y t x : Int) (w : World) (hn : c.name.size ≤ 1000) (hk : c.okB = true) (hk6 : c.kind ≠ 6) (hy : srv c y) (ht : srv c t) (hx1 : 1 ≤ x) (hx : x ≤ wksV c y) (hp : c.policy = 3) (hxa0 : ¬ x = addedV c y) :
    Calls Tryz.prog 26 #[calV c, .int .i64 y, .int .i64 t, .int .i64 x] w fun e w' => e = .returned (.tuple #[.int .i64 (dropV (addedV c y) (addedV c t) x), .int .i64 0]) ∧ Below w.heap.size w w' := by
  by_cases h1 : 0 < addedV c y
  · by_cases h2 : addedV c y < x
    · exact r19week_drop1 c y t x w hn hk hk6 hy ht hx1 hx hp hxa0 h1 h2
    · exact r19week_drop3 c y t x w hn hk hk6 hy ht hx1 hx hp hxa0 h1 (by omega)
  · exact r19week_drop2 c y t x w hn hk hk6 hy ht hx1 hx hp hxa0 (by omega)

theorem r19week_any (c : Cal) (y t x : Int) (w : World) (hn : c.name.size ≤ 1000) :
    Calls Tryz.prog 26 #[calV c, .int .i64 y, .int .i64 t, .int .i64 x] w fun e w' => e = .returned (.tuple #[.int .i64 (cwV c y t x), .int .i64 (cwE c y t x)]) ∧ Below w.heap.size w w' := by
  have put : ∀ {v e' : Int}, cwE c y t x = e' → (e' = 0 → cwV c y t x = v) → (e' ≠ 0 → v = 0) → Calls Tryz.prog 26 #[calV c, .int .i64 y, .int .i64 t, .int .i64 x] w (fun e w' => e = .returned (.tuple #[.int .i64 v, .int .i64 e']) ∧ Below w.heap.size w w') → Calls Tryz.prog 26 #[calV c, .int .i64 y, .int .i64 t, .int .i64 x] w fun e w' => e = .returned (.tuple #[.int .i64 (cwV c y t x), .int .i64 (cwE c y t x)]) ∧ Below w.heap.size w w' := by
    intro v e' h1 h2 h3 h
    refine h.mono ?_
    rintro e w1 ⟨rfl, hb⟩
    refine ⟨?_, hb⟩
    rw [h1]
    by_cases h0 : e' = 0
    · rw [h2 h0]
    · rw [h3 h0, cwV, if_neg (by omega)]
  cases hk : c.okB
  · exact put (by simp [cwE, hk]) (fun h => by omega) (fun _ => rfl) (r19week_cal c y t x w hn hk)
  · by_cases hk6 : c.kind = 6
    · exact put (by rw [cwE, if_neg (fun h => h.2 hk6)]) (fun h => by omega) (fun _ => rfl) (r19week_mon c y t x w hn hk hk6)
    · by_cases hy : srv c y
      · by_cases ht : srv c t
        · by_cases hx : 1 ≤ x ∧ x ≤ wksV c y
          · rcases ok_pol hk hk6 with hp | hp | hp
            · have e0 : cwE c y t x = 0 := by rw [cw_in hk hk6 hy ht hx, if_neg (by omega)]
              exact put e0 (fun _ => by rw [cwV, if_pos e0, if_pos hp]) (fun h => absurd rfl h) (r19week_from c y t x w hn hk hk6 hy ht hx.1 hx.2 hp)
            · have e0 : cwE c y t x = 0 := by rw [cw_in hk hk6 hy ht hx, if_neg (by omega)]
              exact put e0 (fun _ => by rw [cwV, if_pos e0, if_neg (by omega), if_pos hp]) (fun h => absurd rfl h) (r19week_shift c y t x w hn hk hk6 hy ht hx.1 hx.2 hp)
            · by_cases hxa : x = addedV c y
              · have e0 : cwE c y t x = if addedV c t = 0 then 12 else 0 := by
                  rw [cw_in hk hk6 hy ht hx, if_pos hp, dropE]
                  by_cases hb : addedV c t = 0
                  · rw [if_pos ⟨hxa, hb⟩, if_pos hb]
                  · rw [if_neg (fun h => hb h.2), if_neg hb]
                refine put e0 (fun h => ?_) (fun h => ?_) (r19week_added c y t x w hn hk hk6 hy ht hx.1 hx.2 hp hxa)
                · rw [cwV, if_pos (by rw [e0]; exact h), if_neg (by omega), if_neg (by omega), dropV, if_pos hxa]
                  split at h
                  · omega
                  · rename_i hb; rw [if_neg hb]
                · split at h
                  · rename_i hb; rw [if_pos hb]
                  · exact absurd rfl h
              · have e0 : cwE c y t x = 0 := by rw [cw_in hk hk6 hy ht hx, if_pos hp, dropE, if_neg (fun h => hxa h.1)]
                exact put e0 (fun _ => by rw [cwV, if_pos e0, if_neg (by omega), if_neg (by omega)]) (fun h => absurd rfl h) (r19week_drop c y t x w hn hk hk6 hy ht hx.1 hx.2 hp hxa)
          · exact put (by rw [cwE, if_pos ⟨hk, hk6⟩, if_pos ⟨hy, ht⟩, if_neg hx]) (fun h => by omega) (fun _ => rfl) (r19week_none c y t x w hn hk hk6 hy ht (by omega))
        · exact put (by rw [cwE, if_pos ⟨hk, hk6⟩, if_neg (fun h => ht h.2)]) (fun h => by omega) (fun _ => rfl) (r19week_t c y t x w hn hk hk6 hy ht)
      · exact put (by rw [cwE, if_pos ⟨hk, hk6⟩, if_neg (fun h => hy h.1)]) (fun h => by omega) (fun _ => rfl) (r19week_y c y t x w hn hk hk6 hy)

theorem ok_400 {c : Cal} (hk : c.okB = true) : c.last - c.first < 400 := by
  have hok : c.Ok := by simpa [Cal.okB] using hk
  exact hok.1.2.2.2

end Go.Proofs.YtojdngkleiokgaaGreat
