/- Contracts of the references: with which week a week is compared (layer 19). Contracts of the references: with which week a week is compared (layer 19). Contracts of the references: with which day a day is compared (layer 19). -/
import Derived.Test.YtojdngkleiokgaaGreatMRh
import Derived.Test.YtojdngkleiokgaaGreatMCo
import Derived.Test.YtojdngkleiokgaaGreatMRu
namespace Go.Proofs.YtojdngkleiokgaaGreat
open Go.RowKit Qd
set_option linter.unusedSimpArgs false
set_option linter.unusedVariables false

set_option maxRecDepth 100000 in
set_option maxHeartbeats 1600000 in
theorem r19served_any (c : Cal) (y : Int) (w : World) (r : Bool) (hr : r = decide (c.first ≤ y ∧ y ≤ c.last)) : Calls Tryz.prog 51 #[calV c, .int .i64 y] w fun e w' => e = .returned (.bool r) ∧ Below w.heap.size w w' := by
  simp only [calV]
  subst hr
  go_enter Tryz.func51, Tryz.ntmps51
  go_wp2
  all_goals (go_ret; refine ⟨ret_bool ?_, by (repeat' (first | (with_reducible exact Below.refl _ _) | (with_reducible assumption) | (with_reducible refine Below.alloc ?_ ?_ _) | (with_reducible refine below_drewN ?_ _) | (with_reducible refine Below.drew ?_) | (with_reducible refine Below.setCell ?_ ?_ _) | (with_reducible refine Below.trans ?_ (Below.mono (by assumption) ?_)) | go_size | (simp at *; omega)))⟩; simp; try omega)

set_option maxRecDepth 100000 in
set_option maxHeartbeats 3200000 in
theorem r19week_cal (c : Cal) (y t x : Int) (w : World) (hn : c.name.size ≤ 1000) (hk : c.okB = false) :
    Calls Tryz.prog 26 #[calV c, .int .i64 y, .int .i64 t, .int .i64 x] w fun e w' => e = .returned (.tuple #[.int .i64 0, .int .i64 1]) ∧ Below w.heap.size w w' := by
  have HOK := hide (show okE c = 1 by simp [okE, hk])
  clear hk
  simp only [calV]
  go_enter Tryz.func26, Tryz.ntmps26
  go_wp2_with fail
  refine (r11check_any c _ hn).mono ?_
  rintro e w1 ⟨rfl, hb1⟩
  rw [HOK.out]
  have hz1 : w.heap.size < w1.heap.size := by have := hb1.size; simp at this; omega
  have HB1 := hide (show Below w.heap.size w w1 by refine Below.trans ?_ (hb1.mono (by first | omega | (simp; done) | (simp; omega))); (repeat' (first | (with_reducible exact Below.refl _ _) | (with_reducible assumption) | (with_reducible refine Below.alloc ?_ ?_ _) | (with_reducible refine below_drewN ?_ _) | (with_reducible refine Below.drew ?_) | (with_reducible refine Below.setCell ?_ ?_ _) | (with_reducible refine Below.trans ?_ (Below.mono (by assumption) ?_)) | go_size | (simp at *; omega))))
  have HQ1 := hide (calAt_below hb1 (by simp) (calAt_new w c))
  obtain ⟨q0, q1, q2, q3, q4, q5, q6, q7, q8, q9, q10, q11, q12, q13⟩ := HQ1.out
  clear hb1
  have hBel := HB1.out
  go_wp2
  all_goals first
    | (exfalso; omega)
    | (go_ret2; exact ⟨rfl, by (repeat' (first | (with_reducible exact Below.refl _ _) | (with_reducible assumption) | (with_reducible refine Below.alloc ?_ ?_ _) | (with_reducible refine below_drewN ?_ _) | (with_reducible refine Below.drew ?_) | (with_reducible refine Below.setCell ?_ ?_ _) | (with_reducible refine Below.trans ?_ (Below.mono (by assumption) ?_)) | go_size | (simp at *; omega)))⟩)
    | (go_ret2; exact ⟨ret_int2 (by omega) (by first | rfl | omega), by (repeat' (first | (with_reducible exact Below.refl _ _) | (with_reducible assumption) | (with_reducible refine Below.alloc ?_ ?_ _) | (with_reducible refine below_drewN ?_ _) | (with_reducible refine Below.drew ?_) | (with_reducible refine Below.setCell ?_ ?_ _) | (with_reducible refine Below.trans ?_ (Below.mono (by assumption) ?_)) | go_size | (simp at *; omega)))⟩)

set_option maxRecDepth 100000 in
set_option maxHeartbeats 3200000 in
theorem r19week_mon (c : Cal) (y t x : Int) (w : World) (hn : c.name.size ≤ 1000) (hk : c.okB = true) (hk6 : c.kind = 6) :
    Calls Tryz.prog 26 #[calV c, .int .i64 y, .int .i64 t, .int .i64 x] w fun e w' => e = .returned (.tuple #[.int .i64 0, .int .i64 1]) ∧ Below w.heap.size w w' := by
  have HOK := hide (show okE c = 0 by simp [okE, hk])
  have hkb : (c.kind == 6) = true := by simp [hk6]
  clear hk hk6
  simp only [calV]
  go_enter Tryz.func26, Tryz.ntmps26
  go_wp2_with fail
  refine (r11check_any c _ hn).mono ?_
  rintro e w1 ⟨rfl, hb1⟩
  rw [HOK.out]
  have hz1 : w.heap.size < w1.heap.size := by have := hb1.size; simp at this; omega
  have HB1 := hide (show Below w.heap.size w w1 by refine Below.trans ?_ (hb1.mono (by first | omega | (simp; done) | (simp; omega))); (repeat' (first | (with_reducible exact Below.refl _ _) | (with_reducible assumption) | (with_reducible refine Below.alloc ?_ ?_ _) | (with_reducible refine below_drewN ?_ _) | (with_reducible refine Below.drew ?_) | (with_reducible refine Below.setCell ?_ ?_ _) | (with_reducible refine Below.trans ?_ (Below.mono (by assumption) ?_)) | go_size | (simp at *; omega))))
  have HQ1 := hide (calAt_below hb1 (by simp) (calAt_new w c))
  obtain ⟨q0, q1, q2, q3, q4, q5, q6, q7, q8, q9, q10, q11, q12, q13⟩ := HQ1.out
  clear hb1
  have hBel := HB1.out
  go_wp2
  all_goals first
    | (exfalso; omega)
    | (go_ret2; exact ⟨rfl, by (repeat' (first | (with_reducible exact Below.refl _ _) | (with_reducible assumption) | (with_reducible refine Below.alloc ?_ ?_ _) | (with_reducible refine below_drewN ?_ _) | (with_reducible refine Below.drew ?_) | (with_reducible refine Below.setCell ?_ ?_ _) | (with_reducible refine Below.trans ?_ (Below.mono (by assumption) ?_)) | go_size | (simp at *; omega)))⟩)
    | (go_ret2; exact ⟨ret_int2 (by omega) (by first | rfl | omega), by (repeat' (first | (with_reducible exact Below.refl _ _) | (with_reducible assumption) | (with_reducible refine Below.alloc ?_ ?_ _) | (with_reducible refine below_drewN ?_ _) | (with_reducible refine Below.drew ?_) | (with_reducible refine Below.setCell ?_ ?_ _) | (with_reducible refine Below.trans ?_ (Below.mono (by assumption) ?_)) | go_size | (simp at *; omega)))⟩)

set_option maxRecDepth 100000 in
set_option maxHeartbeats 3200000 in
theorem r19week_y (c : Cal) (y t x : Int) (w : World) (hn : c.name.size ≤ 1000) (hk : c.okB = true) (hk6 : c.kind ≠ 6) (hy : ¬ srv c y) :
    Calls Tryz.prog 26 #[calV c, .int .i64 y, .int .i64 t, .int .i64 x] w fun e w' => e = .returned (.tuple #[.int .i64 0, .int .i64 11]) ∧ Below w.heap.size w w' := by
  have HOK := hide (show okE c = 0 by simp [okE, hk])
  have hkb : (c.kind == 6) = false := by simpa using hk6
  have HY := hide hy
  clear hk hk6 hy
  simp only [calV]
  go_enter Tryz.func26, Tryz.ntmps26
  go_wp2_with fail
  refine (r11check_any c _ hn).mono ?_
  rintro e w1 ⟨rfl, hb1⟩
  rw [HOK.out]
  have hz1 : w.heap.size < w1.heap.size := by have := hb1.size; simp at this; omega
  have HB1 := hide (show Below w.heap.size w w1 by refine Below.trans ?_ (hb1.mono (by first | omega | (simp; done) | (simp; omega))); (repeat' (first | (with_reducible exact Below.refl _ _) | (with_reducible assumption) | (with_reducible refine Below.alloc ?_ ?_ _) | (with_reducible refine below_drewN ?_ _) | (with_reducible refine Below.drew ?_) | (with_reducible refine Below.setCell ?_ ?_ _) | (with_reducible refine Below.trans ?_ (Below.mono (by assumption) ?_)) | go_size | (simp at *; omega))))
  have HQ1 := hide (calAt_below hb1 (by simp) (calAt_new w c))
  obtain ⟨q0, q1, q2, q3, q4, q5, q6, q7, q8, q9, q10, q11, q12, q13⟩ := HQ1.out
  clear hb1
  go_wp2_with fail
  refine (r19served_any c y _ false (by simp; have h := HY.out; unfold srv at h; omega)).mono ?_
  rintro e w2 ⟨rfl, hb2⟩
  have hz2 : w.heap.size < w2.heap.size := by have := hb2.size; (try simp at this); omega
  have HB2 := hide (show Below w.heap.size w w2 by have hp := HB1.out; refine Below.trans ?_ (hb2.mono (by first | omega | (simp; done) | (simp; omega))); (repeat' (first | (with_reducible exact Below.refl _ _) | (with_reducible assumption) | (with_reducible refine Below.alloc ?_ ?_ _) | (with_reducible refine below_drewN ?_ _) | (with_reducible refine Below.drew ?_) | (with_reducible refine Below.setCell ?_ ?_ _) | (with_reducible refine Below.trans ?_ (Below.mono (by assumption) ?_)) | go_size | (simp at *; omega))))
  have HQ2 := hide (show CalAt w2 w.heap.size c from calAt_below hb2 (by first | omega | (simp; done) | (simp; omega)) (by first | exact HQ1.out | exact calAt_alloc HQ1.out (by omega) _ | exact calAt_alloc (calAt_alloc HQ1.out (by omega) _) (by simp; omega) _))
  clear q0 q1 q2 q3 q4 q5 q6 q7 q8 q9 q10 q11 q12 q13
  obtain ⟨q0, q1, q2, q3, q4, q5, q6, q7, q8, q9, q10, q11, q12, q13⟩ := HQ2.out
  clear hb2
  have hBel := HB2.out
  go_wp2
  all_goals first
    | (exfalso; omega)
    | (go_ret2; exact ⟨rfl, by (repeat' (first | (with_reducible exact Below.refl _ _) | (with_reducible assumption) | (with_reducible refine Below.alloc ?_ ?_ _) | (with_reducible refine below_drewN ?_ _) | (with_reducible refine Below.drew ?_) | (with_reducible refine Below.setCell ?_ ?_ _) | (with_reducible refine Below.trans ?_ (Below.mono (by assumption) ?_)) | go_size | (simp at *; omega)))⟩)
    | (go_ret2; exact ⟨ret_int2 (by omega) (by first | rfl | omega), by (repeat' (first | (with_reducible exact Below.refl _ _) | (with_reducible assumption) | (with_reducible refine Below.alloc ?_ ?_ _) | (with_reducible refine below_drewN ?_ _) | (with_reducible refine Below.drew ?_) | (with_reducible refine Below.setCell ?_ ?_ _) | (with_reducible refine Below.trans ?_ (Below.mono (by assumption) ?_)) | go_size | (simp at *; omega)))⟩)

set_option maxRecDepth 100000 in
set_option maxHeartbeats 3200000 in
theorem r19week_t (c : Cal) (y t x : Int) (w : World) (hn : c.name.size ≤ 1000) (hk : c.okB = true) (hk6 : c.kind ≠ 6) (hy : srv c y) (ht : ¬ srv c t) :
    Calls Tryz.prog 26 #[calV c, .int .i64 y, .int .i64 t, .int .i64 x] w fun e w' => e = .returned (.tuple #[.int .i64 0, .int .i64 11]) ∧ Below w.heap.size w w' := by
  have HOK := hide (show okE c = 0 by simp [okE, hk])
  have hkb : (c.kind == 6) = false := by simpa using hk6
  have HY := hide hy
  have HT := hide ht
  clear hk hk6 hy ht
  simp only [calV]
  go_enter Tryz.func26, Tryz.ntmps26
  go_wp2_with fail
  refine (r11check_any c _ hn).mono ?_
  rintro e w1 ⟨rfl, hb1⟩
  rw [HOK.out]
  have hz1 : w.heap.size < w1.heap.size := by have := hb1.size; simp at this; omega
  have HB1 := hide (show Below w.heap.size w w1 by refine Below.trans ?_ (hb1.mono (by first | omega | (simp; done) | (simp; omega))); (repeat' (first | (with_reducible exact Below.refl _ _) | (with_reducible assumption) | (with_reducible refine Below.alloc ?_ ?_ _) | (with_reducible refine below_drewN ?_ _) | (with_reducible refine Below.drew ?_) | (with_reducible refine Below.setCell ?_ ?_ _) | (with_reducible refine Below.trans ?_ (Below.mono (by assumption) ?_)) | go_size | (simp at *; omega))))
  have HQ1 := hide (calAt_below hb1 (by simp) (calAt_new w c))
  obtain ⟨q0, q1, q2, q3, q4, q5, q6, q7, q8, q9, q10, q11, q12, q13⟩ := HQ1.out
  clear hb1
  go_wp2_with fail
  refine (r19served_any c y _ true (by simp; have h := HY.out; unfold srv at h; omega)).mono ?_
  rintro e w2 ⟨rfl, hb2⟩
  have hz2 : w.heap.size < w2.heap.size := by have := hb2.size; (try simp at this); omega
  have HB2 := hide (show Below w.heap.size w w2 by have hp := HB1.out; refine Below.trans ?_ (hb2.mono (by first | omega | (simp; done) | (simp; omega))); (repeat' (first | (with_reducible exact Below.refl _ _) | (with_reducible assumption) | (with_reducible refine Below.alloc ?_ ?_ _) | (with_reducible refine below_drewN ?_ _) | (with_reducible refine Below.drew ?_) | (with_reducible refine Below.setCell ?_ ?_ _) | (with_reducible refine Below.trans ?_ (Below.mono (by assumption) ?_)) | go_size | (simp at *; omega))))
  have HQ2 := hide (show CalAt w2 w.heap.size c from calAt_below hb2 (by first | omega | (simp; done) | (simp; omega)) (by first | exact HQ1.out | exact calAt_alloc HQ1.out (by omega) _ | exact calAt_alloc (calAt_alloc HQ1.out (by omega) _) (by simp; omega) _))
  clear q0 q1 q2 q3 q4 q5 q6 q7 q8 q9 q10 q11 q12 q13
  obtain ⟨q0, q1, q2, q3, q4, q5, q6, q7, q8, q9, q10, q11, q12, q13⟩ := HQ2.out
  clear hb2
  go_wp2_with fail
  refine (r19served_any c t _ false (by simp; have h := HT.out; unfold srv at h; omega)).mono ?_
  rintro e w3 ⟨rfl, hb3⟩
  have hz3 : w.heap.size < w3.heap.size := by have := hb3.size; (try simp at this); omega
  have HB3 := hide (show Below w.heap.size w w3 by have hp := HB2.out; refine Below.trans ?_ (hb3.mono (by first | omega | (simp; done) | (simp; omega))); (repeat' (first | (with_reducible exact Below.refl _ _) | (with_reducible assumption) | (with_reducible refine Below.alloc ?_ ?_ _) | (with_reducible refine below_drewN ?_ _) | (with_reducible refine Below.drew ?_) | (with_reducible refine Below.setCell ?_ ?_ _) | (with_reducible refine Below.trans ?_ (Below.mono (by assumption) ?_)) | go_size | (simp at *; omega))))
  have HQ3 := hide (show CalAt w3 w.heap.size c from calAt_below hb3 (by first | omega | (simp; done) | (simp; omega)) (by first | exact HQ2.out | exact calAt_alloc HQ2.out (by omega) _ | exact calAt_alloc (calAt_alloc HQ2.out (by omega) _) (by simp; omega) _))
  clear q0 q1 q2 q3 q4 q5 q6 q7 q8 q9 q10 q11 q12 q13
  obtain ⟨q0, q1, q2, q3, q4, q5, q6, q7, q8, q9, q10, q11, q12, q13⟩ := HQ3.out
  clear hb3
  have hBel := HB3.out
  go_wp2
  all_goals first
    | (exfalso; omega)
    | (go_ret2; exact ⟨rfl, by (repeat' (first | (with_reducible exact Below.refl _ _) | (with_reducible assumption) | (with_reducible refine Below.alloc ?_ ?_ _) | (with_reducible refine below_drewN ?_ _) | (with_reducible refine Below.drew ?_) | (with_reducible refine Below.setCell ?_ ?_ _) | (with_reducible refine Below.trans ?_ (Below.mono (by assumption) ?_)) | go_size | (simp at *; omega)))⟩)
    | (go_ret2; exact ⟨ret_int2 (by omega) (by first | rfl | omega), by (repeat' (first | (with_reducible exact Below.refl _ _) | (with_reducible assumption) | (with_reducible refine Below.alloc ?_ ?_ _) | (with_reducible refine below_drewN ?_ _) | (with_reducible refine Below.drew ?_) | (with_reducible refine Below.setCell ?_ ?_ _) | (with_reducible refine Below.trans ?_ (Below.mono (by assumption) ?_)) | go_size | (simp at *; omega)))⟩)

set_option maxRecDepth 100000 in
set_option maxHeartbeats 3200000 in
theorem r19week_none (c : Cal) (y t x : Int) (w : World) (hn : c.name.size ≤ 1000) (hk : c.okB = true) (hk6 : c.kind ≠ 6) (hy : srv c y) (ht : srv c t) (hx : x < 1 ∨ (1 ≤ x ∧ wksV c y < x)) :
    Calls Tryz.prog 26 #[calV c, .int .i64 y, .int .i64 t, .int .i64 x] w fun e w' => e = .returned (.tuple #[.int .i64 0, .int .i64 13]) ∧ Below w.heap.size w w' := by
  have HOK := hide (show okE c = 0 by simp [okE, hk])
  have hkb : (c.kind == 6) = false := by simpa using hk6
  obtain ⟨w1, w2, w3⟩ := wks_srv hk hk6 hy
  obtain ⟨w4, w5, w6⟩ := wks_srv hk hk6 ht
  obtain ⟨N, hN⟩ : ∃ N, wksV c y = N := ⟨_, rfl⟩
  obtain ⟨M, hM⟩ : ∃ N, wksV c t = N := ⟨_, rfl⟩
  rw [hN] at w3 hx
  rw [hM] at w6
  have HWY := hide (And.intro hN w1)
  have HWT := hide (And.intro hM w4)
  clear w1 w2 w4 w5 hN hM
  have HY := hide hy
  have HT := hide ht
  clear hk hk6 hy ht
  rcases hx with hx | ⟨hx1, hx⟩
  all_goals
    simp only [calV]
    go_enter Tryz.func26, Tryz.ntmps26
    go_wp2_with fail
    refine (r11check_any c _ hn).mono ?_
    rintro e w1 ⟨rfl, hb1⟩
    rw [HOK.out]
    have hz1 : w.heap.size < w1.heap.size := by have := hb1.size; simp at this; omega
    have HB1 := hide (show Below w.heap.size w w1 by refine Below.trans ?_ (hb1.mono (by first | omega | (simp; done) | (simp; omega))); (repeat' (first | (with_reducible exact Below.refl _ _) | (with_reducible assumption) | (with_reducible refine Below.alloc ?_ ?_ _) | (with_reducible refine below_drewN ?_ _) | (with_reducible refine Below.drew ?_) | (with_reducible refine Below.setCell ?_ ?_ _) | (with_reducible refine Below.trans ?_ (Below.mono (by assumption) ?_)) | go_size | (simp at *; omega))))
    have HQ1 := hide (calAt_below hb1 (by simp) (calAt_new w c))
    obtain ⟨q0, q1, q2, q3, q4, q5, q6, q7, q8, q9, q10, q11, q12, q13⟩ := HQ1.out
    clear hb1
    go_wp2_with fail
    refine (r19served_any c y _ true (by simp; have h := HY.out; unfold srv at h; omega)).mono ?_
    rintro e w2 ⟨rfl, hb2⟩
    have hz2 : w.heap.size < w2.heap.size := by have := hb2.size; (try simp at this); omega
    have HB2 := hide (show Below w.heap.size w w2 by have hp := HB1.out; refine Below.trans ?_ (hb2.mono (by first | omega | (simp; done) | (simp; omega))); (repeat' (first | (with_reducible exact Below.refl _ _) | (with_reducible assumption) | (with_reducible refine Below.alloc ?_ ?_ _) | (with_reducible refine below_drewN ?_ _) | (with_reducible refine Below.drew ?_) | (with_reducible refine Below.setCell ?_ ?_ _) | (with_reducible refine Below.trans ?_ (Below.mono (by assumption) ?_)) | go_size | (simp at *; omega))))
    have HQ2 := hide (show CalAt w2 w.heap.size c from calAt_below hb2 (by first | omega | (simp; done) | (simp; omega)) (by first | exact HQ1.out | exact calAt_alloc HQ1.out (by omega) _ | exact calAt_alloc (calAt_alloc HQ1.out (by omega) _) (by simp; omega) _))
    clear q0 q1 q2 q3 q4 q5 q6 q7 q8 q9 q10 q11 q12 q13
    obtain ⟨q0, q1, q2, q3, q4, q5, q6, q7, q8, q9, q10, q11, q12, q13⟩ := HQ2.out
    clear hb2
    go_wp2_with fail
    refine (r19served_any c t _ true (by simp; have h := HT.out; unfold srv at h; omega)).mono ?_
    rintro e w3 ⟨rfl, hb3⟩
    have hz3 : w.heap.size < w3.heap.size := by have := hb3.size; (try simp at this); omega
    have HB3 := hide (show Below w.heap.size w w3 by have hp := HB2.out; refine Below.trans ?_ (hb3.mono (by first | omega | (simp; done) | (simp; omega))); (repeat' (first | (with_reducible exact Below.refl _ _) | (with_reducible assumption) | (with_reducible refine Below.alloc ?_ ?_ _) | (with_reducible refine below_drewN ?_ _) | (with_reducible refine Below.drew ?_) | (with_reducible refine Below.setCell ?_ ?_ _) | (with_reducible refine Below.trans ?_ (Below.mono (by assumption) ?_)) | go_size | (simp at *; omega))))
    have HQ3 := hide (show CalAt w3 w.heap.size c from calAt_below hb3 (by first | omega | (simp; done) | (simp; omega)) (by first | exact HQ2.out | exact calAt_alloc HQ2.out (by omega) _ | exact calAt_alloc (calAt_alloc HQ2.out (by omega) _) (by simp; omega) _))
    clear q0 q1 q2 q3 q4 q5 q6 q7 q8 q9 q10 q11 q12 q13
    obtain ⟨q0, q1, q2, q3, q4, q5, q6, q7, q8, q9, q10, q11, q12, q13⟩ := HQ3.out
    clear hb3
    go_wp2_with fail
    refine (r13weeks_any c y _ hn).mono ?_
    rintro e w4 ⟨rfl, hb4⟩
    rw [HWY.out.1, HWY.out.2]
    have hz4 : w.heap.size < w4.heap.size := by have := hb4.size; (try simp at this); omega
    have HB4 := hide (show Below w.heap.size w w4 by have hp := HB3.out; refine Below.trans ?_ (hb4.mono (by first | omega | (simp; done) | (simp; omega))); (repeat' (first | (with_reducible exact Below.refl _ _) | (with_reducible assumption) | (with_reducible refine Below.alloc ?_ ?_ _) | (with_reducible refine below_drewN ?_ _) | (with_reducible refine Below.drew ?_) | (with_reducible refine Below.setCell ?_ ?_ _) | (with_reducible refine Below.trans ?_ (Below.mono (by assumption) ?_)) | go_size | (simp at *; omega))))
    have HQ4 := hide (show CalAt w4 w.heap.size c from calAt_below hb4 (by first | omega | (simp; done) | (simp; omega)) (by first | exact HQ3.out | exact calAt_alloc HQ3.out (by omega) _ | exact calAt_alloc (calAt_alloc HQ3.out (by omega) _) (by simp; omega) _))
    clear q0 q1 q2 q3 q4 q5 q6 q7 q8 q9 q10 q11 q12 q13
    obtain ⟨q0, q1, q2, q3, q4, q5, q6, q7, q8, q9, q10, q11, q12, q13⟩ := HQ4.out
    clear hb4
    go_wp2_with fail
    refine (r13weeks_any c t _ hn).mono ?_
    rintro e w5 ⟨rfl, hb5⟩
    rw [HWT.out.1, HWT.out.2]
    have hz5 : w.heap.size < w5.heap.size := by have := hb5.size; (try simp at this); omega
    have HB5 := hide (show Below w.heap.size w w5 by have hp := HB4.out; refine Below.trans ?_ (hb5.mono (by first | omega | (simp; done) | (simp; omega))); (repeat' (first | (with_reducible exact Below.refl _ _) | (with_reducible assumption) | (with_reducible refine Below.alloc ?_ ?_ _) | (with_reducible refine below_drewN ?_ _) | (with_reducible refine Below.drew ?_) | (with_reducible refine Below.setCell ?_ ?_ _) | (with_reducible refine Below.trans ?_ (Below.mono (by assumption) ?_)) | go_size | (simp at *; omega))))
    have HQ5 := hide (show CalAt w5 w.heap.size c from calAt_below hb5 (by first | omega | (simp; done) | (simp; omega)) (by first | exact HQ4.out | exact calAt_alloc HQ4.out (by omega) _ | exact calAt_alloc (calAt_alloc HQ4.out (by omega) _) (by simp; omega) _))
    clear q0 q1 q2 q3 q4 q5 q6 q7 q8 q9 q10 q11 q12 q13
    obtain ⟨q0, q1, q2, q3, q4, q5, q6, q7, q8, q9, q10, q11, q12, q13⟩ := HQ5.out
    clear hb5
    have hBel := HB5.out
    go_wp2
    all_goals first
      | (exfalso; omega)
      | (go_ret2; exact ⟨rfl, by (repeat' (first | (with_reducible exact Below.refl _ _) | (with_reducible assumption) | (with_reducible refine Below.alloc ?_ ?_ _) | (with_reducible refine below_drewN ?_ _) | (with_reducible refine Below.drew ?_) | (with_reducible refine Below.setCell ?_ ?_ _) | (with_reducible refine Below.trans ?_ (Below.mono (by assumption) ?_)) | go_size | (simp at *; omega)))⟩)
      | (go_ret2; exact ⟨ret_int2 (by omega) (by first | rfl | omega), by (repeat' (first | (with_reducible exact Below.refl _ _) | (with_reducible assumption) | (with_reducible refine Below.alloc ?_ ?_ _) | (with_reducible refine below_drewN ?_ _) | (with_reducible refine Below.drew ?_) | (with_reducible refine Below.setCell ?_ ?_ _) | (with_reducible refine Below.trans ?_ (Below.mono (by assumption) ?_)) | go_size | (simp at *; omega)))⟩)

set_option maxRecDepth 100000 in
set_option maxHeartbeats 3200000 in
theorem r19week_from (c : Cal) (y t x : Int) (w : World) (hn : c.name.size ≤ 1000) (hk : c.okB = true) (hk6 : c.kind ≠ 6) (hy : srv c y) (ht : srv c t) (hx1 : 1 ≤ x) (hx : x ≤ wksV c y) (hp : c.policy = 1) :
    Calls Tryz.prog 26 #[calV c, .int .i64 y, .int .i64 t, .int .i64 x] w fun e w' => e = .returned (.tuple #[.int .i64 x, .int .i64 0]) ∧ Below w.heap.size w w' := by
  have HOK := hide (show okE c = 0 by simp [okE, hk])
  have hkb : (c.kind == 6) = false := by simpa using hk6
  obtain ⟨w1, w2, w3⟩ := wks_srv hk hk6 hy
  obtain ⟨w4, w5, w6⟩ := wks_srv hk hk6 ht
  obtain ⟨N, hN⟩ : ∃ N, wksV c y = N := ⟨_, rfl⟩
  obtain ⟨M, hM⟩ : ∃ N, wksV c t = N := ⟨_, rfl⟩
  rw [hN] at w3 hx
  rw [hM] at w6
  have HWY := hide (And.intro hN w1)
  have HWT := hide (And.intro hM w4)
  clear w1 w2 w4 w5 hN hM
  have HY := hide hy
  have HT := hide ht
  have hpb : (c.policy == 1) = true := by simp [hp]
  clear hk hk6 hy ht hp
  simp only [calV]
  go_enter Tryz.func26, Tryz.ntmps26
  go_wp2_with fail
  refine (r11check_any c _ hn).mono ?_
  rintro e w1 ⟨rfl, hb1⟩
  rw [HOK.out]
  have hz1 : w.heap.size < w1.heap.size := by have := hb1.size; simp at this; omega
  have HB1 := hide (show Below w.heap.size w w1 by refine Below.trans ?_ (hb1.mono (by first | omega | (simp; done) | (simp; omega))); (repeat' (first | (with_reducible exact Below.refl _ _) | (with_reducible assumption) | (with_reducible refine Below.alloc ?_ ?_ _) | (with_reducible refine below_drewN ?_ _) | (with_reducible refine Below.drew ?_) | (with_reducible refine Below.setCell ?_ ?_ _) | (with_reducible refine Below.trans ?_ (Below.mono (by assumption) ?_)) | go_size | (simp at *; omega))))
  have HQ1 := hide (calAt_below hb1 (by simp) (calAt_new w c))
  obtain ⟨q0, q1, q2, q3, q4, q5, q6, q7, q8, q9, q10, q11, q12, q13⟩ := HQ1.out
  clear hb1
  go_wp2_with fail
  refine (r19served_any c y _ true (by simp; have h := HY.out; unfold srv at h; omega)).mono ?_
  rintro e w2 ⟨rfl, hb2⟩
  have hz2 : w.heap.size < w2.heap.size := by have := hb2.size; (try simp at this); omega
  have HB2 := hide (show Below w.heap.size w w2 by have hp := HB1.out; refine Below.trans ?_ (hb2.mono (by first | omega | (simp; done) | (simp; omega))); (repeat' (first | (with_reducible exact Below.refl _ _) | (with_reducible assumption) | (with_reducible refine Below.alloc ?_ ?_ _) | (with_reducible refine below_drewN ?_ _) | (with_reducible refine Below.drew ?_) | (with_reducible refine Below.setCell ?_ ?_ _) | (with_reducible refine Below.trans ?_ (Below.mono (by assumption) ?_)) | go_size | (simp at *; omega))))
  have HQ2 := hide (show CalAt w2 w.heap.size c from calAt_below hb2 (by first | omega | (simp; done) | (simp; omega)) (by first | exact HQ1.out | exact calAt_alloc HQ1.out (by omega) _ | exact calAt_alloc (calAt_alloc HQ1.out (by omega) _) (by simp; omega) _))
  clear q0 q1 q2 q3 q4 q5 q6 q7 q8 q9 q10 q11 q12 q13
  obtain ⟨q0, q1, q2, q3, q4, q5, q6, q7, q8, q9, q10, q11, q12, q13⟩ := HQ2.out
  clear hb2
  go_wp2_with fail
  refine (r19served_any c t _ true (by simp; have h := HT.out; unfold srv at h; omega)).mono ?_
  rintro e w3 ⟨rfl, hb3⟩
  have hz3 : w.heap.size < w3.heap.size := by have := hb3.size; (try simp at this); omega
  have HB3 := hide (show Below w.heap.size w w3 by have hp := HB2.out; refine Below.trans ?_ (hb3.mono (by first | omega | (simp; done) | (simp; omega))); (repeat' (first | (with_reducible exact Below.refl _ _) | (with_reducible assumption) | (with_reducible refine Below.alloc ?_ ?_ _) | (with_reducible refine below_drewN ?_ _) | (with_reducible refine Below.drew ?_) | (with_reducible refine Below.setCell ?_ ?_ _) | (with_reducible refine Below.trans ?_ (Below.mono (by assumption) ?_)) | go_size | (simp at *; omega))))
  have HQ3 := hide (show CalAt w3 w.heap.size c from calAt_below hb3 (by first | omega | (simp; done) | (simp; omega)) (by first | exact HQ2.out | exact calAt_alloc HQ2.out (by omega) _ | exact calAt_alloc (calAt_alloc HQ2.out (by omega) _) (by simp; omega) _))
  clear q0 q1 q2 q3 q4 q5 q6 q7 q8 q9 q10 q11 q12 q13
  obtain ⟨q0, q1, q2, q3, q4, q5, q6, q7, q8, q9, q10, q11, q12, q13⟩ := HQ3.out
  clear hb3
  go_wp2_with fail
  refine (r13weeks_any c y _ hn).mono ?_
  rintro e w4 ⟨rfl, hb4⟩
  rw [HWY.out.1, HWY.out.2]
  have hz4 : w.heap.size < w4.heap.size := by have := hb4.size; (try simp at this); omega
  have HB4 := hide (show Below w.heap.size w w4 by have hp := HB3.out; refine Below.trans ?_ (hb4.mono (by first | omega | (simp; done) | (simp; omega))); (repeat' (first | (with_reducible exact Below.refl _ _) | (with_reducible assumption) | (with_reducible refine Below.alloc ?_ ?_ _) | (with_reducible refine below_drewN ?_ _) | (with_reducible refine Below.drew ?_) | (with_reducible refine Below.setCell ?_ ?_ _) | (with_reducible refine Below.trans ?_ (Below.mono (by assumption) ?_)) | go_size | (simp at *; omega))))
  have HQ4 := hide (show CalAt w4 w.heap.size c from calAt_below hb4 (by first | omega | (simp; done) | (simp; omega)) (by first | exact HQ3.out | exact calAt_alloc HQ3.out (by omega) _ | exact calAt_alloc (calAt_alloc HQ3.out (by omega) _) (by simp; omega) _))
  clear q0 q1 q2 q3 q4 q5 q6 q7 q8 q9 q10 q11 q12 q13
  obtain ⟨q0, q1, q2, q3, q4, q5, q6, q7, q8, q9, q10, q11, q12, q13⟩ := HQ4.out
  clear hb4
  go_wp2_with fail
  refine (r13weeks_any c t _ hn).mono ?_
  rintro e w5 ⟨rfl, hb5⟩
  rw [HWT.out.1, HWT.out.2]
  have hz5 : w.heap.size < w5.heap.size := by have := hb5.size; (try simp at this); omega
  have HB5 := hide (show Below w.heap.size w w5 by have hp := HB4.out; refine Below.trans ?_ (hb5.mono (by first | omega | (simp; done) | (simp; omega))); (repeat' (first | (with_reducible exact Below.refl _ _) | (with_reducible assumption) | (with_reducible refine Below.alloc ?_ ?_ _) | (with_reducible refine below_drewN ?_ _) | (with_reducible refine Below.drew ?_) | (with_reducible refine Below.setCell ?_ ?_ _) | (with_reducible refine Below.trans ?_ (Below.mono (by assumption) ?_)) | go_size | (simp at *; omega))))
  have HQ5 := hide (show CalAt w5 w.heap.size c from calAt_below hb5 (by first | omega | (simp; done) | (simp; omega)) (by first | exact HQ4.out | exact calAt_alloc HQ4.out (by omega) _ | exact calAt_alloc (calAt_alloc HQ4.out (by omega) _) (by simp; omega) _))
  clear q0 q1 q2 q3 q4 q5 q6 q7 q8 q9 q10 q11 q12 q13
  obtain ⟨q0, q1, q2, q3, q4, q5, q6, q7, q8, q9, q10, q11, q12, q13⟩ := HQ5.out
  clear hb5
  have hBel := HB5.out
  go_wp2
  all_goals first
    | (exfalso; omega)
    | (go_ret2; exact ⟨rfl, by (repeat' (first | (with_reducible exact Below.refl _ _) | (with_reducible assumption) | (with_reducible refine Below.alloc ?_ ?_ _) | (with_reducible refine below_drewN ?_ _) | (with_reducible refine Below.drew ?_) | (with_reducible refine Below.setCell ?_ ?_ _) | (with_reducible refine Below.trans ?_ (Below.mono (by assumption) ?_)) | go_size | (simp at *; omega)))⟩)
    | (go_ret2; exact ⟨ret_int2 (by omega) (by first | rfl | omega), by (repeat' (first | (with_reducible exact Below.refl _ _) | (with_reducible assumption) | (with_reducible refine Below.alloc ?_ ?_ _) | (with_reducible refine below_drewN ?_ _) | (with_reducible refine Below.drew ?_) | (with_reducible refine Below.setCell ?_ ?_ _) | (with_reducible refine Below.trans ?_ (Below.mono (by assumption) ?_)) | go_size | (simp at *; omega)))⟩)

set_option maxRecDepth 100000 in
set_option maxHeartbeats 3200000 in
theorem r19week_shift (c : Cal) (y t x : Int) (w : World) (hn : c.name.size ≤ 1000) (hk : c.okB = true) (hk6 : c.kind ≠ 6) (hy : srv c y) (ht : srv c t) (hx1 : 1 ≤ x) (hx : x ≤ wksV c y) (hp : c.policy = 2) :
    Calls Tryz.prog 26 #[calV c, .int .i64 y, .int .i64 t, .int .i64 x] w fun e w' => e = .returned (.tuple #[.int .i64 (x + wksV c t - wksV c y), .int .i64 0]) ∧ Below w.heap.size w w' := by
  have HOK := hide (show okE c = 0 by simp [okE, hk])
  have hkb : (c.kind == 6) = false := by simpa using hk6
  obtain ⟨w1, w2, w3⟩ := wks_srv hk hk6 hy
  obtain ⟨w4, w5, w6⟩ := wks_srv hk hk6 ht
  obtain ⟨N, hN⟩ : ∃ N, wksV c y = N := ⟨_, rfl⟩
  obtain ⟨M, hM⟩ : ∃ N, wksV c t = N := ⟨_, rfl⟩
  rw [hN] at w3 hx ⊢
  rw [hM] at w6 ⊢
  have HWY := hide (And.intro hN w1)
  have HWT := hide (And.intro hM w4)
  clear w1 w2 w4 w5 hN hM
  have HY := hide hy
  have HT := hide ht
  have hpb : (c.policy == 1) = false := by simp [hp]
  have hpb2 : (c.policy == 2) = true := by simp [hp]
  clear hk hk6 hy ht hp
  simp only [calV]
  go_enter Tryz.func26, Tryz.ntmps26
  go_wp2_with fail
  refine (r11check_any c _ hn).mono ?_
  rintro e w1 ⟨rfl, hb1⟩
  rw [HOK.out]
  have hz1 : w.heap.size < w1.heap.size := by have := hb1.size; simp at this; omega
  have HB1 := hide (show Below w.heap.size w w1 by refine Below.trans ?_ (hb1.mono (by first | omega | (simp; done) | (simp; omega))); (repeat' (first | (with_reducible exact Below.refl _ _) | (with_reducible assumption) | (with_reducible refine Below.alloc ?_ ?_ _) | (with_reducible refine below_drewN ?_ _) | (with_reducible refine Below.drew ?_) | (with_reducible refine Below.setCell ?_ ?_ _) | (with_reducible refine Below.trans ?_ (Below.mono (by assumption) ?_)) | go_size | (simp at *; omega))))
  have HQ1 := hide (calAt_below hb1 (by simp) (calAt_new w c))
  obtain ⟨q0, q1, q2, q3, q4, q5, q6, q7, q8, q9, q10, q11, q12, q13⟩ := HQ1.out
  clear hb1
  go_wp2_with fail
  refine (r19served_any c y _ true (by simp; have h := HY.out; unfold srv at h; omega)).mono ?_
  rintro e w2 ⟨rfl, hb2⟩
  have hz2 : w.heap.size < w2.heap.size := by have := hb2.size; (try simp at this); omega
  have HB2 := hide (show Below w.heap.size w w2 by have hp := HB1.out; refine Below.trans ?_ (hb2.mono (by first | omega | (simp; done) | (simp; omega))); (repeat' (first | (with_reducible exact Below.refl _ _) | (with_reducible assumption) | (with_reducible refine Below.alloc ?_ ?_ _) | (with_reducible refine below_drewN ?_ _) | (with_reducible refine Below.drew ?_) | (with_reducible refine Below.setCell ?_ ?_ _) | (with_reducible refine Below.trans ?_ (Below.mono (by assumption) ?_)) | go_size | (simp at *; omega))))
  have HQ2 := hide (show CalAt w2 w.heap.size c from calAt_below hb2 (by first | omega | (simp; done) | (simp; omega)) (by first | exact HQ1.out | exact calAt_alloc HQ1.out (by omega) _ | exact calAt_alloc (calAt_alloc HQ1.out (by omega) _) (by simp; omega) _))
  clear q0 q1 q2 q3 q4 q5 q6 q7 q8 q9 q10 q11 q12 q13
  obtain ⟨q0, q1, q2, q3, q4, q5, q6, q7, q8, q9, q10, q11, q12, q13⟩ := HQ2.out
  clear hb2
  go_wp2_with fail
  refine (r19served_any c t _ true (by simp; have h := HT.out; unfold srv at h; omega)).mono ?_
  rintro e w3 ⟨rfl, hb3⟩
  have hz3 : w.heap.size < w3.heap.size := by have := hb3.size; (try simp at this); omega
  have HB3 := hide (show Below w.heap.size w w3 by have hp := HB2.out; refine Below.trans ?_ (hb3.mono (by first | omega | (simp; done) | (simp; omega))); (repeat' (first | (with_reducible exact Below.refl _ _) | (with_reducible assumption) | (with_reducible refine Below.alloc ?_ ?_ _) | (with_reducible refine below_drewN ?_ _) | (with_reducible refine Below.drew ?_) | (with_reducible refine Below.setCell ?_ ?_ _) | (with_reducible refine Below.trans ?_ (Below.mono (by assumption) ?_)) | go_size | (simp at *; omega))))
  have HQ3 := hide (show CalAt w3 w.heap.size c from calAt_below hb3 (by first | omega | (simp; done) | (simp; omega)) (by first | exact HQ2.out | exact calAt_alloc HQ2.out (by omega) _ | exact calAt_alloc (calAt_alloc HQ2.out (by omega) _) (by simp; omega) _))
  clear q0 q1 q2 q3 q4 q5 q6 q7 q8 q9 q10 q11 q12 q13
  obtain ⟨q0, q1, q2, q3, q4, q5, q6, q7, q8, q9, q10, q11, q12, q13⟩ := HQ3.out
  clear hb3
  go_wp2_with fail
  refine (r13weeks_any c y _ hn).mono ?_
  rintro e w4 ⟨rfl, hb4⟩
  rw [HWY.out.1, HWY.out.2]
  have hz4 : w.heap.size < w4.heap.size := by have := hb4.size; (try simp at this); omega
  have HB4 := hide (show Below w.heap.size w w4 by have hp := HB3.out; refine Below.trans ?_ (hb4.mono (by first | omega | (simp; done) | (simp; omega))); (repeat' (first | (with_reducible exact Below.refl _ _) | (with_reducible assumption) | (with_reducible refine Below.alloc ?_ ?_ _) | (with_reducible refine below_drewN ?_ _) | (with_reducible refine Below.drew ?_) | (with_reducible refine Below.setCell ?_ ?_ _) | (with_reducible refine Below.trans ?_ (Below.mono (by assumption) ?_)) | go_size | (simp at *; omega))))
  have HQ4 := hide (show CalAt w4 w.heap.size c from calAt_below hb4 (by first | omega | (simp; done) | (simp; omega)) (by first | exact HQ3.out | exact calAt_alloc HQ3.out (by omega) _ | exact calAt_alloc (calAt_alloc HQ3.out (by omega) _) (by simp; omega) _))
  clear q0 q1 q2 q3 q4 q5 q6 q7 q8 q9 q10 q11 q12 q13
  obtain ⟨q0, q1, q2, q3, q4, q5, q6, q7, q8, q9, q10, q11, q12, q13⟩ := HQ4.out
  clear hb4
  go_wp2_with fail
  refine (r13weeks_any c t _ hn).mono ?_
  rintro e w5 ⟨rfl, hb5⟩
  rw [HWT.out.1, HWT.out.2]
  have hz5 : w.heap.size < w5.heap.size := by have := hb5.size; (try simp at this); omega
  have HB5 := hide (show Below w.heap.size w w5 by have hp := HB4.out; refine Below.trans ?_ (hb5.mono (by first | omega | (simp; done) | (simp; omega))); (repeat' (first | (with_reducible exact Below.refl _ _) | (with_reducible assumption) | (with_reducible refine Below.alloc ?_ ?_ _) | (with_reducible refine below_drewN ?_ _) | (with_reducible refine Below.drew ?_) | (with_reducible refine Below.setCell ?_ ?_ _) | (with_reducible refine Below.trans ?_ (Below.mono (by assumption) ?_)) | go_size | (simp at *; omega))))
  have HQ5 := hide (show CalAt w5 w.heap.size c from calAt_below hb5 (by first | omega | (simp; done) | (simp; omega)) (by first | exact HQ4.out | exact calAt_alloc HQ4.out (by omega) _ | exact calAt_alloc (calAt_alloc HQ4.out (by omega) _) (by simp; omega) _))
  clear q0 q1 q2 q3 q4 q5 q6 q7 q8 q9 q10 q11 q12 q13
  obtain ⟨q0, q1, q2, q3, q4, q5, q6, q7, q8, q9, q10, q11, q12, q13⟩ := HQ5.out
  clear hb5
  have hBel := HB5.out
  go_wp2
  all_goals first
    | (exfalso; omega)
    | (go_ret2; exact ⟨rfl, by (repeat' (first | (with_reducible exact Below.refl _ _) | (with_reducible assumption) | (with_reducible refine Below.alloc ?_ ?_ _) | (with_reducible refine below_drewN ?_ _) | (with_reducible refine Below.drew ?_) | (with_reducible refine Below.setCell ?_ ?_ _) | (with_reducible refine Below.trans ?_ (Below.mono (by assumption) ?_)) | go_size | (simp at *; omega)))⟩)
    | (go_ret2; exact ⟨ret_int2 (by omega) (by first | rfl | omega), by (repeat' (first | (with_reducible exact Below.refl _ _) | (with_reducible assumption) | (with_reducible refine Below.alloc ?_ ?_ _) | (with_reducible refine below_drewN ?_ _) | (with_reducible refine Below.drew ?_) | (with_reducible refine Below.setCell ?_ ?_ _) | (with_reducible refine Below.trans ?_ (Below.mono (by assumption) ?_)) | go_size | (simp at *; omega)))⟩)

set_option maxRecDepth 100000 in
set_option maxHeartbeats 3200000 in
theorem r19week_added (c : Cal) (y t x : Int) (w : World) (hn : c.name.size ≤ 1000) (hk : c.okB = true) (hk6 : c.kind ≠ 6) (hy : srv c y) (ht : srv c t) (hx1 : 1 ≤ x) (hx : x ≤ wksV c y) (hp : c.policy = 3) (hxa : x = addedV c y) :
    Calls Tryz.prog 26 #[calV c, .int .i64 y, .int .i64 t, .int .i64 x] w fun e w' => e = .returned (.tuple #[.int .i64 (if addedV c t = 0 then 0 else addedV c t), .int .i64 (if addedV c t = 0 then 12 else 0)]) ∧ Below w.heap.size w w' := by
  have HOK := hide (show okE c = 0 by simp [okE, hk])
  have hkb : (c.kind == 6) = false := by simpa using hk6
  obtain ⟨w1, w2, w3⟩ := wks_srv hk hk6 hy
  obtain ⟨w4, w5, w6⟩ := wks_srv hk hk6 ht
  obtain ⟨N, hN⟩ : ∃ N, wksV c y = N := ⟨_, rfl⟩
  obtain ⟨M, hM⟩ : ∃ N, wksV c t = N := ⟨_, rfl⟩
  rw [hN] at w3 hx
  rw [hM] at w6
  have HWY := hide (And.intro hN w1)
  have HWT := hide (And.intro hM w4)
  clear w1 w2 w4 w5 hN hM
  rw [hxa] at hx1 hx ⊢
  clear hxa x
  obtain ⟨a1, a2, _⟩ := added_bd hk hk6 hy
  obtain ⟨b1, b2, _⟩ := added_bd hk hk6 ht
  obtain ⟨a, ha⟩ : ∃ a, addedV c y = a := ⟨_, rfl⟩
  obtain ⟨b, hb⟩ : ∃ b, addedV c t = b := ⟨_, rfl⟩
  rw [ha] at a1 a2 hx1 hx ⊢
  rw [hb] at b1 b2 ⊢
  have HA := hide ha
  have HB := hide hb
  have HY := hide hy
  have HT := hide ht
  have hpb : (c.policy == 1) = false := by simp [hp]
  have hpb2 : (c.policy == 2) = false := by simp [hp]
  clear hk hk6 hy ht hp ha hb
  by_cases hb0 : b = 0
  · rw [if_pos hb0, if_pos hb0]
    have hbb : (b == 0) = true := by simp [hb0]
    have HB0 := hide hb0
    clear hb0
    simp only [calV]
    go_enter Tryz.func26, Tryz.ntmps26
    go_wp2_with fail
    refine (r11check_any c _ hn).mono ?_
    rintro e w1 ⟨rfl, hb1⟩
    rw [HOK.out]
    have hz1 : w.heap.size < w1.heap.size := by have := hb1.size; simp at this; omega
    have HB1 := hide (show Below w.heap.size w w1 by refine Below.trans ?_ (hb1.mono (by first | omega | (simp; done) | (simp; omega))); (repeat' (first | (with_reducible exact Below.refl _ _) | (with_reducible assumption) | (with_reducible refine Below.alloc ?_ ?_ _) | (with_reducible refine below_drewN ?_ _) | (with_reducible refine Below.drew ?_) | (with_reducible refine Below.setCell ?_ ?_ _) | (with_reducible refine Below.trans ?_ (Below.mono (by assumption) ?_)) | go_size | (simp at *; omega))))
    have HQ1 := hide (calAt_below hb1 (by simp) (calAt_new w c))
    obtain ⟨q0, q1, q2, q3, q4, q5, q6, q7, q8, q9, q10, q11, q12, q13⟩ := HQ1.out
    clear hb1
    go_wp2_with fail
    refine (r19served_any c y _ true (by simp; have h := HY.out; unfold srv at h; omega)).mono ?_
    rintro e w2 ⟨rfl, hb2⟩
    have hz2 : w.heap.size < w2.heap.size := by have := hb2.size; (try simp at this); omega
    have HB2 := hide (show Below w.heap.size w w2 by have hp := HB1.out; refine Below.trans ?_ (hb2.mono (by first | omega | (simp; done) | (simp; omega))); (repeat' (first | (with_reducible exact Below.refl _ _) | (with_reducible assumption) | (with_reducible refine Below.alloc ?_ ?_ _) | (with_reducible refine below_drewN ?_ _) | (with_reducible refine Below.drew ?_) | (with_reducible refine Below.setCell ?_ ?_ _) | (with_reducible refine Below.trans ?_ (Below.mono (by assumption) ?_)) | go_size | (simp at *; omega))))
    have HQ2 := hide (show CalAt w2 w.heap.size c from calAt_below hb2 (by first | omega | (simp; done) | (simp; omega)) (by first | exact HQ1.out | exact calAt_alloc HQ1.out (by omega) _ | exact calAt_alloc (calAt_alloc HQ1.out (by omega) _) (by simp; omega) _))
    clear q0 q1 q2 q3 q4 q5 q6 q7 q8 q9 q10 q11 q12 q13
    obtain ⟨q0, q1, q2, q3, q4, q5, q6, q7, q8, q9, q10, q11, q12, q13⟩ := HQ2.out
    clear hb2
    go_wp2_with fail
    refine (r19served_any c t _ true (by simp; have h := HT.out; unfold srv at h; omega)).mono ?_
    rintro e w3 ⟨rfl, hb3⟩
    have hz3 : w.heap.size < w3.heap.size := by have := hb3.size; (try simp at this); omega
    have HB3 := hide (show Below w.heap.size w w3 by have hp := HB2.out; refine Below.trans ?_ (hb3.mono (by first | omega | (simp; done) | (simp; omega))); (repeat' (first | (with_reducible exact Below.refl _ _) | (with_reducible assumption) | (with_reducible refine Below.alloc ?_ ?_ _) | (with_reducible refine below_drewN ?_ _) | (with_reducible refine Below.drew ?_) | (with_reducible refine Below.setCell ?_ ?_ _) | (with_reducible refine Below.trans ?_ (Below.mono (by assumption) ?_)) | go_size | (simp at *; omega))))
    have HQ3 := hide (show CalAt w3 w.heap.size c from calAt_below hb3 (by first | omega | (simp; done) | (simp; omega)) (by first | exact HQ2.out | exact calAt_alloc HQ2.out (by omega) _ | exact calAt_alloc (calAt_alloc HQ2.out (by omega) _) (by simp; omega) _))
    clear q0 q1 q2 q3 q4 q5 q6 q7 q8 q9 q10 q11 q12 q13
    obtain ⟨q0, q1, q2, q3, q4, q5, q6, q7, q8, q9, q10, q11, q12, q13⟩ := HQ3.out
    clear hb3
    go_wp2_with fail
    refine (r13weeks_any c y _ hn).mono ?_
    rintro e w4 ⟨rfl, hb4⟩
    rw [HWY.out.1, HWY.out.2]
    have hz4 : w.heap.size < w4.heap.size := by have := hb4.size; (try simp at this); omega
    have HB4 := hide (show Below w.heap.size w w4 by have hp := HB3.out; refine Below.trans ?_ (hb4.mono (by first | omega | (simp; done) | (simp; omega))); (repeat' (first | (with_reducible exact Below.refl _ _) | (with_reducible assumption) | (with_reducible refine Below.alloc ?_ ?_ _) | (with_reducible refine below_drewN ?_ _) | (with_reducible refine Below.drew ?_) | (with_reducible refine Below.setCell ?_ ?_ _) | (with_reducible refine Below.trans ?_ (Below.mono (by assumption) ?_)) | go_size | (simp at *; omega))))
    have HQ4 := hide (show CalAt w4 w.heap.size c from calAt_below hb4 (by first | omega | (simp; done) | (simp; omega)) (by first | exact HQ3.out | exact calAt_alloc HQ3.out (by omega) _ | exact calAt_alloc (calAt_alloc HQ3.out (by omega) _) (by simp; omega) _))
    clear q0 q1 q2 q3 q4 q5 q6 q7 q8 q9 q10 q11 q12 q13
    obtain ⟨q0, q1, q2, q3, q4, q5, q6, q7, q8, q9, q10, q11, q12, q13⟩ := HQ4.out
    clear hb4
    go_wp2_with fail
    refine (r13weeks_any c t _ hn).mono ?_
    rintro e w5 ⟨rfl, hb5⟩
    rw [HWT.out.1, HWT.out.2]
    have hz5 : w.heap.size < w5.heap.size := by have := hb5.size; (try simp at this); omega
    have HB5 := hide (show Below w.heap.size w w5 by have hp := HB4.out; refine Below.trans ?_ (hb5.mono (by first | omega | (simp; done) | (simp; omega))); (repeat' (first | (with_reducible exact Below.refl _ _) | (with_reducible assumption) | (with_reducible refine Below.alloc ?_ ?_ _) | (with_reducible refine below_drewN ?_ _) | (with_reducible refine Below.drew ?_) | (with_reducible refine Below.setCell ?_ ?_ _) | (with_reducible refine Below.trans ?_ (Below.mono (by assumption) ?_)) | go_size | (simp at *; omega))))
    have HQ5 := hide (show CalAt w5 w.heap.size c from calAt_below hb5 (by first | omega | (simp; done) | (simp; omega)) (by first | exact HQ4.out | exact calAt_alloc HQ4.out (by omega) _ | exact calAt_alloc (calAt_alloc HQ4.out (by omega) _) (by simp; omega) _))
    clear q0 q1 q2 q3 q4 q5 q6 q7 q8 q9 q10 q11 q12 q13
    obtain ⟨q0, q1, q2, q3, q4, q5, q6, q7, q8, q9, q10, q11, q12, q13⟩ := HQ5.out
    clear hb5
    go_wp2_with fail
    all_goals first
      | (exfalso; omega)
      | skip
    refine (r15added_any c y _ hn).mono ?_
    rintro e w6 ⟨rfl, hb6⟩
    rw [HA.out, HWY.out.2]
    have hz6 : w.heap.size < w6.heap.size := by have := hb6.size; (try simp at this); omega
    have HB6 := hide (show Below w.heap.size w w6 by have hp := HB5.out; refine Below.trans ?_ (hb6.mono (by first | omega | (simp; done) | (simp; omega))); (repeat' (first | (with_reducible exact Below.refl _ _) | (with_reducible assumption) | (with_reducible refine Below.alloc ?_ ?_ _) | (with_reducible refine below_drewN ?_ _) | (with_reducible refine Below.drew ?_) | (with_reducible refine Below.setCell ?_ ?_ _) | (with_reducible refine Below.trans ?_ (Below.mono (by assumption) ?_)) | go_size | (simp at *; omega))))
    have HQ6 := hide (show CalAt w6 w.heap.size c from calAt_below hb6 (by first | omega | (simp; done) | (simp; omega)) (by first | exact HQ5.out | exact calAt_alloc HQ5.out (by omega) _ | exact calAt_alloc (calAt_alloc HQ5.out (by omega) _) (by simp; omega) _))
    clear q0 q1 q2 q3 q4 q5 q6 q7 q8 q9 q10 q11 q12 q13
    obtain ⟨q0, q1, q2, q3, q4, q5, q6, q7, q8, q9, q10, q11, q12, q13⟩ := HQ6.out
    clear hb6
    go_wp2_with fail
    refine (r15added_any c t _ hn).mono ?_
    rintro e w7 ⟨rfl, hb7⟩
    rw [HB.out, HWT.out.2]
    have hz7 : w.heap.size < w7.heap.size := by have := hb7.size; (try simp at this); omega
    have HB7 := hide (show Below w.heap.size w w7 by have hp := HB6.out; refine Below.trans ?_ (hb7.mono (by first | omega | (simp; done) | (simp; omega))); (repeat' (first | (with_reducible exact Below.refl _ _) | (with_reducible assumption) | (with_reducible refine Below.alloc ?_ ?_ _) | (with_reducible refine below_drewN ?_ _) | (with_reducible refine Below.drew ?_) | (with_reducible refine Below.setCell ?_ ?_ _) | (with_reducible refine Below.trans ?_ (Below.mono (by assumption) ?_)) | go_size | (simp at *; omega))))
    have HQ7 := hide (show CalAt w7 w.heap.size c from calAt_below hb7 (by first | omega | (simp; done) | (simp; omega)) (by first | exact HQ6.out | exact calAt_alloc HQ6.out (by omega) _ | exact calAt_alloc (calAt_alloc HQ6.out (by omega) _) (by simp; omega) _))
    clear q0 q1 q2 q3 q4 q5 q6 q7 q8 q9 q10 q11 q12 q13
    obtain ⟨q0, q1, q2, q3, q4, q5, q6, q7, q8, q9, q10, q11, q12, q13⟩ := HQ7.out
    clear hb7
    have hBel := HB7.out
    go_wp2
    all_goals first
      | (exfalso; omega)
      | (go_ret2; exact ⟨rfl, by (repeat' (first | (with_reducible exact Below.refl _ _) | (with_reducible assumption) | (with_reducible refine Below.alloc ?_ ?_ _) | (with_reducible refine below_drewN ?_ _) | (with_reducible refine Below.drew ?_) | (with_reducible refine Below.setCell ?_ ?_ _) | (with_reducible refine Below.trans ?_ (Below.mono (by assumption) ?_)) | go_size | (simp at *; omega)))⟩)
      | (go_ret2; exact ⟨ret_int2 (by omega) (by first | rfl | omega), by (repeat' (first | (with_reducible exact Below.refl _ _) | (with_reducible assumption) | (with_reducible refine Below.alloc ?_ ?_ _) | (with_reducible refine below_drewN ?_ _) | (with_reducible refine Below.drew ?_) | (with_reducible refine Below.setCell ?_ ?_ _) | (with_reducible refine Below.trans ?_ (Below.mono (by assumption) ?_)) | go_size | (simp at *; omega)))⟩)
  · rw [if_neg hb0, if_neg hb0]
    have hbb : (b == 0) = false := by simpa using hb0
    clear hb0
    simp only [calV]
    go_enter Tryz.func26, Tryz.ntmps26
    go_wp2_with fail
    refine (r11check_any c _ hn).mono ?_
    rintro e w1 ⟨rfl, hb1⟩
    rw [HOK.out]
    have hz1 : w.heap.size < w1.heap.size := by have := hb1.size; simp at this; omega
    have HB1 := hide (show Below w.heap.size w w1 by refine Below.trans ?_ (hb1.mono (by first | omega | (simp; done) | (simp; omega))); (repeat' (first | (with_reducible exact Below.refl _ _) | (with_reducible assumption) | (with_reducible refine Below.alloc ?_ ?_ _) | (with_reducible refine below_drewN ?_ _) | (with_reducible refine Below.drew ?_) | (with_reducible refine Below.setCell ?_ ?_ _) | (with_reducible refine Below.trans ?_ (Below.mono (by assumption) ?_)) | go_size | (simp at *; omega))))
    have HQ1 := hide (calAt_below hb1 (by simp) (calAt_new w c))
    obtain ⟨q0, q1, q2, q3, q4, q5, q6, q7, q8, q9, q10, q11, q12, q13⟩ := HQ1.out
    clear hb1
    go_wp2_with fail
    refine (r19served_any c y _ true (by simp; have h := HY.out; unfold srv at h; omega)).mono ?_
    rintro e w2 ⟨rfl, hb2⟩
    have hz2 : w.heap.size < w2.heap.size := by have := hb2.size; (try simp at this); omega
    have HB2 := hide (show Below w.heap.size w w2 by have hp := HB1.out; refine Below.trans ?_ (hb2.mono (by first | omega | (simp; done) | (simp; omega))); (repeat' (first | (with_reducible exact Below.refl _ _) | (with_reducible assumption) | (with_reducible refine Below.alloc ?_ ?_ _) | (with_reducible refine below_drewN ?_ _) | (with_reducible refine Below.drew ?_) | (with_reducible refine Below.setCell ?_ ?_ _) | (with_reducible refine Below.trans ?_ (Below.mono (by assumption) ?_)) | go_size | (simp at *; omega))))
    have HQ2 := hide (show CalAt w2 w.heap.size c from calAt_below hb2 (by first | omega | (simp; done) | (simp; omega)) (by first | exact HQ1.out | exact calAt_alloc HQ1.out (by omega) _ | exact calAt_alloc (calAt_alloc HQ1.out (by omega) _) (by simp; omega) _))
    clear q0 q1 q2 q3 q4 q5 q6 q7 q8 q9 q10 q11 q12 q13
    obtain ⟨q0, q1, q2, q3, q4, q5, q6, q7, q8, q9, q10, q11, q12, q13⟩ := HQ2.out
    clear hb2
    go_wp2_with fail
    refine (r19served_any c t _ true (by simp; have h := HT.out; unfold srv at h; omega)).mono ?_
    rintro e w3 ⟨rfl, hb3⟩
    have hz3 : w.heap.size < w3.heap.size := by have := hb3.size; (try simp at this); omega
    have HB3 := hide (show Below w.heap.size w w3 by have hp := HB2.out; refine Below.trans ?_ (hb3.mono (by first | omega | (simp; done) | (simp; omega))); (repeat' (first | (with_reducible exact Below.refl _ _) | (with_reducible assumption) | (with_reducible refine Below.alloc ?_ ?_ _) | (with_reducible refine below_drewN ?_ _) | (with_reducible refine Below.drew ?_) | (with_reducible refine Below.setCell ?_ ?_ _) | (with_reducible refine Below.trans ?_ (Below.mono (by assumption) ?_)) | go_size | (simp at *; omega))))
    have HQ3 := hide (show CalAt w3 w.heap.size c from calAt_below hb3 (by first | omega | (simp; done) | (simp; omega)) (by first | exact HQ2.out | exact calAt_alloc HQ2.out (by omega) _ | exact calAt_alloc (calAt_alloc HQ2.out (by omega) _) (by simp; omega) _))
    clear q0 q1 q2 q3 q4 q5 q6 q7 q8 q9 q10 q11 q12 q13
    obtain ⟨q0, q1, q2, q3, q4, q5, q6, q7, q8, q9, q10, q11, q12, q13⟩ := HQ3.out
    clear hb3
    go_wp2_with fail
    refine (r13weeks_any c y _ hn).mono ?_
    rintro e w4 ⟨rfl, hb4⟩
    rw [HWY.out.1, HWY.out.2]
    have hz4 : w.heap.size < w4.heap.size := by have := hb4.size; (try simp at this); omega
    have HB4 := hide (show Below w.heap.size w w4 by have hp := HB3.out; refine Below.trans ?_ (hb4.mono (by first | omega | (simp; done) | (simp; omega))); (repeat' (first | (with_reducible exact Below.refl _ _) | (with_reducible assumption) | (with_reducible refine Below.alloc ?_ ?_ _) | (with_reducible refine below_drewN ?_ _) | (with_reducible refine Below.drew ?_) | (with_reducible refine Below.setCell ?_ ?_ _) | (with_reducible refine Below.trans ?_ (Below.mono (by assumption) ?_)) | go_size | (simp at *; omega))))
    have HQ4 := hide (show CalAt w4 w.heap.size c from calAt_below hb4 (by first | omega | (simp; done) | (simp; omega)) (by first | exact HQ3.out | exact calAt_alloc HQ3.out (by omega) _ | exact calAt_alloc (calAt_alloc HQ3.out (by omega) _) (by simp; omega) _))
    clear q0 q1 q2 q3 q4 q5 q6 q7 q8 q9 q10 q11 q12 q13
    obtain ⟨q0, q1, q2, q3, q4, q5, q6, q7, q8, q9, q10, q11, q12, q13⟩ := HQ4.out
    clear hb4
    go_wp2_with fail
    refine (r13weeks_any c t _ hn).mono ?_
    rintro e w5 ⟨rfl, hb5⟩
    rw [HWT.out.1, HWT.out.2]
    have hz5 : w.heap.size < w5.heap.size := by have := hb5.size; (try simp at this); omega
    have HB5 := hide (show Below w.heap.size w w5 by have hp := HB4.out; refine Below.trans ?_ (hb5.mono (by first | omega | (simp; done) | (simp; omega))); (repeat' (first | (with_reducible exact Below.refl _ _) | (with_reducible assumption) | (with_reducible refine Below.alloc ?_ ?_ _) | (with_reducible refine below_drewN ?_ _) | (with_reducible refine Below.drew ?_) | (with_reducible refine Below.setCell ?_ ?_ _) | (with_reducible refine Below.trans ?_ (Below.mono (by assumption) ?_)) | go_size | (simp at *; omega))))
    have HQ5 := hide (show CalAt w5 w.heap.size c from calAt_below hb5 (by first | omega | (simp; done) | (simp; omega)) (by first | exact HQ4.out | exact calAt_alloc HQ4.out (by omega) _ | exact calAt_alloc (calAt_alloc HQ4.out (by omega) _) (by simp; omega) _))
    clear q0 q1 q2 q3 q4 q5 q6 q7 q8 q9 q10 q11 q12 q13
    obtain ⟨q0, q1, q2, q3, q4, q5, q6, q7, q8, q9, q10, q11, q12, q13⟩ := HQ5.out
    clear hb5
    go_wp2_with fail
    all_goals first
      | (exfalso; omega)
      | skip
    refine (r15added_any c y _ hn).mono ?_
    rintro e w6 ⟨rfl, hb6⟩
    rw [HA.out, HWY.out.2]
    have hz6 : w.heap.size < w6.heap.size := by have := hb6.size; (try simp at this); omega
    have HB6 := hide (show Below w.heap.size w w6 by have hp := HB5.out; refine Below.trans ?_ (hb6.mono (by first | omega | (simp; done) | (simp; omega))); (repeat' (first | (with_reducible exact Below.refl _ _) | (with_reducible assumption) | (with_reducible refine Below.alloc ?_ ?_ _) | (with_reducible refine below_drewN ?_ _) | (with_reducible refine Below.drew ?_) | (with_reducible refine Below.setCell ?_ ?_ _) | (with_reducible refine Below.trans ?_ (Below.mono (by assumption) ?_)) | go_size | (simp at *; omega))))
    have HQ6 := hide (show CalAt w6 w.heap.size c from calAt_below hb6 (by first | omega | (simp; done) | (simp; omega)) (by first | exact HQ5.out | exact calAt_alloc HQ5.out (by omega) _ | exact calAt_alloc (calAt_alloc HQ5.out (by omega) _) (by simp; omega) _))
    clear q0 q1 q2 q3 q4 q5 q6 q7 q8 q9 q10 q11 q12 q13
    obtain ⟨q0, q1, q2, q3, q4, q5, q6, q7, q8, q9, q10, q11, q12, q13⟩ := HQ6.out
    clear hb6
    go_wp2_with fail
    refine (r15added_any c t _ hn).mono ?_
    rintro e w7 ⟨rfl, hb7⟩
    rw [HB.out, HWT.out.2]
    have hz7 : w.heap.size < w7.heap.size := by have := hb7.size; (try simp at this); omega
    have HB7 := hide (show Below w.heap.size w w7 by have hp := HB6.out; refine Below.trans ?_ (hb7.mono (by first | omega | (simp; done) | (simp; omega))); (repeat' (first | (with_reducible exact Below.refl _ _) | (with_reducible assumption) | (with_reducible refine Below.alloc ?_ ?_ _) | (with_reducible refine below_drewN ?_ _) | (with_reducible refine Below.drew ?_) | (with_reducible refine Below.setCell ?_ ?_ _) | (with_reducible refine Below.trans ?_ (Below.mono (by assumption) ?_)) | go_size | (simp at *; omega))))
    have HQ7 := hide (show CalAt w7 w.heap.size c from calAt_below hb7 (by first | omega | (simp; done) | (simp; omega)) (by first | exact HQ6.out | exact calAt_alloc HQ6.out (by omega) _ | exact calAt_alloc (calAt_alloc HQ6.out (by omega) _) (by simp; omega) _))
    clear q0 q1 q2 q3 q4 q5 q6 q7 q8 q9 q10 q11 q12 q13
    obtain ⟨q0, q1, q2, q3, q4, q5, q6, q7, q8, q9, q10, q11, q12, q13⟩ := HQ7.out
    clear hb7
    have hBel := HB7.out
    go_wp2
    all_goals first
      | (exfalso; omega)
      | (go_ret2; exact ⟨rfl, by (repeat' (first | (with_reducible exact Below.refl _ _) | (with_reducible assumption) | (with_reducible refine Below.alloc ?_ ?_ _) | (with_reducible refine below_drewN ?_ _) | (with_reducible refine Below.drew ?_) | (with_reducible refine Below.setCell ?_ ?_ _) | (with_reducible refine Below.trans ?_ (Below.mono (by assumption) ?_)) | go_size | (simp at *; omega)))⟩)
      | (go_ret2; exact ⟨ret_int2 (by omega) (by first | rfl | omega), by (repeat' (first | (with_reducible exact Below.refl _ _) | (with_reducible assumption) | (with_reducible refine Below.alloc ?_ ?_ _) | (with_reducible refine below_drewN ?_ _) | (with_reducible refine Below.drew ?_) | (with_reducible refine Below.setCell ?_ ?_ _) | (with_reducible refine Below.trans ?_ (Below.mono (by assumption) ?_)) | go_size | (simp at *; omega)))⟩)

end Go.Proofs.YtojdngkleiokgaaGreat

namespace Go.Proofs.YtojdngkleiokgaaGreat
open Go.RowKit Qd
set_option linter.unusedSimpArgs false
set_option linter.unusedVariables false


set_option maxRecDepth 100000 in
set_option maxHeartbeats 3200000 in
theorem r19week_drop1 (c : Cal) (y t x : Int) (w : World) (hn : c.name.size ≤ 1000) (hk : c.okB = true) (hk6 : c.kind ≠ 6) (hy : srv c y) (ht : srv c t) (hx1 : 1 ≤ x) (hx : x ≤ wksV c y) (hp : c.policy = 3) (hxa0 : ¬ x = addedV c y) (hr3 : 0 < addedV c y) (hr4 : addedV c y < x) :
    Calls Tryz.prog 26 #[calV c, .int .i64 y, .int .i64 t, .int .i64 x] w fun e w' => e = .returned (.tuple #[.int .i64 (dropV (addedV c y) (addedV c t) x), .int .i64 0]) ∧ Below w.heap.size w w' := by
  have HOK := hide (show okE c = 0 by simp [okE, hk])
  have hkb : (c.kind == 6) = false := by simpa using hk6
  obtain ⟨w1, w2, w3⟩ := wks_srv hk hk6 hy
  obtain ⟨w4, w5, w6⟩ := wks_srv hk hk6 ht
  obtain ⟨N, hN⟩ : ∃ N, wksV c y = N := ⟨_, rfl⟩
  obtain ⟨M, hM⟩ : ∃ N, wksV c t = N := ⟨_, rfl⟩
  rw [hN] at w3 hx
  rw [hM] at w6
  have HWY := hide (And.intro hN w1)
  have HWT := hide (And.intro hM w4)
  clear w1 w2 w4 w5 hN hM
  obtain ⟨a1, a2, _⟩ := added_bd hk hk6 hy
  obtain ⟨b1, b2, _⟩ := added_bd hk hk6 ht
  obtain ⟨a, ha⟩ : ∃ a, addedV c y = a := ⟨_, rfl⟩
  obtain ⟨b, hb⟩ : ∃ b, addedV c t = b := ⟨_, rfl⟩
  rw [ha] at a1 a2 hxa0 hr3 hr4 ⊢
  rw [hb] at b1 b2 ⊢
  have HA := hide ha
  have HB := hide hb
  have HY := hide hy
  have HT := hide ht
  have hpb : (c.policy == 1) = false := by simp [hp]
  have hpb2 : (c.policy == 2) = false := by simp [hp]
  clear hk hk6 hy ht hp ha hb
  have hxab : (x == a) = false := by simpa using hxa0
  have HXA := hide hxa0
  obtain ⟨r, hr⟩ : ∃ r, r = x - 1 := ⟨_, rfl⟩
  have HR := hide (show (if 0 < a ∧ a < x then x - 1 else x) = r by rw [if_pos ⟨hr3, hr4⟩, hr])
  have hrb : 1 ≤ r ∧ r ≤ 53 := by omega
  obtain ⟨hrb1, hrb2⟩ := hrb
  have HRX := hide hr
  clear hxa0 hr
  simp only [calV]
  go_enter Tryz.func26, Tryz.ntmps26
  go_wp2_with fail
  refine (r11check_any c _ hn).mono ?_
  rintro e w1 ⟨rfl, hb1⟩
  rw [HOK.out]
  have hz1 : w.heap.size < w1.heap.size := by have := hb1.size; simp at this; omega
  have HB1 := hide (show Below w.heap.size w w1 by refine Below.trans ?_ (hb1.mono (by first | omega | (simp; done) | (simp; omega))); (repeat' (first | (with_reducible exact Below.refl _ _) | (with_reducible assumption) | (with_reducible refine Below.alloc ?_ ?_ _) | (with_reducible refine below_drewN ?_ _) | (with_reducible refine Below.drew ?_) | (with_reducible refine Below.setCell ?_ ?_ _) | (with_reducible refine Below.trans ?_ (Below.mono (by assumption) ?_)) | go_size | (simp at *; omega))))
  have HQ1 := hide (calAt_below hb1 (by simp) (calAt_new w c))
  obtain ⟨q0, q1, q2, q3, q4, q5, q6, q7, q8, q9, q10, q11, q12, q13⟩ := HQ1.out
  clear hb1
  go_wp2_with fail
  refine (r19served_any c y _ true (by simp; have h := HY.out; unfold srv at h; omega)).mono ?_
  rintro e w2 ⟨rfl, hb2⟩
  have hz2 : w.heap.size < w2.heap.size := by have := hb2.size; (try simp at this); omega
  have HB2 := hide (show Below w.heap.size w w2 by have hp := HB1.out; refine Below.trans ?_ (hb2.mono (by first | omega | (simp; done) | (simp; omega))); (repeat' (first | (with_reducible exact Below.refl _ _) | (with_reducible assumption) | (with_reducible refine Below.alloc ?_ ?_ _) | (with_reducible refine below_drewN ?_ _) | (with_reducible refine Below.drew ?_) | (with_reducible refine Below.setCell ?_ ?_ _) | (with_reducible refine Below.trans ?_ (Below.mono (by assumption) ?_)) | go_size | (simp at *; omega))))
  have HQ2 := hide (show CalAt w2 w.heap.size c from calAt_below hb2 (by first | omega | (simp; done) | (simp; omega)) (by first | exact HQ1.out | exact calAt_alloc HQ1.out (by omega) _ | exact calAt_alloc (calAt_alloc HQ1.out (by omega) _) (by simp; omega) _))
  clear q0 q1 q2 q3 q4 q5 q6 q7 q8 q9 q10 q11 q12 q13
  obtain ⟨q0, q1, q2, q3, q4, q5, q6, q7, q8, q9, q10, q11, q12, q13⟩ := HQ2.out
  clear hb2
  go_wp2_with fail
  refine (r19served_any c t _ true (by simp; have h := HT.out; unfold srv at h; omega)).mono ?_
  rintro e w3 ⟨rfl, hb3⟩
  have hz3 : w.heap.size < w3.heap.size := by have := hb3.size; (try simp at this); omega
  have HB3 := hide (show Below w.heap.size w w3 by have hp := HB2.out; refine Below.trans ?_ (hb3.mono (by first | omega | (simp; done) | (simp; omega))); (repeat' (first | (with_reducible exact Below.refl _ _) | (with_reducible assumption) | (with_reducible refine Below.alloc ?_ ?_ _) | (with_reducible refine below_drewN ?_ _) | (with_reducible refine Below.drew ?_) | (with_reducible refine Below.setCell ?_ ?_ _) | (with_reducible refine Below.trans ?_ (Below.mono (by assumption) ?_)) | go_size | (simp at *; omega))))
  have HQ3 := hide (show CalAt w3 w.heap.size c from calAt_below hb3 (by first | omega | (simp; done) | (simp; omega)) (by first | exact HQ2.out | exact calAt_alloc HQ2.out (by omega) _ | exact calAt_alloc (calAt_alloc HQ2.out (by omega) _) (by simp; omega) _))
  clear q0 q1 q2 q3 q4 q5 q6 q7 q8 q9 q10 q11 q12 q13
  obtain ⟨q0, q1, q2, q3, q4, q5, q6, q7, q8, q9, q10, q11, q12, q13⟩ := HQ3.out
  clear hb3
  go_wp2_with fail
  refine (r13weeks_any c y _ hn).mono ?_
  rintro e w4 ⟨rfl, hb4⟩
  rw [HWY.out.1, HWY.out.2]
  have hz4 : w.heap.size < w4.heap.size := by have := hb4.size; (try simp at this); omega
  have HB4 := hide (show Below w.heap.size w w4 by have hp := HB3.out; refine Below.trans ?_ (hb4.mono (by first | omega | (simp; done) | (simp; omega))); (repeat' (first | (with_reducible exact Below.refl _ _) | (with_reducible assumption) | (with_reducible refine Below.alloc ?_ ?_ _) | (with_reducible refine below_drewN ?_ _) | (with_reducible refine Below.drew ?_) | (with_reducible refine Below.setCell ?_ ?_ _) | (with_reducible refine Below.trans ?_ (Below.mono (by assumption) ?_)) | go_size | (simp at *; omega))))
  have HQ4 := hide (show CalAt w4 w.heap.size c from calAt_below hb4 (by first | omega | (simp; done) | (simp; omega)) (by first | exact HQ3.out | exact calAt_alloc HQ3.out (by omega) _ | exact calAt_alloc (calAt_alloc HQ3.out (by omega) _) (by simp; omega) _))
  clear q0 q1 q2 q3 q4 q5 q6 q7 q8 q9 q10 q11 q12 q13
  obtain ⟨q0, q1, q2, q3, q4, q5, q6, q7, q8, q9, q10, q11, q12, q13⟩ := HQ4.out
  clear hb4
  go_wp2_with fail
  refine (r13weeks_any c t _ hn).mono ?_
  rintro e w5 ⟨rfl, hb5⟩
  rw [HWT.out.1, HWT.out.2]
  have hz5 : w.heap.size < w5.heap.size := by have := hb5.size; (try simp at this); omega
  have HB5 := hide (show Below w.heap.size w w5 by have hp := HB4.out; refine Below.trans ?_ (hb5.mono (by first | omega | (simp; done) | (simp; omega))); (repeat' (first | (with_reducible exact Below.refl _ _) | (with_reducible assumption) | (with_reducible refine Below.alloc ?_ ?_ _) | (with_reducible refine below_drewN ?_ _) | (with_reducible refine Below.drew ?_) | (with_reducible refine Below.setCell ?_ ?_ _) | (with_reducible refine Below.trans ?_ (Below.mono (by assumption) ?_)) | go_size | (simp at *; omega))))
  have HQ5 := hide (show CalAt w5 w.heap.size c from calAt_below hb5 (by first | omega | (simp; done) | (simp; omega)) (by first | exact HQ4.out | exact calAt_alloc HQ4.out (by omega) _ | exact calAt_alloc (calAt_alloc HQ4.out (by omega) _) (by simp; omega) _))
  clear q0 q1 q2 q3 q4 q5 q6 q7 q8 q9 q10 q11 q12 q13
  obtain ⟨q0, q1, q2, q3, q4, q5, q6, q7, q8, q9, q10, q11, q12, q13⟩ := HQ5.out
  clear hb5
  go_wp2_with fail
  all_goals first
    | (exfalso; omega)
    | skip
  refine (r15added_any c y _ hn).mono ?_
  rintro e w6 ⟨rfl, hb6⟩
  rw [HA.out, HWY.out.2]
  have hz6 : w.heap.size < w6.heap.size := by have := hb6.size; (try simp at this); omega
  have HB6 := hide (show Below w.heap.size w w6 by have hp := HB5.out; refine Below.trans ?_ (hb6.mono (by first | omega | (simp; done) | (simp; omega))); (repeat' (first | (with_reducible exact Below.refl _ _) | (with_reducible assumption) | (with_reducible refine Below.alloc ?_ ?_ _) | (with_reducible refine below_drewN ?_ _) | (with_reducible refine Below.drew ?_) | (with_reducible refine Below.setCell ?_ ?_ _) | (with_reducible refine Below.trans ?_ (Below.mono (by assumption) ?_)) | go_size | (simp at *; omega))))
  have HQ6 := hide (show CalAt w6 w.heap.size c from calAt_below hb6 (by first | omega | (simp; done) | (simp; omega)) (by first | exact HQ5.out | exact calAt_alloc HQ5.out (by omega) _ | exact calAt_alloc (calAt_alloc HQ5.out (by omega) _) (by simp; omega) _))
  clear q0 q1 q2 q3 q4 q5 q6 q7 q8 q9 q10 q11 q12 q13
  obtain ⟨q0, q1, q2, q3, q4, q5, q6, q7, q8, q9, q10, q11, q12, q13⟩ := HQ6.out
  clear hb6
  go_wp2_with fail
  refine (r15added_any c t _ hn).mono ?_
  rintro e w7 ⟨rfl, hb7⟩
  rw [HB.out, HWT.out.2]
  have hz7 : w.heap.size < w7.heap.size := by have := hb7.size; (try simp at this); omega
  have HB7 := hide (show Below w.heap.size w w7 by have hp := HB6.out; refine Below.trans ?_ (hb7.mono (by first | omega | (simp; done) | (simp; omega))); (repeat' (first | (with_reducible exact Below.refl _ _) | (with_reducible assumption) | (with_reducible refine Below.alloc ?_ ?_ _) | (with_reducible refine below_drewN ?_ _) | (with_reducible refine Below.drew ?_) | (with_reducible refine Below.setCell ?_ ?_ _) | (with_reducible refine Below.trans ?_ (Below.mono (by assumption) ?_)) | go_size | (simp at *; omega))))
  have HQ7 := hide (show CalAt w7 w.heap.size c from calAt_below hb7 (by first | omega | (simp; done) | (simp; omega)) (by first | exact HQ6.out | exact calAt_alloc HQ6.out (by omega) _ | exact calAt_alloc (calAt_alloc HQ6.out (by omega) _) (by simp; omega) _))
  clear q0 q1 q2 q3 q4 q5 q6 q7 q8 q9 q10 q11 q12 q13
  obtain ⟨q0, q1, q2, q3, q4, q5, q6, q7, q8, q9, q10, q11, q12, q13⟩ := HQ7.out
  clear hb7
  go_wp2_with fail
  all_goals first
    | (exfalso; omega)
    | skip
  go_loop [18, 19] (fun s18 s19 => ∃ v h : Int, s19 = .int .i64 v ∧ s18 = .int .i64 h ∧ 1 ≤ v ∧ v ≤ 60 ∧ 0 ≤ h ∧ h ≤ 60 ∧ ((h = r - v ∧ (b = 0 ∨ v ≤ b)) ∨ (h = r - v + 1 ∧ 0 < b ∧ b < v))) (fun _ s => (100 - intOf s).toNat)
  case atStart => exact ⟨1, r - 1, rfl, by have := HRX.out; congr 1; omega, by omega, by omega, by omega, by omega, .inl ⟨rfl, by omega⟩⟩
  case round =>
    obtain ⟨v, h, rfl, rfl, hv1, hv2, hh1, hh2, hcase⟩ := hrel
    by_cases hvb : v = b
    · subst hvb
      have hd := hcase
      have HD := hide hd
      clear hcase hd
      go_wp2
      go_round
      case rel => exact ⟨v + 1, h, rfl, rfl, by omega, by have := HD.out; omega, by omega, by omega, by have := HD.out; omega⟩
      case measure => simp [intOf]; omega
    · have hvb2 : (v == b) = false := by simpa using hvb
      have HD := hide hcase
      by_cases hh0 : h = 0
      · subst hh0
        have HV := hide (show dropV a b x = v by
          have := HD.out
          unfold dropV
          rw [if_neg HXA.out]
          have hr2 := HR.out
          rw [hr2]
          split <;> omega)
        clear hcase hvb
        have hBel := HB7.out
        go_wp2
        all_goals first
          | (exfalso; omega)
          | (go_ret2; exact ⟨ret_int2 HV.out.symm rfl, by (repeat' (first | (with_reducible exact Below.refl _ _) | (with_reducible assumption) | (with_reducible refine Below.alloc ?_ ?_ _) | (with_reducible refine below_drewN ?_ _) | (with_reducible refine Below.drew ?_) | (with_reducible refine Below.setCell ?_ ?_ _) | (with_reducible refine Below.trans ?_ (Below.mono (by assumption) ?_)) | go_size | (simp at *; omega)))⟩)
      · have hh3 : (h == 0) = false := by simpa using hh0
        clear hcase hvb hh0
        have hh4 : 1 ≤ h := by
          have h5 : ¬ h = 0 := by simpa using hh3
          omega
        have hvb3 : ¬ v = b := by simpa using hvb2
        have HVB := hide hvb3
        clear hvb3
        go_wp2
        go_round
        case rel => exact ⟨v + 1, h - 1, rfl, rfl, by omega, by have := HD.out; omega, by omega, by omega, by have h7 := HD.out; have h5 := HVB.out; omega⟩
        case measure => simp [intOf]; omega

set_option maxRecDepth 100000 in
set_option maxHeartbeats 3200000 in
theorem r19week_drop2 (c : Cal) (y t x : Int) (w : World) (hn : c.name.size ≤ 1000) (hk : c.okB = true) (hk6 : c.kind ≠ 6) (hy : srv c y) (ht : srv c t) (hx1 : 1 ≤ x) (hx : x ≤ wksV c y) (hp : c.policy = 3) (hxa0 : ¬ x = addedV c y) (hr3 : addedV c y ≤ 0) :
    Calls Tryz.prog 26 #[calV c, .int .i64 y, .int .i64 t, .int .i64 x] w fun e w' => e = .returned (.tuple #[.int .i64 (dropV (addedV c y) (addedV c t) x), .int .i64 0]) ∧ Below w.heap.size w w' := by
  have HOK := hide (show okE c = 0 by simp [okE, hk])
  have hkb : (c.kind == 6) = false := by simpa using hk6
  obtain ⟨w1, w2, w3⟩ := wks_srv hk hk6 hy
  obtain ⟨w4, w5, w6⟩ := wks_srv hk hk6 ht
  obtain ⟨N, hN⟩ : ∃ N, wksV c y = N := ⟨_, rfl⟩
  obtain ⟨M, hM⟩ : ∃ N, wksV c t = N := ⟨_, rfl⟩
  rw [hN] at w3 hx
  rw [hM] at w6
  have HWY := hide (And.intro hN w1)
  have HWT := hide (And.intro hM w4)
  clear w1 w2 w4 w5 hN hM
  obtain ⟨a1, a2, _⟩ := added_bd hk hk6 hy
  obtain ⟨b1, b2, _⟩ := added_bd hk hk6 ht
  obtain ⟨a, ha⟩ : ∃ a, addedV c y = a := ⟨_, rfl⟩
  obtain ⟨b, hb⟩ : ∃ b, addedV c t = b := ⟨_, rfl⟩
  rw [ha] at a1 a2 hxa0 hr3 ⊢
  rw [hb] at b1 b2 ⊢
  have HA := hide ha
  have HB := hide hb
  have HY := hide hy
  have HT := hide ht
  have hpb : (c.policy == 1) = false := by simp [hp]
  have hpb2 : (c.policy == 2) = false := by simp [hp]
  clear hk hk6 hy ht hp ha hb
  have hxab : (x == a) = false := by simpa using hxa0
  have HXA := hide hxa0
  obtain ⟨r, hr⟩ : ∃ r, r = x := ⟨_, rfl⟩
  have HR := hide (show (if 0 < a ∧ a < x then x - 1 else x) = r by rw [if_neg (by omega), hr])
  have hrb : 1 ≤ r ∧ r ≤ 53 := by omega
  obtain ⟨hrb1, hrb2⟩ := hrb
  have HRX := hide hr
  clear hxa0 hr
  simp only [calV]
  go_enter Tryz.func26, Tryz.ntmps26
  go_wp2_with fail
  refine (r11check_any c _ hn).mono ?_
  rintro e w1 ⟨rfl, hb1⟩
  rw [HOK.out]
  have hz1 : w.heap.size < w1.heap.size := by have := hb1.size; simp at this; omega
  have HB1 := hide (show Below w.heap.size w w1 by refine Below.trans ?_ (hb1.mono (by first | omega | (simp; done) | (simp; omega))); (repeat' (first | (with_reducible exact Below.refl _ _) | (with_reducible assumption) | (with_reducible refine Below.alloc ?_ ?_ _) | (with_reducible refine below_drewN ?_ _) | (with_reducible refine Below.drew ?_) | (with_reducible refine Below.setCell ?_ ?_ _) | (with_reducible refine Below.trans ?_ (Below.mono (by assumption) ?_)) | go_size | (simp at *; omega))))
  have HQ1 := hide (calAt_below hb1 (by simp) (calAt_new w c))
  obtain ⟨q0, q1, q2, q3, q4, q5, q6, q7, q8, q9, q10, q11, q12, q13⟩ := HQ1.out
  clear hb1
  go_wp2_with fail
  refine (r19served_any c y _ true (by simp; have h := HY.out; unfold srv at h; omega)).mono ?_
  rintro e w2 ⟨rfl, hb2⟩
  have hz2 : w.heap.size < w2.heap.size := by have := hb2.size; (try simp at this); omega
  have HB2 := hide (show Below w.heap.size w w2 by have hp := HB1.out; refine Below.trans ?_ (hb2.mono (by first | omega | (simp; done) | (simp; omega))); (repeat' (first | (with_reducible exact Below.refl _ _) | (with_reducible assumption) | (with_reducible refine Below.alloc ?_ ?_ _) | (with_reducible refine below_drewN ?_ _) | (with_reducible refine Below.drew ?_) | (with_reducible refine Below.setCell ?_ ?_ _) | (with_reducible refine Below.trans ?_ (Below.mono (by assumption) ?_)) | go_size | (simp at *; omega))))
  have HQ2 := hide (show CalAt w2 w.heap.size c from calAt_below hb2 (by first | omega | (simp; done) | (simp; omega)) (by first | exact HQ1.out | exact calAt_alloc HQ1.out (by omega) _ | exact calAt_alloc (calAt_alloc HQ1.out (by omega) _) (by simp; omega) _))
  clear q0 q1 q2 q3 q4 q5 q6 q7 q8 q9 q10 q11 q12 q13
  obtain ⟨q0, q1, q2, q3, q4, q5, q6, q7, q8, q9, q10, q11, q12, q13⟩ := HQ2.out
  clear hb2
  go_wp2_with fail
  refine (r19served_any c t _ true (by simp; have h := HT.out; unfold srv at h; omega)).mono ?_
  rintro e w3 ⟨rfl, hb3⟩
  have hz3 : w.heap.size < w3.heap.size := by have := hb3.size; (try simp at this); omega
  have HB3 := hide (show Below w.heap.size w w3 by have hp := HB2.out; refine Below.trans ?_ (hb3.mono (by first | omega | (simp; done) | (simp; omega))); (repeat' (first | (with_reducible exact Below.refl _ _) | (with_reducible assumption) | (with_reducible refine Below.alloc ?_ ?_ _) | (with_reducible refine below_drewN ?_ _) | (with_reducible refine Below.drew ?_) | (with_reducible refine Below.setCell ?_ ?_ _) | (with_reducible refine Below.trans ?_ (Below.mono (by assumption) ?_)) | go_size | (simp at *; omega))))
  have HQ3 := hide (show CalAt w3 w.heap.size c from calAt_below hb3 (by first | omega | (simp; done) | (simp; omega)) (by first | exact HQ2.out | exact calAt_alloc HQ2.out (by omega) _ | exact calAt_alloc (calAt_alloc HQ2.out (by omega) _) (by simp; omega) _))
  clear q0 q1 q2 q3 q4 q5 q6 q7 q8 q9 q10 q11 q12 q13
  obtain ⟨q0, q1, q2, q3, q4, q5, q6, q7, q8, q9, q10, q11, q12, q13⟩ := HQ3.out
  clear hb3
  go_wp2_with fail
  refine (r13weeks_any c y _ hn).mono ?_
  rintro e w4 ⟨rfl, hb4⟩
  rw [HWY.out.1, HWY.out.2]
  have hz4 : w.heap.size < w4.heap.size := by have := hb4.size; (try simp at this); omega
  have HB4 := hide (show Below w.heap.size w w4 by have hp := HB3.out; refine Below.trans ?_ (hb4.mono (by first | omega | (simp; done) | (simp; omega))); (repeat' (first | (with_reducible exact Below.refl _ _) | (with_reducible assumption) | (with_reducible refine Below.alloc ?_ ?_ _) | (with_reducible refine below_drewN ?_ _) | (with_reducible refine Below.drew ?_) | (with_reducible refine Below.setCell ?_ ?_ _) | (with_reducible refine Below.trans ?_ (Below.mono (by assumption) ?_)) | go_size | (simp at *; omega))))
  have HQ4 := hide (show CalAt w4 w.heap.size c from calAt_below hb4 (by first | omega | (simp; done) | (simp; omega)) (by first | exact HQ3.out | exact calAt_alloc HQ3.out (by omega) _ | exact calAt_alloc (calAt_alloc HQ3.out (by omega) _) (by simp; omega) _))
  clear q0 q1 q2 q3 q4 q5 q6 q7 q8 q9 q10 q11 q12 q13
  obtain ⟨q0, q1, q2, q3, q4, q5, q6, q7, q8, q9, q10, q11, q12, q13⟩ := HQ4.out
  clear hb4
  go_wp2_with fail
  refine (r13weeks_any c t _ hn).mono ?_
  rintro e w5 ⟨rfl, hb5⟩
  rw [HWT.out.1, HWT.out.2]
  have hz5 : w.heap.size < w5.heap.size := by have := hb5.size; (try simp at this); omega
  have HB5 := hide (show Below w.heap.size w w5 by have hp := HB4.out; refine Below.trans ?_ (hb5.mono (by first | omega | (simp; done) | (simp; omega))); (repeat' (first | (with_reducible exact Below.refl _ _) | (with_reducible assumption) | (with_reducible refine Below.alloc ?_ ?_ _) | (with_reducible refine below_drewN ?_ _) | (with_reducible refine Below.drew ?_) | (with_reducible refine Below.setCell ?_ ?_ _) | (with_reducible refine Below.trans ?_ (Below.mono (by assumption) ?_)) | go_size | (simp at *; omega))))
  have HQ5 := hide (show CalAt w5 w.heap.size c from calAt_below hb5 (by first | omega | (simp; done) | (simp; omega)) (by first | exact HQ4.out | exact calAt_alloc HQ4.out (by omega) _ | exact calAt_alloc (calAt_alloc HQ4.out (by omega) _) (by simp; omega) _))
  clear q0 q1 q2 q3 q4 q5 q6 q7 q8 q9 q10 q11 q12 q13
  obtain ⟨q0, q1, q2, q3, q4, q5, q6, q7, q8, q9, q10, q11, q12, q13⟩ := HQ5.out
  clear hb5
  go_wp2_with fail
  all_goals first
    | (exfalso; omega)
    | skip
  refine (r15added_any c y _ hn).mono ?_
  rintro e w6 ⟨rfl, hb6⟩
  rw [HA.out, HWY.out.2]
  have hz6 : w.heap.size < w6.heap.size := by have := hb6.size; (try simp at this); omega
  have HB6 := hide (show Below w.heap.size w w6 by have hp := HB5.out; refine Below.trans ?_ (hb6.mono (by first | omega | (simp; done) | (simp; omega))); (repeat' (first | (with_reducible exact Below.refl _ _) | (with_reducible assumption) | (with_reducible refine Below.alloc ?_ ?_ _) | (with_reducible refine below_drewN ?_ _) | (with_reducible refine Below.drew ?_) | (with_reducible refine Below.setCell ?_ ?_ _) | (with_reducible refine Below.trans ?_ (Below.mono (by assumption) ?_)) | go_size | (simp at *; omega))))
  have HQ6 := hide (show CalAt w6 w.heap.size c from calAt_below hb6 (by first | omega | (simp; done) | (simp; omega)) (by first | exact HQ5.out | exact calAt_alloc HQ5.out (by omega) _ | exact calAt_alloc (calAt_alloc HQ5.out (by omega) _) (by simp; omega) _))
  clear q0 q1 q2 q3 q4 q5 q6 q7 q8 q9 q10 q11 q12 q13
  obtain ⟨q0, q1, q2, q3, q4, q5, q6, q7, q8, q9, q10, q11, q12, q13⟩ := HQ6.out
  clear hb6
  go_wp2_with fail
  refine (r15added_any c t _ hn).mono ?_
  rintro e w7 ⟨rfl, hb7⟩
  rw [HB.out, HWT.out.2]
  have hz7 : w.heap.size < w7.heap.size := by have := hb7.size; (try simp at this); omega
  have HB7 := hide (show Below w.heap.size w w7 by have hp := HB6.out; refine Below.trans ?_ (hb7.mono (by first | omega | (simp; done) | (simp; omega))); (repeat' (first | (with_reducible exact Below.refl _ _) | (with_reducible assumption) | (with_reducible refine Below.alloc ?_ ?_ _) | (with_reducible refine below_drewN ?_ _) | (with_reducible refine Below.drew ?_) | (with_reducible refine Below.setCell ?_ ?_ _) | (with_reducible refine Below.trans ?_ (Below.mono (by assumption) ?_)) | go_size | (simp at *; omega))))
  have HQ7 := hide (show CalAt w7 w.heap.size c from calAt_below hb7 (by first | omega | (simp; done) | (simp; omega)) (by first | exact HQ6.out | exact calAt_alloc HQ6.out (by omega) _ | exact calAt_alloc (calAt_alloc HQ6.out (by omega) _) (by simp; omega) _))
  clear q0 q1 q2 q3 q4 q5 q6 q7 q8 q9 q10 q11 q12 q13
  obtain ⟨q0, q1, q2, q3, q4, q5, q6, q7, q8, q9, q10, q11, q12, q13⟩ := HQ7.out
  clear hb7
  go_wp2_with fail
  all_goals first
    | (exfalso; omega)
    | skip
  go_loop [18, 19] (fun s18 s19 => ∃ v h : Int, s19 = .int .i64 v ∧ s18 = .int .i64 h ∧ 1 ≤ v ∧ v ≤ 60 ∧ 0 ≤ h ∧ h ≤ 60 ∧ ((h = r - v ∧ (b = 0 ∨ v ≤ b)) ∨ (h = r - v + 1 ∧ 0 < b ∧ b < v))) (fun _ s => (100 - intOf s).toNat)
  case atStart => exact ⟨1, r - 1, rfl, by have := HRX.out; congr 1; omega, by omega, by omega, by omega, by omega, .inl ⟨rfl, by omega⟩⟩
  case round =>
    obtain ⟨v, h, rfl, rfl, hv1, hv2, hh1, hh2, hcase⟩ := hrel
    by_cases hvb : v = b
    · subst hvb
      have hd := hcase
      have HD := hide hd
      clear hcase hd
      go_wp2
      go_round
      case rel => exact ⟨v + 1, h, rfl, rfl, by omega, by have := HD.out; omega, by omega, by omega, by have := HD.out; omega⟩
      case measure => simp [intOf]; omega
    · have hvb2 : (v == b) = false := by simpa using hvb
      have HD := hide hcase
      by_cases hh0 : h = 0
      · subst hh0
        have HV := hide (show dropV a b x = v by
          have := HD.out
          unfold dropV
          rw [if_neg HXA.out]
          have hr2 := HR.out
          rw [hr2]
          split <;> omega)
        clear hcase hvb
        have hBel := HB7.out
        go_wp2
        all_goals first
          | (exfalso; omega)
          | (go_ret2; exact ⟨ret_int2 HV.out.symm rfl, by (repeat' (first | (with_reducible exact Below.refl _ _) | (with_reducible assumption) | (with_reducible refine Below.alloc ?_ ?_ _) | (with_reducible refine below_drewN ?_ _) | (with_reducible refine Below.drew ?_) | (with_reducible refine Below.setCell ?_ ?_ _) | (with_reducible refine Below.trans ?_ (Below.mono (by assumption) ?_)) | go_size | (simp at *; omega)))⟩)
      · have hh3 : (h == 0) = false := by simpa using hh0
        clear hcase hvb hh0
        have hh4 : 1 ≤ h := by
          have h5 : ¬ h = 0 := by simpa using hh3
          omega
        have hvb3 : ¬ v = b := by simpa using hvb2
        have HVB := hide hvb3
        clear hvb3
        go_wp2
        go_round
        case rel => exact ⟨v + 1, h - 1, rfl, rfl, by omega, by have := HD.out; omega, by omega, by omega, by have h7 := HD.out; have h5 := HVB.out; omega⟩
        case measure => simp [intOf]; omega

set_option maxRecDepth 100000 in
set_option maxHeartbeats 3200000 in
theorem r19week_drop3 (c : Cal) (y t x : Int) (w : World) (hn : c.name.size ≤ 1000) (hk : c.okB = true) (hk6 : c.kind ≠ 6) (hy : srv c y) (ht : srv c t) (hx1 : 1 ≤ x) (hx : x ≤ wksV c y) (hp : c.policy = 3) (hxa0 : ¬ x = addedV c y) (hr3 : 0 < addedV c y) (hr4 : x < addedV c y) :
    Calls Tryz.prog 26 #[calV c, .int .i64 y, .int .i64 t, .int .i64 x] w fun e w' => e = .returned (.tuple #[.int .i64 (dropV (addedV c y) (addedV c t) x), .int .i64 0]) ∧ Below w.heap.size w w' := by
  have HOK := hide (show okE c = 0 by simp [okE, hk])
  have hkb : (c.kind == 6) = false := by simpa using hk6
  obtain ⟨w1, w2, w3⟩ := wks_srv hk hk6 hy
  obtain ⟨w4, w5, w6⟩ := wks_srv hk hk6 ht
  obtain ⟨N, hN⟩ : ∃ N, wksV c y = N := ⟨_, rfl⟩
  obtain ⟨M, hM⟩ : ∃ N, wksV c t = N := ⟨_, rfl⟩
  rw [hN] at w3 hx
  rw [hM] at w6
  have HWY := hide (And.intro hN w1)
  have HWT := hide (And.intro hM w4)
  clear w1 w2 w4 w5 hN hM
  obtain ⟨a1, a2, _⟩ := added_bd hk hk6 hy
  obtain ⟨b1, b2, _⟩ := added_bd hk hk6 ht
  obtain ⟨a, ha⟩ : ∃ a, addedV c y = a := ⟨_, rfl⟩
  obtain ⟨b, hb⟩ : ∃ b, addedV c t = b := ⟨_, rfl⟩
  rw [ha] at a1 a2 hxa0 hr3 hr4 ⊢
  rw [hb] at b1 b2 ⊢
  have HA := hide ha
  have HB := hide hb
  have HY := hide hy
  have HT := hide ht
  have hpb : (c.policy == 1) = false := by simp [hp]
  have hpb2 : (c.policy == 2) = false := by simp [hp]
  clear hk hk6 hy ht hp ha hb
  have hxab : (x == a) = false := by simpa using hxa0
  have HXA := hide hxa0
  obtain ⟨r, hr⟩ : ∃ r, r = x := ⟨_, rfl⟩
  have HR := hide (show (if 0 < a ∧ a < x then x - 1 else x) = r by rw [if_neg (by omega), hr])
  have hrb : 1 ≤ r ∧ r ≤ 53 := by omega
  obtain ⟨hrb1, hrb2⟩ := hrb
  have HRX := hide hr
  clear hxa0 hr
  simp only [calV]
  go_enter Tryz.func26, Tryz.ntmps26
  go_wp2_with fail
  refine (r11check_any c _ hn).mono ?_
  rintro e w1 ⟨rfl, hb1⟩
  rw [HOK.out]
  have hz1 : w.heap.size < w1.heap.size := by have := hb1.size; simp at this; omega
  have HB1 := hide (show Below w.heap.size w w1 by refine Below.trans ?_ (hb1.mono (by first | omega | (simp; done) | (simp; omega))); (repeat' (first | (with_reducible exact Below.refl _ _) | (with_reducible assumption) | (with_reducible refine Below.alloc ?_ ?_ _) | (with_reducible refine below_drewN ?_ _) | (with_reducible refine Below.drew ?_) | (with_reducible refine Below.setCell ?_ ?_ _) | (with_reducible refine Below.trans ?_ (Below.mono (by assumption) ?_)) | go_size | (simp at *; omega))))
  have HQ1 := hide (calAt_below hb1 (by simp) (calAt_new w c))
  obtain ⟨q0, q1, q2, q3, q4, q5, q6, q7, q8, q9, q10, q11, q12, q13⟩ := HQ1.out
  clear hb1
  go_wp2_with fail
  refine (r19served_any c y _ true (by simp; have h := HY.out; unfold srv at h; omega)).mono ?_
  rintro e w2 ⟨rfl, hb2⟩
  have hz2 : w.heap.size < w2.heap.size := by have := hb2.size; (try simp at this); omega
  have HB2 := hide (show Below w.heap.size w w2 by have hp := HB1.out; refine Below.trans ?_ (hb2.mono (by first | omega | (simp; done) | (simp; omega))); (repeat' (first | (with_reducible exact Below.refl _ _) | (with_reducible assumption) | (with_reducible refine Below.alloc ?_ ?_ _) | (with_reducible refine below_drewN ?_ _) | (with_reducible refine Below.drew ?_) | (with_reducible refine Below.setCell ?_ ?_ _) | (with_reducible refine Below.trans ?_ (Below.mono (by assumption) ?_)) | go_size | (simp at *; omega))))
  have HQ2 := hide (show CalAt w2 w.heap.size c from calAt_below hb2 (by first | omega | (simp; done) | (simp; omega)) (by first | exact HQ1.out | exact calAt_alloc HQ1.out (by omega) _ | exact calAt_alloc (calAt_alloc HQ1.out (by omega) _) (by simp; omega) _))
  clear q0 q1 q2 q3 q4 q5 q6 q7 q8 q9 q10 q11 q12 q13
  obtain ⟨q0, q1, q2, q3, q4, q5, q6, q7, q8, q9, q10, q11, q12, q13⟩ := HQ2.out
  clear hb2
  go_wp2_with fail
  refine (r19served_any c t _ true (by simp; have h := HT.out; unfold srv at h; omega)).mono ?_
  rintro e w3 ⟨rfl, hb3⟩
  have hz3 : w.heap.size < w3.heap.size := by have := hb3.size; (try simp at this); omega
  have HB3 := hide (show Below w.heap.size w w3 by have hp := HB2.out; refine Below.trans ?_ (hb3.mono (by first | omega | (simp; done) | (simp; omega))); (repeat' (first | (with_reducible exact Below.refl _ _) | (with_reducible assumption) | (with_reducible refine Below.alloc ?_ ?_ _) | (with_reducible refine below_drewN ?_ _) | (with_reducible refine Below.drew ?_) | (with_reducible refine Below.setCell ?_ ?_ _) | (with_reducible refine Below.trans ?_ (Below.mono (by assumption) ?_)) | go_size | (simp at *; omega))))
  have HQ3 := hide (show CalAt w3 w.heap.size c from calAt_below hb3 (by first | omega | (simp; done) | (simp; omega)) (by first | exact HQ2.out | exact calAt_alloc HQ2.out (by omega) _ | exact calAt_alloc (calAt_alloc HQ2.out (by omega) _) (by simp; omega) _))
  clear q0 q1 q2 q3 q4 q5 q6 q7 q8 q9 q10 q11 q12 q13
  obtain ⟨q0, q1, q2, q3, q4, q5, q6, q7, q8, q9, q10, q11, q12, q13⟩ := HQ3.out
  clear hb3
  go_wp2_with fail
  refine (r13weeks_any c y _ hn).mono ?_
  rintro e w4 ⟨rfl, hb4⟩
  rw [HWY.out.1, HWY.out.2]
  have hz4 : w.heap.size < w4.heap.size := by have := hb4.size; (try simp at this); omega
  have HB4 := hide (show Below w.heap.size w w4 by have hp := HB3.out; refine Below.trans ?_ (hb4.mono (by first | omega | (simp; done) | (simp; omega))); (repeat' (first | (with_reducible exact Below.refl _ _) | (with_reducible assumption) | (with_reducible refine Below.alloc ?_ ?_ _) | (with_reducible refine below_drewN ?_ _) | (with_reducible refine Below.drew ?_) | (with_reducible refine Below.setCell ?_ ?_ _) | (with_reducible refine Below.trans ?_ (Below.mono (by assumption) ?_)) | go_size | (simp at *; omega))))
  have HQ4 := hide (show CalAt w4 w.heap.size c from calAt_below hb4 (by first | omega | (simp; done) | (simp; omega)) (by first | exact HQ3.out | exact calAt_alloc HQ3.out (by omega) _ | exact calAt_alloc (calAt_alloc HQ3.out (by omega) _) (by simp; omega) _))
  clear q0 q1 q2 q3 q4 q5 q6 q7 q8 q9 q10 q11 q12 q13
  obtain ⟨q0, q1, q2, q3, q4, q5, q6, q7, q8, q9, q10, q11, q12, q13⟩ := HQ4.out
  clear hb4
  go_wp2_with fail
  refine (r13weeks_any c t _ hn).mono ?_
  rintro e w5 ⟨rfl, hb5⟩
  rw [HWT.out.1, HWT.out.2]
  have hz5 : w.heap.size < w5.heap.size := by have := hb5.size; (try simp at this); omega
  have HB5 := hide (show Below w.heap.size w w5 by have hp := HB4.out; refine Below.trans ?_ (hb5.mono (by first | omega | (simp; done) | (simp; omega))); (repeat' (first | (with_reducible exact Below.refl _ _) | (with_reducible assumption) | (with_reducible refine Below.alloc ?_ ?_ _) | (with_reducible refine below_drewN ?_ _) | (with_reducible refine Below.drew ?_) | (with_reducible refine Below.setCell ?_ ?_ _) | (with_reducible refine Below.trans ?_ (Below.mono (by assumption) ?_)) | go_size | (simp at *; omega))))
  have HQ5 := hide (show CalAt w5 w.heap.size c from calAt_below hb5 (by first | omega | (simp; done) | (simp; omega)) (by first | exact HQ4.out | exact calAt_alloc HQ4.out (by omega) _ | exact calAt_alloc (calAt_alloc HQ4.out (by omega) _) (by simp; omega) _))
  clear q0 q1 q2 q3 q4 q5 q6 q7 q8 q9 q10 q11 q12 q13
  obtain ⟨q0, q1, q2, q3, q4, q5, q6, q7, q8, q9, q10, q11, q12, q13⟩ := HQ5.out
  clear hb5
  go_wp2_with fail
  all_goals first
    | (exfalso; omega)
    | skip
  refine (r15added_any c y _ hn).mono ?_
  rintro e w6 ⟨rfl, hb6⟩
  rw [HA.out, HWY.out.2]
  have hz6 : w.heap.size < w6.heap.size := by have := hb6.size; (try simp at this); omega
  have HB6 := hide (show Below w.heap.size w w6 by have hp := HB5.out; refine Below.trans ?_ (hb6.mono (by first | omega | (simp; done) | (simp; omega))); (repeat' (first | (with_reducible exact Below.refl _ _) | (with_reducible assumption) | (with_reducible refine Below.alloc ?_ ?_ _) | (with_reducible refine below_drewN ?_ _) | (with_reducible refine Below.drew ?_) | (with_reducible refine Below.setCell ?_ ?_ _) | (with_reducible refine Below.trans ?_ (Below.mono (by assumption) ?_)) | go_size | (simp at *; omega))))
  have HQ6 := hide (show CalAt w6 w.heap.size c from calAt_below hb6 (by first | omega | (simp; done) | (simp; omega)) (by first | exact HQ5.out | exact calAt_alloc HQ5.out (by omega) _ | exact calAt_alloc (calAt_alloc HQ5.out (by omega) _) (by simp; omega) _))
  clear q0 q1 q2 q3 q4 q5 q6 q7 q8 q9 q10 q11 q12 q13
  obtain ⟨q0, q1, q2, q3, q4, q5, q6, q7, q8, q9, q10, q11, q12, q13⟩ := HQ6.out
  clear hb6
  go_wp2_with fail
  refine (r15added_any c t _ hn).mono ?_
  rintro e w7 ⟨rfl, hb7⟩
  rw [HB.out, HWT.out.2]
  have hz7 : w.heap.size < w7.heap.size := by have := hb7.size; (try simp at this); omega
  have HB7 := hide (show Below w.heap.size w w7 by have hp := HB6.out; refine Below.trans ?_ (hb7.mono (by first | omega | (simp; done) | (simp; omega))); (repeat' (first | (with_reducible exact Below.refl _ _) | (with_reducible assumption) | (with_reducible refine Below.alloc ?_ ?_ _) | (with_reducible refine below_drewN ?_ _) | (with_reducible refine Below.drew ?_) | (with_reducible refine Below.setCell ?_ ?_ _) | (with_reducible refine Below.trans ?_ (Below.mono (by assumption) ?_)) | go_size | (simp at *; omega))))
  have HQ7 := hide (show CalAt w7 w.heap.size c from calAt_below hb7 (by first | omega | (simp; done) | (simp; omega)) (by first | exact HQ6.out | exact calAt_alloc HQ6.out (by omega) _ | exact calAt_alloc (calAt_alloc HQ6.out (by omega) _) (by simp; omega) _))
  clear q0 q1 q2 q3 q4 q5 q6 q7 q8 q9 q10 q11 q12 q13
  obtain ⟨q0, q1, q2, q3, q4, q5, q6, q7, q8, q9, q10, q11, q12, q13⟩ := HQ7.out
  clear hb7
  go_wp2_with fail
  all_goals first
    | (exfalso; omega)
    | skip
  go_loop [18, 19] (fun s18 s19 => ∃ v h : Int, s19 = .int .i64 v ∧ s18 = .int .i64 h ∧ 1 ≤ v ∧ v ≤ 60 ∧ 0 ≤ h ∧ h ≤ 60 ∧ ((h = r - v ∧ (b = 0 ∨ v ≤ b)) ∨ (h = r - v + 1 ∧ 0 < b ∧ b < v))) (fun _ s => (100 - intOf s).toNat)
  case atStart => exact ⟨1, r - 1, rfl, by have := HRX.out; congr 1; omega, by omega, by omega, by omega, by omega, .inl ⟨rfl, by omega⟩⟩
  case round =>
    obtain ⟨v, h, rfl, rfl, hv1, hv2, hh1, hh2, hcase⟩ := hrel
    by_cases hvb : v = b
    · subst hvb
      have hd := hcase
      have HD := hide hd
      clear hcase hd
      go_wp2
      go_round
      case rel => exact ⟨v + 1, h, rfl, rfl, by omega, by have := HD.out; omega, by omega, by omega, by have := HD.out; omega⟩
      case measure => simp [intOf]; omega
    · have hvb2 : (v == b) = false := by simpa using hvb
      have HD := hide hcase
      by_cases hh0 : h = 0
      · subst hh0
        have HV := hide (show dropV a b x = v by
          have := HD.out
          unfold dropV
          rw [if_neg HXA.out]
          have hr2 := HR.out
          rw [hr2]
          split <;> omega)
        clear hcase hvb
        have hBel := HB7.out
        go_wp2
        all_goals first
          | (exfalso; omega)
          | (go_ret2; exact ⟨ret_int2 HV.out.symm rfl, by (repeat' (first | (with_reducible exact Below.refl _ _) | (with_reducible assumption) | (with_reducible refine Below.alloc ?_ ?_ _) | (with_reducible refine below_drewN ?_ _) | (with_reducible refine Below.drew ?_) | (with_reducible refine Below.setCell ?_ ?_ _) | (with_reducible refine Below.trans ?_ (Below.mono (by assumption) ?_)) | go_size | (simp at *; omega)))⟩)
      · have hh3 : (h == 0) = false := by simpa using hh0
        clear hcase hvb hh0
        have hh4 : 1 ≤ h := by
          have h5 : ¬ h = 0 := by simpa using hh3
          omega
        have hvb3 : ¬ v = b := by simpa using hvb2
        have HVB := hide hvb3
        clear hvb3
        go_wp2
        go_round
        case rel => exact ⟨v + 1, h - 1, rfl, rfl, by omega, by have := HD.out; omega, by omega, by omega, by have h7 := HD.out; have h5 := HVB.out; omega⟩
        case measure => simp [intOf]; omega

theorem r19week_drop (c : Cal) (y t x : Int) (w : World) (hn : c.name.size ≤ 1000) (hk : c.okB = true) (hk6 : c.kind ≠ 6) (hy : srv c y) (ht : srv c t) (hx1 : 1 ≤ x) (hx : x ≤ wksV c y) (hp : c.policy = 3) (hxa0 : ¬ x = addedV c y) :
    Calls Tryz.prog 26 #[calV c, .int .i64 y, .int .i64 t, .int .i64 x] w fun e w' => e = .returned (.tuple #[.int .i64 (dropV (addedV c y) (addedV c t) x), .int .i64 0]) ∧ Below w.heap.size w w' := by
  by_cases h1 : 0 < addedV c y
  · by_cases h2 : addedV c y < x
    · exact r19week_drop1 c y t x w hn hk hk6 hy ht hx1 hx hp hxa0 h1 h2
    · exact r19week_drop3 c y t x w hn hk hk6 hy ht hx1 hx hp hxa0 h1 (by omega)
  · exact r19week_drop2 c y t x w hn hk hk6 hy ht hx1 hx hp hxa0 (by omega)

theorem r19week_any (c : Cal) (y t x : Int) (w : World) (hn : c.name.size ≤ 1000) :
    Calls Tryz.prog 26 #[calV c, .int .i64 y, .int .i64 t, .int .i64 x] w fun e w' => e = .returned (.tuple #[.int .i64 (cwV c y t x), .int .i64 (cwE c y t x)]) ∧ Below w.heap.size w w' := by
  have put : ∀ {v e' : Int}, cwE c y t x = e' → (e' = 0 → cwV c y t x = v) → (e' ≠ 0 → v = 0) → Calls Tryz.prog 26 #[calV c, .int .i64 y, .int .i64 t, .int .i64 x] w (fun e w' => e = .returned (.tuple #[.int .i64 v, .int .i64 e']) ∧ Below w.heap.size w w') → Calls Tryz.prog 26 #[calV c, .int .i64 y, .int .i64 t, .int .i64 x] w fun e w' => e = .returned (.tuple #[.int .i64 (cwV c y t x), .int .i64 (cwE c y t x)]) ∧ Below w.heap.size w w' := by
    intro v e' h1 h2 h3 h
    refine h.mono ?_
    rintro e w1 ⟨rfl, hb⟩
    refine ⟨?_, hb⟩
    rw [h1]
    by_cases h0 : e' = 0
    · rw [h2 h0]
    · rw [h3 h0, cwV, if_neg (by omega)]
  cases hk : c.okB
  · exact put (by simp [cwE, hk]) (fun h => by omega) (fun _ => rfl) (r19week_cal c y t x w hn hk)
  · by_cases hk6 : c.kind = 6
    · exact put (by rw [cwE, if_neg (fun h => h.2 hk6)]) (fun h => by omega) (fun _ => rfl) (r19week_mon c y t x w hn hk hk6)
    · by_cases hy : srv c y
      · by_cases ht : srv c t
        · by_cases hx : 1 ≤ x ∧ x ≤ wksV c y
          · rcases ok_pol hk hk6 with hp | hp | hp
            · have e0 : cwE c y t x = 0 := by rw [cw_in hk hk6 hy ht hx, if_neg (by omega)]
              exact put e0 (fun _ => by rw [cwV, if_pos e0, if_pos hp]) (fun h => absurd rfl h) (r19week_from c y t x w hn hk hk6 hy ht hx.1 hx.2 hp)
            · have e0 : cwE c y t x = 0 := by rw [cw_in hk hk6 hy ht hx, if_neg (by omega)]
              exact put e0 (fun _ => by rw [cwV, if_pos e0, if_neg (by omega), if_pos hp]) (fun h => absurd rfl h) (r19week_shift c y t x w hn hk hk6 hy ht hx.1 hx.2 hp)
            · by_cases hxa : x = addedV c y
              · have e0 : cwE c y t x = if addedV c t = 0 then 12 else 0 := by
                  rw [cw_in hk hk6 hy ht hx, if_pos hp, dropE]
                  by_cases hb : addedV c t = 0
                  · rw [if_pos ⟨hxa, hb⟩, if_pos hb]
                  · rw [if_neg (fun h => hb h.2), if_neg hb]
                refine put e0 (fun h => ?_) (fun h => ?_) (r19week_added c y t x w hn hk hk6 hy ht hx.1 hx.2 hp hxa)
                · rw [cwV, if_pos (by rw [e0]; exact h), if_neg (by omega), if_neg (by omega), dropV, if_pos hxa]
                  split at h
                  · omega
                  · rename_i hb; rw [if_neg hb]
                · split at h
                  · rename_i hb; rw [if_pos hb]
                  · exact absurd rfl h
              · have e0 : cwE c y t x = 0 := by rw [cw_in hk hk6 hy ht hx, if_pos hp, dropE, if_neg (fun h => hxa h.1)]
                exact put e0 (fun _ => by rw [cwV, if_pos e0, if_neg (by omega), if_neg (by omega)]) (fun h => absurd rfl h) (r19week_drop c y t x w hn hk hk6 hy ht hx.1 hx.2 hp hxa)
          · exact put (by rw [cwE, if_pos ⟨hk, hk6⟩, if_pos ⟨hy, ht⟩, if_neg hx]) (fun h => by omega) (fun _ => rfl) (r19week_none c y t x w hn hk hk6 hy ht (by omega))
        · exact put (by rw [cwE, if_pos ⟨hk, hk6⟩, if_neg (fun h => ht h.2)]) (fun h => by omega) (fun _ => rfl) (r19week_t c y t x w hn hk hk6 hy ht)
      · exact put (by rw [cwE, if_pos ⟨hk, hk6⟩, if_neg (fun h => hy h.1)]) (fun h => by omega) (fun _ => rfl) (r19week_y c y t x w hn hk hk6 hy)

end Go.Proofs.YtojdngkleiokgaaGreat

namespace Go.Proofs.YtojdngkleiokgaaGreat
open Go.RowKit Qd
set_option linter.unusedSimpArgs false
set_option linter.unusedVariables false

theorem ok_400 {c : Cal} (hk : c.okB = true) : c.last - c.first < 400 := by
  have hok : c.Ok := by simpa [Cal.okB] using hk
  exact hok.1.2.2.2

set_option maxRecDepth 100000 in
set_option maxHeartbeats 3200000 in
theorem r19day_no (c : Cal) (d k : Int) (w : World) (hn : c.name.size ≤ 1000) (hs : ¬ servE c d = 0) :
    Calls Tryz.prog 24 #[calV c, .int .i64 d, .int .i64 k] w fun e w' => e = .returned (.tuple #[.int .i64 0, .int .i64 (servE c d)]) ∧ Below w.heap.size w w' := by
  have hs' : (servE c d != 0) = true := by simpa using hs
  clear hs
  simp only [calV]
  go_enter Tryz.func24, Tryz.ntmps24
  go_wp2_with fail
  refine (r14served_any c d _ hn).mono ?_
  rintro e w1 ⟨rfl, hb1⟩
  skip
  have hz1 : w.heap.size < w1.heap.size := by have := hb1.size; simp at this; omega
  have HB1 := hide (show Below w.heap.size w w1 by refine Below.trans ?_ (hb1.mono (by first | omega | (simp; done) | (simp; omega))); (repeat' (first | (with_reducible exact Below.refl _ _) | (with_reducible assumption) | (with_reducible refine Below.alloc ?_ ?_ _) | (with_reducible refine below_drewN ?_ _) | (with_reducible refine Below.drew ?_) | (with_reducible refine Below.setCell ?_ ?_ _) | (with_reducible refine Below.trans ?_ (Below.mono (by assumption) ?_)) | go_size | (simp at *; omega))))
  have HQ1 := hide (calAt_below hb1 (by simp) (calAt_new w c))
  obtain ⟨q0, q1, q2, q3, q4, q5, q6, q7, q8, q9, q10, q11, q12, q13⟩ := HQ1.out
  clear hb1
  clear q0 q1 q2 q3 q4 q5 q6 q7 q8 q9 q10 q11 q12 q13
  go_wp2
  go_ret2
  exact ⟨rfl, HB1.out⟩

set_option maxRecDepth 100000 in
set_option maxHeartbeats 3200000 in
theorem r19day_far (c : Cal) (d k : Int) (w : World) (hn : c.name.size ≤ 1000) (hs : servE c d = 0) (hx : ¬ (c.first - servY c d ≤ k ∧ k ≤ c.last - servY c d)) :
    Calls Tryz.prog 24 #[calV c, .int .i64 d, .int .i64 k] w fun e w' => e = .returned (.tuple #[.int .i64 0, .int .i64 11]) ∧ Below w.heap.size w w' := by
  obtain ⟨hk, hd, hyr, hy1, hy2⟩ := serv_ok hs
  obtain ⟨_, _, b1, b2, b3⟩ := ok_years hk
  obtain ⟨y, hyy⟩ : ∃ y, y = servY c d := ⟨_, rfl⟩
  rw [← hyy] at hyr hy1 hy2 hx
  have HS := hide hs
  have HY := hide hyy
  clear hs hd hyr hyy hk
  have h3 : k < -400 ∨ (-400 ≤ k ∧ 400 < k) ∨ (-400 ≤ k ∧ k ≤ 400) := by omega
  rcases h3 with h3 | ⟨h3, h4⟩ | ⟨h3, h4⟩
  · clear hx
    simp only [calV]
    go_enter Tryz.func24, Tryz.ntmps24
    go_wp2_with fail
    refine (r14served_any c d _ hn).mono ?_
    rintro e w1 ⟨rfl, hb1⟩
    rw [HS.out, ← HY.out]
    have hz1 : w.heap.size < w1.heap.size := by have := hb1.size; simp at this; omega
    have HB1 := hide (show Below w.heap.size w w1 by refine Below.trans ?_ (hb1.mono (by first | omega | (simp; done) | (simp; omega))); (repeat' (first | (with_reducible exact Below.refl _ _) | (with_reducible assumption) | (with_reducible refine Below.alloc ?_ ?_ _) | (with_reducible refine below_drewN ?_ _) | (with_reducible refine Below.drew ?_) | (with_reducible refine Below.setCell ?_ ?_ _) | (with_reducible refine Below.trans ?_ (Below.mono (by assumption) ?_)) | go_size | (simp at *; omega))))
    have HQ1 := hide (calAt_below hb1 (by simp) (calAt_new w c))
    obtain ⟨q0, q1, q2, q3, q4, q5, q6, q7, q8, q9, q10, q11, q12, q13⟩ := HQ1.out
    clear hb1
    go_wp2
    all_goals first
      | (exfalso; omega)
      | (go_ret2; exact ⟨rfl, HB1.out⟩)
  · clear hx
    simp only [calV]
    go_enter Tryz.func24, Tryz.ntmps24
    go_wp2_with fail
    refine (r14served_any c d _ hn).mono ?_
    rintro e w1 ⟨rfl, hb1⟩
    rw [HS.out, ← HY.out]
    have hz1 : w.heap.size < w1.heap.size := by have := hb1.size; simp at this; omega
    have HB1 := hide (show Below w.heap.size w w1 by refine Below.trans ?_ (hb1.mono (by first | omega | (simp; done) | (simp; omega))); (repeat' (first | (with_reducible exact Below.refl _ _) | (with_reducible assumption) | (with_reducible refine Below.alloc ?_ ?_ _) | (with_reducible refine below_drewN ?_ _) | (with_reducible refine Below.drew ?_) | (with_reducible refine Below.setCell ?_ ?_ _) | (with_reducible refine Below.trans ?_ (Below.mono (by assumption) ?_)) | go_size | (simp at *; omega))))
    have HQ1 := hide (calAt_below hb1 (by simp) (calAt_new w c))
    obtain ⟨q0, q1, q2, q3, q4, q5, q6, q7, q8, q9, q10, q11, q12, q13⟩ := HQ1.out
    clear hb1
    go_wp2
    all_goals first
      | (exfalso; omega)
      | (go_ret2; exact ⟨rfl, HB1.out⟩)
  · have HX := hide hx
    clear hx
    simp only [calV]
    go_enter Tryz.func24, Tryz.ntmps24
    go_wp2_with fail
    refine (r14served_any c d _ hn).mono ?_
    rintro e w1 ⟨rfl, hb1⟩
    rw [HS.out, ← HY.out]
    have hz1 : w.heap.size < w1.heap.size := by have := hb1.size; simp at this; omega
    have HB1 := hide (show Below w.heap.size w w1 by refine Below.trans ?_ (hb1.mono (by first | omega | (simp; done) | (simp; omega))); (repeat' (first | (with_reducible exact Below.refl _ _) | (with_reducible assumption) | (with_reducible refine Below.alloc ?_ ?_ _) | (with_reducible refine below_drewN ?_ _) | (with_reducible refine Below.drew ?_) | (with_reducible refine Below.setCell ?_ ?_ _) | (with_reducible refine Below.trans ?_ (Below.mono (by assumption) ?_)) | go_size | (simp at *; omega))))
    have HQ1 := hide (calAt_below hb1 (by simp) (calAt_new w c))
    obtain ⟨q0, q1, q2, q3, q4, q5, q6, q7, q8, q9, q10, q11, q12, q13⟩ := HQ1.out
    clear hb1
    go_wp2_with fail
    all_goals first
      | (exfalso; omega)
      | skip
    refine (r19served_any c (y + k) _ false (by simp; have := HX.out; omega)).mono ?_
    rintro e w2 ⟨rfl, hb2⟩
    have hz2 : w.heap.size < w2.heap.size := by have := hb2.size; (try simp at this); omega
    have HB2 := hide (show Below w.heap.size w w2 by have hp := HB1.out; refine Below.trans ?_ (hb2.mono (by first | omega | (simp; done) | (simp; omega))); (repeat' (first | (with_reducible exact Below.refl _ _) | (with_reducible assumption) | (with_reducible refine Below.alloc ?_ ?_ _) | (with_reducible refine below_drewN ?_ _) | (with_reducible refine Below.drew ?_) | (with_reducible refine Below.setCell ?_ ?_ _) | (with_reducible refine Below.trans ?_ (Below.mono (by assumption) ?_)) | go_size | (simp at *; omega))))
    have HQ2 := hide (show CalAt w2 w.heap.size c from calAt_below hb2 (by first | omega | (simp; done) | (simp; omega)) (by first | exact HQ1.out | exact calAt_alloc HQ1.out (by omega) _ | exact calAt_alloc (calAt_alloc HQ1.out (by omega) _) (by simp; omega) _))
    clear q0 q1 q2 q3 q4 q5 q6 q7 q8 q9 q10 q11 q12 q13
    obtain ⟨q0, q1, q2, q3, q4, q5, q6, q7, q8, q9, q10, q11, q12, q13⟩ := HQ2.out
    clear hb2
    go_wp2
    all_goals first
      | (exfalso; omega)
      | (go_ret2; exact ⟨rfl, HB2.out⟩)

set_option maxRecDepth 100000 in
set_option maxHeartbeats 3200000 in
theorem r19day_gone (c : Cal) (d k : Int) (w : World) (hn : c.name.size ≤ 1000) (hs : servE c d = 0) (hx : c.first - servY c d ≤ k ∧ k ≤ c.last - servY c d) (hk6 : c.kind ≠ 6) (hc : ¬ cwE c (servY c d) (servY c d + k) ((d - startV c (servY c d)) / 7 + 1) = 0) :
    Calls Tryz.prog 24 #[calV c, .int .i64 d, .int .i64 k] w fun e w' => e = .returned (.tuple #[.int .i64 0, .int .i64 (cwE c (servY c d) (servY c d + k) ((d - startV c (servY c d)) / 7 + 1))]) ∧ Below w.heap.size w w' := by
  obtain ⟨hk, hd, hyr, hy1, hy2⟩ := serv_ok hs
  obtain ⟨_, _, b1, b2, b3⟩ := ok_years hk
  have hk400 := ok_400 hk
  obtain ⟨y, hyy⟩ : ∃ y, y = servY c d := ⟨_, rfl⟩
  obtain ⟨f1, f2, f3, f4, f5, f6⟩ := fd_week hs hk6
  have hf5 := fd_served hs 5 (by omega) (by omega)
  have hdd : 0 ≤ d ∧ d < 3068037 := by simpa [isB] using hd
  clear hyy
  clear y
  generalize hyy0 : servY c d = y at *
  have hyy := hyy0.symm
  clear hyy0
  have hsy : srv c y := ⟨hy1, hy2⟩
  have hst : srv c (y + k) := ⟨by omega, by omega⟩
  have hcb := cw_bd hk hk6 hsy hst ⟨f4, f5⟩
  have hA2 := (wks_srv hk hk6 hst).2.1
  have hyb := year_bd c (y + k) hA2
  have hkb : (c.kind == 6) = false := by simpa using hk6
  obtain ⟨x, hxx⟩ : ∃ x, x = (d - startV c y) / 7 + 1 := ⟨_, rfl⟩
  obtain ⟨m, hmm⟩ : ∃ m, m = (d - startV c y) % 7 := ⟨_, rfl⟩
  have hm7 : 0 ≤ m ∧ m < 7 := by omega
  rw [← hxx] at f1 f2 f3 f4 f5 f6 hc hcb ⊢
  rw [← hmm] at f3
  obtain ⟨S, hS⟩ : ∃ S, S = spV c ⟨5, y, x⟩ := ⟨_, rfl⟩
  rw [← hS] at f3 f6
  have HSP := hide hS
  obtain ⟨sa, sb⟩ := S
  simp only at f3 f6
  obtain rfl : sa = d - m := f3
  have HS := hide hs
  have HY := hide hyy
  have HF5 := hide hf5
  have HFU := hide f1
  have HUE := hide f2
  have HA2 := hide hA2
  have HC := hide (show (cwE c y (y + k) x != 0) = true by simpa using hc)
  obtain ⟨V, hV⟩ : ∃ V, V = cwV c y (y + k) x := ⟨_, rfl⟩
  rw [← hV] at hcb
  have HV := hide hV
  obtain ⟨hx1, hx2⟩ := hx
  clear hs hd hyr hyy hk hk6 f1 f2 hf5 hc hS hA2 hsy hst hxx hmm hV
  simp only [calV]
  go_enter Tryz.func24, Tryz.ntmps24
  go_wp2_with fail
  refine (r14served_any c d _ hn).mono ?_
  rintro e w1 ⟨rfl, hb1⟩
  rw [HS.out, ← HY.out]
  have hz1 : w.heap.size < w1.heap.size := by have := hb1.size; simp at this; omega
  have HB1 := hide (show Below w.heap.size w w1 by refine Below.trans ?_ (hb1.mono (by first | omega | (simp; done) | (simp; omega))); (repeat' (first | (with_reducible exact Below.refl _ _) | (with_reducible assumption) | (with_reducible refine Below.alloc ?_ ?_ _) | (with_reducible refine below_drewN ?_ _) | (with_reducible refine Below.drew ?_) | (with_reducible refine Below.setCell ?_ ?_ _) | (with_reducible refine Below.trans ?_ (Below.mono (by assumption) ?_)) | go_size | (simp at *; omega))))
  have HQ1 := hide (calAt_below hb1 (by simp) (calAt_new w c))
  obtain ⟨q0, q1, q2, q3, q4, q5, q6, q7, q8, q9, q10, q11, q12, q13⟩ := HQ1.out
  clear hb1
  go_wp2_with fail
  all_goals first
    | (exfalso; omega)
    | skip
  refine (r19served_any c (y + k) _ true (by simp; omega)).mono ?_
  rintro e w2 ⟨rfl, hb2⟩
  have hz2 : w.heap.size < w2.heap.size := by have := hb2.size; (try simp at this); omega
  have HB2 := hide (show Below w.heap.size w w2 by have hp := HB1.out; refine Below.trans ?_ (hb2.mono (by first | omega | (simp; done) | (simp; omega))); (repeat' (first | (with_reducible exact Below.refl _ _) | (with_reducible assumption) | (with_reducible refine Below.alloc ?_ ?_ _) | (with_reducible refine below_drewN ?_ _) | (with_reducible refine Below.drew ?_) | (with_reducible refine Below.setCell ?_ ?_ _) | (with_reducible refine Below.trans ?_ (Below.mono (by assumption) ?_)) | go_size | (simp at *; omega))))
  have HQ2 := hide (show CalAt w2 w.heap.size c from calAt_below hb2 (by first | omega | (simp; done) | (simp; omega)) (by first | exact HQ1.out | exact calAt_alloc HQ1.out (by omega) _ | exact calAt_alloc (calAt_alloc HQ1.out (by omega) _) (by simp; omega) _))
  clear q0 q1 q2 q3 q4 q5 q6 q7 q8 q9 q10 q11 q12 q13
  obtain ⟨q0, q1, q2, q3, q4, q5, q6, q7, q8, q9, q10, q11, q12, q13⟩ := HQ2.out
  clear hb2
  go_wp2_with fail
  all_goals first
    | (exfalso; omega)
    | skip
  refine (r17day_any c d 5 _ hn).mono ?_
  rintro e w3 ⟨rfl, hb3⟩
  rw [HF5.out, HFU.out]
  simp only [unitV]
  have hz3 : w.heap.size < w3.heap.size := by have := hb3.size; (try simp at this); omega
  have HB3 := hide (show Below w.heap.size w w3 by have hp := HB2.out; refine Below.trans ?_ (hb3.mono (by first | omega | (simp; done) | (simp; omega))); (repeat' (first | (with_reducible exact Below.refl _ _) | (with_reducible assumption) | (with_reducible refine Below.alloc ?_ ?_ _) | (with_reducible refine below_drewN ?_ _) | (with_reducible refine Below.drew ?_) | (with_reducible refine Below.setCell ?_ ?_ _) | (with_reducible refine Below.trans ?_ (Below.mono (by assumption) ?_)) | go_size | (simp at *; omega))))
  have HQ3 := hide (show CalAt w3 w.heap.size c from calAt_below hb3 (by first | omega | (simp; done) | (simp; omega)) (by first | exact HQ2.out | exact calAt_alloc HQ2.out (by omega) _ | exact calAt_alloc (calAt_alloc HQ2.out (by omega) _) (by simp; omega) _))
  clear q0 q1 q2 q3 q4 q5 q6 q7 q8 q9 q10 q11 q12 q13
  obtain ⟨q0, q1, q2, q3, q4, q5, q6, q7, q8, q9, q10, q11, q12, q13⟩ := HQ3.out
  clear hb3
  go_wp2_with fail
  refine (r16span_any c ⟨5, y, x⟩ _ hn).mono ?_
  rintro e w4 ⟨rfl, hb4⟩
  rw [HUE.out, ← HSP.out]
  simp only [spanV]
  have HX4 := hide (show UnAt w4 w3.heap.size ⟨5, y, x⟩ from unAt_below hb4 (by simp) (unAt_fresh w3 ⟨5, y, x⟩))
  have hX4 : w3.heap.size < w4.heap.size := by have := hb4.size; (try simp at this); omega
  have hz4 : w.heap.size < w4.heap.size := by have := hb4.size; (try simp at this); omega
  have HB4 := hide (show Below w.heap.size w w4 by have hp := HB3.out; refine Below.trans ?_ (hb4.mono (by first | omega | (simp; done) | (simp; omega))); (repeat' (first | (with_reducible exact Below.refl _ _) | (with_reducible assumption) | (with_reducible refine Below.alloc ?_ ?_ _) | (with_reducible refine below_drewN ?_ _) | (with_reducible refine Below.drew ?_) | (with_reducible refine Below.setCell ?_ ?_ _) | (with_reducible refine Below.trans ?_ (Below.mono (by assumption) ?_)) | go_size | (simp at *; omega))))
  have HQ4 := hide (show CalAt w4 w.heap.size c from calAt_below hb4 (by first | omega | (simp; done) | (simp; omega)) (by first | exact HQ3.out | exact calAt_alloc HQ3.out (by omega) _ | exact calAt_alloc (calAt_alloc HQ3.out (by omega) _) (by simp; omega) _))
  clear q0 q1 q2 q3 q4 q5 q6 q7 q8 q9 q10 q11 q12 q13
  obtain ⟨q0, q1, q2, q3, q4, q5, q6, q7, q8, q9, q10, q11, q12, q13⟩ := HQ4.out
  clear hb4
  obtain ⟨x0, x1, x2⟩ := HX4.out
  go_wp2_with fail
  all_goals first
    | (exfalso; omega)
    | skip
  refine (r19week_any c y (y + k) x _ hn).mono ?_
  rintro e w5 ⟨rfl, hb5⟩
  rw [← HV.out]
  clear x0 x1 x2
  have hz5 : w.heap.size < w5.heap.size := by have := hb5.size; (try simp at this); omega
  have HB5 := hide (show Below w.heap.size w w5 by have hp := HB4.out; refine Below.trans ?_ (hb5.mono (by first | omega | (simp; done) | (simp; omega))); (repeat' (first | (with_reducible exact Below.refl _ _) | (with_reducible assumption) | (with_reducible refine Below.alloc ?_ ?_ _) | (with_reducible refine below_drewN ?_ _) | (with_reducible refine Below.drew ?_) | (with_reducible refine Below.setCell ?_ ?_ _) | (with_reducible refine Below.trans ?_ (Below.mono (by assumption) ?_)) | go_size | (simp at *; omega))))
  have HQ5 := hide (show CalAt w5 w.heap.size c from calAt_below hb5 (by first | omega | (simp; done) | (simp; omega)) (by first | exact HQ4.out | exact calAt_alloc HQ4.out (by omega) _ | exact calAt_alloc (calAt_alloc HQ4.out (by omega) _) (by simp; omega) _))
  clear q0 q1 q2 q3 q4 q5 q6 q7 q8 q9 q10 q11 q12 q13
  obtain ⟨q0, q1, q2, q3, q4, q5, q6, q7, q8, q9, q10, q11, q12, q13⟩ := HQ5.out
  clear hb5
  have hcc := HC.out
  clear q0 q1 q2 q3 q4 q5 q6 q7 q8 q9 q10 q11 q12 q13
  go_wp2
  all_goals first
    | (exfalso; omega)
    | (go_ret2; exact ⟨rfl, HB5.out⟩)

set_option maxRecDepth 100000 in
set_option maxHeartbeats 3200000 in
theorem r19day_week (c : Cal) (d k : Int) (w : World) (hn : c.name.size ≤ 1000) (hs : servE c d = 0) (hx : c.first - servY c d ≤ k ∧ k ≤ c.last - servY c d) (hk6 : c.kind ≠ 6) (hc : cwE c (servY c d) (servY c d + k) ((d - startV c (servY c d)) / 7 + 1) = 0) :
    Calls Tryz.prog 24 #[calV c, .int .i64 d, .int .i64 k] w fun e w' => e = .returned (.tuple #[.int .i64 (startV c (servY c d + k) + 7 * (cwV c (servY c d) (servY c d + k) ((d - startV c (servY c d)) / 7 + 1) - 1) + (d - startV c (servY c d)) % 7), .int .i64 0]) ∧ Below w.heap.size w w' := by
  obtain ⟨hk, hd, hyr, hy1, hy2⟩ := serv_ok hs
  obtain ⟨_, _, b1, b2, b3⟩ := ok_years hk
  have hk400 := ok_400 hk
  obtain ⟨y, hyy⟩ : ∃ y, y = servY c d := ⟨_, rfl⟩
  obtain ⟨f1, f2, f3, f4, f5, f6⟩ := fd_week hs hk6
  have hf5 := fd_served hs 5 (by omega) (by omega)
  have hdd : 0 ≤ d ∧ d < 3068037 := by simpa [isB] using hd
  clear hyy
  clear y
  generalize hyy0 : servY c d = y at *
  have hyy := hyy0.symm
  clear hyy0
  have hsy : srv c y := ⟨hy1, hy2⟩
  have hst : srv c (y + k) := ⟨by omega, by omega⟩
  have hcb := cw_bd hk hk6 hsy hst ⟨f4, f5⟩
  have hA2 := (wks_srv hk hk6 hst).2.1
  have hyb := year_bd c (y + k) hA2
  have hkb : (c.kind == 6) = false := by simpa using hk6
  obtain ⟨x, hxx⟩ : ∃ x, x = (d - startV c y) / 7 + 1 := ⟨_, rfl⟩
  obtain ⟨m, hmm⟩ : ∃ m, m = (d - startV c y) % 7 := ⟨_, rfl⟩
  have hm7 : 0 ≤ m ∧ m < 7 := by omega
  rw [← hxx] at f1 f2 f3 f4 f5 f6 hc hcb ⊢
  rw [← hmm] at f3
  rw [← hmm]
  obtain ⟨S, hS⟩ : ∃ S, S = spV c ⟨5, y, x⟩ := ⟨_, rfl⟩
  rw [← hS] at f3 f6
  have HSP := hide hS
  obtain ⟨sa, sb⟩ := S
  simp only at f3 f6
  obtain rfl : sa = d - m := f3
  have HS := hide hs
  have HY := hide hyy
  have HF5 := hide hf5
  have HFU := hide f1
  have HUE := hide f2
  have HA2 := hide hA2
  have HC := hide hc
  obtain ⟨V, hV⟩ : ∃ V, V = cwV c y (y + k) x := ⟨_, rfl⟩
  rw [← hV] at hcb ⊢
  have HV := hide hV
  obtain ⟨hx1, hx2⟩ := hx
  clear hs hd hyr hyy hk hk6 f1 f2 hf5 hc hS hA2 hsy hst hxx hmm hV
  simp only [calV]
  go_enter Tryz.func24, Tryz.ntmps24
  go_wp2_with fail
  refine (r14served_any c d _ hn).mono ?_
  rintro e w1 ⟨rfl, hb1⟩
  rw [HS.out, ← HY.out]
  have hz1 : w.heap.size < w1.heap.size := by have := hb1.size; simp at this; omega
  have HB1 := hide (show Below w.heap.size w w1 by refine Below.trans ?_ (hb1.mono (by first | omega | (simp; done) | (simp; omega))); (repeat' (first | (with_reducible exact Below.refl _ _) | (with_reducible assumption) | (with_reducible refine Below.alloc ?_ ?_ _) | (with_reducible refine below_drewN ?_ _) | (with_reducible refine Below.drew ?_) | (with_reducible refine Below.setCell ?_ ?_ _) | (with_reducible refine Below.trans ?_ (Below.mono (by assumption) ?_)) | go_size | (simp at *; omega))))
  have HQ1 := hide (calAt_below hb1 (by simp) (calAt_new w c))
  obtain ⟨q0, q1, q2, q3, q4, q5, q6, q7, q8, q9, q10, q11, q12, q13⟩ := HQ1.out
  clear hb1
  go_wp2_with fail
  all_goals first
    | (exfalso; omega)
    | skip
  refine (r19served_any c (y + k) _ true (by simp; omega)).mono ?_
  rintro e w2 ⟨rfl, hb2⟩
  have hz2 : w.heap.size < w2.heap.size := by have := hb2.size; (try simp at this); omega
  have HB2 := hide (show Below w.heap.size w w2 by have hp := HB1.out; refine Below.trans ?_ (hb2.mono (by first | omega | (simp; done) | (simp; omega))); (repeat' (first | (with_reducible exact Below.refl _ _) | (with_reducible assumption) | (with_reducible refine Below.alloc ?_ ?_ _) | (with_reducible refine below_drewN ?_ _) | (with_reducible refine Below.drew ?_) | (with_reducible refine Below.setCell ?_ ?_ _) | (with_reducible refine Below.trans ?_ (Below.mono (by assumption) ?_)) | go_size | (simp at *; omega))))
  have HQ2 := hide (show CalAt w2 w.heap.size c from calAt_below hb2 (by first | omega | (simp; done) | (simp; omega)) (by first | exact HQ1.out | exact calAt_alloc HQ1.out (by omega) _ | exact calAt_alloc (calAt_alloc HQ1.out (by omega) _) (by simp; omega) _))
  clear q0 q1 q2 q3 q4 q5 q6 q7 q8 q9 q10 q11 q12 q13
  obtain ⟨q0, q1, q2, q3, q4, q5, q6, q7, q8, q9, q10, q11, q12, q13⟩ := HQ2.out
  clear hb2
  go_wp2_with fail
  all_goals first
    | (exfalso; omega)
    | skip
  refine (r17day_any c d 5 _ hn).mono ?_
  rintro e w3 ⟨rfl, hb3⟩
  rw [HF5.out, HFU.out]
  simp only [unitV]
  have hz3 : w.heap.size < w3.heap.size := by have := hb3.size; (try simp at this); omega
  have HB3 := hide (show Below w.heap.size w w3 by have hp := HB2.out; refine Below.trans ?_ (hb3.mono (by first | omega | (simp; done) | (simp; omega))); (repeat' (first | (with_reducible exact Below.refl _ _) | (with_reducible assumption) | (with_reducible refine Below.alloc ?_ ?_ _) | (with_reducible refine below_drewN ?_ _) | (with_reducible refine Below.drew ?_) | (with_reducible refine Below.setCell ?_ ?_ _) | (with_reducible refine Below.trans ?_ (Below.mono (by assumption) ?_)) | go_size | (simp at *; omega))))
  have HQ3 := hide (show CalAt w3 w.heap.size c from calAt_below hb3 (by first | omega | (simp; done) | (simp; omega)) (by first | exact HQ2.out | exact calAt_alloc HQ2.out (by omega) _ | exact calAt_alloc (calAt_alloc HQ2.out (by omega) _) (by simp; omega) _))
  clear q0 q1 q2 q3 q4 q5 q6 q7 q8 q9 q10 q11 q12 q13
  obtain ⟨q0, q1, q2, q3, q4, q5, q6, q7, q8, q9, q10, q11, q12, q13⟩ := HQ3.out
  clear hb3
  go_wp2_with fail
  refine (r16span_any c ⟨5, y, x⟩ _ hn).mono ?_
  rintro e w4 ⟨rfl, hb4⟩
  rw [HUE.out, ← HSP.out]
  simp only [spanV]
  have HX4 := hide (show UnAt w4 w3.heap.size ⟨5, y, x⟩ from unAt_below hb4 (by simp) (unAt_fresh w3 ⟨5, y, x⟩))
  have hX4 : w3.heap.size < w4.heap.size := by have := hb4.size; (try simp at this); omega
  have hz4 : w.heap.size < w4.heap.size := by have := hb4.size; (try simp at this); omega
  have HB4 := hide (show Below w.heap.size w w4 by have hp := HB3.out; refine Below.trans ?_ (hb4.mono (by first | omega | (simp; done) | (simp; omega))); (repeat' (first | (with_reducible exact Below.refl _ _) | (with_reducible assumption) | (with_reducible refine Below.alloc ?_ ?_ _) | (with_reducible refine below_drewN ?_ _) | (with_reducible refine Below.drew ?_) | (with_reducible refine Below.setCell ?_ ?_ _) | (with_reducible refine Below.trans ?_ (Below.mono (by assumption) ?_)) | go_size | (simp at *; omega))))
  have HQ4 := hide (show CalAt w4 w.heap.size c from calAt_below hb4 (by first | omega | (simp; done) | (simp; omega)) (by first | exact HQ3.out | exact calAt_alloc HQ3.out (by omega) _ | exact calAt_alloc (calAt_alloc HQ3.out (by omega) _) (by simp; omega) _))
  clear q0 q1 q2 q3 q4 q5 q6 q7 q8 q9 q10 q11 q12 q13
  obtain ⟨q0, q1, q2, q3, q4, q5, q6, q7, q8, q9, q10, q11, q12, q13⟩ := HQ4.out
  clear hb4
  obtain ⟨x0, x1, x2⟩ := HX4.out
  go_wp2_with fail
  all_goals first
    | (exfalso; omega)
    | skip
  refine (r19week_any c y (y + k) x _ hn).mono ?_
  rintro e w5 ⟨rfl, hb5⟩
  rw [← HV.out]
  clear x0 x1 x2
  have HZ5 := hide (show SpAt w5 w4.heap.size ⟨d - m, sb⟩ from spAt_below hb5 (by simp) (spAt_fresh w4 ⟨d - m, sb⟩))
  have hZ5 : w4.heap.size < w5.heap.size := by have := hb5.size; (try simp at this); omega
  have hz5 : w.heap.size < w5.heap.size := by have := hb5.size; (try simp at this); omega
  have HB5 := hide (show Below w.heap.size w w5 by have hp := HB4.out; refine Below.trans ?_ (hb5.mono (by first | omega | (simp; done) | (simp; omega))); (repeat' (first | (with_reducible exact Below.refl _ _) | (with_reducible assumption) | (with_reducible refine Below.alloc ?_ ?_ _) | (with_reducible refine below_drewN ?_ _) | (with_reducible refine Below.drew ?_) | (with_reducible refine Below.setCell ?_ ?_ _) | (with_reducible refine Below.trans ?_ (Below.mono (by assumption) ?_)) | go_size | (simp at *; omega))))
  have HQ5 := hide (show CalAt w5 w.heap.size c from calAt_below hb5 (by first | omega | (simp; done) | (simp; omega)) (by first | exact HQ4.out | exact calAt_alloc HQ4.out (by omega) _ | exact calAt_alloc (calAt_alloc HQ4.out (by omega) _) (by simp; omega) _))
  clear q0 q1 q2 q3 q4 q5 q6 q7 q8 q9 q10 q11 q12 q13
  obtain ⟨q0, q1, q2, q3, q4, q5, q6, q7, q8, q9, q10, q11, q12, q13⟩ := HQ5.out
  clear hb5
  rw [HC.out]
  go_wp2_with fail
  refine (r13start_any c (y + k) _ hn).mono ?_
  rintro e w6 ⟨rfl, hb6⟩
  rw [HA2.out]
  have HZ6 := hide (show SpAt w6 w4.heap.size ⟨d - m, sb⟩ from spAt_below hb6 (by first | omega | (simp; done) | (simp; omega)) (by first | exact HZ5.out | exact spAt_alloc HZ5.out (by omega) _ | exact spAt_alloc (spAt_alloc HZ5.out (by omega) _) (by simp; omega) _))
  have hZ6 : w4.heap.size < w6.heap.size := by have := hb6.size; (try simp at this); omega
  have hz6 : w.heap.size < w6.heap.size := by have := hb6.size; (try simp at this); omega
  have HB6 := hide (show Below w.heap.size w w6 by have hp := HB5.out; refine Below.trans ?_ (hb6.mono (by first | omega | (simp; done) | (simp; omega))); (repeat' (first | (with_reducible exact Below.refl _ _) | (with_reducible assumption) | (with_reducible refine Below.alloc ?_ ?_ _) | (with_reducible refine below_drewN ?_ _) | (with_reducible refine Below.drew ?_) | (with_reducible refine Below.setCell ?_ ?_ _) | (with_reducible refine Below.trans ?_ (Below.mono (by assumption) ?_)) | go_size | (simp at *; omega))))
  have HQ6 := hide (show CalAt w6 w.heap.size c from calAt_below hb6 (by first | omega | (simp; done) | (simp; omega)) (by first | exact HQ5.out | exact calAt_alloc HQ5.out (by omega) _ | exact calAt_alloc (calAt_alloc HQ5.out (by omega) _) (by simp; omega) _))
  clear q0 q1 q2 q3 q4 q5 q6 q7 q8 q9 q10 q11 q12 q13
  obtain ⟨q0, q1, q2, q3, q4, q5, q6, q7, q8, q9, q10, q11, q12, q13⟩ := HQ6.out
  clear hb6
  obtain ⟨z0, z1⟩ := HZ6.out
  simp only at z0 z1
  clear q0 q1 q2 q3 q4 q5 q6 q7 q8 q9 q10 q11 q12 q13
  go_wp2
  all_goals first
    | (exfalso; omega)
    | (go_ret2; exact ⟨ret_int2 (by first | rfl | omega) rfl, HB6.out⟩)

set_option maxRecDepth 100000 in
set_option maxHeartbeats 3200000 in
theorem r19day_month (c : Cal) (d k : Int) (w : World) (hn : c.name.size ≤ 1000) (hs : servE c d = 0) (hx : c.first - servY c d ≤ k ∧ k ≤ c.last - servY c d) (hk6 : c.kind = 6) :
    Calls Tryz.prog 24 #[calV c, .int .i64 d, .int .i64 k] w fun e w' => e = .returned (.tuple #[.int .i64 (min (fromAt c (servY c d + k) (uI (fdU c d 4)) + (d - fromAt c (servY c d) (uI (fdU c d 4)))) (endAt c (servY c d + k) (uI (fdU c d 4)))), .int .i64 0]) ∧ Below w.heap.size w w' := by
  obtain ⟨hk, hd, hyr, hy1, hy2⟩ := serv_ok hs
  obtain ⟨_, _, b1, b2, b3⟩ := ok_years hk
  have hk400 := ok_400 hk
  obtain ⟨y, hyy⟩ : ∃ y, y = servY c d := ⟨_, rfl⟩
  obtain ⟨i, e1, e2, e3, e4, e5⟩ := fd_month hs
  have hf4 := fd_served hs 4 (by omega) (by omega)
  have hdd : 0 ≤ d ∧ d < 3068037 := by simpa [isB] using hd
  have hfy := (fd_ok hf4).2.2.2.2.2.2
  rw [e1]
  clear hyy
  clear y
  generalize hyy0 : servY c d = y at *
  have hyy := hyy0.symm
  clear hyy0
  have hft : frameE c 4 (y + k) = 0 := frame_is (ask_ok hyr.1).1 (by omega) (by omega) (by omega) (by omega)
  have hit : i < nPer c (y + k) := by rw [← per_same hk y (y + k)]; exact e3
  have hS := sp_period hfy i e3
  have hT := sp_period hft i hit
  have hU := (un_mk hfy i (by rw [cnt_4]; exact e3)).1
  have hV := (un_mk hft i (by rw [cnt_4]; exact hit)).1
  have bS := sp_bd2 hU
  have bT := sp_bd2 hV
  rw [hS] at bS
  rw [hT] at bT
  simp only at bS bT
  generalize hsa : fromAt c y i = sa at *
  generalize hsb : endAt c y i = sb at *
  generalize hta : fromAt c (y + k) i = ta at *
  generalize htb : endAt c (y + k) i = tb at *
  have hkb : (c.kind == 6) = true := by simp [hk6]
  have HS := hide hs
  have HY := hide hyy
  have HF4 := hide hf4
  have HFU := hide e2
  have HUE := hide hU
  have HVE := hide hV
  have HSS := hide hS
  have HTT := hide hT
  obtain ⟨hx1, hx2⟩ := hx
  obtain ⟨m, hm⟩ : ∃ m, m = min (ta + (d - sa)) tb := ⟨_, rfl⟩
  rw [← hm]
  have HM := hide hm
  have hi52 : i < 60 := by have := nPer_bd c y hyr.1; omega
  clear hs hd hyr hyy hk hk6 e1 e2 hf4 hfy hft hit hS hT hU hV hsa hsb hta htb e3 hm
  simp only [calV]
  go_enter Tryz.func24, Tryz.ntmps24
  go_wp2_with fail
  refine (r14served_any c d _ hn).mono ?_
  rintro e w1 ⟨rfl, hb1⟩
  rw [HS.out, ← HY.out]
  have hz1 : w.heap.size < w1.heap.size := by have := hb1.size; simp at this; omega
  have HB1 := hide (show Below w.heap.size w w1 by refine Below.trans ?_ (hb1.mono (by first | omega | (simp; done) | (simp; omega))); (repeat' (first | (with_reducible exact Below.refl _ _) | (with_reducible assumption) | (with_reducible refine Below.alloc ?_ ?_ _) | (with_reducible refine below_drewN ?_ _) | (with_reducible refine Below.drew ?_) | (with_reducible refine Below.setCell ?_ ?_ _) | (with_reducible refine Below.trans ?_ (Below.mono (by assumption) ?_)) | go_size | (simp at *; omega))))
  have HQ1 := hide (calAt_below hb1 (by simp) (calAt_new w c))
  obtain ⟨q0, q1, q2, q3, q4, q5, q6, q7, q8, q9, q10, q11, q12, q13⟩ := HQ1.out
  clear hb1
  go_wp2_with fail
  all_goals first
    | (exfalso; omega)
    | skip
  refine (r19served_any c (y + k) _ true (by simp; omega)).mono ?_
  rintro e w2 ⟨rfl, hb2⟩
  have hz2 : w.heap.size < w2.heap.size := by have := hb2.size; (try simp at this); omega
  have HB2 := hide (show Below w.heap.size w w2 by have hp := HB1.out; refine Below.trans ?_ (hb2.mono (by first | omega | (simp; done) | (simp; omega))); (repeat' (first | (with_reducible exact Below.refl _ _) | (with_reducible assumption) | (with_reducible refine Below.alloc ?_ ?_ _) | (with_reducible refine below_drewN ?_ _) | (with_reducible refine Below.drew ?_) | (with_reducible refine Below.setCell ?_ ?_ _) | (with_reducible refine Below.trans ?_ (Below.mono (by assumption) ?_)) | go_size | (simp at *; omega))))
  have HQ2 := hide (show CalAt w2 w.heap.size c from calAt_below hb2 (by first | omega | (simp; done) | (simp; omega)) (by first | exact HQ1.out | exact calAt_alloc HQ1.out (by omega) _ | exact calAt_alloc (calAt_alloc HQ1.out (by omega) _) (by simp; omega) _))
  clear q0 q1 q2 q3 q4 q5 q6 q7 q8 q9 q10 q11 q12 q13
  obtain ⟨q0, q1, q2, q3, q4, q5, q6, q7, q8, q9, q10, q11, q12, q13⟩ := HQ2.out
  clear hb2
  go_wp2_with fail
  all_goals first
    | (exfalso; omega)
    | skip
  refine (r17day_any c d 4 _ hn).mono ?_
  rintro e w3 ⟨rfl, hb3⟩
  rw [HF4.out, HFU.out]
  simp only [unitV]
  have hz3 : w.heap.size < w3.heap.size := by have := hb3.size; (try simp at this); omega
  have HB3 := hide (show Below w.heap.size w w3 by have hp := HB2.out; refine Below.trans ?_ (hb3.mono (by first | omega | (simp; done) | (simp; omega))); (repeat' (first | (with_reducible exact Below.refl _ _) | (with_reducible assumption) | (with_reducible refine Below.alloc ?_ ?_ _) | (with_reducible refine below_drewN ?_ _) | (with_reducible refine Below.drew ?_) | (with_reducible refine Below.setCell ?_ ?_ _) | (with_reducible refine Below.trans ?_ (Below.mono (by assumption) ?_)) | go_size | (simp at *; omega))))
  have HQ3 := hide (show CalAt w3 w.heap.size c from calAt_below hb3 (by first | omega | (simp; done) | (simp; omega)) (by first | exact HQ2.out | exact calAt_alloc HQ2.out (by omega) _ | exact calAt_alloc (calAt_alloc HQ2.out (by omega) _) (by simp; omega) _))
  clear q0 q1 q2 q3 q4 q5 q6 q7 q8 q9 q10 q11 q12 q13
  obtain ⟨q0, q1, q2, q3, q4, q5, q6, q7, q8, q9, q10, q11, q12, q13⟩ := HQ3.out
  clear hb3
  go_wp2_with fail
  refine (r16span_any c ⟨4, y, (i : Int) + 1⟩ _ hn).mono ?_
  rintro e w4 ⟨rfl, hb4⟩
  rw [HUE.out, HSS.out]
  simp only [spanV]
  have G4 := (BlkIs.new w3 #[.int .i64 4, .int .i64 y, .int .i64 ((i : Int) + 1)] 38).call hb4
  have hz4 : w.heap.size < w4.heap.size := by have := hb4.size; (try simp at this); omega
  have HB4 := hide (show Below w.heap.size w w4 by have hp := HB3.out; refine Below.trans ?_ (hb4.mono (by first | omega | (simp; done) | (simp; omega))); (repeat' (first | (with_reducible exact Below.refl _ _) | (with_reducible assumption) | (with_reducible refine Below.alloc ?_ ?_ _) | (with_reducible refine below_drewN ?_ _) | (with_reducible refine Below.drew ?_) | (with_reducible refine Below.setCell ?_ ?_ _) | (with_reducible refine Below.trans ?_ (Below.mono (by assumption) ?_)) | go_size | (simp at *; omega))))
  have HQ4 := hide (show CalAt w4 w.heap.size c from calAt_below hb4 (by first | omega | (simp; done) | (simp; omega)) (by first | exact HQ3.out | exact calAt_alloc HQ3.out (by omega) _ | exact calAt_alloc (calAt_alloc HQ3.out (by omega) _) (by simp; omega) _))
  clear q0 q1 q2 q3 q4 q5 q6 q7 q8 q9 q10 q11 q12 q13
  obtain ⟨q0, q1, q2, q3, q4, q5, q6, q7, q8, q9, q10, q11, q12, q13⟩ := HQ4.out
  clear hb4
  have hX4 : w3.heap.size < w4.heap.size := G4.lt
  obtain ⟨x0, x1, x2⟩ : w4.cell? ⟨w3.heap.size, 0, none⟩ = some (.int .i64 4) ∧ w4.cell? ⟨w3.heap.size, 1, none⟩ = some (.int .i64 y) ∧ w4.cell? ⟨w3.heap.size, 2, none⟩ = some (.int .i64 ((i : Int) + 1)) := ⟨G4.cell 0, G4.cell 1, G4.cell 2⟩
  have xf := G4.frozen 1
  have hne : w.heap.size ≠ w3.heap.size := by omega
  clear G4
  go_wp2_with fail
  all_goals first
    | (exfalso; omega)
    | skip
  refine (r16span_any c ⟨4, y + k, (i : Int) + 1⟩ _ hn).mono ?_
  rintro e w5 ⟨rfl, hb5⟩
  rw [HVE.out, HTT.out]
  simp only [spanV]
  have HZ5 := hide ((show BlkIs ((w4.setCell ⟨w3.heap.size, 1, none⟩ (.int .i64 (y + k))).alloc (.cells #[.int .i64 sa, .int .i64 sb] 26)) w4.heap.size #[.int .i64 sa, .int .i64 sb] 26 by simpa using BlkIs.new (w4.setCell ⟨w3.heap.size, 1, none⟩ (.int .i64 (y + k))) #[.int .i64 sa, .int .i64 sb] 26).call hb5)
  have hB5 : Below w.heap.size w w5 := by
    refine Below.trans ?_ (hb5.mono (by simp; omega))
    have := HB4.out
    (repeat' (first | (with_reducible exact Below.refl _ _) | (with_reducible assumption) | (with_reducible refine Below.alloc ?_ ?_ _) | (with_reducible refine below_drewN ?_ _) | (with_reducible refine Below.drew ?_) | (with_reducible refine Below.setCell ?_ ?_ _) | (with_reducible refine Below.trans ?_ (Below.mono (by assumption) ?_)) | go_size | (simp at *; omega)))
  have hz5 : w.heap.size ≤ w5.heap.size := hB5.size
  clear q0 q1 q2 q3 q4 q5 q6 q7 q8 q9 q10 q11 q12 q13
  clear hb5 x0 x1 x2 xf
  have z0 : w5.cell? ⟨w4.heap.size, 0, none⟩ = some (.int .i64 sa) := HZ5.out.cell 0
  have hzz : w4.heap.size < w5.heap.size := HZ5.out.lt
  rcases Int.le_total (ta + (d - sa)) tb with hmin | hmin
  · have HM2 := hide (show m = ta + (d - sa) by rw [HM.out]; omega)
    rcases (show ta + d - sa < tb ∨ ta + d - sa = tb by omega) with hmin2 | hmin2
    · go_wp2
      all_goals first
        | (exfalso; omega)
        | (go_ret2; exact ⟨ret_int2 (by rw [HM2.out]; try omega) rfl, by (repeat' (first | (with_reducible exact Below.refl _ _) | (with_reducible assumption) | (with_reducible refine Below.alloc ?_ ?_ _) | (with_reducible refine below_drewN ?_ _) | (with_reducible refine Below.drew ?_) | (with_reducible refine Below.setCell ?_ ?_ _) | (with_reducible refine Below.trans ?_ (Below.mono (by assumption) ?_)) | go_size | (simp at *; omega)))⟩)
    · go_wp2
      all_goals first
        | (exfalso; omega)
        | (go_ret2; exact ⟨ret_int2 (by rw [HM2.out]; try omega) rfl, by (repeat' (first | (with_reducible exact Below.refl _ _) | (with_reducible assumption) | (with_reducible refine Below.alloc ?_ ?_ _) | (with_reducible refine below_drewN ?_ _) | (with_reducible refine Below.drew ?_) | (with_reducible refine Below.setCell ?_ ?_ _) | (with_reducible refine Below.trans ?_ (Below.mono (by assumption) ?_)) | go_size | (simp at *; omega)))⟩)
  · have HM2 := hide (show m = tb by rw [HM.out]; omega)
    rcases (show tb < ta + d - sa ∨ ta + d - sa = tb by omega) with hmin2 | hmin2
    · go_wp2
      all_goals first
        | (exfalso; omega)
        | (go_ret2; exact ⟨ret_int2 (by rw [HM2.out]; try omega) rfl, by (repeat' (first | (with_reducible exact Below.refl _ _) | (with_reducible assumption) | (with_reducible refine Below.alloc ?_ ?_ _) | (with_reducible refine below_drewN ?_ _) | (with_reducible refine Below.drew ?_) | (with_reducible refine Below.setCell ?_ ?_ _) | (with_reducible refine Below.trans ?_ (Below.mono (by assumption) ?_)) | go_size | (simp at *; omega)))⟩)
    · go_wp2
      all_goals first
        | (exfalso; omega)
        | (go_ret2; exact ⟨ret_int2 (by rw [HM2.out]; try omega) rfl, by (repeat' (first | (with_reducible exact Below.refl _ _) | (with_reducible assumption) | (with_reducible refine Below.alloc ?_ ?_ _) | (with_reducible refine below_drewN ?_ _) | (with_reducible refine Below.drew ?_) | (with_reducible refine Below.setCell ?_ ?_ _) | (with_reducible refine Below.trans ?_ (Below.mono (by assumption) ?_)) | go_size | (simp at *; omega)))⟩)

theorem r19day_any (c : Cal) (d k : Int) (w : World) (hn : c.name.size ≤ 1000) :
    Calls Tryz.prog 24 #[calV c, .int .i64 d, .int .i64 k] w fun e w' => e = .returned (.tuple #[.int .i64 (cdV c d k), .int .i64 (cdE c d k)]) ∧ Below w.heap.size w w' := by
  by_cases hs : servE c d = 0
  · by_cases hx : c.first - servY c d ≤ k ∧ k ≤ c.last - servY c d
    · by_cases hk6 : c.kind = 6
      · have hE : cdE c d k = 0 := by rw [cdE, if_pos hs, if_pos hx, if_pos hk6]
        rw [cdV, if_pos hE, if_pos hk6, hE]
        exact r19day_month c d k w hn hs hx hk6
      · have hE : cdE c d k = cwE c (servY c d) (servY c d + k) ((d - startV c (servY c d)) / 7 + 1) := by rw [cdE, if_pos hs, if_pos hx, if_neg hk6]
        by_cases hc : cwE c (servY c d) (servY c d + k) ((d - startV c (servY c d)) / 7 + 1) = 0
        · rw [cdV, if_pos (by rw [hE]; exact hc), if_neg hk6, hE, hc]
          exact r19day_week c d k w hn hs hx hk6 hc
        · rw [cdV, if_neg (by rw [hE]; exact hc), hE]
          exact r19day_gone c d k w hn hs hx hk6 hc
    · have hE : cdE c d k = 11 := by rw [cdE, if_pos hs, if_neg hx]
      rw [cdV, if_neg (by omega), hE]
      exact r19day_far c d k w hn hs hx
  · have hE : cdE c d k = servE c d := by rw [cdE, if_neg hs]
    rw [cdV, if_neg (by rw [hE]; exact hs), hE]
    exact r19day_no c d k w hn hs
end Go.Proofs.YtojdngkleiokgaaGreat
