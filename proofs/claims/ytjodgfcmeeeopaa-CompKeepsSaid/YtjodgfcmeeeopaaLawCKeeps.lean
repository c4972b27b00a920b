/- The walk of CompKeeps. -/
import Derived.Test.YtjodgfcmeeeopaaCompQ
namespace Go.Proofs.Ytjodgfcmeeeopaa
open Go.RowKit Qd
set_option linter.unusedSimpArgs false
set_option linter.unusedVariables false

theorem cdv_bd {c : Cal} {d k : Int} (hs : servE c d = 0) (hk6 : c.kind ≠ 6) : -1000 ≤ cdV c d k ∧ cdV c d k ≤ 3100000 := by
  by_cases hx : c.first ≤ servY c d + k ∧ servY c d + k ≤ c.last
  · obtain ⟨hk, hd, hsy, o1, o2, x1, x2⟩ := sv_week hs hk6
    obtain ⟨hE, hV⟩ := cd_week hs hk6 hx
    have hcb := cw_bd hk hk6 hsy hx ⟨x1, x2⟩
    have w1 := (wks_srv hk hk6 hsy).2.2
    have sb := start_b c (servY c d + k)
    by_cases h0 : cdE c d k = 0
    · have := hV h0; omega
    · rw [cdV, if_neg h0]; omega
  · rw [(cd_out hs hx).2]; omega
theorem day_bd {c : Cal} {d : Int} (hs : servE c d = 0) : 0 ≤ d ∧ d < 3068037 := by
  obtain ⟨hk, hd, _⟩ := serv_ok hs
  simpa [isB] using hd
theorem kind_b {c : Cal} (h : c.kind ≠ 6) : (c.kind == 6) = false := by simpa using h
/-- What CompKeeps says, told plainly. -/
theorem keeps {c : Cal} {d k : Int} (hs : servE c d = 0) (hk6 : c.kind ≠ 6) (hx : c.first ≤ servY c d + k ∧ servY c d + k ≤ c.last) :
    (cdE c d k = 12 ∧ cdV c d k = 0 ∧ c.policy = 3 ∧ wksV c (servY c d) = 53 ∧ wksV c (servY c d + k) = 52 ∧ (d - startV c (servY c d)) / 7 + 1 = addedV c (servY c d)) ∨
    (cdE c d k = 0 ∧ (d - cdV c d k) % 7 = 0 ∧ 0 ≤ cdV c d k ∧ cdV c d k < 3068037 ∧
      ((c.policy = 1 ∧ startV c (servY c d + k) ≤ cdV c d k ∧ cdV c d k ≤ endV c (servY c d + k)) ∨
       (c.policy = 1 ∧ wksV c (servY c d) = 53 ∧ wksV c (servY c d + k) = 52 ∧ endV c (servY c d + k) < cdV c d k ∧ cdV c d k ≤ endV c (servY c d + k) + 7) ∨
       (c.policy = 2 ∧ startV c (servY c d + k) ≤ cdV c d k ∧ cdV c d k ≤ endV c (servY c d + k)) ∨
       (c.policy = 2 ∧ wksV c (servY c d) = 53 ∧ wksV c (servY c d + k) = 52 ∧ startV c (servY c d + k) - 7 ≤ cdV c d k ∧ cdV c d k < startV c (servY c d + k)) ∨
       (c.policy = 3 ∧ startV c (servY c d + k) ≤ cdV c d k ∧ cdV c d k ≤ endV c (servY c d + k) ∧ (wksV c (servY c d) ≠ 53 ∨ wksV c (servY c d + k) ≠ 52 ∨ (d - startV c (servY c d)) / 7 + 1 ≠ addedV c (servY c d))))) := by
  obtain ⟨hk, hd, hsy, o1, o2, x1, x2⟩ := sv_week hs hk6
  obtain ⟨hE, hV⟩ := cd_week hs hk6 hx
  have hst : srv c (servY c d + k) := hx
  obtain ⟨ey, ay, wy1, wy2, _, _⟩ := yr_week hk hk6 hsy
  obtain ⟨et, at', wt1, wt2, st1, et1⟩ := yr_week hk hk6 hst
  have m1 := start_mod hk6 ay
  have m2 := start_mod hk6 at'
  have c1 := cw_shift hk hk6 hsy hst ⟨x1, x2⟩
  generalize servY c d = y at *
  generalize startV c y = s at *
  generalize startV c (y + k) = s2 at *
  generalize endV c (y + k) = b2 at *
  generalize hX1 : (d - s) / 7 + 1 = X1 at *
  rcases c1 with c1 | c1 | c1 | c1 | c1 | c1
  · left
    refine ⟨by rw [hE]; exact c1.1, ?_, c1.2.2.1, c1.2.2.2.1, c1.2.2.2.2.1, c1.2.2.2.2.2⟩
    rw [cdV, if_neg (by rw [hE, c1.1]; omega)]
  all_goals
    have e1 : cdE c d k = 0 := by rw [hE]; exact c1.1
    have v1 := hV e1
    right
    refine ⟨e1, by omega, by omega, by omega, ?_⟩
    omega

set_option maxRecDepth 100000 in
set_option maxHeartbeats 1600000 in
theorem ck_long (c : Cal) (d k : Int) (w : World) (hn : 100 < c.name.size) (hm : c.name.size ≤ 9223372036854775807) :
    Calls Try.prog 3 #[calV c, .int .i64 d, .int .i64 k] w fun e w' => e = .returned (.bool true) ∧ Below w.heap.size w w' := by
  simp only [calV]
  go_enter Try.func3, Try.ntmps3
  go_wp2_with fail
  refine (live19_any _).mono ?_
  rintro e w1 ⟨rfl, hb1⟩
  have hz1 : w.heap.size < w1.heap.size := by have := hb1.size; simp at this; omega
  have HB1 := hide (show Below w.heap.size w w1 by refine Below.trans ?_ (hb1.mono (by first | omega | (simp; done) | (simp; omega))); (repeat' (first | (with_reducible exact Below.refl _ _) | (with_reducible assumption) | (with_reducible refine Below.alloc ?_ ?_ _) | (with_reducible refine below_drewN ?_ _) | (with_reducible refine Below.drew ?_) | (with_reducible refine Below.setCell ?_ ?_ _) | (with_reducible refine Below.trans ?_ (Below.mono (by assumption) ?_)) | go_size | (simp at *; omega))))
  have HQ1 := hide (calAt_below hb1 (by simp) (calAt_new w c))
  obtain ⟨q0, q1, q2, q3, q4, q5, q6, q7, q8, q9, q10, q11, q12, q13⟩ := HQ1.out
  clear hb1
  go_wp2
  all_goals first
    | (exfalso; omega)
    | (go_ret; exact ⟨rfl, HB1.out⟩)


set_option maxRecDepth 100000 in
set_option maxHeartbeats 3200000 in
theorem ck_mon (c : Cal) (d k : Int) (w : World) (hn : c.name.size ≤ 100) (h : c.kind = 6) :
    Calls Try.prog 3 #[calV c, .int .i64 d, .int .i64 k] w fun e w' => e = .returned (.bool true) ∧ Below w.heap.size w w' := by
  have hkb : (c.kind == 6) = true := by simp [h]
  clear h
  simp only [calV]
  go_enter Try.func3, Try.ntmps3
  go_wp2_with fail
  refine (live19_any _).mono ?_
  rintro e w1 ⟨rfl, hb1⟩
  have hz1 : w.heap.size < w1.heap.size := by have := hb1.size; simp at this; omega
  have HB1 := hide (show Below w.heap.size w w1 by refine Below.trans ?_ (hb1.mono (by first | omega | (simp; done) | (simp; omega))); (repeat' (first | (with_reducible exact Below.refl _ _) | (with_reducible assumption) | (with_reducible refine Below.alloc ?_ ?_ _) | (with_reducible refine below_drewN ?_ _) | (with_reducible refine Below.drew ?_) | (with_reducible refine Below.setCell ?_ ?_ _) | (with_reducible refine Below.trans ?_ (Below.mono (by assumption) ?_)) | go_size | (simp at *; omega))))
  have HQ1 := hide (calAt_below hb1 (by simp) (calAt_new w c))
  obtain ⟨q0, q1, q2, q3, q4, q5, q6, q7, q8, q9, q10, q11, q12, q13⟩ := HQ1.out
  clear hb1
  have hBel := HB1.out
  go_wp2
  all_goals first
    | (exfalso; omega)
    | (go_ret; exact ⟨ret_bool (by simp), by (repeat' (first | (with_reducible exact Below.refl _ _) | (with_reducible assumption) | (with_reducible refine Below.alloc ?_ ?_ _) | (with_reducible refine below_drewN ?_ _) | (with_reducible refine Below.drew ?_) | (with_reducible refine Below.setCell ?_ ?_ _) | (with_reducible refine Below.trans ?_ (Below.mono (by assumption) ?_)) | go_size | (simp at *; omega)))⟩)
    | (go_ret; exact ⟨ret_bool (by simp; omega), by (repeat' (first | (with_reducible exact Below.refl _ _) | (with_reducible assumption) | (with_reducible refine Below.alloc ?_ ?_ _) | (with_reducible refine below_drewN ?_ _) | (with_reducible refine Below.drew ?_) | (with_reducible refine Below.setCell ?_ ?_ _) | (with_reducible refine Below.trans ?_ (Below.mono (by assumption) ?_)) | go_size | (simp at *; omega)))⟩)

set_option maxRecDepth 100000 in
set_option maxHeartbeats 3200000 in
theorem ck_1 (c : Cal) (d k : Int) (w : World) (hn : c.name.size ≤ 100) (hk6 : c.kind ≠ 6) (hs : ¬ servE c d = 0) :
    Calls Try.prog 3 #[calV c, .int .i64 d, .int .i64 k] w fun e w' => e = .returned (.bool true) ∧ Below w.heap.size w w' := by
  have hkb := kind_b hk6
  have HC := hide (cd_no (k := k) hs)
  have hs' : (servE c d != 0) = true := by simpa using hs
  clear hs hk6
  simp only [calV]
  go_enter Try.func3, Try.ntmps3
  go_wp2_with fail
  refine (live19_any _).mono ?_
  rintro e w1 ⟨rfl, hb1⟩
  have hz1 : w.heap.size < w1.heap.size := by have := hb1.size; simp at this; omega
  have HB1 := hide (show Below w.heap.size w w1 by refine Below.trans ?_ (hb1.mono (by first | omega | (simp; done) | (simp; omega))); (repeat' (first | (with_reducible exact Below.refl _ _) | (with_reducible assumption) | (with_reducible refine Below.alloc ?_ ?_ _) | (with_reducible refine below_drewN ?_ _) | (with_reducible refine Below.drew ?_) | (with_reducible refine Below.setCell ?_ ?_ _) | (with_reducible refine Below.trans ?_ (Below.mono (by assumption) ?_)) | go_size | (simp at *; omega))))
  have HQ1 := hide (calAt_below hb1 (by simp) (calAt_new w c))
  obtain ⟨q0, q1, q2, q3, q4, q5, q6, q7, q8, q9, q10, q11, q12, q13⟩ := HQ1.out
  clear hb1
  go_wp2_with fail
  all_goals first
    | (exfalso; omega)
    | skip
  refine (served_any c d _ (by omega)).mono ?_
  rintro e w2 ⟨rfl, hb2⟩
  skip
  have hz2 : w.heap.size < w2.heap.size := by have := hb2.size; (try simp at this); omega
  have HB2 := hide (show Below w.heap.size w w2 by have hp := HB1.out; refine Below.trans ?_ (hb2.mono (by first | omega | (simp; done) | (simp; omega))); (repeat' (first | (with_reducible exact Below.refl _ _) | (with_reducible assumption) | (with_reducible refine Below.alloc ?_ ?_ _) | (with_reducible refine below_drewN ?_ _) | (with_reducible refine Below.drew ?_) | (with_reducible refine Below.setCell ?_ ?_ _) | (with_reducible refine Below.trans ?_ (Below.mono (by assumption) ?_)) | go_size | (simp at *; omega))))
  have HQ2 := hide (show CalAt w2 w.heap.size c from calAt_below hb2 (by first | omega | (simp; done) | (simp; omega)) (by first | exact HQ1.out | exact calAt_alloc HQ1.out (by omega) _ | exact calAt_alloc (calAt_alloc HQ1.out (by omega) _) (by simp; omega) _))
  clear q0 q1 q2 q3 q4 q5 q6 q7 q8 q9 q10 q11 q12 q13
  obtain ⟨q0, q1, q2, q3, q4, q5, q6, q7, q8, q9, q10, q11, q12, q13⟩ := HQ2.out
  clear hb2
  go_wp2_with fail
  all_goals first
    | (exfalso; omega)
    | skip
  refine (cday_any c d k _ (by omega)).mono ?_
  rintro e w3 ⟨rfl, hb3⟩
  rw [HC.out.1, HC.out.2]
  have hz3 : w.heap.size < w3.heap.size := by have := hb3.size; (try simp at this); omega
  have HB3 := hide (show Below w.heap.size w w3 by have hp := HB2.out; refine Below.trans ?_ (hb3.mono (by first | omega | (simp; done) | (simp; omega))); (repeat' (first | (with_reducible exact Below.refl _ _) | (with_reducible assumption) | (with_reducible refine Below.alloc ?_ ?_ _) | (with_reducible refine below_drewN ?_ _) | (with_reducible refine Below.drew ?_) | (with_reducible refine Below.setCell ?_ ?_ _) | (with_reducible refine Below.trans ?_ (Below.mono (by assumption) ?_)) | go_size | (simp at *; omega))))
  have HQ3 := hide (show CalAt w3 w.heap.size c from calAt_below hb3 (by first | omega | (simp; done) | (simp; omega)) (by first | exact HQ2.out | exact calAt_alloc HQ2.out (by omega) _ | exact calAt_alloc (calAt_alloc HQ2.out (by omega) _) (by simp; omega) _))
  clear q0 q1 q2 q3 q4 q5 q6 q7 q8 q9 q10 q11 q12 q13
  obtain ⟨q0, q1, q2, q3, q4, q5, q6, q7, q8, q9, q10, q11, q12, q13⟩ := HQ3.out
  clear hb3
  have hBel := HB3.out
  clear q0 q1 q2 q3 q4 q5 q6 q7 q8 q9 q10 q11 q12 q13
  go_wp2
  all_goals first
    | (exfalso; omega)
    | (go_ret; exact ⟨ret_bool (by simp), by (repeat' (first | (with_reducible exact Below.refl _ _) | (with_reducible assumption) | (with_reducible refine Below.alloc ?_ ?_ _) | (with_reducible refine below_drewN ?_ _) | (with_reducible refine Below.drew ?_) | (with_reducible refine Below.setCell ?_ ?_ _) | (with_reducible refine Below.trans ?_ (Below.mono (by assumption) ?_)) | go_size | (simp at *; omega)))⟩)
    | (go_ret; exact ⟨ret_bool (by simp; omega), by (repeat' (first | (with_reducible exact Below.refl _ _) | (with_reducible assumption) | (with_reducible refine Below.alloc ?_ ?_ _) | (with_reducible refine below_drewN ?_ _) | (with_reducible refine Below.drew ?_) | (with_reducible refine Below.setCell ?_ ?_ _) | (with_reducible refine Below.trans ?_ (Below.mono (by assumption) ?_)) | go_size | (simp at *; omega)))⟩)

set_option maxRecDepth 100000 in
set_option maxHeartbeats 3200000 in
theorem ck_2 (c : Cal) (d k : Int) (w : World) (hn : c.name.size ≤ 100) (hk6 : c.kind ≠ 6) (hs : servE c d = 0) (hx : ¬ (c.first ≤ servY c d + k ∧ servY c d + k ≤ c.last)) :
    Calls Try.prog 3 #[calV c, .int .i64 d, .int .i64 k] w fun e w' => e = .returned (.bool true) ∧ Below w.heap.size w w' := by
  have hkb := kind_b hk6
  have HC := hide (cd_out hs hx)
  obtain ⟨hk, _, hsy, _⟩ := sv_week hs hk6
  obtain ⟨_, _, b1, b2, _⟩ := ok_years hk
  have hsyb : 1602 ≤ servY c d ∧ servY c d ≤ 9996 := by obtain ⟨h1, h2⟩ := hsy; omega
  have HS := hide hs
  clear hs hk6 hk hsy
  generalize hY1 : servY c d = Y at *
  have HY1 := hide hY1
  clear hY1
  simp only [calV]
  go_enter Try.func3, Try.ntmps3
  go_wp2_with fail
  refine (live19_any _).mono ?_
  rintro e w1 ⟨rfl, hb1⟩
  have hz1 : w.heap.size < w1.heap.size := by have := hb1.size; simp at this; omega
  have HB1 := hide (show Below w.heap.size w w1 by refine Below.trans ?_ (hb1.mono (by first | omega | (simp; done) | (simp; omega))); (repeat' (first | (with_reducible exact Below.refl _ _) | (with_reducible assumption) | (with_reducible refine Below.alloc ?_ ?_ _) | (with_reducible refine below_drewN ?_ _) | (with_reducible refine Below.drew ?_) | (with_reducible refine Below.setCell ?_ ?_ _) | (with_reducible refine Below.trans ?_ (Below.mono (by assumption) ?_)) | go_size | (simp at *; omega))))
  have HQ1 := hide (calAt_below hb1 (by simp) (calAt_new w c))
  obtain ⟨q0, q1, q2, q3, q4, q5, q6, q7, q8, q9, q10, q11, q12, q13⟩ := HQ1.out
  clear hb1
  go_wp2_with fail
  all_goals first
    | (exfalso; omega)
    | skip
  refine (served_any c d _ (by omega)).mono ?_
  rintro e w2 ⟨rfl, hb2⟩
  rw [HS.out, HY1.out]
  have hz2 : w.heap.size < w2.heap.size := by have := hb2.size; (try simp at this); omega
  have HB2 := hide (show Below w.heap.size w w2 by have hp := HB1.out; refine Below.trans ?_ (hb2.mono (by first | omega | (simp; done) | (simp; omega))); (repeat' (first | (with_reducible exact Below.refl _ _) | (with_reducible assumption) | (with_reducible refine Below.alloc ?_ ?_ _) | (with_reducible refine below_drewN ?_ _) | (with_reducible refine Below.drew ?_) | (with_reducible refine Below.setCell ?_ ?_ _) | (with_reducible refine Below.trans ?_ (Below.mono (by assumption) ?_)) | go_size | (simp at *; omega))))
  have HQ2 := hide (show CalAt w2 w.heap.size c from calAt_below hb2 (by first | omega | (simp; done) | (simp; omega)) (by first | exact HQ1.out | exact calAt_alloc HQ1.out (by omega) _ | exact calAt_alloc (calAt_alloc HQ1.out (by omega) _) (by simp; omega) _))
  clear q0 q1 q2 q3 q4 q5 q6 q7 q8 q9 q10 q11 q12 q13
  obtain ⟨q0, q1, q2, q3, q4, q5, q6, q7, q8, q9, q10, q11, q12, q13⟩ := HQ2.out
  clear hb2
  go_wp2_with fail
  all_goals first
    | (exfalso; omega)
    | skip
  refine (cday_any c d k _ (by omega)).mono ?_
  rintro e w3 ⟨rfl, hb3⟩
  rw [HC.out.1, HC.out.2]
  have hz3 : w.heap.size < w3.heap.size := by have := hb3.size; (try simp at this); omega
  have HB3 := hide (show Below w.heap.size w w3 by have hp := HB2.out; refine Below.trans ?_ (hb3.mono (by first | omega | (simp; done) | (simp; omega))); (repeat' (first | (with_reducible exact Below.refl _ _) | (with_reducible assumption) | (with_reducible refine Below.alloc ?_ ?_ _) | (with_reducible refine below_drewN ?_ _) | (with_reducible refine Below.drew ?_) | (with_reducible refine Below.setCell ?_ ?_ _) | (with_reducible refine Below.trans ?_ (Below.mono (by assumption) ?_)) | go_size | (simp at *; omega))))
  have HQ3 := hide (show CalAt w3 w.heap.size c from calAt_below hb3 (by first | omega | (simp; done) | (simp; omega)) (by first | exact HQ2.out | exact calAt_alloc HQ2.out (by omega) _ | exact calAt_alloc (calAt_alloc HQ2.out (by omega) _) (by simp; omega) _))
  clear q0 q1 q2 q3 q4 q5 q6 q7 q8 q9 q10 q11 q12 q13
  obtain ⟨q0, q1, q2, q3, q4, q5, q6, q7, q8, q9, q10, q11, q12, q13⟩ := HQ3.out
  clear hb3
  have hBel := HB3.out
  rcases (show k < -400 ∨ (-400 ≤ k ∧ 400 < k) ∨ (-400 ≤ k ∧ k ≤ 400 ∧ Y + k < c.first) ∨ (-400 ≤ k ∧ k ≤ 400 ∧ c.first ≤ Y + k ∧ c.last < Y + k) by omega) with h | ⟨h, h2⟩ | ⟨h, h2, h3⟩ | ⟨h, h2, h3, h4⟩
  · go_wp2
    all_goals first
      | (exfalso; omega)
      | (go_ret; exact ⟨ret_bool (by simp), by (repeat' (first | (with_reducible exact Below.refl _ _) | (with_reducible assumption) | (with_reducible refine Below.alloc ?_ ?_ _) | (with_reducible refine below_drewN ?_ _) | (with_reducible refine Below.drew ?_) | (with_reducible refine Below.setCell ?_ ?_ _) | (with_reducible refine Below.trans ?_ (Below.mono (by assumption) ?_)) | go_size | (simp at *; omega)))⟩)
  · go_wp2
    all_goals first
      | (exfalso; omega)
      | (go_ret; exact ⟨ret_bool (by simp), by (repeat' (first | (with_reducible exact Below.refl _ _) | (with_reducible assumption) | (with_reducible refine Below.alloc ?_ ?_ _) | (with_reducible refine below_drewN ?_ _) | (with_reducible refine Below.drew ?_) | (with_reducible refine Below.setCell ?_ ?_ _) | (with_reducible refine Below.trans ?_ (Below.mono (by assumption) ?_)) | go_size | (simp at *; omega)))⟩)
  · go_wp2
    all_goals first
      | (exfalso; omega)
      | (go_ret; exact ⟨ret_bool (by simp), by (repeat' (first | (with_reducible exact Below.refl _ _) | (with_reducible assumption) | (with_reducible refine Below.alloc ?_ ?_ _) | (with_reducible refine below_drewN ?_ _) | (with_reducible refine Below.drew ?_) | (with_reducible refine Below.setCell ?_ ?_ _) | (with_reducible refine Below.trans ?_ (Below.mono (by assumption) ?_)) | go_size | (simp at *; omega)))⟩)
  · go_wp2
    all_goals first
      | (exfalso; omega)
      | (go_ret; exact ⟨ret_bool (by simp), by (repeat' (first | (with_reducible exact Below.refl _ _) | (with_reducible assumption) | (with_reducible refine Below.alloc ?_ ?_ _) | (with_reducible refine below_drewN ?_ _) | (with_reducible refine Below.drew ?_) | (with_reducible refine Below.setCell ?_ ?_ _) | (with_reducible refine Below.trans ?_ (Below.mono (by assumption) ?_)) | go_size | (simp at *; omega)))⟩)

set_option maxRecDepth 100000 in
set_option maxHeartbeats 3200000 in
theorem ck_gone (c : Cal) (d k : Int) (w : World) (hn : c.name.size ≤ 100) (hk6 : c.kind ≠ 6) (hs : servE c d = 0) (hx : c.first ≤ servY c d + k ∧ servY c d + k ≤ c.last) (h : cdE c d k = 12 ∧ cdV c d k = 0 ∧ c.policy = 3 ∧ wksV c (servY c d) = 53 ∧ wksV c (servY c d + k) = 52 ∧ (d - startV c (servY c d)) / 7 + 1 = addedV c (servY c d)) :
    Calls Try.prog 3 #[calV c, .int .i64 d, .int .i64 k] w fun e w' => e = .returned (.bool true) ∧ Below w.heap.size w w' := by
  have hkb := kind_b hk6
  obtain ⟨hE, hV0, hp, h53, h52, hxa⟩ := h
  have HE := hide hE
  have hpb : (c.policy == 3) = true := by simp [hp]
  clear hp hE
  have hdb := day_bd hs
  have hv1 := cdv_bd (k := k) hs hk6
  obtain ⟨hk, _, hsy, _⟩ := sv_week hs hk6
  obtain ⟨wy, ay, wy2⟩ := wks_srv hk hk6 hsy
  obtain ⟨wt, at', wt2⟩ := wks_srv hk hk6 hx
  obtain ⟨_, _, b1, b2, _⟩ := ok_years hk
  have hsyb : 1602 ≤ servY c d ∧ servY c d ≤ 9996 := by obtain ⟨h1, h2⟩ := hsy; omega
  have hk400 : -400 ≤ k ∧ k ≤ 400 := by
    have hok : c.Ok := by simpa [Cal.okB] using hk
    have h9 := hok.1
    unfold Cal.served at h9
    obtain ⟨h1, h2⟩ := hsy
    omega
  have hyb := year_bd c _ at'
  have hfw := fd_week hs hk6
  have hf5 := fd_served hs 5 (by omega) (by omega)
  have hab := added_bd hk hk6 hsy
  have HS := hide hs
  have WY := hide wy
  have WT := hide wt
  have HA := hide at'
  have HA0 := hide (ask_mono at')
  have HF5 := hide hf5
  have HFU := hide hfw.1
  have hxb := hfw.2.2.2.1
  have hxb2 := hfw.2.2.2.2.1
  rw [hV0] at hv1
  generalize hY1 : servY c d = Y at *
  generalize hX1 : (d - startV c Y) / 7 + 1 = X at *
  have HV1 := hide hV0
  have HY1 := hide hY1
  have HN1 := hide h53
  have HM1 := hide h52
  have HA1 := hide hxa.symm
  clear hV0 hY1 hX1 h53 h52 hxa
  generalize hSS : startV c (Y + k) = s at *
  generalize hEE : endV c (Y + k) = b at *
  have HSS := hide hSS
  have HEE := hide hEE
  clear hSS hEE hfw hf5 hs hk6 hk hsy wy wt ay at' hab
  simp only [calV]
  go_enter Try.func3, Try.ntmps3
  go_wp2_with fail
  refine (live19_any _).mono ?_
  rintro e w1 ⟨rfl, hb1⟩
  have hz1 : w.heap.size < w1.heap.size := by have := hb1.size; simp at this; omega
  have HB1 := hide (show Below w.heap.size w w1 by refine Below.trans ?_ (hb1.mono (by first | omega | (simp; done) | (simp; omega))); (repeat' (first | (with_reducible exact Below.refl _ _) | (with_reducible assumption) | (with_reducible refine Below.alloc ?_ ?_ _) | (with_reducible refine below_drewN ?_ _) | (with_reducible refine Below.drew ?_) | (with_reducible refine Below.setCell ?_ ?_ _) | (with_reducible refine Below.trans ?_ (Below.mono (by assumption) ?_)) | go_size | (simp at *; omega))))
  have HQ1 := hide (calAt_below hb1 (by simp) (calAt_new w c))
  obtain ⟨q0, q1, q2, q3, q4, q5, q6, q7, q8, q9, q10, q11, q12, q13⟩ := HQ1.out
  clear hb1
  go_wp2_with fail
  all_goals first
    | (exfalso; omega)
    | skip
  refine (served_any c d _ (by omega)).mono ?_
  rintro e w2 ⟨rfl, hb2⟩
  rw [HS.out, HY1.out]
  have hz2 : w.heap.size < w2.heap.size := by have := hb2.size; (try simp at this); omega
  have HB2 := hide (show Below w.heap.size w w2 by have hp := HB1.out; refine Below.trans ?_ (hb2.mono (by first | omega | (simp; done) | (simp; omega))); (repeat' (first | (with_reducible exact Below.refl _ _) | (with_reducible assumption) | (with_reducible refine Below.alloc ?_ ?_ _) | (with_reducible refine below_drewN ?_ _) | (with_reducible refine Below.drew ?_) | (with_reducible refine Below.setCell ?_ ?_ _) | (with_reducible refine Below.trans ?_ (Below.mono (by assumption) ?_)) | go_size | (simp at *; omega))))
  have HQ2 := hide (show CalAt w2 w.heap.size c from calAt_below hb2 (by first | omega | (simp; done) | (simp; omega)) (by first | exact HQ1.out | exact calAt_alloc HQ1.out (by omega) _ | exact calAt_alloc (calAt_alloc HQ1.out (by omega) _) (by simp; omega) _))
  clear q0 q1 q2 q3 q4 q5 q6 q7 q8 q9 q10 q11 q12 q13
  obtain ⟨q0, q1, q2, q3, q4, q5, q6, q7, q8, q9, q10, q11, q12, q13⟩ := HQ2.out
  clear hb2
  go_wp2_with fail
  all_goals first
    | (exfalso; omega)
    | skip
  refine (cday_any c d k _ (by omega)).mono ?_
  rintro e w3 ⟨rfl, hb3⟩
  rw [HE.out, HV1.out]
  have hz3 : w.heap.size < w3.heap.size := by have := hb3.size; (try simp at this); omega
  have HB3 := hide (show Below w.heap.size w w3 by have hp := HB2.out; refine Below.trans ?_ (hb3.mono (by first | omega | (simp; done) | (simp; omega))); (repeat' (first | (with_reducible exact Below.refl _ _) | (with_reducible assumption) | (with_reducible refine Below.alloc ?_ ?_ _) | (with_reducible refine below_drewN ?_ _) | (with_reducible refine Below.drew ?_) | (with_reducible refine Below.setCell ?_ ?_ _) | (with_reducible refine Below.trans ?_ (Below.mono (by assumption) ?_)) | go_size | (simp at *; omega))))
  have HQ3 := hide (show CalAt w3 w.heap.size c from calAt_below hb3 (by first | omega | (simp; done) | (simp; omega)) (by first | exact HQ2.out | exact calAt_alloc HQ2.out (by omega) _ | exact calAt_alloc (calAt_alloc HQ2.out (by omega) _) (by simp; omega) _))
  clear q0 q1 q2 q3 q4 q5 q6 q7 q8 q9 q10 q11 q12 q13
  obtain ⟨q0, q1, q2, q3, q4, q5, q6, q7, q8, q9, q10, q11, q12, q13⟩ := HQ3.out
  clear hb3
  go_wp2_with fail
  all_goals first
    | (exfalso; omega)
    | skip
  refine (start_any c (Y + k) _ (by omega)).mono ?_
  rintro e w4 ⟨rfl, hb4⟩
  rw [HA.out, HSS.out]
  have hz4 : w.heap.size < w4.heap.size := by have := hb4.size; (try simp at this); omega
  have HB4 := hide (show Below w.heap.size w w4 by have hp := HB3.out; refine Below.trans ?_ (hb4.mono (by first | omega | (simp; done) | (simp; omega))); (repeat' (first | (with_reducible exact Below.refl _ _) | (with_reducible assumption) | (with_reducible refine Below.alloc ?_ ?_ _) | (with_reducible refine below_drewN ?_ _) | (with_reducible refine Below.drew ?_) | (with_reducible refine Below.setCell ?_ ?_ _) | (with_reducible refine Below.trans ?_ (Below.mono (by assumption) ?_)) | go_size | (simp at *; omega))))
  have HQ4 := hide (show CalAt w4 w.heap.size c from calAt_below hb4 (by first | omega | (simp; done) | (simp; omega)) (by first | exact HQ3.out | exact calAt_alloc HQ3.out (by omega) _ | exact calAt_alloc (calAt_alloc HQ3.out (by omega) _) (by simp; omega) _))
  clear q0 q1 q2 q3 q4 q5 q6 q7 q8 q9 q10 q11 q12 q13
  obtain ⟨q0, q1, q2, q3, q4, q5, q6, q7, q8, q9, q10, q11, q12, q13⟩ := HQ4.out
  clear hb4
  go_wp2_with fail
  all_goals first
    | (exfalso; omega)
    | skip
  refine (end_any c (Y + k) _ (by omega)).mono ?_
  rintro e w5 ⟨rfl, hb5⟩
  rw [HA0.out, HEE.out]
  have hz5 : w.heap.size < w5.heap.size := by have := hb5.size; (try simp at this); omega
  have HB5 := hide (show Below w.heap.size w w5 by have hp := HB4.out; refine Below.trans ?_ (hb5.mono (by first | omega | (simp; done) | (simp; omega))); (repeat' (first | (with_reducible exact Below.refl _ _) | (with_reducible assumption) | (with_reducible refine Below.alloc ?_ ?_ _) | (with_reducible refine below_drewN ?_ _) | (with_reducible refine Below.drew ?_) | (with_reducible refine Below.setCell ?_ ?_ _) | (with_reducible refine Below.trans ?_ (Below.mono (by assumption) ?_)) | go_size | (simp at *; omega))))
  have HQ5 := hide (show CalAt w5 w.heap.size c from calAt_below hb5 (by first | omega | (simp; done) | (simp; omega)) (by first | exact HQ4.out | exact calAt_alloc HQ4.out (by omega) _ | exact calAt_alloc (calAt_alloc HQ4.out (by omega) _) (by simp; omega) _))
  clear q0 q1 q2 q3 q4 q5 q6 q7 q8 q9 q10 q11 q12 q13
  obtain ⟨q0, q1, q2, q3, q4, q5, q6, q7, q8, q9, q10, q11, q12, q13⟩ := HQ5.out
  clear hb5
  go_wp2_with fail
  all_goals first
    | (exfalso; omega)
    | skip
  refine (aweeks_any c Y _ (by omega)).mono ?_
  rintro e w6 ⟨rfl, hb6⟩
  rw [WY.out, HN1.out]
  have hz6 : w.heap.size < w6.heap.size := by have := hb6.size; (try simp at this); omega
  have HB6 := hide (show Below w.heap.size w w6 by have hp := HB5.out; refine Below.trans ?_ (hb6.mono (by first | omega | (simp; done) | (simp; omega))); (repeat' (first | (with_reducible exact Below.refl _ _) | (with_reducible assumption) | (with_reducible refine Below.alloc ?_ ?_ _) | (with_reducible refine below_drewN ?_ _) | (with_reducible refine Below.drew ?_) | (with_reducible refine Below.setCell ?_ ?_ _) | (with_reducible refine Below.trans ?_ (Below.mono (by assumption) ?_)) | go_size | (simp at *; omega))))
  have HQ6 := hide (show CalAt w6 w.heap.size c from calAt_below hb6 (by first | omega | (simp; done) | (simp; omega)) (by first | exact HQ5.out | exact calAt_alloc HQ5.out (by omega) _ | exact calAt_alloc (calAt_alloc HQ5.out (by omega) _) (by simp; omega) _))
  clear q0 q1 q2 q3 q4 q5 q6 q7 q8 q9 q10 q11 q12 q13
  obtain ⟨q0, q1, q2, q3, q4, q5, q6, q7, q8, q9, q10, q11, q12, q13⟩ := HQ6.out
  clear hb6
  go_wp2_with fail
  all_goals first
    | (exfalso; omega)
    | skip
  refine (aweeks_any c (Y + k) _ (by omega)).mono ?_
  rintro e w7 ⟨rfl, hb7⟩
  rw [WT.out, HM1.out]
  have hz7 : w.heap.size < w7.heap.size := by have := hb7.size; (try simp at this); omega
  have HB7 := hide (show Below w.heap.size w w7 by have hp := HB6.out; refine Below.trans ?_ (hb7.mono (by first | omega | (simp; done) | (simp; omega))); (repeat' (first | (with_reducible exact Below.refl _ _) | (with_reducible assumption) | (with_reducible refine Below.alloc ?_ ?_ _) | (with_reducible refine below_drewN ?_ _) | (with_reducible refine Below.drew ?_) | (with_reducible refine Below.setCell ?_ ?_ _) | (with_reducible refine Below.trans ?_ (Below.mono (by assumption) ?_)) | go_size | (simp at *; omega))))
  have HQ7 := hide (show CalAt w7 w.heap.size c from calAt_below hb7 (by first | omega | (simp; done) | (simp; omega)) (by first | exact HQ6.out | exact calAt_alloc HQ6.out (by omega) _ | exact calAt_alloc (calAt_alloc HQ6.out (by omega) _) (by simp; omega) _))
  clear q0 q1 q2 q3 q4 q5 q6 q7 q8 q9 q10 q11 q12 q13
  obtain ⟨q0, q1, q2, q3, q4, q5, q6, q7, q8, q9, q10, q11, q12, q13⟩ := HQ7.out
  clear hb7
  go_wp2_with fail
  all_goals first
    | (exfalso; omega)
    | skip
  refine (added_any c Y _ (by omega)).mono ?_
  rintro e w8 ⟨rfl, hb8⟩
  rw [WY.out, HA1.out]
  have hz8 : w.heap.size < w8.heap.size := by have := hb8.size; (try simp at this); omega
  have HB8 := hide (show Below w.heap.size w w8 by have hp := HB7.out; refine Below.trans ?_ (hb8.mono (by first | omega | (simp; done) | (simp; omega))); (repeat' (first | (with_reducible exact Below.refl _ _) | (with_reducible assumption) | (with_reducible refine Below.alloc ?_ ?_ _) | (with_reducible refine below_drewN ?_ _) | (with_reducible refine Below.drew ?_) | (with_reducible refine Below.setCell ?_ ?_ _) | (with_reducible refine Below.trans ?_ (Below.mono (by assumption) ?_)) | go_size | (simp at *; omega))))
  have HQ8 := hide (show CalAt w8 w.heap.size c from calAt_below hb8 (by first | omega | (simp; done) | (simp; omega)) (by first | exact HQ7.out | exact calAt_alloc HQ7.out (by omega) _ | exact calAt_alloc (calAt_alloc HQ7.out (by omega) _) (by simp; omega) _))
  clear q0 q1 q2 q3 q4 q5 q6 q7 q8 q9 q10 q11 q12 q13
  obtain ⟨q0, q1, q2, q3, q4, q5, q6, q7, q8, q9, q10, q11, q12, q13⟩ := HQ8.out
  clear hb8
  go_wp2_with fail
  all_goals first
    | (exfalso; omega)
    | skip
  refine (fday_any c d 5 _ (by omega)).mono ?_
  rintro e w9 ⟨rfl, hb9⟩
  rw [HF5.out, HFU.out]
  simp only [unitV]
  have hz9 : w.heap.size < w9.heap.size := by have := hb9.size; (try simp at this); omega
  have HB9 := hide (show Below w.heap.size w w9 by have hp := HB8.out; refine Below.trans ?_ (hb9.mono (by first | omega | (simp; done) | (simp; omega))); (repeat' (first | (with_reducible exact Below.refl _ _) | (with_reducible assumption) | (with_reducible refine Below.alloc ?_ ?_ _) | (with_reducible refine below_drewN ?_ _) | (with_reducible refine Below.drew ?_) | (with_reducible refine Below.setCell ?_ ?_ _) | (with_reducible refine Below.trans ?_ (Below.mono (by assumption) ?_)) | go_size | (simp at *; omega))))
  have HQ9 := hide (show CalAt w9 w.heap.size c from calAt_below hb9 (by first | omega | (simp; done) | (simp; omega)) (by first | exact HQ8.out | exact calAt_alloc HQ8.out (by omega) _ | exact calAt_alloc (calAt_alloc HQ8.out (by omega) _) (by simp; omega) _))
  clear q0 q1 q2 q3 q4 q5 q6 q7 q8 q9 q10 q11 q12 q13
  obtain ⟨q0, q1, q2, q3, q4, q5, q6, q7, q8, q9, q10, q11, q12, q13⟩ := HQ9.out
  clear hb9
  have hBel := HB9.out
  go_wp2
  all_goals first
    | (exfalso; omega)
    | (go_ret; exact ⟨ret_bool (by simp), by (repeat' (first | (with_reducible exact Below.refl _ _) | (with_reducible assumption) | (with_reducible refine Below.alloc ?_ ?_ _) | (with_reducible refine below_drewN ?_ _) | (with_reducible refine Below.drew ?_) | (with_reducible refine Below.setCell ?_ ?_ _) | (with_reducible refine Below.trans ?_ (Below.mono (by assumption) ?_)) | go_size | (simp at *; omega)))⟩)
    | (go_ret; exact ⟨ret_bool (by simp; omega), by (repeat' (first | (with_reducible exact Below.refl _ _) | (with_reducible assumption) | (with_reducible refine Below.alloc ?_ ?_ _) | (with_reducible refine below_drewN ?_ _) | (with_reducible refine Below.drew ?_) | (with_reducible refine Below.setCell ?_ ?_ _) | (with_reducible refine Below.trans ?_ (Below.mono (by assumption) ?_)) | go_size | (simp at *; omega)))⟩)

set_option maxRecDepth 100000 in
set_option maxHeartbeats 3200000 in
theorem ck_a (c : Cal) (d k : Int) (w : World) (hn : c.name.size ≤ 100) (hk6 : c.kind ≠ 6) (hs : servE c d = 0) (hx : c.first ≤ servY c d + k ∧ servY c d + k ≤ c.last) (hE : cdE c d k = 0) (hm7 : (d - cdV c d k) % 7 = 0) (hvb : 0 ≤ cdV c d k ∧ cdV c d k < 3068037) (hp : c.policy = 1) (h1 : startV c (servY c d + k) ≤ cdV c d k) (h2 : cdV c d k ≤ endV c (servY c d + k)) :
    Calls Try.prog 3 #[calV c, .int .i64 d, .int .i64 k] w fun e w' => e = .returned (.bool true) ∧ Below w.heap.size w w' := by
  have hkb := kind_b hk6
  have HE := hide hE
  have hpb1 : (c.policy == 1) = true := by simp [hp]
  have hpb2 : (c.policy == 2) = false := by simp [hp]
  have hpb3 : (c.policy == 3) = false := by simp [hp]
  clear hp hE
  have hdb := day_bd hs
  have hv1 := cdv_bd (k := k) hs hk6
  obtain ⟨hk, _, hsy, _⟩ := sv_week hs hk6
  obtain ⟨wy, ay, wy2⟩ := wks_srv hk hk6 hsy
  obtain ⟨wt, at', wt2⟩ := wks_srv hk hk6 hx
  obtain ⟨_, _, b1, b2, _⟩ := ok_years hk
  have hsyb : 1602 ≤ servY c d ∧ servY c d ≤ 9996 := by obtain ⟨h1, h2⟩ := hsy; omega
  have hk400 : -400 ≤ k ∧ k ≤ 400 := by
    have hok : c.Ok := by simpa [Cal.okB] using hk
    have h9 := hok.1
    unfold Cal.served at h9
    obtain ⟨h1, h2⟩ := hsy
    omega
  have hyb := year_bd c _ at'
  have hfw := fd_week hs hk6
  have hf5 := fd_served hs 5 (by omega) (by omega)
  have hab := added_bd hk hk6 hsy
  have HS := hide hs
  have WY := hide wy
  have WT := hide wt
  have HA := hide at'
  have HA0 := hide (ask_mono at')
  have HF5 := hide hf5
  have HFU := hide hfw.1
  have hxb := hfw.2.2.2.1
  have hxb2 := hfw.2.2.2.2.1
  have hisD : isB (cdV c d k) = true := by simp [isB]; omega
  have hisd : isB d = true := by simp [isB]; omega
  have HWD := hide (show wdV (cdV c d k) = wdV d by unfold wdV; rw [if_pos hisD, if_pos hisd]; omega)
  have HIE := hide (show isE d = 0 ∧ isE (cdV c d k) = 0 by simp [isE, hisD, hisd])
  have htm : (d - cdV c d k).tmod 7 = 0 := Int.tmod_eq_zero_of_dvd (Int.dvd_of_emod_eq_zero hm7)
  clear hisD hisd
  generalize hV1 : cdV c d k = V at *
  generalize hY1 : servY c d = Y at *
  generalize hX1 : (d - startV c Y) / 7 + 1 = X at *
  generalize hN1 : wksV c Y = n at *
  generalize hM1 : wksV c (Y + k) = m at *
  generalize hA1 : addedV c Y = a at *
  generalize hSS : startV c (Y + k) = s at *
  generalize hEE : endV c (Y + k) = b at *
  have HV1 := hide hV1
  have HY1 := hide hY1
  have HN1 := hide hN1
  have HM1 := hide hM1
  have HA1 := hide hA1
  have HSS := hide hSS
  have HEE := hide hEE
  clear hV1 hY1 hX1 hN1 hM1 hA1 hSS hEE hfw hf5 hs hk6 hk hsy wy wt ay at' hab
  have HM7 := hide hm7
  clear hm7
  simp only [calV]
  go_enter Try.func3, Try.ntmps3
  go_wp2_with fail
  refine (live19_any _).mono ?_
  rintro e w1 ⟨rfl, hb1⟩
  have hz1 : w.heap.size < w1.heap.size := by have := hb1.size; simp at this; omega
  have HB1 := hide (show Below w.heap.size w w1 by refine Below.trans ?_ (hb1.mono (by first | omega | (simp; done) | (simp; omega))); (repeat' (first | (with_reducible exact Below.refl _ _) | (with_reducible assumption) | (with_reducible refine Below.alloc ?_ ?_ _) | (with_reducible refine below_drewN ?_ _) | (with_reducible refine Below.drew ?_) | (with_reducible refine Below.setCell ?_ ?_ _) | (with_reducible refine Below.trans ?_ (Below.mono (by assumption) ?_)) | go_size | (simp at *; omega))))
  have HQ1 := hide (calAt_below hb1 (by simp) (calAt_new w c))
  obtain ⟨q0, q1, q2, q3, q4, q5, q6, q7, q8, q9, q10, q11, q12, q13⟩ := HQ1.out
  clear hb1
  go_wp2_with fail
  all_goals first
    | (exfalso; omega)
    | skip
  refine (served_any c d _ (by omega)).mono ?_
  rintro e w2 ⟨rfl, hb2⟩
  rw [HS.out, HY1.out]
  have hz2 : w.heap.size < w2.heap.size := by have := hb2.size; (try simp at this); omega
  have HB2 := hide (show Below w.heap.size w w2 by have hp := HB1.out; refine Below.trans ?_ (hb2.mono (by first | omega | (simp; done) | (simp; omega))); (repeat' (first | (with_reducible exact Below.refl _ _) | (with_reducible assumption) | (with_reducible refine Below.alloc ?_ ?_ _) | (with_reducible refine below_drewN ?_ _) | (with_reducible refine Below.drew ?_) | (with_reducible refine Below.setCell ?_ ?_ _) | (with_reducible refine Below.trans ?_ (Below.mono (by assumption) ?_)) | go_size | (simp at *; omega))))
  have HQ2 := hide (show CalAt w2 w.heap.size c from calAt_below hb2 (by first | omega | (simp; done) | (simp; omega)) (by first | exact HQ1.out | exact calAt_alloc HQ1.out (by omega) _ | exact calAt_alloc (calAt_alloc HQ1.out (by omega) _) (by simp; omega) _))
  clear q0 q1 q2 q3 q4 q5 q6 q7 q8 q9 q10 q11 q12 q13
  obtain ⟨q0, q1, q2, q3, q4, q5, q6, q7, q8, q9, q10, q11, q12, q13⟩ := HQ2.out
  clear hb2
  go_wp2_with fail
  all_goals first
    | (exfalso; omega)
    | skip
  refine (cday_any c d k _ (by omega)).mono ?_
  rintro e w3 ⟨rfl, hb3⟩
  rw [HE.out, HV1.out]
  have hz3 : w.heap.size < w3.heap.size := by have := hb3.size; (try simp at this); omega
  have HB3 := hide (show Below w.heap.size w w3 by have hp := HB2.out; refine Below.trans ?_ (hb3.mono (by first | omega | (simp; done) | (simp; omega))); (repeat' (first | (with_reducible exact Below.refl _ _) | (with_reducible assumption) | (with_reducible refine Below.alloc ?_ ?_ _) | (with_reducible refine below_drewN ?_ _) | (with_reducible refine Below.drew ?_) | (with_reducible refine Below.setCell ?_ ?_ _) | (with_reducible refine Below.trans ?_ (Below.mono (by assumption) ?_)) | go_size | (simp at *; omega))))
  have HQ3 := hide (show CalAt w3 w.heap.size c from calAt_below hb3 (by first | omega | (simp; done) | (simp; omega)) (by first | exact HQ2.out | exact calAt_alloc HQ2.out (by omega) _ | exact calAt_alloc (calAt_alloc HQ2.out (by omega) _) (by simp; omega) _))
  clear q0 q1 q2 q3 q4 q5 q6 q7 q8 q9 q10 q11 q12 q13
  obtain ⟨q0, q1, q2, q3, q4, q5, q6, q7, q8, q9, q10, q11, q12, q13⟩ := HQ3.out
  clear hb3
  go_wp2_with fail
  all_goals first
    | (exfalso; omega)
    | skip
  refine (start_any c (Y + k) _ (by omega)).mono ?_
  rintro e w4 ⟨rfl, hb4⟩
  rw [HA.out, HSS.out]
  have hz4 : w.heap.size < w4.heap.size := by have := hb4.size; (try simp at this); omega
  have HB4 := hide (show Below w.heap.size w w4 by have hp := HB3.out; refine Below.trans ?_ (hb4.mono (by first | omega | (simp; done) | (simp; omega))); (repeat' (first | (with_reducible exact Below.refl _ _) | (with_reducible assumption) | (with_reducible refine Below.alloc ?_ ?_ _) | (with_reducible refine below_drewN ?_ _) | (with_reducible refine Below.drew ?_) | (with_reducible refine Below.setCell ?_ ?_ _) | (with_reducible refine Below.trans ?_ (Below.mono (by assumption) ?_)) | go_size | (simp at *; omega))))
  have HQ4 := hide (show CalAt w4 w.heap.size c from calAt_below hb4 (by first | omega | (simp; done) | (simp; omega)) (by first | exact HQ3.out | exact calAt_alloc HQ3.out (by omega) _ | exact calAt_alloc (calAt_alloc HQ3.out (by omega) _) (by simp; omega) _))
  clear q0 q1 q2 q3 q4 q5 q6 q7 q8 q9 q10 q11 q12 q13
  obtain ⟨q0, q1, q2, q3, q4, q5, q6, q7, q8, q9, q10, q11, q12, q13⟩ := HQ4.out
  clear hb4
  go_wp2_with fail
  all_goals first
    | (exfalso; omega)
    | skip
  refine (end_any c (Y + k) _ (by omega)).mono ?_
  rintro e w5 ⟨rfl, hb5⟩
  rw [HA0.out, HEE.out]
  have hz5 : w.heap.size < w5.heap.size := by have := hb5.size; (try simp at this); omega
  have HB5 := hide (show Below w.heap.size w w5 by have hp := HB4.out; refine Below.trans ?_ (hb5.mono (by first | omega | (simp; done) | (simp; omega))); (repeat' (first | (with_reducible exact Below.refl _ _) | (with_reducible assumption) | (with_reducible refine Below.alloc ?_ ?_ _) | (with_reducible refine below_drewN ?_ _) | (with_reducible refine Below.drew ?_) | (with_reducible refine Below.setCell ?_ ?_ _) | (with_reducible refine Below.trans ?_ (Below.mono (by assumption) ?_)) | go_size | (simp at *; omega))))
  have HQ5 := hide (show CalAt w5 w.heap.size c from calAt_below hb5 (by first | omega | (simp; done) | (simp; omega)) (by first | exact HQ4.out | exact calAt_alloc HQ4.out (by omega) _ | exact calAt_alloc (calAt_alloc HQ4.out (by omega) _) (by simp; omega) _))
  clear q0 q1 q2 q3 q4 q5 q6 q7 q8 q9 q10 q11 q12 q13
  obtain ⟨q0, q1, q2, q3, q4, q5, q6, q7, q8, q9, q10, q11, q12, q13⟩ := HQ5.out
  clear hb5
  go_wp2_with fail
  all_goals first
    | (exfalso; omega)
    | skip
  refine (aweeks_any c Y _ (by omega)).mono ?_
  rintro e w6 ⟨rfl, hb6⟩
  rw [WY.out, HN1.out]
  have hz6 : w.heap.size < w6.heap.size := by have := hb6.size; (try simp at this); omega
  have HB6 := hide (show Below w.heap.size w w6 by have hp := HB5.out; refine Below.trans ?_ (hb6.mono (by first | omega | (simp; done) | (simp; omega))); (repeat' (first | (with_reducible exact Below.refl _ _) | (with_reducible assumption) | (with_reducible refine Below.alloc ?_ ?_ _) | (with_reducible refine below_drewN ?_ _) | (with_reducible refine Below.drew ?_) | (with_reducible refine Below.setCell ?_ ?_ _) | (with_reducible refine Below.trans ?_ (Below.mono (by assumption) ?_)) | go_size | (simp at *; omega))))
  have HQ6 := hide (show CalAt w6 w.heap.size c from calAt_below hb6 (by first | omega | (simp; done) | (simp; omega)) (by first | exact HQ5.out | exact calAt_alloc HQ5.out (by omega) _ | exact calAt_alloc (calAt_alloc HQ5.out (by omega) _) (by simp; omega) _))
  clear q0 q1 q2 q3 q4 q5 q6 q7 q8 q9 q10 q11 q12 q13
  obtain ⟨q0, q1, q2, q3, q4, q5, q6, q7, q8, q9, q10, q11, q12, q13⟩ := HQ6.out
  clear hb6
  go_wp2_with fail
  all_goals first
    | (exfalso; omega)
    | skip
  refine (aweeks_any c (Y + k) _ (by omega)).mono ?_
  rintro e w7 ⟨rfl, hb7⟩
  rw [WT.out, HM1.out]
  have hz7 : w.heap.size < w7.heap.size := by have := hb7.size; (try simp at this); omega
  have HB7 := hide (show Below w.heap.size w w7 by have hp := HB6.out; refine Below.trans ?_ (hb7.mono (by first | omega | (simp; done) | (simp; omega))); (repeat' (first | (with_reducible exact Below.refl _ _) | (with_reducible assumption) | (with_reducible refine Below.alloc ?_ ?_ _) | (with_reducible refine below_drewN ?_ _) | (with_reducible refine Below.drew ?_) | (with_reducible refine Below.setCell ?_ ?_ _) | (with_reducible refine Below.trans ?_ (Below.mono (by assumption) ?_)) | go_size | (simp at *; omega))))
  have HQ7 := hide (show CalAt w7 w.heap.size c from calAt_below hb7 (by first | omega | (simp; done) | (simp; omega)) (by first | exact HQ6.out | exact calAt_alloc HQ6.out (by omega) _ | exact calAt_alloc (calAt_alloc HQ6.out (by omega) _) (by simp; omega) _))
  clear q0 q1 q2 q3 q4 q5 q6 q7 q8 q9 q10 q11 q12 q13
  obtain ⟨q0, q1, q2, q3, q4, q5, q6, q7, q8, q9, q10, q11, q12, q13⟩ := HQ7.out
  clear hb7
  go_wp2_with fail
  all_goals first
    | (exfalso; omega)
    | skip
  refine (added_any c Y _ (by omega)).mono ?_
  rintro e w8 ⟨rfl, hb8⟩
  rw [WY.out, HA1.out]
  have hz8 : w.heap.size < w8.heap.size := by have := hb8.size; (try simp at this); omega
  have HB8 := hide (show Below w.heap.size w w8 by have hp := HB7.out; refine Below.trans ?_ (hb8.mono (by first | omega | (simp; done) | (simp; omega))); (repeat' (first | (with_reducible exact Below.refl _ _) | (with_reducible assumption) | (with_reducible refine Below.alloc ?_ ?_ _) | (with_reducible refine below_drewN ?_ _) | (with_reducible refine Below.drew ?_) | (with_reducible refine Below.setCell ?_ ?_ _) | (with_reducible refine Below.trans ?_ (Below.mono (by assumption) ?_)) | go_size | (simp at *; omega))))
  have HQ8 := hide (show CalAt w8 w.heap.size c from calAt_below hb8 (by first | omega | (simp; done) | (simp; omega)) (by first | exact HQ7.out | exact calAt_alloc HQ7.out (by omega) _ | exact calAt_alloc (calAt_alloc HQ7.out (by omega) _) (by simp; omega) _))
  clear q0 q1 q2 q3 q4 q5 q6 q7 q8 q9 q10 q11 q12 q13
  obtain ⟨q0, q1, q2, q3, q4, q5, q6, q7, q8, q9, q10, q11, q12, q13⟩ := HQ8.out
  clear hb8
  go_wp2_with fail
  all_goals first
    | (exfalso; omega)
    | skip
  refine (fday_any c d 5 _ (by omega)).mono ?_
  rintro e w9 ⟨rfl, hb9⟩
  rw [HF5.out, HFU.out]
  simp only [unitV]
  have hz9 : w.heap.size < w9.heap.size := by have := hb9.size; (try simp at this); omega
  have HB9 := hide (show Below w.heap.size w w9 by have hp := HB8.out; refine Below.trans ?_ (hb9.mono (by first | omega | (simp; done) | (simp; omega))); (repeat' (first | (with_reducible exact Below.refl _ _) | (with_reducible assumption) | (with_reducible refine Below.alloc ?_ ?_ _) | (with_reducible refine below_drewN ?_ _) | (with_reducible refine Below.drew ?_) | (with_reducible refine Below.setCell ?_ ?_ _) | (with_reducible refine Below.trans ?_ (Below.mono (by assumption) ?_)) | go_size | (simp at *; omega))))
  have HQ9 := hide (show CalAt w9 w.heap.size c from calAt_below hb9 (by first | omega | (simp; done) | (simp; omega)) (by first | exact HQ8.out | exact calAt_alloc HQ8.out (by omega) _ | exact calAt_alloc (calAt_alloc HQ8.out (by omega) _) (by simp; omega) _))
  clear q0 q1 q2 q3 q4 q5 q6 q7 q8 q9 q10 q11 q12 q13
  obtain ⟨q0, q1, q2, q3, q4, q5, q6, q7, q8, q9, q10, q11, q12, q13⟩ := HQ9.out
  clear hb9
  go_wp2_with fail
  all_goals first
    | (exfalso; omega)
    | skip
  refine (weekday_any d _).mono ?_
  rintro e w' ⟨rfl, rfl⟩
  rw [HIE.out.1]
  go_wp2_with fail
  refine (weekday_any V _).mono ?_
  rintro e w' ⟨rfl, rfl⟩
  rw [HIE.out.2, HWD.out]
  have hBel := HB9.out
  go_wp2
  all_goals first
    | (exfalso; omega)
    | (go_ret; exact ⟨ret_bool (by simp), by (repeat' (first | (with_reducible exact Below.refl _ _) | (with_reducible assumption) | (with_reducible refine Below.alloc ?_ ?_ _) | (with_reducible refine below_drewN ?_ _) | (with_reducible refine Below.drew ?_) | (with_reducible refine Below.setCell ?_ ?_ _) | (with_reducible refine Below.trans ?_ (Below.mono (by assumption) ?_)) | go_size | (simp at *; omega)))⟩)
    | (go_ret; exact ⟨ret_bool (by simp; omega), by (repeat' (first | (with_reducible exact Below.refl _ _) | (with_reducible assumption) | (with_reducible refine Below.alloc ?_ ?_ _) | (with_reducible refine below_drewN ?_ _) | (with_reducible refine Below.drew ?_) | (with_reducible refine Below.setCell ?_ ?_ _) | (with_reducible refine Below.trans ?_ (Below.mono (by assumption) ?_)) | go_size | (simp at *; omega)))⟩)

set_option maxRecDepth 100000 in
set_option maxHeartbeats 3200000 in
theorem ck_b (c : Cal) (d k : Int) (w : World) (hn : c.name.size ≤ 100) (hk6 : c.kind ≠ 6) (hs : servE c d = 0) (hx : c.first ≤ servY c d + k ∧ servY c d + k ≤ c.last) (hE : cdE c d k = 0) (hm7 : (d - cdV c d k) % 7 = 0) (hvb : 0 ≤ cdV c d k ∧ cdV c d k < 3068037) (hp : c.policy = 1) (q1 : wksV c (servY c d) = 53) (q2 : wksV c (servY c d + k) = 52) (h1 : endV c (servY c d + k) < cdV c d k) (h2 : cdV c d k ≤ endV c (servY c d + k) + 7) :
    Calls Try.prog 3 #[calV c, .int .i64 d, .int .i64 k] w fun e w' => e = .returned (.bool true) ∧ Below w.heap.size w w' := by
  have hkb := kind_b hk6
  have HE := hide hE
  have hpb1 : (c.policy == 1) = true := by simp [hp]
  have hpb2 : (c.policy == 2) = false := by simp [hp]
  have hpb3 : (c.policy == 3) = false := by simp [hp]
  clear hp hE
  have hdb := day_bd hs
  have hv1 := cdv_bd (k := k) hs hk6
  obtain ⟨hk, _, hsy, _⟩ := sv_week hs hk6
  obtain ⟨wy, ay, wy2⟩ := wks_srv hk hk6 hsy
  obtain ⟨wt, at', wt2⟩ := wks_srv hk hk6 hx
  obtain ⟨_, _, b1, b2, _⟩ := ok_years hk
  have hsyb : 1602 ≤ servY c d ∧ servY c d ≤ 9996 := by obtain ⟨h1, h2⟩ := hsy; omega
  have hk400 : -400 ≤ k ∧ k ≤ 400 := by
    have hok : c.Ok := by simpa [Cal.okB] using hk
    have h9 := hok.1
    unfold Cal.served at h9
    obtain ⟨h1, h2⟩ := hsy
    omega
  have hyb := year_bd c _ at'
  have hfw := fd_week hs hk6
  have hf5 := fd_served hs 5 (by omega) (by omega)
  have hab := added_bd hk hk6 hsy
  have HS := hide hs
  have WY := hide wy
  have WT := hide wt
  have HA := hide at'
  have HA0 := hide (ask_mono at')
  have HF5 := hide hf5
  have HFU := hide hfw.1
  have hxb := hfw.2.2.2.1
  have hxb2 := hfw.2.2.2.2.1
  have hisD : isB (cdV c d k) = true := by simp [isB]; omega
  have hisd : isB d = true := by simp [isB]; omega
  have HWD := hide (show wdV (cdV c d k) = wdV d by unfold wdV; rw [if_pos hisD, if_pos hisd]; omega)
  have HIE := hide (show isE d = 0 ∧ isE (cdV c d k) = 0 by simp [isE, hisD, hisd])
  have htm : (d - cdV c d k).tmod 7 = 0 := Int.tmod_eq_zero_of_dvd (Int.dvd_of_emod_eq_zero hm7)
  clear hisD hisd
  generalize hV1 : cdV c d k = V at *
  generalize hY1 : servY c d = Y at *
  generalize hX1 : (d - startV c Y) / 7 + 1 = X at *
  generalize hN1 : wksV c Y = n at *
  generalize hM1 : wksV c (Y + k) = m at *
  generalize hA1 : addedV c Y = a at *
  generalize hSS : startV c (Y + k) = s at *
  generalize hEE : endV c (Y + k) = b at *
  have HV1 := hide hV1
  have HY1 := hide hY1
  have HN1 := hide hN1
  have HM1 := hide hM1
  have HA1 := hide hA1
  have HSS := hide hSS
  have HEE := hide hEE
  clear hV1 hY1 hX1 hN1 hM1 hA1 hSS hEE hfw hf5 hs hk6 hk hsy wy wt ay at' hab
  have HM7 := hide hm7
  clear hm7
  have Q1 := hide q1
  have Q2 := hide q2
  clear q1 q2
  simp only [calV]
  go_enter Try.func3, Try.ntmps3
  go_wp2_with fail
  refine (live19_any _).mono ?_
  rintro e w1 ⟨rfl, hb1⟩
  have hz1 : w.heap.size < w1.heap.size := by have := hb1.size; simp at this; omega
  have HB1 := hide (show Below w.heap.size w w1 by refine Below.trans ?_ (hb1.mono (by first | omega | (simp; done) | (simp; omega))); (repeat' (first | (with_reducible exact Below.refl _ _) | (with_reducible assumption) | (with_reducible refine Below.alloc ?_ ?_ _) | (with_reducible refine below_drewN ?_ _) | (with_reducible refine Below.drew ?_) | (with_reducible refine Below.setCell ?_ ?_ _) | (with_reducible refine Below.trans ?_ (Below.mono (by assumption) ?_)) | go_size | (simp at *; omega))))
  have HQ1 := hide (calAt_below hb1 (by simp) (calAt_new w c))
  obtain ⟨q0, q1, q2, q3, q4, q5, q6, q7, q8, q9, q10, q11, q12, q13⟩ := HQ1.out
  clear hb1
  go_wp2_with fail
  all_goals first
    | (exfalso; omega)
    | skip
  refine (served_any c d _ (by omega)).mono ?_
  rintro e w2 ⟨rfl, hb2⟩
  rw [HS.out, HY1.out]
  have hz2 : w.heap.size < w2.heap.size := by have := hb2.size; (try simp at this); omega
  have HB2 := hide (show Below w.heap.size w w2 by have hp := HB1.out; refine Below.trans ?_ (hb2.mono (by first | omega | (simp; done) | (simp; omega))); (repeat' (first | (with_reducible exact Below.refl _ _) | (with_reducible assumption) | (with_reducible refine Below.alloc ?_ ?_ _) | (with_reducible refine below_drewN ?_ _) | (with_reducible refine Below.drew ?_) | (with_reducible refine Below.setCell ?_ ?_ _) | (with_reducible refine Below.trans ?_ (Below.mono (by assumption) ?_)) | go_size | (simp at *; omega))))
  have HQ2 := hide (show CalAt w2 w.heap.size c from calAt_below hb2 (by first | omega | (simp; done) | (simp; omega)) (by first | exact HQ1.out | exact calAt_alloc HQ1.out (by omega) _ | exact calAt_alloc (calAt_alloc HQ1.out (by omega) _) (by simp; omega) _))
  clear q0 q1 q2 q3 q4 q5 q6 q7 q8 q9 q10 q11 q12 q13
  obtain ⟨q0, q1, q2, q3, q4, q5, q6, q7, q8, q9, q10, q11, q12, q13⟩ := HQ2.out
  clear hb2
  go_wp2_with fail
  all_goals first
    | (exfalso; omega)
    | skip
  refine (cday_any c d k _ (by omega)).mono ?_
  rintro e w3 ⟨rfl, hb3⟩
  rw [HE.out, HV1.out]
  have hz3 : w.heap.size < w3.heap.size := by have := hb3.size; (try simp at this); omega
  have HB3 := hide (show Below w.heap.size w w3 by have hp := HB2.out; refine Below.trans ?_ (hb3.mono (by first | omega | (simp; done) | (simp; omega))); (repeat' (first | (with_reducible exact Below.refl _ _) | (with_reducible assumption) | (with_reducible refine Below.alloc ?_ ?_ _) | (with_reducible refine below_drewN ?_ _) | (with_reducible refine Below.drew ?_) | (with_reducible refine Below.setCell ?_ ?_ _) | (with_reducible refine Below.trans ?_ (Below.mono (by assumption) ?_)) | go_size | (simp at *; omega))))
  have HQ3 := hide (show CalAt w3 w.heap.size c from calAt_below hb3 (by first | omega | (simp; done) | (simp; omega)) (by first | exact HQ2.out | exact calAt_alloc HQ2.out (by omega) _ | exact calAt_alloc (calAt_alloc HQ2.out (by omega) _) (by simp; omega) _))
  clear q0 q1 q2 q3 q4 q5 q6 q7 q8 q9 q10 q11 q12 q13
  obtain ⟨q0, q1, q2, q3, q4, q5, q6, q7, q8, q9, q10, q11, q12, q13⟩ := HQ3.out
  clear hb3
  go_wp2_with fail
  all_goals first
    | (exfalso; omega)
    | skip
  refine (start_any c (Y + k) _ (by omega)).mono ?_
  rintro e w4 ⟨rfl, hb4⟩
  rw [HA.out, HSS.out]
  have hz4 : w.heap.size < w4.heap.size := by have := hb4.size; (try simp at this); omega
  have HB4 := hide (show Below w.heap.size w w4 by have hp := HB3.out; refine Below.trans ?_ (hb4.mono (by first | omega | (simp; done) | (simp; omega))); (repeat' (first | (with_reducible exact Below.refl _ _) | (with_reducible assumption) | (with_reducible refine Below.alloc ?_ ?_ _) | (with_reducible refine below_drewN ?_ _) | (with_reducible refine Below.drew ?_) | (with_reducible refine Below.setCell ?_ ?_ _) | (with_reducible refine Below.trans ?_ (Below.mono (by assumption) ?_)) | go_size | (simp at *; omega))))
  have HQ4 := hide (show CalAt w4 w.heap.size c from calAt_below hb4 (by first | omega | (simp; done) | (simp; omega)) (by first | exact HQ3.out | exact calAt_alloc HQ3.out (by omega) _ | exact calAt_alloc (calAt_alloc HQ3.out (by omega) _) (by simp; omega) _))
  clear q0 q1 q2 q3 q4 q5 q6 q7 q8 q9 q10 q11 q12 q13
  obtain ⟨q0, q1, q2, q3, q4, q5, q6, q7, q8, q9, q10, q11, q12, q13⟩ := HQ4.out
  clear hb4
  go_wp2_with fail
  all_goals first
    | (exfalso; omega)
    | skip
  refine (end_any c (Y + k) _ (by omega)).mono ?_
  rintro e w5 ⟨rfl, hb5⟩
  rw [HA0.out, HEE.out]
  have hz5 : w.heap.size < w5.heap.size := by have := hb5.size; (try simp at this); omega
  have HB5 := hide (show Below w.heap.size w w5 by have hp := HB4.out; refine Below.trans ?_ (hb5.mono (by first | omega | (simp; done) | (simp; omega))); (repeat' (first | (with_reducible exact Below.refl _ _) | (with_reducible assumption) | (with_reducible refine Below.alloc ?_ ?_ _) | (with_reducible refine below_drewN ?_ _) | (with_reducible refine Below.drew ?_) | (with_reducible refine Below.setCell ?_ ?_ _) | (with_reducible refine Below.trans ?_ (Below.mono (by assumption) ?_)) | go_size | (simp at *; omega))))
  have HQ5 := hide (show CalAt w5 w.heap.size c from calAt_below hb5 (by first | omega | (simp; done) | (simp; omega)) (by first | exact HQ4.out | exact calAt_alloc HQ4.out (by omega) _ | exact calAt_alloc (calAt_alloc HQ4.out (by omega) _) (by simp; omega) _))
  clear q0 q1 q2 q3 q4 q5 q6 q7 q8 q9 q10 q11 q12 q13
  obtain ⟨q0, q1, q2, q3, q4, q5, q6, q7, q8, q9, q10, q11, q12, q13⟩ := HQ5.out
  clear hb5
  go_wp2_with fail
  all_goals first
    | (exfalso; omega)
    | skip
  refine (aweeks_any c Y _ (by omega)).mono ?_
  rintro e w6 ⟨rfl, hb6⟩
  rw [WY.out, HN1.out]
  have hz6 : w.heap.size < w6.heap.size := by have := hb6.size; (try simp at this); omega
  have HB6 := hide (show Below w.heap.size w w6 by have hp := HB5.out; refine Below.trans ?_ (hb6.mono (by first | omega | (simp; done) | (simp; omega))); (repeat' (first | (with_reducible exact Below.refl _ _) | (with_reducible assumption) | (with_reducible refine Below.alloc ?_ ?_ _) | (with_reducible refine below_drewN ?_ _) | (with_reducible refine Below.drew ?_) | (with_reducible refine Below.setCell ?_ ?_ _) | (with_reducible refine Below.trans ?_ (Below.mono (by assumption) ?_)) | go_size | (simp at *; omega))))
  have HQ6 := hide (show CalAt w6 w.heap.size c from calAt_below hb6 (by first | omega | (simp; done) | (simp; omega)) (by first | exact HQ5.out | exact calAt_alloc HQ5.out (by omega) _ | exact calAt_alloc (calAt_alloc HQ5.out (by omega) _) (by simp; omega) _))
  clear q0 q1 q2 q3 q4 q5 q6 q7 q8 q9 q10 q11 q12 q13
  obtain ⟨q0, q1, q2, q3, q4, q5, q6, q7, q8, q9, q10, q11, q12, q13⟩ := HQ6.out
  clear hb6
  go_wp2_with fail
  all_goals first
    | (exfalso; omega)
    | skip
  refine (aweeks_any c (Y + k) _ (by omega)).mono ?_
  rintro e w7 ⟨rfl, hb7⟩
  rw [WT.out, HM1.out]
  have hz7 : w.heap.size < w7.heap.size := by have := hb7.size; (try simp at this); omega
  have HB7 := hide (show Below w.heap.size w w7 by have hp := HB6.out; refine Below.trans ?_ (hb7.mono (by first | omega | (simp; done) | (simp; omega))); (repeat' (first | (with_reducible exact Below.refl _ _) | (with_reducible assumption) | (with_reducible refine Below.alloc ?_ ?_ _) | (with_reducible refine below_drewN ?_ _) | (with_reducible refine Below.drew ?_) | (with_reducible refine Below.setCell ?_ ?_ _) | (with_reducible refine Below.trans ?_ (Below.mono (by assumption) ?_)) | go_size | (simp at *; omega))))
  have HQ7 := hide (show CalAt w7 w.heap.size c from calAt_below hb7 (by first | omega | (simp; done) | (simp; omega)) (by first | exact HQ6.out | exact calAt_alloc HQ6.out (by omega) _ | exact calAt_alloc (calAt_alloc HQ6.out (by omega) _) (by simp; omega) _))
  clear q0 q1 q2 q3 q4 q5 q6 q7 q8 q9 q10 q11 q12 q13
  obtain ⟨q0, q1, q2, q3, q4, q5, q6, q7, q8, q9, q10, q11, q12, q13⟩ := HQ7.out
  clear hb7
  go_wp2_with fail
  all_goals first
    | (exfalso; omega)
    | skip
  refine (added_any c Y _ (by omega)).mono ?_
  rintro e w8 ⟨rfl, hb8⟩
  rw [WY.out, HA1.out]
  have hz8 : w.heap.size < w8.heap.size := by have := hb8.size; (try simp at this); omega
  have HB8 := hide (show Below w.heap.size w w8 by have hp := HB7.out; refine Below.trans ?_ (hb8.mono (by first | omega | (simp; done) | (simp; omega))); (repeat' (first | (with_reducible exact Below.refl _ _) | (with_reducible assumption) | (with_reducible refine Below.alloc ?_ ?_ _) | (with_reducible refine below_drewN ?_ _) | (with_reducible refine Below.drew ?_) | (with_reducible refine Below.setCell ?_ ?_ _) | (with_reducible refine Below.trans ?_ (Below.mono (by assumption) ?_)) | go_size | (simp at *; omega))))
  have HQ8 := hide (show CalAt w8 w.heap.size c from calAt_below hb8 (by first | omega | (simp; done) | (simp; omega)) (by first | exact HQ7.out | exact calAt_alloc HQ7.out (by omega) _ | exact calAt_alloc (calAt_alloc HQ7.out (by omega) _) (by simp; omega) _))
  clear q0 q1 q2 q3 q4 q5 q6 q7 q8 q9 q10 q11 q12 q13
  obtain ⟨q0, q1, q2, q3, q4, q5, q6, q7, q8, q9, q10, q11, q12, q13⟩ := HQ8.out
  clear hb8
  go_wp2_with fail
  all_goals first
    | (exfalso; omega)
    | skip
  refine (fday_any c d 5 _ (by omega)).mono ?_
  rintro e w9 ⟨rfl, hb9⟩
  rw [HF5.out, HFU.out]
  simp only [unitV]
  have hz9 : w.heap.size < w9.heap.size := by have := hb9.size; (try simp at this); omega
  have HB9 := hide (show Below w.heap.size w w9 by have hp := HB8.out; refine Below.trans ?_ (hb9.mono (by first | omega | (simp; done) | (simp; omega))); (repeat' (first | (with_reducible exact Below.refl _ _) | (with_reducible assumption) | (with_reducible refine Below.alloc ?_ ?_ _) | (with_reducible refine below_drewN ?_ _) | (with_reducible refine Below.drew ?_) | (with_reducible refine Below.setCell ?_ ?_ _) | (with_reducible refine Below.trans ?_ (Below.mono (by assumption) ?_)) | go_size | (simp at *; omega))))
  have HQ9 := hide (show CalAt w9 w.heap.size c from calAt_below hb9 (by first | omega | (simp; done) | (simp; omega)) (by first | exact HQ8.out | exact calAt_alloc HQ8.out (by omega) _ | exact calAt_alloc (calAt_alloc HQ8.out (by omega) _) (by simp; omega) _))
  clear q0 q1 q2 q3 q4 q5 q6 q7 q8 q9 q10 q11 q12 q13
  obtain ⟨q0, q1, q2, q3, q4, q5, q6, q7, q8, q9, q10, q11, q12, q13⟩ := HQ9.out
  clear hb9
  go_wp2_with fail
  all_goals first
    | (exfalso; omega)
    | skip
  refine (weekday_any d _).mono ?_
  rintro e w' ⟨rfl, rfl⟩
  rw [HIE.out.1]
  go_wp2_with fail
  refine (weekday_any V _).mono ?_
  rintro e w' ⟨rfl, rfl⟩
  rw [HIE.out.2, HWD.out]
  have q1 := Q1.out
  have q2 := Q2.out
  have hBel := HB9.out
  go_wp2
  all_goals first
    | (exfalso; omega)
    | (go_ret; exact ⟨ret_bool (by simp), by (repeat' (first | (with_reducible exact Below.refl _ _) | (with_reducible assumption) | (with_reducible refine Below.alloc ?_ ?_ _) | (with_reducible refine below_drewN ?_ _) | (with_reducible refine Below.drew ?_) | (with_reducible refine Below.setCell ?_ ?_ _) | (with_reducible refine Below.trans ?_ (Below.mono (by assumption) ?_)) | go_size | (simp at *; omega)))⟩)
    | (go_ret; exact ⟨ret_bool (by simp; omega), by (repeat' (first | (with_reducible exact Below.refl _ _) | (with_reducible assumption) | (with_reducible refine Below.alloc ?_ ?_ _) | (with_reducible refine below_drewN ?_ _) | (with_reducible refine Below.drew ?_) | (with_reducible refine Below.setCell ?_ ?_ _) | (with_reducible refine Below.trans ?_ (Below.mono (by assumption) ?_)) | go_size | (simp at *; omega)))⟩)

set_option maxRecDepth 100000 in
set_option maxHeartbeats 3200000 in
theorem ck_c (c : Cal) (d k : Int) (w : World) (hn : c.name.size ≤ 100) (hk6 : c.kind ≠ 6) (hs : servE c d = 0) (hx : c.first ≤ servY c d + k ∧ servY c d + k ≤ c.last) (hE : cdE c d k = 0) (hm7 : (d - cdV c d k) % 7 = 0) (hvb : 0 ≤ cdV c d k ∧ cdV c d k < 3068037) (hp : c.policy = 2) (h1 : startV c (servY c d + k) ≤ cdV c d k) (h2 : cdV c d k ≤ endV c (servY c d + k)) :
    Calls Try.prog 3 #[calV c, .int .i64 d, .int .i64 k] w fun e w' => e = .returned (.bool true) ∧ Below w.heap.size w w' := by
  have hkb := kind_b hk6
  have HE := hide hE
  have hpb1 : (c.policy == 1) = false := by simp [hp]
  have hpb2 : (c.policy == 2) = true := by simp [hp]
  have hpb3 : (c.policy == 3) = false := by simp [hp]
  clear hp hE
  have hdb := day_bd hs
  have hv1 := cdv_bd (k := k) hs hk6
  obtain ⟨hk, _, hsy, _⟩ := sv_week hs hk6
  obtain ⟨wy, ay, wy2⟩ := wks_srv hk hk6 hsy
  obtain ⟨wt, at', wt2⟩ := wks_srv hk hk6 hx
  obtain ⟨_, _, b1, b2, _⟩ := ok_years hk
  have hsyb : 1602 ≤ servY c d ∧ servY c d ≤ 9996 := by obtain ⟨h1, h2⟩ := hsy; omega
  have hk400 : -400 ≤ k ∧ k ≤ 400 := by
    have hok : c.Ok := by simpa [Cal.okB] using hk
    have h9 := hok.1
    unfold Cal.served at h9
    obtain ⟨h1, h2⟩ := hsy
    omega
  have hyb := year_bd c _ at'
  have hfw := fd_week hs hk6
  have hf5 := fd_served hs 5 (by omega) (by omega)
  have hab := added_bd hk hk6 hsy
  have HS := hide hs
  have WY := hide wy
  have WT := hide wt
  have HA := hide at'
  have HA0 := hide (ask_mono at')
  have HF5 := hide hf5
  have HFU := hide hfw.1
  have hxb := hfw.2.2.2.1
  have hxb2 := hfw.2.2.2.2.1
  have hisD : isB (cdV c d k) = true := by simp [isB]; omega
  have hisd : isB d = true := by simp [isB]; omega
  have HWD := hide (show wdV (cdV c d k) = wdV d by unfold wdV; rw [if_pos hisD, if_pos hisd]; omega)
  have HIE := hide (show isE d = 0 ∧ isE (cdV c d k) = 0 by simp [isE, hisD, hisd])
  have htm : (d - cdV c d k).tmod 7 = 0 := Int.tmod_eq_zero_of_dvd (Int.dvd_of_emod_eq_zero hm7)
  clear hisD hisd
  generalize hV1 : cdV c d k = V at *
  generalize hY1 : servY c d = Y at *
  generalize hX1 : (d - startV c Y) / 7 + 1 = X at *
  generalize hN1 : wksV c Y = n at *
  generalize hM1 : wksV c (Y + k) = m at *
  generalize hA1 : addedV c Y = a at *
  generalize hSS : startV c (Y + k) = s at *
  generalize hEE : endV c (Y + k) = b at *
  have HV1 := hide hV1
  have HY1 := hide hY1
  have HN1 := hide hN1
  have HM1 := hide hM1
  have HA1 := hide hA1
  have HSS := hide hSS
  have HEE := hide hEE
  clear hV1 hY1 hX1 hN1 hM1 hA1 hSS hEE hfw hf5 hs hk6 hk hsy wy wt ay at' hab
  have HM7 := hide hm7
  clear hm7
  simp only [calV]
  go_enter Try.func3, Try.ntmps3
  go_wp2_with fail
  refine (live19_any _).mono ?_
  rintro e w1 ⟨rfl, hb1⟩
  have hz1 : w.heap.size < w1.heap.size := by have := hb1.size; simp at this; omega
  have HB1 := hide (show Below w.heap.size w w1 by refine Below.trans ?_ (hb1.mono (by first | omega | (simp; done) | (simp; omega))); (repeat' (first | (with_reducible exact Below.refl _ _) | (with_reducible assumption) | (with_reducible refine Below.alloc ?_ ?_ _) | (with_reducible refine below_drewN ?_ _) | (with_reducible refine Below.drew ?_) | (with_reducible refine Below.setCell ?_ ?_ _) | (with_reducible refine Below.trans ?_ (Below.mono (by assumption) ?_)) | go_size | (simp at *; omega))))
  have HQ1 := hide (calAt_below hb1 (by simp) (calAt_new w c))
  obtain ⟨q0, q1, q2, q3, q4, q5, q6, q7, q8, q9, q10, q11, q12, q13⟩ := HQ1.out
  clear hb1
  go_wp2_with fail
  all_goals first
    | (exfalso; omega)
    | skip
  refine (served_any c d _ (by omega)).mono ?_
  rintro e w2 ⟨rfl, hb2⟩
  rw [HS.out, HY1.out]
  have hz2 : w.heap.size < w2.heap.size := by have := hb2.size; (try simp at this); omega
  have HB2 := hide (show Below w.heap.size w w2 by have hp := HB1.out; refine Below.trans ?_ (hb2.mono (by first | omega | (simp; done) | (simp; omega))); (repeat' (first | (with_reducible exact Below.refl _ _) | (with_reducible assumption) | (with_reducible refine Below.alloc ?_ ?_ _) | (with_reducible refine below_drewN ?_ _) | (with_reducible refine Below.drew ?_) | (with_reducible refine Below.setCell ?_ ?_ _) | (with_reducible refine Below.trans ?_ (Below.mono (by assumption) ?_)) | go_size | (simp at *; omega))))
  have HQ2 := hide (show CalAt w2 w.heap.size c from calAt_below hb2 (by first | omega | (simp; done) | (simp; omega)) (by first | exact HQ1.out | exact calAt_alloc HQ1.out (by omega) _ | exact calAt_alloc (calAt_alloc HQ1.out (by omega) _) (by simp; omega) _))
  clear q0 q1 q2 q3 q4 q5 q6 q7 q8 q9 q10 q11 q12 q13
  obtain ⟨q0, q1, q2, q3, q4, q5, q6, q7, q8, q9, q10, q11, q12, q13⟩ := HQ2.out
  clear hb2
  go_wp2_with fail
  all_goals first
    | (exfalso; omega)
    | skip
  refine (cday_any c d k _ (by omega)).mono ?_
  rintro e w3 ⟨rfl, hb3⟩
  rw [HE.out, HV1.out]
  have hz3 : w.heap.size < w3.heap.size := by have := hb3.size; (try simp at this); omega
  have HB3 := hide (show Below w.heap.size w w3 by have hp := HB2.out; refine Below.trans ?_ (hb3.mono (by first | omega | (simp; done) | (simp; omega))); (repeat' (first | (with_reducible exact Below.refl _ _) | (with_reducible assumption) | (with_reducible refine Below.alloc ?_ ?_ _) | (with_reducible refine below_drewN ?_ _) | (with_reducible refine Below.drew ?_) | (with_reducible refine Below.setCell ?_ ?_ _) | (with_reducible refine Below.trans ?_ (Below.mono (by assumption) ?_)) | go_size | (simp at *; omega))))
  have HQ3 := hide (show CalAt w3 w.heap.size c from calAt_below hb3 (by first | omega | (simp; done) | (simp; omega)) (by first | exact HQ2.out | exact calAt_alloc HQ2.out (by omega) _ | exact calAt_alloc (calAt_alloc HQ2.out (by omega) _) (by simp; omega) _))
  clear q0 q1 q2 q3 q4 q5 q6 q7 q8 q9 q10 q11 q12 q13
  obtain ⟨q0, q1, q2, q3, q4, q5, q6, q7, q8, q9, q10, q11, q12, q13⟩ := HQ3.out
  clear hb3
  go_wp2_with fail
  all_goals first
    | (exfalso; omega)
    | skip
  refine (start_any c (Y + k) _ (by omega)).mono ?_
  rintro e w4 ⟨rfl, hb4⟩
  rw [HA.out, HSS.out]
  have hz4 : w.heap.size < w4.heap.size := by have := hb4.size; (try simp at this); omega
  have HB4 := hide (show Below w.heap.size w w4 by have hp := HB3.out; refine Below.trans ?_ (hb4.mono (by first | omega | (simp; done) | (simp; omega))); (repeat' (first | (with_reducible exact Below.refl _ _) | (with_reducible assumption) | (with_reducible refine Below.alloc ?_ ?_ _) | (with_reducible refine below_drewN ?_ _) | (with_reducible refine Below.drew ?_) | (with_reducible refine Below.setCell ?_ ?_ _) | (with_reducible refine Below.trans ?_ (Below.mono (by assumption) ?_)) | go_size | (simp at *; omega))))
  have HQ4 := hide (show CalAt w4 w.heap.size c from calAt_below hb4 (by first | omega | (simp; done) | (simp; omega)) (by first | exact HQ3.out | exact calAt_alloc HQ3.out (by omega) _ | exact calAt_alloc (calAt_alloc HQ3.out (by omega) _) (by simp; omega) _))
  clear q0 q1 q2 q3 q4 q5 q6 q7 q8 q9 q10 q11 q12 q13
  obtain ⟨q0, q1, q2, q3, q4, q5, q6, q7, q8, q9, q10, q11, q12, q13⟩ := HQ4.out
  clear hb4
  go_wp2_with fail
  all_goals first
    | (exfalso; omega)
    | skip
  refine (end_any c (Y + k) _ (by omega)).mono ?_
  rintro e w5 ⟨rfl, hb5⟩
  rw [HA0.out, HEE.out]
  have hz5 : w.heap.size < w5.heap.size := by have := hb5.size; (try simp at this); omega
  have HB5 := hide (show Below w.heap.size w w5 by have hp := HB4.out; refine Below.trans ?_ (hb5.mono (by first | omega | (simp; done) | (simp; omega))); (repeat' (first | (with_reducible exact Below.refl _ _) | (with_reducible assumption) | (with_reducible refine Below.alloc ?_ ?_ _) | (with_reducible refine below_drewN ?_ _) | (with_reducible refine Below.drew ?_) | (with_reducible refine Below.setCell ?_ ?_ _) | (with_reducible refine Below.trans ?_ (Below.mono (by assumption) ?_)) | go_size | (simp at *; omega))))
  have HQ5 := hide (show CalAt w5 w.heap.size c from calAt_below hb5 (by first | omega | (simp; done) | (simp; omega)) (by first | exact HQ4.out | exact calAt_alloc HQ4.out (by omega) _ | exact calAt_alloc (calAt_alloc HQ4.out (by omega) _) (by simp; omega) _))
  clear q0 q1 q2 q3 q4 q5 q6 q7 q8 q9 q10 q11 q12 q13
  obtain ⟨q0, q1, q2, q3, q4, q5, q6, q7, q8, q9, q10, q11, q12, q13⟩ := HQ5.out
  clear hb5
  go_wp2_with fail
  all_goals first
    | (exfalso; omega)
    | skip
  refine (aweeks_any c Y _ (by omega)).mono ?_
  rintro e w6 ⟨rfl, hb6⟩
  rw [WY.out, HN1.out]
  have hz6 : w.heap.size < w6.heap.size := by have := hb6.size; (try simp at this); omega
  have HB6 := hide (show Below w.heap.size w w6 by have hp := HB5.out; refine Below.trans ?_ (hb6.mono (by first | omega | (simp; done) | (simp; omega))); (repeat' (first | (with_reducible exact Below.refl _ _) | (with_reducible assumption) | (with_reducible refine Below.alloc ?_ ?_ _) | (with_reducible refine below_drewN ?_ _) | (with_reducible refine Below.drew ?_) | (with_reducible refine Below.setCell ?_ ?_ _) | (with_reducible refine Below.trans ?_ (Below.mono (by assumption) ?_)) | go_size | (simp at *; omega))))
  have HQ6 := hide (show CalAt w6 w.heap.size c from calAt_below hb6 (by first | omega | (simp; done) | (simp; omega)) (by first | exact HQ5.out | exact calAt_alloc HQ5.out (by omega) _ | exact calAt_alloc (calAt_alloc HQ5.out (by omega) _) (by simp; omega) _))
  clear q0 q1 q2 q3 q4 q5 q6 q7 q8 q9 q10 q11 q12 q13
  obtain ⟨q0, q1, q2, q3, q4, q5, q6, q7, q8, q9, q10, q11, q12, q13⟩ := HQ6.out
  clear hb6
  go_wp2_with fail
  all_goals first
    | (exfalso; omega)
    | skip
  refine (aweeks_any c (Y + k) _ (by omega)).mono ?_
  rintro e w7 ⟨rfl, hb7⟩
  rw [WT.out, HM1.out]
  have hz7 : w.heap.size < w7.heap.size := by have := hb7.size; (try simp at this); omega
  have HB7 := hide (show Below w.heap.size w w7 by have hp := HB6.out; refine Below.trans ?_ (hb7.mono (by first | omega | (simp; done) | (simp; omega))); (repeat' (first | (with_reducible exact Below.refl _ _) | (with_reducible assumption) | (with_reducible refine Below.alloc ?_ ?_ _) | (with_reducible refine below_drewN ?_ _) | (with_reducible refine Below.drew ?_) | (with_reducible refine Below.setCell ?_ ?_ _) | (with_reducible refine Below.trans ?_ (Below.mono (by assumption) ?_)) | go_size | (simp at *; omega))))
  have HQ7 := hide (show CalAt w7 w.heap.size c from calAt_below hb7 (by first | omega | (simp; done) | (simp; omega)) (by first | exact HQ6.out | exact calAt_alloc HQ6.out (by omega) _ | exact calAt_alloc (calAt_alloc HQ6.out (by omega) _) (by simp; omega) _))
  clear q0 q1 q2 q3 q4 q5 q6 q7 q8 q9 q10 q11 q12 q13
  obtain ⟨q0, q1, q2, q3, q4, q5, q6, q7, q8, q9, q10, q11, q12, q13⟩ := HQ7.out
  clear hb7
  go_wp2_with fail
  all_goals first
    | (exfalso; omega)
    | skip
  refine (added_any c Y _ (by omega)).mono ?_
  rintro e w8 ⟨rfl, hb8⟩
  rw [WY.out, HA1.out]
  have hz8 : w.heap.size < w8.heap.size := by have := hb8.size; (try simp at this); omega
  have HB8 := hide (show Below w.heap.size w w8 by have hp := HB7.out; refine Below.trans ?_ (hb8.mono (by first | omega | (simp; done) | (simp; omega))); (repeat' (first | (with_reducible exact Below.refl _ _) | (with_reducible assumption) | (with_reducible refine Below.alloc ?_ ?_ _) | (with_reducible refine below_drewN ?_ _) | (with_reducible refine Below.drew ?_) | (with_reducible refine Below.setCell ?_ ?_ _) | (with_reducible refine Below.trans ?_ (Below.mono (by assumption) ?_)) | go_size | (simp at *; omega))))
  have HQ8 := hide (show CalAt w8 w.heap.size c from calAt_below hb8 (by first | omega | (simp; done) | (simp; omega)) (by first | exact HQ7.out | exact calAt_alloc HQ7.out (by omega) _ | exact calAt_alloc (calAt_alloc HQ7.out (by omega) _) (by simp; omega) _))
  clear q0 q1 q2 q3 q4 q5 q6 q7 q8 q9 q10 q11 q12 q13
  obtain ⟨q0, q1, q2, q3, q4, q5, q6, q7, q8, q9, q10, q11, q12, q13⟩ := HQ8.out
  clear hb8
  go_wp2_with fail
  all_goals first
    | (exfalso; omega)
    | skip
  refine (fday_any c d 5 _ (by omega)).mono ?_
  rintro e w9 ⟨rfl, hb9⟩
  rw [HF5.out, HFU.out]
  simp only [unitV]
  have hz9 : w.heap.size < w9.heap.size := by have := hb9.size; (try simp at this); omega
  have HB9 := hide (show Below w.heap.size w w9 by have hp := HB8.out; refine Below.trans ?_ (hb9.mono (by first | omega | (simp; done) | (simp; omega))); (repeat' (first | (with_reducible exact Below.refl _ _) | (with_reducible assumption) | (with_reducible refine Below.alloc ?_ ?_ _) | (with_reducible refine below_drewN ?_ _) | (with_reducible refine Below.drew ?_) | (with_reducible refine Below.setCell ?_ ?_ _) | (with_reducible refine Below.trans ?_ (Below.mono (by assumption) ?_)) | go_size | (simp at *; omega))))
  have HQ9 := hide (show CalAt w9 w.heap.size c from calAt_below hb9 (by first | omega | (simp; done) | (simp; omega)) (by first | exact HQ8.out | exact calAt_alloc HQ8.out (by omega) _ | exact calAt_alloc (calAt_alloc HQ8.out (by omega) _) (by simp; omega) _))
  clear q0 q1 q2 q3 q4 q5 q6 q7 q8 q9 q10 q11 q12 q13
  obtain ⟨q0, q1, q2, q3, q4, q5, q6, q7, q8, q9, q10, q11, q12, q13⟩ := HQ9.out
  clear hb9
  go_wp2_with fail
  all_goals first
    | (exfalso; omega)
    | skip
  refine (weekday_any d _).mono ?_
  rintro e w' ⟨rfl, rfl⟩
  rw [HIE.out.1]
  go_wp2_with fail
  refine (weekday_any V _).mono ?_
  rintro e w' ⟨rfl, rfl⟩
  rw [HIE.out.2, HWD.out]
  have hBel := HB9.out
  go_wp2
  all_goals first
    | (exfalso; omega)
    | (go_ret; exact ⟨ret_bool (by simp), by (repeat' (first | (with_reducible exact Below.refl _ _) | (with_reducible assumption) | (with_reducible refine Below.alloc ?_ ?_ _) | (with_reducible refine below_drewN ?_ _) | (with_reducible refine Below.drew ?_) | (with_reducible refine Below.setCell ?_ ?_ _) | (with_reducible refine Below.trans ?_ (Below.mono (by assumption) ?_)) | go_size | (simp at *; omega)))⟩)
    | (go_ret; exact ⟨ret_bool (by simp; omega), by (repeat' (first | (with_reducible exact Below.refl _ _) | (with_reducible assumption) | (with_reducible refine Below.alloc ?_ ?_ _) | (with_reducible refine below_drewN ?_ _) | (with_reducible refine Below.drew ?_) | (with_reducible refine Below.setCell ?_ ?_ _) | (with_reducible refine Below.trans ?_ (Below.mono (by assumption) ?_)) | go_size | (simp at *; omega)))⟩)

set_option maxRecDepth 100000 in
set_option maxHeartbeats 3200000 in
theorem ck_d (c : Cal) (d k : Int) (w : World) (hn : c.name.size ≤ 100) (hk6 : c.kind ≠ 6) (hs : servE c d = 0) (hx : c.first ≤ servY c d + k ∧ servY c d + k ≤ c.last) (hE : cdE c d k = 0) (hm7 : (d - cdV c d k) % 7 = 0) (hvb : 0 ≤ cdV c d k ∧ cdV c d k < 3068037) (hp : c.policy = 2) (q1 : wksV c (servY c d) = 53) (q2 : wksV c (servY c d + k) = 52) (h1 : startV c (servY c d + k) - 7 ≤ cdV c d k) (h2 : cdV c d k < startV c (servY c d + k)) :
    Calls Try.prog 3 #[calV c, .int .i64 d, .int .i64 k] w fun e w' => e = .returned (.bool true) ∧ Below w.heap.size w w' := by
  have hkb := kind_b hk6
  have HE := hide hE
  have hpb1 : (c.policy == 1) = false := by simp [hp]
  have hpb2 : (c.policy == 2) = true := by simp [hp]
  have hpb3 : (c.policy == 3) = false := by simp [hp]
  clear hp hE
  have hdb := day_bd hs
  have hv1 := cdv_bd (k := k) hs hk6
  obtain ⟨hk, _, hsy, _⟩ := sv_week hs hk6
  obtain ⟨wy, ay, wy2⟩ := wks_srv hk hk6 hsy
  obtain ⟨wt, at', wt2⟩ := wks_srv hk hk6 hx
  obtain ⟨_, _, b1, b2, _⟩ := ok_years hk
  have hsyb : 1602 ≤ servY c d ∧ servY c d ≤ 9996 := by obtain ⟨h1, h2⟩ := hsy; omega
  have hk400 : -400 ≤ k ∧ k ≤ 400 := by
    have hok : c.Ok := by simpa [Cal.okB] using hk
    have h9 := hok.1
    unfold Cal.served at h9
    obtain ⟨h1, h2⟩ := hsy
    omega
  have hyb := year_bd c _ at'
  have hfw := fd_week hs hk6
  have hf5 := fd_served hs 5 (by omega) (by omega)
  have hab := added_bd hk hk6 hsy
  have HS := hide hs
  have WY := hide wy
  have WT := hide wt
  have HA := hide at'
  have HA0 := hide (ask_mono at')
  have HF5 := hide hf5
  have HFU := hide hfw.1
  have hxb := hfw.2.2.2.1
  have hxb2 := hfw.2.2.2.2.1
  have hisD : isB (cdV c d k) = true := by simp [isB]; omega
  have hisd : isB d = true := by simp [isB]; omega
  have HWD := hide (show wdV (cdV c d k) = wdV d by unfold wdV; rw [if_pos hisD, if_pos hisd]; omega)
  have HIE := hide (show isE d = 0 ∧ isE (cdV c d k) = 0 by simp [isE, hisD, hisd])
  have htm : (d - cdV c d k).tmod 7 = 0 := Int.tmod_eq_zero_of_dvd (Int.dvd_of_emod_eq_zero hm7)
  clear hisD hisd
  generalize hV1 : cdV c d k = V at *
  generalize hY1 : servY c d = Y at *
  generalize hX1 : (d - startV c Y) / 7 + 1 = X at *
  generalize hN1 : wksV c Y = n at *
  generalize hM1 : wksV c (Y + k) = m at *
  generalize hA1 : addedV c Y = a at *
  generalize hSS : startV c (Y + k) = s at *
  generalize hEE : endV c (Y + k) = b at *
  have HV1 := hide hV1
  have HY1 := hide hY1
  have HN1 := hide hN1
  have HM1 := hide hM1
  have HA1 := hide hA1
  have HSS := hide hSS
  have HEE := hide hEE
  clear hV1 hY1 hX1 hN1 hM1 hA1 hSS hEE hfw hf5 hs hk6 hk hsy wy wt ay at' hab
  have HM7 := hide hm7
  clear hm7
  have Q1 := hide q1
  have Q2 := hide q2
  clear q1 q2
  simp only [calV]
  go_enter Try.func3, Try.ntmps3
  go_wp2_with fail
  refine (live19_any _).mono ?_
  rintro e w1 ⟨rfl, hb1⟩
  have hz1 : w.heap.size < w1.heap.size := by have := hb1.size; simp at this; omega
  have HB1 := hide (show Below w.heap.size w w1 by refine Below.trans ?_ (hb1.mono (by first | omega | (simp; done) | (simp; omega))); (repeat' (first | (with_reducible exact Below.refl _ _) | (with_reducible assumption) | (with_reducible refine Below.alloc ?_ ?_ _) | (with_reducible refine below_drewN ?_ _) | (with_reducible refine Below.drew ?_) | (with_reducible refine Below.setCell ?_ ?_ _) | (with_reducible refine Below.trans ?_ (Below.mono (by assumption) ?_)) | go_size | (simp at *; omega))))
  have HQ1 := hide (calAt_below hb1 (by simp) (calAt_new w c))
  obtain ⟨q0, q1, q2, q3, q4, q5, q6, q7, q8, q9, q10, q11, q12, q13⟩ := HQ1.out
  clear hb1
  go_wp2_with fail
  all_goals first
    | (exfalso; omega)
    | skip
  refine (served_any c d _ (by omega)).mono ?_
  rintro e w2 ⟨rfl, hb2⟩
  rw [HS.out, HY1.out]
  have hz2 : w.heap.size < w2.heap.size := by have := hb2.size; (try simp at this); omega
  have HB2 := hide (show Below w.heap.size w w2 by have hp := HB1.out; refine Below.trans ?_ (hb2.mono (by first | omega | (simp; done) | (simp; omega))); (repeat' (first | (with_reducible exact Below.refl _ _) | (with_reducible assumption) | (with_reducible refine Below.alloc ?_ ?_ _) | (with_reducible refine below_drewN ?_ _) | (with_reducible refine Below.drew ?_) | (with_reducible refine Below.setCell ?_ ?_ _) | (with_reducible refine Below.trans ?_ (Below.mono (by assumption) ?_)) | go_size | (simp at *; omega))))
  have HQ2 := hide (show CalAt w2 w.heap.size c from calAt_below hb2 (by first | omega | (simp; done) | (simp; omega)) (by first | exact HQ1.out | exact calAt_alloc HQ1.out (by omega) _ | exact calAt_alloc (calAt_alloc HQ1.out (by omega) _) (by simp; omega) _))
  clear q0 q1 q2 q3 q4 q5 q6 q7 q8 q9 q10 q11 q12 q13
  obtain ⟨q0, q1, q2, q3, q4, q5, q6, q7, q8, q9, q10, q11, q12, q13⟩ := HQ2.out
  clear hb2
  go_wp2_with fail
  all_goals first
    | (exfalso; omega)
    | skip
  refine (cday_any c d k _ (by omega)).mono ?_
  rintro e w3 ⟨rfl, hb3⟩
  rw [HE.out, HV1.out]
  have hz3 : w.heap.size < w3.heap.size := by have := hb3.size; (try simp at this); omega
  have HB3 := hide (show Below w.heap.size w w3 by have hp := HB2.out; refine Below.trans ?_ (hb3.mono (by first | omega | (simp; done) | (simp; omega))); (repeat' (first | (with_reducible exact Below.refl _ _) | (with_reducible assumption) | (with_reducible refine Below.alloc ?_ ?_ _) | (with_reducible refine below_drewN ?_ _) | (with_reducible refine Below.drew ?_) | (with_reducible refine Below.setCell ?_ ?_ _) | (with_reducible refine Below.trans ?_ (Below.mono (by assumption) ?_)) | go_size | (simp at *; omega))))
  have HQ3 := hide (show CalAt w3 w.heap.size c from calAt_below hb3 (by first | omega | (simp; done) | (simp; omega)) (by first | exact HQ2.out | exact calAt_alloc HQ2.out (by omega) _ | exact calAt_alloc (calAt_alloc HQ2.out (by omega) _) (by simp; omega) _))
  clear q0 q1 q2 q3 q4 q5 q6 q7 q8 q9 q10 q11 q12 q13
  obtain ⟨q0, q1, q2, q3, q4, q5, q6, q7, q8, q9, q10, q11, q12, q13⟩ := HQ3.out
  clear hb3
  go_wp2_with fail
  all_goals first
    | (exfalso; omega)
    | skip
  refine (start_any c (Y + k) _ (by omega)).mono ?_
  rintro e w4 ⟨rfl, hb4⟩
  rw [HA.out, HSS.out]
  have hz4 : w.heap.size < w4.heap.size := by have := hb4.size; (try simp at this); omega
  have HB4 := hide (show Below w.heap.size w w4 by have hp := HB3.out; refine Below.trans ?_ (hb4.mono (by first | omega | (simp; done) | (simp; omega))); (repeat' (first | (with_reducible exact Below.refl _ _) | (with_reducible assumption) | (with_reducible refine Below.alloc ?_ ?_ _) | (with_reducible refine below_drewN ?_ _) | (with_reducible refine Below.drew ?_) | (with_reducible refine Below.setCell ?_ ?_ _) | (with_reducible refine Below.trans ?_ (Below.mono (by assumption) ?_)) | go_size | (simp at *; omega))))
  have HQ4 := hide (show CalAt w4 w.heap.size c from calAt_below hb4 (by first | omega | (simp; done) | (simp; omega)) (by first | exact HQ3.out | exact calAt_alloc HQ3.out (by omega) _ | exact calAt_alloc (calAt_alloc HQ3.out (by omega) _) (by simp; omega) _))
  clear q0 q1 q2 q3 q4 q5 q6 q7 q8 q9 q10 q11 q12 q13
  obtain ⟨q0, q1, q2, q3, q4, q5, q6, q7, q8, q9, q10, q11, q12, q13⟩ := HQ4.out
  clear hb4
  go_wp2_with fail
  all_goals first
    | (exfalso; omega)
    | skip
  refine (end_any c (Y + k) _ (by omega)).mono ?_
  rintro e w5 ⟨rfl, hb5⟩
  rw [HA0.out, HEE.out]
  have hz5 : w.heap.size < w5.heap.size := by have := hb5.size; (try simp at this); omega
  have HB5 := hide (show Below w.heap.size w w5 by have hp := HB4.out; refine Below.trans ?_ (hb5.mono (by first | omega | (simp; done) | (simp; omega))); (repeat' (first | (with_reducible exact Below.refl _ _) | (with_reducible assumption) | (with_reducible refine Below.alloc ?_ ?_ _) | (with_reducible refine below_drewN ?_ _) | (with_reducible refine Below.drew ?_) | (with_reducible refine Below.setCell ?_ ?_ _) | (with_reducible refine Below.trans ?_ (Below.mono (by assumption) ?_)) | go_size | (simp at *; omega))))
  have HQ5 := hide (show CalAt w5 w.heap.size c from calAt_below hb5 (by first | omega | (simp; done) | (simp; omega)) (by first | exact HQ4.out | exact calAt_alloc HQ4.out (by omega) _ | exact calAt_alloc (calAt_alloc HQ4.out (by omega) _) (by simp; omega) _))
  clear q0 q1 q2 q3 q4 q5 q6 q7 q8 q9 q10 q11 q12 q13
  obtain ⟨q0, q1, q2, q3, q4, q5, q6, q7, q8, q9, q10, q11, q12, q13⟩ := HQ5.out
  clear hb5
  go_wp2_with fail
  all_goals first
    | (exfalso; omega)
    | skip
  refine (aweeks_any c Y _ (by omega)).mono ?_
  rintro e w6 ⟨rfl, hb6⟩
  rw [WY.out, HN1.out]
  have hz6 : w.heap.size < w6.heap.size := by have := hb6.size; (try simp at this); omega
  have HB6 := hide (show Below w.heap.size w w6 by have hp := HB5.out; refine Below.trans ?_ (hb6.mono (by first | omega | (simp; done) | (simp; omega))); (repeat' (first | (with_reducible exact Below.refl _ _) | (with_reducible assumption) | (with_reducible refine Below.alloc ?_ ?_ _) | (with_reducible refine below_drewN ?_ _) | (with_reducible refine Below.drew ?_) | (with_reducible refine Below.setCell ?_ ?_ _) | (with_reducible refine Below.trans ?_ (Below.mono (by assumption) ?_)) | go_size | (simp at *; omega))))
  have HQ6 := hide (show CalAt w6 w.heap.size c from calAt_below hb6 (by first | omega | (simp; done) | (simp; omega)) (by first | exact HQ5.out | exact calAt_alloc HQ5.out (by omega) _ | exact calAt_alloc (calAt_alloc HQ5.out (by omega) _) (by simp; omega) _))
  clear q0 q1 q2 q3 q4 q5 q6 q7 q8 q9 q10 q11 q12 q13
  obtain ⟨q0, q1, q2, q3, q4, q5, q6, q7, q8, q9, q10, q11, q12, q13⟩ := HQ6.out
  clear hb6
  go_wp2_with fail
  all_goals first
    | (exfalso; omega)
    | skip
  refine (aweeks_any c (Y + k) _ (by omega)).mono ?_
  rintro e w7 ⟨rfl, hb7⟩
  rw [WT.out, HM1.out]
  have hz7 : w.heap.size < w7.heap.size := by have := hb7.size; (try simp at this); omega
  have HB7 := hide (show Below w.heap.size w w7 by have hp := HB6.out; refine Below.trans ?_ (hb7.mono (by first | omega | (simp; done) | (simp; omega))); (repeat' (first | (with_reducible exact Below.refl _ _) | (with_reducible assumption) | (with_reducible refine Below.alloc ?_ ?_ _) | (with_reducible refine below_drewN ?_ _) | (with_reducible refine Below.drew ?_) | (with_reducible refine Below.setCell ?_ ?_ _) | (with_reducible refine Below.trans ?_ (Below.mono (by assumption) ?_)) | go_size | (simp at *; omega))))
  have HQ7 := hide (show CalAt w7 w.heap.size c from calAt_below hb7 (by first | omega | (simp; done) | (simp; omega)) (by first | exact HQ6.out | exact calAt_alloc HQ6.out (by omega) _ | exact calAt_alloc (calAt_alloc HQ6.out (by omega) _) (by simp; omega) _))
  clear q0 q1 q2 q3 q4 q5 q6 q7 q8 q9 q10 q11 q12 q13
  obtain ⟨q0, q1, q2, q3, q4, q5, q6, q7, q8, q9, q10, q11, q12, q13⟩ := HQ7.out
  clear hb7
  go_wp2_with fail
  all_goals first
    | (exfalso; omega)
    | skip
  refine (added_any c Y _ (by omega)).mono ?_
  rintro e w8 ⟨rfl, hb8⟩
  rw [WY.out, HA1.out]
  have hz8 : w.heap.size < w8.heap.size := by have := hb8.size; (try simp at this); omega
  have HB8 := hide (show Below w.heap.size w w8 by have hp := HB7.out; refine Below.trans ?_ (hb8.mono (by first | omega | (simp; done) | (simp; omega))); (repeat' (first | (with_reducible exact Below.refl _ _) | (with_reducible assumption) | (with_reducible refine Below.alloc ?_ ?_ _) | (with_reducible refine below_drewN ?_ _) | (with_reducible refine Below.drew ?_) | (with_reducible refine Below.setCell ?_ ?_ _) | (with_reducible refine Below.trans ?_ (Below.mono (by assumption) ?_)) | go_size | (simp at *; omega))))
  have HQ8 := hide (show CalAt w8 w.heap.size c from calAt_below hb8 (by first | omega | (simp; done) | (simp; omega)) (by first | exact HQ7.out | exact calAt_alloc HQ7.out (by omega) _ | exact calAt_alloc (calAt_alloc HQ7.out (by omega) _) (by simp; omega) _))
  clear q0 q1 q2 q3 q4 q5 q6 q7 q8 q9 q10 q11 q12 q13
  obtain ⟨q0, q1, q2, q3, q4, q5, q6, q7, q8, q9, q10, q11, q12, q13⟩ := HQ8.out
  clear hb8
  go_wp2_with fail
  all_goals first
    | (exfalso; omega)
    | skip
  refine (fday_any c d 5 _ (by omega)).mono ?_
  rintro e w9 ⟨rfl, hb9⟩
  rw [HF5.out, HFU.out]
  simp only [unitV]
  have hz9 : w.heap.size < w9.heap.size := by have := hb9.size; (try simp at this); omega
  have HB9 := hide (show Below w.heap.size w w9 by have hp := HB8.out; refine Below.trans ?_ (hb9.mono (by first | omega | (simp; done) | (simp; omega))); (repeat' (first | (with_reducible exact Below.refl _ _) | (with_reducible assumption) | (with_reducible refine Below.alloc ?_ ?_ _) | (with_reducible refine below_drewN ?_ _) | (with_reducible refine Below.drew ?_) | (with_reducible refine Below.setCell ?_ ?_ _) | (with_reducible refine Below.trans ?_ (Below.mono (by assumption) ?_)) | go_size | (simp at *; omega))))
  have HQ9 := hide (show CalAt w9 w.heap.size c from calAt_below hb9 (by first | omega | (simp; done) | (simp; omega)) (by first | exact HQ8.out | exact calAt_alloc HQ8.out (by omega) _ | exact calAt_alloc (calAt_alloc HQ8.out (by omega) _) (by simp; omega) _))
  clear q0 q1 q2 q3 q4 q5 q6 q7 q8 q9 q10 q11 q12 q13
  obtain ⟨q0, q1, q2, q3, q4, q5, q6, q7, q8, q9, q10, q11, q12, q13⟩ := HQ9.out
  clear hb9
  go_wp2_with fail
  all_goals first
    | (exfalso; omega)
    | skip
  refine (weekday_any d _).mono ?_
  rintro e w' ⟨rfl, rfl⟩
  rw [HIE.out.1]
  go_wp2_with fail
  refine (weekday_any V _).mono ?_
  rintro e w' ⟨rfl, rfl⟩
  rw [HIE.out.2, HWD.out]
  have q1 := Q1.out
  have q2 := Q2.out
  have hBel := HB9.out
  go_wp2
  all_goals first
    | (exfalso; omega)
    | (go_ret; exact ⟨ret_bool (by simp), by (repeat' (first | (with_reducible exact Below.refl _ _) | (with_reducible assumption) | (with_reducible refine Below.alloc ?_ ?_ _) | (with_reducible refine below_drewN ?_ _) | (with_reducible refine Below.drew ?_) | (with_reducible refine Below.setCell ?_ ?_ _) | (with_reducible refine Below.trans ?_ (Below.mono (by assumption) ?_)) | go_size | (simp at *; omega)))⟩)
    | (go_ret; exact ⟨ret_bool (by simp; omega), by (repeat' (first | (with_reducible exact Below.refl _ _) | (with_reducible assumption) | (with_reducible refine Below.alloc ?_ ?_ _) | (with_reducible refine below_drewN ?_ _) | (with_reducible refine Below.drew ?_) | (with_reducible refine Below.setCell ?_ ?_ _) | (with_reducible refine Below.trans ?_ (Below.mono (by assumption) ?_)) | go_size | (simp at *; omega)))⟩)

set_option maxRecDepth 100000 in
set_option maxHeartbeats 3200000 in
theorem ck_e (c : Cal) (d k : Int) (w : World) (hn : c.name.size ≤ 100) (hk6 : c.kind ≠ 6) (hs : servE c d = 0) (hx : c.first ≤ servY c d + k ∧ servY c d + k ≤ c.last) (hE : cdE c d k = 0) (hm7 : (d - cdV c d k) % 7 = 0) (hvb : 0 ≤ cdV c d k ∧ cdV c d k < 3068037) (hp : c.policy = 3) (h1 : startV c (servY c d + k) ≤ cdV c d k) (h2 : cdV c d k ≤ endV c (servY c d + k)) (h3 : wksV c (servY c d) ≠ 53) :
    Calls Try.prog 3 #[calV c, .int .i64 d, .int .i64 k] w fun e w' => e = .returned (.bool true) ∧ Below w.heap.size w w' := by
  have hkb := kind_b hk6
  have HE := hide hE
  have hpb1 : (c.policy == 1) = false := by simp [hp]
  have hpb2 : (c.policy == 2) = false := by simp [hp]
  have hpb3 : (c.policy == 3) = true := by simp [hp]
  clear hp hE
  have h3b : (wksV c (servY c d) == 53) = false := by simpa using h3
  clear h3
  have hdb := day_bd hs
  have hv1 := cdv_bd (k := k) hs hk6
  obtain ⟨hk, _, hsy, _⟩ := sv_week hs hk6
  obtain ⟨wy, ay, wy2⟩ := wks_srv hk hk6 hsy
  obtain ⟨wt, at', wt2⟩ := wks_srv hk hk6 hx
  obtain ⟨_, _, b1, b2, _⟩ := ok_years hk
  have hsyb : 1602 ≤ servY c d ∧ servY c d ≤ 9996 := by obtain ⟨h1, h2⟩ := hsy; omega
  have hk400 : -400 ≤ k ∧ k ≤ 400 := by
    have hok : c.Ok := by simpa [Cal.okB] using hk
    have h9 := hok.1
    unfold Cal.served at h9
    obtain ⟨h1, h2⟩ := hsy
    omega
  have hyb := year_bd c _ at'
  have hfw := fd_week hs hk6
  have hf5 := fd_served hs 5 (by omega) (by omega)
  have hab := added_bd hk hk6 hsy
  have HS := hide hs
  have WY := hide wy
  have WT := hide wt
  have HA := hide at'
  have HA0 := hide (ask_mono at')
  have HF5 := hide hf5
  have HFU := hide hfw.1
  have hxb := hfw.2.2.2.1
  have hxb2 := hfw.2.2.2.2.1
  have hisD : isB (cdV c d k) = true := by simp [isB]; omega
  have hisd : isB d = true := by simp [isB]; omega
  have HWD := hide (show wdV (cdV c d k) = wdV d by unfold wdV; rw [if_pos hisD, if_pos hisd]; omega)
  have HIE := hide (show isE d = 0 ∧ isE (cdV c d k) = 0 by simp [isE, hisD, hisd])
  have htm : (d - cdV c d k).tmod 7 = 0 := Int.tmod_eq_zero_of_dvd (Int.dvd_of_emod_eq_zero hm7)
  clear hisD hisd
  generalize hV1 : cdV c d k = V at *
  generalize hY1 : servY c d = Y at *
  generalize hX1 : (d - startV c Y) / 7 + 1 = X at *
  generalize hN1 : wksV c Y = n at *
  generalize hM1 : wksV c (Y + k) = m at *
  generalize hA1 : addedV c Y = a at *
  generalize hSS : startV c (Y + k) = s at *
  generalize hEE : endV c (Y + k) = b at *
  have HV1 := hide hV1
  have HY1 := hide hY1
  have HN1 := hide hN1
  have HM1 := hide hM1
  have HA1 := hide hA1
  have HSS := hide hSS
  have HEE := hide hEE
  clear hV1 hY1 hX1 hN1 hM1 hA1 hSS hEE hfw hf5 hs hk6 hk hsy wy wt ay at' hab
  have HM7 := hide hm7
  clear hm7
  simp only [calV]
  go_enter Try.func3, Try.ntmps3
  go_wp2_with fail
  refine (live19_any _).mono ?_
  rintro e w1 ⟨rfl, hb1⟩
  have hz1 : w.heap.size < w1.heap.size := by have := hb1.size; simp at this; omega
  have HB1 := hide (show Below w.heap.size w w1 by refine Below.trans ?_ (hb1.mono (by first | omega | (simp; done) | (simp; omega))); (repeat' (first | (with_reducible exact Below.refl _ _) | (with_reducible assumption) | (with_reducible refine Below.alloc ?_ ?_ _) | (with_reducible refine below_drewN ?_ _) | (with_reducible refine Below.drew ?_) | (with_reducible refine Below.setCell ?_ ?_ _) | (with_reducible refine Below.trans ?_ (Below.mono (by assumption) ?_)) | go_size | (simp at *; omega))))
  have HQ1 := hide (calAt_below hb1 (by simp) (calAt_new w c))
  obtain ⟨q0, q1, q2, q3, q4, q5, q6, q7, q8, q9, q10, q11, q12, q13⟩ := HQ1.out
  clear hb1
  go_wp2_with fail
  all_goals first
    | (exfalso; omega)
    | skip
  refine (served_any c d _ (by omega)).mono ?_
  rintro e w2 ⟨rfl, hb2⟩
  rw [HS.out, HY1.out]
  have hz2 : w.heap.size < w2.heap.size := by have := hb2.size; (try simp at this); omega
  have HB2 := hide (show Below w.heap.size w w2 by have hp := HB1.out; refine Below.trans ?_ (hb2.mono (by first | omega | (simp; done) | (simp; omega))); (repeat' (first | (with_reducible exact Below.refl _ _) | (with_reducible assumption) | (with_reducible refine Below.alloc ?_ ?_ _) | (with_reducible refine below_drewN ?_ _) | (with_reducible refine Below.drew ?_) | (with_reducible refine Below.setCell ?_ ?_ _) | (with_reducible refine Below.trans ?_ (Below.mono (by assumption) ?_)) | go_size | (simp at *; omega))))
  have HQ2 := hide (show CalAt w2 w.heap.size c from calAt_below hb2 (by first | omega | (simp; done) | (simp; omega)) (by first | exact HQ1.out | exact calAt_alloc HQ1.out (by omega) _ | exact calAt_alloc (calAt_alloc HQ1.out (by omega) _) (by simp; omega) _))
  clear q0 q1 q2 q3 q4 q5 q6 q7 q8 q9 q10 q11 q12 q13
  obtain ⟨q0, q1, q2, q3, q4, q5, q6, q7, q8, q9, q10, q11, q12, q13⟩ := HQ2.out
  clear hb2
  go_wp2_with fail
  all_goals first
    | (exfalso; omega)
    | skip
  refine (cday_any c d k _ (by omega)).mono ?_
  rintro e w3 ⟨rfl, hb3⟩
  rw [HE.out, HV1.out]
  have hz3 : w.heap.size < w3.heap.size := by have := hb3.size; (try simp at this); omega
  have HB3 := hide (show Below w.heap.size w w3 by have hp := HB2.out; refine Below.trans ?_ (hb3.mono (by first | omega | (simp; done) | (simp; omega))); (repeat' (first | (with_reducible exact Below.refl _ _) | (with_reducible assumption) | (with_reducible refine Below.alloc ?_ ?_ _) | (with_reducible refine below_drewN ?_ _) | (with_reducible refine Below.drew ?_) | (with_reducible refine Below.setCell ?_ ?_ _) | (with_reducible refine Below.trans ?_ (Below.mono (by assumption) ?_)) | go_size | (simp at *; omega))))
  have HQ3 := hide (show CalAt w3 w.heap.size c from calAt_below hb3 (by first | omega | (simp; done) | (simp; omega)) (by first | exact HQ2.out | exact calAt_alloc HQ2.out (by omega) _ | exact calAt_alloc (calAt_alloc HQ2.out (by omega) _) (by simp; omega) _))
  clear q0 q1 q2 q3 q4 q5 q6 q7 q8 q9 q10 q11 q12 q13
  obtain ⟨q0, q1, q2, q3, q4, q5, q6, q7, q8, q9, q10, q11, q12, q13⟩ := HQ3.out
  clear hb3
  go_wp2_with fail
  all_goals first
    | (exfalso; omega)
    | skip
  refine (start_any c (Y + k) _ (by omega)).mono ?_
  rintro e w4 ⟨rfl, hb4⟩
  rw [HA.out, HSS.out]
  have hz4 : w.heap.size < w4.heap.size := by have := hb4.size; (try simp at this); omega
  have HB4 := hide (show Below w.heap.size w w4 by have hp := HB3.out; refine Below.trans ?_ (hb4.mono (by first | omega | (simp; done) | (simp; omega))); (repeat' (first | (with_reducible exact Below.refl _ _) | (with_reducible assumption) | (with_reducible refine Below.alloc ?_ ?_ _) | (with_reducible refine below_drewN ?_ _) | (with_reducible refine Below.drew ?_) | (with_reducible refine Below.setCell ?_ ?_ _) | (with_reducible refine Below.trans ?_ (Below.mono (by assumption) ?_)) | go_size | (simp at *; omega))))
  have HQ4 := hide (show CalAt w4 w.heap.size c from calAt_below hb4 (by first | omega | (simp; done) | (simp; omega)) (by first | exact HQ3.out | exact calAt_alloc HQ3.out (by omega) _ | exact calAt_alloc (calAt_alloc HQ3.out (by omega) _) (by simp; omega) _))
  clear q0 q1 q2 q3 q4 q5 q6 q7 q8 q9 q10 q11 q12 q13
  obtain ⟨q0, q1, q2, q3, q4, q5, q6, q7, q8, q9, q10, q11, q12, q13⟩ := HQ4.out
  clear hb4
  go_wp2_with fail
  all_goals first
    | (exfalso; omega)
    | skip
  refine (end_any c (Y + k) _ (by omega)).mono ?_
  rintro e w5 ⟨rfl, hb5⟩
  rw [HA0.out, HEE.out]
  have hz5 : w.heap.size < w5.heap.size := by have := hb5.size; (try simp at this); omega
  have HB5 := hide (show Below w.heap.size w w5 by have hp := HB4.out; refine Below.trans ?_ (hb5.mono (by first | omega | (simp; done) | (simp; omega))); (repeat' (first | (with_reducible exact Below.refl _ _) | (with_reducible assumption) | (with_reducible refine Below.alloc ?_ ?_ _) | (with_reducible refine below_drewN ?_ _) | (with_reducible refine Below.drew ?_) | (with_reducible refine Below.setCell ?_ ?_ _) | (with_reducible refine Below.trans ?_ (Below.mono (by assumption) ?_)) | go_size | (simp at *; omega))))
  have HQ5 := hide (show CalAt w5 w.heap.size c from calAt_below hb5 (by first | omega | (simp; done) | (simp; omega)) (by first | exact HQ4.out | exact calAt_alloc HQ4.out (by omega) _ | exact calAt_alloc (calAt_alloc HQ4.out (by omega) _) (by simp; omega) _))
  clear q0 q1 q2 q3 q4 q5 q6 q7 q8 q9 q10 q11 q12 q13
  obtain ⟨q0, q1, q2, q3, q4, q5, q6, q7, q8, q9, q10, q11, q12, q13⟩ := HQ5.out
  clear hb5
  go_wp2_with fail
  all_goals first
    | (exfalso; omega)
    | skip
  refine (aweeks_any c Y _ (by omega)).mono ?_
  rintro e w6 ⟨rfl, hb6⟩
  rw [WY.out, HN1.out]
  have hz6 : w.heap.size < w6.heap.size := by have := hb6.size; (try simp at this); omega
  have HB6 := hide (show Below w.heap.size w w6 by have hp := HB5.out; refine Below.trans ?_ (hb6.mono (by first | omega | (simp; done) | (simp; omega))); (repeat' (first | (with_reducible exact Below.refl _ _) | (with_reducible assumption) | (with_reducible refine Below.alloc ?_ ?_ _) | (with_reducible refine below_drewN ?_ _) | (with_reducible refine Below.drew ?_) | (with_reducible refine Below.setCell ?_ ?_ _) | (with_reducible refine Below.trans ?_ (Below.mono (by assumption) ?_)) | go_size | (simp at *; omega))))
  have HQ6 := hide (show CalAt w6 w.heap.size c from calAt_below hb6 (by first | omega | (simp; done) | (simp; omega)) (by first | exact HQ5.out | exact calAt_alloc HQ5.out (by omega) _ | exact calAt_alloc (calAt_alloc HQ5.out (by omega) _) (by simp; omega) _))
  clear q0 q1 q2 q3 q4 q5 q6 q7 q8 q9 q10 q11 q12 q13
  obtain ⟨q0, q1, q2, q3, q4, q5, q6, q7, q8, q9, q10, q11, q12, q13⟩ := HQ6.out
  clear hb6
  go_wp2_with fail
  all_goals first
    | (exfalso; omega)
    | skip
  refine (aweeks_any c (Y + k) _ (by omega)).mono ?_
  rintro e w7 ⟨rfl, hb7⟩
  rw [WT.out, HM1.out]
  have hz7 : w.heap.size < w7.heap.size := by have := hb7.size; (try simp at this); omega
  have HB7 := hide (show Below w.heap.size w w7 by have hp := HB6.out; refine Below.trans ?_ (hb7.mono (by first | omega | (simp; done) | (simp; omega))); (repeat' (first | (with_reducible exact Below.refl _ _) | (with_reducible assumption) | (with_reducible refine Below.alloc ?_ ?_ _) | (with_reducible refine below_drewN ?_ _) | (with_reducible refine Below.drew ?_) | (with_reducible refine Below.setCell ?_ ?_ _) | (with_reducible refine Below.trans ?_ (Below.mono (by assumption) ?_)) | go_size | (simp at *; omega))))
  have HQ7 := hide (show CalAt w7 w.heap.size c from calAt_below hb7 (by first | omega | (simp; done) | (simp; omega)) (by first | exact HQ6.out | exact calAt_alloc HQ6.out (by omega) _ | exact calAt_alloc (calAt_alloc HQ6.out (by omega) _) (by simp; omega) _))
  clear q0 q1 q2 q3 q4 q5 q6 q7 q8 q9 q10 q11 q12 q13
  obtain ⟨q0, q1, q2, q3, q4, q5, q6, q7, q8, q9, q10, q11, q12, q13⟩ := HQ7.out
  clear hb7
  go_wp2_with fail
  all_goals first
    | (exfalso; omega)
    | skip
  refine (added_any c Y _ (by omega)).mono ?_
  rintro e w8 ⟨rfl, hb8⟩
  rw [WY.out, HA1.out]
  have hz8 : w.heap.size < w8.heap.size := by have := hb8.size; (try simp at this); omega
  have HB8 := hide (show Below w.heap.size w w8 by have hp := HB7.out; refine Below.trans ?_ (hb8.mono (by first | omega | (simp; done) | (simp; omega))); (repeat' (first | (with_reducible exact Below.refl _ _) | (with_reducible assumption) | (with_reducible refine Below.alloc ?_ ?_ _) | (with_reducible refine below_drewN ?_ _) | (with_reducible refine Below.drew ?_) | (with_reducible refine Below.setCell ?_ ?_ _) | (with_reducible refine Below.trans ?_ (Below.mono (by assumption) ?_)) | go_size | (simp at *; omega))))
  have HQ8 := hide (show CalAt w8 w.heap.size c from calAt_below hb8 (by first | omega | (simp; done) | (simp; omega)) (by first | exact HQ7.out | exact calAt_alloc HQ7.out (by omega) _ | exact calAt_alloc (calAt_alloc HQ7.out (by omega) _) (by simp; omega) _))
  clear q0 q1 q2 q3 q4 q5 q6 q7 q8 q9 q10 q11 q12 q13
  obtain ⟨q0, q1, q2, q3, q4, q5, q6, q7, q8, q9, q10, q11, q12, q13⟩ := HQ8.out
  clear hb8
  go_wp2_with fail
  all_goals first
    | (exfalso; omega)
    | skip
  refine (fday_any c d 5 _ (by omega)).mono ?_
  rintro e w9 ⟨rfl, hb9⟩
  rw [HF5.out, HFU.out]
  simp only [unitV]
  have hz9 : w.heap.size < w9.heap.size := by have := hb9.size; (try simp at this); omega
  have HB9 := hide (show Below w.heap.size w w9 by have hp := HB8.out; refine Below.trans ?_ (hb9.mono (by first | omega | (simp; done) | (simp; omega))); (repeat' (first | (with_reducible exact Below.refl _ _) | (with_reducible assumption) | (with_reducible refine Below.alloc ?_ ?_ _) | (with_reducible refine below_drewN ?_ _) | (with_reducible refine Below.drew ?_) | (with_reducible refine Below.setCell ?_ ?_ _) | (with_reducible refine Below.trans ?_ (Below.mono (by assumption) ?_)) | go_size | (simp at *; omega))))
  have HQ9 := hide (show CalAt w9 w.heap.size c from calAt_below hb9 (by first | omega | (simp; done) | (simp; omega)) (by first | exact HQ8.out | exact calAt_alloc HQ8.out (by omega) _ | exact calAt_alloc (calAt_alloc HQ8.out (by omega) _) (by simp; omega) _))
  clear q0 q1 q2 q3 q4 q5 q6 q7 q8 q9 q10 q11 q12 q13
  obtain ⟨q0, q1, q2, q3, q4, q5, q6, q7, q8, q9, q10, q11, q12, q13⟩ := HQ9.out
  clear hb9
  go_wp2_with fail
  all_goals first
    | (exfalso; omega)
    | skip
  refine (weekday_any d _).mono ?_
  rintro e w' ⟨rfl, rfl⟩
  rw [HIE.out.1]
  go_wp2_with fail
  refine (weekday_any V _).mono ?_
  rintro e w' ⟨rfl, rfl⟩
  rw [HIE.out.2, HWD.out]
  have hBel := HB9.out
  go_wp2
  all_goals first
    | (exfalso; omega)
    | (go_ret; exact ⟨ret_bool (by simp), by (repeat' (first | (with_reducible exact Below.refl _ _) | (with_reducible assumption) | (with_reducible refine Below.alloc ?_ ?_ _) | (with_reducible refine below_drewN ?_ _) | (with_reducible refine Below.drew ?_) | (with_reducible refine Below.setCell ?_ ?_ _) | (with_reducible refine Below.trans ?_ (Below.mono (by assumption) ?_)) | go_size | (simp at *; omega)))⟩)
    | (go_ret; exact ⟨ret_bool (by simp; omega), by (repeat' (first | (with_reducible exact Below.refl _ _) | (with_reducible assumption) | (with_reducible refine Below.alloc ?_ ?_ _) | (with_reducible refine below_drewN ?_ _) | (with_reducible refine Below.drew ?_) | (with_reducible refine Below.setCell ?_ ?_ _) | (with_reducible refine Below.trans ?_ (Below.mono (by assumption) ?_)) | go_size | (simp at *; omega)))⟩)

set_option maxRecDepth 100000 in
set_option maxHeartbeats 3200000 in
theorem ck_f (c : Cal) (d k : Int) (w : World) (hn : c.name.size ≤ 100) (hk6 : c.kind ≠ 6) (hs : servE c d = 0) (hx : c.first ≤ servY c d + k ∧ servY c d + k ≤ c.last) (hE : cdE c d k = 0) (hm7 : (d - cdV c d k) % 7 = 0) (hvb : 0 ≤ cdV c d k ∧ cdV c d k < 3068037) (hp : c.policy = 3) (h1 : startV c (servY c d + k) ≤ cdV c d k) (h2 : cdV c d k ≤ endV c (servY c d + k)) (h3 : wksV c (servY c d + k) ≠ 52) :
    Calls Try.prog 3 #[calV c, .int .i64 d, .int .i64 k] w fun e w' => e = .returned (.bool true) ∧ Below w.heap.size w w' := by
  have hkb := kind_b hk6
  have HE := hide hE
  have hpb1 : (c.policy == 1) = false := by simp [hp]
  have hpb2 : (c.policy == 2) = false := by simp [hp]
  have hpb3 : (c.policy == 3) = true := by simp [hp]
  clear hp hE
  have h3b : (wksV c (servY c d + k) == 52) = false := by simpa using h3
  clear h3
  have hdb := day_bd hs
  have hv1 := cdv_bd (k := k) hs hk6
  obtain ⟨hk, _, hsy, _⟩ := sv_week hs hk6
  obtain ⟨wy, ay, wy2⟩ := wks_srv hk hk6 hsy
  obtain ⟨wt, at', wt2⟩ := wks_srv hk hk6 hx
  obtain ⟨_, _, b1, b2, _⟩ := ok_years hk
  have hsyb : 1602 ≤ servY c d ∧ servY c d ≤ 9996 := by obtain ⟨h1, h2⟩ := hsy; omega
  have hk400 : -400 ≤ k ∧ k ≤ 400 := by
    have hok : c.Ok := by simpa [Cal.okB] using hk
    have h9 := hok.1
    unfold Cal.served at h9
    obtain ⟨h1, h2⟩ := hsy
    omega
  have hyb := year_bd c _ at'
  have hfw := fd_week hs hk6
  have hf5 := fd_served hs 5 (by omega) (by omega)
  have hab := added_bd hk hk6 hsy
  have HS := hide hs
  have WY := hide wy
  have WT := hide wt
  have HA := hide at'
  have HA0 := hide (ask_mono at')
  have HF5 := hide hf5
  have HFU := hide hfw.1
  have hxb := hfw.2.2.2.1
  have hxb2 := hfw.2.2.2.2.1
  have hisD : isB (cdV c d k) = true := by simp [isB]; omega
  have hisd : isB d = true := by simp [isB]; omega
  have HWD := hide (show wdV (cdV c d k) = wdV d by unfold wdV; rw [if_pos hisD, if_pos hisd]; omega)
  have HIE := hide (show isE d = 0 ∧ isE (cdV c d k) = 0 by simp [isE, hisD, hisd])
  have htm : (d - cdV c d k).tmod 7 = 0 := Int.tmod_eq_zero_of_dvd (Int.dvd_of_emod_eq_zero hm7)
  clear hisD hisd
  generalize hV1 : cdV c d k = V at *
  generalize hY1 : servY c d = Y at *
  generalize hX1 : (d - startV c Y) / 7 + 1 = X at *
  generalize hN1 : wksV c Y = n at *
  generalize hM1 : wksV c (Y + k) = m at *
  generalize hA1 : addedV c Y = a at *
  generalize hSS : startV c (Y + k) = s at *
  generalize hEE : endV c (Y + k) = b at *
  have HV1 := hide hV1
  have HY1 := hide hY1
  have HN1 := hide hN1
  have HM1 := hide hM1
  have HA1 := hide hA1
  have HSS := hide hSS
  have HEE := hide hEE
  clear hV1 hY1 hX1 hN1 hM1 hA1 hSS hEE hfw hf5 hs hk6 hk hsy wy wt ay at' hab
  have HM7 := hide hm7
  clear hm7
  simp only [calV]
  go_enter Try.func3, Try.ntmps3
  go_wp2_with fail
  refine (live19_any _).mono ?_
  rintro e w1 ⟨rfl, hb1⟩
  have hz1 : w.heap.size < w1.heap.size := by have := hb1.size; simp at this; omega
  have HB1 := hide (show Below w.heap.size w w1 by refine Below.trans ?_ (hb1.mono (by first | omega | (simp; done) | (simp; omega))); (repeat' (first | (with_reducible exact Below.refl _ _) | (with_reducible assumption) | (with_reducible refine Below.alloc ?_ ?_ _) | (with_reducible refine below_drewN ?_ _) | (with_reducible refine Below.drew ?_) | (with_reducible refine Below.setCell ?_ ?_ _) | (with_reducible refine Below.trans ?_ (Below.mono (by assumption) ?_)) | go_size | (simp at *; omega))))
  have HQ1 := hide (calAt_below hb1 (by simp) (calAt_new w c))
  obtain ⟨q0, q1, q2, q3, q4, q5, q6, q7, q8, q9, q10, q11, q12, q13⟩ := HQ1.out
  clear hb1
  go_wp2_with fail
  all_goals first
    | (exfalso; omega)
    | skip
  refine (served_any c d _ (by omega)).mono ?_
  rintro e w2 ⟨rfl, hb2⟩
  rw [HS.out, HY1.out]
  have hz2 : w.heap.size < w2.heap.size := by have := hb2.size; (try simp at this); omega
  have HB2 := hide (show Below w.heap.size w w2 by have hp := HB1.out; refine Below.trans ?_ (hb2.mono (by first | omega | (simp; done) | (simp; omega))); (repeat' (first | (with_reducible exact Below.refl _ _) | (with_reducible assumption) | (with_reducible refine Below.alloc ?_ ?_ _) | (with_reducible refine below_drewN ?_ _) | (with_reducible refine Below.drew ?_) | (with_reducible refine Below.setCell ?_ ?_ _) | (with_reducible refine Below.trans ?_ (Below.mono (by assumption) ?_)) | go_size | (simp at *; omega))))
  have HQ2 := hide (show CalAt w2 w.heap.size c from calAt_below hb2 (by first | omega | (simp; done) | (simp; omega)) (by first | exact HQ1.out | exact calAt_alloc HQ1.out (by omega) _ | exact calAt_alloc (calAt_alloc HQ1.out (by omega) _) (by simp; omega) _))
  clear q0 q1 q2 q3 q4 q5 q6 q7 q8 q9 q10 q11 q12 q13
  obtain ⟨q0, q1, q2, q3, q4, q5, q6, q7, q8, q9, q10, q11, q12, q13⟩ := HQ2.out
  clear hb2
  go_wp2_with fail
  all_goals first
    | (exfalso; omega)
    | skip
  refine (cday_any c d k _ (by omega)).mono ?_
  rintro e w3 ⟨rfl, hb3⟩
  rw [HE.out, HV1.out]
  have hz3 : w.heap.size < w3.heap.size := by have := hb3.size; (try simp at this); omega
  have HB3 := hide (show Below w.heap.size w w3 by have hp := HB2.out; refine Below.trans ?_ (hb3.mono (by first | omega | (simp; done) | (simp; omega))); (repeat' (first | (with_reducible exact Below.refl _ _) | (with_reducible assumption) | (with_reducible refine Below.alloc ?_ ?_ _) | (with_reducible refine below_drewN ?_ _) | (with_reducible refine Below.drew ?_) | (with_reducible refine Below.setCell ?_ ?_ _) | (with_reducible refine Below.trans ?_ (Below.mono (by assumption) ?_)) | go_size | (simp at *; omega))))
  have HQ3 := hide (show CalAt w3 w.heap.size c from calAt_below hb3 (by first | omega | (simp; done) | (simp; omega)) (by first | exact HQ2.out | exact calAt_alloc HQ2.out (by omega) _ | exact calAt_alloc (calAt_alloc HQ2.out (by omega) _) (by simp; omega) _))
  clear q0 q1 q2 q3 q4 q5 q6 q7 q8 q9 q10 q11 q12 q13
  obtain ⟨q0, q1, q2, q3, q4, q5, q6, q7, q8, q9, q10, q11, q12, q13⟩ := HQ3.out
  clear hb3
  go_wp2_with fail
  all_goals first
    | (exfalso; omega)
    | skip
  refine (start_any c (Y + k) _ (by omega)).mono ?_
  rintro e w4 ⟨rfl, hb4⟩
  rw [HA.out, HSS.out]
  have hz4 : w.heap.size < w4.heap.size := by have := hb4.size; (try simp at this); omega
  have HB4 := hide (show Below w.heap.size w w4 by have hp := HB3.out; refine Below.trans ?_ (hb4.mono (by first | omega | (simp; done) | (simp; omega))); (repeat' (first | (with_reducible exact Below.refl _ _) | (with_reducible assumption) | (with_reducible refine Below.alloc ?_ ?_ _) | (with_reducible refine below_drewN ?_ _) | (with_reducible refine Below.drew ?_) | (with_reducible refine Below.setCell ?_ ?_ _) | (with_reducible refine Below.trans ?_ (Below.mono (by assumption) ?_)) | go_size | (simp at *; omega))))
  have HQ4 := hide (show CalAt w4 w.heap.size c from calAt_below hb4 (by first | omega | (simp; done) | (simp; omega)) (by first | exact HQ3.out | exact calAt_alloc HQ3.out (by omega) _ | exact calAt_alloc (calAt_alloc HQ3.out (by omega) _) (by simp; omega) _))
  clear q0 q1 q2 q3 q4 q5 q6 q7 q8 q9 q10 q11 q12 q13
  obtain ⟨q0, q1, q2, q3, q4, q5, q6, q7, q8, q9, q10, q11, q12, q13⟩ := HQ4.out
  clear hb4
  go_wp2_with fail
  all_goals first
    | (exfalso; omega)
    | skip
  refine (end_any c (Y + k) _ (by omega)).mono ?_
  rintro e w5 ⟨rfl, hb5⟩
  rw [HA0.out, HEE.out]
  have hz5 : w.heap.size < w5.heap.size := by have := hb5.size; (try simp at this); omega
  have HB5 := hide (show Below w.heap.size w w5 by have hp := HB4.out; refine Below.trans ?_ (hb5.mono (by first | omega | (simp; done) | (simp; omega))); (repeat' (first | (with_reducible exact Below.refl _ _) | (with_reducible assumption) | (with_reducible refine Below.alloc ?_ ?_ _) | (with_reducible refine below_drewN ?_ _) | (with_reducible refine Below.drew ?_) | (with_reducible refine Below.setCell ?_ ?_ _) | (with_reducible refine Below.trans ?_ (Below.mono (by assumption) ?_)) | go_size | (simp at *; omega))))
  have HQ5 := hide (show CalAt w5 w.heap.size c from calAt_below hb5 (by first | omega | (simp; done) | (simp; omega)) (by first | exact HQ4.out | exact calAt_alloc HQ4.out (by omega) _ | exact calAt_alloc (calAt_alloc HQ4.out (by omega) _) (by simp; omega) _))
  clear q0 q1 q2 q3 q4 q5 q6 q7 q8 q9 q10 q11 q12 q13
  obtain ⟨q0, q1, q2, q3, q4, q5, q6, q7, q8, q9, q10, q11, q12, q13⟩ := HQ5.out
  clear hb5
  go_wp2_with fail
  all_goals first
    | (exfalso; omega)
    | skip
  refine (aweeks_any c Y _ (by omega)).mono ?_
  rintro e w6 ⟨rfl, hb6⟩
  rw [WY.out, HN1.out]
  have hz6 : w.heap.size < w6.heap.size := by have := hb6.size; (try simp at this); omega
  have HB6 := hide (show Below w.heap.size w w6 by have hp := HB5.out; refine Below.trans ?_ (hb6.mono (by first | omega | (simp; done) | (simp; omega))); (repeat' (first | (with_reducible exact Below.refl _ _) | (with_reducible assumption) | (with_reducible refine Below.alloc ?_ ?_ _) | (with_reducible refine below_drewN ?_ _) | (with_reducible refine Below.drew ?_) | (with_reducible refine Below.setCell ?_ ?_ _) | (with_reducible refine Below.trans ?_ (Below.mono (by assumption) ?_)) | go_size | (simp at *; omega))))
  have HQ6 := hide (show CalAt w6 w.heap.size c from calAt_below hb6 (by first | omega | (simp; done) | (simp; omega)) (by first | exact HQ5.out | exact calAt_alloc HQ5.out (by omega) _ | exact calAt_alloc (calAt_alloc HQ5.out (by omega) _) (by simp; omega) _))
  clear q0 q1 q2 q3 q4 q5 q6 q7 q8 q9 q10 q11 q12 q13
  obtain ⟨q0, q1, q2, q3, q4, q5, q6, q7, q8, q9, q10, q11, q12, q13⟩ := HQ6.out
  clear hb6
  go_wp2_with fail
  all_goals first
    | (exfalso; omega)
    | skip
  refine (aweeks_any c (Y + k) _ (by omega)).mono ?_
  rintro e w7 ⟨rfl, hb7⟩
  rw [WT.out, HM1.out]
  have hz7 : w.heap.size < w7.heap.size := by have := hb7.size; (try simp at this); omega
  have HB7 := hide (show Below w.heap.size w w7 by have hp := HB6.out; refine Below.trans ?_ (hb7.mono (by first | omega | (simp; done) | (simp; omega))); (repeat' (first | (with_reducible exact Below.refl _ _) | (with_reducible assumption) | (with_reducible refine Below.alloc ?_ ?_ _) | (with_reducible refine below_drewN ?_ _) | (with_reducible refine Below.drew ?_) | (with_reducible refine Below.setCell ?_ ?_ _) | (with_reducible refine Below.trans ?_ (Below.mono (by assumption) ?_)) | go_size | (simp at *; omega))))
  have HQ7 := hide (show CalAt w7 w.heap.size c from calAt_below hb7 (by first | omega | (simp; done) | (simp; omega)) (by first | exact HQ6.out | exact calAt_alloc HQ6.out (by omega) _ | exact calAt_alloc (calAt_alloc HQ6.out (by omega) _) (by simp; omega) _))
  clear q0 q1 q2 q3 q4 q5 q6 q7 q8 q9 q10 q11 q12 q13
  obtain ⟨q0, q1, q2, q3, q4, q5, q6, q7, q8, q9, q10, q11, q12, q13⟩ := HQ7.out
  clear hb7
  go_wp2_with fail
  all_goals first
    | (exfalso; omega)
    | skip
  refine (added_any c Y _ (by omega)).mono ?_
  rintro e w8 ⟨rfl, hb8⟩
  rw [WY.out, HA1.out]
  have hz8 : w.heap.size < w8.heap.size := by have := hb8.size; (try simp at this); omega
  have HB8 := hide (show Below w.heap.size w w8 by have hp := HB7.out; refine Below.trans ?_ (hb8.mono (by first | omega | (simp; done) | (simp; omega))); (repeat' (first | (with_reducible exact Below.refl _ _) | (with_reducible assumption) | (with_reducible refine Below.alloc ?_ ?_ _) | (with_reducible refine below_drewN ?_ _) | (with_reducible refine Below.drew ?_) | (with_reducible refine Below.setCell ?_ ?_ _) | (with_reducible refine Below.trans ?_ (Below.mono (by assumption) ?_)) | go_size | (simp at *; omega))))
  have HQ8 := hide (show CalAt w8 w.heap.size c from calAt_below hb8 (by first | omega | (simp; done) | (simp; omega)) (by first | exact HQ7.out | exact calAt_alloc HQ7.out (by omega) _ | exact calAt_alloc (calAt_alloc HQ7.out (by omega) _) (by simp; omega) _))
  clear q0 q1 q2 q3 q4 q5 q6 q7 q8 q9 q10 q11 q12 q13
  obtain ⟨q0, q1, q2, q3, q4, q5, q6, q7, q8, q9, q10, q11, q12, q13⟩ := HQ8.out
  clear hb8
  go_wp2_with fail
  all_goals first
    | (exfalso; omega)
    | skip
  refine (fday_any c d 5 _ (by omega)).mono ?_
  rintro e w9 ⟨rfl, hb9⟩
  rw [HF5.out, HFU.out]
  simp only [unitV]
  have hz9 : w.heap.size < w9.heap.size := by have := hb9.size; (try simp at this); omega
  have HB9 := hide (show Below w.heap.size w w9 by have hp := HB8.out; refine Below.trans ?_ (hb9.mono (by first | omega | (simp; done) | (simp; omega))); (repeat' (first | (with_reducible exact Below.refl _ _) | (with_reducible assumption) | (with_reducible refine Below.alloc ?_ ?_ _) | (with_reducible refine below_drewN ?_ _) | (with_reducible refine Below.drew ?_) | (with_reducible refine Below.setCell ?_ ?_ _) | (with_reducible refine Below.trans ?_ (Below.mono (by assumption) ?_)) | go_size | (simp at *; omega))))
  have HQ9 := hide (show CalAt w9 w.heap.size c from calAt_below hb9 (by first | omega | (simp; done) | (simp; omega)) (by first | exact HQ8.out | exact calAt_alloc HQ8.out (by omega) _ | exact calAt_alloc (calAt_alloc HQ8.out (by omega) _) (by simp; omega) _))
  clear q0 q1 q2 q3 q4 q5 q6 q7 q8 q9 q10 q11 q12 q13
  obtain ⟨q0, q1, q2, q3, q4, q5, q6, q7, q8, q9, q10, q11, q12, q13⟩ := HQ9.out
  clear hb9
  go_wp2_with fail
  all_goals first
    | (exfalso; omega)
    | skip
  refine (weekday_any d _).mono ?_
  rintro e w' ⟨rfl, rfl⟩
  rw [HIE.out.1]
  go_wp2_with fail
  refine (weekday_any V _).mono ?_
  rintro e w' ⟨rfl, rfl⟩
  rw [HIE.out.2, HWD.out]
  have hBel := HB9.out
  go_wp2
  all_goals first
    | (exfalso; omega)
    | (go_ret; exact ⟨ret_bool (by simp), by (repeat' (first | (with_reducible exact Below.refl _ _) | (with_reducible assumption) | (with_reducible refine Below.alloc ?_ ?_ _) | (with_reducible refine below_drewN ?_ _) | (with_reducible refine Below.drew ?_) | (with_reducible refine Below.setCell ?_ ?_ _) | (with_reducible refine Below.trans ?_ (Below.mono (by assumption) ?_)) | go_size | (simp at *; omega)))⟩)
    | (go_ret; exact ⟨ret_bool (by simp; omega), by (repeat' (first | (with_reducible exact Below.refl _ _) | (with_reducible assumption) | (with_reducible refine Below.alloc ?_ ?_ _) | (with_reducible refine below_drewN ?_ _) | (with_reducible refine Below.drew ?_) | (with_reducible refine Below.setCell ?_ ?_ _) | (with_reducible refine Below.trans ?_ (Below.mono (by assumption) ?_)) | go_size | (simp at *; omega)))⟩)

set_option maxRecDepth 100000 in
set_option maxHeartbeats 3200000 in
theorem ck_g (c : Cal) (d k : Int) (w : World) (hn : c.name.size ≤ 100) (hk6 : c.kind ≠ 6) (hs : servE c d = 0) (hx : c.first ≤ servY c d + k ∧ servY c d + k ≤ c.last) (hE : cdE c d k = 0) (hm7 : (d - cdV c d k) % 7 = 0) (hvb : 0 ≤ cdV c d k ∧ cdV c d k < 3068037) (hp : c.policy = 3) (h1 : startV c (servY c d + k) ≤ cdV c d k) (h2 : cdV c d k ≤ endV c (servY c d + k)) (h3 : (d - startV c (servY c d)) / 7 + 1 ≠ addedV c (servY c d)) :
    Calls Try.prog 3 #[calV c, .int .i64 d, .int .i64 k] w fun e w' => e = .returned (.bool true) ∧ Below w.heap.size w w' := by
  have hkb := kind_b hk6
  have HE := hide hE
  have hpb1 : (c.policy == 1) = false := by simp [hp]
  have hpb2 : (c.policy == 2) = false := by simp [hp]
  have hpb3 : (c.policy == 3) = true := by simp [hp]
  clear hp hE
  have h3b : ((d - startV c (servY c d)) / 7 + 1 == addedV c (servY c d)) = false := by simpa using h3
  clear h3
  have hdb := day_bd hs
  have hv1 := cdv_bd (k := k) hs hk6
  obtain ⟨hk, _, hsy, _⟩ := sv_week hs hk6
  obtain ⟨wy, ay, wy2⟩ := wks_srv hk hk6 hsy
  obtain ⟨wt, at', wt2⟩ := wks_srv hk hk6 hx
  obtain ⟨_, _, b1, b2, _⟩ := ok_years hk
  have hsyb : 1602 ≤ servY c d ∧ servY c d ≤ 9996 := by obtain ⟨h1, h2⟩ := hsy; omega
  have hk400 : -400 ≤ k ∧ k ≤ 400 := by
    have hok : c.Ok := by simpa [Cal.okB] using hk
    have h9 := hok.1
    unfold Cal.served at h9
    obtain ⟨h1, h2⟩ := hsy
    omega
  have hyb := year_bd c _ at'
  have hfw := fd_week hs hk6
  have hf5 := fd_served hs 5 (by omega) (by omega)
  have hab := added_bd hk hk6 hsy
  have HS := hide hs
  have WY := hide wy
  have WT := hide wt
  have HA := hide at'
  have HA0 := hide (ask_mono at')
  have HF5 := hide hf5
  have HFU := hide hfw.1
  have hxb := hfw.2.2.2.1
  have hxb2 := hfw.2.2.2.2.1
  have hisD : isB (cdV c d k) = true := by simp [isB]; omega
  have hisd : isB d = true := by simp [isB]; omega
  have HWD := hide (show wdV (cdV c d k) = wdV d by unfold wdV; rw [if_pos hisD, if_pos hisd]; omega)
  have HIE := hide (show isE d = 0 ∧ isE (cdV c d k) = 0 by simp [isE, hisD, hisd])
  have htm : (d - cdV c d k).tmod 7 = 0 := Int.tmod_eq_zero_of_dvd (Int.dvd_of_emod_eq_zero hm7)
  clear hisD hisd
  generalize hV1 : cdV c d k = V at *
  generalize hY1 : servY c d = Y at *
  generalize hX1 : (d - startV c Y) / 7 + 1 = X at *
  generalize hN1 : wksV c Y = n at *
  generalize hM1 : wksV c (Y + k) = m at *
  generalize hA1 : addedV c Y = a at *
  generalize hSS : startV c (Y + k) = s at *
  generalize hEE : endV c (Y + k) = b at *
  have HV1 := hide hV1
  have HY1 := hide hY1
  have HN1 := hide hN1
  have HM1 := hide hM1
  have HA1 := hide hA1
  have HSS := hide hSS
  have HEE := hide hEE
  clear hV1 hY1 hX1 hN1 hM1 hA1 hSS hEE hfw hf5 hs hk6 hk hsy wy wt ay at' hab
  have HM7 := hide hm7
  clear hm7
  simp only [calV]
  go_enter Try.func3, Try.ntmps3
  go_wp2_with fail
  refine (live19_any _).mono ?_
  rintro e w1 ⟨rfl, hb1⟩
  have hz1 : w.heap.size < w1.heap.size := by have := hb1.size; simp at this; omega
  have HB1 := hide (show Below w.heap.size w w1 by refine Below.trans ?_ (hb1.mono (by first | omega | (simp; done) | (simp; omega))); (repeat' (first | (with_reducible exact Below.refl _ _) | (with_reducible assumption) | (with_reducible refine Below.alloc ?_ ?_ _) | (with_reducible refine below_drewN ?_ _) | (with_reducible refine Below.drew ?_) | (with_reducible refine Below.setCell ?_ ?_ _) | (with_reducible refine Below.trans ?_ (Below.mono (by assumption) ?_)) | go_size | (simp at *; omega))))
  have HQ1 := hide (calAt_below hb1 (by simp) (calAt_new w c))
  obtain ⟨q0, q1, q2, q3, q4, q5, q6, q7, q8, q9, q10, q11, q12, q13⟩ := HQ1.out
  clear hb1
  go_wp2_with fail
  all_goals first
    | (exfalso; omega)
    | skip
  refine (served_any c d _ (by omega)).mono ?_
  rintro e w2 ⟨rfl, hb2⟩
  rw [HS.out, HY1.out]
  have hz2 : w.heap.size < w2.heap.size := by have := hb2.size; (try simp at this); omega
  have HB2 := hide (show Below w.heap.size w w2 by have hp := HB1.out; refine Below.trans ?_ (hb2.mono (by first | omega | (simp; done) | (simp; omega))); (repeat' (first | (with_reducible exact Below.refl _ _) | (with_reducible assumption) | (with_reducible refine Below.alloc ?_ ?_ _) | (with_reducible refine below_drewN ?_ _) | (with_reducible refine Below.drew ?_) | (with_reducible refine Below.setCell ?_ ?_ _) | (with_reducible refine Below.trans ?_ (Below.mono (by assumption) ?_)) | go_size | (simp at *; omega))))
  have HQ2 := hide (show CalAt w2 w.heap.size c from calAt_below hb2 (by first | omega | (simp; done) | (simp; omega)) (by first | exact HQ1.out | exact calAt_alloc HQ1.out (by omega) _ | exact calAt_alloc (calAt_alloc HQ1.out (by omega) _) (by simp; omega) _))
  clear q0 q1 q2 q3 q4 q5 q6 q7 q8 q9 q10 q11 q12 q13
  obtain ⟨q0, q1, q2, q3, q4, q5, q6, q7, q8, q9, q10, q11, q12, q13⟩ := HQ2.out
  clear hb2
  go_wp2_with fail
  all_goals first
    | (exfalso; omega)
    | skip
  refine (cday_any c d k _ (by omega)).mono ?_
  rintro e w3 ⟨rfl, hb3⟩
  rw [HE.out, HV1.out]
  have hz3 : w.heap.size < w3.heap.size := by have := hb3.size; (try simp at this); omega
  have HB3 := hide (show Below w.heap.size w w3 by have hp := HB2.out; refine Below.trans ?_ (hb3.mono (by first | omega | (simp; done) | (simp; omega))); (repeat' (first | (with_reducible exact Below.refl _ _) | (with_reducible assumption) | (with_reducible refine Below.alloc ?_ ?_ _) | (with_reducible refine below_drewN ?_ _) | (with_reducible refine Below.drew ?_) | (with_reducible refine Below.setCell ?_ ?_ _) | (with_reducible refine Below.trans ?_ (Below.mono (by assumption) ?_)) | go_size | (simp at *; omega))))
  have HQ3 := hide (show CalAt w3 w.heap.size c from calAt_below hb3 (by first | omega | (simp; done) | (simp; omega)) (by first | exact HQ2.out | exact calAt_alloc HQ2.out (by omega) _ | exact calAt_alloc (calAt_alloc HQ2.out (by omega) _) (by simp; omega) _))
  clear q0 q1 q2 q3 q4 q5 q6 q7 q8 q9 q10 q11 q12 q13
  obtain ⟨q0, q1, q2, q3, q4, q5, q6, q7, q8, q9, q10, q11, q12, q13⟩ := HQ3.out
  clear hb3
  go_wp2_with fail
  all_goals first
    | (exfalso; omega)
    | skip
  refine (start_any c (Y + k) _ (by omega)).mono ?_
  rintro e w4 ⟨rfl, hb4⟩
  rw [HA.out, HSS.out]
  have hz4 : w.heap.size < w4.heap.size := by have := hb4.size; (try simp at this); omega
  have HB4 := hide (show Below w.heap.size w w4 by have hp := HB3.out; refine Below.trans ?_ (hb4.mono (by first | omega | (simp; done) | (simp; omega))); (repeat' (first | (with_reducible exact Below.refl _ _) | (with_reducible assumption) | (with_reducible refine Below.alloc ?_ ?_ _) | (with_reducible refine below_drewN ?_ _) | (with_reducible refine Below.drew ?_) | (with_reducible refine Below.setCell ?_ ?_ _) | (with_reducible refine Below.trans ?_ (Below.mono (by assumption) ?_)) | go_size | (simp at *; omega))))
  have HQ4 := hide (show CalAt w4 w.heap.size c from calAt_below hb4 (by first | omega | (simp; done) | (simp; omega)) (by first | exact HQ3.out | exact calAt_alloc HQ3.out (by omega) _ | exact calAt_alloc (calAt_alloc HQ3.out (by omega) _) (by simp; omega) _))
  clear q0 q1 q2 q3 q4 q5 q6 q7 q8 q9 q10 q11 q12 q13
  obtain ⟨q0, q1, q2, q3, q4, q5, q6, q7, q8, q9, q10, q11, q12, q13⟩ := HQ4.out
  clear hb4
  go_wp2_with fail
  all_goals first
    | (exfalso; omega)
    | skip
  refine (end_any c (Y + k) _ (by omega)).mono ?_
  rintro e w5 ⟨rfl, hb5⟩
  rw [HA0.out, HEE.out]
  have hz5 : w.heap.size < w5.heap.size := by have := hb5.size; (try simp at this); omega
  have HB5 := hide (show Below w.heap.size w w5 by have hp := HB4.out; refine Below.trans ?_ (hb5.mono (by first | omega | (simp; done) | (simp; omega))); (repeat' (first | (with_reducible exact Below.refl _ _) | (with_reducible assumption) | (with_reducible refine Below.alloc ?_ ?_ _) | (with_reducible refine below_drewN ?_ _) | (with_reducible refine Below.drew ?_) | (with_reducible refine Below.setCell ?_ ?_ _) | (with_reducible refine Below.trans ?_ (Below.mono (by assumption) ?_)) | go_size | (simp at *; omega))))
  have HQ5 := hide (show CalAt w5 w.heap.size c from calAt_below hb5 (by first | omega | (simp; done) | (simp; omega)) (by first | exact HQ4.out | exact calAt_alloc HQ4.out (by omega) _ | exact calAt_alloc (calAt_alloc HQ4.out (by omega) _) (by simp; omega) _))
  clear q0 q1 q2 q3 q4 q5 q6 q7 q8 q9 q10 q11 q12 q13
  obtain ⟨q0, q1, q2, q3, q4, q5, q6, q7, q8, q9, q10, q11, q12, q13⟩ := HQ5.out
  clear hb5
  go_wp2_with fail
  all_goals first
    | (exfalso; omega)
    | skip
  refine (aweeks_any c Y _ (by omega)).mono ?_
  rintro e w6 ⟨rfl, hb6⟩
  rw [WY.out, HN1.out]
  have hz6 : w.heap.size < w6.heap.size := by have := hb6.size; (try simp at this); omega
  have HB6 := hide (show Below w.heap.size w w6 by have hp := HB5.out; refine Below.trans ?_ (hb6.mono (by first | omega | (simp; done) | (simp; omega))); (repeat' (first | (with_reducible exact Below.refl _ _) | (with_reducible assumption) | (with_reducible refine Below.alloc ?_ ?_ _) | (with_reducible refine below_drewN ?_ _) | (with_reducible refine Below.drew ?_) | (with_reducible refine Below.setCell ?_ ?_ _) | (with_reducible refine Below.trans ?_ (Below.mono (by assumption) ?_)) | go_size | (simp at *; omega))))
  have HQ6 := hide (show CalAt w6 w.heap.size c from calAt_below hb6 (by first | omega | (simp; done) | (simp; omega)) (by first | exact HQ5.out | exact calAt_alloc HQ5.out (by omega) _ | exact calAt_alloc (calAt_alloc HQ5.out (by omega) _) (by simp; omega) _))
  clear q0 q1 q2 q3 q4 q5 q6 q7 q8 q9 q10 q11 q12 q13
  obtain ⟨q0, q1, q2, q3, q4, q5, q6, q7, q8, q9, q10, q11, q12, q13⟩ := HQ6.out
  clear hb6
  go_wp2_with fail
  all_goals first
    | (exfalso; omega)
    | skip
  refine (aweeks_any c (Y + k) _ (by omega)).mono ?_
  rintro e w7 ⟨rfl, hb7⟩
  rw [WT.out, HM1.out]
  have hz7 : w.heap.size < w7.heap.size := by have := hb7.size; (try simp at this); omega
  have HB7 := hide (show Below w.heap.size w w7 by have hp := HB6.out; refine Below.trans ?_ (hb7.mono (by first | omega | (simp; done) | (simp; omega))); (repeat' (first | (with_reducible exact Below.refl _ _) | (with_reducible assumption) | (with_reducible refine Below.alloc ?_ ?_ _) | (with_reducible refine below_drewN ?_ _) | (with_reducible refine Below.drew ?_) | (with_reducible refine Below.setCell ?_ ?_ _) | (with_reducible refine Below.trans ?_ (Below.mono (by assumption) ?_)) | go_size | (simp at *; omega))))
  have HQ7 := hide (show CalAt w7 w.heap.size c from calAt_below hb7 (by first | omega | (simp; done) | (simp; omega)) (by first | exact HQ6.out | exact calAt_alloc HQ6.out (by omega) _ | exact calAt_alloc (calAt_alloc HQ6.out (by omega) _) (by simp; omega) _))
  clear q0 q1 q2 q3 q4 q5 q6 q7 q8 q9 q10 q11 q12 q13
  obtain ⟨q0, q1, q2, q3, q4, q5, q6, q7, q8, q9, q10, q11, q12, q13⟩ := HQ7.out
  clear hb7
  go_wp2_with fail
  all_goals first
    | (exfalso; omega)
    | skip
  refine (added_any c Y _ (by omega)).mono ?_
  rintro e w8 ⟨rfl, hb8⟩
  rw [WY.out, HA1.out]
  have hz8 : w.heap.size < w8.heap.size := by have := hb8.size; (try simp at this); omega
  have HB8 := hide (show Below w.heap.size w w8 by have hp := HB7.out; refine Below.trans ?_ (hb8.mono (by first | omega | (simp; done) | (simp; omega))); (repeat' (first | (with_reducible exact Below.refl _ _) | (with_reducible assumption) | (with_reducible refine Below.alloc ?_ ?_ _) | (with_reducible refine below_drewN ?_ _) | (with_reducible refine Below.drew ?_) | (with_reducible refine Below.setCell ?_ ?_ _) | (with_reducible refine Below.trans ?_ (Below.mono (by assumption) ?_)) | go_size | (simp at *; omega))))
  have HQ8 := hide (show CalAt w8 w.heap.size c from calAt_below hb8 (by first | omega | (simp; done) | (simp; omega)) (by first | exact HQ7.out | exact calAt_alloc HQ7.out (by omega) _ | exact calAt_alloc (calAt_alloc HQ7.out (by omega) _) (by simp; omega) _))
  clear q0 q1 q2 q3 q4 q5 q6 q7 q8 q9 q10 q11 q12 q13
  obtain ⟨q0, q1, q2, q3, q4, q5, q6, q7, q8, q9, q10, q11, q12, q13⟩ := HQ8.out
  clear hb8
  go_wp2_with fail
  all_goals first
    | (exfalso; omega)
    | skip
  refine (fday_any c d 5 _ (by omega)).mono ?_
  rintro e w9 ⟨rfl, hb9⟩
  rw [HF5.out, HFU.out]
  simp only [unitV]
  have hz9 : w.heap.size < w9.heap.size := by have := hb9.size; (try simp at this); omega
  have HB9 := hide (show Below w.heap.size w w9 by have hp := HB8.out; refine Below.trans ?_ (hb9.mono (by first | omega | (simp; done) | (simp; omega))); (repeat' (first | (with_reducible exact Below.refl _ _) | (with_reducible assumption) | (with_reducible refine Below.alloc ?_ ?_ _) | (with_reducible refine below_drewN ?_ _) | (with_reducible refine Below.drew ?_) | (with_reducible refine Below.setCell ?_ ?_ _) | (with_reducible refine Below.trans ?_ (Below.mono (by assumption) ?_)) | go_size | (simp at *; omega))))
  have HQ9 := hide (show CalAt w9 w.heap.size c from calAt_below hb9 (by first | omega | (simp; done) | (simp; omega)) (by first | exact HQ8.out | exact calAt_alloc HQ8.out (by omega) _ | exact calAt_alloc (calAt_alloc HQ8.out (by omega) _) (by simp; omega) _))
  clear q0 q1 q2 q3 q4 q5 q6 q7 q8 q9 q10 q11 q12 q13
  obtain ⟨q0, q1, q2, q3, q4, q5, q6, q7, q8, q9, q10, q11, q12, q13⟩ := HQ9.out
  clear hb9
  go_wp2_with fail
  all_goals first
    | (exfalso; omega)
    | skip
  refine (weekday_any d _).mono ?_
  rintro e w' ⟨rfl, rfl⟩
  rw [HIE.out.1]
  go_wp2_with fail
  refine (weekday_any V _).mono ?_
  rintro e w' ⟨rfl, rfl⟩
  rw [HIE.out.2, HWD.out]
  have hBel := HB9.out
  go_wp2
  all_goals first
    | (exfalso; omega)
    | (go_ret; exact ⟨ret_bool (by simp), by (repeat' (first | (with_reducible exact Below.refl _ _) | (with_reducible assumption) | (with_reducible refine Below.alloc ?_ ?_ _) | (with_reducible refine below_drewN ?_ _) | (with_reducible refine Below.drew ?_) | (with_reducible refine Below.setCell ?_ ?_ _) | (with_reducible refine Below.trans ?_ (Below.mono (by assumption) ?_)) | go_size | (simp at *; omega)))⟩)
    | (go_ret; exact ⟨ret_bool (by simp; omega), by (repeat' (first | (with_reducible exact Below.refl _ _) | (with_reducible assumption) | (with_reducible refine Below.alloc ?_ ?_ _) | (with_reducible refine below_drewN ?_ _) | (with_reducible refine Below.drew ?_) | (with_reducible refine Below.setCell ?_ ?_ _) | (with_reducible refine Below.trans ?_ (Below.mono (by assumption) ?_)) | go_size | (simp at *; omega)))⟩)

theorem ck_walk (c : Cal) (hn : c.name.size ≤ 9223372036854775807) (d k : Int) (w : World) :
    Calls Try.prog 3 #[calV c, .int .i64 d, .int .i64 k] w fun e w' => e = .returned (.bool true) ∧ Below w.heap.size w w' := by
  by_cases h : 100 < c.name.size
  · exact ck_long c d k w h hn
  · have h' : c.name.size ≤ 100 := by omega
    by_cases hk6 : c.kind = 6
    · exact ck_mon c d k w h' hk6
    · by_cases hs : servE c d = 0
      · by_cases hx : c.first ≤ servY c d + k ∧ servY c d + k ≤ c.last
        · rcases keeps hs hk6 hx with g | ⟨e, m7, v1, v2, g | g | g | g | ⟨p, g1, g2, g3 | g3 | g3⟩⟩
          · exact ck_gone c d k w h' hk6 hs hx g
          · exact ck_a c d k w h' hk6 hs hx e m7 ⟨v1, v2⟩ g.1 g.2.1 g.2.2
          · exact ck_b c d k w h' hk6 hs hx e m7 ⟨v1, v2⟩ g.1 g.2.1 g.2.2.1 g.2.2.2.1 g.2.2.2.2
          · exact ck_c c d k w h' hk6 hs hx e m7 ⟨v1, v2⟩ g.1 g.2.1 g.2.2
          · exact ck_d c d k w h' hk6 hs hx e m7 ⟨v1, v2⟩ g.1 g.2.1 g.2.2.1 g.2.2.2.1 g.2.2.2.2
          · exact ck_e c d k w h' hk6 hs hx e m7 ⟨v1, v2⟩ p g1 g2 g3
          · exact ck_f c d k w h' hk6 hs hx e m7 ⟨v1, v2⟩ p g1 g2 g3
          · exact ck_g c d k w h' hk6 hs hx e m7 ⟨v1, v2⟩ p g1 g2 g3
        · exact ck_2 c d k w h' hk6 hs hx
      · exact ck_1 c d k w h' hk6 hs
end Go.Proofs.Ytjodgfcmeeeopaa
