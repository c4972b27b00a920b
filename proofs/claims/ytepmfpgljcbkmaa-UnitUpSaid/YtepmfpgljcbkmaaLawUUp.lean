/- The walk of UnitUp. -/
import Derived.Test.YtepmfpgljcbkmaaLive16
namespace Go.Proofs.Ytepmfpgljcbkmaa
open Go.RowKit Qd
set_option linter.unusedSimpArgs false
set_option linter.unusedVariables false

/-- Up to a level that is coarser still. -/
theorem up_up {c : Cal} {u : Un} {lv : Int} (h : unitE c u = 0) (h1 : 1 ≤ lv) (h2 : lv ≤ u.lv) (top : Int) (ht1 : 1 ≤ top) (ht2 : top ≤ lv) :
    upE c u top = 0 ∧ upE c (upV c u lv) top = 0 ∧ upV c u top = upV c (upV c u lv) top := by
  obtain ⟨hf, hl1, hl5, hA, hx, hi⟩ := un_lv h
  obtain ⟨k, e0, e1, e2, e3, e4⟩ := up_facts h h1 h2
  obtain ⟨m, f0, f1, f2, f3, f4⟩ := up_facts h ht1 (show top ≤ u.lv by omega)
  obtain ⟨g0, g1, g2⟩ := un_mk (frame_lv hf lv h1 (by omega)) k e2
  obtain ⟨j, d0, d1, d2, d3, d4⟩ := up_facts (c := c) (u := ⟨lv, u.yr, (k : Int) + 1⟩) (lv := top) g0 ht1 ht2
  rw [g1] at d3
  rw [g2] at d4
  simp only at d1 d2 d3 d4
  have hab := cutAB h
  rw [e1, f1]
  refine ⟨f0, d0, ?_⟩
  rw [d1]
  have := ix_uniq hA ht1 (show top ≤ 5 by omega) (i := m) (j := j) hab.1 f2 d2 hab.2 f3 f4 (by omega) (by omega)
  rw [this]
theorem up_self {c : Cal} {u : Un} (h : unitE c u = 0) : upE c u u.lv = 0 ∧ upV c u u.lv = u := by
  obtain ⟨hf, hl1, hl5, hA, hx, hi⟩ := un_lv h
  obtain ⟨m, f0, f1, f2, f3, f4⟩ := up_facts h hl1 (Int.le_refl _)
  have hab := cutAB h
  have := ix_uniq hA hl1 hl5 (i := m) (j := uI u) hab.1 f2 hi hab.2 f3 f4 (Nat.le_refl _) (Nat.le_refl _)
  refine ⟨f0, ?_⟩
  rw [f1, this, ← hx]
theorem up_half {c : Cal} {u : Un} (h : unitE c u = 0) (h3 : u.lv = 3) : (upV c u 2).ix = (u.ix + 1) / 2 ∧ 1 ≤ u.ix ∧ u.ix ≤ 4 := by
  obtain ⟨hf, hl1, hl5, hA, hx, hi⟩ := un_lv h
  obtain ⟨m, f0, f1, f2, f3, f4⟩ := up_facts (lv := 2) h (by omega) (by omega)
  have hab := cutAB h
  have hc4 : cntL c u.yr 3 = 4 := by simp [cntL]
  rw [h3, hc4] at hi
  have hj : uI u / 2 < cntL c u.yr 2 := by simp [cntL]; omega
  have ha : cutN c u.yr 2 (uI u / 2) ≤ cutA c u := by
    unfold cutA
    rw [h3]
    simp only [cutN, pcut]
    simp
    exact cumW_le c u.yr (Nat.div_le_div_right (Nat.mul_le_mul_left _ (by omega)))
  have hb : cutB c u ≤ cutN c u.yr 2 (uI u / 2 + 1) := by
    unfold cutB
    rw [h3]
    simp only [cutN, pcut]
    simp
    exact cumW_le c u.yr (Nat.div_le_div_right (Nat.mul_le_mul_left _ (by omega)))
  have := ix_uniq hA (by omega) (by omega) (i := m) (j := uI u / 2) hab.1 f2 hj hab.2 f3 f4 ha hb
  refine ⟨?_, by omega, by omega⟩
  rw [f1]
  simp only
  omega

set_option maxRecDepth 100000 in
set_option maxHeartbeats 1600000 in
theorem uu_long (c : Cal) (u : Un) (lv top : Int) (w : World) (hn : 100 < c.name.size) (hm : c.name.size ≤ 9223372036854775807) :
    Calls Try.prog 4 #[calV c, unitV u, .int .i64 lv, .int .i64 top] w fun e w' => e = .returned (.bool true) ∧ Below w.heap.size w w' := by
  simp only [calV, unitV]
  go_enter Try.func4, Try.ntmps4
  go_wp2_with fail
  refine (live16_any _).mono ?_
  rintro e w1 ⟨rfl, hb1⟩
  have hz1 : w.heap.size + 1 < w1.heap.size := by have := hb1.size; simp at this; omega
  have HB1 := hide (show Below w.heap.size w w1 by refine Below.trans ?_ (hb1.mono (by first | omega | (simp; done) | (simp; omega))); (repeat' (first | (with_reducible exact Below.refl _ _) | (with_reducible assumption) | (with_reducible refine Below.alloc ?_ ?_ _) | (with_reducible refine below_drewN ?_ _) | (with_reducible refine Below.drew ?_) | (with_reducible refine Below.setCell ?_ ?_ _) | (with_reducible refine Below.trans ?_ (Below.mono (by assumption) ?_)) | go_size | (simp at *; omega))))
  have HQ1 := hide (calAt_below hb1 (by simp; omega) (calAt_alloc (calAt_new w c) (by simp) _))
  have HU1 := hide (unAt_below hb1 (by simp) (unAt_new w c u))
  obtain ⟨q0, q1, q2, q3, q4, q5, q6, q7, q8, q9, q10, q11, q12, q13⟩ := HQ1.out
  obtain ⟨u0, u1, u2⟩ := HU1.out
  have hy1 : w.heap.size < w1.heap.size := by omega
  clear hb1
  go_wp2
  all_goals first
    | (exfalso; omega)
    | (go_ret; exact ⟨rfl, HB1.out⟩)

set_option maxRecDepth 100000 in
set_option maxHeartbeats 1600000 in
theorem uu_no (c : Cal) (u : Un) (lv top : Int) (w : World) (hn : c.name.size ≤ 100) (hE : ¬ upE c u lv = 0) :
    Calls Try.prog 4 #[calV c, unitV u, .int .i64 lv, .int .i64 top] w fun e w' => e = .returned (.bool true) ∧ Below w.heap.size w w' := by
  have hE' : (upE c u lv != 0) = true := by simpa using hE
  have HC := hide (show upV c u lv = ⟨0, 0, 0⟩ by rw [upV, if_neg hE])
  clear hE
  simp only [calV, unitV]
  go_enter Try.func4, Try.ntmps4
  go_wp2_with fail
  refine (live16_any _).mono ?_
  rintro e w1 ⟨rfl, hb1⟩
  have hz1 : w.heap.size + 1 < w1.heap.size := by have := hb1.size; simp at this; omega
  have HB1 := hide (show Below w.heap.size w w1 by refine Below.trans ?_ (hb1.mono (by first | omega | (simp; done) | (simp; omega))); (repeat' (first | (with_reducible exact Below.refl _ _) | (with_reducible assumption) | (with_reducible refine Below.alloc ?_ ?_ _) | (with_reducible refine below_drewN ?_ _) | (with_reducible refine Below.drew ?_) | (with_reducible refine Below.setCell ?_ ?_ _) | (with_reducible refine Below.trans ?_ (Below.mono (by assumption) ?_)) | go_size | (simp at *; omega))))
  have HQ1 := hide (calAt_below hb1 (by simp; omega) (calAt_alloc (calAt_new w c) (by simp) _))
  have HU1 := hide (unAt_below hb1 (by simp) (unAt_new w c u))
  obtain ⟨q0, q1, q2, q3, q4, q5, q6, q7, q8, q9, q10, q11, q12, q13⟩ := HQ1.out
  obtain ⟨u0, u1, u2⟩ := HU1.out
  have hy1 : w.heap.size < w1.heap.size := by omega
  clear hb1
  go_wp2_with fail
  all_goals first
    | (exfalso; omega)
    | skip
  refine (up_any c u lv _ (by omega)).mono ?_
  rintro e w2 ⟨rfl, hb2⟩
  rw [HC.out]
  simp only [unitV]
  have hz2 : w.heap.size + 1 < w2.heap.size := by have := hb2.size; (try simp at this); omega
  have HB2 := hide (show Below w.heap.size w w2 by have hp := HB1.out; refine Below.trans ?_ (hb2.mono (by first | omega | (simp; done) | (simp; omega))); (repeat' (first | (with_reducible exact Below.refl _ _) | (with_reducible assumption) | (with_reducible refine Below.alloc ?_ ?_ _) | (with_reducible refine below_drewN ?_ _) | (with_reducible refine Below.drew ?_) | (with_reducible refine Below.setCell ?_ ?_ _) | (with_reducible refine Below.trans ?_ (Below.mono (by assumption) ?_)) | go_size | (simp at *; omega))))
  have HQ2 := hide (show CalAt w2 w.heap.size c from calAt_below hb2 (by first | omega | (simp; done) | (simp; omega)) (by first | exact HQ1.out | exact calAt_alloc HQ1.out (by omega) _ | exact calAt_alloc (calAt_alloc HQ1.out (by omega) _) (by simp; omega) _))
  clear q0 q1 q2 q3 q4 q5 q6 q7 q8 q9 q10 q11 q12 q13
  obtain ⟨q0, q1, q2, q3, q4, q5, q6, q7, q8, q9, q10, q11, q12, q13⟩ := HQ2.out
  have HU2 := hide (show UnAt w2 (w.heap.size + 1) u from unAt_below hb2 (by first | omega | (simp; done) | (simp; omega)) (by first | exact HU1.out | exact unAt_alloc HU1.out (by omega) _ | exact unAt_alloc (unAt_alloc HU1.out (by omega) _) (by simp; omega) _))
  clear u0 u1 u2
  obtain ⟨u0, u1, u2⟩ := HU2.out
  have hy2 : w.heap.size < w2.heap.size := by omega
  clear hb2
  clear q0 q1 q2 q3 q4 q5 q6 q7 q8 q9 q10 q11 q12 q13
  go_wp2
  go_ret
  have := HB2.out
  exact ⟨ret_bool (by simp [unB]), by (repeat' (first | (with_reducible exact Below.refl _ _) | (with_reducible assumption) | (with_reducible refine Below.alloc ?_ ?_ _) | (with_reducible refine below_drewN ?_ _) | (with_reducible refine Below.drew ?_) | (with_reducible refine Below.setCell ?_ ?_ _) | (with_reducible refine Below.trans ?_ (Below.mono (by assumption) ?_)) | go_size | (simp at *; omega)))⟩

set_option maxRecDepth 100000 in
set_option maxHeartbeats 3200000 in
theorem uu_yes (c : Cal) (u : Un) (lv top : Int) (w : World) (hn : c.name.size ≤ 100) (hE : upE c u lv = 0) :
    Calls Try.prog 4 #[calV c, unitV u, .int .i64 lv, .int .i64 top] w fun e w' => e = .returned (.bool true) ∧ Below w.heap.size w w' := by
  have hu : unitE c u = 0 := by
    unfold upE at hE
    split at hE
    · assumption
    · exact hE
  have hl : 1 ≤ lv ∧ lv ≤ u.lv := by
    unfold upE at hE
    rw [if_pos hu] at hE
    split at hE
    · assumption
    · omega
  have T1 := fun h1 h2 => up_up hu hl.1 hl.2 top h1 h2
  have T2 : lv = u.lv → upV c u lv = u := fun h => by rw [h]; exact (up_self hu).2
  have T3 : lv = 2 → u.lv = 3 → (upV c u lv).ix = (u.ix + 1) / 2 := fun h h2 => by rw [h]; exact (up_half hu h2).1
  have hix : 1 ≤ u.ix ∧ u.ix ≤ 60 := by
    obtain ⟨hf, hl1, hl5, hA, hx, hi⟩ := un_lv hu
    have := cnt_bd c u.yr hA u.lv
    omega
  have HE := hide hE
  clear hE hu hl
  have HV : ∃ V, V = upV c u lv := ⟨_, rfl⟩
  obtain ⟨V, hV⟩ := HV
  rw [← hV] at T1 T2 T3
  have HV := hide hV
  have HA' : ∃ A, A = upV c u top := ⟨_, rfl⟩
  obtain ⟨A, hA⟩ := HA'
  have HA := hide hA
  have HB' : ∃ B, B = upV c V top := ⟨_, rfl⟩
  obtain ⟨B, hB⟩ := HB'
  have HB := hide hB
  have HF' : ∃ f, f = upE c u top := ⟨_, rfl⟩
  obtain ⟨f, hf⟩ := HF'
  have HF := hide hf
  have HG' : ∃ g, g = upE c V top := ⟨_, rfl⟩
  obtain ⟨g, hg⟩ := HG'
  have HG := hide hg
  rw [← hA, ← hB, ← hf, ← hg] at T1
  clear hV hA hB hf hg
  have P1 : 1 ≤ top → top ≤ lv → f = 0 ∧ g = 0 ∧ unB A.lv A.yr A.ix B.lv B.yr B.ix = true := fun h1 h2 => by
    obtain ⟨t1, t2, t3⟩ := T1 h1 h2
    exact ⟨t1, t2, by rw [t3]; exact unB_same _ _ _⟩
  have P2 : lv = u.lv → unB V.lv V.yr V.ix u.lv u.yr u.ix = true := fun h => by rw [T2 h]; exact unB_same _ _ _
  have P3 : lv = 2 → u.lv = 3 → V.ix = (u.ix + 1) / 2 := T3
  clear T1 T2 T3
  obtain ⟨V0, V1, V2⟩ := V
  obtain ⟨A0, A1, A2⟩ := A
  obtain ⟨B0, B1, B2⟩ := B
  simp only at P1 P2 P3
  have P1 := hide P1
  have P2 := hide P2
  have P3 := hide P3
  simp only [calV, unitV]
  go_enter Try.func4, Try.ntmps4
  go_wp2_with fail
  refine (live16_any _).mono ?_
  rintro e w1 ⟨rfl, hb1⟩
  have hz1 : w.heap.size + 1 < w1.heap.size := by have := hb1.size; simp at this; omega
  have HB1 := hide (show Below w.heap.size w w1 by refine Below.trans ?_ (hb1.mono (by first | omega | (simp; done) | (simp; omega))); (repeat' (first | (with_reducible exact Below.refl _ _) | (with_reducible assumption) | (with_reducible refine Below.alloc ?_ ?_ _) | (with_reducible refine below_drewN ?_ _) | (with_reducible refine Below.drew ?_) | (with_reducible refine Below.setCell ?_ ?_ _) | (with_reducible refine Below.trans ?_ (Below.mono (by assumption) ?_)) | go_size | (simp at *; omega))))
  have HQ1 := hide (calAt_below hb1 (by simp; omega) (calAt_alloc (calAt_new w c) (by simp) _))
  have HU1 := hide (unAt_below hb1 (by simp) (unAt_new w c u))
  obtain ⟨q0, q1, q2, q3, q4, q5, q6, q7, q8, q9, q10, q11, q12, q13⟩ := HQ1.out
  obtain ⟨u0, u1, u2⟩ := HU1.out
  have hy1 : w.heap.size < w1.heap.size := by omega
  clear hb1
  go_wp2_with fail
  all_goals first
    | (exfalso; omega)
    | skip
  refine (up_any c u lv _ (by omega)).mono ?_
  rintro e w2 ⟨rfl, hb2⟩
  rw [← HV.out, HE.out]
  simp only [unitV]
  have hz2 : w.heap.size + 1 < w2.heap.size := by have := hb2.size; (try simp at this); omega
  have HB2 := hide (show Below w.heap.size w w2 by have hp := HB1.out; refine Below.trans ?_ (hb2.mono (by first | omega | (simp; done) | (simp; omega))); (repeat' (first | (with_reducible exact Below.refl _ _) | (with_reducible assumption) | (with_reducible refine Below.alloc ?_ ?_ _) | (with_reducible refine below_drewN ?_ _) | (with_reducible refine Below.drew ?_) | (with_reducible refine Below.setCell ?_ ?_ _) | (with_reducible refine Below.trans ?_ (Below.mono (by assumption) ?_)) | go_size | (simp at *; omega))))
  have HQ2 := hide (show CalAt w2 w.heap.size c from calAt_below hb2 (by first | omega | (simp; done) | (simp; omega)) (by first | exact HQ1.out | exact calAt_alloc HQ1.out (by omega) _ | exact calAt_alloc (calAt_alloc HQ1.out (by omega) _) (by simp; omega) _))
  clear q0 q1 q2 q3 q4 q5 q6 q7 q8 q9 q10 q11 q12 q13
  obtain ⟨q0, q1, q2, q3, q4, q5, q6, q7, q8, q9, q10, q11, q12, q13⟩ := HQ2.out
  have HU2 := hide (show UnAt w2 (w.heap.size + 1) u from unAt_below hb2 (by first | omega | (simp; done) | (simp; omega)) (by first | exact HU1.out | exact unAt_alloc HU1.out (by omega) _ | exact unAt_alloc (unAt_alloc HU1.out (by omega) _) (by simp; omega) _))
  clear u0 u1 u2
  obtain ⟨u0, u1, u2⟩ := HU2.out
  have hy2 : w.heap.size < w2.heap.size := by omega
  clear hb2
  go_wp2_with fail
  refine (up_any c u top _ (by omega)).mono ?_
  rintro e w3 ⟨rfl, hb3⟩
  rw [← HA.out, ← HF.out]
  simp only [unitV]
  have HX3 := hide (unAt_below hb3 (by simp) (unAt_fresh w2 ⟨V0, V1, V2⟩))
  have hx3 : w2.heap.size < w3.heap.size := by have := hb3.size; simp at this; omega
  have hz3 : w.heap.size + 1 < w3.heap.size := by have := hb3.size; (try simp at this); omega
  have HB3 := hide (show Below w.heap.size w w3 by have hp := HB2.out; refine Below.trans ?_ (hb3.mono (by first | omega | (simp; done) | (simp; omega))); (repeat' (first | (with_reducible exact Below.refl _ _) | (with_reducible assumption) | (with_reducible refine Below.alloc ?_ ?_ _) | (with_reducible refine below_drewN ?_ _) | (with_reducible refine Below.drew ?_) | (with_reducible refine Below.setCell ?_ ?_ _) | (with_reducible refine Below.trans ?_ (Below.mono (by assumption) ?_)) | go_size | (simp at *; omega))))
  have HQ3 := hide (show CalAt w3 w.heap.size c from calAt_below hb3 (by first | omega | (simp; done) | (simp; omega)) (by first | exact HQ2.out | exact calAt_alloc HQ2.out (by omega) _ | exact calAt_alloc (calAt_alloc HQ2.out (by omega) _) (by simp; omega) _))
  clear q0 q1 q2 q3 q4 q5 q6 q7 q8 q9 q10 q11 q12 q13
  obtain ⟨q0, q1, q2, q3, q4, q5, q6, q7, q8, q9, q10, q11, q12, q13⟩ := HQ3.out
  have HU3 := hide (show UnAt w3 (w.heap.size + 1) u from unAt_below hb3 (by first | omega | (simp; done) | (simp; omega)) (by first | exact HU2.out | exact unAt_alloc HU2.out (by omega) _ | exact unAt_alloc (unAt_alloc HU2.out (by omega) _) (by simp; omega) _))
  clear u0 u1 u2
  obtain ⟨u0, u1, u2⟩ := HU3.out
  have hy3 : w.heap.size < w3.heap.size := by omega
  clear hb3
  obtain ⟨x0, x1, x2⟩ := HX3.out
  go_wp2_with fail
  refine (up_any c ⟨V0, V1, V2⟩ top _ (by omega)).mono ?_
  rintro e w4 ⟨rfl, hb4⟩
  rw [← HB.out, ← HG.out]
  simp only [unitV]
  have HX4 := hide (unAt_below hb4 (by simp; omega) (unAt_alloc HX3.out hx3 _))
  have HY4 := hide (unAt_below hb4 (by simp) (unAt_fresh w3 ⟨A0, A1, A2⟩))
  have hy4 : w3.heap.size < w4.heap.size := by have := hb4.size; simp at this; omega
  have hx4 : w2.heap.size < w4.heap.size := by omega
  clear x0 x1 x2
  have hz4 : w.heap.size + 1 < w4.heap.size := by have := hb4.size; (try simp at this); omega
  have HB4 := hide (show Below w.heap.size w w4 by have hp := HB3.out; refine Below.trans ?_ (hb4.mono (by first | omega | (simp; done) | (simp; omega))); (repeat' (first | (with_reducible exact Below.refl _ _) | (with_reducible assumption) | (with_reducible refine Below.alloc ?_ ?_ _) | (with_reducible refine below_drewN ?_ _) | (with_reducible refine Below.drew ?_) | (with_reducible refine Below.setCell ?_ ?_ _) | (with_reducible refine Below.trans ?_ (Below.mono (by assumption) ?_)) | go_size | (simp at *; omega))))
  have HQ4 := hide (show CalAt w4 w.heap.size c from calAt_below hb4 (by first | omega | (simp; done) | (simp; omega)) (by first | exact HQ3.out | exact calAt_alloc HQ3.out (by omega) _ | exact calAt_alloc (calAt_alloc HQ3.out (by omega) _) (by simp; omega) _))
  clear q0 q1 q2 q3 q4 q5 q6 q7 q8 q9 q10 q11 q12 q13
  obtain ⟨q0, q1, q2, q3, q4, q5, q6, q7, q8, q9, q10, q11, q12, q13⟩ := HQ4.out
  have HU4 := hide (show UnAt w4 (w.heap.size + 1) u from unAt_below hb4 (by first | omega | (simp; done) | (simp; omega)) (by first | exact HU3.out | exact unAt_alloc HU3.out (by omega) _ | exact unAt_alloc (unAt_alloc HU3.out (by omega) _) (by simp; omega) _))
  clear u0 u1 u2
  obtain ⟨u0, u1, u2⟩ := HU4.out
  have hy4 : w.heap.size < w4.heap.size := by omega
  clear hb4
  clear q0 q1 q2 q3 q4 q5 q6 q7 q8 q9 q10 q11 q12 q13
  obtain ⟨x0, x1, x2⟩ := HX4.out
  obtain ⟨y0, y1, y2⟩ := HY4.out
  have hBel := HB4.out
  by_cases ht : 1 ≤ top ∧ top ≤ lv
  · obtain ⟨ht1, ht2⟩ := ht
    obtain ⟨rfl, rfl, pe⟩ := P1.out ht1 ht2
    by_cases hl : lv = u.lv
    · have p2 := P2.out hl
      by_cases h2 : lv = 2 ∧ u.lv = 3
      · exfalso; omega
      · go_wp2
        all_goals first
          | (exfalso; omega)
          | (go_ret; exact ⟨ret_bool (by simp; try omega), by (repeat' (first | (with_reducible exact Below.refl _ _) | (with_reducible assumption) | (with_reducible refine Below.alloc ?_ ?_ _) | (with_reducible refine below_drewN ?_ _) | (with_reducible refine Below.drew ?_) | (with_reducible refine Below.setCell ?_ ?_ _) | (with_reducible refine Below.trans ?_ (Below.mono (by assumption) ?_)) | go_size | (simp at *; omega)))⟩)
          | skip
    · by_cases h2 : lv = 2 ∧ u.lv = 3
      · have p3 := P3.out h2.1 h2.2
        obtain ⟨h21, h22⟩ := h2
        go_wp2
        all_goals first
          | (exfalso; omega)
          | (go_ret; exact ⟨ret_bool (by simp; try omega), by (repeat' (first | (with_reducible exact Below.refl _ _) | (with_reducible assumption) | (with_reducible refine Below.alloc ?_ ?_ _) | (with_reducible refine below_drewN ?_ _) | (with_reducible refine Below.drew ?_) | (with_reducible refine Below.setCell ?_ ?_ _) | (with_reducible refine Below.trans ?_ (Below.mono (by assumption) ?_)) | go_size | (simp at *; omega)))⟩)
          | skip
      · go_wp2
        all_goals first
          | (exfalso; omega)
          | (go_ret; exact ⟨ret_bool (by simp; try omega), by (repeat' (first | (with_reducible exact Below.refl _ _) | (with_reducible assumption) | (with_reducible refine Below.alloc ?_ ?_ _) | (with_reducible refine below_drewN ?_ _) | (with_reducible refine Below.drew ?_) | (with_reducible refine Below.setCell ?_ ?_ _) | (with_reducible refine Below.trans ?_ (Below.mono (by assumption) ?_)) | go_size | (simp at *; omega)))⟩)
          | skip
  · by_cases hl : lv = u.lv
    · have p2 := P2.out hl
      go_wp2
      all_goals first
        | (exfalso; omega)
        | (go_ret; exact ⟨ret_bool (by simp; try omega), by (repeat' (first | (with_reducible exact Below.refl _ _) | (with_reducible assumption) | (with_reducible refine Below.alloc ?_ ?_ _) | (with_reducible refine below_drewN ?_ _) | (with_reducible refine Below.drew ?_) | (with_reducible refine Below.setCell ?_ ?_ _) | (with_reducible refine Below.trans ?_ (Below.mono (by assumption) ?_)) | go_size | (simp at *; omega)))⟩)
        | skip
    · by_cases h2 : lv = 2 ∧ u.lv = 3
      · have p3 := P3.out h2.1 h2.2
        obtain ⟨h21, h22⟩ := h2
        go_wp2
        all_goals first
          | (exfalso; omega)
          | (go_ret; exact ⟨ret_bool (by simp; try omega), by (repeat' (first | (with_reducible exact Below.refl _ _) | (with_reducible assumption) | (with_reducible refine Below.alloc ?_ ?_ _) | (with_reducible refine below_drewN ?_ _) | (with_reducible refine Below.drew ?_) | (with_reducible refine Below.setCell ?_ ?_ _) | (with_reducible refine Below.trans ?_ (Below.mono (by assumption) ?_)) | go_size | (simp at *; omega)))⟩)
          | skip
      · go_wp2
        all_goals first
          | (exfalso; omega)
          | (go_ret; exact ⟨ret_bool (by simp; try omega), by (repeat' (first | (with_reducible exact Below.refl _ _) | (with_reducible assumption) | (with_reducible refine Below.alloc ?_ ?_ _) | (with_reducible refine below_drewN ?_ _) | (with_reducible refine Below.drew ?_) | (with_reducible refine Below.setCell ?_ ?_ _) | (with_reducible refine Below.trans ?_ (Below.mono (by assumption) ?_)) | go_size | (simp at *; omega)))⟩)
          | skip

theorem uu_walk (c : Cal) (hn : c.name.size ≤ 9223372036854775807) (u : Un) (lv top : Int) (w : World) :
    Calls Try.prog 4 #[calV c, unitV u, .int .i64 lv, .int .i64 top] w fun e w' => e = .returned (.bool true) ∧ Below w.heap.size w w' := by
  by_cases h : 100 < c.name.size
  · exact uu_long c u lv top w h hn
  · by_cases hE : upE c u lv = 0
    · exact uu_yes c u lv top w (by omega) hE
    · exact uu_no c u lv top w (by omega) hE
end Go.Proofs.Ytepmfpgljcbkmaa
