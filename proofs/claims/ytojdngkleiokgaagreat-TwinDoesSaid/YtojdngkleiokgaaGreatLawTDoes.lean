/- The walk of TwinDoes. -/
import Derived.Test.YtojdngkleiokgaaGreatNRef20C
namespace Go.Proofs.YtojdngkleiokgaaGreat
open Go.RowKit Qd
set_option linter.unusedSimpArgs false
set_option linter.unusedVariables false

set_option maxRecDepth 100000 in
set_option maxHeartbeats 1600000 in
theorem td_long (c : Cal) (u : Un) (k : Int) (w : World) (hn : 100 < c.name.size) (hm : c.name.size ≤ 9223372036854775807) :
    Calls Tryz.prog 7 #[calV c, unitV u, .int .i64 k] w fun e w' => e = .returned (.bool true) ∧ Below w.heap.size w w' := by
  simp only [calV, unitV]
  go_enter Tryz.func7, Tryz.ntmps7
  go_wp2_with fail
  refine (live20_any _).mono ?_
  rintro e w1 ⟨rfl, hb1⟩
  have hz1 : w.heap.size + 1 < w1.heap.size := by have := hb1.size; simp at this; omega
  have HB1 : Hid (Below w.heap.size w w1) := ww hb1
  have HQ1 := hide (calAt_below hb1 (by simp; omega) (calAt_alloc (calAt_new w c) (by simp) _))
  have HU1 := hide (unAt_below hb1 (by simp) (unAt_new w c u))
  obtain ⟨q0, q1, q2, q3, q4, q5, q6, q7, q8, q9, q10, q11, q12, q13⟩ := HQ1.out
  obtain ⟨u0, u1, u2⟩ := HU1.out
  have hy1 : w.heap.size < w1.heap.size := by omega
  clear hb1
  go_wp2
  all_goals first
    | (exfalso; omega)
    | (go_ret; exact ⟨rfl, HB1.out⟩)


set_option maxRecDepth 100000 in
set_option maxHeartbeats 6400000 in
theorem td_all (c : Cal) (u : Un) (k : Int) (w : World) (hn : c.name.size ≤ 100) :
    Calls Tryz.prog 7 #[calV c, unitV u, .int .i64 k] w fun e w' => e = .returned (.bool true) ∧ Below w.heap.size w w' := by
  have HF := hide (tw_few c u k)
  have hrl : (rnL c u k).length ≤ 100000 := by
    by_cases hE : twE c u k = 0
    · have := (rn_pos hE).2; omega
    · rw [rn_none hE]; simp
  have HRL := hide hrl
  have CA := fun (W : World) (h : c.name.size ≤ 1000) => tweeks_rw c u k W h
  have CB := fun (W : World) (h : c.name.size ≤ 1000) => r20weeks_any c u k W h
  have CM := fun (W : World) (h : c.name.size ≤ 1000) => runs_rs c u k W h
  have CN := fun (W : World) (h : c.name.size ≤ 1000) => r20runs_rs c u k W h
  obtain ⟨E, hE⟩ : ∃ X, twE c u k = X := ⟨_, rfl⟩
  obtain ⟨L, hL⟩ : ∃ X, twL c u k = X := ⟨_, rfl⟩
  obtain ⟨R, hR⟩ : ∃ X, rnL c u k = X := ⟨_, rfl⟩
  rw [hE, hL] at CA CB
  rw [hE, hR] at CM CN
  rw [hL] at HF
  rw [hR] at HRL
  have HCA := hide CA
  have HCB := hide CB
  have HCM := hide CM
  have HCN := hide CN
  clear hrl CA CB CM CN hE hL hR
  simp only [calV, unitV]
  go_enter Tryz.func7, Tryz.ntmps7
  go_wp2_with fail
  refine (live20_any _).mono ?_
  rintro e w1 ⟨rfl, hb1⟩
  have hz1 : w.heap.size + 1 < w1.heap.size := by have := hb1.size; simp at this; omega
  have HB1 : Hid (Below w.heap.size w w1) := ww hb1
  have HQ1 := hide (calAt_below hb1 (by simp; omega) (calAt_alloc (calAt_new w c) (by simp) _))
  have HU1 := hide (unAt_below hb1 (by simp) (unAt_new w c u))
  obtain ⟨q0, q1, q2, q3, q4, q5, q6, q7, q8, q9, q10, q11, q12, q13⟩ := HQ1.out
  obtain ⟨u0, u1, u2⟩ := HU1.out
  have hy1 : w.heap.size < w1.heap.size := by omega
  clear hb1
  go_wp2_with fail
  all_goals first
    | (exfalso; omega)
    | skip
  refine (HCA.out _ (by omega)).mono ?_
  rintro e w2 ⟨a1, n1, cap1, rfl, hlu, hb2⟩
  have HL1 := hide hlu
  clear hlu
  have hz2 : w.heap.size + 1 < w2.heap.size := by have := hb2.size; (try simp at this); omega
  have HB2 : Hid (Below w.heap.size w w2) := by have hp := HB1.out; exact ww hb2
  have HQ2 : Hid (CalAt w2 w.heap.size c) := by have hp := HQ1.out; exact qq hb2
  clear q0 q1 q2 q3 q4 q5 q6 q7 q8 q9 q10 q11 q12 q13
  obtain ⟨q0, q1, q2, q3, q4, q5, q6, q7, q8, q9, q10, q11, q12, q13⟩ := HQ2.out
  have HU2 := hide (show UnAt w2 (w.heap.size + 1) u from unAt_below hb2 sz (by first | exact HU1.out | exact unAt_alloc HU1.out (by omega) _ | exact unAt_alloc (unAt_alloc HU1.out (by omega) _) (by simp; omega) _))
  clear u0 u1 u2
  obtain ⟨u0, u1, u2⟩ := HU2.out
  have hy2 : w.heap.size < w2.heap.size := by omega
  clear hb2
  go_wp2_with fail
  refine (HCB.out _ (by omega)).mono ?_
  rintro e w3 ⟨a2, n2, cap2, rfl, hlu, hb3⟩
  have HL2 := hide hlu
  have HL1b := hide (HL1.out.call hb3)
  clear hlu
  have hz3 : w.heap.size + 1 < w3.heap.size := by have := hb3.size; (try simp at this); omega
  have HB3 : Hid (Below w.heap.size w w3) := by have hp := HB2.out; exact ww hb3
  have HQ3 : Hid (CalAt w3 w.heap.size c) := by have hp := HQ2.out; exact qq hb3
  clear q0 q1 q2 q3 q4 q5 q6 q7 q8 q9 q10 q11 q12 q13
  obtain ⟨q0, q1, q2, q3, q4, q5, q6, q7, q8, q9, q10, q11, q12, q13⟩ := HQ3.out
  have HU3 := hide (show UnAt w3 (w.heap.size + 1) u from unAt_below hb3 sz (by first | exact HU2.out | exact unAt_alloc HU2.out (by omega) _ | exact unAt_alloc (unAt_alloc HU2.out (by omega) _) (by simp; omega) _))
  clear u0 u1 u2
  obtain ⟨u0, u1, u2⟩ := HU3.out
  have hy3 : w.heap.size < w3.heap.size := by omega
  clear hb3
  go_wp2_with fail
  refine (HCM.out _ (by omega)).mono ?_
  rintro e w4 ⟨a3, n3, cap3, rfl, hlu, hb4⟩
  have HM1 := hide hlu
  have HL1c := hide (HL1b.out.call hb4)
  have HL2c := hide (HL2.out.call hb4)
  clear hlu
  have hz4 : w.heap.size + 1 < w4.heap.size := by have := hb4.size; (try simp at this); omega
  have HB4 : Hid (Below w.heap.size w w4) := by have hp := HB3.out; exact ww hb4
  have HQ4 : Hid (CalAt w4 w.heap.size c) := by have hp := HQ3.out; exact qq hb4
  clear q0 q1 q2 q3 q4 q5 q6 q7 q8 q9 q10 q11 q12 q13
  obtain ⟨q0, q1, q2, q3, q4, q5, q6, q7, q8, q9, q10, q11, q12, q13⟩ := HQ4.out
  have HU4 := hide (show UnAt w4 (w.heap.size + 1) u from unAt_below hb4 sz (by first | exact HU3.out | exact unAt_alloc HU3.out (by omega) _ | exact unAt_alloc (unAt_alloc HU3.out (by omega) _) (by simp; omega) _))
  clear u0 u1 u2
  obtain ⟨u0, u1, u2⟩ := HU4.out
  have hy4 : w.heap.size < w4.heap.size := by omega
  clear hb4
  go_wp2_with fail
  refine (HCN.out _ (by omega)).mono ?_
  rintro e w5 ⟨a4, n4, cap4, rfl, hlu, hb5⟩
  have HM2 := hide hlu
  have HM1d := hide (HM1.out.call hb5)
  have HL1d := hide (HL1c.out.call hb5)
  have HL2d := hide (HL2c.out.call hb5)
  clear hlu
  have hz5 : w.heap.size + 1 < w5.heap.size := by have := hb5.size; (try simp at this); omega
  have HB5 : Hid (Below w.heap.size w w5) := by have hp := HB4.out; exact ww hb5
  have HQ5 : Hid (CalAt w5 w.heap.size c) := by have hp := HQ4.out; exact qq hb5
  clear q0 q1 q2 q3 q4 q5 q6 q7 q8 q9 q10 q11 q12 q13
  obtain ⟨q0, q1, q2, q3, q4, q5, q6, q7, q8, q9, q10, q11, q12, q13⟩ := HQ5.out
  have HU5 := hide (show UnAt w5 (w.heap.size + 1) u from unAt_below hb5 sz (by first | exact HU4.out | exact unAt_alloc HU4.out (by omega) _ | exact unAt_alloc (unAt_alloc HU4.out (by omega) _) (by simp; omega) _))
  clear u0 u1 u2
  obtain ⟨u0, u1, u2⟩ := HU5.out
  have hy5 : w.heap.size < w5.heap.size := by omega
  clear hb5
  go_wp2_with fail
  refine (sameu20_ru L a1 a2 n1 cap1 n2 cap2 _ HL1d.out HL2d.out (by have := HF.out; omega)).mono ?_
  rintro e w6 ⟨rfl, hb6⟩
  have HM1e := hide (HM1d.out.call hb6)
  have HM2e := hide (HM2.out.call hb6)
  have hz6 : w.heap.size + 1 < w6.heap.size := by have := hb6.size; (try simp at this); omega
  have HB6 : Hid (Below w.heap.size w w6) := by have hp := HB5.out; exact ww hb6
  have HQ6 : Hid (CalAt w6 w.heap.size c) := by have hp := HQ5.out; exact qq hb6
  clear q0 q1 q2 q3 q4 q5 q6 q7 q8 q9 q10 q11 q12 q13
  obtain ⟨q0, q1, q2, q3, q4, q5, q6, q7, q8, q9, q10, q11, q12, q13⟩ := HQ6.out
  have HU6 := hide (show UnAt w6 (w.heap.size + 1) u from unAt_below hb6 sz (by first | exact HU5.out | exact unAt_alloc HU5.out (by omega) _ | exact unAt_alloc (unAt_alloc HU5.out (by omega) _) (by simp; omega) _))
  clear u0 u1 u2
  obtain ⟨u0, u1, u2⟩ := HU6.out
  have hy6 : w.heap.size < w6.heap.size := by omega
  clear hb6
  go_wp2_with fail
  refine (same20_rs R a3 a4 n3 cap3 n4 cap4 _ HM1e.out HM2e.out HRL.out).mono ?_
  rintro e w7 ⟨rfl, hb7⟩
  have hz7 : w.heap.size + 1 < w7.heap.size := by have := hb7.size; (try simp at this); omega
  have HB7 : Hid (Below w.heap.size w w7) := by have hp := HB6.out; exact ww hb7
  have HQ7 : Hid (CalAt w7 w.heap.size c) := by have hp := HQ6.out; exact qq hb7
  clear q0 q1 q2 q3 q4 q5 q6 q7 q8 q9 q10 q11 q12 q13
  obtain ⟨q0, q1, q2, q3, q4, q5, q6, q7, q8, q9, q10, q11, q12, q13⟩ := HQ7.out
  have HU7 := hide (show UnAt w7 (w.heap.size + 1) u from unAt_below hb7 sz (by first | exact HU6.out | exact unAt_alloc HU6.out (by omega) _ | exact unAt_alloc (unAt_alloc HU6.out (by omega) _) (by simp; omega) _))
  clear u0 u1 u2
  obtain ⟨u0, u1, u2⟩ := HU7.out
  have hy7 : w.heap.size < w7.heap.size := by omega
  clear hb7
  have hBel := HB7.out
  go_wp2
  all_goals first
    | (exfalso; omega)
    | (go_ret; exact ⟨rfl, by (repeat' exact bel)⟩)
    | (go_ret; exact ⟨ret_bool (by simp), by (repeat' exact bel)⟩)
theorem td_walk (c : Cal) (hn : c.name.size ≤ 9223372036854775807) (u : Un) (k : Int) (w : World) :
    Calls Tryz.prog 7 #[calV c, unitV u, .int .i64 k] w fun e w' => e = .returned (.bool true) ∧ Below w.heap.size w w' := by
  by_cases h : 100 < c.name.size
  · exact td_long c u k w h hn
  · exact td_all c u k w (by omega)
end Go.Proofs.YtojdngkleiokgaaGreat
