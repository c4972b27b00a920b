/- The walk of UnitDoes. -/
import Derived.Test.YtojdngkleiokgaaMRq
import Derived.Test.YtojdngkleiokgaaLive16
import Derived.Lib.QuietBelow
namespace Go.Proofs.Ytojdngkleiokgaa
open Go.Sort Go.RowKit Qd
set_option linter.unusedSimpArgs false
set_option linter.unusedVariables false

set_option maxRecDepth 100000 in
set_option maxHeartbeats 1600000 in
theorem ud_long (c : Cal) (u : Un) (w : World) (hn : 100 < c.name.size) (hm : c.name.size ≤ 9223372036854775807) :
    Calls Try.prog 6 #[calV c, unitV u] w fun e w' => e = .returned (.bool true) ∧ Below w.heap.size w w' := by
  simp only [calV, unitV]
  go_enter Try.func6, Try.ntmps6
  go_wp2_with fail
  refine (live16_any _).mono ?_
  rintro e w1 ⟨rfl, hb1⟩
  have hz1 : w.heap.size + 1 < w1.heap.size := by have := hb1.size; simp at this; omega
  have HB1 := hide (show Below w.heap.size w w1 by refine Below.trans ?_ (hb1.mono (by first | omega | (simp; done) | (simp; omega))); (repeat' (first | (with_reducible exact Below.refl _ _) | (with_reducible assumption) | (with_reducible refine Below.alloc ?_ ?_ _) | (with_reducible refine below_drewN ?_ _) | (with_reducible refine Below.drew ?_) | (with_reducible refine Below.setCell ?_ ?_ _) | (with_reducible refine Below.trans ?_ (Below.mono (by assumption) ?_)) | go_size | (simp at *; omega))))
  have HQ1 := hide (calAt_below hb1 (by simp; omega) (calAt_alloc (calAt_new w c) (by simp) _))
  have HU1 := hide (unAt_below hb1 (by simp) (unAt_new w c u))
  obtain ⟨q0, q1, q2, q3, q4, q5, q6, q7, q8, q9, q10, q11, q12, q13⟩ := HQ1.out
  obtain ⟨u0, u1, u2⟩ := HU1.out
  have hy1 : w.heap.size < w1.heap.size := by omega
  clear hb1
  go_wp2
  all_goals first
    | (exfalso; omega)
    | (go_ret; exact ⟨rfl, HB1.out⟩)


set_option maxRecDepth 100000 in
set_option maxHeartbeats 3200000 in
theorem ud_all (c : Cal) (u : Un) (w : World) (hn : c.name.size ≤ 100) :
    Calls Try.prog 6 #[calV c, unitV u] w fun e w' => e = .returned (.bool true) ∧ Below w.heap.size w w' := by
  obtain ⟨C, hC⟩ : ∃ X, countV c u.lv u.yr = X := ⟨_, rfl⟩
  obtain ⟨F, hF⟩ : ∃ X, frameE c u.lv u.yr = X := ⟨_, rfl⟩
  obtain ⟨E, hE⟩ : ∃ X, unitE c u = X := ⟨_, rfl⟩
  obtain ⟨⟨S1, S2⟩, hS⟩ : ∃ X, spV c u = X := ⟨_, rfl⟩
  have HV := hide (And.intro (And.intro hC hF) (And.intro hE hS))
  clear hC hF hE hS
  simp only [calV, unitV]
  go_enter Try.func6, Try.ntmps6
  go_wp2_with fail
  refine (live16_any _).mono ?_
  rintro e w1 ⟨rfl, hb1⟩
  have hz1 : w.heap.size + 1 < w1.heap.size := by have := hb1.size; simp at this; omega
  have HB1 := hide (show Below w.heap.size w w1 by refine Below.trans ?_ (hb1.mono (by first | omega | (simp; done) | (simp; omega))); (repeat' (first | (with_reducible exact Below.refl _ _) | (with_reducible assumption) | (with_reducible refine Below.alloc ?_ ?_ _) | (with_reducible refine below_drewN ?_ _) | (with_reducible refine Below.drew ?_) | (with_reducible refine Below.setCell ?_ ?_ _) | (with_reducible refine Below.trans ?_ (Below.mono (by assumption) ?_)) | go_size | (simp at *; omega))))
  have HQ1 := hide (calAt_below hb1 (by simp; omega) (calAt_alloc (calAt_new w c) (by simp) _))
  have HU1 := hide (unAt_below hb1 (by simp) (unAt_new w c u))
  obtain ⟨q0, q1, q2, q3, q4, q5, q6, q7, q8, q9, q10, q11, q12, q13⟩ := HQ1.out
  obtain ⟨u0, u1, u2⟩ := HU1.out
  have hy1 : w.heap.size < w1.heap.size := by omega
  clear hb1
  go_wp2_with fail
  all_goals first
    | (exfalso; omega)
    | skip
  refine (count_any c u.lv u.yr _ (by omega)).mono ?_
  rintro e w2 ⟨rfl, hb2⟩
  rw [HV.out.1.1, HV.out.1.2]
  have hz2 : w.heap.size + 1 < w2.heap.size := by have := hb2.size; (try simp at this); omega
  have HB2 := hide (show Below w.heap.size w w2 by have hp := HB1.out; refine Below.trans ?_ (hb2.mono (by first | omega | (simp; done) | (simp; omega))); (repeat' (first | (with_reducible exact Below.refl _ _) | (with_reducible assumption) | (with_reducible refine Below.alloc ?_ ?_ _) | (with_reducible refine below_drewN ?_ _) | (with_reducible refine Below.drew ?_) | (with_reducible refine Below.setCell ?_ ?_ _) | (with_reducible refine Below.trans ?_ (Below.mono (by assumption) ?_)) | go_size | (simp at *; omega))))
  have HQ2 := hide (show CalAt w2 w.heap.size c from calAt_below hb2 (by first | omega | (simp; done) | (simp; omega)) (by first | exact HQ1.out | exact calAt_alloc HQ1.out (by omega) _ | exact calAt_alloc (calAt_alloc HQ1.out (by omega) _) (by simp; omega) _))
  clear q0 q1 q2 q3 q4 q5 q6 q7 q8 q9 q10 q11 q12 q13
  obtain ⟨q0, q1, q2, q3, q4, q5, q6, q7, q8, q9, q10, q11, q12, q13⟩ := HQ2.out
  have HU2 := hide (show UnAt w2 (w.heap.size + 1) u from unAt_below hb2 (by first | omega | (simp; done) | (simp; omega)) (by first | exact HU1.out | exact unAt_alloc HU1.out (by omega) _ | exact unAt_alloc (unAt_alloc HU1.out (by omega) _) (by simp; omega) _))
  clear u0 u1 u2
  obtain ⟨u0, u1, u2⟩ := HU2.out
  have hy2 : w.heap.size < w2.heap.size := by omega
  clear hb2
  go_wp2_with fail
  refine (r16count_any c u.lv u.yr _ (by omega)).mono ?_
  rintro e w3 ⟨rfl, hb3⟩
  rw [HV.out.1.1, HV.out.1.2]
  have hz3 : w.heap.size + 1 < w3.heap.size := by have := hb3.size; (try simp at this); omega
  have HB3 := hide (show Below w.heap.size w w3 by have hp := HB2.out; refine Below.trans ?_ (hb3.mono (by first | omega | (simp; done) | (simp; omega))); (repeat' (first | (with_reducible exact Below.refl _ _) | (with_reducible assumption) | (with_reducible refine Below.alloc ?_ ?_ _) | (with_reducible refine below_drewN ?_ _) | (with_reducible refine Below.drew ?_) | (with_reducible refine Below.setCell ?_ ?_ _) | (with_reducible refine Below.trans ?_ (Below.mono (by assumption) ?_)) | go_size | (simp at *; omega))))
  have HQ3 := hide (show CalAt w3 w.heap.size c from calAt_below hb3 (by first | omega | (simp; done) | (simp; omega)) (by first | exact HQ2.out | exact calAt_alloc HQ2.out (by omega) _ | exact calAt_alloc (calAt_alloc HQ2.out (by omega) _) (by simp; omega) _))
  clear q0 q1 q2 q3 q4 q5 q6 q7 q8 q9 q10 q11 q12 q13
  obtain ⟨q0, q1, q2, q3, q4, q5, q6, q7, q8, q9, q10, q11, q12, q13⟩ := HQ3.out
  have HU3 := hide (show UnAt w3 (w.heap.size + 1) u from unAt_below hb3 (by first | omega | (simp; done) | (simp; omega)) (by first | exact HU2.out | exact unAt_alloc HU2.out (by omega) _ | exact unAt_alloc (unAt_alloc HU2.out (by omega) _) (by simp; omega) _))
  clear u0 u1 u2
  obtain ⟨u0, u1, u2⟩ := HU3.out
  have hy3 : w.heap.size < w3.heap.size := by omega
  clear hb3
  go_wp2_with fail
  refine (uspan_any c u _ (by omega)).mono ?_
  rintro e w4 ⟨rfl, hb4⟩
  rw [HV.out.2.1, HV.out.2.2]
  simp only [spanV]
  have hz4 : w.heap.size + 1 < w4.heap.size := by have := hb4.size; (try simp at this); omega
  have HB4 := hide (show Below w.heap.size w w4 by have hp := HB3.out; refine Below.trans ?_ (hb4.mono (by first | omega | (simp; done) | (simp; omega))); (repeat' (first | (with_reducible exact Below.refl _ _) | (with_reducible assumption) | (with_reducible refine Below.alloc ?_ ?_ _) | (with_reducible refine below_drewN ?_ _) | (with_reducible refine Below.drew ?_) | (with_reducible refine Below.setCell ?_ ?_ _) | (with_reducible refine Below.trans ?_ (Below.mono (by assumption) ?_)) | go_size | (simp at *; omega))))
  have HQ4 := hide (show CalAt w4 w.heap.size c from calAt_below hb4 (by first | omega | (simp; done) | (simp; omega)) (by first | exact HQ3.out | exact calAt_alloc HQ3.out (by omega) _ | exact calAt_alloc (calAt_alloc HQ3.out (by omega) _) (by simp; omega) _))
  clear q0 q1 q2 q3 q4 q5 q6 q7 q8 q9 q10 q11 q12 q13
  obtain ⟨q0, q1, q2, q3, q4, q5, q6, q7, q8, q9, q10, q11, q12, q13⟩ := HQ4.out
  have HU4 := hide (show UnAt w4 (w.heap.size + 1) u from unAt_below hb4 (by first | omega | (simp; done) | (simp; omega)) (by first | exact HU3.out | exact unAt_alloc HU3.out (by omega) _ | exact unAt_alloc (unAt_alloc HU3.out (by omega) _) (by simp; omega) _))
  clear u0 u1 u2
  obtain ⟨u0, u1, u2⟩ := HU4.out
  have hy4 : w.heap.size < w4.heap.size := by omega
  clear hb4
  go_wp2_with fail
  refine (r16span_any c u _ (by omega)).mono ?_
  rintro e w5 ⟨rfl, hb5⟩
  rw [HV.out.2.1, HV.out.2.2]
  simp only [spanV]
  have HS5 := hide (show SpAt w5 w4.heap.size ⟨S1, S2⟩ from spAt_below hb5 (by simp) (spAt_fresh w4 ⟨S1, S2⟩))
  have hS5 : w4.heap.size < w5.heap.size := by have := hb5.size; (try simp at this); omega
  have hz5 : w.heap.size + 1 < w5.heap.size := by have := hb5.size; (try simp at this); omega
  have HB5 := hide (show Below w.heap.size w w5 by have hp := HB4.out; refine Below.trans ?_ (hb5.mono (by first | omega | (simp; done) | (simp; omega))); (repeat' (first | (with_reducible exact Below.refl _ _) | (with_reducible assumption) | (with_reducible refine Below.alloc ?_ ?_ _) | (with_reducible refine below_drewN ?_ _) | (with_reducible refine Below.drew ?_) | (with_reducible refine Below.setCell ?_ ?_ _) | (with_reducible refine Below.trans ?_ (Below.mono (by assumption) ?_)) | go_size | (simp at *; omega))))
  have HQ5 := hide (show CalAt w5 w.heap.size c from calAt_below hb5 (by first | omega | (simp; done) | (simp; omega)) (by first | exact HQ4.out | exact calAt_alloc HQ4.out (by omega) _ | exact calAt_alloc (calAt_alloc HQ4.out (by omega) _) (by simp; omega) _))
  clear q0 q1 q2 q3 q4 q5 q6 q7 q8 q9 q10 q11 q12 q13
  obtain ⟨q0, q1, q2, q3, q4, q5, q6, q7, q8, q9, q10, q11, q12, q13⟩ := HQ5.out
  have HU5 := hide (show UnAt w5 (w.heap.size + 1) u from unAt_below hb5 (by first | omega | (simp; done) | (simp; omega)) (by first | exact HU4.out | exact unAt_alloc HU4.out (by omega) _ | exact unAt_alloc (unAt_alloc HU4.out (by omega) _) (by simp; omega) _))
  clear u0 u1 u2
  obtain ⟨u0, u1, u2⟩ := HU5.out
  have hy5 : w.heap.size < w5.heap.size := by omega
  clear hb5
  go_wp2_with fail
  have HBT := hide (show Below w.heap.size w (w5.alloc (spObj ⟨S1, S2⟩)) by have hp := HB5.out; (repeat' (first | (with_reducible exact Below.refl _ _) | (with_reducible assumption) | (with_reducible refine Below.alloc ?_ ?_ _) | (with_reducible refine below_drewN ?_ _) | (with_reducible refine Below.drew ?_) | (with_reducible refine Below.setCell ?_ ?_ _) | (with_reducible refine Below.trans ?_ (Below.mono (by assumption) ?_)) | go_size | (simp at *; omega))))
  have HQT := hide (calAt_alloc HQ5.out (by omega) (spObj ⟨S1, S2⟩))
  have HUT := hide (unAt_alloc HU5.out (by omega) (spObj ⟨S1, S2⟩))
  have HST := hide (spAt_alloc HS5.out (by omega) (spObj ⟨S1, S2⟩))
  have HTT := hide (spAt_fresh w5 ⟨S1, S2⟩)
  obtain ⟨T, hT⟩ : ∃ T, w5.heap.size = T := ⟨_, rfl⟩
  have hTW : T < (w5.alloc (spObj ⟨S1, S2⟩)).heap.size := by simp; omega
  rw [hT] at HTT hS5 ⊢
  clear u0 u1 u2
  clear q0 q1 q2 q3 q4 q5 q6 q7 q8 q9 q10 q11 q12 q13
  obtain ⟨W, hW⟩ : ∃ W, w5.alloc (spObj ⟨S1, S2⟩) = W := ⟨_, rfl⟩
  have hWs : w.heap.size + 1 < W.heap.size := by rw [← hW]; simp; omega
  have hWs4 : w4.heap.size < W.heap.size := by rw [← hW]; simp; omega
  rw [hW] at HBT HQT HUT HST HTT hTW
  simp only [spObj] at hW
  rw [hW]
  obtain ⟨q0, q1, q2, q3, q4, q5, q6, q7, q8, q9, q10, q11, q12, q13⟩ := HQT.out
  obtain ⟨u0, u1, u2⟩ := HUT.out
  obtain ⟨s0, s1⟩ := HST.out
  obtain ⟨t0, t1⟩ := HTT.out
  simp only at s0 s1 t0 t1
  have k0 := cell_regrown q0
  have k1 := cell_regrown q1
  have k2 := cell_regrown q2
  have k3 := cell_regrown q3
  have k4 := cell_regrown q4
  have k5 := cell_regrown q5
  have k6 := cell_regrown q6
  have k7 := cell_regrown q7
  have k8 := cell_regrown q8
  have k9 := cell_regrown q9
  have k10 := cell_regrown q10
  have k11 := cell_regrown q11
  have k12 := cell_regrown q12
  have k13 := cell_regrown q13
  have ku0 := cell_regrown u0
  have ku1 := cell_regrown u1
  have ku2 := cell_regrown u2
  have ks0 := cell_regrown s0
  have ks1 := cell_regrown s1
  have kt0 := cell_regrown t0
  have kt1 := cell_regrown t1
  clear q0 q1 q2 q3 q4 q5 q6 q7 q8 q9 q10 q11 q12 q13
  clear u0 u1 u2 s0 s1 t0 t1
  have cC := fun dd os => Calls.regrown_of (d := dd) (os := os) (w := W) (ucheck_any c u (grow (redrawn W dd) os) (by omega))
  have cR := fun dd os => Calls.regrown_of (d := dd) (os := os) (w := W) (r16check_any c u (grow (redrawn W dd) os) (by omega))
  rw [HV.out.2.1] at cC cR
  simp only [calV, unitV] at cC cR
  have g1 : (C == C) = true := by simp
  have g2 : (F == F) = true := by simp
  have g3 : spB S1 S2 S1 S2 = true := spB_same _ _
  have g4 : (E == E) = true := by simp
  refine wp_region_quiet_below (by kernel_rfl) (by kernel_rfl) ?_
  repeat (quiet_step (first | exact cC _ _ | exact cR _ _))
  refine wpQuiet_nil ?_
  intro _ hw'
  obtain ⟨⟨dq, osq⟩, hw2⟩ := hw'
  subst hw2
  have HBq := hide (HBT.out.trans ((below_regrown W dq osq).mono (by omega)))
  go_wp2
  all_goals first
    | (exfalso; omega)
    | (go_ret; exact ⟨rfl, HBq.out⟩)
    | (go_ret; exact ⟨ret_bool (by simp), HBq.out⟩)

theorem ud_walk (c : Cal) (hn : c.name.size ≤ 9223372036854775807) (u : Un) (w : World) :
    Calls Try.prog 6 #[calV c, unitV u] w fun e w' => e = .returned (.bool true) ∧ Below w.heap.size w w' := by
  by_cases h : 100 < c.name.size
  · exact ud_long c u w h hn
  · exact ud_all c u w (by omega)
end Go.Proofs.Ytojdngkleiokgaa
