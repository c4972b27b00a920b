/- The walk of UnitMoves. -/
import Derived.Test.YtojdngkleiokgaaMRs
import Derived.Test.YtojdngkleiokgaaLive16
namespace Go.Proofs.Ytojdngkleiokgaa
open Go.RowKit Qd
set_option linter.unusedSimpArgs false
set_option linter.unusedVariables false

set_option maxRecDepth 100000 in
set_option maxHeartbeats 1600000 in
theorem um_long (c : Cal) (u : Un) (lv : Int) (w : World) (hn : 100 < c.name.size) (hm : c.name.size ≤ 9223372036854775807) :
    Calls Try.prog 5 #[calV c, unitV u, .int .i64 lv] w fun e w' => e = .returned (.bool true) ∧ Below w.heap.size w w' := by
  simp only [calV, unitV]
  go_enter Try.func5, Try.ntmps5
  go_wp2_with fail
  refine (live16_any _).mono ?_
  rintro e w1 ⟨rfl, hb1⟩
  have hz1 : w.heap.size + 1 < w1.heap.size := by have := hb1.size; simp at this; omega
  have HB1 := hide (show Below w.heap.size w w1 by refine Below.trans ?_ (hb1.mono (by first | omega | (simp; done) | (simp; omega))); (repeat' (first | (with_reducible exact Below.refl _ _) | (with_reducible assumption) | (with_reducible refine Below.alloc ?_ ?_ _) | (with_reducible refine below_drewN ?_ _) | (with_reducible refine Below.drew ?_) | (with_reducible refine Below.setCell ?_ ?_ _) | (with_reducible refine Below.trans ?_ (Below.mono (by assumption) ?_)) | go_size | (simp at *; omega))))
  have HQ1 := hide (calAt_below hb1 (by simp; omega) (calAt_alloc (calAt_new w c) (by simp) _))
  have HU1 := hide (unAt_below hb1 (by simp) (unAt_new w c u))
  obtain ⟨q0, q1, q2, q3, q4, q5, q6, q7, q8, q9, q10, q11, q12, q13⟩ := HQ1.out
  obtain ⟨u0, u1, u2⟩ := HU1.out
  have hy1 : w.heap.size < w1.heap.size := by omega
  clear hb1
  go_wp2
  all_goals first
    | (exfalso; omega)
    | (go_ret; exact ⟨rfl, HB1.out⟩)


set_option maxRecDepth 100000 in
set_option maxHeartbeats 3200000 in
theorem um_all (c : Cal) (u : Un) (lv : Int) (w : World) (hn : c.name.size ≤ 100) :
    Calls Try.prog 5 #[calV c, unitV u, .int .i64 lv] w fun e w' => e = .returned (.bool true) ∧ Below w.heap.size w w' := by
  obtain ⟨E, hE⟩ : ∃ X, upE c u lv = X := ⟨_, rfl⟩
  obtain ⟨G, hG⟩ : ∃ X, dnE c u lv = X := ⟨_, rfl⟩
  obtain ⟨⟨A0, A1, A2⟩, hA⟩ : ∃ X, upV c u lv = X := ⟨_, rfl⟩
  obtain ⟨⟨V0, V1, V2⟩, hV⟩ : ∃ X, dnA c u lv = X := ⟨_, rfl⟩
  obtain ⟨⟨X0, X1, X2⟩, hX⟩ : ∃ X, dnB c u lv = X := ⟨_, rfl⟩
  have HE := hide (And.intro hE hA)
  have HG := hide (And.intro hG (And.intro hV hX))
  clear hE hG hA hV hX
  simp only [calV, unitV]
  go_enter Try.func5, Try.ntmps5
  go_wp2_with fail
  refine (live16_any _).mono ?_
  rintro e w1 ⟨rfl, hb1⟩
  have hz1 : w.heap.size + 1 < w1.heap.size := by have := hb1.size; simp at this; omega
  have HB1 := hide (show Below w.heap.size w w1 by refine Below.trans ?_ (hb1.mono (by first | omega | (simp; done) | (simp; omega))); (repeat' (first | (with_reducible exact Below.refl _ _) | (with_reducible assumption) | (with_reducible refine Below.alloc ?_ ?_ _) | (with_reducible refine below_drewN ?_ _) | (with_reducible refine Below.drew ?_) | (with_reducible refine Below.setCell ?_ ?_ _) | (with_reducible refine Below.trans ?_ (Below.mono (by assumption) ?_)) | go_size | (simp at *; omega))))
  have HQ1 := hide (calAt_below hb1 (by simp; omega) (calAt_alloc (calAt_new w c) (by simp) _))
  have HU1 := hide (unAt_below hb1 (by simp) (unAt_new w c u))
  obtain ⟨q0, q1, q2, q3, q4, q5, q6, q7, q8, q9, q10, q11, q12, q13⟩ := HQ1.out
  obtain ⟨u0, u1, u2⟩ := HU1.out
  have hy1 : w.heap.size < w1.heap.size := by omega
  clear hb1
  go_wp2_with fail
  all_goals first
    | (exfalso; omega)
    | skip
  refine (up_any c u lv _ (by omega)).mono ?_
  rintro e w2 ⟨rfl, hb2⟩
  rw [HE.out.1, HE.out.2]
  simp only [unitV]
  have hz2 : w.heap.size + 1 < w2.heap.size := by have := hb2.size; (try simp at this); omega
  have HB2 := hide (show Below w.heap.size w w2 by have hp := HB1.out; refine Below.trans ?_ (hb2.mono (by first | omega | (simp; done) | (simp; omega))); (repeat' (first | (with_reducible exact Below.refl _ _) | (with_reducible assumption) | (with_reducible refine Below.alloc ?_ ?_ _) | (with_reducible refine below_drewN ?_ _) | (with_reducible refine Below.drew ?_) | (with_reducible refine Below.setCell ?_ ?_ _) | (with_reducible refine Below.trans ?_ (Below.mono (by assumption) ?_)) | go_size | (simp at *; omega))))
  have HQ2 := hide (show CalAt w2 w.heap.size c from calAt_below hb2 (by first | omega | (simp; done) | (simp; omega)) (by first | exact HQ1.out | exact calAt_alloc HQ1.out (by omega) _ | exact calAt_alloc (calAt_alloc HQ1.out (by omega) _) (by simp; omega) _))
  clear q0 q1 q2 q3 q4 q5 q6 q7 q8 q9 q10 q11 q12 q13
  obtain ⟨q0, q1, q2, q3, q4, q5, q6, q7, q8, q9, q10, q11, q12, q13⟩ := HQ2.out
  have HU2 := hide (show UnAt w2 (w.heap.size + 1) u from unAt_below hb2 (by first | omega | (simp; done) | (simp; omega)) (by first | exact HU1.out | exact unAt_alloc HU1.out (by omega) _ | exact unAt_alloc (unAt_alloc HU1.out (by omega) _) (by simp; omega) _))
  clear u0 u1 u2
  obtain ⟨u0, u1, u2⟩ := HU2.out
  have hy2 : w.heap.size < w2.heap.size := by omega
  clear hb2
  go_wp2_with fail
  refine (r16up_any c u lv _ (by omega)).mono ?_
  rintro e w3 ⟨rfl, hb3⟩
  rw [HE.out.1, HE.out.2]
  simp only [unitV]
  have HA3 := hide (show UnAt w3 w2.heap.size ⟨A0, A1, A2⟩ from unAt_below hb3 (by simp) (unAt_fresh w2 ⟨A0, A1, A2⟩))
  have hA3 : w2.heap.size < w3.heap.size := by have := hb3.size; (try simp at this); omega
  have hz3 : w.heap.size + 1 < w3.heap.size := by have := hb3.size; (try simp at this); omega
  have HB3 := hide (show Below w.heap.size w w3 by have hp := HB2.out; refine Below.trans ?_ (hb3.mono (by first | omega | (simp; done) | (simp; omega))); (repeat' (first | (with_reducible exact Below.refl _ _) | (with_reducible assumption) | (with_reducible refine Below.alloc ?_ ?_ _) | (with_reducible refine below_drewN ?_ _) | (with_reducible refine Below.drew ?_) | (with_reducible refine Below.setCell ?_ ?_ _) | (with_reducible refine Below.trans ?_ (Below.mono (by assumption) ?_)) | go_size | (simp at *; omega))))
  have HQ3 := hide (show CalAt w3 w.heap.size c from calAt_below hb3 (by first | omega | (simp; done) | (simp; omega)) (by first | exact HQ2.out | exact calAt_alloc HQ2.out (by omega) _ | exact calAt_alloc (calAt_alloc HQ2.out (by omega) _) (by simp; omega) _))
  clear q0 q1 q2 q3 q4 q5 q6 q7 q8 q9 q10 q11 q12 q13
  obtain ⟨q0, q1, q2, q3, q4, q5, q6, q7, q8, q9, q10, q11, q12, q13⟩ := HQ3.out
  have HU3 := hide (show UnAt w3 (w.heap.size + 1) u from unAt_below hb3 (by first | omega | (simp; done) | (simp; omega)) (by first | exact HU2.out | exact unAt_alloc HU2.out (by omega) _ | exact unAt_alloc (unAt_alloc HU2.out (by omega) _) (by simp; omega) _))
  clear u0 u1 u2
  obtain ⟨u0, u1, u2⟩ := HU3.out
  have hy3 : w.heap.size < w3.heap.size := by omega
  clear hb3
  go_wp2_with fail
  refine (down_any c u lv _ (by omega)).mono ?_
  rintro e w4 ⟨rfl, hb4⟩
  rw [HG.out.1, HG.out.2.1, HG.out.2.2]
  simp only [unitV]
  have HBB4 := hide (show UnAt w4 w3.heap.size ⟨A0, A1, A2⟩ from unAt_below hb4 (by simp) (unAt_fresh w3 ⟨A0, A1, A2⟩))
  have hBB4 : w3.heap.size < w4.heap.size := by have := hb4.size; (try simp at this); omega
  have HA4 := hide (show UnAt w4 w2.heap.size ⟨A0, A1, A2⟩ from unAt_below hb4 (by first | omega | (simp; done) | (simp; omega)) (by first | exact HA3.out | exact unAt_alloc HA3.out (by omega) _ | exact unAt_alloc (unAt_alloc HA3.out (by omega) _) (by simp; omega) _))
  have hA4 : w2.heap.size < w4.heap.size := by have := hb4.size; (try simp at this); omega
  have hz4 : w.heap.size + 1 < w4.heap.size := by have := hb4.size; (try simp at this); omega
  have HB4 := hide (show Below w.heap.size w w4 by have hp := HB3.out; refine Below.trans ?_ (hb4.mono (by first | omega | (simp; done) | (simp; omega))); (repeat' (first | (with_reducible exact Below.refl _ _) | (with_reducible assumption) | (with_reducible refine Below.alloc ?_ ?_ _) | (with_reducible refine below_drewN ?_ _) | (with_reducible refine Below.drew ?_) | (with_reducible refine Below.setCell ?_ ?_ _) | (with_reducible refine Below.trans ?_ (Below.mono (by assumption) ?_)) | go_size | (simp at *; omega))))
  have HQ4 := hide (show CalAt w4 w.heap.size c from calAt_below hb4 (by first | omega | (simp; done) | (simp; omega)) (by first | exact HQ3.out | exact calAt_alloc HQ3.out (by omega) _ | exact calAt_alloc (calAt_alloc HQ3.out (by omega) _) (by simp; omega) _))
  clear q0 q1 q2 q3 q4 q5 q6 q7 q8 q9 q10 q11 q12 q13
  obtain ⟨q0, q1, q2, q3, q4, q5, q6, q7, q8, q9, q10, q11, q12, q13⟩ := HQ4.out
  have HU4 := hide (show UnAt w4 (w.heap.size + 1) u from unAt_below hb4 (by first | omega | (simp; done) | (simp; omega)) (by first | exact HU3.out | exact unAt_alloc HU3.out (by omega) _ | exact unAt_alloc (unAt_alloc HU3.out (by omega) _) (by simp; omega) _))
  clear u0 u1 u2
  obtain ⟨u0, u1, u2⟩ := HU4.out
  have hy4 : w.heap.size < w4.heap.size := by omega
  clear hb4
  go_wp2_with fail
  refine (r16down_any c u lv _ (by omega)).mono ?_
  rintro e w5 ⟨rfl, hb5⟩
  rw [HG.out.1, HG.out.2.1, HG.out.2.2]
  simp only [unitV]
  have HV5 := hide (unAt_below (B := w4.heap.size) (u := ⟨V0, V1, V2⟩) hb5 (by simp; omega) (unAt_alloc (unAt_fresh w4 ⟨V0, V1, V2⟩) (by simp) _))
  have HX5 := hide (show UnAt w5 (w4.heap.size + 1) ⟨X0, X1, X2⟩ from unAt_below hb5 (by simp) (by simpa using unAt_fresh (w4.alloc (unObj ⟨V0, V1, V2⟩)) ⟨X0, X1, X2⟩))
  have hX5 : w4.heap.size + 1 < w5.heap.size := by have := hb5.size; simp at this; omega
  have HA5 := hide (show UnAt w5 w2.heap.size ⟨A0, A1, A2⟩ from unAt_below hb5 (by first | omega | (simp; done) | (simp; omega)) (by first | exact HA4.out | exact unAt_alloc HA4.out (by omega) _ | exact unAt_alloc (unAt_alloc HA4.out (by omega) _) (by simp; omega) _))
  have hA5 : w2.heap.size < w5.heap.size := by have := hb5.size; (try simp at this); omega
  have HBB5 := hide (show UnAt w5 w3.heap.size ⟨A0, A1, A2⟩ from unAt_below hb5 (by first | omega | (simp; done) | (simp; omega)) (by first | exact HBB4.out | exact unAt_alloc HBB4.out (by omega) _ | exact unAt_alloc (unAt_alloc HBB4.out (by omega) _) (by simp; omega) _))
  have hBB5 : w3.heap.size < w5.heap.size := by have := hb5.size; (try simp at this); omega
  have hz5 : w.heap.size + 1 < w5.heap.size := by have := hb5.size; (try simp at this); omega
  have HB5 := hide (show Below w.heap.size w w5 by have hp := HB4.out; refine Below.trans ?_ (hb5.mono (by first | omega | (simp; done) | (simp; omega))); (repeat' (first | (with_reducible exact Below.refl _ _) | (with_reducible assumption) | (with_reducible refine Below.alloc ?_ ?_ _) | (with_reducible refine below_drewN ?_ _) | (with_reducible refine Below.drew ?_) | (with_reducible refine Below.setCell ?_ ?_ _) | (with_reducible refine Below.trans ?_ (Below.mono (by assumption) ?_)) | go_size | (simp at *; omega))))
  have HQ5 := hide (show CalAt w5 w.heap.size c from calAt_below hb5 (by first | omega | (simp; done) | (simp; omega)) (by first | exact HQ4.out | exact calAt_alloc HQ4.out (by omega) _ | exact calAt_alloc (calAt_alloc HQ4.out (by omega) _) (by simp; omega) _))
  clear q0 q1 q2 q3 q4 q5 q6 q7 q8 q9 q10 q11 q12 q13
  obtain ⟨q0, q1, q2, q3, q4, q5, q6, q7, q8, q9, q10, q11, q12, q13⟩ := HQ5.out
  have HU5 := hide (show UnAt w5 (w.heap.size + 1) u from unAt_below hb5 (by first | omega | (simp; done) | (simp; omega)) (by first | exact HU4.out | exact unAt_alloc HU4.out (by omega) _ | exact unAt_alloc (unAt_alloc HU4.out (by omega) _) (by simp; omega) _))
  clear u0 u1 u2
  obtain ⟨u0, u1, u2⟩ := HU5.out
  have hy5 : w.heap.size < w5.heap.size := by omega
  clear hb5
  have hBel := HB5.out
  obtain ⟨a0, a1, a2⟩ := HA5.out
  obtain ⟨b0, b1, b2⟩ := HBB5.out
  obtain ⟨v0, v1, v2⟩ := HV5.out
  obtain ⟨x0, x1, x2⟩ := HX5.out
  simp only at a0 a1 a2 b0 b1 b2 v0 v1 v2 x0 x1 x2
  have hV5 : w4.heap.size < w5.heap.size := by omega
  have g1 : unB A0 A1 A2 A0 A1 A2 = true := unB_same _ _ _
  have g2 : unB V0 V1 V2 V0 V1 V2 = true := unB_same _ _ _
  have g3 : unB X0 X1 X2 X0 X1 X2 = true := unB_same _ _ _
  clear q0 q1 q2 q3 q4 q5 q6 q7 q8 q9 q10 q11 q12 q13
  go_wp2
  all_goals first
    | (exfalso; omega)
    | (go_ret; exact ⟨rfl, by (repeat' (first | (with_reducible exact Below.refl _ _) | (with_reducible assumption) | (with_reducible refine Below.alloc ?_ ?_ _) | (with_reducible refine below_drewN ?_ _) | (with_reducible refine Below.drew ?_) | (with_reducible refine Below.setCell ?_ ?_ _) | (with_reducible refine Below.trans ?_ (Below.mono (by assumption) ?_)) | go_size | (simp at *; omega)))⟩)
    | (go_ret; exact ⟨ret_bool (by simp [unB]), by (repeat' (first | (with_reducible exact Below.refl _ _) | (with_reducible assumption) | (with_reducible refine Below.alloc ?_ ?_ _) | (with_reducible refine below_drewN ?_ _) | (with_reducible refine Below.drew ?_) | (with_reducible refine Below.setCell ?_ ?_ _) | (with_reducible refine Below.trans ?_ (Below.mono (by assumption) ?_)) | go_size | (simp at *; omega)))⟩)

theorem um_walk (c : Cal) (hn : c.name.size ≤ 9223372036854775807) (u : Un) (lv : Int) (w : World) :
    Calls Try.prog 5 #[calV c, unitV u, .int .i64 lv] w fun e w' => e = .returned (.bool true) ∧ Below w.heap.size w w' := by
  by_cases h : 100 < c.name.size
  · exact um_long c u lv w h hn
  · exact um_all c u lv w (by omega)
end Go.Proofs.Ytojdngkleiokgaa
