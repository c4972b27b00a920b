/- The walk of FindDoes. -/
import Derived.Test.YtojdngkleiokgaaGreatMRu
import Derived.Test.YtojdngkleiokgaaGreatNFindBk
import Derived.Test.YtojdngkleiokgaaGreatMFi
namespace Go.Proofs.YtojdngkleiokgaaGreat
open Go.RowKit Qd
set_option linter.unusedSimpArgs false
set_option linter.unusedVariables false

set_option maxRecDepth 100000 in
set_option maxHeartbeats 1600000 in
theorem fdo_long (c : Cal) (d lv : Int) (u : Un) (w : World) (hn : 100 < c.name.size) (hm : c.name.size ≤ 9223372036854775807) :
    Calls Tryz.prog 4 #[calV c, .int .i64 d, .int .i64 lv, unitV u] w fun e w' => e = .returned (.bool true) ∧ Below w.heap.size w w' := by
  simp only [calV, unitV]
  go_enter Tryz.func4, Tryz.ntmps4
  go_wp2_with fail
  refine (live17_any _).mono ?_
  rintro e w1 ⟨rfl, hb1⟩
  have hz1 : w.heap.size + 1 < w1.heap.size := by have := hb1.size; simp at this; omega
  have HB1 := hide (show Below w.heap.size w w1 by refine Below.trans ?_ (hb1.mono (by first | omega | (simp; done) | (simp; omega))); (repeat' (first | (with_reducible exact Below.refl _ _) | (with_reducible assumption) | (with_reducible refine Below.alloc ?_ ?_ _) | (with_reducible refine below_drewN ?_ _) | (with_reducible refine Below.drew ?_) | (with_reducible refine Below.setCell ?_ ?_ _) | (with_reducible refine Below.trans ?_ (Below.mono (by assumption) ?_)) | go_size | (simp at *; omega))))
  have HQ1 := hide (calAt_below hb1 (by simp; omega) (calAt_alloc (calAt_new w c) (by simp) _))
  have HU1 := hide (unAt_below hb1 (by simp) (unAt_new w c u))
  obtain ⟨q0, q1, q2, q3, q4, q5, q6, q7, q8, q9, q10, q11, q12, q13⟩ := HQ1.out
  obtain ⟨u0, u1, u2⟩ := HU1.out
  have hy1 : w.heap.size < w1.heap.size := by omega
  clear hb1
  go_wp2
  all_goals first
    | (exfalso; omega)
    | (go_ret; exact ⟨rfl, HB1.out⟩)

set_option maxRecDepth 100000 in
set_option maxHeartbeats 6400000 in
theorem fdo_all (c : Cal) (d lv : Int) (u : Un) (w : World) (hn : c.name.size ≤ 100) :
    Calls Tryz.prog 4 #[calV c, .int .i64 d, .int .i64 lv, unitV u] w fun e w' => e = .returned (.bool true) ∧ Below w.heap.size w w' := by
  obtain ⟨⟨a0, a1, a2⟩, hA⟩ : ∃ X, fdU c d lv = X := ⟨_, rfl⟩
  obtain ⟨E, hE⟩ : ∃ X, fdE c d lv = X := ⟨_, rfl⟩
  obtain ⟨⟨v0, v1, v2⟩, hV⟩ : ∃ X, nxU c u = X := ⟨_, rfl⟩
  obtain ⟨G, hG⟩ : ∃ X, nxE c u = X := ⟨_, rfl⟩
  obtain ⟨⟨x0, x1, x2⟩, hX⟩ : ∃ X, bkU c u = X := ⟨_, rfl⟩
  obtain ⟨I, hI⟩ : ∃ X, bkE c u = X := ⟨_, rfl⟩
  have HE := hide (And.intro hA hE)
  have HG := hide (And.intro hV hG)
  have HI := hide (And.intro hX hI)
  clear hA hE hV hG hX hI
  simp only [calV, unitV]
  go_enter Tryz.func4, Tryz.ntmps4
  go_wp2_with fail
  refine (live17_any _).mono ?_
  rintro e w1 ⟨rfl, hb1⟩
  have hz1 : w.heap.size + 1 < w1.heap.size := by have := hb1.size; simp at this; omega
  have HB1 := hide (show Below w.heap.size w w1 by refine Below.trans ?_ (hb1.mono (by first | omega | (simp; done) | (simp; omega))); (repeat' (first | (with_reducible exact Below.refl _ _) | (with_reducible assumption) | (with_reducible refine Below.alloc ?_ ?_ _) | (with_reducible refine below_drewN ?_ _) | (with_reducible refine Below.drew ?_) | (with_reducible refine Below.setCell ?_ ?_ _) | (with_reducible refine Below.trans ?_ (Below.mono (by assumption) ?_)) | go_size | (simp at *; omega))))
  have HQ1 := hide (calAt_below hb1 (by simp; omega) (calAt_alloc (calAt_new w c) (by simp) _))
  have HU1 := hide (unAt_below hb1 (by simp) (unAt_new w c u))
  obtain ⟨q0, q1, q2, q3, q4, q5, q6, q7, q8, q9, q10, q11, q12, q13⟩ := HQ1.out
  obtain ⟨u0, u1, u2⟩ := HU1.out
  have hy1 : w.heap.size < w1.heap.size := by omega
  clear hb1
  go_wp2_with fail
  all_goals first
    | (exfalso; omega)
    | skip
  refine (fday_any c d lv _ (by omega)).mono ?_
  rintro e w2 ⟨rfl, hb2⟩
  rw [HE.out.1, HE.out.2]
  simp only [unitV]
  have hz2 : w.heap.size + 1 < w2.heap.size := by have := hb2.size; (try simp at this); omega
  have HB2 := hide (show Below w.heap.size w w2 by have hp := HB1.out; refine Below.trans ?_ (hb2.mono (by first | omega | (simp; done) | (simp; omega))); (repeat' (first | (with_reducible exact Below.refl _ _) | (with_reducible assumption) | (with_reducible refine Below.alloc ?_ ?_ _) | (with_reducible refine below_drewN ?_ _) | (with_reducible refine Below.drew ?_) | (with_reducible refine Below.setCell ?_ ?_ _) | (with_reducible refine Below.trans ?_ (Below.mono (by assumption) ?_)) | go_size | (simp at *; omega))))
  have HQ2 := hide (show CalAt w2 w.heap.size c from calAt_below hb2 (by first | omega | (simp; done) | (simp; omega)) (by first | exact HQ1.out | exact calAt_alloc HQ1.out (by omega) _ | exact calAt_alloc (calAt_alloc HQ1.out (by omega) _) (by simp; omega) _))
  clear q0 q1 q2 q3 q4 q5 q6 q7 q8 q9 q10 q11 q12 q13
  obtain ⟨q0, q1, q2, q3, q4, q5, q6, q7, q8, q9, q10, q11, q12, q13⟩ := HQ2.out
  have HU2 := hide (show UnAt w2 (w.heap.size + 1) u from unAt_below hb2 (by first | omega | (simp; done) | (simp; omega)) (by first | exact HU1.out | exact unAt_alloc HU1.out (by omega) _ | exact unAt_alloc (unAt_alloc HU1.out (by omega) _) (by simp; omega) _))
  clear u0 u1 u2
  obtain ⟨u0, u1, u2⟩ := HU2.out
  have hy2 : w.heap.size < w2.heap.size := by omega
  clear hb2
  go_wp2_with fail
  refine (r17day_any c d lv _ (by omega)).mono ?_
  rintro e w3 ⟨rfl, hb3⟩
  rw [HE.out.1, HE.out.2]
  simp only [unitV]
  have HA3 := hide (show UnAt w3 w2.heap.size ⟨a0, a1, a2⟩ from unAt_below hb3 (by simp) (unAt_fresh w2 ⟨a0, a1, a2⟩))
  have hA3 : w2.heap.size < w3.heap.size := by have := hb3.size; (try simp at this); omega
  have hz3 : w.heap.size + 1 < w3.heap.size := by have := hb3.size; (try simp at this); omega
  have HB3 := hide (show Below w.heap.size w w3 by have hp := HB2.out; refine Below.trans ?_ (hb3.mono (by first | omega | (simp; done) | (simp; omega))); (repeat' (first | (with_reducible exact Below.refl _ _) | (with_reducible assumption) | (with_reducible refine Below.alloc ?_ ?_ _) | (with_reducible refine below_drewN ?_ _) | (with_reducible refine Below.drew ?_) | (with_reducible refine Below.setCell ?_ ?_ _) | (with_reducible refine Below.trans ?_ (Below.mono (by assumption) ?_)) | go_size | (simp at *; omega))))
  have HQ3 := hide (show CalAt w3 w.heap.size c from calAt_below hb3 (by first | omega | (simp; done) | (simp; omega)) (by first | exact HQ2.out | exact calAt_alloc HQ2.out (by omega) _ | exact calAt_alloc (calAt_alloc HQ2.out (by omega) _) (by simp; omega) _))
  clear q0 q1 q2 q3 q4 q5 q6 q7 q8 q9 q10 q11 q12 q13
  obtain ⟨q0, q1, q2, q3, q4, q5, q6, q7, q8, q9, q10, q11, q12, q13⟩ := HQ3.out
  have HU3 := hide (show UnAt w3 (w.heap.size + 1) u from unAt_below hb3 (by first | omega | (simp; done) | (simp; omega)) (by first | exact HU2.out | exact unAt_alloc HU2.out (by omega) _ | exact unAt_alloc (unAt_alloc HU2.out (by omega) _) (by simp; omega) _))
  clear u0 u1 u2
  obtain ⟨u0, u1, u2⟩ := HU3.out
  have hy3 : w.heap.size < w3.heap.size := by omega
  clear hb3
  go_wp2_with fail
  refine (fnext_any c u _ (by omega)).mono ?_
  rintro e w4 ⟨rfl, hb4⟩
  rw [HG.out.1, HG.out.2]
  simp only [unitV]
  have HBB4 := hide (show UnAt w4 w3.heap.size ⟨a0, a1, a2⟩ from unAt_below hb4 (by simp) (unAt_fresh w3 ⟨a0, a1, a2⟩))
  have hBB4 : w3.heap.size < w4.heap.size := by have := hb4.size; (try simp at this); omega
  have HA4 := hide (show UnAt w4 w2.heap.size ⟨a0, a1, a2⟩ from unAt_below hb4 (by first | omega | (simp; done) | (simp; omega)) (by first | exact HA3.out | exact unAt_alloc HA3.out (by omega) _ | exact unAt_alloc (unAt_alloc HA3.out (by omega) _) (by simp; omega) _))
  have hA4 : w2.heap.size < w4.heap.size := by have := hb4.size; (try simp at this); omega
  have hz4 : w.heap.size + 1 < w4.heap.size := by have := hb4.size; (try simp at this); omega
  have HB4 := hide (show Below w.heap.size w w4 by have hp := HB3.out; refine Below.trans ?_ (hb4.mono (by first | omega | (simp; done) | (simp; omega))); (repeat' (first | (with_reducible exact Below.refl _ _) | (with_reducible assumption) | (with_reducible refine Below.alloc ?_ ?_ _) | (with_reducible refine below_drewN ?_ _) | (with_reducible refine Below.drew ?_) | (with_reducible refine Below.setCell ?_ ?_ _) | (with_reducible refine Below.trans ?_ (Below.mono (by assumption) ?_)) | go_size | (simp at *; omega))))
  have HQ4 := hide (show CalAt w4 w.heap.size c from calAt_below hb4 (by first | omega | (simp; done) | (simp; omega)) (by first | exact HQ3.out | exact calAt_alloc HQ3.out (by omega) _ | exact calAt_alloc (calAt_alloc HQ3.out (by omega) _) (by simp; omega) _))
  clear q0 q1 q2 q3 q4 q5 q6 q7 q8 q9 q10 q11 q12 q13
  obtain ⟨q0, q1, q2, q3, q4, q5, q6, q7, q8, q9, q10, q11, q12, q13⟩ := HQ4.out
  have HU4 := hide (show UnAt w4 (w.heap.size + 1) u from unAt_below hb4 (by first | omega | (simp; done) | (simp; omega)) (by first | exact HU3.out | exact unAt_alloc HU3.out (by omega) _ | exact unAt_alloc (unAt_alloc HU3.out (by omega) _) (by simp; omega) _))
  clear u0 u1 u2
  obtain ⟨u0, u1, u2⟩ := HU4.out
  have hy4 : w.heap.size < w4.heap.size := by omega
  clear hb4
  go_wp2_with fail
  refine (r17next_any c u _ (by omega)).mono ?_
  rintro e w5 ⟨rfl, hb5⟩
  rw [HG.out.1, HG.out.2]
  simp only [unitV]
  have HV5 := hide (show UnAt w5 w4.heap.size ⟨v0, v1, v2⟩ from unAt_below hb5 (by simp) (unAt_fresh w4 ⟨v0, v1, v2⟩))
  have hV5 : w4.heap.size < w5.heap.size := by have := hb5.size; (try simp at this); omega
  have HA5 := hide (show UnAt w5 w2.heap.size ⟨a0, a1, a2⟩ from unAt_below hb5 (by first | omega | (simp; done) | (simp; omega)) (by first | exact HA4.out | exact unAt_alloc HA4.out (by omega) _ | exact unAt_alloc (unAt_alloc HA4.out (by omega) _) (by simp; omega) _))
  have hA5 : w2.heap.size < w5.heap.size := by have := hb5.size; (try simp at this); omega
  have HBB5 := hide (show UnAt w5 w3.heap.size ⟨a0, a1, a2⟩ from unAt_below hb5 (by first | omega | (simp; done) | (simp; omega)) (by first | exact HBB4.out | exact unAt_alloc HBB4.out (by omega) _ | exact unAt_alloc (unAt_alloc HBB4.out (by omega) _) (by simp; omega) _))
  have hBB5 : w3.heap.size < w5.heap.size := by have := hb5.size; (try simp at this); omega
  have hz5 : w.heap.size + 1 < w5.heap.size := by have := hb5.size; (try simp at this); omega
  have HB5 := hide (show Below w.heap.size w w5 by have hp := HB4.out; refine Below.trans ?_ (hb5.mono (by first | omega | (simp; done) | (simp; omega))); (repeat' (first | (with_reducible exact Below.refl _ _) | (with_reducible assumption) | (with_reducible refine Below.alloc ?_ ?_ _) | (with_reducible refine below_drewN ?_ _) | (with_reducible refine Below.drew ?_) | (with_reducible refine Below.setCell ?_ ?_ _) | (with_reducible refine Below.trans ?_ (Below.mono (by assumption) ?_)) | go_size | (simp at *; omega))))
  have HQ5 := hide (show CalAt w5 w.heap.size c from calAt_below hb5 (by first | omega | (simp; done) | (simp; omega)) (by first | exact HQ4.out | exact calAt_alloc HQ4.out (by omega) _ | exact calAt_alloc (calAt_alloc HQ4.out (by omega) _) (by simp; omega) _))
  clear q0 q1 q2 q3 q4 q5 q6 q7 q8 q9 q10 q11 q12 q13
  obtain ⟨q0, q1, q2, q3, q4, q5, q6, q7, q8, q9, q10, q11, q12, q13⟩ := HQ5.out
  have HU5 := hide (show UnAt w5 (w.heap.size + 1) u from unAt_below hb5 (by first | omega | (simp; done) | (simp; omega)) (by first | exact HU4.out | exact unAt_alloc HU4.out (by omega) _ | exact unAt_alloc (unAt_alloc HU4.out (by omega) _) (by simp; omega) _))
  clear u0 u1 u2
  obtain ⟨u0, u1, u2⟩ := HU5.out
  have hy5 : w.heap.size < w5.heap.size := by omega
  clear hb5
  go_wp2_with fail
  refine (fback_any c u _ (by omega)).mono ?_
  rintro e w6 ⟨rfl, hb6⟩
  rw [HI.out.1, HI.out.2]
  simp only [unitV]
  have HVV6 := hide (show UnAt w6 w5.heap.size ⟨v0, v1, v2⟩ from unAt_below hb6 (by simp) (unAt_fresh w5 ⟨v0, v1, v2⟩))
  have hVV6 : w5.heap.size < w6.heap.size := by have := hb6.size; (try simp at this); omega
  have HA6 := hide (show UnAt w6 w2.heap.size ⟨a0, a1, a2⟩ from unAt_below hb6 (by first | omega | (simp; done) | (simp; omega)) (by first | exact HA5.out | exact unAt_alloc HA5.out (by omega) _ | exact unAt_alloc (unAt_alloc HA5.out (by omega) _) (by simp; omega) _))
  have hA6 : w2.heap.size < w6.heap.size := by have := hb6.size; (try simp at this); omega
  have HBB6 := hide (show UnAt w6 w3.heap.size ⟨a0, a1, a2⟩ from unAt_below hb6 (by first | omega | (simp; done) | (simp; omega)) (by first | exact HBB5.out | exact unAt_alloc HBB5.out (by omega) _ | exact unAt_alloc (unAt_alloc HBB5.out (by omega) _) (by simp; omega) _))
  have hBB6 : w3.heap.size < w6.heap.size := by have := hb6.size; (try simp at this); omega
  have HV6 := hide (show UnAt w6 w4.heap.size ⟨v0, v1, v2⟩ from unAt_below hb6 (by first | omega | (simp; done) | (simp; omega)) (by first | exact HV5.out | exact unAt_alloc HV5.out (by omega) _ | exact unAt_alloc (unAt_alloc HV5.out (by omega) _) (by simp; omega) _))
  have hV6 : w4.heap.size < w6.heap.size := by have := hb6.size; (try simp at this); omega
  have hz6 : w.heap.size + 1 < w6.heap.size := by have := hb6.size; (try simp at this); omega
  have HB6 := hide (show Below w.heap.size w w6 by have hp := HB5.out; refine Below.trans ?_ (hb6.mono (by first | omega | (simp; done) | (simp; omega))); (repeat' (first | (with_reducible exact Below.refl _ _) | (with_reducible assumption) | (with_reducible refine Below.alloc ?_ ?_ _) | (with_reducible refine below_drewN ?_ _) | (with_reducible refine Below.drew ?_) | (with_reducible refine Below.setCell ?_ ?_ _) | (with_reducible refine Below.trans ?_ (Below.mono (by assumption) ?_)) | go_size | (simp at *; omega))))
  have HQ6 := hide (show CalAt w6 w.heap.size c from calAt_below hb6 (by first | omega | (simp; done) | (simp; omega)) (by first | exact HQ5.out | exact calAt_alloc HQ5.out (by omega) _ | exact calAt_alloc (calAt_alloc HQ5.out (by omega) _) (by simp; omega) _))
  clear q0 q1 q2 q3 q4 q5 q6 q7 q8 q9 q10 q11 q12 q13
  obtain ⟨q0, q1, q2, q3, q4, q5, q6, q7, q8, q9, q10, q11, q12, q13⟩ := HQ6.out
  have HU6 := hide (show UnAt w6 (w.heap.size + 1) u from unAt_below hb6 (by first | omega | (simp; done) | (simp; omega)) (by first | exact HU5.out | exact unAt_alloc HU5.out (by omega) _ | exact unAt_alloc (unAt_alloc HU5.out (by omega) _) (by simp; omega) _))
  clear u0 u1 u2
  obtain ⟨u0, u1, u2⟩ := HU6.out
  have hy6 : w.heap.size < w6.heap.size := by omega
  clear hb6
  go_wp2_with fail
  refine (r17back_any c u _ (by omega)).mono ?_
  rintro e w7 ⟨rfl, hb7⟩
  rw [HI.out.1, HI.out.2]
  simp only [unitV]
  have HX7 := hide (show UnAt w7 w6.heap.size ⟨x0, x1, x2⟩ from unAt_below hb7 (by simp) (unAt_fresh w6 ⟨x0, x1, x2⟩))
  have hX7 : w6.heap.size < w7.heap.size := by have := hb7.size; (try simp at this); omega
  have HA7 := hide (show UnAt w7 w2.heap.size ⟨a0, a1, a2⟩ from unAt_below hb7 (by first | omega | (simp; done) | (simp; omega)) (by first | exact HA6.out | exact unAt_alloc HA6.out (by omega) _ | exact unAt_alloc (unAt_alloc HA6.out (by omega) _) (by simp; omega) _))
  have hA7 : w2.heap.size < w7.heap.size := by have := hb7.size; (try simp at this); omega
  have HBB7 := hide (show UnAt w7 w3.heap.size ⟨a0, a1, a2⟩ from unAt_below hb7 (by first | omega | (simp; done) | (simp; omega)) (by first | exact HBB6.out | exact unAt_alloc HBB6.out (by omega) _ | exact unAt_alloc (unAt_alloc HBB6.out (by omega) _) (by simp; omega) _))
  have hBB7 : w3.heap.size < w7.heap.size := by have := hb7.size; (try simp at this); omega
  have HV7 := hide (show UnAt w7 w4.heap.size ⟨v0, v1, v2⟩ from unAt_below hb7 (by first | omega | (simp; done) | (simp; omega)) (by first | exact HV6.out | exact unAt_alloc HV6.out (by omega) _ | exact unAt_alloc (unAt_alloc HV6.out (by omega) _) (by simp; omega) _))
  have hV7 : w4.heap.size < w7.heap.size := by have := hb7.size; (try simp at this); omega
  have HVV7 := hide (show UnAt w7 w5.heap.size ⟨v0, v1, v2⟩ from unAt_below hb7 (by first | omega | (simp; done) | (simp; omega)) (by first | exact HVV6.out | exact unAt_alloc HVV6.out (by omega) _ | exact unAt_alloc (unAt_alloc HVV6.out (by omega) _) (by simp; omega) _))
  have hVV7 : w5.heap.size < w7.heap.size := by have := hb7.size; (try simp at this); omega
  have hz7 : w.heap.size + 1 < w7.heap.size := by have := hb7.size; (try simp at this); omega
  have HB7 := hide (show Below w.heap.size w w7 by have hp := HB6.out; refine Below.trans ?_ (hb7.mono (by first | omega | (simp; done) | (simp; omega))); (repeat' (first | (with_reducible exact Below.refl _ _) | (with_reducible assumption) | (with_reducible refine Below.alloc ?_ ?_ _) | (with_reducible refine below_drewN ?_ _) | (with_reducible refine Below.drew ?_) | (with_reducible refine Below.setCell ?_ ?_ _) | (with_reducible refine Below.trans ?_ (Below.mono (by assumption) ?_)) | go_size | (simp at *; omega))))
  have HQ7 := hide (show CalAt w7 w.heap.size c from calAt_below hb7 (by first | omega | (simp; done) | (simp; omega)) (by first | exact HQ6.out | exact calAt_alloc HQ6.out (by omega) _ | exact calAt_alloc (calAt_alloc HQ6.out (by omega) _) (by simp; omega) _))
  clear q0 q1 q2 q3 q4 q5 q6 q7 q8 q9 q10 q11 q12 q13
  obtain ⟨q0, q1, q2, q3, q4, q5, q6, q7, q8, q9, q10, q11, q12, q13⟩ := HQ7.out
  have HU7 := hide (show UnAt w7 (w.heap.size + 1) u from unAt_below hb7 (by first | omega | (simp; done) | (simp; omega)) (by first | exact HU6.out | exact unAt_alloc HU6.out (by omega) _ | exact unAt_alloc (unAt_alloc HU6.out (by omega) _) (by simp; omega) _))
  clear u0 u1 u2
  obtain ⟨u0, u1, u2⟩ := HU7.out
  have hy7 : w.heap.size < w7.heap.size := by omega
  clear hb7
  have hBel := HB7.out
  obtain ⟨k0, k1, k2⟩ := HA7.out
  obtain ⟨l0, l1, l2⟩ := HBB7.out
  obtain ⟨m0, m1, m2⟩ := HV7.out
  obtain ⟨n0, n1, n2⟩ := HVV7.out
  obtain ⟨o0, o1, o2⟩ := HX7.out
  simp only at k0 k1 k2 l0 l1 l2 m0 m1 m2 n0 n1 n2 o0 o1 o2
  have g1 : unB a0 a1 a2 a0 a1 a2 = true := unB_same _ _ _
  have g2 : unB v0 v1 v2 v0 v1 v2 = true := unB_same _ _ _
  have g3 : unB x0 x1 x2 x0 x1 x2 = true := unB_same _ _ _
  clear u0 u1 u2
  clear q0 q1 q2 q3 q4 q5 q6 q7 q8 q9 q10 q11 q12 q13
  go_wp2
  all_goals first
    | (exfalso; omega)
    | (go_ret; exact ⟨rfl, by (repeat' (first | (with_reducible exact Below.refl _ _) | (with_reducible assumption) | (with_reducible refine Below.alloc ?_ ?_ _) | (with_reducible refine below_drewN ?_ _) | (with_reducible refine Below.drew ?_) | (with_reducible refine Below.setCell ?_ ?_ _) | (with_reducible refine Below.trans ?_ (Below.mono (by assumption) ?_)) | go_size | (simp at *; omega)))⟩)
    | (go_ret; exact ⟨ret_bool (by simp [unB]), by (repeat' (first | (with_reducible exact Below.refl _ _) | (with_reducible assumption) | (with_reducible refine Below.alloc ?_ ?_ _) | (with_reducible refine below_drewN ?_ _) | (with_reducible refine Below.drew ?_) | (with_reducible refine Below.setCell ?_ ?_ _) | (with_reducible refine Below.trans ?_ (Below.mono (by assumption) ?_)) | go_size | (simp at *; omega)))⟩)
theorem fdo_walk (c : Cal) (hn : c.name.size ≤ 9223372036854775807) (d lv : Int) (u : Un) (w : World) :
    Calls Tryz.prog 4 #[calV c, .int .i64 d, .int .i64 lv, unitV u] w fun e w' => e = .returned (.bool true) ∧ Below w.heap.size w w' := by
  by_cases h : 100 < c.name.size
  · exact fdo_long c d lv u w h hn
  · exact fdo_all c d lv u w (by omega)
end Go.Proofs.YtojdngkleiokgaaGreat
