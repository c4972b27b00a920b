/- The walk of CompEnds, fourth part. -/
import Derived.Test.YtpngdeegdkifnaaLawCEndsC
namespace Go.Proofs.Ytpngdeegdkifnaa
open Go.RowKit Qd
set_option linter.unusedSimpArgs false
set_option linter.unusedVariables false

set_option maxRecDepth 100000 in
set_option maxHeartbeats 3200000 in
theorem ce_3d (c : Cal) (y t at' : Int) (w : World) (hn : c.name.size ≤ 100) (hk6 : c.kind ≠ 6) (hy1 : c.first ≤ y) (hy2 : y ≤ c.last) (ht1 : c.first ≤ t) (ht2 : t ≤ c.last) (hk : c.okB = true) (hp : c.policy = 3) (hat : 0 ≤ at') (hat2 : at' ≤ endV c y - startV c y) (hE : cdE c (startV c y + at') (t - y) = 0) (hsh : c.shape = 4) :
    Calls Try.prog 3 #[calV c, .int .i64 y, .int .i64 t, .int .i64 at'] w fun e w' => e = .returned (.bool true) ∧ Below w.heap.size w w' := by
  have hkb := kind_b hk6
  have hpb1 : (c.policy == 1) = false := by simp [hp]
  have hpb2 : (c.policy == 2) = false := by simp [hp]
  have hpb3 : (c.policy == 3) = true := by simp [hp]
  have hshb : (c.shape == 4) = true := by simp [hsh]
  have hsy : srv c y := ⟨hy1, hy2⟩
  have hst : srv c t := ⟨ht1, ht2⟩
  obtain ⟨_, _, b1, b2, _⟩ := ok_years hk
  obtain ⟨ey, ay, wy1, wy2, ysb, yeb⟩ := yr_week hk hk6 hsy
  obtain ⟨et, at2, wt1, wt2, tsb, teb⟩ := yr_week hk hk6 hst
  have ha := serv_yes (c := c) (day := startV c y) (y := y) hk ⟨ay, Int.le_refl _, by omega⟩ hy1 hy2
  have hb := serv_yes (c := c) (day := endV c y) (y := y) hk ⟨ay, by omega, Int.le_refl _⟩ hy1 hy2
  have hyt : y + (t - y) = t := by omega
  have hdl : 0 ≤ endV c y - startV c y ∧ endV c y - startV c y ≤ 400 := by omega
  have HAY := hide ay
  have HAT := hide at2
  have HAY0 := hide (ask_mono ay)
  have HAT0 := hide (ask_mono at2)
  have hdv1 := cdv_bd (k := t - y) ha.1 hk6
  have hdv2 := cdv_bd (k := t - y) hb.1 hk6
  have hd := serv_yes (c := c) (day := startV c y + at') (y := y) hk ⟨ay, by omega, by omega⟩ hy1 hy2
  have hdv3 := cdv_bd (k := t - y) hd.1 hk6
  obtain ⟨i, j, e1, e2, e3, e4, e5, e6, e7, e8, e9⟩ := ends_drop hd.1 hk6 hp (by rw [hd.2, hyt]; exact hst) hE
  rw [hd.2] at e2 e3 e5 e6 e7
  rw [hyt] at e5 e6 e7
  have bU := sp_bdc e3
  have bW := sp_bdc e6
  have HE := hide hE
  have HF1 := hide (And.intro e1 (And.intro e2 e3))
  have HF2 := hide (And.intro e4 (And.intro e5 e6))
  generalize hDV : cdV c (startV c y + at') (t - y) = V at *
  have HDV := hide hDV
  clear hDV
  obtain ⟨S, hS⟩ : ∃ S, S = spV c ⟨4, y, (i : Int) + 1⟩ := ⟨_, rfl⟩
  obtain ⟨Q, hQ⟩ : ∃ Q, Q = spV c ⟨4, t, (j : Int) + 1⟩ := ⟨_, rfl⟩
  rw [← hS] at bU e7
  rw [← hQ] at bW e7
  have HS := hide hS
  have HQ := hide hQ
  obtain ⟨pa, pb⟩ := S
  obtain ⟨qa, qb⟩ := Q
  simp only at bU bW e7
  have E7 := hide e7
  clear hS hQ e1 e2 e3 e4 e5 e6 e7 hE hp hk hk6 hsy hst ay at2 ha hb hd wy1 wy2 wt1 wt2
  clear hsh
  generalize hSA : startV c y = sa at *
  generalize hSB : endV c y = sb at *
  generalize hTA : startV c t = ta at *
  generalize hTB : endV c t = tb at *
  have HSA := hide hSA
  have HSB := hide hSB
  have HTA := hide hTA
  have HTB := hide hTB
  clear hSA hSB hTA hTB
  have HEY := hide ey
  have HET := hide et
  clear ey et
  simp only [calV]
  go_enter Try.func3, Try.ntmps3
  go_wp2_with fail
  refine (live19_any _).mono ?_
  rintro e w1 ⟨rfl, hb1⟩
  have hz1 : w.heap.size < w1.heap.size := by have := hb1.size; simp at this; omega
  have HB1 := hide (show Below w.heap.size w w1 by refine Below.trans ?_ (hb1.mono (by first | omega | (simp; done) | (simp; omega))); (repeat' (first | (with_reducible exact Below.refl _ _) | (with_reducible assumption) | (with_reducible refine Below.alloc ?_ ?_ _) | (with_reducible refine below_drewN ?_ _) | (with_reducible refine Below.drew ?_) | (with_reducible refine Below.setCell ?_ ?_ _) | (with_reducible refine Below.trans ?_ (Below.mono (by assumption) ?_)) | go_size | (simp at *; omega))))
  have HQ1 := hide (calAt_below hb1 (by simp) (calAt_new w c))
  obtain ⟨q0, q1, q2, q3, q4, q5, q6, q7, q8, q9, q10, q11, q12, q13⟩ := HQ1.out
  clear hb1
  go_wp2_with fail
  all_goals first
    | (exfalso; omega)
    | skip
  refine (start_any c y _ (by omega)).mono ?_
  rintro e w2 ⟨rfl, hb2⟩
  rw [HAY.out, HSA.out]
  have hz2 : w.heap.size < w2.heap.size := by have := hb2.size; (try simp at this); omega
  have HB2 := hide (show Below w.heap.size w w2 by have hp := HB1.out; refine Below.trans ?_ (hb2.mono (by first | omega | (simp; done) | (simp; omega))); (repeat' (first | (with_reducible exact Below.refl _ _) | (with_reducible assumption) | (with_reducible refine Below.alloc ?_ ?_ _) | (with_reducible refine below_drewN ?_ _) | (with_reducible refine Below.drew ?_) | (with_reducible refine Below.setCell ?_ ?_ _) | (with_reducible refine Below.trans ?_ (Below.mono (by assumption) ?_)) | go_size | (simp at *; omega))))
  have HQ2 := hide (show CalAt w2 w.heap.size c from calAt_below hb2 (by first | omega | (simp; done) | (simp; omega)) (by first | exact HQ1.out | exact calAt_alloc HQ1.out (by omega) _ | exact calAt_alloc (calAt_alloc HQ1.out (by omega) _) (by simp; omega) _))
  clear q0 q1 q2 q3 q4 q5 q6 q7 q8 q9 q10 q11 q12 q13
  obtain ⟨q0, q1, q2, q3, q4, q5, q6, q7, q8, q9, q10, q11, q12, q13⟩ := HQ2.out
  clear hb2
  go_wp2_with fail
  all_goals first
    | (exfalso; omega)
    | skip
  refine (end_any c y _ (by omega)).mono ?_
  rintro e w3 ⟨rfl, hb3⟩
  rw [HAY0.out, HSB.out]
  have hz3 : w.heap.size < w3.heap.size := by have := hb3.size; (try simp at this); omega
  have HB3 := hide (show Below w.heap.size w w3 by have hp := HB2.out; refine Below.trans ?_ (hb3.mono (by first | omega | (simp; done) | (simp; omega))); (repeat' (first | (with_reducible exact Below.refl _ _) | (with_reducible assumption) | (with_reducible refine Below.alloc ?_ ?_ _) | (with_reducible refine below_drewN ?_ _) | (with_reducible refine Below.drew ?_) | (with_reducible refine Below.setCell ?_ ?_ _) | (with_reducible refine Below.trans ?_ (Below.mono (by assumption) ?_)) | go_size | (simp at *; omega))))
  have HQ3 := hide (show CalAt w3 w.heap.size c from calAt_below hb3 (by first | omega | (simp; done) | (simp; omega)) (by first | exact HQ2.out | exact calAt_alloc HQ2.out (by omega) _ | exact calAt_alloc (calAt_alloc HQ2.out (by omega) _) (by simp; omega) _))
  clear q0 q1 q2 q3 q4 q5 q6 q7 q8 q9 q10 q11 q12 q13
  obtain ⟨q0, q1, q2, q3, q4, q5, q6, q7, q8, q9, q10, q11, q12, q13⟩ := HQ3.out
  clear hb3
  go_wp2_with fail
  all_goals first
    | (exfalso; omega)
    | skip
  refine (start_any c t _ (by omega)).mono ?_
  rintro e w4 ⟨rfl, hb4⟩
  rw [HAT.out, HTA.out]
  have hz4 : w.heap.size < w4.heap.size := by have := hb4.size; (try simp at this); omega
  have HB4 := hide (show Below w.heap.size w w4 by have hp := HB3.out; refine Below.trans ?_ (hb4.mono (by first | omega | (simp; done) | (simp; omega))); (repeat' (first | (with_reducible exact Below.refl _ _) | (with_reducible assumption) | (with_reducible refine Below.alloc ?_ ?_ _) | (with_reducible refine below_drewN ?_ _) | (with_reducible refine Below.drew ?_) | (with_reducible refine Below.setCell ?_ ?_ _) | (with_reducible refine Below.trans ?_ (Below.mono (by assumption) ?_)) | go_size | (simp at *; omega))))
  have HQ4 := hide (show CalAt w4 w.heap.size c from calAt_below hb4 (by first | omega | (simp; done) | (simp; omega)) (by first | exact HQ3.out | exact calAt_alloc HQ3.out (by omega) _ | exact calAt_alloc (calAt_alloc HQ3.out (by omega) _) (by simp; omega) _))
  clear q0 q1 q2 q3 q4 q5 q6 q7 q8 q9 q10 q11 q12 q13
  obtain ⟨q0, q1, q2, q3, q4, q5, q6, q7, q8, q9, q10, q11, q12, q13⟩ := HQ4.out
  clear hb4
  go_wp2_with fail
  all_goals first
    | (exfalso; omega)
    | skip
  refine (end_any c t _ (by omega)).mono ?_
  rintro e w5 ⟨rfl, hb5⟩
  rw [HAT0.out, HTB.out]
  have hz5 : w.heap.size < w5.heap.size := by have := hb5.size; (try simp at this); omega
  have HB5 := hide (show Below w.heap.size w w5 by have hp := HB4.out; refine Below.trans ?_ (hb5.mono (by first | omega | (simp; done) | (simp; omega))); (repeat' (first | (with_reducible exact Below.refl _ _) | (with_reducible assumption) | (with_reducible refine Below.alloc ?_ ?_ _) | (with_reducible refine below_drewN ?_ _) | (with_reducible refine Below.drew ?_) | (with_reducible refine Below.setCell ?_ ?_ _) | (with_reducible refine Below.trans ?_ (Below.mono (by assumption) ?_)) | go_size | (simp at *; omega))))
  have HQ5 := hide (show CalAt w5 w.heap.size c from calAt_below hb5 (by first | omega | (simp; done) | (simp; omega)) (by first | exact HQ4.out | exact calAt_alloc HQ4.out (by omega) _ | exact calAt_alloc (calAt_alloc HQ4.out (by omega) _) (by simp; omega) _))
  clear q0 q1 q2 q3 q4 q5 q6 q7 q8 q9 q10 q11 q12 q13
  obtain ⟨q0, q1, q2, q3, q4, q5, q6, q7, q8, q9, q10, q11, q12, q13⟩ := HQ5.out
  clear hb5
  go_wp2_with fail
  all_goals first
    | (exfalso; omega)
    | skip
  refine (cday_any c sa (t - y) _ (by omega)).mono ?_
  rintro e w6 ⟨rfl, hb6⟩
  skip
  have hz6 : w.heap.size < w6.heap.size := by have := hb6.size; (try simp at this); omega
  have HB6 := hide (show Below w.heap.size w w6 by have hp := HB5.out; refine Below.trans ?_ (hb6.mono (by first | omega | (simp; done) | (simp; omega))); (repeat' (first | (with_reducible exact Below.refl _ _) | (with_reducible assumption) | (with_reducible refine Below.alloc ?_ ?_ _) | (with_reducible refine below_drewN ?_ _) | (with_reducible refine Below.drew ?_) | (with_reducible refine Below.setCell ?_ ?_ _) | (with_reducible refine Below.trans ?_ (Below.mono (by assumption) ?_)) | go_size | (simp at *; omega))))
  have HQ6 := hide (show CalAt w6 w.heap.size c from calAt_below hb6 (by first | omega | (simp; done) | (simp; omega)) (by first | exact HQ5.out | exact calAt_alloc HQ5.out (by omega) _ | exact calAt_alloc (calAt_alloc HQ5.out (by omega) _) (by simp; omega) _))
  clear q0 q1 q2 q3 q4 q5 q6 q7 q8 q9 q10 q11 q12 q13
  obtain ⟨q0, q1, q2, q3, q4, q5, q6, q7, q8, q9, q10, q11, q12, q13⟩ := HQ6.out
  clear hb6
  go_wp2_with fail
  all_goals first
    | (exfalso; omega)
    | skip
  refine (cday_any c sb (t - y) _ (by omega)).mono ?_
  rintro e w7 ⟨rfl, hb7⟩
  skip
  have hz7 : w.heap.size < w7.heap.size := by have := hb7.size; (try simp at this); omega
  have HB7 := hide (show Below w.heap.size w w7 by have hp := HB6.out; refine Below.trans ?_ (hb7.mono (by first | omega | (simp; done) | (simp; omega))); (repeat' (first | (with_reducible exact Below.refl _ _) | (with_reducible assumption) | (with_reducible refine Below.alloc ?_ ?_ _) | (with_reducible refine below_drewN ?_ _) | (with_reducible refine Below.drew ?_) | (with_reducible refine Below.setCell ?_ ?_ _) | (with_reducible refine Below.trans ?_ (Below.mono (by assumption) ?_)) | go_size | (simp at *; omega))))
  have HQ7 := hide (show CalAt w7 w.heap.size c from calAt_below hb7 (by first | omega | (simp; done) | (simp; omega)) (by first | exact HQ6.out | exact calAt_alloc HQ6.out (by omega) _ | exact calAt_alloc (calAt_alloc HQ6.out (by omega) _) (by simp; omega) _))
  clear q0 q1 q2 q3 q4 q5 q6 q7 q8 q9 q10 q11 q12 q13
  obtain ⟨q0, q1, q2, q3, q4, q5, q6, q7, q8, q9, q10, q11, q12, q13⟩ := HQ7.out
  clear hb7
  go_wp2_with fail
  all_goals first
    | (exfalso; omega)
    | skip
  refine (cday_any c (sa + at') (t - y) _ (by omega)).mono ?_
  rintro e w8 ⟨rfl, hb8⟩
  rw [HE.out, HDV.out]
  have hz8 : w.heap.size < w8.heap.size := by have := hb8.size; (try simp at this); omega
  have HB8 := hide (show Below w.heap.size w w8 by have hp := HB7.out; refine Below.trans ?_ (hb8.mono (by first | omega | (simp; done) | (simp; omega))); (repeat' (first | (with_reducible exact Below.refl _ _) | (with_reducible assumption) | (with_reducible refine Below.alloc ?_ ?_ _) | (with_reducible refine below_drewN ?_ _) | (with_reducible refine Below.drew ?_) | (with_reducible refine Below.setCell ?_ ?_ _) | (with_reducible refine Below.trans ?_ (Below.mono (by assumption) ?_)) | go_size | (simp at *; omega))))
  have HQ8 := hide (show CalAt w8 w.heap.size c from calAt_below hb8 (by first | omega | (simp; done) | (simp; omega)) (by first | exact HQ7.out | exact calAt_alloc HQ7.out (by omega) _ | exact calAt_alloc (calAt_alloc HQ7.out (by omega) _) (by simp; omega) _))
  clear q0 q1 q2 q3 q4 q5 q6 q7 q8 q9 q10 q11 q12 q13
  obtain ⟨q0, q1, q2, q3, q4, q5, q6, q7, q8, q9, q10, q11, q12, q13⟩ := HQ8.out
  clear hb8
  go_wp2_with fail
  all_goals first
    | (exfalso; omega)
    | skip
  refine (fday_any c (sa + at') 4 _ (by omega)).mono ?_
  rintro e w9 ⟨rfl, hb9⟩
  rw [HF1.out.1, HF1.out.2.1]
  simp only [unitV]
  have hz9 : w.heap.size < w9.heap.size := by have := hb9.size; (try simp at this); omega
  have HB9 := hide (show Below w.heap.size w w9 by have hp := HB8.out; refine Below.trans ?_ (hb9.mono (by first | omega | (simp; done) | (simp; omega))); (repeat' (first | (with_reducible exact Below.refl _ _) | (with_reducible assumption) | (with_reducible refine Below.alloc ?_ ?_ _) | (with_reducible refine below_drewN ?_ _) | (with_reducible refine Below.drew ?_) | (with_reducible refine Below.setCell ?_ ?_ _) | (with_reducible refine Below.trans ?_ (Below.mono (by assumption) ?_)) | go_size | (simp at *; omega))))
  have HQ9 := hide (show CalAt w9 w.heap.size c from calAt_below hb9 (by first | omega | (simp; done) | (simp; omega)) (by first | exact HQ8.out | exact calAt_alloc HQ8.out (by omega) _ | exact calAt_alloc (calAt_alloc HQ8.out (by omega) _) (by simp; omega) _))
  clear q0 q1 q2 q3 q4 q5 q6 q7 q8 q9 q10 q11 q12 q13
  obtain ⟨q0, q1, q2, q3, q4, q5, q6, q7, q8, q9, q10, q11, q12, q13⟩ := HQ9.out
  clear hb9
  go_wp2_with fail
  all_goals first
    | (exfalso; omega)
    | skip
  refine (fday_any c V 4 _ (by omega)).mono ?_
  rintro e w10 ⟨rfl, hb10⟩
  rw [HF2.out.1, HF2.out.2.1]
  simp only [unitV]
  have HU10 := hide (show UnAt w10 w9.heap.size ⟨4, y, (i : Int) + 1⟩ from unAt_below hb10 (by simp) (unAt_fresh w9 ⟨4, y, (i : Int) + 1⟩))
  have hU10 : w9.heap.size < w10.heap.size := by have := hb10.size; (try simp at this); omega
  have hz10 : w.heap.size < w10.heap.size := by have := hb10.size; (try simp at this); omega
  have HB10 := hide (show Below w.heap.size w w10 by have hp := HB9.out; refine Below.trans ?_ (hb10.mono (by first | omega | (simp; done) | (simp; omega))); (repeat' (first | (with_reducible exact Below.refl _ _) | (with_reducible assumption) | (with_reducible refine Below.alloc ?_ ?_ _) | (with_reducible refine below_drewN ?_ _) | (with_reducible refine Below.drew ?_) | (with_reducible refine Below.setCell ?_ ?_ _) | (with_reducible refine Below.trans ?_ (Below.mono (by assumption) ?_)) | go_size | (simp at *; omega))))
  have HQ10 := hide (show CalAt w10 w.heap.size c from calAt_below hb10 (by first | omega | (simp; done) | (simp; omega)) (by first | exact HQ9.out | exact calAt_alloc HQ9.out (by omega) _ | exact calAt_alloc (calAt_alloc HQ9.out (by omega) _) (by simp; omega) _))
  clear q0 q1 q2 q3 q4 q5 q6 q7 q8 q9 q10 q11 q12 q13
  obtain ⟨q0, q1, q2, q3, q4, q5, q6, q7, q8, q9, q10, q11, q12, q13⟩ := HQ10.out
  clear hb10
  obtain ⟨u0, u1, u2⟩ := HU10.out
  go_wp2_with fail
  all_goals first
    | (exfalso; omega)
    | skip
  refine (uspan_any c ⟨4, y, (i : Int) + 1⟩ _ (by omega)).mono ?_
  rintro e w11 ⟨rfl, hb11⟩
  rw [HF1.out.2.2, ← HS.out]
  simp only [spanV]
  clear u0 u1 u2
  have HU11 := hide (show UnAt w11 w9.heap.size ⟨4, y, (i : Int) + 1⟩ from unAt_below hb11 (by first | omega | (simp; done) | (simp; omega)) (by first | exact HU10.out | exact unAt_alloc HU10.out (by omega) _ | exact unAt_alloc (unAt_alloc HU10.out (by omega) _) (by simp; omega) _))
  have hU11 : w9.heap.size < w11.heap.size := by have := hb11.size; (try simp at this); omega
  have HV11 := hide (show UnAt w11 w10.heap.size ⟨4, t, (j : Int) + 1⟩ from unAt_below hb11 (by simp) (unAt_fresh w10 ⟨4, t, (j : Int) + 1⟩))
  have hV11 : w10.heap.size < w11.heap.size := by have := hb11.size; (try simp at this); omega
  have hz11 : w.heap.size < w11.heap.size := by have := hb11.size; (try simp at this); omega
  have HB11 := hide (show Below w.heap.size w w11 by have hp := HB10.out; refine Below.trans ?_ (hb11.mono (by first | omega | (simp; done) | (simp; omega))); (repeat' (first | (with_reducible exact Below.refl _ _) | (with_reducible assumption) | (with_reducible refine Below.alloc ?_ ?_ _) | (with_reducible refine below_drewN ?_ _) | (with_reducible refine Below.drew ?_) | (with_reducible refine Below.setCell ?_ ?_ _) | (with_reducible refine Below.trans ?_ (Below.mono (by assumption) ?_)) | go_size | (simp at *; omega))))
  have HQ11 := hide (show CalAt w11 w.heap.size c from calAt_below hb11 (by first | omega | (simp; done) | (simp; omega)) (by first | exact HQ10.out | exact calAt_alloc HQ10.out (by omega) _ | exact calAt_alloc (calAt_alloc HQ10.out (by omega) _) (by simp; omega) _))
  clear q0 q1 q2 q3 q4 q5 q6 q7 q8 q9 q10 q11 q12 q13
  obtain ⟨q0, q1, q2, q3, q4, q5, q6, q7, q8, q9, q10, q11, q12, q13⟩ := HQ11.out
  clear hb11
  obtain ⟨v0, v1, v2⟩ := HV11.out
  go_wp2_with fail
  all_goals first
    | (exfalso; omega)
    | skip
  refine (uspan_any c ⟨4, t, (j : Int) + 1⟩ _ (by omega)).mono ?_
  rintro e w12 ⟨rfl, hb12⟩
  rw [HF2.out.2.2, ← HQ.out]
  simp only [spanV]
  clear v0 v1 v2
  have HU12 := hide (show UnAt w12 w9.heap.size ⟨4, y, (i : Int) + 1⟩ from unAt_below hb12 (by first | omega | (simp; done) | (simp; omega)) (by first | exact HU11.out | exact unAt_alloc HU11.out (by omega) _ | exact unAt_alloc (unAt_alloc HU11.out (by omega) _) (by simp; omega) _))
  have hU12 : w9.heap.size < w12.heap.size := by have := hb12.size; (try simp at this); omega
  have HV12 := hide (show UnAt w12 w10.heap.size ⟨4, t, (j : Int) + 1⟩ from unAt_below hb12 (by first | omega | (simp; done) | (simp; omega)) (by first | exact HV11.out | exact unAt_alloc HV11.out (by omega) _ | exact unAt_alloc (unAt_alloc HV11.out (by omega) _) (by simp; omega) _))
  have hV12 : w10.heap.size < w12.heap.size := by have := hb12.size; (try simp at this); omega
  have HP12 := hide (show SpAt w12 w11.heap.size ⟨pa, pb⟩ from spAt_below hb12 (by simp) (spAt_fresh w11 ⟨pa, pb⟩))
  have hP12 : w11.heap.size < w12.heap.size := by have := hb12.size; (try simp at this); omega
  have hz12 : w.heap.size < w12.heap.size := by have := hb12.size; (try simp at this); omega
  have HB12 := hide (show Below w.heap.size w w12 by have hp := HB11.out; refine Below.trans ?_ (hb12.mono (by first | omega | (simp; done) | (simp; omega))); (repeat' (first | (with_reducible exact Below.refl _ _) | (with_reducible assumption) | (with_reducible refine Below.alloc ?_ ?_ _) | (with_reducible refine below_drewN ?_ _) | (with_reducible refine Below.drew ?_) | (with_reducible refine Below.setCell ?_ ?_ _) | (with_reducible refine Below.trans ?_ (Below.mono (by assumption) ?_)) | go_size | (simp at *; omega))))
  have HQ12 := hide (show CalAt w12 w.heap.size c from calAt_below hb12 (by first | omega | (simp; done) | (simp; omega)) (by first | exact HQ11.out | exact calAt_alloc HQ11.out (by omega) _ | exact calAt_alloc (calAt_alloc HQ11.out (by omega) _) (by simp; omega) _))
  clear q0 q1 q2 q3 q4 q5 q6 q7 q8 q9 q10 q11 q12 q13
  obtain ⟨q0, q1, q2, q3, q4, q5, q6, q7, q8, q9, q10, q11, q12, q13⟩ := HQ12.out
  clear hb12
  obtain ⟨u0, u1, u2⟩ := HU12.out
  obtain ⟨v0, v1, v2⟩ := HV12.out
  obtain ⟨p0, p1⟩ := HP12.out
  have hBel := HB12.out
  go_wp2
  all_goals first
    | (exfalso; omega)
    | (go_ret; exact ⟨ret_bool (by simp), by (repeat' (first | (with_reducible exact Below.refl _ _) | (with_reducible assumption) | (with_reducible refine Below.alloc ?_ ?_ _) | (with_reducible refine below_drewN ?_ _) | (with_reducible refine Below.drew ?_) | (with_reducible refine Below.setCell ?_ ?_ _) | (with_reducible refine Below.trans ?_ (Below.mono (by assumption) ?_)) | go_size | (simp at *; omega)))⟩)
    | (go_ret; exact ⟨ret_bool (by simp; omega), by (repeat' (first | (with_reducible exact Below.refl _ _) | (with_reducible assumption) | (with_reducible refine Below.alloc ?_ ?_ _) | (with_reducible refine below_drewN ?_ _) | (with_reducible refine Below.drew ?_) | (with_reducible refine Below.setCell ?_ ?_ _) | (with_reducible refine Below.trans ?_ (Below.mono (by assumption) ?_)) | go_size | (simp at *; omega)))⟩)

set_option maxRecDepth 100000 in
set_option maxHeartbeats 3200000 in
theorem ce_3e (c : Cal) (y t at' : Int) (w : World) (hn : c.name.size ≤ 100) (hk6 : c.kind ≠ 6) (hy1 : c.first ≤ y) (hy2 : y ≤ c.last) (ht1 : c.first ≤ t) (ht2 : t ≤ c.last) (hk : c.okB = true) (hp : c.policy = 3) (hat : 0 ≤ at') (hat2 : at' ≤ endV c y - startV c y) (hE : cdE c (startV c y + at') (t - y) = 0) (hsh : c.shape ≠ 4) :
    Calls Try.prog 3 #[calV c, .int .i64 y, .int .i64 t, .int .i64 at'] w fun e w' => e = .returned (.bool true) ∧ Below w.heap.size w w' := by
  have hkb := kind_b hk6
  have hpb1 : (c.policy == 1) = false := by simp [hp]
  have hpb2 : (c.policy == 2) = false := by simp [hp]
  have hpb3 : (c.policy == 3) = true := by simp [hp]
  have hshb : (c.shape == 4) = false := by simpa using hsh
  have hsy : srv c y := ⟨hy1, hy2⟩
  have hst : srv c t := ⟨ht1, ht2⟩
  obtain ⟨_, _, b1, b2, _⟩ := ok_years hk
  obtain ⟨ey, ay, wy1, wy2, ysb, yeb⟩ := yr_week hk hk6 hsy
  obtain ⟨et, at2, wt1, wt2, tsb, teb⟩ := yr_week hk hk6 hst
  have ha := serv_yes (c := c) (day := startV c y) (y := y) hk ⟨ay, Int.le_refl _, by omega⟩ hy1 hy2
  have hb := serv_yes (c := c) (day := endV c y) (y := y) hk ⟨ay, by omega, Int.le_refl _⟩ hy1 hy2
  have hyt : y + (t - y) = t := by omega
  have hdl : 0 ≤ endV c y - startV c y ∧ endV c y - startV c y ≤ 400 := by omega
  have HAY := hide ay
  have HAT := hide at2
  have HAY0 := hide (ask_mono ay)
  have HAT0 := hide (ask_mono at2)
  have hdv1 := cdv_bd (k := t - y) ha.1 hk6
  have hdv2 := cdv_bd (k := t - y) hb.1 hk6
  have hd := serv_yes (c := c) (day := startV c y + at') (y := y) hk ⟨ay, by omega, by omega⟩ hy1 hy2
  have hdv3 := cdv_bd (k := t - y) hd.1 hk6
  obtain ⟨i, j, e1, e2, e3, e4, e5, e6, e7, e8, e9⟩ := ends_drop hd.1 hk6 hp (by rw [hd.2, hyt]; exact hst) hE
  rw [hd.2] at e2 e3 e5 e6 e7
  rw [hyt] at e5 e6 e7
  have bU := sp_bdc e3
  have bW := sp_bdc e6
  have HE := hide hE
  have HF1 := hide (And.intro e1 (And.intro e2 e3))
  have HF2 := hide (And.intro e4 (And.intro e5 e6))
  generalize hDV : cdV c (startV c y + at') (t - y) = V at *
  have HDV := hide hDV
  clear hDV
  obtain ⟨S, hS⟩ : ∃ S, S = spV c ⟨4, y, (i : Int) + 1⟩ := ⟨_, rfl⟩
  obtain ⟨Q, hQ⟩ : ∃ Q, Q = spV c ⟨4, t, (j : Int) + 1⟩ := ⟨_, rfl⟩
  rw [← hS] at bU e7
  rw [← hQ] at bW e7
  have HS := hide hS
  have HQ := hide hQ
  obtain ⟨pa, pb⟩ := S
  obtain ⟨qa, qb⟩ := Q
  simp only at bU bW e7
  have E7 := hide e7
  clear hS hQ e1 e2 e3 e4 e5 e6 e7 hE hp hk hk6 hsy hst ay at2 ha hb hd wy1 wy2 wt1 wt2
  obtain ⟨rfl, e7⟩ := (show i = j ∧ _ from E7.out.resolve_left hsh)
  have E8 := hide e7
  clear e7 E7
  clear hsh
  generalize hSA : startV c y = sa at *
  generalize hSB : endV c y = sb at *
  generalize hTA : startV c t = ta at *
  generalize hTB : endV c t = tb at *
  have HSA := hide hSA
  have HSB := hide hSB
  have HTA := hide hTA
  have HTB := hide hTB
  clear hSA hSB hTA hTB
  have HEY := hide ey
  have HET := hide et
  clear ey et
  simp only [calV]
  go_enter Try.func3, Try.ntmps3
  go_wp2_with fail
  refine (live19_any _).mono ?_
  rintro e w1 ⟨rfl, hb1⟩
  have hz1 : w.heap.size < w1.heap.size := by have := hb1.size; simp at this; omega
  have HB1 := hide (show Below w.heap.size w w1 by refine Below.trans ?_ (hb1.mono (by first | omega | (simp; done) | (simp; omega))); (repeat' (first | (with_reducible exact Below.refl _ _) | (with_reducible assumption) | (with_reducible refine Below.alloc ?_ ?_ _) | (with_reducible refine below_drewN ?_ _) | (with_reducible refine Below.drew ?_) | (with_reducible refine Below.setCell ?_ ?_ _) | (with_reducible refine Below.trans ?_ (Below.mono (by assumption) ?_)) | go_size | (simp at *; omega))))
  have HQ1 := hide (calAt_below hb1 (by simp) (calAt_new w c))
  obtain ⟨q0, q1, q2, q3, q4, q5, q6, q7, q8, q9, q10, q11, q12, q13⟩ := HQ1.out
  clear hb1
  go_wp2_with fail
  all_goals first
    | (exfalso; omega)
    | skip
  refine (start_any c y _ (by omega)).mono ?_
  rintro e w2 ⟨rfl, hb2⟩
  rw [HAY.out, HSA.out]
  have hz2 : w.heap.size < w2.heap.size := by have := hb2.size; (try simp at this); omega
  have HB2 := hide (show Below w.heap.size w w2 by have hp := HB1.out; refine Below.trans ?_ (hb2.mono (by first | omega | (simp; done) | (simp; omega))); (repeat' (first | (with_reducible exact Below.refl _ _) | (with_reducible assumption) | (with_reducible refine Below.alloc ?_ ?_ _) | (with_reducible refine below_drewN ?_ _) | (with_reducible refine Below.drew ?_) | (with_reducible refine Below.setCell ?_ ?_ _) | (with_reducible refine Below.trans ?_ (Below.mono (by assumption) ?_)) | go_size | (simp at *; omega))))
  have HQ2 := hide (show CalAt w2 w.heap.size c from calAt_below hb2 (by first | omega | (simp; done) | (simp; omega)) (by first | exact HQ1.out | exact calAt_alloc HQ1.out (by omega) _ | exact calAt_alloc (calAt_alloc HQ1.out (by omega) _) (by simp; omega) _))
  clear q0 q1 q2 q3 q4 q5 q6 q7 q8 q9 q10 q11 q12 q13
  obtain ⟨q0, q1, q2, q3, q4, q5, q6, q7, q8, q9, q10, q11, q12, q13⟩ := HQ2.out
  clear hb2
  go_wp2_with fail
  all_goals first
    | (exfalso; omega)
    | skip
  refine (end_any c y _ (by omega)).mono ?_
  rintro e w3 ⟨rfl, hb3⟩
  rw [HAY0.out, HSB.out]
  have hz3 : w.heap.size < w3.heap.size := by have := hb3.size; (try simp at this); omega
  have HB3 := hide (show Below w.heap.size w w3 by have hp := HB2.out; refine Below.trans ?_ (hb3.mono (by first | omega | (simp; done) | (simp; omega))); (repeat' (first | (with_reducible exact Below.refl _ _) | (with_reducible assumption) | (with_reducible refine Below.alloc ?_ ?_ _) | (with_reducible refine below_drewN ?_ _) | (with_reducible refine Below.drew ?_) | (with_reducible refine Below.setCell ?_ ?_ _) | (with_reducible refine Below.trans ?_ (Below.mono (by assumption) ?_)) | go_size | (simp at *; omega))))
  have HQ3 := hide (show CalAt w3 w.heap.size c from calAt_below hb3 (by first | omega | (simp; done) | (simp; omega)) (by first | exact HQ2.out | exact calAt_alloc HQ2.out (by omega) _ | exact calAt_alloc (calAt_alloc HQ2.out (by omega) _) (by simp; omega) _))
  clear q0 q1 q2 q3 q4 q5 q6 q7 q8 q9 q10 q11 q12 q13
  obtain ⟨q0, q1, q2, q3, q4, q5, q6, q7, q8, q9, q10, q11, q12, q13⟩ := HQ3.out
  clear hb3
  go_wp2_with fail
  all_goals first
    | (exfalso; omega)
    | skip
  refine (start_any c t _ (by omega)).mono ?_
  rintro e w4 ⟨rfl, hb4⟩
  rw [HAT.out, HTA.out]
  have hz4 : w.heap.size < w4.heap.size := by have := hb4.size; (try simp at this); omega
  have HB4 := hide (show Below w.heap.size w w4 by have hp := HB3.out; refine Below.trans ?_ (hb4.mono (by first | omega | (simp; done) | (simp; omega))); (repeat' (first | (with_reducible exact Below.refl _ _) | (with_reducible assumption) | (with_reducible refine Below.alloc ?_ ?_ _) | (with_reducible refine below_drewN ?_ _) | (with_reducible refine Below.drew ?_) | (with_reducible refine Below.setCell ?_ ?_ _) | (with_reducible refine Below.trans ?_ (Below.mono (by assumption) ?_)) | go_size | (simp at *; omega))))
  have HQ4 := hide (show CalAt w4 w.heap.size c from calAt_below hb4 (by first | omega | (simp; done) | (simp; omega)) (by first | exact HQ3.out | exact calAt_alloc HQ3.out (by omega) _ | exact calAt_alloc (calAt_alloc HQ3.out (by omega) _) (by simp; omega) _))
  clear q0 q1 q2 q3 q4 q5 q6 q7 q8 q9 q10 q11 q12 q13
  obtain ⟨q0, q1, q2, q3, q4, q5, q6, q7, q8, q9, q10, q11, q12, q13⟩ := HQ4.out
  clear hb4
  go_wp2_with fail
  all_goals first
    | (exfalso; omega)
    | skip
  refine (end_any c t _ (by omega)).mono ?_
  rintro e w5 ⟨rfl, hb5⟩
  rw [HAT0.out, HTB.out]
  have hz5 : w.heap.size < w5.heap.size := by have := hb5.size; (try simp at this); omega
  have HB5 := hide (show Below w.heap.size w w5 by have hp := HB4.out; refine Below.trans ?_ (hb5.mono (by first | omega | (simp; done) | (simp; omega))); (repeat' (first | (with_reducible exact Below.refl _ _) | (with_reducible assumption) | (with_reducible refine Below.alloc ?_ ?_ _) | (with_reducible refine below_drewN ?_ _) | (with_reducible refine Below.drew ?_) | (with_reducible refine Below.setCell ?_ ?_ _) | (with_reducible refine Below.trans ?_ (Below.mono (by assumption) ?_)) | go_size | (simp at *; omega))))
  have HQ5 := hide (show CalAt w5 w.heap.size c from calAt_below hb5 (by first | omega | (simp; done) | (simp; omega)) (by first | exact HQ4.out | exact calAt_alloc HQ4.out (by omega) _ | exact calAt_alloc (calAt_alloc HQ4.out (by omega) _) (by simp; omega) _))
  clear q0 q1 q2 q3 q4 q5 q6 q7 q8 q9 q10 q11 q12 q13
  obtain ⟨q0, q1, q2, q3, q4, q5, q6, q7, q8, q9, q10, q11, q12, q13⟩ := HQ5.out
  clear hb5
  go_wp2_with fail
  all_goals first
    | (exfalso; omega)
    | skip
  refine (cday_any c sa (t - y) _ (by omega)).mono ?_
  rintro e w6 ⟨rfl, hb6⟩
  skip
  have hz6 : w.heap.size < w6.heap.size := by have := hb6.size; (try simp at this); omega
  have HB6 := hide (show Below w.heap.size w w6 by have hp := HB5.out; refine Below.trans ?_ (hb6.mono (by first | omega | (simp; done) | (simp; omega))); (repeat' (first | (with_reducible exact Below.refl _ _) | (with_reducible assumption) | (with_reducible refine Below.alloc ?_ ?_ _) | (with_reducible refine below_drewN ?_ _) | (with_reducible refine Below.drew ?_) | (with_reducible refine Below.setCell ?_ ?_ _) | (with_reducible refine Below.trans ?_ (Below.mono (by assumption) ?_)) | go_size | (simp at *; omega))))
  have HQ6 := hide (show CalAt w6 w.heap.size c from calAt_below hb6 (by first | omega | (simp; done) | (simp; omega)) (by first | exact HQ5.out | exact calAt_alloc HQ5.out (by omega) _ | exact calAt_alloc (calAt_alloc HQ5.out (by omega) _) (by simp; omega) _))
  clear q0 q1 q2 q3 q4 q5 q6 q7 q8 q9 q10 q11 q12 q13
  obtain ⟨q0, q1, q2, q3, q4, q5, q6, q7, q8, q9, q10, q11, q12, q13⟩ := HQ6.out
  clear hb6
  go_wp2_with fail
  all_goals first
    | (exfalso; omega)
    | skip
  refine (cday_any c sb (t - y) _ (by omega)).mono ?_
  rintro e w7 ⟨rfl, hb7⟩
  skip
  have hz7 : w.heap.size < w7.heap.size := by have := hb7.size; (try simp at this); omega
  have HB7 := hide (show Below w.heap.size w w7 by have hp := HB6.out; refine Below.trans ?_ (hb7.mono (by first | omega | (simp; done) | (simp; omega))); (repeat' (first | (with_reducible exact Below.refl _ _) | (with_reducible assumption) | (with_reducible refine Below.alloc ?_ ?_ _) | (with_reducible refine below_drewN ?_ _) | (with_reducible refine Below.drew ?_) | (with_reducible refine Below.setCell ?_ ?_ _) | (with_reducible refine Below.trans ?_ (Below.mono (by assumption) ?_)) | go_size | (simp at *; omega))))
  have HQ7 := hide (show CalAt w7 w.heap.size c from calAt_below hb7 (by first | omega | (simp; done) | (simp; omega)) (by first | exact HQ6.out | exact calAt_alloc HQ6.out (by omega) _ | exact calAt_alloc (calAt_alloc HQ6.out (by omega) _) (by simp; omega) _))
  clear q0 q1 q2 q3 q4 q5 q6 q7 q8 q9 q10 q11 q12 q13
  obtain ⟨q0, q1, q2, q3, q4, q5, q6, q7, q8, q9, q10, q11, q12, q13⟩ := HQ7.out
  clear hb7
  go_wp2_with fail
  all_goals first
    | (exfalso; omega)
    | skip
  refine (cday_any c (sa + at') (t - y) _ (by omega)).mono ?_
  rintro e w8 ⟨rfl, hb8⟩
  rw [HE.out, HDV.out]
  have hz8 : w.heap.size < w8.heap.size := by have := hb8.size; (try simp at this); omega
  have HB8 := hide (show Below w.heap.size w w8 by have hp := HB7.out; refine Below.trans ?_ (hb8.mono (by first | omega | (simp; done) | (simp; omega))); (repeat' (first | (with_reducible exact Below.refl _ _) | (with_reducible assumption) | (with_reducible refine Below.alloc ?_ ?_ _) | (with_reducible refine below_drewN ?_ _) | (with_reducible refine Below.drew ?_) | (with_reducible refine Below.setCell ?_ ?_ _) | (with_reducible refine Below.trans ?_ (Below.mono (by assumption) ?_)) | go_size | (simp at *; omega))))
  have HQ8 := hide (show CalAt w8 w.heap.size c from calAt_below hb8 (by first | omega | (simp; done) | (simp; omega)) (by first | exact HQ7.out | exact calAt_alloc HQ7.out (by omega) _ | exact calAt_alloc (calAt_alloc HQ7.out (by omega) _) (by simp; omega) _))
  clear q0 q1 q2 q3 q4 q5 q6 q7 q8 q9 q10 q11 q12 q13
  obtain ⟨q0, q1, q2, q3, q4, q5, q6, q7, q8, q9, q10, q11, q12, q13⟩ := HQ8.out
  clear hb8
  go_wp2_with fail
  all_goals first
    | (exfalso; omega)
    | skip
  refine (fday_any c (sa + at') 4 _ (by omega)).mono ?_
  rintro e w9 ⟨rfl, hb9⟩
  rw [HF1.out.1, HF1.out.2.1]
  simp only [unitV]
  have hz9 : w.heap.size < w9.heap.size := by have := hb9.size; (try simp at this); omega
  have HB9 := hide (show Below w.heap.size w w9 by have hp := HB8.out; refine Below.trans ?_ (hb9.mono (by first | omega | (simp; done) | (simp; omega))); (repeat' (first | (with_reducible exact Below.refl _ _) | (with_reducible assumption) | (with_reducible refine Below.alloc ?_ ?_ _) | (with_reducible refine below_drewN ?_ _) | (with_reducible refine Below.drew ?_) | (with_reducible refine Below.setCell ?_ ?_ _) | (with_reducible refine Below.trans ?_ (Below.mono (by assumption) ?_)) | go_size | (simp at *; omega))))
  have HQ9 := hide (show CalAt w9 w.heap.size c from calAt_below hb9 (by first | omega | (simp; done) | (simp; omega)) (by first | exact HQ8.out | exact calAt_alloc HQ8.out (by omega) _ | exact calAt_alloc (calAt_alloc HQ8.out (by omega) _) (by simp; omega) _))
  clear q0 q1 q2 q3 q4 q5 q6 q7 q8 q9 q10 q11 q12 q13
  obtain ⟨q0, q1, q2, q3, q4, q5, q6, q7, q8, q9, q10, q11, q12, q13⟩ := HQ9.out
  clear hb9
  go_wp2_with fail
  all_goals first
    | (exfalso; omega)
    | skip
  refine (fday_any c V 4 _ (by omega)).mono ?_
  rintro e w10 ⟨rfl, hb10⟩
  rw [HF2.out.1, HF2.out.2.1]
  simp only [unitV]
  have HU10 := hide (show UnAt w10 w9.heap.size ⟨4, y, (i : Int) + 1⟩ from unAt_below hb10 (by simp) (unAt_fresh w9 ⟨4, y, (i : Int) + 1⟩))
  have hU10 : w9.heap.size < w10.heap.size := by have := hb10.size; (try simp at this); omega
  have hz10 : w.heap.size < w10.heap.size := by have := hb10.size; (try simp at this); omega
  have HB10 := hide (show Below w.heap.size w w10 by have hp := HB9.out; refine Below.trans ?_ (hb10.mono (by first | omega | (simp; done) | (simp; omega))); (repeat' (first | (with_reducible exact Below.refl _ _) | (with_reducible assumption) | (with_reducible refine Below.alloc ?_ ?_ _) | (with_reducible refine below_drewN ?_ _) | (with_reducible refine Below.drew ?_) | (with_reducible refine Below.setCell ?_ ?_ _) | (with_reducible refine Below.trans ?_ (Below.mono (by assumption) ?_)) | go_size | (simp at *; omega))))
  have HQ10 := hide (show CalAt w10 w.heap.size c from calAt_below hb10 (by first | omega | (simp; done) | (simp; omega)) (by first | exact HQ9.out | exact calAt_alloc HQ9.out (by omega) _ | exact calAt_alloc (calAt_alloc HQ9.out (by omega) _) (by simp; omega) _))
  clear q0 q1 q2 q3 q4 q5 q6 q7 q8 q9 q10 q11 q12 q13
  obtain ⟨q0, q1, q2, q3, q4, q5, q6, q7, q8, q9, q10, q11, q12, q13⟩ := HQ10.out
  clear hb10
  obtain ⟨u0, u1, u2⟩ := HU10.out
  go_wp2_with fail
  all_goals first
    | (exfalso; omega)
    | skip
  refine (uspan_any c ⟨4, y, (i : Int) + 1⟩ _ (by omega)).mono ?_
  rintro e w11 ⟨rfl, hb11⟩
  rw [HF1.out.2.2, ← HS.out]
  simp only [spanV]
  clear u0 u1 u2
  have HU11 := hide (show UnAt w11 w9.heap.size ⟨4, y, (i : Int) + 1⟩ from unAt_below hb11 (by first | omega | (simp; done) | (simp; omega)) (by first | exact HU10.out | exact unAt_alloc HU10.out (by omega) _ | exact unAt_alloc (unAt_alloc HU10.out (by omega) _) (by simp; omega) _))
  have hU11 : w9.heap.size < w11.heap.size := by have := hb11.size; (try simp at this); omega
  have HV11 := hide (show UnAt w11 w10.heap.size ⟨4, t, (i : Int) + 1⟩ from unAt_below hb11 (by simp) (unAt_fresh w10 ⟨4, t, (i : Int) + 1⟩))
  have hV11 : w10.heap.size < w11.heap.size := by have := hb11.size; (try simp at this); omega
  have hz11 : w.heap.size < w11.heap.size := by have := hb11.size; (try simp at this); omega
  have HB11 := hide (show Below w.heap.size w w11 by have hp := HB10.out; refine Below.trans ?_ (hb11.mono (by first | omega | (simp; done) | (simp; omega))); (repeat' (first | (with_reducible exact Below.refl _ _) | (with_reducible assumption) | (with_reducible refine Below.alloc ?_ ?_ _) | (with_reducible refine below_drewN ?_ _) | (with_reducible refine Below.drew ?_) | (with_reducible refine Below.setCell ?_ ?_ _) | (with_reducible refine Below.trans ?_ (Below.mono (by assumption) ?_)) | go_size | (simp at *; omega))))
  have HQ11 := hide (show CalAt w11 w.heap.size c from calAt_below hb11 (by first | omega | (simp; done) | (simp; omega)) (by first | exact HQ10.out | exact calAt_alloc HQ10.out (by omega) _ | exact calAt_alloc (calAt_alloc HQ10.out (by omega) _) (by simp; omega) _))
  clear q0 q1 q2 q3 q4 q5 q6 q7 q8 q9 q10 q11 q12 q13
  obtain ⟨q0, q1, q2, q3, q4, q5, q6, q7, q8, q9, q10, q11, q12, q13⟩ := HQ11.out
  clear hb11
  obtain ⟨v0, v1, v2⟩ := HV11.out
  go_wp2_with fail
  all_goals first
    | (exfalso; omega)
    | skip
  refine (uspan_any c ⟨4, t, (i : Int) + 1⟩ _ (by omega)).mono ?_
  rintro e w12 ⟨rfl, hb12⟩
  rw [HF2.out.2.2, ← HQ.out]
  simp only [spanV]
  clear v0 v1 v2
  have HU12 := hide (show UnAt w12 w9.heap.size ⟨4, y, (i : Int) + 1⟩ from unAt_below hb12 (by first | omega | (simp; done) | (simp; omega)) (by first | exact HU11.out | exact unAt_alloc HU11.out (by omega) _ | exact unAt_alloc (unAt_alloc HU11.out (by omega) _) (by simp; omega) _))
  have hU12 : w9.heap.size < w12.heap.size := by have := hb12.size; (try simp at this); omega
  have HV12 := hide (show UnAt w12 w10.heap.size ⟨4, t, (i : Int) + 1⟩ from unAt_below hb12 (by first | omega | (simp; done) | (simp; omega)) (by first | exact HV11.out | exact unAt_alloc HV11.out (by omega) _ | exact unAt_alloc (unAt_alloc HV11.out (by omega) _) (by simp; omega) _))
  have hV12 : w10.heap.size < w12.heap.size := by have := hb12.size; (try simp at this); omega
  have HP12 := hide (show SpAt w12 w11.heap.size ⟨pa, pb⟩ from spAt_below hb12 (by simp) (spAt_fresh w11 ⟨pa, pb⟩))
  have hP12 : w11.heap.size < w12.heap.size := by have := hb12.size; (try simp at this); omega
  have hz12 : w.heap.size < w12.heap.size := by have := hb12.size; (try simp at this); omega
  have HB12 := hide (show Below w.heap.size w w12 by have hp := HB11.out; refine Below.trans ?_ (hb12.mono (by first | omega | (simp; done) | (simp; omega))); (repeat' (first | (with_reducible exact Below.refl _ _) | (with_reducible assumption) | (with_reducible refine Below.alloc ?_ ?_ _) | (with_reducible refine below_drewN ?_ _) | (with_reducible refine Below.drew ?_) | (with_reducible refine Below.setCell ?_ ?_ _) | (with_reducible refine Below.trans ?_ (Below.mono (by assumption) ?_)) | go_size | (simp at *; omega))))
  have HQ12 := hide (show CalAt w12 w.heap.size c from calAt_below hb12 (by first | omega | (simp; done) | (simp; omega)) (by first | exact HQ11.out | exact calAt_alloc HQ11.out (by omega) _ | exact calAt_alloc (calAt_alloc HQ11.out (by omega) _) (by simp; omega) _))
  clear q0 q1 q2 q3 q4 q5 q6 q7 q8 q9 q10 q11 q12 q13
  obtain ⟨q0, q1, q2, q3, q4, q5, q6, q7, q8, q9, q10, q11, q12, q13⟩ := HQ12.out
  clear hb12
  obtain ⟨u0, u1, u2⟩ := HU12.out
  obtain ⟨v0, v1, v2⟩ := HV12.out
  obtain ⟨p0, p1⟩ := HP12.out
  have e8 := E8.out
  have hBel := HB12.out
  go_wp2
  all_goals first
    | (exfalso; omega)
    | (go_ret; exact ⟨ret_bool (by simp), by (repeat' (first | (with_reducible exact Below.refl _ _) | (with_reducible assumption) | (with_reducible refine Below.alloc ?_ ?_ _) | (with_reducible refine below_drewN ?_ _) | (with_reducible refine Below.drew ?_) | (with_reducible refine Below.setCell ?_ ?_ _) | (with_reducible refine Below.trans ?_ (Below.mono (by assumption) ?_)) | go_size | (simp at *; omega)))⟩)
    | (go_ret; exact ⟨ret_bool (by simp; omega), by (repeat' (first | (with_reducible exact Below.refl _ _) | (with_reducible assumption) | (with_reducible refine Below.alloc ?_ ?_ _) | (with_reducible refine below_drewN ?_ _) | (with_reducible refine Below.drew ?_) | (with_reducible refine Below.setCell ?_ ?_ _) | (with_reducible refine Below.trans ?_ (Below.mono (by assumption) ?_)) | go_size | (simp at *; omega)))⟩)

theorem ce_walk (c : Cal) (hn : c.name.size ≤ 9223372036854775807) (y t at' : Int) (w : World) :
    Calls Try.prog 3 #[calV c, .int .i64 y, .int .i64 t, .int .i64 at'] w fun e w' => e = .returned (.bool true) ∧ Below w.heap.size w w' := by
  by_cases h : 100 < c.name.size
  · exact ce_long c y t at' w h hn
  · have h' : c.name.size ≤ 100 := by omega
    by_cases hk6 : c.kind = 6
    · exact ce_triv c y t at' w h' (Or.inl hk6)
    · by_cases g : c.first ≤ y ∧ y ≤ c.last ∧ c.first ≤ t ∧ t ≤ c.last
      · obtain ⟨y1, y2, t1, t2⟩ := g
        cases hk : c.okB
        · exact ce_bad c y t at' w h' hk6 y1 y2 t1 t2 hk
        · rcases ok_pol hk hk6 with hp | hp | hp
          · exact ce_1 c y t at' w h' hk6 y1 y2 t1 t2 hk hp
          · exact ce_2 c y t at' w h' hk6 y1 y2 t1 t2 hk hp
          · by_cases ha : 0 ≤ at'
            · by_cases hb : at' ≤ endV c y - startV c y
              · by_cases hE : cdE c (startV c y + at') (t - y) = 0
                · by_cases hsh : c.shape = 4
                  · exact ce_3d c y t at' w h' hk6 y1 y2 t1 t2 hk hp ha hb hE hsh
                  · exact ce_3e c y t at' w h' hk6 y1 y2 t1 t2 hk hp ha hb hE hsh
                · exact ce_3c c y t at' w h' hk6 y1 y2 t1 t2 hk hp ha hb hE
              · exact ce_3b c y t at' w h' hk6 y1 y2 t1 t2 hk hp ha (by omega)
            · exact ce_3a c y t at' w h' hk6 y1 y2 t1 t2 hk hp (by omega)
      · refine ce_triv c y t at' w h' ?_
        rcases (show y < c.first ∨ (c.first ≤ y ∧ c.last < y) ∨ (c.first ≤ y ∧ y ≤ c.last ∧ t < c.first) ∨ (c.first ≤ y ∧ y ≤ c.last ∧ c.first ≤ t ∧ c.last < t) by omega) with r | r | r | r
        · exact Or.inr (Or.inl ⟨hk6, r⟩)
        · exact Or.inr (Or.inr (Or.inl ⟨hk6, r⟩))
        · exact Or.inr (Or.inr (Or.inr (Or.inl ⟨hk6, r⟩)))
        · exact Or.inr (Or.inr (Or.inr (Or.inr ⟨hk6, r⟩)))
end Go.Proofs.Ytpngdeegdkifnaa
