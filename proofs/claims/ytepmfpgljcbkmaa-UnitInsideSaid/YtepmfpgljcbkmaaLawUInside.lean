/- The walk of UnitInside. -/
import Derived.Test.YtepmfpgljcbkmaaLawUCover
namespace Go.Proofs.Ytepmfpgljcbkmaa
open Go.RowKit Qd
set_option linter.unusedSimpArgs false
set_option linter.unusedVariables false

set_option maxRecDepth 100000 in
set_option maxHeartbeats 1600000 in
theorem uin_long (c : Cal) (u : Un) (lv : Int) (w : World) (hn : 100 < c.name.size) (hm : c.name.size ≤ 9223372036854775807) :
    Calls Try.prog 5 #[calV c, unitV u, .int .i64 lv] w fun e w' => e = .returned (.bool true) ∧ Below w.heap.size w w' := by
  simp only [calV, unitV]
  go_enter Try.func5, Try.ntmps5
  go_wp2_with fail
  refine (live16_any _).mono ?_
  rintro e w1 ⟨rfl, hb1⟩
  have hz1 : w.heap.size + 1 < w1.heap.size := by have := hb1.size; simp at this; omega
  have HB1 := hide (show Below w.heap.size w w1 by refine Below.trans ?_ (hb1.mono (by first | omega | (simp; done) | (simp; omega))); (repeat' (first | (with_reducible exact Below.refl _ _) | (with_reducible assumption) | (with_reducible refine Below.alloc ?_ ?_ _) | (with_reducible refine below_drewN ?_ _) | (with_reducible refine Below.drew ?_) | (with_reducible refine Below.setCell ?_ ?_ _) | (with_reducible refine Below.trans ?_ (Below.mono (by assumption) ?_)) | go_size | (simp at *; omega))))
  have HQ1 := hide (calAt_below hb1 (by simp; omega) (calAt_alloc (calAt_new w c) (by simp) _))
  have HU1 := hide (unAt_below hb1 (by simp) (unAt_new w c u))
  obtain ⟨q0, q1, q2, q3, q4, q5, q6, q7, q8, q9, q10, q11, q12, q13⟩ := HQ1.out
  obtain ⟨u0, u1, u2⟩ := HU1.out
  have hy1 : w.heap.size < w1.heap.size := by omega
  clear hb1
  go_wp2
  all_goals first
    | (exfalso; omega)
    | (go_ret; exact ⟨rfl, HB1.out⟩)


set_option maxRecDepth 100000 in
set_option maxHeartbeats 1600000 in
theorem uin_no (c : Cal) (u : Un) (lv : Int) (w : World) (hn : c.name.size ≤ 100) (hE : ¬ unitE c u = 0) :
    Calls Try.prog 5 #[calV c, unitV u, .int .i64 lv] w fun e w' => e = .returned (.bool true) ∧ Below w.heap.size w w' := by
  have hE' : (unitE c u != 0) = true := by simpa using hE
  have HC := hide (up_bad_unit (lv := lv) hE)
  clear hE
  simp only [calV, unitV]
  go_enter Try.func5, Try.ntmps5
  go_wp2_with fail
  refine (live16_any _).mono ?_
  rintro e w1 ⟨rfl, hb1⟩
  have hz1 : w.heap.size + 1 < w1.heap.size := by have := hb1.size; simp at this; omega
  have HB1 := hide (show Below w.heap.size w w1 by refine Below.trans ?_ (hb1.mono (by first | omega | (simp; done) | (simp; omega))); (repeat' (first | (with_reducible exact Below.refl _ _) | (with_reducible assumption) | (with_reducible refine Below.alloc ?_ ?_ _) | (with_reducible refine below_drewN ?_ _) | (with_reducible refine Below.drew ?_) | (with_reducible refine Below.setCell ?_ ?_ _) | (with_reducible refine Below.trans ?_ (Below.mono (by assumption) ?_)) | go_size | (simp at *; omega))))
  have HQ1 := hide (calAt_below hb1 (by simp; omega) (calAt_alloc (calAt_new w c) (by simp) _))
  have HU1 := hide (unAt_below hb1 (by simp) (unAt_new w c u))
  obtain ⟨q0, q1, q2, q3, q4, q5, q6, q7, q8, q9, q10, q11, q12, q13⟩ := HQ1.out
  obtain ⟨u0, u1, u2⟩ := HU1.out
  have hy1 : w.heap.size < w1.heap.size := by omega
  clear hb1
  go_wp2_with fail
  all_goals first
    | (exfalso; omega)
    | skip
  refine (uspan_any c u _ (by omega)).mono ?_
  rintro e w2 ⟨rfl, hb2⟩
  obtain ⟨S0, S1⟩ := spV c u
  simp only [spanV]
  have hz2 : w.heap.size + 1 < w2.heap.size := by have := hb2.size; (try simp at this); omega
  have HB2 := hide (show Below w.heap.size w w2 by have hp := HB1.out; refine Below.trans ?_ (hb2.mono (by first | omega | (simp; done) | (simp; omega))); (repeat' (first | (with_reducible exact Below.refl _ _) | (with_reducible assumption) | (with_reducible refine Below.alloc ?_ ?_ _) | (with_reducible refine below_drewN ?_ _) | (with_reducible refine Below.drew ?_) | (with_reducible refine Below.setCell ?_ ?_ _) | (with_reducible refine Below.trans ?_ (Below.mono (by assumption) ?_)) | go_size | (simp at *; omega))))
  have HQ2 := hide (show CalAt w2 w.heap.size c from calAt_below hb2 (by first | omega | (simp; done) | (simp; omega)) (by first | exact HQ1.out | exact calAt_alloc HQ1.out (by omega) _ | exact calAt_alloc (calAt_alloc HQ1.out (by omega) _) (by simp; omega) _))
  clear q0 q1 q2 q3 q4 q5 q6 q7 q8 q9 q10 q11 q12 q13
  obtain ⟨q0, q1, q2, q3, q4, q5, q6, q7, q8, q9, q10, q11, q12, q13⟩ := HQ2.out
  have HU2 := hide (show UnAt w2 (w.heap.size + 1) u from unAt_below hb2 (by first | omega | (simp; done) | (simp; omega)) (by first | exact HU1.out | exact unAt_alloc HU1.out (by omega) _ | exact unAt_alloc (unAt_alloc HU1.out (by omega) _) (by simp; omega) _))
  clear u0 u1 u2
  obtain ⟨u0, u1, u2⟩ := HU2.out
  have hy2 : w.heap.size < w2.heap.size := by omega
  clear hb2
  go_wp2_with fail
  refine (up_any c u lv _ (by omega)).mono ?_
  rintro e w3 ⟨rfl, hb3⟩
  rw [HC.out.1, HC.out.2]
  simp only [unitV]
  have hz3 : w.heap.size + 1 < w3.heap.size := by have := hb3.size; (try simp at this); omega
  have HB3 := hide (show Below w.heap.size w w3 by have hp := HB2.out; refine Below.trans ?_ (hb3.mono (by first | omega | (simp; done) | (simp; omega))); (repeat' (first | (with_reducible exact Below.refl _ _) | (with_reducible assumption) | (with_reducible refine Below.alloc ?_ ?_ _) | (with_reducible refine below_drewN ?_ _) | (with_reducible refine Below.drew ?_) | (with_reducible refine Below.setCell ?_ ?_ _) | (with_reducible refine Below.trans ?_ (Below.mono (by assumption) ?_)) | go_size | (simp at *; omega))))
  have HQ3 := hide (show CalAt w3 w.heap.size c from calAt_below hb3 (by first | omega | (simp; done) | (simp; omega)) (by first | exact HQ2.out | exact calAt_alloc HQ2.out (by omega) _ | exact calAt_alloc (calAt_alloc HQ2.out (by omega) _) (by simp; omega) _))
  clear q0 q1 q2 q3 q4 q5 q6 q7 q8 q9 q10 q11 q12 q13
  obtain ⟨q0, q1, q2, q3, q4, q5, q6, q7, q8, q9, q10, q11, q12, q13⟩ := HQ3.out
  have HU3 := hide (show UnAt w3 (w.heap.size + 1) u from unAt_below hb3 (by first | omega | (simp; done) | (simp; omega)) (by first | exact HU2.out | exact unAt_alloc HU2.out (by omega) _ | exact unAt_alloc (unAt_alloc HU2.out (by omega) _) (by simp; omega) _))
  clear u0 u1 u2
  obtain ⟨u0, u1, u2⟩ := HU3.out
  have hy3 : w.heap.size < w3.heap.size := by omega
  clear hb3
  clear q0 q1 q2 q3 q4 q5 q6 q7 q8 q9 q10 q11 q12 q13
  have hBel := HB3.out
  go_wp2
  all_goals first
    | (exfalso; omega)
    | (go_ret; exact ⟨ret_bool (by simp [unB]), by (repeat' (first | (with_reducible exact Below.refl _ _) | (with_reducible assumption) | (with_reducible refine Below.alloc ?_ ?_ _) | (with_reducible refine below_drewN ?_ _) | (with_reducible refine Below.drew ?_) | (with_reducible refine Below.setCell ?_ ?_ _) | (with_reducible refine Below.trans ?_ (Below.mono (by assumption) ?_)) | go_size | (simp at *; omega)))⟩)

set_option maxRecDepth 100000 in
set_option maxHeartbeats 1600000 in
theorem uin_arg (c : Cal) (u : Un) (lv : Int) (w : World) (hn : c.name.size ≤ 100) (hE : unitE c u = 0) (hl : lv < 1 ∨ u.lv < lv) :
    Calls Try.prog 5 #[calV c, unitV u, .int .i64 lv] w fun e w' => e = .returned (.bool true) ∧ Below w.heap.size w w' := by
  have HC := hide (up_bad_arg hE (lv := lv) (by omega))
  have HE := hide hE
  clear hE
  simp only [calV, unitV]
  go_enter Try.func5, Try.ntmps5
  go_wp2_with fail
  refine (live16_any _).mono ?_
  rintro e w1 ⟨rfl, hb1⟩
  have hz1 : w.heap.size + 1 < w1.heap.size := by have := hb1.size; simp at this; omega
  have HB1 := hide (show Below w.heap.size w w1 by refine Below.trans ?_ (hb1.mono (by first | omega | (simp; done) | (simp; omega))); (repeat' (first | (with_reducible exact Below.refl _ _) | (with_reducible assumption) | (with_reducible refine Below.alloc ?_ ?_ _) | (with_reducible refine below_drewN ?_ _) | (with_reducible refine Below.drew ?_) | (with_reducible refine Below.setCell ?_ ?_ _) | (with_reducible refine Below.trans ?_ (Below.mono (by assumption) ?_)) | go_size | (simp at *; omega))))
  have HQ1 := hide (calAt_below hb1 (by simp; omega) (calAt_alloc (calAt_new w c) (by simp) _))
  have HU1 := hide (unAt_below hb1 (by simp) (unAt_new w c u))
  obtain ⟨q0, q1, q2, q3, q4, q5, q6, q7, q8, q9, q10, q11, q12, q13⟩ := HQ1.out
  obtain ⟨u0, u1, u2⟩ := HU1.out
  have hy1 : w.heap.size < w1.heap.size := by omega
  clear hb1
  go_wp2_with fail
  all_goals first
    | (exfalso; omega)
    | skip
  refine (uspan_any c u _ (by omega)).mono ?_
  rintro e w2 ⟨rfl, hb2⟩
  rw [HE.out]
  obtain ⟨S0, S1⟩ := spV c u
  simp only [spanV]
  have hz2 : w.heap.size + 1 < w2.heap.size := by have := hb2.size; (try simp at this); omega
  have HB2 := hide (show Below w.heap.size w w2 by have hp := HB1.out; refine Below.trans ?_ (hb2.mono (by first | omega | (simp; done) | (simp; omega))); (repeat' (first | (with_reducible exact Below.refl _ _) | (with_reducible assumption) | (with_reducible refine Below.alloc ?_ ?_ _) | (with_reducible refine below_drewN ?_ _) | (with_reducible refine Below.drew ?_) | (with_reducible refine Below.setCell ?_ ?_ _) | (with_reducible refine Below.trans ?_ (Below.mono (by assumption) ?_)) | go_size | (simp at *; omega))))
  have HQ2 := hide (show CalAt w2 w.heap.size c from calAt_below hb2 (by first | omega | (simp; done) | (simp; omega)) (by first | exact HQ1.out | exact calAt_alloc HQ1.out (by omega) _ | exact calAt_alloc (calAt_alloc HQ1.out (by omega) _) (by simp; omega) _))
  clear q0 q1 q2 q3 q4 q5 q6 q7 q8 q9 q10 q11 q12 q13
  obtain ⟨q0, q1, q2, q3, q4, q5, q6, q7, q8, q9, q10, q11, q12, q13⟩ := HQ2.out
  have HU2 := hide (show UnAt w2 (w.heap.size + 1) u from unAt_below hb2 (by first | omega | (simp; done) | (simp; omega)) (by first | exact HU1.out | exact unAt_alloc HU1.out (by omega) _ | exact unAt_alloc (unAt_alloc HU1.out (by omega) _) (by simp; omega) _))
  clear u0 u1 u2
  obtain ⟨u0, u1, u2⟩ := HU2.out
  have hy2 : w.heap.size < w2.heap.size := by omega
  clear hb2
  go_wp2_with fail
  refine (up_any c u lv _ (by omega)).mono ?_
  rintro e w3 ⟨rfl, hb3⟩
  rw [HC.out.1, HC.out.2]
  simp only [unitV]
  have hz3 : w.heap.size + 1 < w3.heap.size := by have := hb3.size; (try simp at this); omega
  have HB3 := hide (show Below w.heap.size w w3 by have hp := HB2.out; refine Below.trans ?_ (hb3.mono (by first | omega | (simp; done) | (simp; omega))); (repeat' (first | (with_reducible exact Below.refl _ _) | (with_reducible assumption) | (with_reducible refine Below.alloc ?_ ?_ _) | (with_reducible refine below_drewN ?_ _) | (with_reducible refine Below.drew ?_) | (with_reducible refine Below.setCell ?_ ?_ _) | (with_reducible refine Below.trans ?_ (Below.mono (by assumption) ?_)) | go_size | (simp at *; omega))))
  have HQ3 := hide (show CalAt w3 w.heap.size c from calAt_below hb3 (by first | omega | (simp; done) | (simp; omega)) (by first | exact HQ2.out | exact calAt_alloc HQ2.out (by omega) _ | exact calAt_alloc (calAt_alloc HQ2.out (by omega) _) (by simp; omega) _))
  clear q0 q1 q2 q3 q4 q5 q6 q7 q8 q9 q10 q11 q12 q13
  obtain ⟨q0, q1, q2, q3, q4, q5, q6, q7, q8, q9, q10, q11, q12, q13⟩ := HQ3.out
  have HU3 := hide (show UnAt w3 (w.heap.size + 1) u from unAt_below hb3 (by first | omega | (simp; done) | (simp; omega)) (by first | exact HU2.out | exact unAt_alloc HU2.out (by omega) _ | exact unAt_alloc (unAt_alloc HU2.out (by omega) _) (by simp; omega) _))
  clear u0 u1 u2
  obtain ⟨u0, u1, u2⟩ := HU3.out
  have hy3 : w.heap.size < w3.heap.size := by omega
  clear hb3
  clear q0 q1 q2 q3 q4 q5 q6 q7 q8 q9 q10 q11 q12 q13
  have hBel := HB3.out
  go_wp2
  all_goals first
    | (exfalso; omega)
    | (go_ret; exact ⟨ret_bool (by simp [unB]), by (repeat' (first | (with_reducible exact Below.refl _ _) | (with_reducible assumption) | (with_reducible refine Below.alloc ?_ ?_ _) | (with_reducible refine below_drewN ?_ _) | (with_reducible refine Below.drew ?_) | (with_reducible refine Below.setCell ?_ ?_ _) | (with_reducible refine Below.trans ?_ (Below.mono (by assumption) ?_)) | go_size | (simp at *; omega)))⟩)

set_option maxRecDepth 100000 in
set_option maxHeartbeats 3200000 in
theorem uin_yes (c : Cal) (u : Un) (lv : Int) (w : World) (hn : c.name.size ≤ 100) (hE : unitE c u = 0) (hl1 : 1 ≤ lv) (hl2 : lv ≤ u.lv) :
    Calls Try.prog 5 #[calV c, unitV u, .int .i64 lv] w fun e w' => e = .returned (.bool true) ∧ Below w.heap.size w w' := by
  obtain ⟨hf, hul1, hul5, hA, hx, hi⟩ := un_lv hE
  obtain ⟨k, e0, e1, e2, e3, e4⟩ := up_facts hE hl1 hl2
  have hfl := frame_lv hf lv hl1 (by omega)
  have hab := cutAB hE
  have hnb := cnt_bd c u.yr hA lv
  have hS := sp_get hE
  obtain ⟨sa, hsa⟩ : ∃ x, x = dayW c u.yr (cutA c u) := ⟨_, rfl⟩
  obtain ⟨sb, hsb⟩ : ∃ x, x = dayW c u.yr (cutB c u) := ⟨_, rfl⟩
  have hs1 : sa < sb := by
    have := dayW_lt c u.yr hA hab.1 hab.2
    rw [hsa, hsb]
    omega
  have hcl : cutN c u.yr lv (k + 1) ≤ nWk c u.yr := cut_le_nWk c u.yr hA lv hl1 (by omega) _ (by omega)
  have hs2 : uD c lv u.yr k ≤ sa := by rw [hsa]; exact dayW_le c u.yr hA e3 (by omega)
  have hs3 : sb ≤ uD c lv u.yr (k + 1) := by rw [hsb]; exact dayW_le c u.yr hA e4 hcl
  rw [← hsa, ← hsb] at hS
  have HS := hide hS
  have HUP := hide (And.intro e0 e1)
  have HCN := hide (count_yes hfl)
  have HSP := hide (fun i h => sp_uD hfl i h)
  have HUE := hide (fun i h => (un_mk hfl i h).1)
  have HLT := hide (fun i h => uD_lt hfl i (i + 1) (Nat.lt_succ_self i) h)
  have HLE := hide (fun i j (h : i ≤ j) hj => show uD c lv u.yr i ≤ uD c lv u.yr j by
    rcases Nat.lt_or_eq_of_le h with h | h
    · have := uD_lt hfl i j h hj; omega
    · subst h; omega)
  have HBD := hide (fun i h => uD_bd hfl i h)
  have hsab : 0 ≤ sa ∧ sb ≤ 3068038 := by
    have h1 := HBD.out k (Nat.le_of_lt e2)
    have h2 := HBD.out (k + 1) e2
    omega
  have HFL := hide hfl
  have HE := hide hE
  obtain ⟨n, hnn⟩ : ∃ n, n = cntL c u.yr lv := ⟨_, rfl⟩
  have HN := hide hnn
  have hkn : k < n := by omega
  rw [← hnn] at hnb
  clear hE hf hA hi hx e0 e1 e3 e4 hfl hab hS hsa hsb hcl e2 hnn
  simp only [calV, unitV]
  go_enter Try.func5, Try.ntmps5
  go_wp2_with fail
  refine (live16_any _).mono ?_
  rintro e w1 ⟨rfl, hb1⟩
  have hz1 : w.heap.size + 1 < w1.heap.size := by have := hb1.size; simp at this; omega
  have HB1 := hide (show Below w.heap.size w w1 by refine Below.trans ?_ (hb1.mono (by first | omega | (simp; done) | (simp; omega))); (repeat' (first | (with_reducible exact Below.refl _ _) | (with_reducible assumption) | (with_reducible refine Below.alloc ?_ ?_ _) | (with_reducible refine below_drewN ?_ _) | (with_reducible refine Below.drew ?_) | (with_reducible refine Below.setCell ?_ ?_ _) | (with_reducible refine Below.trans ?_ (Below.mono (by assumption) ?_)) | go_size | (simp at *; omega))))
  have HQ1 := hide (calAt_below hb1 (by simp; omega) (calAt_alloc (calAt_new w c) (by simp) _))
  have HU1 := hide (unAt_below hb1 (by simp) (unAt_new w c u))
  obtain ⟨q0, q1, q2, q3, q4, q5, q6, q7, q8, q9, q10, q11, q12, q13⟩ := HQ1.out
  obtain ⟨u0, u1, u2⟩ := HU1.out
  have hy1 : w.heap.size < w1.heap.size := by omega
  clear hb1
  go_wp2_with fail
  all_goals first
    | (exfalso; omega)
    | skip
  refine (uspan_any c u _ (by omega)).mono ?_
  rintro e w2 ⟨rfl, hb2⟩
  rw [HE.out, HS.out]
  simp only [spanV]
  have hz2 : w.heap.size + 1 < w2.heap.size := by have := hb2.size; (try simp at this); omega
  have HB2 := hide (show Below w.heap.size w w2 by have hp := HB1.out; refine Below.trans ?_ (hb2.mono (by first | omega | (simp; done) | (simp; omega))); (repeat' (first | (with_reducible exact Below.refl _ _) | (with_reducible assumption) | (with_reducible refine Below.alloc ?_ ?_ _) | (with_reducible refine below_drewN ?_ _) | (with_reducible refine Below.drew ?_) | (with_reducible refine Below.setCell ?_ ?_ _) | (with_reducible refine Below.trans ?_ (Below.mono (by assumption) ?_)) | go_size | (simp at *; omega))))
  have HQ2 := hide (show CalAt w2 w.heap.size c from calAt_below hb2 (by first | omega | (simp; done) | (simp; omega)) (by first | exact HQ1.out | exact calAt_alloc HQ1.out (by omega) _ | exact calAt_alloc (calAt_alloc HQ1.out (by omega) _) (by simp; omega) _))
  clear q0 q1 q2 q3 q4 q5 q6 q7 q8 q9 q10 q11 q12 q13
  obtain ⟨q0, q1, q2, q3, q4, q5, q6, q7, q8, q9, q10, q11, q12, q13⟩ := HQ2.out
  have HU2 := hide (show UnAt w2 (w.heap.size + 1) u from unAt_below hb2 (by first | omega | (simp; done) | (simp; omega)) (by first | exact HU1.out | exact unAt_alloc HU1.out (by omega) _ | exact unAt_alloc (unAt_alloc HU1.out (by omega) _) (by simp; omega) _))
  clear u0 u1 u2
  obtain ⟨u0, u1, u2⟩ := HU2.out
  have hy2 : w.heap.size < w2.heap.size := by omega
  clear hb2
  go_wp2_with fail
  refine (up_any c u lv _ (by omega)).mono ?_
  rintro e w3 ⟨rfl, hb3⟩
  rw [HUP.out.1, HUP.out.2]
  simp only [unitV]
  have HS3 := hide (show SpAt w3 w2.heap.size ⟨sa, sb - 1⟩ from spAt_below hb3 (by simp) (spAt_fresh w2 ⟨sa, sb - 1⟩))
  have hS3 : w2.heap.size < w3.heap.size := by have := hb3.size; (try simp at this); omega
  have hz3 : w.heap.size + 1 < w3.heap.size := by have := hb3.size; (try simp at this); omega
  have HB3 := hide (show Below w.heap.size w w3 by have hp := HB2.out; refine Below.trans ?_ (hb3.mono (by first | omega | (simp; done) | (simp; omega))); (repeat' (first | (with_reducible exact Below.refl _ _) | (with_reducible assumption) | (with_reducible refine Below.alloc ?_ ?_ _) | (with_reducible refine below_drewN ?_ _) | (with_reducible refine Below.drew ?_) | (with_reducible refine Below.setCell ?_ ?_ _) | (with_reducible refine Below.trans ?_ (Below.mono (by assumption) ?_)) | go_size | (simp at *; omega))))
  have HQ3 := hide (show CalAt w3 w.heap.size c from calAt_below hb3 (by first | omega | (simp; done) | (simp; omega)) (by first | exact HQ2.out | exact calAt_alloc HQ2.out (by omega) _ | exact calAt_alloc (calAt_alloc HQ2.out (by omega) _) (by simp; omega) _))
  clear q0 q1 q2 q3 q4 q5 q6 q7 q8 q9 q10 q11 q12 q13
  obtain ⟨q0, q1, q2, q3, q4, q5, q6, q7, q8, q9, q10, q11, q12, q13⟩ := HQ3.out
  have HU3 := hide (show UnAt w3 (w.heap.size + 1) u from unAt_below hb3 (by first | omega | (simp; done) | (simp; omega)) (by first | exact HU2.out | exact unAt_alloc HU2.out (by omega) _ | exact unAt_alloc (unAt_alloc HU2.out (by omega) _) (by simp; omega) _))
  clear u0 u1 u2
  obtain ⟨u0, u1, u2⟩ := HU3.out
  have hy3 : w.heap.size < w3.heap.size := by omega
  clear hb3
  go_wp2_with fail
  all_goals first
    | (exfalso; omega)
    | skip
  refine (count_any c lv u.yr _ (by omega)).mono ?_
  rintro e w4 ⟨rfl, hb4⟩
  rw [HCN.out, HFL.out, ← HN.out]
  have HS4 := hide (show SpAt w4 w2.heap.size ⟨sa, sb - 1⟩ from spAt_below hb4 (by first | omega | (simp; done) | (simp; omega)) (by first | exact HS3.out | exact spAt_alloc HS3.out (by omega) _ | exact spAt_alloc (spAt_alloc HS3.out (by omega) _) (by simp; omega) _))
  have hS4 : w2.heap.size < w4.heap.size := by have := hb4.size; (try simp at this); omega
  have HV4 := hide (show UnAt w4 w3.heap.size ⟨lv, u.yr, (k : Int) + 1⟩ from unAt_below hb4 (by simp) (unAt_fresh w3 ⟨lv, u.yr, (k : Int) + 1⟩))
  have hV4 : w3.heap.size < w4.heap.size := by have := hb4.size; (try simp at this); omega
  have hz4 : w.heap.size + 1 < w4.heap.size := by have := hb4.size; (try simp at this); omega
  have HB4 := hide (show Below w.heap.size w w4 by have hp := HB3.out; refine Below.trans ?_ (hb4.mono (by first | omega | (simp; done) | (simp; omega))); (repeat' (first | (with_reducible exact Below.refl _ _) | (with_reducible assumption) | (with_reducible refine Below.alloc ?_ ?_ _) | (with_reducible refine below_drewN ?_ _) | (with_reducible refine Below.drew ?_) | (with_reducible refine Below.setCell ?_ ?_ _) | (with_reducible refine Below.trans ?_ (Below.mono (by assumption) ?_)) | go_size | (simp at *; omega))))
  have HQ4 := hide (show CalAt w4 w.heap.size c from calAt_below hb4 (by first | omega | (simp; done) | (simp; omega)) (by first | exact HQ3.out | exact calAt_alloc HQ3.out (by omega) _ | exact calAt_alloc (calAt_alloc HQ3.out (by omega) _) (by simp; omega) _))
  clear q0 q1 q2 q3 q4 q5 q6 q7 q8 q9 q10 q11 q12 q13
  obtain ⟨q0, q1, q2, q3, q4, q5, q6, q7, q8, q9, q10, q11, q12, q13⟩ := HQ4.out
  have HU4 := hide (show UnAt w4 (w.heap.size + 1) u from unAt_below hb4 (by first | omega | (simp; done) | (simp; omega)) (by first | exact HU3.out | exact unAt_alloc HU3.out (by omega) _ | exact unAt_alloc (unAt_alloc HU3.out (by omega) _) (by simp; omega) _))
  clear u0 u1 u2
  obtain ⟨u0, u1, u2⟩ := HU4.out
  have hy4 : w.heap.size < w4.heap.size := by omega
  clear hb4
  clear q0 q1 q2 q3 q4 q5 q6 q7 q8 q9 q10 q11 q12 q13
  clear u0 u1 u2
  go_wp2_with fail
  all_goals first
    | (exfalso; omega)
    | skip
  go_loopw [13, 14] (fun s13 s14 wr => ∃ i : Nat, s14 = .int .i64 ((i : Int) + 1) ∧ (∃ m : Int, s13 = .int .i64 m ∧ ((k < i ∧ m = 1) ∨ (i ≤ k ∧ m = 0))) ∧ i ≤ n ∧ Below w4.heap.size w4 wr) (fun _ s _ => (100 - intOf s).toNat)
  case atStart => exact ⟨0, rfl, ⟨0, rfl, by omega⟩, by omega, Below.refl _ _⟩
  case round =>
    obtain ⟨i, rfl, ⟨m, rfl, hm⟩, hi, hB⟩ := hrel
    have HM := hide hm
    clear hm
    have hlt := hB.size
    have hyr : w.heap.size < wr.heap.size := by omega
    have hy1r : w.heap.size + 1 < wr.heap.size := by omega
    have hSr : w2.heap.size < wr.heap.size := by omega
    have hVr : w3.heap.size < wr.heap.size := by omega
    have HQr := hide (show CalAt wr w.heap.size c from calAt_below hB (by omega) HQ4.out)
    have HUr := hide (show UnAt wr (w.heap.size + 1) u from unAt_below hB (by omega) HU4.out)
    have HSr := hide (show SpAt wr w2.heap.size ⟨sa, sb - 1⟩ from spAt_below hB (by omega) HS4.out)
    have HVr := hide (show UnAt wr w3.heap.size ⟨lv, u.yr, (k : Int) + 1⟩ from unAt_below hB (by omega) HV4.out)
    have HBr := hide (HB4.out.trans (hB.mono (by omega)))
    have HBB := hide hB
    clear hB
    by_cases hin : i < n
    · obtain ⟨q0, q1, q2, q3, q4, q5, q6, q7, q8, q9, q10, q11, q12, q13⟩ := HQr.out
      obtain ⟨u0, u1, u2⟩ := HUr.out
      have hic : i < cntL c u.yr lv := by rw [← HN.out]; exact hin
      have hkc : k < cntL c u.yr lv := by rw [← HN.out]; exact hkn
      have hd1 := HLT.out i hic
      have hd2 := HBD.out i (Nat.le_of_lt hic)
      have hd3 := HBD.out (i + 1) hic
      have hd4 := hide (show i < k → uD c lv u.yr (i + 1) ≤ uD c lv u.yr k from fun h => HLE.out _ _ h (Nat.le_of_lt hkc))
      have hd5 := hide (show k < i → uD c lv u.yr (k + 1) ≤ uD c lv u.yr i from fun h => HLE.out _ _ h (Nat.le_of_lt hic))
      go_wp2_with fail
      refine (uspan_any c ⟨lv, u.yr, (i : Int) + 1⟩ _ (by omega)).mono ?_
      rintro e w5 ⟨rfl, hb5⟩
      rw [HUE.out i hic, HSP.out i hic]
      simp only [spanV]
      have HS5 := hide (show SpAt w5 w2.heap.size ⟨sa, sb - 1⟩ from spAt_below hb5 (by simp; omega) (spAt_alloc HSr.out hSr _))
      have HV5 := hide (show UnAt w5 w3.heap.size ⟨lv, u.yr, (k : Int) + 1⟩ from unAt_below hb5 (by simp; omega) (unAt_alloc HVr.out hVr _))
      have HW5 := hide (show UnAt w5 wr.heap.size ⟨lv, u.yr, (i : Int) + 1⟩ from unAt_below hb5 (by simp) (unAt_fresh wr ⟨lv, u.yr, (i : Int) + 1⟩))
      have hz5 : wr.heap.size < w5.heap.size := by have := hb5.size; simp at this; omega
      have hS5 : w2.heap.size < w5.heap.size := by omega
      have hV5 : w3.heap.size < w5.heap.size := by omega
      have HB5 := hide (show Below w4.heap.size w4 w5 from (HBB.out.alloc hlt _).trans (hb5.mono (by simp; omega)))
      clear q0 q1 q2 q3 q4 q5 q6 q7 q8 q9 q10 q11 q12 q13
      clear u0 u1 u2
      clear hb5
      obtain ⟨t0, t1⟩ := HS5.out
      obtain ⟨v0, v1, v2⟩ := HV5.out
      obtain ⟨x0, x1, x2⟩ := HW5.out
      have hBel := HB5.out
      have h45 : w4.heap.size ≤ w5.heap.size := by omega
      clear hd2 hd3 hic hkc
      rcases Nat.lt_trichotomy i k with hik | hik | hik
      · have hd4' := hd4.out hik
        clear hd4 hd5
        obtain rfl : m = 0 := by have := HM.out; omega
        go_wp2
        all_goals first
          | (exfalso; omega)
          | exact ⟨⟨i + 1, by go_num, ⟨_, rfl, by omega⟩, by omega, by (repeat' (first | (with_reducible exact Below.refl _ _) | (with_reducible assumption) | (with_reducible refine Below.alloc ?_ ?_ _) | (with_reducible refine below_drewN ?_ _) | (with_reducible refine Below.drew ?_) | (with_reducible refine Below.setCell ?_ ?_ _) | (with_reducible refine Below.trans ?_ (Below.mono (by assumption) ?_)) | go_size | (simp at *; omega)))⟩, by simp [intOf]; omega⟩
      · subst hik
        have hub : unB lv u.yr ((i : Int) + 1) lv u.yr ((i : Int) + 1) = true := unB_same _ _ _
        clear hd4 hd5
        obtain rfl : m = 0 := by have := HM.out; omega
        go_wp2
        all_goals first
          | (exfalso; omega)
          | exact ⟨⟨i + 1, by go_num, ⟨_, rfl, by omega⟩, by omega, by (repeat' (first | (with_reducible exact Below.refl _ _) | (with_reducible assumption) | (with_reducible refine Below.alloc ?_ ?_ _) | (with_reducible refine below_drewN ?_ _) | (with_reducible refine Below.drew ?_) | (with_reducible refine Below.setCell ?_ ?_ _) | (with_reducible refine Below.trans ?_ (Below.mono (by assumption) ?_)) | go_size | (simp at *; omega)))⟩, by simp [intOf]; omega⟩
      · have hd5' := hd5.out hik
        clear hd4 hd5
        obtain rfl : m = 1 := by have := HM.out; omega
        go_wp2
        all_goals first
          | (exfalso; omega)
          | exact ⟨⟨i + 1, by go_num, ⟨_, rfl, by omega⟩, by omega, by (repeat' (first | (with_reducible exact Below.refl _ _) | (with_reducible assumption) | (with_reducible refine Below.alloc ?_ ?_ _) | (with_reducible refine below_drewN ?_ _) | (with_reducible refine Below.drew ?_) | (with_reducible refine Below.setCell ?_ ?_ _) | (with_reducible refine Below.trans ?_ (Below.mono (by assumption) ?_)) | go_size | (simp at *; omega)))⟩, by simp [intOf]; omega⟩
    · obtain rfl : i = n := by omega
      obtain rfl : m = 1 := by have := HM.out; omega
      go_wp2
      go_ret
      exact ⟨by simp, HBr.out⟩

theorem uin_walk (c : Cal) (hn : c.name.size ≤ 9223372036854775807) (u : Un) (lv : Int) (w : World) :
    Calls Try.prog 5 #[calV c, unitV u, .int .i64 lv] w fun e w' => e = .returned (.bool true) ∧ Below w.heap.size w w' := by
  by_cases h : 100 < c.name.size
  · exact uin_long c u lv w h hn
  · by_cases hE : unitE c u = 0
    · by_cases hl : 1 ≤ lv ∧ lv ≤ u.lv
      · exact uin_yes c u lv w (by omega) hE hl.1 hl.2
      · exact uin_arg c u lv w (by omega) hE (by omega)
    · exact uin_no c u lv w (by omega) hE
end Go.Proofs.Ytepmfpgljcbkmaa
