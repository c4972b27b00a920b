/- The walk of UnitDown. -/
import Derived.Test.YtepmfpgljcbkmaaLawUCover
namespace Go.Proofs.Ytepmfpgljcbkmaa
open Go.RowKit Qd
set_option linter.unusedSimpArgs false
set_option linter.unusedVariables false

theorem dn_bad_unit {c : Cal} {u : Un} {lv : Int} (h : ¬ unitE c u = 0) : dnE c u lv = unitE c u ∧ dnA c u lv = ⟨0, 0, 0⟩ ∧ dnB c u lv = ⟨0, 0, 0⟩ := by
  have h0 : dnE c u lv = unitE c u := by unfold dnE; rw [if_neg h]
  exact ⟨h0, by rw [dnA, if_neg (by omega)], by rw [dnB, if_neg (by omega)]⟩
theorem dn_bad_arg {c : Cal} {u : Un} {lv : Int} (h : unitE c u = 0) (hl : ¬ (u.lv ≤ lv ∧ lv ≤ 5)) : dnE c u lv = 1 ∧ dnA c u lv = ⟨0, 0, 0⟩ ∧ dnB c u lv = ⟨0, 0, 0⟩ := by
  have h0 : dnE c u lv = 1 := by unfold dnE; rw [if_pos h, if_neg hl]
  exact ⟨h0, by rw [dnA, if_neg (by omega)], by rw [dnB, if_neg (by omega)]⟩
/-- What lies in a unit. -/
theorem dn_facts {c : Cal} {u : Un} {lv : Int} (h : unitE c u = 0) (h1 : u.lv ≤ lv) (h5 : lv ≤ 5) :
    ∃ a b : Nat, dnE c u lv = 0 ∧ dnA c u lv = ⟨lv, u.yr, (a : Int) + 1⟩ ∧ dnB c u lv = ⟨lv, u.yr, (b : Int) + 1⟩ ∧ a ≤ b ∧ b < cntL c u.yr lv ∧ cutN c u.yr lv a = cutA c u ∧ cutN c u.yr lv (b + 1) = cutB c u := by
  obtain ⟨hf, hl1, hl5, hA, hx, hi⟩ := un_lv h
  have hab := cutAB h
  have h0 : dnE c u lv = 0 := by unfold dnE; rw [if_pos h, if_pos ⟨h1, h5⟩]
  obtain ⟨j, hj, ej⟩ := cut_finer c u.yr hA u.lv lv hl1 h1 h5 (uI u) (by omega)
  obtain ⟨m, hm, em⟩ := cut_finer c u.yr hA u.lv lv hl1 h1 h5 (uI u + 1) (by omega)
  have ea : cutA c u = cutN c u.yr lv j := ej
  have eb : cutB c u = cutN c u.yr lv m := em
  have hjm : j < m := by
    rcases Nat.lt_or_ge j m with h2 | h2
    · exact h2
    · have := cut_mono c u.yr hA lv (by omega) h5 h2 hj; omega
  have e1 : ixN c u.yr lv (cutA c u) = j := by
    refine ix_eq c u.yr hA lv (by omega) h5 _ j (by omega) (by omega) ?_
    have := cut_lt c u.yr hA lv (by omega) h5 j (by omega)
    omega
  have e2 : ixN c u.yr lv (cutB c u - 1) = m - 1 := by
    have h3 := cut_lt c u.yr hA lv (by omega) h5 (m - 1) (by omega)
    rw [show m - 1 + 1 = m by omega] at h3
    refine ix_eq c u.yr hA lv (by omega) h5 _ (m - 1) (by omega) (by omega) ?_
    rw [show m - 1 + 1 = m by omega]
    omega
  refine ⟨j, m - 1, h0, by rw [dnA, if_pos h0, e1], by rw [dnB, if_pos h0, e2], by omega, by omega, ea.symm, ?_⟩
  rw [show m - 1 + 1 = m by omega]
  exact eb.symm
/-- Each unit between lies in it. -/
theorem dn_up {c : Cal} {u : Un} {lv : Int} (h : unitE c u = 0) (h1 : u.lv ≤ lv) (h5 : lv ≤ 5) (a b : Nat) (hb : b < cntL c u.yr lv) (ea : cutN c u.yr lv a = cutA c u) (eb : cutN c u.yr lv (b + 1) = cutB c u) (i : Nat) (hai : a ≤ i) (hib : i ≤ b) :
    upE c ⟨lv, u.yr, (i : Int) + 1⟩ u.lv = 0 ∧ upV c ⟨lv, u.yr, (i : Int) + 1⟩ u.lv = u := by
  obtain ⟨hf, hl1, hl5, hA, hx, hi⟩ := un_lv h
  have hf2 := frame_lv hf lv (by omega) h5
  obtain ⟨g0, g1, g2⟩ := un_mk hf2 i (by omega)
  obtain ⟨k, d0, d1, d2, d3, d4⟩ := up_facts (c := c) (u := ⟨lv, u.yr, (i : Int) + 1⟩) (lv := u.lv) g0 hl1 h1
  rw [g1] at d3
  rw [g2] at d4
  simp only at d1 d2 d3 d4
  have hab := cutAB g0
  rw [g1, g2] at hab
  simp only at hab
  have hm1 := cut_mono c u.yr hA lv (by omega) h5 hai (by omega)
  have hm2 := cut_mono c u.yr hA lv (by omega) h5 (show i + 1 ≤ b + 1 by omega) (by omega)
  have := ix_uniq hA hl1 hl5 (i := k) (j := uI u) hab.1 d2 hi hab.2 d3 d4 (by rw [ea] at hm1; exact hm1) (by rw [eb] at hm2; exact hm2)
  exact ⟨d0, by rw [d1, this, ← hx]⟩

set_option maxRecDepth 100000 in
set_option maxHeartbeats 1600000 in
theorem ud_long (c : Cal) (u : Un) (lv : Int) (w : World) (hn : 100 < c.name.size) (hm : c.name.size ≤ 9223372036854775807) :
    Calls Try.prog 7 #[calV c, unitV u, .int .i64 lv] w fun e w' => e = .returned (.bool true) ∧ Below w.heap.size w w' := by
  simp only [calV, unitV]
  go_enter Try.func7, Try.ntmps7
  go_wp2_with fail
  refine (live16_any _).mono ?_
  rintro e w1 ⟨rfl, hb1⟩
  have hz1 : w.heap.size + 1 < w1.heap.size := by have := hb1.size; simp at this; omega
  have HB1 := hide (show Below w.heap.size w w1 by refine Below.trans ?_ (hb1.mono (by first | omega | (simp; done) | (simp; omega))); (repeat' (first | (with_reducible exact Below.refl _ _) | (with_reducible assumption) | (with_reducible refine Below.alloc ?_ ?_ _) | (with_reducible refine below_drewN ?_ _) | (with_reducible refine Below.drew ?_) | (with_reducible refine Below.setCell ?_ ?_ _) | (with_reducible refine Below.trans ?_ (Below.mono (by assumption) ?_)) | go_size | (simp at *; omega))))
  have HQ1 := hide (calAt_below hb1 (by simp; omega) (calAt_alloc (calAt_new w c) (by simp) _))
  have HU1 := hide (unAt_below hb1 (by simp) (unAt_new w c u))
  obtain ⟨q0, q1, q2, q3, q4, q5, q6, q7, q8, q9, q10, q11, q12, q13⟩ := HQ1.out
  obtain ⟨u0, u1, u2⟩ := HU1.out
  have hy1 : w.heap.size < w1.heap.size := by omega
  clear hb1
  go_wp2
  all_goals first
    | (exfalso; omega)
    | (go_ret; exact ⟨rfl, HB1.out⟩)


set_option maxRecDepth 100000 in
set_option maxHeartbeats 1600000 in
theorem ud_no (c : Cal) (u : Un) (lv : Int) (w : World) (hn : c.name.size ≤ 100) (hE : ¬ unitE c u = 0) :
    Calls Try.prog 7 #[calV c, unitV u, .int .i64 lv] w fun e w' => e = .returned (.bool true) ∧ Below w.heap.size w w' := by
  have hE' : (unitE c u != 0) = true := by simpa using hE
  have HC := hide (dn_bad_unit (lv := lv) hE)
  clear hE
  simp only [calV, unitV]
  go_enter Try.func7, Try.ntmps7
  go_wp2_with fail
  refine (live16_any _).mono ?_
  rintro e w1 ⟨rfl, hb1⟩
  have hz1 : w.heap.size + 1 < w1.heap.size := by have := hb1.size; simp at this; omega
  have HB1 := hide (show Below w.heap.size w w1 by refine Below.trans ?_ (hb1.mono (by first | omega | (simp; done) | (simp; omega))); (repeat' (first | (with_reducible exact Below.refl _ _) | (with_reducible assumption) | (with_reducible refine Below.alloc ?_ ?_ _) | (with_reducible refine below_drewN ?_ _) | (with_reducible refine Below.drew ?_) | (with_reducible refine Below.setCell ?_ ?_ _) | (with_reducible refine Below.trans ?_ (Below.mono (by assumption) ?_)) | go_size | (simp at *; omega))))
  have HQ1 := hide (calAt_below hb1 (by simp; omega) (calAt_alloc (calAt_new w c) (by simp) _))
  have HU1 := hide (unAt_below hb1 (by simp) (unAt_new w c u))
  obtain ⟨q0, q1, q2, q3, q4, q5, q6, q7, q8, q9, q10, q11, q12, q13⟩ := HQ1.out
  obtain ⟨u0, u1, u2⟩ := HU1.out
  have hy1 : w.heap.size < w1.heap.size := by omega
  clear hb1
  go_wp2_with fail
  all_goals first
    | (exfalso; omega)
    | skip
  refine (uspan_any c u _ (by omega)).mono ?_
  rintro e w2 ⟨rfl, hb2⟩
  obtain ⟨S0, S1⟩ := spV c u
  simp only [spanV]
  have hz2 : w.heap.size + 1 < w2.heap.size := by have := hb2.size; (try simp at this); omega
  have HB2 := hide (show Below w.heap.size w w2 by have hp := HB1.out; refine Below.trans ?_ (hb2.mono (by first | omega | (simp; done) | (simp; omega))); (repeat' (first | (with_reducible exact Below.refl _ _) | (with_reducible assumption) | (with_reducible refine Below.alloc ?_ ?_ _) | (with_reducible refine below_drewN ?_ _) | (with_reducible refine Below.drew ?_) | (with_reducible refine Below.setCell ?_ ?_ _) | (with_reducible refine Below.trans ?_ (Below.mono (by assumption) ?_)) | go_size | (simp at *; omega))))
  have HQ2 := hide (show CalAt w2 w.heap.size c from calAt_below hb2 (by first | omega | (simp; done) | (simp; omega)) (by first | exact HQ1.out | exact calAt_alloc HQ1.out (by omega) _ | exact calAt_alloc (calAt_alloc HQ1.out (by omega) _) (by simp; omega) _))
  clear q0 q1 q2 q3 q4 q5 q6 q7 q8 q9 q10 q11 q12 q13
  obtain ⟨q0, q1, q2, q3, q4, q5, q6, q7, q8, q9, q10, q11, q12, q13⟩ := HQ2.out
  have HU2 := hide (show UnAt w2 (w.heap.size + 1) u from unAt_below hb2 (by first | omega | (simp; done) | (simp; omega)) (by first | exact HU1.out | exact unAt_alloc HU1.out (by omega) _ | exact unAt_alloc (unAt_alloc HU1.out (by omega) _) (by simp; omega) _))
  clear u0 u1 u2
  obtain ⟨u0, u1, u2⟩ := HU2.out
  have hy2 : w.heap.size < w2.heap.size := by omega
  clear hb2
  go_wp2_with fail
  refine (down_any c u lv _ (by omega)).mono ?_
  rintro e w3 ⟨rfl, hb3⟩
  rw [HC.out.1, HC.out.2.1, HC.out.2.2]
  simp only [unitV]
  have hz3 : w.heap.size + 1 < w3.heap.size := by have := hb3.size; (try simp at this); omega
  have HB3 := hide (show Below w.heap.size w w3 by have hp := HB2.out; refine Below.trans ?_ (hb3.mono (by first | omega | (simp; done) | (simp; omega))); (repeat' (first | (with_reducible exact Below.refl _ _) | (with_reducible assumption) | (with_reducible refine Below.alloc ?_ ?_ _) | (with_reducible refine below_drewN ?_ _) | (with_reducible refine Below.drew ?_) | (with_reducible refine Below.setCell ?_ ?_ _) | (with_reducible refine Below.trans ?_ (Below.mono (by assumption) ?_)) | go_size | (simp at *; omega))))
  have HQ3 := hide (show CalAt w3 w.heap.size c from calAt_below hb3 (by first | omega | (simp; done) | (simp; omega)) (by first | exact HQ2.out | exact calAt_alloc HQ2.out (by omega) _ | exact calAt_alloc (calAt_alloc HQ2.out (by omega) _) (by simp; omega) _))
  clear q0 q1 q2 q3 q4 q5 q6 q7 q8 q9 q10 q11 q12 q13
  obtain ⟨q0, q1, q2, q3, q4, q5, q6, q7, q8, q9, q10, q11, q12, q13⟩ := HQ3.out
  have HU3 := hide (show UnAt w3 (w.heap.size + 1) u from unAt_below hb3 (by first | omega | (simp; done) | (simp; omega)) (by first | exact HU2.out | exact unAt_alloc HU2.out (by omega) _ | exact unAt_alloc (unAt_alloc HU2.out (by omega) _) (by simp; omega) _))
  clear u0 u1 u2
  obtain ⟨u0, u1, u2⟩ := HU3.out
  have hy3 : w.heap.size < w3.heap.size := by omega
  clear hb3
  clear q0 q1 q2 q3 q4 q5 q6 q7 q8 q9 q10 q11 q12 q13
  have hBel := HB3.out
  go_wp2
  all_goals first
    | (exfalso; omega)
    | (go_ret; exact ⟨ret_bool (by simp [unB]), by (repeat' (first | (with_reducible exact Below.refl _ _) | (with_reducible assumption) | (with_reducible refine Below.alloc ?_ ?_ _) | (with_reducible refine below_drewN ?_ _) | (with_reducible refine Below.drew ?_) | (with_reducible refine Below.setCell ?_ ?_ _) | (with_reducible refine Below.trans ?_ (Below.mono (by assumption) ?_)) | go_size | (simp at *; omega)))⟩)

set_option maxRecDepth 100000 in
set_option maxHeartbeats 1600000 in
theorem ud_arg (c : Cal) (u : Un) (lv : Int) (w : World) (hn : c.name.size ≤ 100) (hE : unitE c u = 0) (hl : lv < u.lv ∨ 5 < lv) :
    Calls Try.prog 7 #[calV c, unitV u, .int .i64 lv] w fun e w' => e = .returned (.bool true) ∧ Below w.heap.size w w' := by
  have HC := hide (dn_bad_arg hE (lv := lv) (by omega))
  have HE := hide hE
  clear hE
  simp only [calV, unitV]
  go_enter Try.func7, Try.ntmps7
  go_wp2_with fail
  refine (live16_any _).mono ?_
  rintro e w1 ⟨rfl, hb1⟩
  have hz1 : w.heap.size + 1 < w1.heap.size := by have := hb1.size; simp at this; omega
  have HB1 := hide (show Below w.heap.size w w1 by refine Below.trans ?_ (hb1.mono (by first | omega | (simp; done) | (simp; omega))); (repeat' (first | (with_reducible exact Below.refl _ _) | (with_reducible assumption) | (with_reducible refine Below.alloc ?_ ?_ _) | (with_reducible refine below_drewN ?_ _) | (with_reducible refine Below.drew ?_) | (with_reducible refine Below.setCell ?_ ?_ _) | (with_reducible refine Below.trans ?_ (Below.mono (by assumption) ?_)) | go_size | (simp at *; omega))))
  have HQ1 := hide (calAt_below hb1 (by simp; omega) (calAt_alloc (calAt_new w c) (by simp) _))
  have HU1 := hide (unAt_below hb1 (by simp) (unAt_new w c u))
  obtain ⟨q0, q1, q2, q3, q4, q5, q6, q7, q8, q9, q10, q11, q12, q13⟩ := HQ1.out
  obtain ⟨u0, u1, u2⟩ := HU1.out
  have hy1 : w.heap.size < w1.heap.size := by omega
  clear hb1
  go_wp2_with fail
  all_goals first
    | (exfalso; omega)
    | skip
  refine (uspan_any c u _ (by omega)).mono ?_
  rintro e w2 ⟨rfl, hb2⟩
  rw [HE.out]
  obtain ⟨S0, S1⟩ := spV c u
  simp only [spanV]
  have hz2 : w.heap.size + 1 < w2.heap.size := by have := hb2.size; (try simp at this); omega
  have HB2 := hide (show Below w.heap.size w w2 by have hp := HB1.out; refine Below.trans ?_ (hb2.mono (by first | omega | (simp; done) | (simp; omega))); (repeat' (first | (with_reducible exact Below.refl _ _) | (with_reducible assumption) | (with_reducible refine Below.alloc ?_ ?_ _) | (with_reducible refine below_drewN ?_ _) | (with_reducible refine Below.drew ?_) | (with_reducible refine Below.setCell ?_ ?_ _) | (with_reducible refine Below.trans ?_ (Below.mono (by assumption) ?_)) | go_size | (simp at *; omega))))
  have HQ2 := hide (show CalAt w2 w.heap.size c from calAt_below hb2 (by first | omega | (simp; done) | (simp; omega)) (by first | exact HQ1.out | exact calAt_alloc HQ1.out (by omega) _ | exact calAt_alloc (calAt_alloc HQ1.out (by omega) _) (by simp; omega) _))
  clear q0 q1 q2 q3 q4 q5 q6 q7 q8 q9 q10 q11 q12 q13
  obtain ⟨q0, q1, q2, q3, q4, q5, q6, q7, q8, q9, q10, q11, q12, q13⟩ := HQ2.out
  have HU2 := hide (show UnAt w2 (w.heap.size + 1) u from unAt_below hb2 (by first | omega | (simp; done) | (simp; omega)) (by first | exact HU1.out | exact unAt_alloc HU1.out (by omega) _ | exact unAt_alloc (unAt_alloc HU1.out (by omega) _) (by simp; omega) _))
  clear u0 u1 u2
  obtain ⟨u0, u1, u2⟩ := HU2.out
  have hy2 : w.heap.size < w2.heap.size := by omega
  clear hb2
  go_wp2_with fail
  refine (down_any c u lv _ (by omega)).mono ?_
  rintro e w3 ⟨rfl, hb3⟩
  rw [HC.out.1, HC.out.2.1, HC.out.2.2]
  simp only [unitV]
  have hz3 : w.heap.size + 1 < w3.heap.size := by have := hb3.size; (try simp at this); omega
  have HB3 := hide (show Below w.heap.size w w3 by have hp := HB2.out; refine Below.trans ?_ (hb3.mono (by first | omega | (simp; done) | (simp; omega))); (repeat' (first | (with_reducible exact Below.refl _ _) | (with_reducible assumption) | (with_reducible refine Below.alloc ?_ ?_ _) | (with_reducible refine below_drewN ?_ _) | (with_reducible refine Below.drew ?_) | (with_reducible refine Below.setCell ?_ ?_ _) | (with_reducible refine Below.trans ?_ (Below.mono (by assumption) ?_)) | go_size | (simp at *; omega))))
  have HQ3 := hide (show CalAt w3 w.heap.size c from calAt_below hb3 (by first | omega | (simp; done) | (simp; omega)) (by first | exact HQ2.out | exact calAt_alloc HQ2.out (by omega) _ | exact calAt_alloc (calAt_alloc HQ2.out (by omega) _) (by simp; omega) _))
  clear q0 q1 q2 q3 q4 q5 q6 q7 q8 q9 q10 q11 q12 q13
  obtain ⟨q0, q1, q2, q3, q4, q5, q6, q7, q8, q9, q10, q11, q12, q13⟩ := HQ3.out
  have HU3 := hide (show UnAt w3 (w.heap.size + 1) u from unAt_below hb3 (by first | omega | (simp; done) | (simp; omega)) (by first | exact HU2.out | exact unAt_alloc HU2.out (by omega) _ | exact unAt_alloc (unAt_alloc HU2.out (by omega) _) (by simp; omega) _))
  clear u0 u1 u2
  obtain ⟨u0, u1, u2⟩ := HU3.out
  have hy3 : w.heap.size < w3.heap.size := by omega
  clear hb3
  clear q0 q1 q2 q3 q4 q5 q6 q7 q8 q9 q10 q11 q12 q13
  have hBel := HB3.out
  go_wp2
  all_goals first
    | (exfalso; omega)
    | (go_ret; exact ⟨ret_bool (by simp [unB]), by (repeat' (first | (with_reducible exact Below.refl _ _) | (with_reducible assumption) | (with_reducible refine Below.alloc ?_ ?_ _) | (with_reducible refine below_drewN ?_ _) | (with_reducible refine Below.drew ?_) | (with_reducible refine Below.setCell ?_ ?_ _) | (with_reducible refine Below.trans ?_ (Below.mono (by assumption) ?_)) | go_size | (simp at *; omega)))⟩)

set_option maxRecDepth 100000 in
set_option maxHeartbeats 3200000 in
theorem ud_yes (c : Cal) (u : Un) (lv : Int) (w : World) (hn : c.name.size ≤ 100) (hE : unitE c u = 0) (hl1 : u.lv ≤ lv) (hl2 : lv ≤ 5) :
    Calls Try.prog 7 #[calV c, unitV u, .int .i64 lv] w fun e w' => e = .returned (.bool true) ∧ Below w.heap.size w w' := by
  obtain ⟨hf, hul1, hul5, hA, hx, hi⟩ := un_lv hE
  obtain ⟨a, b, e0, e1, e2, hab, hb, ea, eb⟩ := dn_facts hE hl1 hl2
  have hfl := frame_lv hf lv (by omega) hl2
  have hnb := cnt_bd c u.yr hA lv
  have hS := sp_get hE
  have hUA := (un_mk hfl a (by omega)).1
  have hUB := (un_mk hfl b hb).1
  have hSA := sp_mk hfl a (by omega)
  have hSB := sp_mk hfl b hb
  rw [ea] at hSA
  rw [eb] at hSB
  have hUP := dn_up hE hl1 hl2 a b hb ea eb
  obtain ⟨sa, hsa⟩ : ∃ x, x = dayW c u.yr (cutA c u) := ⟨_, rfl⟩
  obtain ⟨sb, hsb⟩ : ∃ x, x = dayW c u.yr (cutB c u) := ⟨_, rfl⟩
  obtain ⟨ta, hta⟩ : ∃ x, x = dayW c u.yr (cutN c u.yr lv (a + 1)) := ⟨_, rfl⟩
  obtain ⟨tb, htb⟩ : ∃ x, x = dayW c u.yr (cutN c u.yr lv b) := ⟨_, rfl⟩
  rw [← hsa, ← hsb] at hS
  rw [← hsa, ← hta] at hSA
  rw [← hsb, ← htb] at hSB
  have hub : unB u.lv u.yr u.ix u.lv u.yr u.ix = true := unB_same _ _ _
  have hb60 : b < 60 := by omega
  have HS := hide hS
  have HSA := hide hSA
  have HSB := hide hSB
  have HUA := hide hUA
  have HUB := hide hUB
  have HUP := hide hUP
  have HE := hide hE
  have HD := hide (And.intro e0 (And.intro e1 e2))
  clear hE hS hSA hSB hUA hUB hUP e0 e1 e2 hsa hsb hta htb hf hA hx hi hfl ea eb hb hnb
  simp only [calV, unitV]
  go_enter Try.func7, Try.ntmps7
  go_wp2_with fail
  refine (live16_any _).mono ?_
  rintro e w1 ⟨rfl, hb1⟩
  have hz1 : w.heap.size + 1 < w1.heap.size := by have := hb1.size; simp at this; omega
  have HB1 := hide (show Below w.heap.size w w1 by refine Below.trans ?_ (hb1.mono (by first | omega | (simp; done) | (simp; omega))); (repeat' (first | (with_reducible exact Below.refl _ _) | (with_reducible assumption) | (with_reducible refine Below.alloc ?_ ?_ _) | (with_reducible refine below_drewN ?_ _) | (with_reducible refine Below.drew ?_) | (with_reducible refine Below.setCell ?_ ?_ _) | (with_reducible refine Below.trans ?_ (Below.mono (by assumption) ?_)) | go_size | (simp at *; omega))))
  have HQ1 := hide (calAt_below hb1 (by simp; omega) (calAt_alloc (calAt_new w c) (by simp) _))
  have HU1 := hide (unAt_below hb1 (by simp) (unAt_new w c u))
  obtain ⟨q0, q1, q2, q3, q4, q5, q6, q7, q8, q9, q10, q11, q12, q13⟩ := HQ1.out
  obtain ⟨u0, u1, u2⟩ := HU1.out
  have hy1 : w.heap.size < w1.heap.size := by omega
  clear hb1
  go_wp2_with fail
  all_goals first
    | (exfalso; omega)
    | skip
  refine (uspan_any c u _ (by omega)).mono ?_
  rintro e w2 ⟨rfl, hb2⟩
  rw [HE.out, HS.out]
  simp only [spanV]
  have hz2 : w.heap.size + 1 < w2.heap.size := by have := hb2.size; (try simp at this); omega
  have HB2 := hide (show Below w.heap.size w w2 by have hp := HB1.out; refine Below.trans ?_ (hb2.mono (by first | omega | (simp; done) | (simp; omega))); (repeat' (first | (with_reducible exact Below.refl _ _) | (with_reducible assumption) | (with_reducible refine Below.alloc ?_ ?_ _) | (with_reducible refine below_drewN ?_ _) | (with_reducible refine Below.drew ?_) | (with_reducible refine Below.setCell ?_ ?_ _) | (with_reducible refine Below.trans ?_ (Below.mono (by assumption) ?_)) | go_size | (simp at *; omega))))
  have HQ2 := hide (show CalAt w2 w.heap.size c from calAt_below hb2 (by first | omega | (simp; done) | (simp; omega)) (by first | exact HQ1.out | exact calAt_alloc HQ1.out (by omega) _ | exact calAt_alloc (calAt_alloc HQ1.out (by omega) _) (by simp; omega) _))
  clear q0 q1 q2 q3 q4 q5 q6 q7 q8 q9 q10 q11 q12 q13
  obtain ⟨q0, q1, q2, q3, q4, q5, q6, q7, q8, q9, q10, q11, q12, q13⟩ := HQ2.out
  have HU2 := hide (show UnAt w2 (w.heap.size + 1) u from unAt_below hb2 (by first | omega | (simp; done) | (simp; omega)) (by first | exact HU1.out | exact unAt_alloc HU1.out (by omega) _ | exact unAt_alloc (unAt_alloc HU1.out (by omega) _) (by simp; omega) _))
  clear u0 u1 u2
  obtain ⟨u0, u1, u2⟩ := HU2.out
  have hy2 : w.heap.size < w2.heap.size := by omega
  clear hb2
  go_wp2_with fail
  refine (down_any c u lv _ (by omega)).mono ?_
  rintro e w3 ⟨rfl, hb3⟩
  rw [HD.out.1, HD.out.2.1, HD.out.2.2]
  simp only [unitV]
  have HS3 := hide (show SpAt w3 w2.heap.size ⟨sa, sb - 1⟩ from spAt_below hb3 (by simp) (spAt_fresh w2 ⟨sa, sb - 1⟩))
  have hS3 : w2.heap.size < w3.heap.size := by have := hb3.size; (try simp at this); omega
  have hz3 : w.heap.size + 1 < w3.heap.size := by have := hb3.size; (try simp at this); omega
  have HB3 := hide (show Below w.heap.size w w3 by have hp := HB2.out; refine Below.trans ?_ (hb3.mono (by first | omega | (simp; done) | (simp; omega))); (repeat' (first | (with_reducible exact Below.refl _ _) | (with_reducible assumption) | (with_reducible refine Below.alloc ?_ ?_ _) | (with_reducible refine below_drewN ?_ _) | (with_reducible refine Below.drew ?_) | (with_reducible refine Below.setCell ?_ ?_ _) | (with_reducible refine Below.trans ?_ (Below.mono (by assumption) ?_)) | go_size | (simp at *; omega))))
  have HQ3 := hide (show CalAt w3 w.heap.size c from calAt_below hb3 (by first | omega | (simp; done) | (simp; omega)) (by first | exact HQ2.out | exact calAt_alloc HQ2.out (by omega) _ | exact calAt_alloc (calAt_alloc HQ2.out (by omega) _) (by simp; omega) _))
  clear q0 q1 q2 q3 q4 q5 q6 q7 q8 q9 q10 q11 q12 q13
  obtain ⟨q0, q1, q2, q3, q4, q5, q6, q7, q8, q9, q10, q11, q12, q13⟩ := HQ3.out
  have HU3 := hide (show UnAt w3 (w.heap.size + 1) u from unAt_below hb3 (by first | omega | (simp; done) | (simp; omega)) (by first | exact HU2.out | exact unAt_alloc HU2.out (by omega) _ | exact unAt_alloc (unAt_alloc HU2.out (by omega) _) (by simp; omega) _))
  clear u0 u1 u2
  obtain ⟨u0, u1, u2⟩ := HU3.out
  have hy3 : w.heap.size < w3.heap.size := by omega
  clear hb3
  go_wp2_with fail
  all_goals first
    | (exfalso; omega)
    | skip
  refine (uspan_any c ⟨lv, u.yr, (a : Int) + 1⟩ _ (by omega)).mono ?_
  rintro e w4 ⟨rfl, hb4⟩
  rw [HUA.out, HSA.out]
  simp only [spanV]
  have HS4 := hide (show SpAt w4 w2.heap.size ⟨sa, sb - 1⟩ from spAt_below hb4 (by first | omega | (simp; done) | (simp; omega)) (by first | exact HS3.out | exact spAt_alloc HS3.out (by omega) _ | exact spAt_alloc (spAt_alloc HS3.out (by omega) _) (by simp; omega) _))
  have hS4 : w2.heap.size < w4.heap.size := by have := hb4.size; (try simp at this); omega
  have HV4 := hide (show UnAt w4 w3.heap.size ⟨lv, u.yr, (a : Int) + 1⟩ from unAt_below hb4 (by simp; omega) (unAt_alloc (unAt_fresh w3 ⟨lv, u.yr, (a : Int) + 1⟩) (by simp) _))
  have hV4 : w3.heap.size < w4.heap.size := by have := hb4.size; (try simp at this); omega
  have HX4 := hide (show UnAt w4 (w3.heap.size + 1) ⟨lv, u.yr, (b : Int) + 1⟩ from unAt_below hb4 (by simp) (by simpa using unAt_fresh (w3.alloc (unObj ⟨lv, u.yr, (a : Int) + 1⟩)) ⟨lv, u.yr, (b : Int) + 1⟩))
  have hX4 : w3.heap.size + 1 < w4.heap.size := by have := hb4.size; (try simp at this); omega
  have hz4 : w.heap.size + 1 < w4.heap.size := by have := hb4.size; (try simp at this); omega
  have HB4 := hide (show Below w.heap.size w w4 by have hp := HB3.out; refine Below.trans ?_ (hb4.mono (by first | omega | (simp; done) | (simp; omega))); (repeat' (first | (with_reducible exact Below.refl _ _) | (with_reducible assumption) | (with_reducible refine Below.alloc ?_ ?_ _) | (with_reducible refine below_drewN ?_ _) | (with_reducible refine Below.drew ?_) | (with_reducible refine Below.setCell ?_ ?_ _) | (with_reducible refine Below.trans ?_ (Below.mono (by assumption) ?_)) | go_size | (simp at *; omega))))
  have HQ4 := hide (show CalAt w4 w.heap.size c from calAt_below hb4 (by first | omega | (simp; done) | (simp; omega)) (by first | exact HQ3.out | exact calAt_alloc HQ3.out (by omega) _ | exact calAt_alloc (calAt_alloc HQ3.out (by omega) _) (by simp; omega) _))
  clear q0 q1 q2 q3 q4 q5 q6 q7 q8 q9 q10 q11 q12 q13
  obtain ⟨q0, q1, q2, q3, q4, q5, q6, q7, q8, q9, q10, q11, q12, q13⟩ := HQ4.out
  have HU4 := hide (show UnAt w4 (w.heap.size + 1) u from unAt_below hb4 (by first | omega | (simp; done) | (simp; omega)) (by first | exact HU3.out | exact unAt_alloc HU3.out (by omega) _ | exact unAt_alloc (unAt_alloc HU3.out (by omega) _) (by simp; omega) _))
  clear u0 u1 u2
  obtain ⟨u0, u1, u2⟩ := HU4.out
  have hy4 : w.heap.size < w4.heap.size := by omega
  clear hb4
  obtain ⟨x0, x1, x2⟩ := HX4.out
  go_wp2_with fail
  refine (uspan_any c ⟨lv, u.yr, (b : Int) + 1⟩ _ (by omega)).mono ?_
  rintro e w5 ⟨rfl, hb5⟩
  rw [HUB.out, HSB.out]
  simp only [spanV]
  clear x0 x1 x2
  have HS5 := hide (show SpAt w5 w2.heap.size ⟨sa, sb - 1⟩ from spAt_below hb5 (by first | omega | (simp; done) | (simp; omega)) (by first | exact HS4.out | exact spAt_alloc HS4.out (by omega) _ | exact spAt_alloc (spAt_alloc HS4.out (by omega) _) (by simp; omega) _))
  have hS5 : w2.heap.size < w5.heap.size := by have := hb5.size; (try simp at this); omega
  have HV5 := hide (show UnAt w5 w3.heap.size ⟨lv, u.yr, (a : Int) + 1⟩ from unAt_below hb5 (by first | omega | (simp; done) | (simp; omega)) (by first | exact HV4.out | exact unAt_alloc HV4.out (by omega) _ | exact unAt_alloc (unAt_alloc HV4.out (by omega) _) (by simp; omega) _))
  have hV5 : w3.heap.size < w5.heap.size := by have := hb5.size; (try simp at this); omega
  have HX5 := hide (show UnAt w5 (w3.heap.size + 1) ⟨lv, u.yr, (b : Int) + 1⟩ from unAt_below hb5 (by simp; omega) (unAt_alloc HX4.out hX4 _))
  have hX5 : w3.heap.size + 1 < w5.heap.size := by have := hb5.size; (try simp at this); omega
  have HA5 := hide (show SpAt w5 w4.heap.size ⟨sa, ta - 1⟩ from spAt_below hb5 (by simp) (spAt_fresh w4 ⟨sa, ta - 1⟩))
  have hA5 : w4.heap.size < w5.heap.size := by have := hb5.size; (try simp at this); omega
  have hz5 : w.heap.size + 1 < w5.heap.size := by have := hb5.size; (try simp at this); omega
  have HB5 := hide (show Below w.heap.size w w5 by have hp := HB4.out; refine Below.trans ?_ (hb5.mono (by first | omega | (simp; done) | (simp; omega))); (repeat' (first | (with_reducible exact Below.refl _ _) | (with_reducible assumption) | (with_reducible refine Below.alloc ?_ ?_ _) | (with_reducible refine below_drewN ?_ _) | (with_reducible refine Below.drew ?_) | (with_reducible refine Below.setCell ?_ ?_ _) | (with_reducible refine Below.trans ?_ (Below.mono (by assumption) ?_)) | go_size | (simp at *; omega))))
  have HQ5 := hide (show CalAt w5 w.heap.size c from calAt_below hb5 (by first | omega | (simp; done) | (simp; omega)) (by first | exact HQ4.out | exact calAt_alloc HQ4.out (by omega) _ | exact calAt_alloc (calAt_alloc HQ4.out (by omega) _) (by simp; omega) _))
  clear q0 q1 q2 q3 q4 q5 q6 q7 q8 q9 q10 q11 q12 q13
  obtain ⟨q0, q1, q2, q3, q4, q5, q6, q7, q8, q9, q10, q11, q12, q13⟩ := HQ5.out
  have HU5 := hide (show UnAt w5 (w.heap.size + 1) u from unAt_below hb5 (by first | omega | (simp; done) | (simp; omega)) (by first | exact HU4.out | exact unAt_alloc HU4.out (by omega) _ | exact unAt_alloc (unAt_alloc HU4.out (by omega) _) (by simp; omega) _))
  clear u0 u1 u2
  obtain ⟨u0, u1, u2⟩ := HU5.out
  have hy5 : w.heap.size < w5.heap.size := by omega
  clear hb5
  clear q0 q1 q2 q3 q4 q5 q6 q7 q8 q9 q10 q11 q12 q13
  obtain ⟨t0, t1⟩ := HS5.out
  obtain ⟨v0, v1, v2⟩ := HV5.out
  obtain ⟨x0, x1, x2⟩ := HX5.out
  obtain ⟨y0, y1⟩ := HA5.out
  go_wp2_with fail
  all_goals first
    | (exfalso; omega)
    | skip
  clear t0 t1 v0 v1 v2 x0 x1 x2 y0 y1 u0 u1 u2
  go_loopw [16] (fun s wr => ∃ i : Nat, s = .int .i64 ((i : Int) + 1) ∧ a ≤ i ∧ i ≤ b + 1 ∧ Below w5.heap.size w5 wr) (fun s _ => (100 - intOf s).toNat)
  case atStart => exact ⟨a, rfl, Nat.le_refl _, by omega, (Below.refl _ _).alloc (Nat.le_refl _) _⟩
  case round =>
    obtain ⟨i, rfl, hai, hi, hB⟩ := hrel
    have hlt := hB.size
    have hyr : w.heap.size < wr.heap.size := by omega
    have hy1r : w.heap.size + 1 < wr.heap.size := by omega
    have HQr := hide (show CalAt wr w.heap.size c from calAt_below hB (by omega) HQ5.out)
    have HUr := hide (show UnAt wr (w.heap.size + 1) u from unAt_below hB (by omega) HU5.out)
    have HXr := hide (show UnAt wr (w3.heap.size + 1) ⟨lv, u.yr, (b : Int) + 1⟩ from unAt_below hB (by omega) HX5.out)
    have HBr := hide (HB5.out.trans (hB.mono (by omega)))
    have HBB := hide hB
    clear hB
    obtain ⟨x0, x1, x2⟩ := HXr.out
    by_cases hin : i ≤ b
    · obtain ⟨q0, q1, q2, q3, q4, q5, q6, q7, q8, q9, q10, q11, q12, q13⟩ := HQr.out
      obtain ⟨u0, u1, u2⟩ := HUr.out
      go_wp2_with fail
      all_goals first
        | (exfalso; omega)
        | skip
      refine (up_any c ⟨lv, u.yr, (i : Int) + 1⟩ u.lv _ (by omega)).mono ?_
      rintro e w6 ⟨rfl, hb6⟩
      rw [(HUP.out i hai hin).1, (HUP.out i hai hin).2]
      simp only [unitV]
      clear q0 q1 q2 q3 q4 q5 q6 q7 q8 q9 q10 q11 q12 q13
      clear u0 u1 u2 x0 x1 x2
      obtain ⟨u0, u1, u2⟩ := (show UnAt w6 (w.heap.size + 1) u from unAt_below hb6 (by omega) HUr.out)
      have hz6 : w.heap.size + 1 < w6.heap.size := Nat.lt_of_lt_of_le hy1r hb6.size
      have hBel := (show Below w5.heap.size w5 w6 from HBB.out.trans (hb6.mono (by omega)))
      have h56 : w5.heap.size ≤ w6.heap.size := hBel.size
      clear hb6
      go_wp2
      all_goals first
        | (exfalso; omega)
        | exact ⟨⟨i + 1, by go_num, by omega, by omega, by (repeat' (first | (with_reducible exact Below.refl _ _) | (with_reducible assumption) | (with_reducible refine Below.alloc ?_ ?_ _) | (with_reducible refine below_drewN ?_ _) | (with_reducible refine Below.drew ?_) | (with_reducible refine Below.setCell ?_ ?_ _) | (with_reducible refine Below.trans ?_ (Below.mono (by assumption) ?_)) | go_size | (simp at *; omega)))⟩, by simp [intOf]; omega⟩
    · have hBel := HBr.out
      go_wp2
      all_goals first
        | (exfalso; omega)
        | (go_ret; exact ⟨by simp, HBr.out⟩)

theorem ud_walk (c : Cal) (hn : c.name.size ≤ 9223372036854775807) (u : Un) (lv : Int) (w : World) :
    Calls Try.prog 7 #[calV c, unitV u, .int .i64 lv] w fun e w' => e = .returned (.bool true) ∧ Below w.heap.size w w' := by
  by_cases h : 100 < c.name.size
  · exact ud_long c u lv w h hn
  · by_cases hE : unitE c u = 0
    · by_cases hl : u.lv ≤ lv ∧ lv ≤ 5
      · exact ud_yes c u lv w (by omega) hE hl.1 hl.2
      · exact ud_arg c u lv w (by omega) hE (by omega)
    · exact ud_no c u lv w (by omega) hE
end Go.Proofs.Ytepmfpgljcbkmaa
