/- Contracts of find.Next, find.Back. The walk of FindNext. -/
import Derived.Test.YtepmfpgljcbkmaaFindB
namespace Go.Proofs.Ytepmfpgljcbkmaa
open Go.RowKit Qd
set_option linter.unusedSimpArgs false
set_option linter.unusedVariables false

/-- The unit behind, and why there is none. -/
def nxU0 (u : Un) : Un := ⟨u.lv, u.yr, u.ix + 1⟩
def nxU1 (u : Un) : Un := ⟨u.lv, u.yr + 1, 1⟩
def nxE (c : Cal) (u : Un) : Int := if unitE c u = 0 then (if unitE c (nxU0 u) = 0 then 0 else unitE c (nxU1 u)) else unitE c u
def nxU (c : Cal) (u : Un) : Un := if unitE c u = 0 then (if unitE c (nxU0 u) = 0 then nxU0 u else if unitE c (nxU1 u) = 0 then nxU1 u else ⟨0, 0, 0⟩) else ⟨0, 0, 0⟩
/-- The unit ahead, and why there is none. -/
def bkE (c : Cal) (u : Un) : Int := if unitE c u = 0 then (if 1 < u.ix then 0 else frameE c u.lv (u.yr - 1)) else unitE c u
def bkU (c : Cal) (u : Un) : Un := if unitE c u = 0 then (if 1 < u.ix then ⟨u.lv, u.yr, u.ix - 1⟩ else if frameE c u.lv (u.yr - 1) = 0 then ⟨u.lv, u.yr - 1, (cntL c (u.yr - 1) u.lv : Int)⟩ else ⟨0, 0, 0⟩) else ⟨0, 0, 0⟩

theorem res_next {tmps : Array Value} {W : World} {B : Nat} {a0 a1 a2 e : Int} (h6 : tmps[4]? = some (.pointer (some ⟨B, 0, none⟩))) (h7 : tmps[5]? = some (.int .i64 e))
    (g6 : BlkIs W B #[.int .i64 a0, .int .i64 a1, .int .i64 a2] 35) :
    (results Try.f29 tmps).run Try.prog W = .ok (.tuple #[.agg #[.int .i64 a0, .int .i64 a1, .int .i64 a2], .int .i64 e]) W := by
  have c0 := g6.cell 0
  have c1 := g6.cell 1
  have c2 := g6.cell 2
  simp at c0 c1 c2
  simp [results, Try.results29, go_sem, h6, h7, c0, c1, c2]
theorem res_back {tmps : Array Value} {W : World} {B : Nat} {a0 a1 a2 e : Int} (h6 : tmps[4]? = some (.pointer (some ⟨B, 0, none⟩))) (h7 : tmps[5]? = some (.int .i64 e))
    (g6 : BlkIs W B #[.int .i64 a0, .int .i64 a1, .int .i64 a2] 35) :
    (results Try.f30 tmps).run Try.prog W = .ok (.tuple #[.agg #[.int .i64 a0, .int .i64 a1, .int .i64 a2], .int .i64 e]) W := by
  have c0 := g6.cell 0
  have c1 := g6.cell 1
  have c2 := g6.cell 2
  simp at c0 c1 c2
  simp [results, Try.results30, go_sem, h6, h7, c0, c1, c2]
theorem BlkIs.set2nd {w : World} {B : Nat} {a b c : Value} {t : TypeId} (h : BlkIs w B #[a, b, c] t) (y : Value) : BlkIs (w.setCell ⟨B, 1, none⟩ y) B #[a, y, c] t := by
  unfold BlkIs at h ⊢
  simp [World.setCell, Array.getElem?_modify, h]
theorem BlkIs.set3rd {w : World} {B : Nat} {a b c : Value} {t : TypeId} (h : BlkIs w B #[a, b, c] t) (z : Value) : BlkIs (w.setCell ⟨B, 2, none⟩ z) B #[a, b, z] t := by
  unfold BlkIs at h ⊢
  simp [World.setCell, Array.getElem?_modify, h]
/-- The cells of a unit's block. -/
theorem BlkIs.three {w : World} {B : Nat} {a b c : Value} {t : TypeId} (h : BlkIs w B #[a, b, c] t) :
    (w.cell? ⟨B, 0, none⟩ = some a ∧ w.cell? ⟨B, 1, none⟩ = some b ∧ w.cell? ⟨B, 2, none⟩ = some c) ∧ (w.frozen? ⟨B, 0, none⟩ = false ∧ w.frozen? ⟨B, 1, none⟩ = false ∧ w.frozen? ⟨B, 2, none⟩ = false) :=
  ⟨⟨h.cell 0, h.cell 1, h.cell 2⟩, h.frozen 0, h.frozen 1, h.frozen 2⟩

set_option maxRecDepth 100000 in
set_option maxHeartbeats 1600000 in
theorem fnext_bad (c : Cal) (u : Un) (w : World) (hn : c.name.size ≤ 1000) (hE : ¬ unitE c u = 0) :
    Calls Try.prog 29 #[calV c, unitV u] w fun e w' => e = .returned (.tuple #[.agg #[.int .i64 0, .int .i64 0, .int .i64 0], .int .i64 (unitE c u)]) ∧ Below w.heap.size w w' := by
  have hE' : (unitE c u != 0) = true := by simpa using hE
  clear hE
  simp only [calV, unitV]
  go_enter Try.func29, Try.ntmps29
  go_wp2_with fail
  refine (ucheck_any c u _ hn).mono ?_
  rintro e w1 ⟨rfl, hb1⟩
  have G := (show BlkIs w1 (w.heap.size + 1 + 1) #[.int .i64 0, .int .i64 0, .int .i64 0] 35 from BlkIs.below (by simpa using BlkIs.new ((w.alloc (calObj c)).alloc (unObj u)) #[.int .i64 0, .int .i64 0, .int .i64 0] 35) hb1 (by simp))
  have HW := hide (show Below w.heap.size w w1 by (repeat' (first | (with_reducible exact Below.refl _ _) | (with_reducible assumption) | (with_reducible refine Below.alloc ?_ ?_ _) | (with_reducible refine below_drewN ?_ _) | (with_reducible refine Below.drew ?_) | (with_reducible refine Below.setCell ?_ ?_ _) | (with_reducible refine Below.trans ?_ (Below.mono (by assumption) ?_)) | go_size | (simp at *; omega))))
  have hkB : w.heap.size ≤ w.heap.size + 1 + 1 := by omega
  clear hb1
  generalize w.heap.size + 1 + 1 = R at *
  obtain ⟨⟨r0, r1, r2⟩, f0, f1, f2⟩ := G.three
  have HG := hide G
  have hsz := G.lt
  clear G
  go_wp2
  exact bodyPost_ret (v := .tuple #[.agg #[.int .i64 0, .int .i64 0, .int .i64 0], .int .i64 (unitE c u)]) (by exact res_next rfl rfl (HG.out.set123 _ _ _)) rfl ⟨rfl, ((HW.out.setCell hkB _).setCell hkB _).setCell hkB _⟩

set_option maxRecDepth 100000 in
set_option maxHeartbeats 3200000 in
theorem fnext_in (c : Cal) (u : Un) (w : World) (hn : c.name.size ≤ 1000) (hE : unitE c u = 0) (h0 : unitE c (nxU0 u) = 0) :
    Calls Try.prog 29 #[calV c, unitV u] w fun e w' => e = .returned (.tuple #[.agg #[.int .i64 u.lv, .int .i64 u.yr, .int .i64 (u.ix + 1)], .int .i64 0]) ∧ Below w.heap.size w w' := by
  obtain ⟨hf, hl1, hl5, hA, hx, hi⟩ := un_lv hE
  have hcb := cnt_bd c u.yr hA u.lv
  have hyy := ask_ok hA
  have hb : 1 ≤ u.ix ∧ u.ix ≤ 60 ∧ 1600 ≤ u.yr ∧ u.yr ≤ 9999 := by omega
  have HE := hide hE
  have H0 := hide h0
  clear hE h0 hf hA hx hi hcb hyy
  simp only [calV, unitV]
  go_enter Try.func29, Try.ntmps29
  go_wp2_with fail
  refine (ucheck_any c u _ hn).mono ?_
  rintro e w1 ⟨rfl, hb1⟩
  rw [HE.out]
  have G := (show BlkIs w1 (w.heap.size + 1 + 1) #[.int .i64 0, .int .i64 0, .int .i64 0] 35 from BlkIs.below (by simpa using BlkIs.new ((w.alloc (calObj c)).alloc (unObj u)) #[.int .i64 0, .int .i64 0, .int .i64 0] 35) hb1 (by simp))
  have HQ1 := hide (show CalAt w1 w.heap.size c from calAt_below hb1 (by simp; omega) (calAt_alloc (calAt_alloc (calAt_new w c) (by simp) _) (by simp; omega) _))
  have HU1 := hide (show UnAt w1 (w.heap.size + 1) u from unAt_below hb1 (by simp) (unAt_alloc (unAt_new w c u) (by simp) _))
  have HW := hide (show Below w.heap.size w w1 by (repeat' (first | (with_reducible exact Below.refl _ _) | (with_reducible assumption) | (with_reducible refine Below.alloc ?_ ?_ _) | (with_reducible refine below_drewN ?_ _) | (with_reducible refine Below.drew ?_) | (with_reducible refine Below.setCell ?_ ?_ _) | (with_reducible refine Below.trans ?_ (Below.mono (by assumption) ?_)) | go_size | (simp at *; omega))))
  have hkB : w.heap.size ≤ w.heap.size + 1 + 1 := by omega
  have hz1 : w.heap.size + 1 < w1.heap.size := by have := hb1.size; simp at this; omega
  have hz0 : w.heap.size < w1.heap.size := by omega
  clear hb1
  generalize w.heap.size + 1 + 1 = R at *
  have HG := hide G
  have hR := G.lt
  have HKB := hide hkB
  obtain ⟨q0, q1, q2, q3, q4, q5, q6, q7, q8, q9, q10, q11, q12, q13⟩ := HQ1.out
  obtain ⟨u0, u1, u2⟩ := HU1.out
  clear G hkB
  go_wp2_with fail
  refine (ucheck_any c ⟨u.lv, u.yr, u.ix + 1⟩ _ hn).mono ?_
  rintro e w2 ⟨rfl, hb2⟩
  rw [show unitE c ⟨u.lv, u.yr, u.ix + 1⟩ = 0 from H0.out]
  have G2 := HG.out.alloc (.cells #[.int .i64 u.lv, .int .i64 u.yr, .int .i64 (u.ix + 1)] 35) |>.call hb2
  have V2 := (BlkIs.new w1 #[.int .i64 u.lv, .int .i64 u.yr, .int .i64 (u.ix + 1)] 35).call hb2
  have HW2 := hide ((HW.out.alloc (by omega) _).trans (hb2.mono (by simp; omega)) : Below w.heap.size w w2)
  obtain ⟨⟨r0, r1, r2⟩, f0, f1, f2⟩ := G2.three
  obtain ⟨⟨v0, v1, v2⟩, _⟩ := V2.three
  have hR2 := G2.lt
  have HG2 := hide G2
  clear q0 q1 q2 q3 q4 q5 q6 q7 q8 q9 q10 q11 q12 q13
  clear hb2 G2 V2 u0 u1 u2
  have hne : R ≠ w1.heap.size := by omega
  have hne' : w1.heap.size ≠ R := by omega
  go_wp2
  exact bodyPost_ret (v := .tuple #[.agg #[.int .i64 u.lv, .int .i64 u.yr, .int .i64 (u.ix + 1)], .int .i64 0]) (by exact res_next rfl rfl (HG2.out.set123 _ _ _)) rfl ⟨rfl, ((HW2.out.setCell HKB.out _).setCell HKB.out _).setCell HKB.out _⟩

set_option maxRecDepth 100000 in
set_option maxHeartbeats 3200000 in
theorem fnext_over (c : Cal) (u : Un) (w : World) (hn : c.name.size ≤ 1000) (hE : unitE c u = 0) (h0 : ¬ unitE c (nxU0 u) = 0) :
    Calls Try.prog 29 #[calV c, unitV u] w fun e w' => e = .returned (.tuple #[unitV (nxU c u), .int .i64 (nxE c u)]) ∧ Below w.heap.size w w' := by
  obtain ⟨hf, hl1, hl5, hA, hx, hi⟩ := un_lv hE
  have hcb := cnt_bd c u.yr hA u.lv
  have hyy := ask_ok hA
  have hb : 1 ≤ u.ix ∧ u.ix ≤ 60 ∧ 1600 ≤ u.yr ∧ u.yr ≤ 9999 := by omega
  have HE := hide hE
  have hee : nxE c u = unitE c (nxU1 u) := by rw [nxE, if_pos hE, if_neg h0]
  have huu : nxU c u = if unitE c (nxU1 u) = 0 then nxU1 u else ⟨0, 0, 0⟩ := by rw [nxU, if_pos hE, if_neg h0]
  have H0 := hide (show (unitE c ⟨u.lv, u.yr, u.ix + 1⟩ == 0) = false by simpa [nxU0] using h0)
  rw [hee, huu]
  clear hE h0 hf hA hx hi hcb hyy hee huu
  by_cases h1 : unitE c (nxU1 u) = 0
  · rw [if_pos h1, h1]
    have H1 := hide (show unitE c ⟨u.lv, u.yr + 1, 1⟩ = 0 from h1)
    clear h1
    simp only [calV, unitV, nxU1]
    go_enter Try.func29, Try.ntmps29
    go_wp2_with fail
    refine (ucheck_any c u _ hn).mono ?_
    rintro e w1 ⟨rfl, hb1⟩
    rw [HE.out]
    have G := (show BlkIs w1 (w.heap.size + 1 + 1) #[.int .i64 0, .int .i64 0, .int .i64 0] 35 from BlkIs.below (by simpa using BlkIs.new ((w.alloc (calObj c)).alloc (unObj u)) #[.int .i64 0, .int .i64 0, .int .i64 0] 35) hb1 (by simp))
    have HQ1 := hide (show CalAt w1 w.heap.size c from calAt_below hb1 (by simp; omega) (calAt_alloc (calAt_alloc (calAt_new w c) (by simp) _) (by simp; omega) _))
    have HU1 := hide (show UnAt w1 (w.heap.size + 1) u from unAt_below hb1 (by simp) (unAt_alloc (unAt_new w c u) (by simp) _))
    have HW := hide (show Below w.heap.size w w1 by (repeat' (first | (with_reducible exact Below.refl _ _) | (with_reducible assumption) | (with_reducible refine Below.alloc ?_ ?_ _) | (with_reducible refine below_drewN ?_ _) | (with_reducible refine Below.drew ?_) | (with_reducible refine Below.setCell ?_ ?_ _) | (with_reducible refine Below.trans ?_ (Below.mono (by assumption) ?_)) | go_size | (simp at *; omega))))
    have hkB : w.heap.size ≤ w.heap.size + 1 + 1 := by omega
    have hz1 : w.heap.size + 1 < w1.heap.size := by have := hb1.size; simp at this; omega
    have hz0 : w.heap.size < w1.heap.size := by omega
    clear hb1
    generalize w.heap.size + 1 + 1 = R at *
    have HG := hide G
    have hR := G.lt
    have HKB := hide hkB
    obtain ⟨q0, q1, q2, q3, q4, q5, q6, q7, q8, q9, q10, q11, q12, q13⟩ := HQ1.out
    obtain ⟨u0, u1, u2⟩ := HU1.out
    clear G hkB
    go_wp2_with fail
    refine (ucheck_any c ⟨u.lv, u.yr, u.ix + 1⟩ _ hn).mono ?_
    rintro e w2 ⟨rfl, hb2⟩
    have G2 := HG.out.alloc (.cells #[.int .i64 u.lv, .int .i64 u.yr, .int .i64 (u.ix + 1)] 35) |>.call hb2
    have V2 := (BlkIs.new w1 #[.int .i64 u.lv, .int .i64 u.yr, .int .i64 (u.ix + 1)] 35).call hb2
    have HW2 := hide ((HW.out.alloc (by omega) _).trans (hb2.mono (by simp; omega)) : Below w.heap.size w w2)
    have HQ2 := hide (show CalAt w2 w.heap.size c from calAt_below hb2 (by simp; omega) (calAt_alloc HQ1.out hz0 _))
    have HU2 := hide (show UnAt w2 (w.heap.size + 1) u from unAt_below hb2 (by simp; omega) (unAt_alloc HU1.out hz1 _))
    obtain ⟨⟨v0, v1, v2⟩, ⟨g0, g1, g2⟩⟩ := V2.three
    have hz2 : w1.heap.size < w2.heap.size := V2.lt
    have HG2 := hide G2
    have HV2 := hide V2
    have hR2 := G2.lt
    clear q0 q1 q2 q3 q4 q5 q6 q7 q8 q9 q10 q11 q12 q13
    clear hb2 G2 V2 u0 u1 u2
    obtain ⟨q0, q1, q2, q3, q4, q5, q6, q7, q8, q9, q10, q11, q12, q13⟩ := HQ2.out
    obtain ⟨u0, u1, u2⟩ := HU2.out
    have hne : R ≠ w1.heap.size := by omega
    have hne' : w1.heap.size ≠ R := by omega
    have hne2 : w.heap.size ≠ w1.heap.size := by omega
    have hne3 : w.heap.size + 1 ≠ w1.heap.size := by omega
    have h00 := H0.out
    go_wp2_with fail
    all_goals first
      | (exfalso; omega)
      | skip
    refine (ucheck_any c ⟨u.lv, u.yr + 1, 1⟩ _ hn).mono ?_
    rintro e w3 ⟨rfl, hb3⟩
    have G3 := ((HG2.out.far hne _).far hne _).call hb3
    have V3 := ((HV2.out.set2nd _).set3rd _).call hb3
    have hk1 : w.heap.size ≤ w1.heap.size := by omega
    have HW3 := hide (((HW2.out.setCell hk1 _).setCell hk1 _).trans (hb3.mono (by simp; omega)) : Below w.heap.size w w3)
    obtain ⟨⟨r0, r1, r2⟩, f0, f1, f2⟩ := G3.three
    clear v0 v1 v2 g0 g1 g2 u0 u1 u2
    clear q0 q1 q2 q3 q4 q5 q6 q7 q8 q9 q10 q11 q12 q13
    obtain ⟨⟨v0, v1, v2⟩, _⟩ := V3.three
    have hR3 := G3.lt
    have HG3 := hide G3
    clear hb3 G3 V3
    rw [H1.out]
    go_wp2
    exact bodyPost_ret (v := .tuple #[.agg #[.int .i64 u.lv, .int .i64 (u.yr + 1), .int .i64 1], .int .i64 0]) (by exact res_next rfl rfl (HG3.out.set123 _ _ _)) rfl ⟨rfl, ((HW3.out.setCell HKB.out _).setCell HKB.out _).setCell HKB.out _⟩
  · rw [if_neg h1]
    have H1 := hide (show (unitE c ⟨u.lv, u.yr + 1, 1⟩ != 0) = true by simpa [nxU1] using h1)
    clear h1
    simp only [calV, unitV, nxU1]
    go_enter Try.func29, Try.ntmps29
    go_wp2_with fail
    refine (ucheck_any c u _ hn).mono ?_
    rintro e w1 ⟨rfl, hb1⟩
    rw [HE.out]
    have G := (show BlkIs w1 (w.heap.size + 1 + 1) #[.int .i64 0, .int .i64 0, .int .i64 0] 35 from BlkIs.below (by simpa using BlkIs.new ((w.alloc (calObj c)).alloc (unObj u)) #[.int .i64 0, .int .i64 0, .int .i64 0] 35) hb1 (by simp))
    have HQ1 := hide (show CalAt w1 w.heap.size c from calAt_below hb1 (by simp; omega) (calAt_alloc (calAt_alloc (calAt_new w c) (by simp) _) (by simp; omega) _))
    have HU1 := hide (show UnAt w1 (w.heap.size + 1) u from unAt_below hb1 (by simp) (unAt_alloc (unAt_new w c u) (by simp) _))
    have HW := hide (show Below w.heap.size w w1 by (repeat' (first | (with_reducible exact Below.refl _ _) | (with_reducible assumption) | (with_reducible refine Below.alloc ?_ ?_ _) | (with_reducible refine below_drewN ?_ _) | (with_reducible refine Below.drew ?_) | (with_reducible refine Below.setCell ?_ ?_ _) | (with_reducible refine Below.trans ?_ (Below.mono (by assumption) ?_)) | go_size | (simp at *; omega))))
    have hkB : w.heap.size ≤ w.heap.size + 1 + 1 := by omega
    have hz1 : w.heap.size + 1 < w1.heap.size := by have := hb1.size; simp at this; omega
    have hz0 : w.heap.size < w1.heap.size := by omega
    clear hb1
    generalize w.heap.size + 1 + 1 = R at *
    have HG := hide G
    have hR := G.lt
    have HKB := hide hkB
    obtain ⟨q0, q1, q2, q3, q4, q5, q6, q7, q8, q9, q10, q11, q12, q13⟩ := HQ1.out
    obtain ⟨u0, u1, u2⟩ := HU1.out
    clear G hkB
    go_wp2_with fail
    refine (ucheck_any c ⟨u.lv, u.yr, u.ix + 1⟩ _ hn).mono ?_
    rintro e w2 ⟨rfl, hb2⟩
    have G2 := HG.out.alloc (.cells #[.int .i64 u.lv, .int .i64 u.yr, .int .i64 (u.ix + 1)] 35) |>.call hb2
    have V2 := (BlkIs.new w1 #[.int .i64 u.lv, .int .i64 u.yr, .int .i64 (u.ix + 1)] 35).call hb2
    have HW2 := hide ((HW.out.alloc (by omega) _).trans (hb2.mono (by simp; omega)) : Below w.heap.size w w2)
    have HQ2 := hide (show CalAt w2 w.heap.size c from calAt_below hb2 (by simp; omega) (calAt_alloc HQ1.out hz0 _))
    have HU2 := hide (show UnAt w2 (w.heap.size + 1) u from unAt_below hb2 (by simp; omega) (unAt_alloc HU1.out hz1 _))
    obtain ⟨⟨v0, v1, v2⟩, ⟨g0, g1, g2⟩⟩ := V2.three
    have hz2 : w1.heap.size < w2.heap.size := V2.lt
    have HG2 := hide G2
    have HV2 := hide V2
    have hR2 := G2.lt
    clear q0 q1 q2 q3 q4 q5 q6 q7 q8 q9 q10 q11 q12 q13
    clear hb2 G2 V2 u0 u1 u2
    obtain ⟨q0, q1, q2, q3, q4, q5, q6, q7, q8, q9, q10, q11, q12, q13⟩ := HQ2.out
    obtain ⟨u0, u1, u2⟩ := HU2.out
    have hne : R ≠ w1.heap.size := by omega
    have hne' : w1.heap.size ≠ R := by omega
    have hne2 : w.heap.size ≠ w1.heap.size := by omega
    have hne3 : w.heap.size + 1 ≠ w1.heap.size := by omega
    have h00 := H0.out
    go_wp2_with fail
    all_goals first
      | (exfalso; omega)
      | skip
    refine (ucheck_any c ⟨u.lv, u.yr + 1, 1⟩ _ hn).mono ?_
    rintro e w3 ⟨rfl, hb3⟩
    have G3 := ((HG2.out.far hne _).far hne _).call hb3
    have V3 := ((HV2.out.set2nd _).set3rd _).call hb3
    have hk1 : w.heap.size ≤ w1.heap.size := by omega
    have HW3 := hide (((HW2.out.setCell hk1 _).setCell hk1 _).trans (hb3.mono (by simp; omega)) : Below w.heap.size w w3)
    obtain ⟨⟨r0, r1, r2⟩, f0, f1, f2⟩ := G3.three
    clear v0 v1 v2 g0 g1 g2 u0 u1 u2
    clear q0 q1 q2 q3 q4 q5 q6 q7 q8 q9 q10 q11 q12 q13
    obtain ⟨⟨v0, v1, v2⟩, _⟩ := V3.three
    have hR3 := G3.lt
    have HG3 := hide G3
    clear hb3 G3 V3
    have h11 := H1.out
    go_wp2
    exact bodyPost_ret (v := .tuple #[.agg #[.int .i64 0, .int .i64 0, .int .i64 0], .int .i64 (unitE c ⟨u.lv, u.yr + 1, 1⟩)]) (by exact res_next rfl rfl (HG3.out.set123 _ _ _)) rfl ⟨rfl, ((HW3.out.setCell HKB.out _).setCell HKB.out _).setCell HKB.out _⟩

theorem fnext_any (c : Cal) (u : Un) (w : World) (hn : c.name.size ≤ 1000) :
    Calls Try.prog 29 #[calV c, unitV u] w fun e w' => e = .returned (.tuple #[unitV (nxU c u), .int .i64 (nxE c u)]) ∧ Below w.heap.size w w' := by
  by_cases hE : unitE c u = 0
  · by_cases h0 : unitE c (nxU0 u) = 0
    · refine (fnext_in c u w hn hE h0).mono ?_
      rintro e w1 ⟨rfl, hb⟩
      exact ⟨by rw [nxU, nxE, if_pos hE, if_pos hE, if_pos h0, if_pos h0]; rfl, hb⟩
    · exact fnext_over c u w hn hE h0
  · refine (fnext_bad c u w hn hE).mono ?_
    rintro e w1 ⟨rfl, hb⟩
    exact ⟨by rw [nxU, nxE, if_neg hE, if_neg hE], hb⟩

set_option maxRecDepth 100000 in
set_option maxHeartbeats 1600000 in
theorem fback_bad (c : Cal) (u : Un) (w : World) (hn : c.name.size ≤ 1000) (hE : ¬ unitE c u = 0) :
    Calls Try.prog 30 #[calV c, unitV u] w fun e w' => e = .returned (.tuple #[.agg #[.int .i64 0, .int .i64 0, .int .i64 0], .int .i64 (unitE c u)]) ∧ Below w.heap.size w w' := by
  have hE' : (unitE c u != 0) = true := by simpa using hE
  clear hE
  simp only [calV, unitV]
  go_enter Try.func30, Try.ntmps30
  go_wp2_with fail
  refine (ucheck_any c u _ hn).mono ?_
  rintro e w1 ⟨rfl, hb1⟩
  have G := (show BlkIs w1 (w.heap.size + 1 + 1) #[.int .i64 0, .int .i64 0, .int .i64 0] 35 from BlkIs.below (by simpa using BlkIs.new ((w.alloc (calObj c)).alloc (unObj u)) #[.int .i64 0, .int .i64 0, .int .i64 0] 35) hb1 (by simp))
  have HW := hide (show Below w.heap.size w w1 by (repeat' (first | (with_reducible exact Below.refl _ _) | (with_reducible assumption) | (with_reducible refine Below.alloc ?_ ?_ _) | (with_reducible refine below_drewN ?_ _) | (with_reducible refine Below.drew ?_) | (with_reducible refine Below.setCell ?_ ?_ _) | (with_reducible refine Below.trans ?_ (Below.mono (by assumption) ?_)) | go_size | (simp at *; omega))))
  have hkB : w.heap.size ≤ w.heap.size + 1 + 1 := by omega
  clear hb1
  generalize w.heap.size + 1 + 1 = R at *
  obtain ⟨⟨r0, r1, r2⟩, f0, f1, f2⟩ := G.three
  have HG := hide G
  have hsz := G.lt
  clear G
  go_wp2
  exact bodyPost_ret (v := .tuple #[.agg #[.int .i64 0, .int .i64 0, .int .i64 0], .int .i64 (unitE c u)]) (by exact res_back rfl rfl (HG.out.set123 _ _ _)) rfl ⟨rfl, ((HW.out.setCell hkB _).setCell hkB _).setCell hkB _⟩

set_option maxRecDepth 100000 in
set_option maxHeartbeats 3200000 in
theorem fback_in (c : Cal) (u : Un) (w : World) (hn : c.name.size ≤ 1000) (hE : unitE c u = 0) (h0 : 1 < u.ix) :
    Calls Try.prog 30 #[calV c, unitV u] w fun e w' => e = .returned (.tuple #[.agg #[.int .i64 u.lv, .int .i64 u.yr, .int .i64 (u.ix - 1)], .int .i64 0]) ∧ Below w.heap.size w w' := by
  obtain ⟨hf, hl1, hl5, hA, hx, hi⟩ := un_lv hE
  have hcb := cnt_bd c u.yr hA u.lv
  have hyy := ask_ok hA
  have hb : 1 ≤ u.ix ∧ u.ix ≤ 60 ∧ 1600 ≤ u.yr ∧ u.yr ≤ 9999 := by omega
  have HE := hide hE
  clear hE hf hA hx hi hcb hyy
  simp only [calV, unitV]
  go_enter Try.func30, Try.ntmps30
  go_wp2_with fail
  refine (ucheck_any c u _ hn).mono ?_
  rintro e w1 ⟨rfl, hb1⟩
  rw [HE.out]
  have G := (show BlkIs w1 (w.heap.size + 1 + 1) #[.int .i64 0, .int .i64 0, .int .i64 0] 35 from BlkIs.below (by simpa using BlkIs.new ((w.alloc (calObj c)).alloc (unObj u)) #[.int .i64 0, .int .i64 0, .int .i64 0] 35) hb1 (by simp))
  have HQ1 := hide (show CalAt w1 w.heap.size c from calAt_below hb1 (by simp; omega) (calAt_alloc (calAt_alloc (calAt_new w c) (by simp) _) (by simp; omega) _))
  have HU1 := hide (show UnAt w1 (w.heap.size + 1) u from unAt_below hb1 (by simp) (unAt_alloc (unAt_new w c u) (by simp) _))
  have HW := hide (show Below w.heap.size w w1 by (repeat' (first | (with_reducible exact Below.refl _ _) | (with_reducible assumption) | (with_reducible refine Below.alloc ?_ ?_ _) | (with_reducible refine below_drewN ?_ _) | (with_reducible refine Below.drew ?_) | (with_reducible refine Below.setCell ?_ ?_ _) | (with_reducible refine Below.trans ?_ (Below.mono (by assumption) ?_)) | go_size | (simp at *; omega))))
  have hkB : w.heap.size ≤ w.heap.size + 1 + 1 := by omega
  have hz1 : w.heap.size + 1 < w1.heap.size := by have := hb1.size; simp at this; omega
  have hz0 : w.heap.size < w1.heap.size := by omega
  clear hb1
  generalize w.heap.size + 1 + 1 = R at *
  have HG := hide G
  have hR := G.lt
  have HKB := hide hkB
  obtain ⟨q0, q1, q2, q3, q4, q5, q6, q7, q8, q9, q10, q11, q12, q13⟩ := HQ1.out
  obtain ⟨u0, u1, u2⟩ := HU1.out
  obtain ⟨⟨r0, r1, r2⟩, f0, f1, f2⟩ := G.three
  clear G hkB
  have hne : R ≠ w1.heap.size := by omega
  have hne' : w1.heap.size ≠ R := by omega
  go_wp2
  all_goals first
    | (exfalso; omega)
    | (exact bodyPost_ret (v := .tuple #[.agg #[.int .i64 u.lv, .int .i64 u.yr, .int .i64 (u.ix - 1)], .int .i64 0]) (by exact res_back rfl rfl ((HG.out.set123 _ _ _).alloc _)) rfl ⟨rfl, ((((HW.out.setCell HKB.out _).setCell HKB.out _).setCell HKB.out _).alloc (by simp; omega) _)⟩)

set_option maxRecDepth 100000 in
set_option maxHeartbeats 3200000 in
theorem fback_over (c : Cal) (u : Un) (w : World) (hn : c.name.size ≤ 1000) (hE : unitE c u = 0) (h0 : ¬ 1 < u.ix) :
    Calls Try.prog 30 #[calV c, unitV u] w fun e w' => e = .returned (.tuple #[unitV (bkU c u), .int .i64 (bkE c u)]) ∧ Below w.heap.size w w' := by
  obtain ⟨hf, hl1, hl5, hA, hx, hi⟩ := un_lv hE
  have hcb := cnt_bd c u.yr hA u.lv
  have hyy := ask_ok hA
  have hb : 1 ≤ u.ix ∧ u.ix ≤ 60 ∧ 1600 ≤ u.yr ∧ u.yr ≤ 9999 := by omega
  have HE := hide hE
  have hee : bkE c u = frameE c u.lv (u.yr - 1) := by rw [bkE, if_pos hE, if_neg h0]
  have huu : bkU c u = if frameE c u.lv (u.yr - 1) = 0 then ⟨u.lv, u.yr - 1, (cntL c (u.yr - 1) u.lv : Int)⟩ else ⟨0, 0, 0⟩ := by rw [bkU, if_pos hE, if_neg h0]
  rw [hee, huu]
  clear hE hf hA hx hi hcb hyy hee huu
  by_cases h1 : frameE c u.lv (u.yr - 1) = 0
  · rw [if_pos h1, h1]
    have HC := hide (count_yes h1)
    have H1 := hide h1
    clear h1
    simp only [calV, unitV]
    go_enter Try.func30, Try.ntmps30
    go_wp2_with fail
    refine (ucheck_any c u _ hn).mono ?_
    rintro e w1 ⟨rfl, hb1⟩
    rw [HE.out]
    have G := (show BlkIs w1 (w.heap.size + 1 + 1) #[.int .i64 0, .int .i64 0, .int .i64 0] 35 from BlkIs.below (by simpa using BlkIs.new ((w.alloc (calObj c)).alloc (unObj u)) #[.int .i64 0, .int .i64 0, .int .i64 0] 35) hb1 (by simp))
    have HQ1 := hide (show CalAt w1 w.heap.size c from calAt_below hb1 (by simp; omega) (calAt_alloc (calAt_alloc (calAt_new w c) (by simp) _) (by simp; omega) _))
    have HU1 := hide (show UnAt w1 (w.heap.size + 1) u from unAt_below hb1 (by simp) (unAt_alloc (unAt_new w c u) (by simp) _))
    have HW := hide (show Below w.heap.size w w1 by (repeat' (first | (with_reducible exact Below.refl _ _) | (with_reducible assumption) | (with_reducible refine Below.alloc ?_ ?_ _) | (with_reducible refine below_drewN ?_ _) | (with_reducible refine Below.drew ?_) | (with_reducible refine Below.setCell ?_ ?_ _) | (with_reducible refine Below.trans ?_ (Below.mono (by assumption) ?_)) | go_size | (simp at *; omega))))
    have hkB : w.heap.size ≤ w.heap.size + 1 + 1 := by omega
    have hz1 : w.heap.size + 1 < w1.heap.size := by have := hb1.size; simp at this; omega
    have hz0 : w.heap.size < w1.heap.size := by omega
    clear hb1
    generalize w.heap.size + 1 + 1 = R at *
    have HG := hide G
    have hR := G.lt
    have HKB := hide hkB
    obtain ⟨q0, q1, q2, q3, q4, q5, q6, q7, q8, q9, q10, q11, q12, q13⟩ := HQ1.out
    obtain ⟨u0, u1, u2⟩ := HU1.out
    clear G hkB
    go_wp2_with fail
    all_goals first
      | (exfalso; omega)
      | skip
    refine (count_any c u.lv (u.yr - 1) _ hn).mono ?_
    rintro e w2 ⟨rfl, hb2⟩
    rw [HC.out]
    have G2 := HG.out.alloc (.cells #[.int .i64 u.lv, .int .i64 (u.yr - 1), .int .i64 (u.ix - 1)] 35) |>.call hb2
    have V2 := (BlkIs.new w1 #[.int .i64 u.lv, .int .i64 (u.yr - 1), .int .i64 (u.ix - 1)] 35).call hb2
    have HW2 := hide ((HW.out.alloc (by omega) _).trans (hb2.mono (by simp; omega)) : Below w.heap.size w w2)
    obtain ⟨⟨r0, r1, r2⟩, f0, f1, f2⟩ := G2.three
    obtain ⟨⟨v0, v1, v2⟩, ⟨g0, g1, g2⟩⟩ := V2.three
    have hz2 : w1.heap.size < w2.heap.size := V2.lt
    have HG2 := hide G2
    have hR2 := G2.lt
    clear q0 q1 q2 q3 q4 q5 q6 q7 q8 q9 q10 q11 q12 q13
    clear hb2 G2 V2 u0 u1 u2
    have hne : R ≠ w1.heap.size := by omega
    have hne' : w1.heap.size ≠ R := by omega
    have hk1 : w.heap.size ≤ w1.heap.size := by omega
    rw [H1.out]
    go_wp2
    exact bodyPost_ret (v := .tuple #[.agg #[.int .i64 u.lv, .int .i64 (u.yr - 1), .int .i64 (cntL c (u.yr - 1) u.lv : Int)], .int .i64 0]) (by exact res_back rfl rfl ((HG2.out.far hne _).set123 _ _ _)) rfl ⟨rfl, (((HW2.out.setCell hk1 _).setCell HKB.out _).setCell HKB.out _).setCell HKB.out _⟩
  · rw [if_neg h1]
    have HC := hide (count_no h1)
    have H1 := hide (show (frameE c u.lv (u.yr - 1) != 0) = true by simpa using h1)
    clear h1
    simp only [calV, unitV]
    go_enter Try.func30, Try.ntmps30
    go_wp2_with fail
    refine (ucheck_any c u _ hn).mono ?_
    rintro e w1 ⟨rfl, hb1⟩
    rw [HE.out]
    have G := (show BlkIs w1 (w.heap.size + 1 + 1) #[.int .i64 0, .int .i64 0, .int .i64 0] 35 from BlkIs.below (by simpa using BlkIs.new ((w.alloc (calObj c)).alloc (unObj u)) #[.int .i64 0, .int .i64 0, .int .i64 0] 35) hb1 (by simp))
    have HQ1 := hide (show CalAt w1 w.heap.size c from calAt_below hb1 (by simp; omega) (calAt_alloc (calAt_alloc (calAt_new w c) (by simp) _) (by simp; omega) _))
    have HU1 := hide (show UnAt w1 (w.heap.size + 1) u from unAt_below hb1 (by simp) (unAt_alloc (unAt_new w c u) (by simp) _))
    have HW := hide (show Below w.heap.size w w1 by (repeat' (first | (with_reducible exact Below.refl _ _) | (with_reducible assumption) | (with_reducible refine Below.alloc ?_ ?_ _) | (with_reducible refine below_drewN ?_ _) | (with_reducible refine Below.drew ?_) | (with_reducible refine Below.setCell ?_ ?_ _) | (with_reducible refine Below.trans ?_ (Below.mono (by assumption) ?_)) | go_size | (simp at *; omega))))
    have hkB : w.heap.size ≤ w.heap.size + 1 + 1 := by omega
    have hz1 : w.heap.size + 1 < w1.heap.size := by have := hb1.size; simp at this; omega
    have hz0 : w.heap.size < w1.heap.size := by omega
    clear hb1
    generalize w.heap.size + 1 + 1 = R at *
    have HG := hide G
    have hR := G.lt
    have HKB := hide hkB
    obtain ⟨q0, q1, q2, q3, q4, q5, q6, q7, q8, q9, q10, q11, q12, q13⟩ := HQ1.out
    obtain ⟨u0, u1, u2⟩ := HU1.out
    clear G hkB
    go_wp2_with fail
    all_goals first
      | (exfalso; omega)
      | skip
    refine (count_any c u.lv (u.yr - 1) _ hn).mono ?_
    rintro e w2 ⟨rfl, hb2⟩
    rw [HC.out]
    have G2 := HG.out.alloc (.cells #[.int .i64 u.lv, .int .i64 (u.yr - 1), .int .i64 (u.ix - 1)] 35) |>.call hb2
    have V2 := (BlkIs.new w1 #[.int .i64 u.lv, .int .i64 (u.yr - 1), .int .i64 (u.ix - 1)] 35).call hb2
    have HW2 := hide ((HW.out.alloc (by omega) _).trans (hb2.mono (by simp; omega)) : Below w.heap.size w w2)
    obtain ⟨⟨r0, r1, r2⟩, f0, f1, f2⟩ := G2.three
    obtain ⟨⟨v0, v1, v2⟩, ⟨g0, g1, g2⟩⟩ := V2.three
    have hz2 : w1.heap.size < w2.heap.size := V2.lt
    have HG2 := hide G2
    have hR2 := G2.lt
    clear q0 q1 q2 q3 q4 q5 q6 q7 q8 q9 q10 q11 q12 q13
    clear hb2 G2 V2 u0 u1 u2
    have hne : R ≠ w1.heap.size := by omega
    have hne' : w1.heap.size ≠ R := by omega
    have hk1 : w.heap.size ≤ w1.heap.size := by omega
    have h11 := H1.out
    go_wp2
    exact bodyPost_ret (v := .tuple #[.agg #[.int .i64 0, .int .i64 0, .int .i64 0], .int .i64 (frameE c u.lv (u.yr - 1))]) (by exact res_back rfl rfl (HG2.out.set123 _ _ _)) rfl ⟨rfl, ((HW2.out.setCell HKB.out _).setCell HKB.out _).setCell HKB.out _⟩

theorem fback_any (c : Cal) (u : Un) (w : World) (hn : c.name.size ≤ 1000) :
    Calls Try.prog 30 #[calV c, unitV u] w fun e w' => e = .returned (.tuple #[unitV (bkU c u), .int .i64 (bkE c u)]) ∧ Below w.heap.size w w' := by
  by_cases hE : unitE c u = 0
  · by_cases h0 : 1 < u.ix
    · refine (fback_in c u w hn hE h0).mono ?_
      rintro e w1 ⟨rfl, hb⟩
      exact ⟨by rw [bkU, bkE, if_pos hE, if_pos hE, if_pos h0, if_pos h0], hb⟩
    · exact fback_over c u w hn hE h0
  · refine (fback_bad c u w hn hE).mono ?_
    rintro e w1 ⟨rfl, hb⟩
    exact ⟨by rw [bkU, bkE, if_neg hE, if_neg hE], hb⟩
end Go.Proofs.Ytepmfpgljcbkmaa

namespace Go.Proofs.Ytepmfpgljcbkmaa
open Go.RowKit Qd
set_option linter.unusedSimpArgs false
set_option linter.unusedVariables false

theorem frame_11 {c : Cal} {lv y : Int} (hk : c.okB = true) (h1 : 1 ≤ lv) (h5 : lv ≤ 5) (h : y < c.first ∨ c.last < y) : frameE c lv y = 11 := by
  unfold frameE
  rw [if_pos hk, if_pos ⟨h1, h5⟩, if_neg (by omega)]
/-- The unit behind. -/
theorem next_facts {c : Cal} {u : Un} (h : unitE c u = 0) :
    (nxE c u = 0 ∧ (spV c u).b < endV c c.last ∧ unitE c (nxU c u) = 0 ∧ (spV c (nxU c u)).a = (spV c u).b + 1 ∧ bkE c (nxU c u) = 0 ∧ bkU c (nxU c u) = u) ∨ (nxE c u = 11 ∧ nxU c u = ⟨0, 0, 0⟩ ∧ (spV c u).b = endV c c.last) := by
  obtain ⟨hf, hl1, hl5, hA, hx, hi⟩ := un_lv h
  obtain ⟨hok, hk, _, _, hy1, hy2, _⟩ := frame_ok hf
  obtain ⟨y1, y2, y3, y4, y5⟩ := ok_years hk
  obtain ⟨lv, yr, ix⟩ := u
  simp only at hf hl1 hl5 hA hi hy1 hy2
  obtain ⟨i, hiu⟩ : ∃ i, i = uI ⟨lv, yr, ix⟩ := ⟨_, rfl⟩
  rw [← hiu] at hx hi
  obtain rfl : ix = (i : Int) + 1 := hx
  have hS := sp_mk hf i hi
  have hb : (spV c ⟨lv, yr, (i : Int) + 1⟩).b = dayW c yr (cutN c yr lv (i + 1)) - 1 := by rw [hS]
  rw [hb]
  by_cases hin : i + 1 < cntL c yr lv
  · left
    obtain ⟨g0, _, _⟩ := un_mk hf (i + 1) hin
    have e0 : nxU0 ⟨lv, yr, (i : Int) + 1⟩ = ⟨lv, yr, ((i + 1 : Nat) : Int) + 1⟩ := by simp [nxU0]
    have eU : nxU c ⟨lv, yr, (i : Int) + 1⟩ = ⟨lv, yr, ((i + 1 : Nat) : Int) + 1⟩ := by rw [nxU, if_pos h, e0, if_pos g0]
    have eE : nxE c ⟨lv, yr, (i : Int) + 1⟩ = 0 := by rw [nxE, if_pos h, e0, if_pos g0]
    rw [eU, eE]
    refine ⟨rfl, ?_, g0, ?_, ?_, ?_⟩
    · have b1 := dayW_lt c yr hA (cut_slt c yr hA lv hl1 hl5 hin (Nat.le_refl _)) (cut_le_nWk c yr hA lv hl1 hl5 _ (Nat.le_refl _))
      have b2 := cut_slt c yr hA lv hl1 hl5 hin (Nat.le_refl _)
      rw [cut_end c yr lv hl1 hl5, dayW_end c yr hA] at b1
      have := end_le c hok (show 1600 ≤ yr by omega) hy2 (by omega)
      rw [cut_end c yr lv hl1 hl5] at b2
      omega
    · rw [sp_mk hf (i + 1) hin]
      simp only
      omega
    · rw [bkE, if_pos g0, if_pos (by simp; omega)]
    · rw [bkU, if_pos g0, if_pos (by simp; omega)]
      simp
  · have hn : i + 1 = cntL c yr lv := by omega
    have e0 : ¬ unitE c (nxU0 ⟨lv, yr, (i : Int) + 1⟩) = 0 := by
      intro h2
      have := (unit_ok h2).2
      simp [nxU0, uI] at this
      omega
    have hend : dayW c yr (cutN c yr lv (i + 1)) - 1 = endV c yr := by
      rw [hn, cut_end c yr lv hl1 hl5, dayW_end c yr hA]
      omega
    rw [hend]
    by_cases hy : yr + 1 ≤ c.last
    · left
      have hf2 : frameE c lv (yr + 1) = 0 := frame_is hok hl1 hl5 (by omega) hy
      have hA2 : askE c (yr + 1) 1601 = 0 := (frame_ok hf2).2.2.2.2.2.2
      have hc2 := cnt_bd c (yr + 1) hA2 lv
      obtain ⟨g0, _, _⟩ := un_mk hf2 0 (by omega)
      have g0' : unitE c (nxU1 ⟨lv, yr, (i : Int) + 1⟩) = 0 := g0
      have eU : nxU c ⟨lv, yr, (i : Int) + 1⟩ = ⟨lv, yr + 1, ((0 : Nat) : Int) + 1⟩ := by rw [nxU, if_pos h, if_neg e0, if_pos g0']; rfl
      have eE : nxE c ⟨lv, yr, (i : Int) + 1⟩ = 0 := by rw [nxE, if_pos h, if_neg e0, g0']
      rw [eU, eE]
      refine ⟨rfl, ?_, g0, ?_, ?_, ?_⟩
      · have := end_mono c yr hok (by omega) 1 (by omega)
        have := end_le c hok (show 1600 ≤ yr + 1 by omega) hy (by omega)
        simp at *
        omega
      · rw [sp_mk hf2 0 (by omega), cut_0, dayW_0, start_next c yr hA2]
      · rw [bkE, if_pos g0, if_neg (by simp)]
        simp only
        rw [show yr + 1 - 1 = yr by omega]
        exact hf
      · rw [bkU, if_pos g0, if_neg (by simp)]
        simp only
        rw [show yr + 1 - 1 = yr by omega, if_pos hf, ← hn]
        simp
    · right
      have e11 : unitE c (nxU1 ⟨lv, yr, (i : Int) + 1⟩) = 11 := by
        have := frame_11 hk hl1 hl5 (y := yr + 1) (by omega)
        unfold unitE nxU1
        simp only
        rw [if_neg (by omega), this]
      refine ⟨by rw [nxE, if_pos h, if_neg e0, e11], by rw [nxU, if_pos h, if_neg e0, if_neg (by omega)], ?_⟩
      rw [show yr = c.last by omega]
/-- The unit ahead. -/
theorem back_facts {c : Cal} {u : Un} (h : unitE c u = 0) :
    (bkE c u = 0 ∧ startV c c.first < (spV c u).a ∧ unitE c (bkU c u) = 0 ∧ (spV c (bkU c u)).b + 1 = (spV c u).a ∧ nxE c (bkU c u) = 0 ∧ nxU c (bkU c u) = u) ∨ (bkE c u = 11 ∧ bkU c u = ⟨0, 0, 0⟩ ∧ (spV c u).a = startV c c.first) := by
  obtain ⟨hf, hl1, hl5, hA, hx, hi⟩ := un_lv h
  obtain ⟨hok, hk, _, _, hy1, hy2, _⟩ := frame_ok hf
  obtain ⟨y1, y2, y3, y4, y5⟩ := ok_years hk
  obtain ⟨lv, yr, ix⟩ := u
  simp only at hf hl1 hl5 hA hi hy1 hy2
  obtain ⟨i, hiu⟩ : ∃ i, i = uI ⟨lv, yr, ix⟩ := ⟨_, rfl⟩
  rw [← hiu] at hx hi
  obtain rfl : ix = (i : Int) + 1 := hx
  have hS := sp_mk hf i hi
  have ha : (spV c ⟨lv, yr, (i : Int) + 1⟩).a = dayW c yr (cutN c yr lv i) := by rw [hS]
  rw [ha]
  cases i with
  | succ j =>
    left
    obtain ⟨g0, _, _⟩ := un_mk hf j (by omega)
    have eU : bkU c ⟨lv, yr, ((j + 1 : Nat) : Int) + 1⟩ = ⟨lv, yr, (j : Int) + 1⟩ := by rw [bkU, if_pos h, if_pos (by simp; omega)]; simp
    have eE : bkE c ⟨lv, yr, ((j + 1 : Nat) : Int) + 1⟩ = 0 := by rw [bkE, if_pos h, if_pos (by simp; omega)]
    have e0 : nxU0 ⟨lv, yr, (j : Int) + 1⟩ = ⟨lv, yr, ((j + 1 : Nat) : Int) + 1⟩ := by simp [nxU0]
    rw [eU, eE]
    refine ⟨rfl, ?_, g0, ?_, ?_, ?_⟩
    · have b2 := cut_slt c yr hA lv hl1 hl5 (show 0 < j + 1 by omega) (Nat.le_of_lt hi)
      have b1 := dayW_lt c yr hA b2 (cut_le_nWk c yr hA lv hl1 hl5 _ (Nat.le_of_lt hi))
      rw [cut_0] at b1 b2
      rw [dayW_0] at b1
      have := start_le c hok (show 1601 ≤ c.first by omega) hy1 (by omega)
      omega
    · rw [sp_mk hf j (by omega)]
      simp only
      omega
    · rw [nxE, if_pos g0, e0, if_pos h]
    · rw [nxU, if_pos g0, e0, if_pos h]
  | zero =>
    rw [cut_0, dayW_0]
    by_cases hy : c.first ≤ yr - 1
    · left
      have hf2 : frameE c lv (yr - 1) = 0 := frame_is hok hl1 hl5 hy (by omega)
      have hA2 : askE c (yr - 1) 1601 = 0 := (frame_ok hf2).2.2.2.2.2.2
      have hc2 := cnt_bd c (yr - 1) hA2 lv
      obtain ⟨m, hm⟩ : ∃ m, cntL c (yr - 1) lv = m + 1 := ⟨cntL c (yr - 1) lv - 1, by omega⟩
      obtain ⟨g0, _, _⟩ := un_mk hf2 m (by omega)
      have eU : bkU c ⟨lv, yr, ((0 : Nat) : Int) + 1⟩ = ⟨lv, yr - 1, (m : Int) + 1⟩ := by rw [bkU, if_pos h, if_neg (by simp)]; simp only; rw [if_pos hf2, hm]; simp
      have eE : bkE c ⟨lv, yr, ((0 : Nat) : Int) + 1⟩ = 0 := by rw [bkE, if_pos h, if_neg (by simp)]; exact hf2
      have e0 : ¬ unitE c (nxU0 ⟨lv, yr - 1, (m : Int) + 1⟩) = 0 := by
        intro h2
        have := (unit_ok h2).2
        simp [nxU0, uI] at this
        omega
      have e1 : nxU1 ⟨lv, yr - 1, (m : Int) + 1⟩ = ⟨lv, yr, ((0 : Nat) : Int) + 1⟩ := by simp [nxU1]
      rw [eU, eE]
      refine ⟨rfl, ?_, g0, ?_, ?_, ?_⟩
      · have := end_lt_start c hok (show 1600 ≤ c.first by omega) (show c.first < yr by omega) (by omega)
        have := year_bd c c.first y1
        have : daysV c c.first = endV c c.first - startV c c.first + 1 := by simp [daysV, y1]
        omega
      · rw [sp_mk hf2 m (by omega)]
        simp only
        rw [← hm, cut_end c (yr - 1) lv hl1 hl5, dayW_end c (yr - 1) hA2]
        have := start_next c (yr - 1) (by rw [show yr - 1 + 1 = yr by omega]; exact hA)
        rw [show yr - 1 + 1 = yr by omega] at this
        omega
      · rw [nxE, if_pos g0, if_neg e0, e1, h]
      · rw [nxU, if_pos g0, if_neg e0, e1, if_pos h]
    · right
      have e11 : frameE c lv (yr - 1) = 11 := frame_11 hk hl1 hl5 (by omega)
      refine ⟨by rw [bkE, if_pos h, if_neg (by simp)]; exact e11, by rw [bkU, if_pos h, if_neg (by simp)]; simp only; rw [if_neg (by omega)], ?_⟩
      rw [show yr = c.first by omega]

theorem sp_bd' {c : Cal} {u : Un} (h : unitE c u = 0) : 0 ≤ (spV c u).a ∧ (spV c u).a ≤ (spV c u).b ∧ (spV c u).b ≤ 3068037 := by
  obtain ⟨hf, hl1, hl5, hA, hx, hi⟩ := un_lv h
  have hab := cutAB h
  rw [sp_get h]
  have b1 := dayW_le c u.yr hA (Nat.zero_le (cutA c u)) (by omega)
  have b2 := dayW_le c u.yr hA hab.2 (Nat.le_refl _)
  have b3 := dayW_lt c u.yr hA hab.1 hab.2
  rw [dayW_0] at b1
  rw [dayW_end c u.yr hA] at b2
  have := year_bd c u.yr hA
  simp only
  omega

set_option maxRecDepth 100000 in
set_option maxHeartbeats 1600000 in
theorem fn_long (c : Cal) (u : Un) (w : World) (hn : 100 < c.name.size) (hm : c.name.size ≤ 9223372036854775807) :
    Calls Try.prog 11 #[calV c, unitV u] w fun e w' => e = .returned (.bool true) ∧ Below w.heap.size w w' := by
  simp only [calV, unitV]
  go_enter Try.func11, Try.ntmps11
  go_wp2_with fail
  refine (live17_any _).mono ?_
  rintro e w1 ⟨rfl, hb1⟩
  have hz1 : w.heap.size + 1 < w1.heap.size := by have := hb1.size; simp at this; omega
  have HB1 := hide (show Below w.heap.size w w1 by refine Below.trans ?_ (hb1.mono (by first | omega | (simp; done) | (simp; omega))); (repeat' (first | (with_reducible exact Below.refl _ _) | (with_reducible assumption) | (with_reducible refine Below.alloc ?_ ?_ _) | (with_reducible refine below_drewN ?_ _) | (with_reducible refine Below.drew ?_) | (with_reducible refine Below.setCell ?_ ?_ _) | (with_reducible refine Below.trans ?_ (Below.mono (by assumption) ?_)) | go_size | (simp at *; omega))))
  have HQ1 := hide (calAt_below hb1 (by simp; omega) (calAt_alloc (calAt_new w c) (by simp) _))
  have HU1 := hide (unAt_below hb1 (by simp) (unAt_new w c u))
  obtain ⟨q0, q1, q2, q3, q4, q5, q6, q7, q8, q9, q10, q11, q12, q13⟩ := HQ1.out
  obtain ⟨u0, u1, u2⟩ := HU1.out
  have hy1 : w.heap.size < w1.heap.size := by omega
  clear hb1
  go_wp2
  all_goals first
    | (exfalso; omega)
    | (go_ret; exact ⟨rfl, HB1.out⟩)


set_option maxRecDepth 100000 in
set_option maxHeartbeats 3200000 in
theorem fn_no (c : Cal) (u : Un) (w : World) (hn : c.name.size ≤ 100) (hE : ¬ unitE c u = 0) :
    Calls Try.prog 11 #[calV c, unitV u] w fun e w' => e = .returned (.bool true) ∧ Below w.heap.size w w' := by
  have hE' : (unitE c u != 0) = true := by simpa using hE
  have HN := hide (show nxE c u = unitE c u ∧ nxU c u = ⟨0, 0, 0⟩ from ⟨by rw [nxE, if_neg hE], by rw [nxU, if_neg hE]⟩)
  have HK := hide (show bkE c u = unitE c u ∧ bkU c u = ⟨0, 0, 0⟩ from ⟨by rw [bkE, if_neg hE], by rw [bkU, if_neg hE]⟩)
  clear hE
  simp only [calV, unitV]
  go_enter Try.func11, Try.ntmps11
  go_wp2_with fail
  refine (live17_any _).mono ?_
  rintro e w1 ⟨rfl, hb1⟩
  have hz1 : w.heap.size + 1 < w1.heap.size := by have := hb1.size; simp at this; omega
  have HB1 := hide (show Below w.heap.size w w1 by refine Below.trans ?_ (hb1.mono (by first | omega | (simp; done) | (simp; omega))); (repeat' (first | (with_reducible exact Below.refl _ _) | (with_reducible assumption) | (with_reducible refine Below.alloc ?_ ?_ _) | (with_reducible refine below_drewN ?_ _) | (with_reducible refine Below.drew ?_) | (with_reducible refine Below.setCell ?_ ?_ _) | (with_reducible refine Below.trans ?_ (Below.mono (by assumption) ?_)) | go_size | (simp at *; omega))))
  have HQ1 := hide (calAt_below hb1 (by simp; omega) (calAt_alloc (calAt_new w c) (by simp) _))
  have HU1 := hide (unAt_below hb1 (by simp) (unAt_new w c u))
  obtain ⟨q0, q1, q2, q3, q4, q5, q6, q7, q8, q9, q10, q11, q12, q13⟩ := HQ1.out
  obtain ⟨u0, u1, u2⟩ := HU1.out
  have hy1 : w.heap.size < w1.heap.size := by omega
  clear hb1
  go_wp2_with fail
  all_goals first
    | (exfalso; omega)
    | skip
  refine (uspan_any c u _ (by omega)).mono ?_
  rintro e w2 ⟨rfl, hb2⟩
  obtain ⟨S0, S1⟩ := spV c u
  simp only [spanV]
  have hz2 : w.heap.size + 1 < w2.heap.size := by have := hb2.size; (try simp at this); omega
  have HB2 := hide (show Below w.heap.size w w2 by have hp := HB1.out; refine Below.trans ?_ (hb2.mono (by first | omega | (simp; done) | (simp; omega))); (repeat' (first | (with_reducible exact Below.refl _ _) | (with_reducible assumption) | (with_reducible refine Below.alloc ?_ ?_ _) | (with_reducible refine below_drewN ?_ _) | (with_reducible refine Below.drew ?_) | (with_reducible refine Below.setCell ?_ ?_ _) | (with_reducible refine Below.trans ?_ (Below.mono (by assumption) ?_)) | go_size | (simp at *; omega))))
  have HQ2 := hide (show CalAt w2 w.heap.size c from calAt_below hb2 (by first | omega | (simp; done) | (simp; omega)) (by first | exact HQ1.out | exact calAt_alloc HQ1.out (by omega) _ | exact calAt_alloc (calAt_alloc HQ1.out (by omega) _) (by simp; omega) _))
  clear q0 q1 q2 q3 q4 q5 q6 q7 q8 q9 q10 q11 q12 q13
  obtain ⟨q0, q1, q2, q3, q4, q5, q6, q7, q8, q9, q10, q11, q12, q13⟩ := HQ2.out
  have HU2 := hide (show UnAt w2 (w.heap.size + 1) u from unAt_below hb2 (by first | omega | (simp; done) | (simp; omega)) (by first | exact HU1.out | exact unAt_alloc HU1.out (by omega) _ | exact unAt_alloc (unAt_alloc HU1.out (by omega) _) (by simp; omega) _))
  clear u0 u1 u2
  obtain ⟨u0, u1, u2⟩ := HU2.out
  have hy2 : w.heap.size < w2.heap.size := by omega
  clear hb2
  go_wp2_with fail
  refine (fnext_any c u _ (by omega)).mono ?_
  rintro e w3 ⟨rfl, hb3⟩
  rw [HN.out.1, HN.out.2]
  simp only [unitV]
  have hz3 : w.heap.size + 1 < w3.heap.size := by have := hb3.size; (try simp at this); omega
  have HB3 := hide (show Below w.heap.size w w3 by have hp := HB2.out; refine Below.trans ?_ (hb3.mono (by first | omega | (simp; done) | (simp; omega))); (repeat' (first | (with_reducible exact Below.refl _ _) | (with_reducible assumption) | (with_reducible refine Below.alloc ?_ ?_ _) | (with_reducible refine below_drewN ?_ _) | (with_reducible refine Below.drew ?_) | (with_reducible refine Below.setCell ?_ ?_ _) | (with_reducible refine Below.trans ?_ (Below.mono (by assumption) ?_)) | go_size | (simp at *; omega))))
  have HQ3 := hide (show CalAt w3 w.heap.size c from calAt_below hb3 (by first | omega | (simp; done) | (simp; omega)) (by first | exact HQ2.out | exact calAt_alloc HQ2.out (by omega) _ | exact calAt_alloc (calAt_alloc HQ2.out (by omega) _) (by simp; omega) _))
  clear q0 q1 q2 q3 q4 q5 q6 q7 q8 q9 q10 q11 q12 q13
  obtain ⟨q0, q1, q2, q3, q4, q5, q6, q7, q8, q9, q10, q11, q12, q13⟩ := HQ3.out
  have HU3 := hide (show UnAt w3 (w.heap.size + 1) u from unAt_below hb3 (by first | omega | (simp; done) | (simp; omega)) (by first | exact HU2.out | exact unAt_alloc HU2.out (by omega) _ | exact unAt_alloc (unAt_alloc HU2.out (by omega) _) (by simp; omega) _))
  clear u0 u1 u2
  obtain ⟨u0, u1, u2⟩ := HU3.out
  have hy3 : w.heap.size < w3.heap.size := by omega
  clear hb3
  go_wp2_with fail
  refine (fback_any c u _ (by omega)).mono ?_
  rintro e w4 ⟨rfl, hb4⟩
  rw [HK.out.1, HK.out.2]
  simp only [unitV]
  have HV4 := hide (show UnAt w4 w3.heap.size ⟨0, 0, 0⟩ from unAt_below hb4 (by simp) (unAt_fresh w3 ⟨0, 0, 0⟩))
  have hV4 : w3.heap.size < w4.heap.size := by have := hb4.size; (try simp at this); omega
  have hz4 : w.heap.size + 1 < w4.heap.size := by have := hb4.size; (try simp at this); omega
  have HB4 := hide (show Below w.heap.size w w4 by have hp := HB3.out; refine Below.trans ?_ (hb4.mono (by first | omega | (simp; done) | (simp; omega))); (repeat' (first | (with_reducible exact Below.refl _ _) | (with_reducible assumption) | (with_reducible refine Below.alloc ?_ ?_ _) | (with_reducible refine below_drewN ?_ _) | (with_reducible refine Below.drew ?_) | (with_reducible refine Below.setCell ?_ ?_ _) | (with_reducible refine Below.trans ?_ (Below.mono (by assumption) ?_)) | go_size | (simp at *; omega))))
  have HQ4 := hide (show CalAt w4 w.heap.size c from calAt_below hb4 (by first | omega | (simp; done) | (simp; omega)) (by first | exact HQ3.out | exact calAt_alloc HQ3.out (by omega) _ | exact calAt_alloc (calAt_alloc HQ3.out (by omega) _) (by simp; omega) _))
  clear q0 q1 q2 q3 q4 q5 q6 q7 q8 q9 q10 q11 q12 q13
  obtain ⟨q0, q1, q2, q3, q4, q5, q6, q7, q8, q9, q10, q11, q12, q13⟩ := HQ4.out
  have HU4 := hide (show UnAt w4 (w.heap.size + 1) u from unAt_below hb4 (by first | omega | (simp; done) | (simp; omega)) (by first | exact HU3.out | exact unAt_alloc HU3.out (by omega) _ | exact unAt_alloc (unAt_alloc HU3.out (by omega) _) (by simp; omega) _))
  clear u0 u1 u2
  obtain ⟨u0, u1, u2⟩ := HU4.out
  have hy4 : w.heap.size < w4.heap.size := by omega
  clear hb4
  clear q0 q1 q2 q3 q4 q5 q6 q7 q8 q9 q10 q11 q12 q13
  obtain ⟨v0, v1, v2⟩ := HV4.out
  have hBel := HB4.out
  have hub : unB 0 0 0 0 0 0 = true := unB_same _ _ _
  go_wp2
  all_goals first
    | (exfalso; omega)
    | (go_ret; exact ⟨ret_bool (by simp), by (repeat' (first | (with_reducible exact Below.refl _ _) | (with_reducible assumption) | (with_reducible refine Below.alloc ?_ ?_ _) | (with_reducible refine below_drewN ?_ _) | (with_reducible refine Below.drew ?_) | (with_reducible refine Below.setCell ?_ ?_ _) | (with_reducible refine Below.trans ?_ (Below.mono (by assumption) ?_)) | go_size | (simp at *; omega)))⟩)

set_option maxRecDepth 100000 in
set_option maxHeartbeats 6400000 in
theorem fn_00 (c : Cal) (u : Un) (w : World) (hn : c.name.size ≤ 100) (hE : unitE c u = 0) (hN : nxE c u = 11 ∧ nxU c u = ⟨0, 0, 0⟩ ∧ (spV c u).b = endV c c.last) (hP : bkE c u = 11 ∧ bkU c u = ⟨0, 0, 0⟩ ∧ (spV c u).a = startV c c.first) :
    Calls Try.prog 11 #[calV c, unitV u] w fun e w' => e = .returned (.bool true) ∧ Below w.heap.size w w' := by
  have hk : c.okB = true := (frame_ok (unit_ok hE).1).2.1
  have HK := hide hk
  obtain ⟨S, hS⟩ : ∃ S, S = spV c u := ⟨_, rfl⟩
  obtain ⟨fa, hfa⟩ : ∃ x, x = startV c c.first := ⟨_, rfl⟩
  obtain ⟨lb, hlb⟩ : ∃ x, x = endV c c.last := ⟨_, rfl⟩
  obtain ⟨V, hV⟩ : ∃ V, V = nxU c u := ⟨_, rfl⟩
  obtain ⟨W, hW⟩ : ∃ W, W = bkU c u := ⟨_, rfl⟩
  have hsb := sp_bd' hE
  rw [← hS, ← hlb, ← hV] at hN
  rw [← hS, ← hfa, ← hW] at hP
  rw [← hS] at hsb
  have HS := hide hS
  have HFA := hide hfa
  have HLB := hide hlb
  have HV := hide hV
  have HWW := hide hW
  have HE := hide hE
  obtain ⟨sa, sb⟩ := S
  obtain ⟨V0, V1, V2⟩ := V
  obtain ⟨W0, W1, W2⟩ := W
  obtain ⟨n1, n2, n3⟩ := hN
  have HN := hide (And.intro n1 n2)
  simp only at n3
  have N3 := hide n3
  clear n1 n2 n3
  obtain ⟨p1, p2, p3⟩ := hP
  have HP := hide (And.intro p1 p2)
  simp only at p3
  have P3 := hide p3
  clear p1 p2 p3
  simp only at hsb
  clear hS hfa hlb hV hW hE hk
  have hub : unB u.lv u.yr u.ix u.lv u.yr u.ix = true := unB_same _ _ _
  simp only [calV, unitV]
  go_enter Try.func11, Try.ntmps11
  go_wp2_with fail
  refine (live17_any _).mono ?_
  rintro e w1 ⟨rfl, hb1⟩
  have hz1 : w.heap.size + 1 < w1.heap.size := by have := hb1.size; simp at this; omega
  have HB1 := hide (show Below w.heap.size w w1 by refine Below.trans ?_ (hb1.mono (by first | omega | (simp; done) | (simp; omega))); (repeat' (first | (with_reducible exact Below.refl _ _) | (with_reducible assumption) | (with_reducible refine Below.alloc ?_ ?_ _) | (with_reducible refine below_drewN ?_ _) | (with_reducible refine Below.drew ?_) | (with_reducible refine Below.setCell ?_ ?_ _) | (with_reducible refine Below.trans ?_ (Below.mono (by assumption) ?_)) | go_size | (simp at *; omega))))
  have HQ1 := hide (calAt_below hb1 (by simp; omega) (calAt_alloc (calAt_new w c) (by simp) _))
  have HU1 := hide (unAt_below hb1 (by simp) (unAt_new w c u))
  obtain ⟨q0, q1, q2, q3, q4, q5, q6, q7, q8, q9, q10, q11, q12, q13⟩ := HQ1.out
  obtain ⟨u0, u1, u2⟩ := HU1.out
  have hy1 : w.heap.size < w1.heap.size := by omega
  clear hb1
  go_wp2_with fail
  all_goals first
    | (exfalso; omega)
    | skip
  refine (uspan_any c u _ (by omega)).mono ?_
  rintro e w2 ⟨rfl, hb2⟩
  rw [HE.out, ← HS.out]
  simp only [spanV]
  have hz2 : w.heap.size + 1 < w2.heap.size := by have := hb2.size; (try simp at this); omega
  have HB2 := hide (show Below w.heap.size w w2 by have hp := HB1.out; refine Below.trans ?_ (hb2.mono (by first | omega | (simp; done) | (simp; omega))); (repeat' (first | (with_reducible exact Below.refl _ _) | (with_reducible assumption) | (with_reducible refine Below.alloc ?_ ?_ _) | (with_reducible refine below_drewN ?_ _) | (with_reducible refine Below.drew ?_) | (with_reducible refine Below.setCell ?_ ?_ _) | (with_reducible refine Below.trans ?_ (Below.mono (by assumption) ?_)) | go_size | (simp at *; omega))))
  have HQ2 := hide (show CalAt w2 w.heap.size c from calAt_below hb2 (by first | omega | (simp; done) | (simp; omega)) (by first | exact HQ1.out | exact calAt_alloc HQ1.out (by omega) _ | exact calAt_alloc (calAt_alloc HQ1.out (by omega) _) (by simp; omega) _))
  clear q0 q1 q2 q3 q4 q5 q6 q7 q8 q9 q10 q11 q12 q13
  obtain ⟨q0, q1, q2, q3, q4, q5, q6, q7, q8, q9, q10, q11, q12, q13⟩ := HQ2.out
  have HU2 := hide (show UnAt w2 (w.heap.size + 1) u from unAt_below hb2 (by first | omega | (simp; done) | (simp; omega)) (by first | exact HU1.out | exact unAt_alloc HU1.out (by omega) _ | exact unAt_alloc (unAt_alloc HU1.out (by omega) _) (by simp; omega) _))
  clear u0 u1 u2
  obtain ⟨u0, u1, u2⟩ := HU2.out
  have hy2 : w.heap.size < w2.heap.size := by omega
  clear hb2
  go_wp2_with fail
  refine (fnext_any c u _ (by omega)).mono ?_
  rintro e w3 ⟨rfl, hb3⟩
  rw [HN.out.1, ← HV.out]
  simp only [unitV]
  have HS3 := hide (show SpAt w3 w2.heap.size ⟨sa, sb⟩ from spAt_below hb3 (by simp) (spAt_fresh w2 ⟨sa, sb⟩))
  have hS3 : w2.heap.size < w3.heap.size := by have := hb3.size; (try simp at this); omega
  have hz3 : w.heap.size + 1 < w3.heap.size := by have := hb3.size; (try simp at this); omega
  have HB3 := hide (show Below w.heap.size w w3 by have hp := HB2.out; refine Below.trans ?_ (hb3.mono (by first | omega | (simp; done) | (simp; omega))); (repeat' (first | (with_reducible exact Below.refl _ _) | (with_reducible assumption) | (with_reducible refine Below.alloc ?_ ?_ _) | (with_reducible refine below_drewN ?_ _) | (with_reducible refine Below.drew ?_) | (with_reducible refine Below.setCell ?_ ?_ _) | (with_reducible refine Below.trans ?_ (Below.mono (by assumption) ?_)) | go_size | (simp at *; omega))))
  have HQ3 := hide (show CalAt w3 w.heap.size c from calAt_below hb3 (by first | omega | (simp; done) | (simp; omega)) (by first | exact HQ2.out | exact calAt_alloc HQ2.out (by omega) _ | exact calAt_alloc (calAt_alloc HQ2.out (by omega) _) (by simp; omega) _))
  clear q0 q1 q2 q3 q4 q5 q6 q7 q8 q9 q10 q11 q12 q13
  obtain ⟨q0, q1, q2, q3, q4, q5, q6, q7, q8, q9, q10, q11, q12, q13⟩ := HQ3.out
  have HU3 := hide (show UnAt w3 (w.heap.size + 1) u from unAt_below hb3 (by first | omega | (simp; done) | (simp; omega)) (by first | exact HU2.out | exact unAt_alloc HU2.out (by omega) _ | exact unAt_alloc (unAt_alloc HU2.out (by omega) _) (by simp; omega) _))
  clear u0 u1 u2
  obtain ⟨u0, u1, u2⟩ := HU3.out
  have hy3 : w.heap.size < w3.heap.size := by omega
  clear hb3
  go_wp2_with fail
  refine (fback_any c u _ (by omega)).mono ?_
  rintro e w4 ⟨rfl, hb4⟩
  rw [HP.out.1, ← HWW.out]
  simp only [unitV]
  have HS4 := hide (show SpAt w4 w2.heap.size ⟨sa, sb⟩ from spAt_below hb4 (by first | omega | (simp; done) | (simp; omega)) (by first | exact HS3.out | exact spAt_alloc HS3.out (by omega) _ | exact spAt_alloc (spAt_alloc HS3.out (by omega) _) (by simp; omega) _))
  have hS4 : w2.heap.size < w4.heap.size := by have := hb4.size; (try simp at this); omega
  have HV4 := hide (show UnAt w4 w3.heap.size ⟨V0, V1, V2⟩ from unAt_below hb4 (by simp) (unAt_fresh w3 ⟨V0, V1, V2⟩))
  have hV4 : w3.heap.size < w4.heap.size := by have := hb4.size; (try simp at this); omega
  have hz4 : w.heap.size + 1 < w4.heap.size := by have := hb4.size; (try simp at this); omega
  have HB4 := hide (show Below w.heap.size w w4 by have hp := HB3.out; refine Below.trans ?_ (hb4.mono (by first | omega | (simp; done) | (simp; omega))); (repeat' (first | (with_reducible exact Below.refl _ _) | (with_reducible assumption) | (with_reducible refine Below.alloc ?_ ?_ _) | (with_reducible refine below_drewN ?_ _) | (with_reducible refine Below.drew ?_) | (with_reducible refine Below.setCell ?_ ?_ _) | (with_reducible refine Below.trans ?_ (Below.mono (by assumption) ?_)) | go_size | (simp at *; omega))))
  have HQ4 := hide (show CalAt w4 w.heap.size c from calAt_below hb4 (by first | omega | (simp; done) | (simp; omega)) (by first | exact HQ3.out | exact calAt_alloc HQ3.out (by omega) _ | exact calAt_alloc (calAt_alloc HQ3.out (by omega) _) (by simp; omega) _))
  clear q0 q1 q2 q3 q4 q5 q6 q7 q8 q9 q10 q11 q12 q13
  obtain ⟨q0, q1, q2, q3, q4, q5, q6, q7, q8, q9, q10, q11, q12, q13⟩ := HQ4.out
  have HU4 := hide (show UnAt w4 (w.heap.size + 1) u from unAt_below hb4 (by first | omega | (simp; done) | (simp; omega)) (by first | exact HU3.out | exact unAt_alloc HU3.out (by omega) _ | exact unAt_alloc (unAt_alloc HU3.out (by omega) _) (by simp; omega) _))
  clear u0 u1 u2
  obtain ⟨u0, u1, u2⟩ := HU4.out
  have hy4 : w.heap.size < w4.heap.size := by omega
  clear hb4
  go_wp2_with fail
  all_goals first
    | (exfalso; omega)
    | skip
  refine (bounds_ok c _ (by omega) HK.out).mono ?_
  rintro e w5 ⟨rfl, hb5⟩
  rw [← HFA.out, ← HLB.out]
  have HS5 := hide (show SpAt w5 w2.heap.size ⟨sa, sb⟩ from spAt_below hb5 (by first | omega | (simp; done) | (simp; omega)) (by first | exact HS4.out | exact spAt_alloc HS4.out (by omega) _ | exact spAt_alloc (spAt_alloc HS4.out (by omega) _) (by simp; omega) _))
  have hS5 : w2.heap.size < w5.heap.size := by have := hb5.size; (try simp at this); omega
  have HV5 := hide (show UnAt w5 w3.heap.size ⟨V0, V1, V2⟩ from unAt_below hb5 (by first | omega | (simp; done) | (simp; omega)) (by first | exact HV4.out | exact unAt_alloc HV4.out (by omega) _ | exact unAt_alloc (unAt_alloc HV4.out (by omega) _) (by simp; omega) _))
  have hV5 : w3.heap.size < w5.heap.size := by have := hb5.size; (try simp at this); omega
  have HW5 := hide (show UnAt w5 w4.heap.size ⟨W0, W1, W2⟩ from unAt_below hb5 (by simp) (unAt_fresh w4 ⟨W0, W1, W2⟩))
  have hW5 : w4.heap.size < w5.heap.size := by have := hb5.size; (try simp at this); omega
  have hz5 : w.heap.size + 1 < w5.heap.size := by have := hb5.size; (try simp at this); omega
  have HB5 := hide (show Below w.heap.size w w5 by have hp := HB4.out; refine Below.trans ?_ (hb5.mono (by first | omega | (simp; done) | (simp; omega))); (repeat' (first | (with_reducible exact Below.refl _ _) | (with_reducible assumption) | (with_reducible refine Below.alloc ?_ ?_ _) | (with_reducible refine below_drewN ?_ _) | (with_reducible refine Below.drew ?_) | (with_reducible refine Below.setCell ?_ ?_ _) | (with_reducible refine Below.trans ?_ (Below.mono (by assumption) ?_)) | go_size | (simp at *; omega))))
  have HQ5 := hide (show CalAt w5 w.heap.size c from calAt_below hb5 (by first | omega | (simp; done) | (simp; omega)) (by first | exact HQ4.out | exact calAt_alloc HQ4.out (by omega) _ | exact calAt_alloc (calAt_alloc HQ4.out (by omega) _) (by simp; omega) _))
  clear q0 q1 q2 q3 q4 q5 q6 q7 q8 q9 q10 q11 q12 q13
  obtain ⟨q0, q1, q2, q3, q4, q5, q6, q7, q8, q9, q10, q11, q12, q13⟩ := HQ5.out
  have HU5 := hide (show UnAt w5 (w.heap.size + 1) u from unAt_below hb5 (by first | omega | (simp; done) | (simp; omega)) (by first | exact HU4.out | exact unAt_alloc HU4.out (by omega) _ | exact unAt_alloc (unAt_alloc HU4.out (by omega) _) (by simp; omega) _))
  clear u0 u1 u2
  obtain ⟨u0, u1, u2⟩ := HU5.out
  have hy5 : w.heap.size < w5.heap.size := by omega
  clear hb5
  obtain ⟨s0, s1⟩ := HS5.out
  obtain ⟨v0, v1, v2⟩ := HV5.out
  obtain ⟨x0, x1, x2⟩ := HW5.out
  have n3 := N3.out
  have p3 := P3.out
  clear q0 q1 q2 q3 q4 q5 q6 q7 q8 q9 q10 q11 q12 q13
  have hBel := HB5.out
  go_wp2
  all_goals first
    | (exfalso; omega)
    | (go_ret; exact ⟨ret_bool (by simp), by (repeat' (first | (with_reducible exact Below.refl _ _) | (with_reducible assumption) | (with_reducible refine Below.alloc ?_ ?_ _) | (with_reducible refine below_drewN ?_ _) | (with_reducible refine Below.drew ?_) | (with_reducible refine Below.setCell ?_ ?_ _) | (with_reducible refine Below.trans ?_ (Below.mono (by assumption) ?_)) | go_size | (simp at *; omega)))⟩)

set_option maxRecDepth 100000 in
set_option maxHeartbeats 6400000 in
theorem fn_01 (c : Cal) (u : Un) (w : World) (hn : c.name.size ≤ 100) (hE : unitE c u = 0) (hN : nxE c u = 11 ∧ nxU c u = ⟨0, 0, 0⟩ ∧ (spV c u).b = endV c c.last) (hP : bkE c u = 0 ∧ startV c c.first < (spV c u).a ∧ unitE c (bkU c u) = 0 ∧ (spV c (bkU c u)).b + 1 = (spV c u).a ∧ nxE c (bkU c u) = 0 ∧ nxU c (bkU c u) = u) :
    Calls Try.prog 11 #[calV c, unitV u] w fun e w' => e = .returned (.bool true) ∧ Below w.heap.size w w' := by
  have hk : c.okB = true := (frame_ok (unit_ok hE).1).2.1
  have HK := hide hk
  obtain ⟨S, hS⟩ : ∃ S, S = spV c u := ⟨_, rfl⟩
  obtain ⟨fa, hfa⟩ : ∃ x, x = startV c c.first := ⟨_, rfl⟩
  obtain ⟨lb, hlb⟩ : ∃ x, x = endV c c.last := ⟨_, rfl⟩
  obtain ⟨V, hV⟩ : ∃ V, V = nxU c u := ⟨_, rfl⟩
  obtain ⟨W, hW⟩ : ∃ W, W = bkU c u := ⟨_, rfl⟩
  have hsb := sp_bd' hE
  rw [← hS, ← hlb, ← hV] at hN
  rw [← hS, ← hfa, ← hW] at hP
  rw [← hS] at hsb
  have HS := hide hS
  have HFA := hide hfa
  have HLB := hide hlb
  have HV := hide hV
  have HWW := hide hW
  have HE := hide hE
  obtain ⟨sa, sb⟩ := S
  obtain ⟨V0, V1, V2⟩ := V
  obtain ⟨W0, W1, W2⟩ := W
  obtain ⟨n1, n2, n3⟩ := hN
  have HN := hide (And.intro n1 n2)
  simp only at n3
  have N3 := hide n3
  clear n1 n2 n3
  obtain ⟨p1, p2, p3, p4, p5, p6⟩ := hP
  obtain ⟨Q, hQ⟩ : ∃ T, T = spV c ⟨W0, W1, W2⟩ := ⟨_, rfl⟩
  rw [← hQ] at p4
  have hqb := sp_bd' p3
  rw [← hQ] at hqb
  have HQQ := hide hQ
  have HP := hide (And.intro p1 (And.intro p3 (And.intro p5 p6)))
  obtain ⟨qa, qb⟩ := Q
  simp only at p2 p4 hqb
  have P4 := hide p4
  clear hQ p1 p3 p5 p6 p4
  simp only at hsb
  clear hS hfa hlb hV hW hE hk
  have hub : unB u.lv u.yr u.ix u.lv u.yr u.ix = true := unB_same _ _ _
  simp only [calV, unitV]
  go_enter Try.func11, Try.ntmps11
  go_wp2_with fail
  refine (live17_any _).mono ?_
  rintro e w1 ⟨rfl, hb1⟩
  have hz1 : w.heap.size + 1 < w1.heap.size := by have := hb1.size; simp at this; omega
  have HB1 := hide (show Below w.heap.size w w1 by refine Below.trans ?_ (hb1.mono (by first | omega | (simp; done) | (simp; omega))); (repeat' (first | (with_reducible exact Below.refl _ _) | (with_reducible assumption) | (with_reducible refine Below.alloc ?_ ?_ _) | (with_reducible refine below_drewN ?_ _) | (with_reducible refine Below.drew ?_) | (with_reducible refine Below.setCell ?_ ?_ _) | (with_reducible refine Below.trans ?_ (Below.mono (by assumption) ?_)) | go_size | (simp at *; omega))))
  have HQ1 := hide (calAt_below hb1 (by simp; omega) (calAt_alloc (calAt_new w c) (by simp) _))
  have HU1 := hide (unAt_below hb1 (by simp) (unAt_new w c u))
  obtain ⟨q0, q1, q2, q3, q4, q5, q6, q7, q8, q9, q10, q11, q12, q13⟩ := HQ1.out
  obtain ⟨u0, u1, u2⟩ := HU1.out
  have hy1 : w.heap.size < w1.heap.size := by omega
  clear hb1
  go_wp2_with fail
  all_goals first
    | (exfalso; omega)
    | skip
  refine (uspan_any c u _ (by omega)).mono ?_
  rintro e w2 ⟨rfl, hb2⟩
  rw [HE.out, ← HS.out]
  simp only [spanV]
  have hz2 : w.heap.size + 1 < w2.heap.size := by have := hb2.size; (try simp at this); omega
  have HB2 := hide (show Below w.heap.size w w2 by have hp := HB1.out; refine Below.trans ?_ (hb2.mono (by first | omega | (simp; done) | (simp; omega))); (repeat' (first | (with_reducible exact Below.refl _ _) | (with_reducible assumption) | (with_reducible refine Below.alloc ?_ ?_ _) | (with_reducible refine below_drewN ?_ _) | (with_reducible refine Below.drew ?_) | (with_reducible refine Below.setCell ?_ ?_ _) | (with_reducible refine Below.trans ?_ (Below.mono (by assumption) ?_)) | go_size | (simp at *; omega))))
  have HQ2 := hide (show CalAt w2 w.heap.size c from calAt_below hb2 (by first | omega | (simp; done) | (simp; omega)) (by first | exact HQ1.out | exact calAt_alloc HQ1.out (by omega) _ | exact calAt_alloc (calAt_alloc HQ1.out (by omega) _) (by simp; omega) _))
  clear q0 q1 q2 q3 q4 q5 q6 q7 q8 q9 q10 q11 q12 q13
  obtain ⟨q0, q1, q2, q3, q4, q5, q6, q7, q8, q9, q10, q11, q12, q13⟩ := HQ2.out
  have HU2 := hide (show UnAt w2 (w.heap.size + 1) u from unAt_below hb2 (by first | omega | (simp; done) | (simp; omega)) (by first | exact HU1.out | exact unAt_alloc HU1.out (by omega) _ | exact unAt_alloc (unAt_alloc HU1.out (by omega) _) (by simp; omega) _))
  clear u0 u1 u2
  obtain ⟨u0, u1, u2⟩ := HU2.out
  have hy2 : w.heap.size < w2.heap.size := by omega
  clear hb2
  go_wp2_with fail
  refine (fnext_any c u _ (by omega)).mono ?_
  rintro e w3 ⟨rfl, hb3⟩
  rw [HN.out.1, ← HV.out]
  simp only [unitV]
  have HS3 := hide (show SpAt w3 w2.heap.size ⟨sa, sb⟩ from spAt_below hb3 (by simp) (spAt_fresh w2 ⟨sa, sb⟩))
  have hS3 : w2.heap.size < w3.heap.size := by have := hb3.size; (try simp at this); omega
  have hz3 : w.heap.size + 1 < w3.heap.size := by have := hb3.size; (try simp at this); omega
  have HB3 := hide (show Below w.heap.size w w3 by have hp := HB2.out; refine Below.trans ?_ (hb3.mono (by first | omega | (simp; done) | (simp; omega))); (repeat' (first | (with_reducible exact Below.refl _ _) | (with_reducible assumption) | (with_reducible refine Below.alloc ?_ ?_ _) | (with_reducible refine below_drewN ?_ _) | (with_reducible refine Below.drew ?_) | (with_reducible refine Below.setCell ?_ ?_ _) | (with_reducible refine Below.trans ?_ (Below.mono (by assumption) ?_)) | go_size | (simp at *; omega))))
  have HQ3 := hide (show CalAt w3 w.heap.size c from calAt_below hb3 (by first | omega | (simp; done) | (simp; omega)) (by first | exact HQ2.out | exact calAt_alloc HQ2.out (by omega) _ | exact calAt_alloc (calAt_alloc HQ2.out (by omega) _) (by simp; omega) _))
  clear q0 q1 q2 q3 q4 q5 q6 q7 q8 q9 q10 q11 q12 q13
  obtain ⟨q0, q1, q2, q3, q4, q5, q6, q7, q8, q9, q10, q11, q12, q13⟩ := HQ3.out
  have HU3 := hide (show UnAt w3 (w.heap.size + 1) u from unAt_below hb3 (by first | omega | (simp; done) | (simp; omega)) (by first | exact HU2.out | exact unAt_alloc HU2.out (by omega) _ | exact unAt_alloc (unAt_alloc HU2.out (by omega) _) (by simp; omega) _))
  clear u0 u1 u2
  obtain ⟨u0, u1, u2⟩ := HU3.out
  have hy3 : w.heap.size < w3.heap.size := by omega
  clear hb3
  go_wp2_with fail
  refine (fback_any c u _ (by omega)).mono ?_
  rintro e w4 ⟨rfl, hb4⟩
  rw [HP.out.1, ← HWW.out]
  simp only [unitV]
  have HS4 := hide (show SpAt w4 w2.heap.size ⟨sa, sb⟩ from spAt_below hb4 (by first | omega | (simp; done) | (simp; omega)) (by first | exact HS3.out | exact spAt_alloc HS3.out (by omega) _ | exact spAt_alloc (spAt_alloc HS3.out (by omega) _) (by simp; omega) _))
  have hS4 : w2.heap.size < w4.heap.size := by have := hb4.size; (try simp at this); omega
  have HV4 := hide (show UnAt w4 w3.heap.size ⟨V0, V1, V2⟩ from unAt_below hb4 (by simp) (unAt_fresh w3 ⟨V0, V1, V2⟩))
  have hV4 : w3.heap.size < w4.heap.size := by have := hb4.size; (try simp at this); omega
  have hz4 : w.heap.size + 1 < w4.heap.size := by have := hb4.size; (try simp at this); omega
  have HB4 := hide (show Below w.heap.size w w4 by have hp := HB3.out; refine Below.trans ?_ (hb4.mono (by first | omega | (simp; done) | (simp; omega))); (repeat' (first | (with_reducible exact Below.refl _ _) | (with_reducible assumption) | (with_reducible refine Below.alloc ?_ ?_ _) | (with_reducible refine below_drewN ?_ _) | (with_reducible refine Below.drew ?_) | (with_reducible refine Below.setCell ?_ ?_ _) | (with_reducible refine Below.trans ?_ (Below.mono (by assumption) ?_)) | go_size | (simp at *; omega))))
  have HQ4 := hide (show CalAt w4 w.heap.size c from calAt_below hb4 (by first | omega | (simp; done) | (simp; omega)) (by first | exact HQ3.out | exact calAt_alloc HQ3.out (by omega) _ | exact calAt_alloc (calAt_alloc HQ3.out (by omega) _) (by simp; omega) _))
  clear q0 q1 q2 q3 q4 q5 q6 q7 q8 q9 q10 q11 q12 q13
  obtain ⟨q0, q1, q2, q3, q4, q5, q6, q7, q8, q9, q10, q11, q12, q13⟩ := HQ4.out
  have HU4 := hide (show UnAt w4 (w.heap.size + 1) u from unAt_below hb4 (by first | omega | (simp; done) | (simp; omega)) (by first | exact HU3.out | exact unAt_alloc HU3.out (by omega) _ | exact unAt_alloc (unAt_alloc HU3.out (by omega) _) (by simp; omega) _))
  clear u0 u1 u2
  obtain ⟨u0, u1, u2⟩ := HU4.out
  have hy4 : w.heap.size < w4.heap.size := by omega
  clear hb4
  go_wp2_with fail
  all_goals first
    | (exfalso; omega)
    | skip
  refine (bounds_ok c _ (by omega) HK.out).mono ?_
  rintro e w5 ⟨rfl, hb5⟩
  rw [← HFA.out, ← HLB.out]
  have HS5 := hide (show SpAt w5 w2.heap.size ⟨sa, sb⟩ from spAt_below hb5 (by first | omega | (simp; done) | (simp; omega)) (by first | exact HS4.out | exact spAt_alloc HS4.out (by omega) _ | exact spAt_alloc (spAt_alloc HS4.out (by omega) _) (by simp; omega) _))
  have hS5 : w2.heap.size < w5.heap.size := by have := hb5.size; (try simp at this); omega
  have HV5 := hide (show UnAt w5 w3.heap.size ⟨V0, V1, V2⟩ from unAt_below hb5 (by first | omega | (simp; done) | (simp; omega)) (by first | exact HV4.out | exact unAt_alloc HV4.out (by omega) _ | exact unAt_alloc (unAt_alloc HV4.out (by omega) _) (by simp; omega) _))
  have hV5 : w3.heap.size < w5.heap.size := by have := hb5.size; (try simp at this); omega
  have HW5 := hide (show UnAt w5 w4.heap.size ⟨W0, W1, W2⟩ from unAt_below hb5 (by simp) (unAt_fresh w4 ⟨W0, W1, W2⟩))
  have hW5 : w4.heap.size < w5.heap.size := by have := hb5.size; (try simp at this); omega
  have hz5 : w.heap.size + 1 < w5.heap.size := by have := hb5.size; (try simp at this); omega
  have HB5 := hide (show Below w.heap.size w w5 by have hp := HB4.out; refine Below.trans ?_ (hb5.mono (by first | omega | (simp; done) | (simp; omega))); (repeat' (first | (with_reducible exact Below.refl _ _) | (with_reducible assumption) | (with_reducible refine Below.alloc ?_ ?_ _) | (with_reducible refine below_drewN ?_ _) | (with_reducible refine Below.drew ?_) | (with_reducible refine Below.setCell ?_ ?_ _) | (with_reducible refine Below.trans ?_ (Below.mono (by assumption) ?_)) | go_size | (simp at *; omega))))
  have HQ5 := hide (show CalAt w5 w.heap.size c from calAt_below hb5 (by first | omega | (simp; done) | (simp; omega)) (by first | exact HQ4.out | exact calAt_alloc HQ4.out (by omega) _ | exact calAt_alloc (calAt_alloc HQ4.out (by omega) _) (by simp; omega) _))
  clear q0 q1 q2 q3 q4 q5 q6 q7 q8 q9 q10 q11 q12 q13
  obtain ⟨q0, q1, q2, q3, q4, q5, q6, q7, q8, q9, q10, q11, q12, q13⟩ := HQ5.out
  have HU5 := hide (show UnAt w5 (w.heap.size + 1) u from unAt_below hb5 (by first | omega | (simp; done) | (simp; omega)) (by first | exact HU4.out | exact unAt_alloc HU4.out (by omega) _ | exact unAt_alloc (unAt_alloc HU4.out (by omega) _) (by simp; omega) _))
  clear u0 u1 u2
  obtain ⟨u0, u1, u2⟩ := HU5.out
  have hy5 : w.heap.size < w5.heap.size := by omega
  clear hb5
  obtain ⟨s0, s1⟩ := HS5.out
  obtain ⟨v0, v1, v2⟩ := HV5.out
  obtain ⟨x0, x1, x2⟩ := HW5.out
  have n3 := N3.out
  go_wp2_with fail
  all_goals first
    | (exfalso; omega)
    | skip
  refine (uspan_any c ⟨W0, W1, W2⟩ _ (by omega)).mono ?_
  rintro e w6 ⟨rfl, hb6⟩
  rw [HP.out.2.1, ← HQQ.out]
  simp only [spanV]
  clear s0 s1 v0 v1 v2 x0 x1 x2
  have HS6 := hide (show SpAt w6 w2.heap.size ⟨sa, sb⟩ from spAt_below hb6 (by first | omega | (simp; done) | (simp; omega)) (by first | exact HS5.out | exact spAt_alloc HS5.out (by omega) _ | exact spAt_alloc (spAt_alloc HS5.out (by omega) _) (by simp; omega) _))
  have hS6 : w2.heap.size < w6.heap.size := by have := hb6.size; (try simp at this); omega
  have HV6 := hide (show UnAt w6 w3.heap.size ⟨V0, V1, V2⟩ from unAt_below hb6 (by first | omega | (simp; done) | (simp; omega)) (by first | exact HV5.out | exact unAt_alloc HV5.out (by omega) _ | exact unAt_alloc (unAt_alloc HV5.out (by omega) _) (by simp; omega) _))
  have hV6 : w3.heap.size < w6.heap.size := by have := hb6.size; (try simp at this); omega
  have HW6 := hide (show UnAt w6 w4.heap.size ⟨W0, W1, W2⟩ from unAt_below hb6 (by first | omega | (simp; done) | (simp; omega)) (by first | exact HW5.out | exact unAt_alloc HW5.out (by omega) _ | exact unAt_alloc (unAt_alloc HW5.out (by omega) _) (by simp; omega) _))
  have hW6 : w4.heap.size < w6.heap.size := by have := hb6.size; (try simp at this); omega
  have hz6 : w.heap.size + 1 < w6.heap.size := by have := hb6.size; (try simp at this); omega
  have HB6 := hide (show Below w.heap.size w w6 by have hp := HB5.out; refine Below.trans ?_ (hb6.mono (by first | omega | (simp; done) | (simp; omega))); (repeat' (first | (with_reducible exact Below.refl _ _) | (with_reducible assumption) | (with_reducible refine Below.alloc ?_ ?_ _) | (with_reducible refine below_drewN ?_ _) | (with_reducible refine Below.drew ?_) | (with_reducible refine Below.setCell ?_ ?_ _) | (with_reducible refine Below.trans ?_ (Below.mono (by assumption) ?_)) | go_size | (simp at *; omega))))
  have HQ6 := hide (show CalAt w6 w.heap.size c from calAt_below hb6 (by first | omega | (simp; done) | (simp; omega)) (by first | exact HQ5.out | exact calAt_alloc HQ5.out (by omega) _ | exact calAt_alloc (calAt_alloc HQ5.out (by omega) _) (by simp; omega) _))
  clear q0 q1 q2 q3 q4 q5 q6 q7 q8 q9 q10 q11 q12 q13
  obtain ⟨q0, q1, q2, q3, q4, q5, q6, q7, q8, q9, q10, q11, q12, q13⟩ := HQ6.out
  have HU6 := hide (show UnAt w6 (w.heap.size + 1) u from unAt_below hb6 (by first | omega | (simp; done) | (simp; omega)) (by first | exact HU5.out | exact unAt_alloc HU5.out (by omega) _ | exact unAt_alloc (unAt_alloc HU5.out (by omega) _) (by simp; omega) _))
  clear u0 u1 u2
  obtain ⟨u0, u1, u2⟩ := HU6.out
  have hy6 : w.heap.size < w6.heap.size := by omega
  clear hb6
  obtain ⟨s0, s1⟩ := HS6.out
  obtain ⟨v0, v1, v2⟩ := HV6.out
  obtain ⟨x0, x1, x2⟩ := HW6.out
  go_wp2_with fail
  refine (fnext_any c ⟨W0, W1, W2⟩ _ (by omega)).mono ?_
  rintro e w7 ⟨rfl, hb7⟩
  rw [HP.out.2.2.1, HP.out.2.2.2]
  simp only [unitV]
  clear s0 s1 v0 v1 v2 x0 x1 x2
  have HS7 := hide (show SpAt w7 w2.heap.size ⟨sa, sb⟩ from spAt_below hb7 (by first | omega | (simp; done) | (simp; omega)) (by first | exact HS6.out | exact spAt_alloc HS6.out (by omega) _ | exact spAt_alloc (spAt_alloc HS6.out (by omega) _) (by simp; omega) _))
  have hS7 : w2.heap.size < w7.heap.size := by have := hb7.size; (try simp at this); omega
  have HV7 := hide (show UnAt w7 w3.heap.size ⟨V0, V1, V2⟩ from unAt_below hb7 (by first | omega | (simp; done) | (simp; omega)) (by first | exact HV6.out | exact unAt_alloc HV6.out (by omega) _ | exact unAt_alloc (unAt_alloc HV6.out (by omega) _) (by simp; omega) _))
  have hV7 : w3.heap.size < w7.heap.size := by have := hb7.size; (try simp at this); omega
  have HW7 := hide (show UnAt w7 w4.heap.size ⟨W0, W1, W2⟩ from unAt_below hb7 (by first | omega | (simp; done) | (simp; omega)) (by first | exact HW6.out | exact unAt_alloc HW6.out (by omega) _ | exact unAt_alloc (unAt_alloc HW6.out (by omega) _) (by simp; omega) _))
  have hW7 : w4.heap.size < w7.heap.size := by have := hb7.size; (try simp at this); omega
  have HR7 := hide (show SpAt w7 w6.heap.size ⟨qa, qb⟩ from spAt_below hb7 (by simp) (spAt_fresh w6 ⟨qa, qb⟩))
  have hR7 : w6.heap.size < w7.heap.size := by have := hb7.size; (try simp at this); omega
  have hz7 : w.heap.size + 1 < w7.heap.size := by have := hb7.size; (try simp at this); omega
  have HB7 := hide (show Below w.heap.size w w7 by have hp := HB6.out; refine Below.trans ?_ (hb7.mono (by first | omega | (simp; done) | (simp; omega))); (repeat' (first | (with_reducible exact Below.refl _ _) | (with_reducible assumption) | (with_reducible refine Below.alloc ?_ ?_ _) | (with_reducible refine below_drewN ?_ _) | (with_reducible refine Below.drew ?_) | (with_reducible refine Below.setCell ?_ ?_ _) | (with_reducible refine Below.trans ?_ (Below.mono (by assumption) ?_)) | go_size | (simp at *; omega))))
  have HQ7 := hide (show CalAt w7 w.heap.size c from calAt_below hb7 (by first | omega | (simp; done) | (simp; omega)) (by first | exact HQ6.out | exact calAt_alloc HQ6.out (by omega) _ | exact calAt_alloc (calAt_alloc HQ6.out (by omega) _) (by simp; omega) _))
  clear q0 q1 q2 q3 q4 q5 q6 q7 q8 q9 q10 q11 q12 q13
  obtain ⟨q0, q1, q2, q3, q4, q5, q6, q7, q8, q9, q10, q11, q12, q13⟩ := HQ7.out
  have HU7 := hide (show UnAt w7 (w.heap.size + 1) u from unAt_below hb7 (by first | omega | (simp; done) | (simp; omega)) (by first | exact HU6.out | exact unAt_alloc HU6.out (by omega) _ | exact unAt_alloc (unAt_alloc HU6.out (by omega) _) (by simp; omega) _))
  clear u0 u1 u2
  obtain ⟨u0, u1, u2⟩ := HU7.out
  have hy7 : w.heap.size < w7.heap.size := by omega
  clear hb7
  obtain ⟨s0, s1⟩ := HS7.out
  obtain ⟨v0, v1, v2⟩ := HV7.out
  obtain ⟨x0, x1, x2⟩ := HW7.out
  obtain ⟨t0, t1⟩ := HR7.out
  have p4 := P4.out
  clear q0 q1 q2 q3 q4 q5 q6 q7 q8 q9 q10 q11 q12 q13
  have hBel := HB7.out
  go_wp2
  all_goals first
    | (exfalso; omega)
    | (go_ret; exact ⟨ret_bool (by simp), by (repeat' (first | (with_reducible exact Below.refl _ _) | (with_reducible assumption) | (with_reducible refine Below.alloc ?_ ?_ _) | (with_reducible refine below_drewN ?_ _) | (with_reducible refine Below.drew ?_) | (with_reducible refine Below.setCell ?_ ?_ _) | (with_reducible refine Below.trans ?_ (Below.mono (by assumption) ?_)) | go_size | (simp at *; omega)))⟩)

set_option maxRecDepth 100000 in
set_option maxHeartbeats 6400000 in
theorem fn_10 (c : Cal) (u : Un) (w : World) (hn : c.name.size ≤ 100) (hE : unitE c u = 0) (hN : nxE c u = 0 ∧ (spV c u).b < endV c c.last ∧ unitE c (nxU c u) = 0 ∧ (spV c (nxU c u)).a = (spV c u).b + 1 ∧ bkE c (nxU c u) = 0 ∧ bkU c (nxU c u) = u) (hP : bkE c u = 11 ∧ bkU c u = ⟨0, 0, 0⟩ ∧ (spV c u).a = startV c c.first) :
    Calls Try.prog 11 #[calV c, unitV u] w fun e w' => e = .returned (.bool true) ∧ Below w.heap.size w w' := by
  have hk : c.okB = true := (frame_ok (unit_ok hE).1).2.1
  have HK := hide hk
  obtain ⟨S, hS⟩ : ∃ S, S = spV c u := ⟨_, rfl⟩
  obtain ⟨fa, hfa⟩ : ∃ x, x = startV c c.first := ⟨_, rfl⟩
  obtain ⟨lb, hlb⟩ : ∃ x, x = endV c c.last := ⟨_, rfl⟩
  obtain ⟨V, hV⟩ : ∃ V, V = nxU c u := ⟨_, rfl⟩
  obtain ⟨W, hW⟩ : ∃ W, W = bkU c u := ⟨_, rfl⟩
  have hsb := sp_bd' hE
  rw [← hS, ← hlb, ← hV] at hN
  rw [← hS, ← hfa, ← hW] at hP
  rw [← hS] at hsb
  have HS := hide hS
  have HFA := hide hfa
  have HLB := hide hlb
  have HV := hide hV
  have HWW := hide hW
  have HE := hide hE
  obtain ⟨sa, sb⟩ := S
  obtain ⟨V0, V1, V2⟩ := V
  obtain ⟨W0, W1, W2⟩ := W
  obtain ⟨n1, n2, n3, n4, n5, n6⟩ := hN
  obtain ⟨T, hT⟩ : ∃ T, T = spV c ⟨V0, V1, V2⟩ := ⟨_, rfl⟩
  rw [← hT] at n4
  have HT := hide hT
  have HN := hide (And.intro n1 (And.intro n3 (And.intro n5 n6)))
  obtain ⟨ta, tb⟩ := T
  simp only at n2 n4
  have N4 := hide n4
  clear hT n1 n3 n5 n6 n4
  obtain ⟨p1, p2, p3⟩ := hP
  have HP := hide (And.intro p1 p2)
  simp only at p3
  have P3 := hide p3
  clear p1 p2 p3
  simp only at hsb
  clear hS hfa hlb hV hW hE hk
  have hub : unB u.lv u.yr u.ix u.lv u.yr u.ix = true := unB_same _ _ _
  simp only [calV, unitV]
  go_enter Try.func11, Try.ntmps11
  go_wp2_with fail
  refine (live17_any _).mono ?_
  rintro e w1 ⟨rfl, hb1⟩
  have hz1 : w.heap.size + 1 < w1.heap.size := by have := hb1.size; simp at this; omega
  have HB1 := hide (show Below w.heap.size w w1 by refine Below.trans ?_ (hb1.mono (by first | omega | (simp; done) | (simp; omega))); (repeat' (first | (with_reducible exact Below.refl _ _) | (with_reducible assumption) | (with_reducible refine Below.alloc ?_ ?_ _) | (with_reducible refine below_drewN ?_ _) | (with_reducible refine Below.drew ?_) | (with_reducible refine Below.setCell ?_ ?_ _) | (with_reducible refine Below.trans ?_ (Below.mono (by assumption) ?_)) | go_size | (simp at *; omega))))
  have HQ1 := hide (calAt_below hb1 (by simp; omega) (calAt_alloc (calAt_new w c) (by simp) _))
  have HU1 := hide (unAt_below hb1 (by simp) (unAt_new w c u))
  obtain ⟨q0, q1, q2, q3, q4, q5, q6, q7, q8, q9, q10, q11, q12, q13⟩ := HQ1.out
  obtain ⟨u0, u1, u2⟩ := HU1.out
  have hy1 : w.heap.size < w1.heap.size := by omega
  clear hb1
  go_wp2_with fail
  all_goals first
    | (exfalso; omega)
    | skip
  refine (uspan_any c u _ (by omega)).mono ?_
  rintro e w2 ⟨rfl, hb2⟩
  rw [HE.out, ← HS.out]
  simp only [spanV]
  have hz2 : w.heap.size + 1 < w2.heap.size := by have := hb2.size; (try simp at this); omega
  have HB2 := hide (show Below w.heap.size w w2 by have hp := HB1.out; refine Below.trans ?_ (hb2.mono (by first | omega | (simp; done) | (simp; omega))); (repeat' (first | (with_reducible exact Below.refl _ _) | (with_reducible assumption) | (with_reducible refine Below.alloc ?_ ?_ _) | (with_reducible refine below_drewN ?_ _) | (with_reducible refine Below.drew ?_) | (with_reducible refine Below.setCell ?_ ?_ _) | (with_reducible refine Below.trans ?_ (Below.mono (by assumption) ?_)) | go_size | (simp at *; omega))))
  have HQ2 := hide (show CalAt w2 w.heap.size c from calAt_below hb2 (by first | omega | (simp; done) | (simp; omega)) (by first | exact HQ1.out | exact calAt_alloc HQ1.out (by omega) _ | exact calAt_alloc (calAt_alloc HQ1.out (by omega) _) (by simp; omega) _))
  clear q0 q1 q2 q3 q4 q5 q6 q7 q8 q9 q10 q11 q12 q13
  obtain ⟨q0, q1, q2, q3, q4, q5, q6, q7, q8, q9, q10, q11, q12, q13⟩ := HQ2.out
  have HU2 := hide (show UnAt w2 (w.heap.size + 1) u from unAt_below hb2 (by first | omega | (simp; done) | (simp; omega)) (by first | exact HU1.out | exact unAt_alloc HU1.out (by omega) _ | exact unAt_alloc (unAt_alloc HU1.out (by omega) _) (by simp; omega) _))
  clear u0 u1 u2
  obtain ⟨u0, u1, u2⟩ := HU2.out
  have hy2 : w.heap.size < w2.heap.size := by omega
  clear hb2
  go_wp2_with fail
  refine (fnext_any c u _ (by omega)).mono ?_
  rintro e w3 ⟨rfl, hb3⟩
  rw [HN.out.1, ← HV.out]
  simp only [unitV]
  have HS3 := hide (show SpAt w3 w2.heap.size ⟨sa, sb⟩ from spAt_below hb3 (by simp) (spAt_fresh w2 ⟨sa, sb⟩))
  have hS3 : w2.heap.size < w3.heap.size := by have := hb3.size; (try simp at this); omega
  have hz3 : w.heap.size + 1 < w3.heap.size := by have := hb3.size; (try simp at this); omega
  have HB3 := hide (show Below w.heap.size w w3 by have hp := HB2.out; refine Below.trans ?_ (hb3.mono (by first | omega | (simp; done) | (simp; omega))); (repeat' (first | (with_reducible exact Below.refl _ _) | (with_reducible assumption) | (with_reducible refine Below.alloc ?_ ?_ _) | (with_reducible refine below_drewN ?_ _) | (with_reducible refine Below.drew ?_) | (with_reducible refine Below.setCell ?_ ?_ _) | (with_reducible refine Below.trans ?_ (Below.mono (by assumption) ?_)) | go_size | (simp at *; omega))))
  have HQ3 := hide (show CalAt w3 w.heap.size c from calAt_below hb3 (by first | omega | (simp; done) | (simp; omega)) (by first | exact HQ2.out | exact calAt_alloc HQ2.out (by omega) _ | exact calAt_alloc (calAt_alloc HQ2.out (by omega) _) (by simp; omega) _))
  clear q0 q1 q2 q3 q4 q5 q6 q7 q8 q9 q10 q11 q12 q13
  obtain ⟨q0, q1, q2, q3, q4, q5, q6, q7, q8, q9, q10, q11, q12, q13⟩ := HQ3.out
  have HU3 := hide (show UnAt w3 (w.heap.size + 1) u from unAt_below hb3 (by first | omega | (simp; done) | (simp; omega)) (by first | exact HU2.out | exact unAt_alloc HU2.out (by omega) _ | exact unAt_alloc (unAt_alloc HU2.out (by omega) _) (by simp; omega) _))
  clear u0 u1 u2
  obtain ⟨u0, u1, u2⟩ := HU3.out
  have hy3 : w.heap.size < w3.heap.size := by omega
  clear hb3
  go_wp2_with fail
  refine (fback_any c u _ (by omega)).mono ?_
  rintro e w4 ⟨rfl, hb4⟩
  rw [HP.out.1, ← HWW.out]
  simp only [unitV]
  have HS4 := hide (show SpAt w4 w2.heap.size ⟨sa, sb⟩ from spAt_below hb4 (by first | omega | (simp; done) | (simp; omega)) (by first | exact HS3.out | exact spAt_alloc HS3.out (by omega) _ | exact spAt_alloc (spAt_alloc HS3.out (by omega) _) (by simp; omega) _))
  have hS4 : w2.heap.size < w4.heap.size := by have := hb4.size; (try simp at this); omega
  have HV4 := hide (show UnAt w4 w3.heap.size ⟨V0, V1, V2⟩ from unAt_below hb4 (by simp) (unAt_fresh w3 ⟨V0, V1, V2⟩))
  have hV4 : w3.heap.size < w4.heap.size := by have := hb4.size; (try simp at this); omega
  have hz4 : w.heap.size + 1 < w4.heap.size := by have := hb4.size; (try simp at this); omega
  have HB4 := hide (show Below w.heap.size w w4 by have hp := HB3.out; refine Below.trans ?_ (hb4.mono (by first | omega | (simp; done) | (simp; omega))); (repeat' (first | (with_reducible exact Below.refl _ _) | (with_reducible assumption) | (with_reducible refine Below.alloc ?_ ?_ _) | (with_reducible refine below_drewN ?_ _) | (with_reducible refine Below.drew ?_) | (with_reducible refine Below.setCell ?_ ?_ _) | (with_reducible refine Below.trans ?_ (Below.mono (by assumption) ?_)) | go_size | (simp at *; omega))))
  have HQ4 := hide (show CalAt w4 w.heap.size c from calAt_below hb4 (by first | omega | (simp; done) | (simp; omega)) (by first | exact HQ3.out | exact calAt_alloc HQ3.out (by omega) _ | exact calAt_alloc (calAt_alloc HQ3.out (by omega) _) (by simp; omega) _))
  clear q0 q1 q2 q3 q4 q5 q6 q7 q8 q9 q10 q11 q12 q13
  obtain ⟨q0, q1, q2, q3, q4, q5, q6, q7, q8, q9, q10, q11, q12, q13⟩ := HQ4.out
  have HU4 := hide (show UnAt w4 (w.heap.size + 1) u from unAt_below hb4 (by first | omega | (simp; done) | (simp; omega)) (by first | exact HU3.out | exact unAt_alloc HU3.out (by omega) _ | exact unAt_alloc (unAt_alloc HU3.out (by omega) _) (by simp; omega) _))
  clear u0 u1 u2
  obtain ⟨u0, u1, u2⟩ := HU4.out
  have hy4 : w.heap.size < w4.heap.size := by omega
  clear hb4
  go_wp2_with fail
  all_goals first
    | (exfalso; omega)
    | skip
  refine (bounds_ok c _ (by omega) HK.out).mono ?_
  rintro e w5 ⟨rfl, hb5⟩
  rw [← HFA.out, ← HLB.out]
  have HS5 := hide (show SpAt w5 w2.heap.size ⟨sa, sb⟩ from spAt_below hb5 (by first | omega | (simp; done) | (simp; omega)) (by first | exact HS4.out | exact spAt_alloc HS4.out (by omega) _ | exact spAt_alloc (spAt_alloc HS4.out (by omega) _) (by simp; omega) _))
  have hS5 : w2.heap.size < w5.heap.size := by have := hb5.size; (try simp at this); omega
  have HV5 := hide (show UnAt w5 w3.heap.size ⟨V0, V1, V2⟩ from unAt_below hb5 (by first | omega | (simp; done) | (simp; omega)) (by first | exact HV4.out | exact unAt_alloc HV4.out (by omega) _ | exact unAt_alloc (unAt_alloc HV4.out (by omega) _) (by simp; omega) _))
  have hV5 : w3.heap.size < w5.heap.size := by have := hb5.size; (try simp at this); omega
  have HW5 := hide (show UnAt w5 w4.heap.size ⟨W0, W1, W2⟩ from unAt_below hb5 (by simp) (unAt_fresh w4 ⟨W0, W1, W2⟩))
  have hW5 : w4.heap.size < w5.heap.size := by have := hb5.size; (try simp at this); omega
  have hz5 : w.heap.size + 1 < w5.heap.size := by have := hb5.size; (try simp at this); omega
  have HB5 := hide (show Below w.heap.size w w5 by have hp := HB4.out; refine Below.trans ?_ (hb5.mono (by first | omega | (simp; done) | (simp; omega))); (repeat' (first | (with_reducible exact Below.refl _ _) | (with_reducible assumption) | (with_reducible refine Below.alloc ?_ ?_ _) | (with_reducible refine below_drewN ?_ _) | (with_reducible refine Below.drew ?_) | (with_reducible refine Below.setCell ?_ ?_ _) | (with_reducible refine Below.trans ?_ (Below.mono (by assumption) ?_)) | go_size | (simp at *; omega))))
  have HQ5 := hide (show CalAt w5 w.heap.size c from calAt_below hb5 (by first | omega | (simp; done) | (simp; omega)) (by first | exact HQ4.out | exact calAt_alloc HQ4.out (by omega) _ | exact calAt_alloc (calAt_alloc HQ4.out (by omega) _) (by simp; omega) _))
  clear q0 q1 q2 q3 q4 q5 q6 q7 q8 q9 q10 q11 q12 q13
  obtain ⟨q0, q1, q2, q3, q4, q5, q6, q7, q8, q9, q10, q11, q12, q13⟩ := HQ5.out
  have HU5 := hide (show UnAt w5 (w.heap.size + 1) u from unAt_below hb5 (by first | omega | (simp; done) | (simp; omega)) (by first | exact HU4.out | exact unAt_alloc HU4.out (by omega) _ | exact unAt_alloc (unAt_alloc HU4.out (by omega) _) (by simp; omega) _))
  clear u0 u1 u2
  obtain ⟨u0, u1, u2⟩ := HU5.out
  have hy5 : w.heap.size < w5.heap.size := by omega
  clear hb5
  obtain ⟨s0, s1⟩ := HS5.out
  obtain ⟨v0, v1, v2⟩ := HV5.out
  obtain ⟨x0, x1, x2⟩ := HW5.out
  have p3 := P3.out
  go_wp2_with fail
  all_goals first
    | (exfalso; omega)
    | skip
  refine (uspan_any c ⟨V0, V1, V2⟩ _ (by omega)).mono ?_
  rintro e w6 ⟨rfl, hb6⟩
  rw [HN.out.2.1, ← HT.out]
  simp only [spanV]
  clear s0 s1 v0 v1 v2 x0 x1 x2
  have HS6 := hide (show SpAt w6 w2.heap.size ⟨sa, sb⟩ from spAt_below hb6 (by first | omega | (simp; done) | (simp; omega)) (by first | exact HS5.out | exact spAt_alloc HS5.out (by omega) _ | exact spAt_alloc (spAt_alloc HS5.out (by omega) _) (by simp; omega) _))
  have hS6 : w2.heap.size < w6.heap.size := by have := hb6.size; (try simp at this); omega
  have HV6 := hide (show UnAt w6 w3.heap.size ⟨V0, V1, V2⟩ from unAt_below hb6 (by first | omega | (simp; done) | (simp; omega)) (by first | exact HV5.out | exact unAt_alloc HV5.out (by omega) _ | exact unAt_alloc (unAt_alloc HV5.out (by omega) _) (by simp; omega) _))
  have hV6 : w3.heap.size < w6.heap.size := by have := hb6.size; (try simp at this); omega
  have HW6 := hide (show UnAt w6 w4.heap.size ⟨W0, W1, W2⟩ from unAt_below hb6 (by first | omega | (simp; done) | (simp; omega)) (by first | exact HW5.out | exact unAt_alloc HW5.out (by omega) _ | exact unAt_alloc (unAt_alloc HW5.out (by omega) _) (by simp; omega) _))
  have hW6 : w4.heap.size < w6.heap.size := by have := hb6.size; (try simp at this); omega
  have hz6 : w.heap.size + 1 < w6.heap.size := by have := hb6.size; (try simp at this); omega
  have HB6 := hide (show Below w.heap.size w w6 by have hp := HB5.out; refine Below.trans ?_ (hb6.mono (by first | omega | (simp; done) | (simp; omega))); (repeat' (first | (with_reducible exact Below.refl _ _) | (with_reducible assumption) | (with_reducible refine Below.alloc ?_ ?_ _) | (with_reducible refine below_drewN ?_ _) | (with_reducible refine Below.drew ?_) | (with_reducible refine Below.setCell ?_ ?_ _) | (with_reducible refine Below.trans ?_ (Below.mono (by assumption) ?_)) | go_size | (simp at *; omega))))
  have HQ6 := hide (show CalAt w6 w.heap.size c from calAt_below hb6 (by first | omega | (simp; done) | (simp; omega)) (by first | exact HQ5.out | exact calAt_alloc HQ5.out (by omega) _ | exact calAt_alloc (calAt_alloc HQ5.out (by omega) _) (by simp; omega) _))
  clear q0 q1 q2 q3 q4 q5 q6 q7 q8 q9 q10 q11 q12 q13
  obtain ⟨q0, q1, q2, q3, q4, q5, q6, q7, q8, q9, q10, q11, q12, q13⟩ := HQ6.out
  have HU6 := hide (show UnAt w6 (w.heap.size + 1) u from unAt_below hb6 (by first | omega | (simp; done) | (simp; omega)) (by first | exact HU5.out | exact unAt_alloc HU5.out (by omega) _ | exact unAt_alloc (unAt_alloc HU5.out (by omega) _) (by simp; omega) _))
  clear u0 u1 u2
  obtain ⟨u0, u1, u2⟩ := HU6.out
  have hy6 : w.heap.size < w6.heap.size := by omega
  clear hb6
  obtain ⟨s0, s1⟩ := HS6.out
  obtain ⟨v0, v1, v2⟩ := HV6.out
  obtain ⟨x0, x1, x2⟩ := HW6.out
  go_wp2_with fail
  refine (fback_any c ⟨V0, V1, V2⟩ _ (by omega)).mono ?_
  rintro e w7 ⟨rfl, hb7⟩
  rw [HN.out.2.2.1, HN.out.2.2.2]
  simp only [unitV]
  clear s0 s1 v0 v1 v2 x0 x1 x2
  have HS7 := hide (show SpAt w7 w2.heap.size ⟨sa, sb⟩ from spAt_below hb7 (by first | omega | (simp; done) | (simp; omega)) (by first | exact HS6.out | exact spAt_alloc HS6.out (by omega) _ | exact spAt_alloc (spAt_alloc HS6.out (by omega) _) (by simp; omega) _))
  have hS7 : w2.heap.size < w7.heap.size := by have := hb7.size; (try simp at this); omega
  have HV7 := hide (show UnAt w7 w3.heap.size ⟨V0, V1, V2⟩ from unAt_below hb7 (by first | omega | (simp; done) | (simp; omega)) (by first | exact HV6.out | exact unAt_alloc HV6.out (by omega) _ | exact unAt_alloc (unAt_alloc HV6.out (by omega) _) (by simp; omega) _))
  have hV7 : w3.heap.size < w7.heap.size := by have := hb7.size; (try simp at this); omega
  have HW7 := hide (show UnAt w7 w4.heap.size ⟨W0, W1, W2⟩ from unAt_below hb7 (by first | omega | (simp; done) | (simp; omega)) (by first | exact HW6.out | exact unAt_alloc HW6.out (by omega) _ | exact unAt_alloc (unAt_alloc HW6.out (by omega) _) (by simp; omega) _))
  have hW7 : w4.heap.size < w7.heap.size := by have := hb7.size; (try simp at this); omega
  have HT7 := hide (show SpAt w7 w6.heap.size ⟨ta, tb⟩ from spAt_below hb7 (by simp) (spAt_fresh w6 ⟨ta, tb⟩))
  have hT7 : w6.heap.size < w7.heap.size := by have := hb7.size; (try simp at this); omega
  have hz7 : w.heap.size + 1 < w7.heap.size := by have := hb7.size; (try simp at this); omega
  have HB7 := hide (show Below w.heap.size w w7 by have hp := HB6.out; refine Below.trans ?_ (hb7.mono (by first | omega | (simp; done) | (simp; omega))); (repeat' (first | (with_reducible exact Below.refl _ _) | (with_reducible assumption) | (with_reducible refine Below.alloc ?_ ?_ _) | (with_reducible refine below_drewN ?_ _) | (with_reducible refine Below.drew ?_) | (with_reducible refine Below.setCell ?_ ?_ _) | (with_reducible refine Below.trans ?_ (Below.mono (by assumption) ?_)) | go_size | (simp at *; omega))))
  have HQ7 := hide (show CalAt w7 w.heap.size c from calAt_below hb7 (by first | omega | (simp; done) | (simp; omega)) (by first | exact HQ6.out | exact calAt_alloc HQ6.out (by omega) _ | exact calAt_alloc (calAt_alloc HQ6.out (by omega) _) (by simp; omega) _))
  clear q0 q1 q2 q3 q4 q5 q6 q7 q8 q9 q10 q11 q12 q13
  obtain ⟨q0, q1, q2, q3, q4, q5, q6, q7, q8, q9, q10, q11, q12, q13⟩ := HQ7.out
  have HU7 := hide (show UnAt w7 (w.heap.size + 1) u from unAt_below hb7 (by first | omega | (simp; done) | (simp; omega)) (by first | exact HU6.out | exact unAt_alloc HU6.out (by omega) _ | exact unAt_alloc (unAt_alloc HU6.out (by omega) _) (by simp; omega) _))
  clear u0 u1 u2
  obtain ⟨u0, u1, u2⟩ := HU7.out
  have hy7 : w.heap.size < w7.heap.size := by omega
  clear hb7
  obtain ⟨s0, s1⟩ := HS7.out
  obtain ⟨v0, v1, v2⟩ := HV7.out
  obtain ⟨x0, x1, x2⟩ := HW7.out
  obtain ⟨t0, t1⟩ := HT7.out
  have n4 := N4.out
  clear q0 q1 q2 q3 q4 q5 q6 q7 q8 q9 q10 q11 q12 q13
  have hBel := HB7.out
  go_wp2
  all_goals first
    | (exfalso; omega)
    | (go_ret; exact ⟨ret_bool (by simp), by (repeat' (first | (with_reducible exact Below.refl _ _) | (with_reducible assumption) | (with_reducible refine Below.alloc ?_ ?_ _) | (with_reducible refine below_drewN ?_ _) | (with_reducible refine Below.drew ?_) | (with_reducible refine Below.setCell ?_ ?_ _) | (with_reducible refine Below.trans ?_ (Below.mono (by assumption) ?_)) | go_size | (simp at *; omega)))⟩)

set_option maxRecDepth 100000 in
set_option maxHeartbeats 6400000 in
theorem fn_11 (c : Cal) (u : Un) (w : World) (hn : c.name.size ≤ 100) (hE : unitE c u = 0) (hN : nxE c u = 0 ∧ (spV c u).b < endV c c.last ∧ unitE c (nxU c u) = 0 ∧ (spV c (nxU c u)).a = (spV c u).b + 1 ∧ bkE c (nxU c u) = 0 ∧ bkU c (nxU c u) = u) (hP : bkE c u = 0 ∧ startV c c.first < (spV c u).a ∧ unitE c (bkU c u) = 0 ∧ (spV c (bkU c u)).b + 1 = (spV c u).a ∧ nxE c (bkU c u) = 0 ∧ nxU c (bkU c u) = u) :
    Calls Try.prog 11 #[calV c, unitV u] w fun e w' => e = .returned (.bool true) ∧ Below w.heap.size w w' := by
  have hk : c.okB = true := (frame_ok (unit_ok hE).1).2.1
  have HK := hide hk
  obtain ⟨S, hS⟩ : ∃ S, S = spV c u := ⟨_, rfl⟩
  obtain ⟨fa, hfa⟩ : ∃ x, x = startV c c.first := ⟨_, rfl⟩
  obtain ⟨lb, hlb⟩ : ∃ x, x = endV c c.last := ⟨_, rfl⟩
  obtain ⟨V, hV⟩ : ∃ V, V = nxU c u := ⟨_, rfl⟩
  obtain ⟨W, hW⟩ : ∃ W, W = bkU c u := ⟨_, rfl⟩
  have hsb := sp_bd' hE
  rw [← hS, ← hlb, ← hV] at hN
  rw [← hS, ← hfa, ← hW] at hP
  rw [← hS] at hsb
  have HS := hide hS
  have HFA := hide hfa
  have HLB := hide hlb
  have HV := hide hV
  have HWW := hide hW
  have HE := hide hE
  obtain ⟨sa, sb⟩ := S
  obtain ⟨V0, V1, V2⟩ := V
  obtain ⟨W0, W1, W2⟩ := W
  obtain ⟨n1, n2, n3, n4, n5, n6⟩ := hN
  obtain ⟨T, hT⟩ : ∃ T, T = spV c ⟨V0, V1, V2⟩ := ⟨_, rfl⟩
  rw [← hT] at n4
  have HT := hide hT
  have HN := hide (And.intro n1 (And.intro n3 (And.intro n5 n6)))
  obtain ⟨ta, tb⟩ := T
  simp only at n2 n4
  have N4 := hide n4
  clear hT n1 n3 n5 n6 n4
  obtain ⟨p1, p2, p3, p4, p5, p6⟩ := hP
  obtain ⟨Q, hQ⟩ : ∃ T, T = spV c ⟨W0, W1, W2⟩ := ⟨_, rfl⟩
  rw [← hQ] at p4
  have hqb := sp_bd' p3
  rw [← hQ] at hqb
  have HQQ := hide hQ
  have HP := hide (And.intro p1 (And.intro p3 (And.intro p5 p6)))
  obtain ⟨qa, qb⟩ := Q
  simp only at p2 p4 hqb
  have P4 := hide p4
  clear hQ p1 p3 p5 p6 p4
  simp only at hsb
  clear hS hfa hlb hV hW hE hk
  have hub : unB u.lv u.yr u.ix u.lv u.yr u.ix = true := unB_same _ _ _
  simp only [calV, unitV]
  go_enter Try.func11, Try.ntmps11
  go_wp2_with fail
  refine (live17_any _).mono ?_
  rintro e w1 ⟨rfl, hb1⟩
  have hz1 : w.heap.size + 1 < w1.heap.size := by have := hb1.size; simp at this; omega
  have HB1 := hide (show Below w.heap.size w w1 by refine Below.trans ?_ (hb1.mono (by first | omega | (simp; done) | (simp; omega))); (repeat' (first | (with_reducible exact Below.refl _ _) | (with_reducible assumption) | (with_reducible refine Below.alloc ?_ ?_ _) | (with_reducible refine below_drewN ?_ _) | (with_reducible refine Below.drew ?_) | (with_reducible refine Below.setCell ?_ ?_ _) | (with_reducible refine Below.trans ?_ (Below.mono (by assumption) ?_)) | go_size | (simp at *; omega))))
  have HQ1 := hide (calAt_below hb1 (by simp; omega) (calAt_alloc (calAt_new w c) (by simp) _))
  have HU1 := hide (unAt_below hb1 (by simp) (unAt_new w c u))
  obtain ⟨q0, q1, q2, q3, q4, q5, q6, q7, q8, q9, q10, q11, q12, q13⟩ := HQ1.out
  obtain ⟨u0, u1, u2⟩ := HU1.out
  have hy1 : w.heap.size < w1.heap.size := by omega
  clear hb1
  go_wp2_with fail
  all_goals first
    | (exfalso; omega)
    | skip
  refine (uspan_any c u _ (by omega)).mono ?_
  rintro e w2 ⟨rfl, hb2⟩
  rw [HE.out, ← HS.out]
  simp only [spanV]
  have hz2 : w.heap.size + 1 < w2.heap.size := by have := hb2.size; (try simp at this); omega
  have HB2 := hide (show Below w.heap.size w w2 by have hp := HB1.out; refine Below.trans ?_ (hb2.mono (by first | omega | (simp; done) | (simp; omega))); (repeat' (first | (with_reducible exact Below.refl _ _) | (with_reducible assumption) | (with_reducible refine Below.alloc ?_ ?_ _) | (with_reducible refine below_drewN ?_ _) | (with_reducible refine Below.drew ?_) | (with_reducible refine Below.setCell ?_ ?_ _) | (with_reducible refine Below.trans ?_ (Below.mono (by assumption) ?_)) | go_size | (simp at *; omega))))
  have HQ2 := hide (show CalAt w2 w.heap.size c from calAt_below hb2 (by first | omega | (simp; done) | (simp; omega)) (by first | exact HQ1.out | exact calAt_alloc HQ1.out (by omega) _ | exact calAt_alloc (calAt_alloc HQ1.out (by omega) _) (by simp; omega) _))
  clear q0 q1 q2 q3 q4 q5 q6 q7 q8 q9 q10 q11 q12 q13
  obtain ⟨q0, q1, q2, q3, q4, q5, q6, q7, q8, q9, q10, q11, q12, q13⟩ := HQ2.out
  have HU2 := hide (show UnAt w2 (w.heap.size + 1) u from unAt_below hb2 (by first | omega | (simp; done) | (simp; omega)) (by first | exact HU1.out | exact unAt_alloc HU1.out (by omega) _ | exact unAt_alloc (unAt_alloc HU1.out (by omega) _) (by simp; omega) _))
  clear u0 u1 u2
  obtain ⟨u0, u1, u2⟩ := HU2.out
  have hy2 : w.heap.size < w2.heap.size := by omega
  clear hb2
  go_wp2_with fail
  refine (fnext_any c u _ (by omega)).mono ?_
  rintro e w3 ⟨rfl, hb3⟩
  rw [HN.out.1, ← HV.out]
  simp only [unitV]
  have HS3 := hide (show SpAt w3 w2.heap.size ⟨sa, sb⟩ from spAt_below hb3 (by simp) (spAt_fresh w2 ⟨sa, sb⟩))
  have hS3 : w2.heap.size < w3.heap.size := by have := hb3.size; (try simp at this); omega
  have hz3 : w.heap.size + 1 < w3.heap.size := by have := hb3.size; (try simp at this); omega
  have HB3 := hide (show Below w.heap.size w w3 by have hp := HB2.out; refine Below.trans ?_ (hb3.mono (by first | omega | (simp; done) | (simp; omega))); (repeat' (first | (with_reducible exact Below.refl _ _) | (with_reducible assumption) | (with_reducible refine Below.alloc ?_ ?_ _) | (with_reducible refine below_drewN ?_ _) | (with_reducible refine Below.drew ?_) | (with_reducible refine Below.setCell ?_ ?_ _) | (with_reducible refine Below.trans ?_ (Below.mono (by assumption) ?_)) | go_size | (simp at *; omega))))
  have HQ3 := hide (show CalAt w3 w.heap.size c from calAt_below hb3 (by first | omega | (simp; done) | (simp; omega)) (by first | exact HQ2.out | exact calAt_alloc HQ2.out (by omega) _ | exact calAt_alloc (calAt_alloc HQ2.out (by omega) _) (by simp; omega) _))
  clear q0 q1 q2 q3 q4 q5 q6 q7 q8 q9 q10 q11 q12 q13
  obtain ⟨q0, q1, q2, q3, q4, q5, q6, q7, q8, q9, q10, q11, q12, q13⟩ := HQ3.out
  have HU3 := hide (show UnAt w3 (w.heap.size + 1) u from unAt_below hb3 (by first | omega | (simp; done) | (simp; omega)) (by first | exact HU2.out | exact unAt_alloc HU2.out (by omega) _ | exact unAt_alloc (unAt_alloc HU2.out (by omega) _) (by simp; omega) _))
  clear u0 u1 u2
  obtain ⟨u0, u1, u2⟩ := HU3.out
  have hy3 : w.heap.size < w3.heap.size := by omega
  clear hb3
  go_wp2_with fail
  refine (fback_any c u _ (by omega)).mono ?_
  rintro e w4 ⟨rfl, hb4⟩
  rw [HP.out.1, ← HWW.out]
  simp only [unitV]
  have HS4 := hide (show SpAt w4 w2.heap.size ⟨sa, sb⟩ from spAt_below hb4 (by first | omega | (simp; done) | (simp; omega)) (by first | exact HS3.out | exact spAt_alloc HS3.out (by omega) _ | exact spAt_alloc (spAt_alloc HS3.out (by omega) _) (by simp; omega) _))
  have hS4 : w2.heap.size < w4.heap.size := by have := hb4.size; (try simp at this); omega
  have HV4 := hide (show UnAt w4 w3.heap.size ⟨V0, V1, V2⟩ from unAt_below hb4 (by simp) (unAt_fresh w3 ⟨V0, V1, V2⟩))
  have hV4 : w3.heap.size < w4.heap.size := by have := hb4.size; (try simp at this); omega
  have hz4 : w.heap.size + 1 < w4.heap.size := by have := hb4.size; (try simp at this); omega
  have HB4 := hide (show Below w.heap.size w w4 by have hp := HB3.out; refine Below.trans ?_ (hb4.mono (by first | omega | (simp; done) | (simp; omega))); (repeat' (first | (with_reducible exact Below.refl _ _) | (with_reducible assumption) | (with_reducible refine Below.alloc ?_ ?_ _) | (with_reducible refine below_drewN ?_ _) | (with_reducible refine Below.drew ?_) | (with_reducible refine Below.setCell ?_ ?_ _) | (with_reducible refine Below.trans ?_ (Below.mono (by assumption) ?_)) | go_size | (simp at *; omega))))
  have HQ4 := hide (show CalAt w4 w.heap.size c from calAt_below hb4 (by first | omega | (simp; done) | (simp; omega)) (by first | exact HQ3.out | exact calAt_alloc HQ3.out (by omega) _ | exact calAt_alloc (calAt_alloc HQ3.out (by omega) _) (by simp; omega) _))
  clear q0 q1 q2 q3 q4 q5 q6 q7 q8 q9 q10 q11 q12 q13
  obtain ⟨q0, q1, q2, q3, q4, q5, q6, q7, q8, q9, q10, q11, q12, q13⟩ := HQ4.out
  have HU4 := hide (show UnAt w4 (w.heap.size + 1) u from unAt_below hb4 (by first | omega | (simp; done) | (simp; omega)) (by first | exact HU3.out | exact unAt_alloc HU3.out (by omega) _ | exact unAt_alloc (unAt_alloc HU3.out (by omega) _) (by simp; omega) _))
  clear u0 u1 u2
  obtain ⟨u0, u1, u2⟩ := HU4.out
  have hy4 : w.heap.size < w4.heap.size := by omega
  clear hb4
  go_wp2_with fail
  all_goals first
    | (exfalso; omega)
    | skip
  refine (bounds_ok c _ (by omega) HK.out).mono ?_
  rintro e w5 ⟨rfl, hb5⟩
  rw [← HFA.out, ← HLB.out]
  have HS5 := hide (show SpAt w5 w2.heap.size ⟨sa, sb⟩ from spAt_below hb5 (by first | omega | (simp; done) | (simp; omega)) (by first | exact HS4.out | exact spAt_alloc HS4.out (by omega) _ | exact spAt_alloc (spAt_alloc HS4.out (by omega) _) (by simp; omega) _))
  have hS5 : w2.heap.size < w5.heap.size := by have := hb5.size; (try simp at this); omega
  have HV5 := hide (show UnAt w5 w3.heap.size ⟨V0, V1, V2⟩ from unAt_below hb5 (by first | omega | (simp; done) | (simp; omega)) (by first | exact HV4.out | exact unAt_alloc HV4.out (by omega) _ | exact unAt_alloc (unAt_alloc HV4.out (by omega) _) (by simp; omega) _))
  have hV5 : w3.heap.size < w5.heap.size := by have := hb5.size; (try simp at this); omega
  have HW5 := hide (show UnAt w5 w4.heap.size ⟨W0, W1, W2⟩ from unAt_below hb5 (by simp) (unAt_fresh w4 ⟨W0, W1, W2⟩))
  have hW5 : w4.heap.size < w5.heap.size := by have := hb5.size; (try simp at this); omega
  have hz5 : w.heap.size + 1 < w5.heap.size := by have := hb5.size; (try simp at this); omega
  have HB5 := hide (show Below w.heap.size w w5 by have hp := HB4.out; refine Below.trans ?_ (hb5.mono (by first | omega | (simp; done) | (simp; omega))); (repeat' (first | (with_reducible exact Below.refl _ _) | (with_reducible assumption) | (with_reducible refine Below.alloc ?_ ?_ _) | (with_reducible refine below_drewN ?_ _) | (with_reducible refine Below.drew ?_) | (with_reducible refine Below.setCell ?_ ?_ _) | (with_reducible refine Below.trans ?_ (Below.mono (by assumption) ?_)) | go_size | (simp at *; omega))))
  have HQ5 := hide (show CalAt w5 w.heap.size c from calAt_below hb5 (by first | omega | (simp; done) | (simp; omega)) (by first | exact HQ4.out | exact calAt_alloc HQ4.out (by omega) _ | exact calAt_alloc (calAt_alloc HQ4.out (by omega) _) (by simp; omega) _))
  clear q0 q1 q2 q3 q4 q5 q6 q7 q8 q9 q10 q11 q12 q13
  obtain ⟨q0, q1, q2, q3, q4, q5, q6, q7, q8, q9, q10, q11, q12, q13⟩ := HQ5.out
  have HU5 := hide (show UnAt w5 (w.heap.size + 1) u from unAt_below hb5 (by first | omega | (simp; done) | (simp; omega)) (by first | exact HU4.out | exact unAt_alloc HU4.out (by omega) _ | exact unAt_alloc (unAt_alloc HU4.out (by omega) _) (by simp; omega) _))
  clear u0 u1 u2
  obtain ⟨u0, u1, u2⟩ := HU5.out
  have hy5 : w.heap.size < w5.heap.size := by omega
  clear hb5
  obtain ⟨s0, s1⟩ := HS5.out
  obtain ⟨v0, v1, v2⟩ := HV5.out
  obtain ⟨x0, x1, x2⟩ := HW5.out
  go_wp2_with fail
  all_goals first
    | (exfalso; omega)
    | skip
  refine (uspan_any c ⟨V0, V1, V2⟩ _ (by omega)).mono ?_
  rintro e w6 ⟨rfl, hb6⟩
  rw [HN.out.2.1, ← HT.out]
  simp only [spanV]
  clear s0 s1 v0 v1 v2 x0 x1 x2
  have HS6 := hide (show SpAt w6 w2.heap.size ⟨sa, sb⟩ from spAt_below hb6 (by first | omega | (simp; done) | (simp; omega)) (by first | exact HS5.out | exact spAt_alloc HS5.out (by omega) _ | exact spAt_alloc (spAt_alloc HS5.out (by omega) _) (by simp; omega) _))
  have hS6 : w2.heap.size < w6.heap.size := by have := hb6.size; (try simp at this); omega
  have HV6 := hide (show UnAt w6 w3.heap.size ⟨V0, V1, V2⟩ from unAt_below hb6 (by first | omega | (simp; done) | (simp; omega)) (by first | exact HV5.out | exact unAt_alloc HV5.out (by omega) _ | exact unAt_alloc (unAt_alloc HV5.out (by omega) _) (by simp; omega) _))
  have hV6 : w3.heap.size < w6.heap.size := by have := hb6.size; (try simp at this); omega
  have HW6 := hide (show UnAt w6 w4.heap.size ⟨W0, W1, W2⟩ from unAt_below hb6 (by first | omega | (simp; done) | (simp; omega)) (by first | exact HW5.out | exact unAt_alloc HW5.out (by omega) _ | exact unAt_alloc (unAt_alloc HW5.out (by omega) _) (by simp; omega) _))
  have hW6 : w4.heap.size < w6.heap.size := by have := hb6.size; (try simp at this); omega
  have hz6 : w.heap.size + 1 < w6.heap.size := by have := hb6.size; (try simp at this); omega
  have HB6 := hide (show Below w.heap.size w w6 by have hp := HB5.out; refine Below.trans ?_ (hb6.mono (by first | omega | (simp; done) | (simp; omega))); (repeat' (first | (with_reducible exact Below.refl _ _) | (with_reducible assumption) | (with_reducible refine Below.alloc ?_ ?_ _) | (with_reducible refine below_drewN ?_ _) | (with_reducible refine Below.drew ?_) | (with_reducible refine Below.setCell ?_ ?_ _) | (with_reducible refine Below.trans ?_ (Below.mono (by assumption) ?_)) | go_size | (simp at *; omega))))
  have HQ6 := hide (show CalAt w6 w.heap.size c from calAt_below hb6 (by first | omega | (simp; done) | (simp; omega)) (by first | exact HQ5.out | exact calAt_alloc HQ5.out (by omega) _ | exact calAt_alloc (calAt_alloc HQ5.out (by omega) _) (by simp; omega) _))
  clear q0 q1 q2 q3 q4 q5 q6 q7 q8 q9 q10 q11 q12 q13
  obtain ⟨q0, q1, q2, q3, q4, q5, q6, q7, q8, q9, q10, q11, q12, q13⟩ := HQ6.out
  have HU6 := hide (show UnAt w6 (w.heap.size + 1) u from unAt_below hb6 (by first | omega | (simp; done) | (simp; omega)) (by first | exact HU5.out | exact unAt_alloc HU5.out (by omega) _ | exact unAt_alloc (unAt_alloc HU5.out (by omega) _) (by simp; omega) _))
  clear u0 u1 u2
  obtain ⟨u0, u1, u2⟩ := HU6.out
  have hy6 : w.heap.size < w6.heap.size := by omega
  clear hb6
  obtain ⟨s0, s1⟩ := HS6.out
  obtain ⟨v0, v1, v2⟩ := HV6.out
  obtain ⟨x0, x1, x2⟩ := HW6.out
  go_wp2_with fail
  refine (fback_any c ⟨V0, V1, V2⟩ _ (by omega)).mono ?_
  rintro e w7 ⟨rfl, hb7⟩
  rw [HN.out.2.2.1, HN.out.2.2.2]
  simp only [unitV]
  clear s0 s1 v0 v1 v2 x0 x1 x2
  have HS7 := hide (show SpAt w7 w2.heap.size ⟨sa, sb⟩ from spAt_below hb7 (by first | omega | (simp; done) | (simp; omega)) (by first | exact HS6.out | exact spAt_alloc HS6.out (by omega) _ | exact spAt_alloc (spAt_alloc HS6.out (by omega) _) (by simp; omega) _))
  have hS7 : w2.heap.size < w7.heap.size := by have := hb7.size; (try simp at this); omega
  have HV7 := hide (show UnAt w7 w3.heap.size ⟨V0, V1, V2⟩ from unAt_below hb7 (by first | omega | (simp; done) | (simp; omega)) (by first | exact HV6.out | exact unAt_alloc HV6.out (by omega) _ | exact unAt_alloc (unAt_alloc HV6.out (by omega) _) (by simp; omega) _))
  have hV7 : w3.heap.size < w7.heap.size := by have := hb7.size; (try simp at this); omega
  have HW7 := hide (show UnAt w7 w4.heap.size ⟨W0, W1, W2⟩ from unAt_below hb7 (by first | omega | (simp; done) | (simp; omega)) (by first | exact HW6.out | exact unAt_alloc HW6.out (by omega) _ | exact unAt_alloc (unAt_alloc HW6.out (by omega) _) (by simp; omega) _))
  have hW7 : w4.heap.size < w7.heap.size := by have := hb7.size; (try simp at this); omega
  have HT7 := hide (show SpAt w7 w6.heap.size ⟨ta, tb⟩ from spAt_below hb7 (by simp) (spAt_fresh w6 ⟨ta, tb⟩))
  have hT7 : w6.heap.size < w7.heap.size := by have := hb7.size; (try simp at this); omega
  have hz7 : w.heap.size + 1 < w7.heap.size := by have := hb7.size; (try simp at this); omega
  have HB7 := hide (show Below w.heap.size w w7 by have hp := HB6.out; refine Below.trans ?_ (hb7.mono (by first | omega | (simp; done) | (simp; omega))); (repeat' (first | (with_reducible exact Below.refl _ _) | (with_reducible assumption) | (with_reducible refine Below.alloc ?_ ?_ _) | (with_reducible refine below_drewN ?_ _) | (with_reducible refine Below.drew ?_) | (with_reducible refine Below.setCell ?_ ?_ _) | (with_reducible refine Below.trans ?_ (Below.mono (by assumption) ?_)) | go_size | (simp at *; omega))))
  have HQ7 := hide (show CalAt w7 w.heap.size c from calAt_below hb7 (by first | omega | (simp; done) | (simp; omega)) (by first | exact HQ6.out | exact calAt_alloc HQ6.out (by omega) _ | exact calAt_alloc (calAt_alloc HQ6.out (by omega) _) (by simp; omega) _))
  clear q0 q1 q2 q3 q4 q5 q6 q7 q8 q9 q10 q11 q12 q13
  obtain ⟨q0, q1, q2, q3, q4, q5, q6, q7, q8, q9, q10, q11, q12, q13⟩ := HQ7.out
  have HU7 := hide (show UnAt w7 (w.heap.size + 1) u from unAt_below hb7 (by first | omega | (simp; done) | (simp; omega)) (by first | exact HU6.out | exact unAt_alloc HU6.out (by omega) _ | exact unAt_alloc (unAt_alloc HU6.out (by omega) _) (by simp; omega) _))
  clear u0 u1 u2
  obtain ⟨u0, u1, u2⟩ := HU7.out
  have hy7 : w.heap.size < w7.heap.size := by omega
  clear hb7
  obtain ⟨s0, s1⟩ := HS7.out
  obtain ⟨v0, v1, v2⟩ := HV7.out
  obtain ⟨x0, x1, x2⟩ := HW7.out
  obtain ⟨t0, t1⟩ := HT7.out
  have n4 := N4.out
  go_wp2_with fail
  all_goals first
    | (exfalso; omega)
    | skip
  clear t0 t1
  refine (uspan_any c ⟨W0, W1, W2⟩ _ (by omega)).mono ?_
  rintro e w8 ⟨rfl, hb8⟩
  rw [HP.out.2.1, ← HQQ.out]
  simp only [spanV]
  clear s0 s1 v0 v1 v2 x0 x1 x2
  have HS8 := hide (show SpAt w8 w2.heap.size ⟨sa, sb⟩ from spAt_below hb8 (by first | omega | (simp; done) | (simp; omega)) (by first | exact HS7.out | exact spAt_alloc HS7.out (by omega) _ | exact spAt_alloc (spAt_alloc HS7.out (by omega) _) (by simp; omega) _))
  have hS8 : w2.heap.size < w8.heap.size := by have := hb8.size; (try simp at this); omega
  have HV8 := hide (show UnAt w8 w3.heap.size ⟨V0, V1, V2⟩ from unAt_below hb8 (by first | omega | (simp; done) | (simp; omega)) (by first | exact HV7.out | exact unAt_alloc HV7.out (by omega) _ | exact unAt_alloc (unAt_alloc HV7.out (by omega) _) (by simp; omega) _))
  have hV8 : w3.heap.size < w8.heap.size := by have := hb8.size; (try simp at this); omega
  have HW8 := hide (show UnAt w8 w4.heap.size ⟨W0, W1, W2⟩ from unAt_below hb8 (by first | omega | (simp; done) | (simp; omega)) (by first | exact HW7.out | exact unAt_alloc HW7.out (by omega) _ | exact unAt_alloc (unAt_alloc HW7.out (by omega) _) (by simp; omega) _))
  have hW8 : w4.heap.size < w8.heap.size := by have := hb8.size; (try simp at this); omega
  have hz8 : w.heap.size + 1 < w8.heap.size := by have := hb8.size; (try simp at this); omega
  have HB8 := hide (show Below w.heap.size w w8 by have hp := HB7.out; refine Below.trans ?_ (hb8.mono (by first | omega | (simp; done) | (simp; omega))); (repeat' (first | (with_reducible exact Below.refl _ _) | (with_reducible assumption) | (with_reducible refine Below.alloc ?_ ?_ _) | (with_reducible refine below_drewN ?_ _) | (with_reducible refine Below.drew ?_) | (with_reducible refine Below.setCell ?_ ?_ _) | (with_reducible refine Below.trans ?_ (Below.mono (by assumption) ?_)) | go_size | (simp at *; omega))))
  have HQ8 := hide (show CalAt w8 w.heap.size c from calAt_below hb8 (by first | omega | (simp; done) | (simp; omega)) (by first | exact HQ7.out | exact calAt_alloc HQ7.out (by omega) _ | exact calAt_alloc (calAt_alloc HQ7.out (by omega) _) (by simp; omega) _))
  clear q0 q1 q2 q3 q4 q5 q6 q7 q8 q9 q10 q11 q12 q13
  obtain ⟨q0, q1, q2, q3, q4, q5, q6, q7, q8, q9, q10, q11, q12, q13⟩ := HQ8.out
  have HU8 := hide (show UnAt w8 (w.heap.size + 1) u from unAt_below hb8 (by first | omega | (simp; done) | (simp; omega)) (by first | exact HU7.out | exact unAt_alloc HU7.out (by omega) _ | exact unAt_alloc (unAt_alloc HU7.out (by omega) _) (by simp; omega) _))
  clear u0 u1 u2
  obtain ⟨u0, u1, u2⟩ := HU8.out
  have hy8 : w.heap.size < w8.heap.size := by omega
  clear hb8
  obtain ⟨s0, s1⟩ := HS8.out
  obtain ⟨v0, v1, v2⟩ := HV8.out
  obtain ⟨x0, x1, x2⟩ := HW8.out
  go_wp2_with fail
  refine (fnext_any c ⟨W0, W1, W2⟩ _ (by omega)).mono ?_
  rintro e w9 ⟨rfl, hb9⟩
  rw [HP.out.2.2.1, HP.out.2.2.2]
  simp only [unitV]
  clear s0 s1 v0 v1 v2 x0 x1 x2
  have HS9 := hide (show SpAt w9 w2.heap.size ⟨sa, sb⟩ from spAt_below hb9 (by first | omega | (simp; done) | (simp; omega)) (by first | exact HS8.out | exact spAt_alloc HS8.out (by omega) _ | exact spAt_alloc (spAt_alloc HS8.out (by omega) _) (by simp; omega) _))
  have hS9 : w2.heap.size < w9.heap.size := by have := hb9.size; (try simp at this); omega
  have HV9 := hide (show UnAt w9 w3.heap.size ⟨V0, V1, V2⟩ from unAt_below hb9 (by first | omega | (simp; done) | (simp; omega)) (by first | exact HV8.out | exact unAt_alloc HV8.out (by omega) _ | exact unAt_alloc (unAt_alloc HV8.out (by omega) _) (by simp; omega) _))
  have hV9 : w3.heap.size < w9.heap.size := by have := hb9.size; (try simp at this); omega
  have HW9 := hide (show UnAt w9 w4.heap.size ⟨W0, W1, W2⟩ from unAt_below hb9 (by first | omega | (simp; done) | (simp; omega)) (by first | exact HW8.out | exact unAt_alloc HW8.out (by omega) _ | exact unAt_alloc (unAt_alloc HW8.out (by omega) _) (by simp; omega) _))
  have hW9 : w4.heap.size < w9.heap.size := by have := hb9.size; (try simp at this); omega
  have HR9 := hide (show SpAt w9 w8.heap.size ⟨qa, qb⟩ from spAt_below hb9 (by simp) (spAt_fresh w8 ⟨qa, qb⟩))
  have hR9 : w8.heap.size < w9.heap.size := by have := hb9.size; (try simp at this); omega
  have hz9 : w.heap.size + 1 < w9.heap.size := by have := hb9.size; (try simp at this); omega
  have HB9 := hide (show Below w.heap.size w w9 by have hp := HB8.out; refine Below.trans ?_ (hb9.mono (by first | omega | (simp; done) | (simp; omega))); (repeat' (first | (with_reducible exact Below.refl _ _) | (with_reducible assumption) | (with_reducible refine Below.alloc ?_ ?_ _) | (with_reducible refine below_drewN ?_ _) | (with_reducible refine Below.drew ?_) | (with_reducible refine Below.setCell ?_ ?_ _) | (with_reducible refine Below.trans ?_ (Below.mono (by assumption) ?_)) | go_size | (simp at *; omega))))
  have HQ9 := hide (show CalAt w9 w.heap.size c from calAt_below hb9 (by first | omega | (simp; done) | (simp; omega)) (by first | exact HQ8.out | exact calAt_alloc HQ8.out (by omega) _ | exact calAt_alloc (calAt_alloc HQ8.out (by omega) _) (by simp; omega) _))
  clear q0 q1 q2 q3 q4 q5 q6 q7 q8 q9 q10 q11 q12 q13
  obtain ⟨q0, q1, q2, q3, q4, q5, q6, q7, q8, q9, q10, q11, q12, q13⟩ := HQ9.out
  have HU9 := hide (show UnAt w9 (w.heap.size + 1) u from unAt_below hb9 (by first | omega | (simp; done) | (simp; omega)) (by first | exact HU8.out | exact unAt_alloc HU8.out (by omega) _ | exact unAt_alloc (unAt_alloc HU8.out (by omega) _) (by simp; omega) _))
  clear u0 u1 u2
  obtain ⟨u0, u1, u2⟩ := HU9.out
  have hy9 : w.heap.size < w9.heap.size := by omega
  clear hb9
  obtain ⟨s0, s1⟩ := HS9.out
  obtain ⟨v0, v1, v2⟩ := HV9.out
  obtain ⟨x0, x1, x2⟩ := HW9.out
  obtain ⟨t0, t1⟩ := HR9.out
  have p4 := P4.out
  clear q0 q1 q2 q3 q4 q5 q6 q7 q8 q9 q10 q11 q12 q13
  have hBel := HB9.out
  go_wp2
  all_goals first
    | (exfalso; omega)
    | (go_ret; exact ⟨ret_bool (by simp), by (repeat' (first | (with_reducible exact Below.refl _ _) | (with_reducible assumption) | (with_reducible refine Below.alloc ?_ ?_ _) | (with_reducible refine below_drewN ?_ _) | (with_reducible refine Below.drew ?_) | (with_reducible refine Below.setCell ?_ ?_ _) | (with_reducible refine Below.trans ?_ (Below.mono (by assumption) ?_)) | go_size | (simp at *; omega)))⟩)

theorem fn_walk (c : Cal) (hn : c.name.size ≤ 9223372036854775807) (u : Un) (w : World) :
    Calls Try.prog 11 #[calV c, unitV u] w fun e w' => e = .returned (.bool true) ∧ Below w.heap.size w w' := by
  by_cases h : 100 < c.name.size
  · exact fn_long c u w h hn
  · by_cases hE : unitE c u = 0
    · rcases next_facts hE with hN | hN
      · rcases back_facts hE with hP | hP
        · exact fn_11 c u w (by omega) hE hN hP
        · exact fn_10 c u w (by omega) hE hN hP
      · rcases back_facts hE with hP | hP
        · exact fn_01 c u w (by omega) hE hN hP
        · exact fn_00 c u w (by omega) hE hN hP
    · exact fn_no c u w (by omega) hE
end Go.Proofs.Ytepmfpgljcbkmaa
