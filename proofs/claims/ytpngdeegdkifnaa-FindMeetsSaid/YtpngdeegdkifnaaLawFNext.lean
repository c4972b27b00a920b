/- Contracts of find.Next, find.Back. The walk of FindNext. -/
import Derived.Test.YtpngdeegdkifnaaFindB
namespace Go.Proofs.Ytpngdeegdkifnaa
open Go.RowKit Qd
set_option linter.unusedSimpArgs false
set_option linter.unusedVariables false

/-- The unit behind, and why there is none. -/
def nxU0 (u : Un) : Un := ⟨u.lv, u.yr, u.ix + 1⟩
def nxU1 (u : Un) : Un := ⟨u.lv, u.yr + 1, 1⟩
def nxE (c : Cal) (u : Un) : Int := if unitE c u = 0 then (if unitE c (nxU0 u) = 0 then 0 else unitE c (nxU1 u)) else unitE c u
def nxU (c : Cal) (u : Un) : Un := if unitE c u = 0 then (if unitE c (nxU0 u) = 0 then nxU0 u else if unitE c (nxU1 u) = 0 then nxU1 u else ⟨0, 0, 0⟩) else ⟨0, 0, 0⟩
/-- The unit ahead, and why there is none. -/
def bkE (c : Cal) (u : Un) : Int := if unitE c u = 0 then (if 1 < u.ix then 0 else frameE c u.lv (u.yr - 1)) else unitE c u
def bkU (c : Cal) (u : Un) : Un := if unitE c u = 0 then (if 1 < u.ix then ⟨u.lv, u.yr, u.ix - 1⟩ else if frameE c u.lv (u.yr - 1) = 0 then ⟨u.lv, u.yr - 1, (cntL c (u.yr - 1) u.lv : Int)⟩ else ⟨0, 0, 0⟩) else ⟨0, 0, 0⟩

theorem res_next {tmps : Array Value} {W : World} {B : Nat} {a0 a1 a2 e : Int} (h6 : tmps[4]? = some (.pointer (some ⟨B, 0, none⟩))) (h7 : tmps[5]? = some (.int .i64 e))
    (g6 : BlkIs W B #[.int .i64 a0, .int .i64 a1, .int .i64 a2] 31) :
    (results Try.f22 tmps).run Try.prog W = .ok (.tuple #[.agg #[.int .i64 a0, .int .i64 a1, .int .i64 a2], .int .i64 e]) W := by
  have c0 := g6.cell 0
  have c1 := g6.cell 1
  have c2 := g6.cell 2
  simp at c0 c1 c2
  simp [results, Try.results22, go_sem, h6, h7, c0, c1, c2]
theorem BlkIs.set2nd {w : World} {B : Nat} {a b c : Value} {t : TypeId} (h : BlkIs w B #[a, b, c] t) (y : Value) : BlkIs (w.setCell ⟨B, 1, none⟩ y) B #[a, y, c] t := by
  unfold BlkIs at h ⊢
  simp [World.setCell, Array.getElem?_modify, h]
theorem BlkIs.set3rd {w : World} {B : Nat} {a b c : Value} {t : TypeId} (h : BlkIs w B #[a, b, c] t) (z : Value) : BlkIs (w.setCell ⟨B, 2, none⟩ z) B #[a, b, z] t := by
  unfold BlkIs at h ⊢
  simp [World.setCell, Array.getElem?_modify, h]
/-- The cells of a unit's block. -/
theorem BlkIs.three {w : World} {B : Nat} {a b c : Value} {t : TypeId} (h : BlkIs w B #[a, b, c] t) :
    (w.cell? ⟨B, 0, none⟩ = some a ∧ w.cell? ⟨B, 1, none⟩ = some b ∧ w.cell? ⟨B, 2, none⟩ = some c) ∧ (w.frozen? ⟨B, 0, none⟩ = false ∧ w.frozen? ⟨B, 1, none⟩ = false ∧ w.frozen? ⟨B, 2, none⟩ = false) :=
  ⟨⟨h.cell 0, h.cell 1, h.cell 2⟩, h.frozen 0, h.frozen 1, h.frozen 2⟩

set_option maxRecDepth 100000 in
set_option maxHeartbeats 1600000 in
theorem fnext_bad (c : Cal) (u : Un) (w : World) (hn : c.name.size ≤ 1000) (hE : ¬ unitE c u = 0) :
    Calls Try.prog 22 #[calV c, unitV u] w fun e w' => e = .returned (.tuple #[.agg #[.int .i64 0, .int .i64 0, .int .i64 0], .int .i64 (unitE c u)]) ∧ Below w.heap.size w w' := by
  have hE' : (unitE c u != 0) = true := by simpa using hE
  clear hE
  simp only [calV, unitV]
  go_enter Try.func22, Try.ntmps22
  go_wp2_with fail
  refine (ucheck_any c u _ hn).mono ?_
  rintro e w1 ⟨rfl, hb1⟩
  have G := (show BlkIs w1 (w.heap.size + 1 + 1) #[.int .i64 0, .int .i64 0, .int .i64 0] 31 from BlkIs.below (by simpa using BlkIs.new ((w.alloc (calObj c)).alloc (unObj u)) #[.int .i64 0, .int .i64 0, .int .i64 0] 31) hb1 (by simp))
  have HW := hide (show Below w.heap.size w w1 by (repeat' (first | (with_reducible exact Below.refl _ _) | (with_reducible assumption) | (with_reducible refine Below.alloc ?_ ?_ _) | (with_reducible refine below_drewN ?_ _) | (with_reducible refine Below.drew ?_) | (with_reducible refine Below.setCell ?_ ?_ _) | (with_reducible refine Below.trans ?_ (Below.mono (by assumption) ?_)) | go_size | (simp at *; omega))))
  have hkB : w.heap.size ≤ w.heap.size + 1 + 1 := by omega
  clear hb1
  generalize w.heap.size + 1 + 1 = R at *
  obtain ⟨⟨r0, r1, r2⟩, f0, f1, f2⟩ := G.three
  have HG := hide G
  have hsz := G.lt
  clear G
  go_wp2
  exact bodyPost_ret (v := .tuple #[.agg #[.int .i64 0, .int .i64 0, .int .i64 0], .int .i64 (unitE c u)]) (by exact res_next rfl rfl (HG.out.set123 _ _ _)) rfl ⟨rfl, ((HW.out.setCell hkB _).setCell hkB _).setCell hkB _⟩

set_option maxRecDepth 100000 in
set_option maxHeartbeats 3200000 in
theorem fnext_in (c : Cal) (u : Un) (w : World) (hn : c.name.size ≤ 1000) (hE : unitE c u = 0) (h0 : unitE c (nxU0 u) = 0) :
    Calls Try.prog 22 #[calV c, unitV u] w fun e w' => e = .returned (.tuple #[.agg #[.int .i64 u.lv, .int .i64 u.yr, .int .i64 (u.ix + 1)], .int .i64 0]) ∧ Below w.heap.size w w' := by
  obtain ⟨hf, hl1, hl5, hA, hx, hi⟩ := un_lv hE
  have hcb := cnt_bd c u.yr hA u.lv
  have hyy := ask_ok hA
  have hb : 1 ≤ u.ix ∧ u.ix ≤ 60 ∧ 1600 ≤ u.yr ∧ u.yr ≤ 9999 := by omega
  have HE := hide hE
  have H0 := hide h0
  clear hE h0 hf hA hx hi hcb hyy
  simp only [calV, unitV]
  go_enter Try.func22, Try.ntmps22
  go_wp2_with fail
  refine (ucheck_any c u _ hn).mono ?_
  rintro e w1 ⟨rfl, hb1⟩
  rw [HE.out]
  have G := (show BlkIs w1 (w.heap.size + 1 + 1) #[.int .i64 0, .int .i64 0, .int .i64 0] 31 from BlkIs.below (by simpa using BlkIs.new ((w.alloc (calObj c)).alloc (unObj u)) #[.int .i64 0, .int .i64 0, .int .i64 0] 31) hb1 (by simp))
  have HQ1 := hide (show CalAt w1 w.heap.size c from calAt_below hb1 (by simp; omega) (calAt_alloc (calAt_alloc (calAt_new w c) (by simp) _) (by simp; omega) _))
  have HU1 := hide (show UnAt w1 (w.heap.size + 1) u from unAt_below hb1 (by simp) (unAt_alloc (unAt_new w c u) (by simp) _))
  have HW := hide (show Below w.heap.size w w1 by (repeat' (first | (with_reducible exact Below.refl _ _) | (with_reducible assumption) | (with_reducible refine Below.alloc ?_ ?_ _) | (with_reducible refine below_drewN ?_ _) | (with_reducible refine Below.drew ?_) | (with_reducible refine Below.setCell ?_ ?_ _) | (with_reducible refine Below.trans ?_ (Below.mono (by assumption) ?_)) | go_size | (simp at *; omega))))
  have hkB : w.heap.size ≤ w.heap.size + 1 + 1 := by omega
  have hz1 : w.heap.size + 1 < w1.heap.size := by have := hb1.size; simp at this; omega
  have hz0 : w.heap.size < w1.heap.size := by omega
  clear hb1
  generalize w.heap.size + 1 + 1 = R at *
  have HG := hide G
  have hR := G.lt
  have HKB := hide hkB
  obtain ⟨q0, q1, q2, q3, q4, q5, q6, q7, q8, q9, q10, q11, q12, q13⟩ := HQ1.out
  obtain ⟨u0, u1, u2⟩ := HU1.out
  clear G hkB
  go_wp2_with fail
  refine (ucheck_any c ⟨u.lv, u.yr, u.ix + 1⟩ _ hn).mono ?_
  rintro e w2 ⟨rfl, hb2⟩
  rw [show unitE c ⟨u.lv, u.yr, u.ix + 1⟩ = 0 from H0.out]
  have G2 := HG.out.alloc (.cells #[.int .i64 u.lv, .int .i64 u.yr, .int .i64 (u.ix + 1)] 31) |>.call hb2
  have V2 := (BlkIs.new w1 #[.int .i64 u.lv, .int .i64 u.yr, .int .i64 (u.ix + 1)] 31).call hb2
  have HW2 := hide ((HW.out.alloc (by omega) _).trans (hb2.mono (by simp; omega)) : Below w.heap.size w w2)
  obtain ⟨⟨r0, r1, r2⟩, f0, f1, f2⟩ := G2.three
  obtain ⟨⟨v0, v1, v2⟩, _⟩ := V2.three
  have hR2 := G2.lt
  have HG2 := hide G2
  clear q0 q1 q2 q3 q4 q5 q6 q7 q8 q9 q10 q11 q12 q13
  clear hb2 G2 V2 u0 u1 u2
  have hne : R ≠ w1.heap.size := by omega
  have hne' : w1.heap.size ≠ R := by omega
  go_wp2
  exact bodyPost_ret (v := .tuple #[.agg #[.int .i64 u.lv, .int .i64 u.yr, .int .i64 (u.ix + 1)], .int .i64 0]) (by exact res_next rfl rfl (HG2.out.set123 _ _ _)) rfl ⟨rfl, ((HW2.out.setCell HKB.out _).setCell HKB.out _).setCell HKB.out _⟩

set_option maxRecDepth 100000 in
set_option maxHeartbeats 3200000 in
theorem fnext_over (c : Cal) (u : Un) (w : World) (hn : c.name.size ≤ 1000) (hE : unitE c u = 0) (h0 : ¬ unitE c (nxU0 u) = 0) :
    Calls Try.prog 22 #[calV c, unitV u] w fun e w' => e = .returned (.tuple #[unitV (nxU c u), .int .i64 (nxE c u)]) ∧ Below w.heap.size w w' := by
  obtain ⟨hf, hl1, hl5, hA, hx, hi⟩ := un_lv hE
  have hcb := cnt_bd c u.yr hA u.lv
  have hyy := ask_ok hA
  have hb : 1 ≤ u.ix ∧ u.ix ≤ 60 ∧ 1600 ≤ u.yr ∧ u.yr ≤ 9999 := by omega
  have HE := hide hE
  have hee : nxE c u = unitE c (nxU1 u) := by rw [nxE, if_pos hE, if_neg h0]
  have huu : nxU c u = if unitE c (nxU1 u) = 0 then nxU1 u else ⟨0, 0, 0⟩ := by rw [nxU, if_pos hE, if_neg h0]
  have H0 := hide (show (unitE c ⟨u.lv, u.yr, u.ix + 1⟩ == 0) = false by simpa [nxU0] using h0)
  rw [hee, huu]
  clear hE h0 hf hA hx hi hcb hyy hee huu
  by_cases h1 : unitE c (nxU1 u) = 0
  · rw [if_pos h1, h1]
    have H1 := hide (show unitE c ⟨u.lv, u.yr + 1, 1⟩ = 0 from h1)
    clear h1
    simp only [calV, unitV, nxU1]
    go_enter Try.func22, Try.ntmps22
    go_wp2_with fail
    refine (ucheck_any c u _ hn).mono ?_
    rintro e w1 ⟨rfl, hb1⟩
    rw [HE.out]
    have G := (show BlkIs w1 (w.heap.size + 1 + 1) #[.int .i64 0, .int .i64 0, .int .i64 0] 31 from BlkIs.below (by simpa using BlkIs.new ((w.alloc (calObj c)).alloc (unObj u)) #[.int .i64 0, .int .i64 0, .int .i64 0] 31) hb1 (by simp))
    have HQ1 := hide (show CalAt w1 w.heap.size c from calAt_below hb1 (by simp; omega) (calAt_alloc (calAt_alloc (calAt_new w c) (by simp) _) (by simp; omega) _))
    have HU1 := hide (show UnAt w1 (w.heap.size + 1) u from unAt_below hb1 (by simp) (unAt_alloc (unAt_new w c u) (by simp) _))
    have HW := hide (show Below w.heap.size w w1 by (repeat' (first | (with_reducible exact Below.refl _ _) | (with_reducible assumption) | (with_reducible refine Below.alloc ?_ ?_ _) | (with_reducible refine below_drewN ?_ _) | (with_reducible refine Below.drew ?_) | (with_reducible refine Below.setCell ?_ ?_ _) | (with_reducible refine Below.trans ?_ (Below.mono (by assumption) ?_)) | go_size | (simp at *; omega))))
    have hkB : w.heap.size ≤ w.heap.size + 1 + 1 := by omega
    have hz1 : w.heap.size + 1 < w1.heap.size := by have := hb1.size; simp at this; omega
    have hz0 : w.heap.size < w1.heap.size := by omega
    clear hb1
    generalize w.heap.size + 1 + 1 = R at *
    have HG := hide G
    have hR := G.lt
    have HKB := hide hkB
    obtain ⟨q0, q1, q2, q3, q4, q5, q6, q7, q8, q9, q10, q11, q12, q13⟩ := HQ1.out
    obtain ⟨u0, u1, u2⟩ := HU1.out
    clear G hkB
    go_wp2_with fail
    refine (ucheck_any c ⟨u.lv, u.yr, u.ix + 1⟩ _ hn).mono ?_
    rintro e w2 ⟨rfl, hb2⟩
    have G2 := HG.out.alloc (.cells #[.int .i64 u.lv, .int .i64 u.yr, .int .i64 (u.ix + 1)] 31) |>.call hb2
    have V2 := (BlkIs.new w1 #[.int .i64 u.lv, .int .i64 u.yr, .int .i64 (u.ix + 1)] 31).call hb2
    have HW2 := hide ((HW.out.alloc (by omega) _).trans (hb2.mono (by simp; omega)) : Below w.heap.size w w2)
    have HQ2 := hide (show CalAt w2 w.heap.size c from calAt_below hb2 (by simp; omega) (calAt_alloc HQ1.out hz0 _))
    have HU2 := hide (show UnAt w2 (w.heap.size + 1) u from unAt_below hb2 (by simp; omega) (unAt_alloc HU1.out hz1 _))
    obtain ⟨⟨v0, v1, v2⟩, ⟨g0, g1, g2⟩⟩ := V2.three
    have hz2 : w1.heap.size < w2.heap.size := V2.lt
    have HG2 := hide G2
    have HV2 := hide V2
    have hR2 := G2.lt
    clear q0 q1 q2 q3 q4 q5 q6 q7 q8 q9 q10 q11 q12 q13
    clear hb2 G2 V2 u0 u1 u2
    obtain ⟨q0, q1, q2, q3, q4, q5, q6, q7, q8, q9, q10, q11, q12, q13⟩ := HQ2.out
    obtain ⟨u0, u1, u2⟩ := HU2.out
    have hne : R ≠ w1.heap.size := by omega
    have hne' : w1.heap.size ≠ R := by omega
    have hne2 : w.heap.size ≠ w1.heap.size := by omega
    have hne3 : w.heap.size + 1 ≠ w1.heap.size := by omega
    have h00 := H0.out
    go_wp2_with fail
    all_goals first
      | (exfalso; omega)
      | skip
    refine (ucheck_any c ⟨u.lv, u.yr + 1, 1⟩ _ hn).mono ?_
    rintro e w3 ⟨rfl, hb3⟩
    have G3 := ((HG2.out.far hne _).far hne _).call hb3
    have V3 := ((HV2.out.set2nd _).set3rd _).call hb3
    have hk1 : w.heap.size ≤ w1.heap.size := by omega
    have HW3 := hide (((HW2.out.setCell hk1 _).setCell hk1 _).trans (hb3.mono (by simp; omega)) : Below w.heap.size w w3)
    obtain ⟨⟨r0, r1, r2⟩, f0, f1, f2⟩ := G3.three
    clear v0 v1 v2 g0 g1 g2 u0 u1 u2
    clear q0 q1 q2 q3 q4 q5 q6 q7 q8 q9 q10 q11 q12 q13
    obtain ⟨⟨v0, v1, v2⟩, _⟩ := V3.three
    have hR3 := G3.lt
    have HG3 := hide G3
    clear hb3 G3 V3
    rw [H1.out]
    go_wp2
    exact bodyPost_ret (v := .tuple #[.agg #[.int .i64 u.lv, .int .i64 (u.yr + 1), .int .i64 1], .int .i64 0]) (by exact res_next rfl rfl (HG3.out.set123 _ _ _)) rfl ⟨rfl, ((HW3.out.setCell HKB.out _).setCell HKB.out _).setCell HKB.out _⟩
  · rw [if_neg h1]
    have H1 := hide (show (unitE c ⟨u.lv, u.yr + 1, 1⟩ != 0) = true by simpa [nxU1] using h1)
    clear h1
    simp only [calV, unitV, nxU1]
    go_enter Try.func22, Try.ntmps22
    go_wp2_with fail
    refine (ucheck_any c u _ hn).mono ?_
    rintro e w1 ⟨rfl, hb1⟩
    rw [HE.out]
    have G := (show BlkIs w1 (w.heap.size + 1 + 1) #[.int .i64 0, .int .i64 0, .int .i64 0] 31 from BlkIs.below (by simpa using BlkIs.new ((w.alloc (calObj c)).alloc (unObj u)) #[.int .i64 0, .int .i64 0, .int .i64 0] 31) hb1 (by simp))
    have HQ1 := hide (show CalAt w1 w.heap.size c from calAt_below hb1 (by simp; omega) (calAt_alloc (calAt_alloc (calAt_new w c) (by simp) _) (by simp; omega) _))
    have HU1 := hide (show UnAt w1 (w.heap.size + 1) u from unAt_below hb1 (by simp) (unAt_alloc (unAt_new w c u) (by simp) _))
    have HW := hide (show Below w.heap.size w w1 by (repeat' (first | (with_reducible exact Below.refl _ _) | (with_reducible assumption) | (with_reducible refine Below.alloc ?_ ?_ _) | (with_reducible refine below_drewN ?_ _) | (with_reducible refine Below.drew ?_) | (with_reducible refine Below.setCell ?_ ?_ _) | (with_reducible refine Below.trans ?_ (Below.mono (by assumption) ?_)) | go_size | (simp at *; omega))))
    have hkB : w.heap.size ≤ w.heap.size + 1 + 1 := by omega
    have hz1 : w.heap.size + 1 < w1.heap.size := by have := hb1.size; simp at this; omega
    have hz0 : w.heap.size < w1.heap.size := by omega
    clear hb1
    generalize w.heap.size + 1 + 1 = R at *
    have HG := hide G
    have hR := G.lt
    have HKB := hide hkB
    obtain ⟨q0, q1, q2, q3, q4, q5, q6, q7, q8, q9, q10, q11, q12, q13⟩ := HQ1.out
    obtain ⟨u0, u1, u2⟩ := HU1.out
    clear G hkB
    go_wp2_with fail
    refine (ucheck_any c ⟨u.lv, u.yr, u.ix + 1⟩ _ hn).mono ?_
    rintro e w2 ⟨rfl, hb2⟩
    have G2 := HG.out.alloc (.cells #[.int .i64 u.lv, .int .i64 u.yr, .int .i64 (u.ix + 1)] 31) |>.call hb2
    have V2 := (BlkIs.new w1 #[.int .i64 u.lv, .int .i64 u.yr, .int .i64 (u.ix + 1)] 31).call hb2
    have HW2 := hide ((HW.out.alloc (by omega) _).trans (hb2.mono (by simp; omega)) : Below w.heap.size w w2)
    have HQ2 := hide (show CalAt w2 w.heap.size c from calAt_below hb2 (by simp; omega) (calAt_alloc HQ1.out hz0 _))
    have HU2 := hide (show UnAt w2 (w.heap.size + 1) u from unAt_below hb2 (by simp; omega) (unAt_alloc HU1.out hz1 _))
    obtain ⟨⟨v0, v1, v2⟩, ⟨g0, g1, g2⟩⟩ := V2.three
    have hz2 : w1.heap.size < w2.heap.size := V2.lt
    have HG2 := hide G2
    have HV2 := hide V2
    have hR2 := G2.lt
    clear q0 q1 q2 q3 q4 q5 q6 q7 q8 q9 q10 q11 q12 q13
    clear hb2 G2 V2 u0 u1 u2
    obtain ⟨q0, q1, q2, q3, q4, q5, q6, q7, q8, q9, q10, q11, q12, q13⟩ := HQ2.out
    obtain ⟨u0, u1, u2⟩ := HU2.out
    have hne : R ≠ w1.heap.size := by omega
    have hne' : w1.heap.size ≠ R := by omega
    have hne2 : w.heap.size ≠ w1.heap.size := by omega
    have hne3 : w.heap.size + 1 ≠ w1.heap.size := by omega
    have h00 := H0.out
    go_wp2_with fail
    all_goals first
      | (exfalso; omega)
      | skip
    refine (ucheck_any c ⟨u.lv, u.yr + 1, 1⟩ _ hn).mono ?_
    rintro e w3 ⟨rfl, hb3⟩
    have G3 := ((HG2.out.far hne _).far hne _).call hb3
    have V3 := ((HV2.out.set2nd _).set3rd _).call hb3
    have hk1 : w.heap.size ≤ w1.heap.size := by omega
    have HW3 := hide (((HW2.out.setCell hk1 _).setCell hk1 _).trans (hb3.mono (by simp; omega)) : Below w.heap.size w w3)
    obtain ⟨⟨r0, r1, r2⟩, f0, f1, f2⟩ := G3.three
    clear v0 v1 v2 g0 g1 g2 u0 u1 u2
    clear q0 q1 q2 q3 q4 q5 q6 q7 q8 q9 q10 q11 q12 q13
    obtain ⟨⟨v0, v1, v2⟩, _⟩ := V3.three
    have hR3 := G3.lt
    have HG3 := hide G3
    clear hb3 G3 V3
    have h11 := H1.out
    go_wp2
    exact bodyPost_ret (v := .tuple #[.agg #[.int .i64 0, .int .i64 0, .int .i64 0], .int .i64 (unitE c ⟨u.lv, u.yr + 1, 1⟩)]) (by exact res_next rfl rfl (HG3.out.set123 _ _ _)) rfl ⟨rfl, ((HW3.out.setCell HKB.out _).setCell HKB.out _).setCell HKB.out _⟩

theorem fnext_any (c : Cal) (u : Un) (w : World) (hn : c.name.size ≤ 1000) :
    Calls Try.prog 22 #[calV c, unitV u] w fun e w' => e = .returned (.tuple #[unitV (nxU c u), .int .i64 (nxE c u)]) ∧ Below w.heap.size w w' := by
  by_cases hE : unitE c u = 0
  · by_cases h0 : unitE c (nxU0 u) = 0
    · refine (fnext_in c u w hn hE h0).mono ?_
      rintro e w1 ⟨rfl, hb⟩
      exact ⟨by rw [nxU, nxE, if_pos hE, if_pos hE, if_pos h0, if_pos h0]; rfl, hb⟩
    · exact fnext_over c u w hn hE h0
  · refine (fnext_bad c u w hn hE).mono ?_
    rintro e w1 ⟨rfl, hb⟩
    exact ⟨by rw [nxU, nxE, if_neg hE, if_neg hE], hb⟩

end Go.Proofs.Ytpngdeegdkifnaa

namespace Go.Proofs.Ytpngdeegdkifnaa
open Go.RowKit Qd
set_option linter.unusedSimpArgs false
set_option linter.unusedVariables false

theorem frame_11 {c : Cal} {lv y : Int} (hk : c.okB = true) (h1 : 1 ≤ lv) (h5 : lv ≤ 5) (h : y < c.first ∨ c.last < y) : frameE c lv y = 11 := by
  unfold frameE
  rw [if_pos hk, if_pos ⟨h1, h5⟩, if_neg (by omega)]
/-- The unit behind. -/
theorem next_facts {c : Cal} {u : Un} (h : unitE c u = 0) :
    (nxE c u = 0 ∧ (spV c u).b < endV c c.last ∧ unitE c (nxU c u) = 0 ∧ (spV c (nxU c u)).a = (spV c u).b + 1 ∧ bkE c (nxU c u) = 0 ∧ bkU c (nxU c u) = u) ∨ (nxE c u = 11 ∧ nxU c u = ⟨0, 0, 0⟩ ∧ (spV c u).b = endV c c.last) := by
  obtain ⟨hf, hl1, hl5, hA, hx, hi⟩ := un_lv h
  obtain ⟨hok, hk, _, _, hy1, hy2, _⟩ := frame_ok hf
  obtain ⟨y1, y2, y3, y4, y5⟩ := ok_years hk
  obtain ⟨lv, yr, ix⟩ := u
  simp only at hf hl1 hl5 hA hi hy1 hy2
  obtain ⟨i, hiu⟩ : ∃ i, i = uI ⟨lv, yr, ix⟩ := ⟨_, rfl⟩
  rw [← hiu] at hx hi
  obtain rfl : ix = (i : Int) + 1 := hx
  have hS := sp_mk hf i hi
  have hb : (spV c ⟨lv, yr, (i : Int) + 1⟩).b = dayW c yr (cutN c yr lv (i + 1)) - 1 := by rw [hS]
  rw [hb]
  by_cases hin : i + 1 < cntL c yr lv
  · left
    obtain ⟨g0, _, _⟩ := un_mk hf (i + 1) hin
    have e0 : nxU0 ⟨lv, yr, (i : Int) + 1⟩ = ⟨lv, yr, ((i + 1 : Nat) : Int) + 1⟩ := by simp [nxU0]
    have eU : nxU c ⟨lv, yr, (i : Int) + 1⟩ = ⟨lv, yr, ((i + 1 : Nat) : Int) + 1⟩ := by rw [nxU, if_pos h, e0, if_pos g0]
    have eE : nxE c ⟨lv, yr, (i : Int) + 1⟩ = 0 := by rw [nxE, if_pos h, e0, if_pos g0]
    rw [eU, eE]
    refine ⟨rfl, ?_, g0, ?_, ?_, ?_⟩
    · have b1 := dayW_lt c yr hA (cut_slt c yr hA lv hl1 hl5 hin (Nat.le_refl _)) (cut_le_nWk c yr hA lv hl1 hl5 _ (Nat.le_refl _))
      have b2 := cut_slt c yr hA lv hl1 hl5 hin (Nat.le_refl _)
      rw [cut_end c yr lv hl1 hl5, dayW_end c yr hA] at b1
      have := end_le c hok (show 1600 ≤ yr by omega) hy2 (by omega)
      rw [cut_end c yr lv hl1 hl5] at b2
      omega
    · rw [sp_mk hf (i + 1) hin]
      simp only
      omega
    · rw [bkE, if_pos g0, if_pos (by simp; omega)]
    · rw [bkU, if_pos g0, if_pos (by simp; omega)]
      simp
  · have hn : i + 1 = cntL c yr lv := by omega
    have e0 : ¬ unitE c (nxU0 ⟨lv, yr, (i : Int) + 1⟩) = 0 := by
      intro h2
      have := (unit_ok h2).2
      simp [nxU0, uI] at this
      omega
    have hend : dayW c yr (cutN c yr lv (i + 1)) - 1 = endV c yr := by
      rw [hn, cut_end c yr lv hl1 hl5, dayW_end c yr hA]
      omega
    rw [hend]
    by_cases hy : yr + 1 ≤ c.last
    · left
      have hf2 : frameE c lv (yr + 1) = 0 := frame_is hok hl1 hl5 (by omega) hy
      have hA2 : askE c (yr + 1) 1601 = 0 := (frame_ok hf2).2.2.2.2.2.2
      have hc2 := cnt_bd c (yr + 1) hA2 lv
      obtain ⟨g0, _, _⟩ := un_mk hf2 0 (by omega)
      have g0' : unitE c (nxU1 ⟨lv, yr, (i : Int) + 1⟩) = 0 := g0
      have eU : nxU c ⟨lv, yr, (i : Int) + 1⟩ = ⟨lv, yr + 1, ((0 : Nat) : Int) + 1⟩ := by rw [nxU, if_pos h, if_neg e0, if_pos g0']; rfl
      have eE : nxE c ⟨lv, yr, (i : Int) + 1⟩ = 0 := by rw [nxE, if_pos h, if_neg e0, g0']
      rw [eU, eE]
      refine ⟨rfl, ?_, g0, ?_, ?_, ?_⟩
      · have := end_mono c yr hok (by omega) 1 (by omega)
        have := end_le c hok (show 1600 ≤ yr + 1 by omega) hy (by omega)
        simp at *
        omega
      · rw [sp_mk hf2 0 (by omega), cut_0, dayW_0, start_next c yr hA2]
      · rw [bkE, if_pos g0, if_neg (by simp)]
        simp only
        rw [show yr + 1 - 1 = yr by omega]
        exact hf
      · rw [bkU, if_pos g0, if_neg (by simp)]
        simp only
        rw [show yr + 1 - 1 = yr by omega, if_pos hf, ← hn]
        simp
    · right
      have e11 : unitE c (nxU1 ⟨lv, yr, (i : Int) + 1⟩) = 11 := by
        have := frame_11 hk hl1 hl5 (y := yr + 1) (by omega)
        unfold unitE nxU1
        simp only
        rw [if_neg (by omega), this]
      refine ⟨by rw [nxE, if_pos h, if_neg e0, e11], by rw [nxU, if_pos h, if_neg e0, if_neg (by omega)], ?_⟩
      rw [show yr = c.last by omega]
/-- The unit ahead. -/
theorem back_facts {c : Cal} {u : Un} (h : unitE c u = 0) :
    (bkE c u = 0 ∧ startV c c.first < (spV c u).a ∧ unitE c (bkU c u) = 0 ∧ (spV c (bkU c u)).b + 1 = (spV c u).a ∧ nxE c (bkU c u) = 0 ∧ nxU c (bkU c u) = u) ∨ (bkE c u = 11 ∧ bkU c u = ⟨0, 0, 0⟩ ∧ (spV c u).a = startV c c.first) := by
  obtain ⟨hf, hl1, hl5, hA, hx, hi⟩ := un_lv h
  obtain ⟨hok, hk, _, _, hy1, hy2, _⟩ := frame_ok hf
  obtain ⟨y1, y2, y3, y4, y5⟩ := ok_years hk
  obtain ⟨lv, yr, ix⟩ := u
  simp only at hf hl1 hl5 hA hi hy1 hy2
  obtain ⟨i, hiu⟩ : ∃ i, i = uI ⟨lv, yr, ix⟩ := ⟨_, rfl⟩
  rw [← hiu] at hx hi
  obtain rfl : ix = (i : Int) + 1 := hx
  have hS := sp_mk hf i hi
  have ha : (spV c ⟨lv, yr, (i : Int) + 1⟩).a = dayW c yr (cutN c yr lv i) := by rw [hS]
  rw [ha]
  cases i with
  | succ j =>
    left
    obtain ⟨g0, _, _⟩ := un_mk hf j (by omega)
    have eU : bkU c ⟨lv, yr, ((j + 1 : Nat) : Int) + 1⟩ = ⟨lv, yr, (j : Int) + 1⟩ := by rw [bkU, if_pos h, if_pos (by simp; omega)]; simp
    have eE : bkE c ⟨lv, yr, ((j + 1 : Nat) : Int) + 1⟩ = 0 := by rw [bkE, if_pos h, if_pos (by simp; omega)]
    have e0 : nxU0 ⟨lv, yr, (j : Int) + 1⟩ = ⟨lv, yr, ((j + 1 : Nat) : Int) + 1⟩ := by simp [nxU0]
    rw [eU, eE]
    refine ⟨rfl, ?_, g0, ?_, ?_, ?_⟩
    · have b2 := cut_slt c yr hA lv hl1 hl5 (show 0 < j + 1 by omega) (Nat.le_of_lt hi)
      have b1 := dayW_lt c yr hA b2 (cut_le_nWk c yr hA lv hl1 hl5 _ (Nat.le_of_lt hi))
      rw [cut_0] at b1 b2
      rw [dayW_0] at b1
      have := start_le c hok (show 1601 ≤ c.first by omega) hy1 (by omega)
      omega
    · rw [sp_mk hf j (by omega)]
      simp only
      omega
    · rw [nxE, if_pos g0, e0, if_pos h]
    · rw [nxU, if_pos g0, e0, if_pos h]
  | zero =>
    rw [cut_0, dayW_0]
    by_cases hy : c.first ≤ yr - 1
    · left
      have hf2 : frameE c lv (yr - 1) = 0 := frame_is hok hl1 hl5 hy (by omega)
      have hA2 : askE c (yr - 1) 1601 = 0 := (frame_ok hf2).2.2.2.2.2.2
      have hc2 := cnt_bd c (yr - 1) hA2 lv
      obtain ⟨m, hm⟩ : ∃ m, cntL c (yr - 1) lv = m + 1 := ⟨cntL c (yr - 1) lv - 1, by omega⟩
      obtain ⟨g0, _, _⟩ := un_mk hf2 m (by omega)
      have eU : bkU c ⟨lv, yr, ((0 : Nat) : Int) + 1⟩ = ⟨lv, yr - 1, (m : Int) + 1⟩ := by rw [bkU, if_pos h, if_neg (by simp)]; simp only; rw [if_pos hf2, hm]; simp
      have eE : bkE c ⟨lv, yr, ((0 : Nat) : Int) + 1⟩ = 0 := by rw [bkE, if_pos h, if_neg (by simp)]; exact hf2
      have e0 : ¬ unitE c (nxU0 ⟨lv, yr - 1, (m : Int) + 1⟩) = 0 := by
        intro h2
        have := (unit_ok h2).2
        simp [nxU0, uI] at this
        omega
      have e1 : nxU1 ⟨lv, yr - 1, (m : Int) + 1⟩ = ⟨lv, yr, ((0 : Nat) : Int) + 1⟩ := by simp [nxU1]
      rw [eU, eE]
      refine ⟨rfl, ?_, g0, ?_, ?_, ?_⟩
      · have := end_lt_start c hok (show 1600 ≤ c.first by omega) (show c.first < yr by omega) (by omega)
        have := year_bd c c.first y1
        have : daysV c c.first = endV c c.first - startV c c.first + 1 := by simp [daysV, y1]
        omega
      · rw [sp_mk hf2 m (by omega)]
        simp only
        rw [← hm, cut_end c (yr - 1) lv hl1 hl5, dayW_end c (yr - 1) hA2]
        have := start_next c (yr - 1) (by rw [show yr - 1 + 1 = yr by omega]; exact hA)
        rw [show yr - 1 + 1 = yr by omega] at this
        omega
      · rw [nxE, if_pos g0, if_neg e0, e1, h]
      · rw [nxU, if_pos g0, if_neg e0, e1, if_pos h]
    · right
      have e11 : frameE c lv (yr - 1) = 11 := frame_11 hk hl1 hl5 (by omega)
      refine ⟨by rw [bkE, if_pos h, if_neg (by simp)]; exact e11, by rw [bkU, if_pos h, if_neg (by simp)]; simp only; rw [if_neg (by omega)], ?_⟩
      rw [show yr = c.first by omega]

theorem sp_bd' {c : Cal} {u : Un} (h : unitE c u = 0) : 0 ≤ (spV c u).a ∧ (spV c u).a ≤ (spV c u).b ∧ (spV c u).b ≤ 3068037 := by
  obtain ⟨hf, hl1, hl5, hA, hx, hi⟩ := un_lv h
  have hab := cutAB h
  rw [sp_get h]
  have b1 := dayW_le c u.yr hA (Nat.zero_le (cutA c u)) (by omega)
  have b2 := dayW_le c u.yr hA hab.2 (Nat.le_refl _)
  have b3 := dayW_lt c u.yr hA hab.1 hab.2
  rw [dayW_0] at b1
  rw [dayW_end c u.yr hA] at b2
  have := year_bd c u.yr hA
  simp only
  omega


end Go.Proofs.Ytpngdeegdkifnaa
