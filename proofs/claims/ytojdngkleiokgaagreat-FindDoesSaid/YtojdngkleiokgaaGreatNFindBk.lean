/- The contract of find.Back. -/
import Derived.Test.YtojdngkleiokgaaGreatMFi
namespace Go.Proofs.YtojdngkleiokgaaGreat
open Go.RowKit Qd
set_option linter.unusedSimpArgs false
set_option linter.unusedVariables false

theorem res_back {tmps : Array Value} {W : World} {B : Nat} {a0 a1 a2 e : Int} (h6 : tmps[4]? = some (.pointer (some ⟨B, 0, none⟩))) (h7 : tmps[5]? = some (.int .i64 e))
    (g6 : BlkIs W B #[.int .i64 a0, .int .i64 a1, .int .i64 a2] 38) :
    (results Tryz.f20 tmps).run Tryz.prog W = .ok (.tuple #[.agg #[.int .i64 a0, .int .i64 a1, .int .i64 a2], .int .i64 e]) W := by
  have c0 := g6.cell 0
  have c1 := g6.cell 1
  have c2 := g6.cell 2
  simp at c0 c1 c2
  simp [results, Tryz.results20, go_sem, h6, h7, c0, c1, c2]
set_option maxRecDepth 100000 in
set_option maxHeartbeats 1600000 in
theorem fback_bad (c : Cal) (u : Un) (w : World) (hn : c.name.size ≤ 1000) (hE : ¬ unitE c u = 0) :
    Calls Tryz.prog 20 #[calV c, unitV u] w fun e w' => e = .returned (.tuple #[.agg #[.int .i64 0, .int .i64 0, .int .i64 0], .int .i64 (unitE c u)]) ∧ Below w.heap.size w w' := by
  have hE' : (unitE c u != 0) = true := by simpa using hE
  clear hE
  simp only [calV, unitV]
  go_enter Tryz.func20, Tryz.ntmps20
  go_wp2_with fail
  refine (ucheck_any c u _ hn).mono ?_
  rintro e w1 ⟨rfl, hb1⟩
  have G := (show BlkIs w1 (w.heap.size + 1 + 1) #[.int .i64 0, .int .i64 0, .int .i64 0] 38 from BlkIs.below (by simpa using BlkIs.new ((w.alloc (calObj c)).alloc (unObj u)) #[.int .i64 0, .int .i64 0, .int .i64 0] 38) hb1 (by simp))
  have HW := hide (show Below w.heap.size w w1 by (repeat' (first | (with_reducible exact Below.refl _ _) | (with_reducible assumption) | (with_reducible refine Below.alloc ?_ ?_ _) | (with_reducible refine below_drewN ?_ _) | (with_reducible refine Below.drew ?_) | (with_reducible refine Below.setCell ?_ ?_ _) | (with_reducible refine Below.trans ?_ (Below.mono (by assumption) ?_)) | go_size | (simp at *; omega))))
  have hkB : w.heap.size ≤ w.heap.size + 1 + 1 := by omega
  clear hb1
  generalize w.heap.size + 1 + 1 = R at *
  obtain ⟨⟨r0, r1, r2⟩, f0, f1, f2⟩ := G.three
  have HG := hide G
  have hsz := G.lt
  clear G
  go_wp2
  exact bodyPost_ret (v := .tuple #[.agg #[.int .i64 0, .int .i64 0, .int .i64 0], .int .i64 (unitE c u)]) (by exact res_back rfl rfl (HG.out.set123 _ _ _)) rfl ⟨rfl, ((HW.out.setCell hkB _).setCell hkB _).setCell hkB _⟩

set_option maxRecDepth 100000 in
set_option maxHeartbeats 3200000 in
theorem fback_in (c : Cal) (u : Un) (w : World) (hn : c.name.size ≤ 1000) (hE : unitE c u = 0) (h0 : 1 < u.ix) :
    Calls Tryz.prog 20 #[calV c, unitV u] w fun e w' => e = .returned (.tuple #[.agg #[.int .i64 u.lv, .int .i64 u.yr, .int .i64 (u.ix - 1)], .int .i64 0]) ∧ Below w.heap.size w w' := by
  obtain ⟨hf, hl1, hl5, hA, hx, hi⟩ := un_lv hE
  have hcb := cnt_bd c u.yr hA u.lv
  have hyy := ask_ok hA
  have hb : 1 ≤ u.ix ∧ u.ix ≤ 60 ∧ 1600 ≤ u.yr ∧ u.yr ≤ 9999 := by omega
  have HE := hide hE
  clear hE hf hA hx hi hcb hyy
  simp only [calV, unitV]
  go_enter Tryz.func20, Tryz.ntmps20
  go_wp2_with fail
  refine (ucheck_any c u _ hn).mono ?_
  rintro e w1 ⟨rfl, hb1⟩
  rw [HE.out]
  have G := (show BlkIs w1 (w.heap.size + 1 + 1) #[.int .i64 0, .int .i64 0, .int .i64 0] 38 from BlkIs.below (by simpa using BlkIs.new ((w.alloc (calObj c)).alloc (unObj u)) #[.int .i64 0, .int .i64 0, .int .i64 0] 38) hb1 (by simp))
  have HQ1 := hide (show CalAt w1 w.heap.size c from calAt_below hb1 (by simp; omega) (calAt_alloc (calAt_alloc (calAt_new w c) (by simp) _) (by simp; omega) _))
  have HU1 := hide (show UnAt w1 (w.heap.size + 1) u from unAt_below hb1 (by simp) (unAt_alloc (unAt_new w c u) (by simp) _))
  have HW := hide (show Below w.heap.size w w1 by (repeat' (first | (with_reducible exact Below.refl _ _) | (with_reducible assumption) | (with_reducible refine Below.alloc ?_ ?_ _) | (with_reducible refine below_drewN ?_ _) | (with_reducible refine Below.drew ?_) | (with_reducible refine Below.setCell ?_ ?_ _) | (with_reducible refine Below.trans ?_ (Below.mono (by assumption) ?_)) | go_size | (simp at *; omega))))
  have hkB : w.heap.size ≤ w.heap.size + 1 + 1 := by omega
  have hz1 : w.heap.size + 1 < w1.heap.size := by have := hb1.size; simp at this; omega
  have hz0 : w.heap.size < w1.heap.size := by omega
  clear hb1
  generalize w.heap.size + 1 + 1 = R at *
  have HG := hide G
  have hR := G.lt
  have HKB := hide hkB
  obtain ⟨q0, q1, q2, q3, q4, q5, q6, q7, q8, q9, q10, q11, q12, q13⟩ := HQ1.out
  obtain ⟨u0, u1, u2⟩ := HU1.out
  obtain ⟨⟨r0, r1, r2⟩, f0, f1, f2⟩ := G.three
  clear G hkB
  have hne : R ≠ w1.heap.size := by omega
  have hne' : w1.heap.size ≠ R := by omega
  go_wp2
  all_goals first
    | (exfalso; omega)
    | (exact bodyPost_ret (v := .tuple #[.agg #[.int .i64 u.lv, .int .i64 u.yr, .int .i64 (u.ix - 1)], .int .i64 0]) (by exact res_back rfl rfl ((HG.out.set123 _ _ _).alloc _)) rfl ⟨rfl, ((((HW.out.setCell HKB.out _).setCell HKB.out _).setCell HKB.out _).alloc (by simp; omega) _)⟩)

set_option maxRecDepth 100000 in
set_option maxHeartbeats 3200000 in
theorem fback_over (c : Cal) (u : Un) (w : World) (hn : c.name.size ≤ 1000) (hE : unitE c u = 0) (h0 : ¬ 1 < u.ix) :
    Calls Tryz.prog 20 #[calV c, unitV u] w fun e w' => e = .returned (.tuple #[unitV (bkU c u), .int .i64 (bkE c u)]) ∧ Below w.heap.size w w' := by
  obtain ⟨hf, hl1, hl5, hA, hx, hi⟩ := un_lv hE
  have hcb := cnt_bd c u.yr hA u.lv
  have hyy := ask_ok hA
  have hb : 1 ≤ u.ix ∧ u.ix ≤ 60 ∧ 1600 ≤ u.yr ∧ u.yr ≤ 9999 := by omega
  have HE := hide hE
  have hee : bkE c u = frameE c u.lv (u.yr - 1) := by rw [bkE, if_pos hE, if_neg h0]
  have huu : bkU c u = if frameE c u.lv (u.yr - 1) = 0 then ⟨u.lv, u.yr - 1, (cntL c (u.yr - 1) u.lv : Int)⟩ else ⟨0, 0, 0⟩ := by rw [bkU, if_pos hE, if_neg h0]
  rw [hee, huu]
  clear hE hf hA hx hi hcb hyy hee huu
  by_cases h1 : frameE c u.lv (u.yr - 1) = 0
  · rw [if_pos h1, h1]
    have HC := hide (count_yes h1)
    have H1 := hide h1
    clear h1
    simp only [calV, unitV]
    go_enter Tryz.func20, Tryz.ntmps20
    go_wp2_with fail
    refine (ucheck_any c u _ hn).mono ?_
    rintro e w1 ⟨rfl, hb1⟩
    rw [HE.out]
    have G := (show BlkIs w1 (w.heap.size + 1 + 1) #[.int .i64 0, .int .i64 0, .int .i64 0] 38 from BlkIs.below (by simpa using BlkIs.new ((w.alloc (calObj c)).alloc (unObj u)) #[.int .i64 0, .int .i64 0, .int .i64 0] 38) hb1 (by simp))
    have HQ1 := hide (show CalAt w1 w.heap.size c from calAt_below hb1 (by simp; omega) (calAt_alloc (calAt_alloc (calAt_new w c) (by simp) _) (by simp; omega) _))
    have HU1 := hide (show UnAt w1 (w.heap.size + 1) u from unAt_below hb1 (by simp) (unAt_alloc (unAt_new w c u) (by simp) _))
    have HW := hide (show Below w.heap.size w w1 by (repeat' (first | (with_reducible exact Below.refl _ _) | (with_reducible assumption) | (with_reducible refine Below.alloc ?_ ?_ _) | (with_reducible refine below_drewN ?_ _) | (with_reducible refine Below.drew ?_) | (with_reducible refine Below.setCell ?_ ?_ _) | (with_reducible refine Below.trans ?_ (Below.mono (by assumption) ?_)) | go_size | (simp at *; omega))))
    have hkB : w.heap.size ≤ w.heap.size + 1 + 1 := by omega
    have hz1 : w.heap.size + 1 < w1.heap.size := by have := hb1.size; simp at this; omega
    have hz0 : w.heap.size < w1.heap.size := by omega
    clear hb1
    generalize w.heap.size + 1 + 1 = R at *
    have HG := hide G
    have hR := G.lt
    have HKB := hide hkB
    obtain ⟨q0, q1, q2, q3, q4, q5, q6, q7, q8, q9, q10, q11, q12, q13⟩ := HQ1.out
    obtain ⟨u0, u1, u2⟩ := HU1.out
    clear G hkB
    go_wp2_with fail
    all_goals first
      | (exfalso; omega)
      | skip
    refine (count_any c u.lv (u.yr - 1) _ hn).mono ?_
    rintro e w2 ⟨rfl, hb2⟩
    rw [HC.out]
    have G2 := HG.out.alloc (.cells #[.int .i64 u.lv, .int .i64 (u.yr - 1), .int .i64 (u.ix - 1)] 38) |>.call hb2
    have V2 := (BlkIs.new w1 #[.int .i64 u.lv, .int .i64 (u.yr - 1), .int .i64 (u.ix - 1)] 38).call hb2
    have HW2 := hide ((HW.out.alloc (by omega) _).trans (hb2.mono (by simp; omega)) : Below w.heap.size w w2)
    obtain ⟨⟨r0, r1, r2⟩, f0, f1, f2⟩ := G2.three
    obtain ⟨⟨v0, v1, v2⟩, ⟨g0, g1, g2⟩⟩ := V2.three
    have hz2 : w1.heap.size < w2.heap.size := V2.lt
    have HG2 := hide G2
    have hR2 := G2.lt
    clear q0 q1 q2 q3 q4 q5 q6 q7 q8 q9 q10 q11 q12 q13
    clear hb2 G2 V2 u0 u1 u2
    have hne : R ≠ w1.heap.size := by omega
    have hne' : w1.heap.size ≠ R := by omega
    have hk1 : w.heap.size ≤ w1.heap.size := by omega
    rw [H1.out]
    go_wp2
    exact bodyPost_ret (v := .tuple #[.agg #[.int .i64 u.lv, .int .i64 (u.yr - 1), .int .i64 (cntL c (u.yr - 1) u.lv : Int)], .int .i64 0]) (by exact res_back rfl rfl ((HG2.out.far hne _).set123 _ _ _)) rfl ⟨rfl, (((HW2.out.setCell hk1 _).setCell HKB.out _).setCell HKB.out _).setCell HKB.out _⟩
  · rw [if_neg h1]
    have HC := hide (count_no h1)
    have H1 := hide (show (frameE c u.lv (u.yr - 1) != 0) = true by simpa using h1)
    clear h1
    simp only [calV, unitV]
    go_enter Tryz.func20, Tryz.ntmps20
    go_wp2_with fail
    refine (ucheck_any c u _ hn).mono ?_
    rintro e w1 ⟨rfl, hb1⟩
    rw [HE.out]
    have G := (show BlkIs w1 (w.heap.size + 1 + 1) #[.int .i64 0, .int .i64 0, .int .i64 0] 38 from BlkIs.below (by simpa using BlkIs.new ((w.alloc (calObj c)).alloc (unObj u)) #[.int .i64 0, .int .i64 0, .int .i64 0] 38) hb1 (by simp))
    have HQ1 := hide (show CalAt w1 w.heap.size c from calAt_below hb1 (by simp; omega) (calAt_alloc (calAt_alloc (calAt_new w c) (by simp) _) (by simp; omega) _))
    have HU1 := hide (show UnAt w1 (w.heap.size + 1) u from unAt_below hb1 (by simp) (unAt_alloc (unAt_new w c u) (by simp) _))
    have HW := hide (show Below w.heap.size w w1 by (repeat' (first | (with_reducible exact Below.refl _ _) | (with_reducible assumption) | (with_reducible refine Below.alloc ?_ ?_ _) | (with_reducible refine below_drewN ?_ _) | (with_reducible refine Below.drew ?_) | (with_reducible refine Below.setCell ?_ ?_ _) | (with_reducible refine Below.trans ?_ (Below.mono (by assumption) ?_)) | go_size | (simp at *; omega))))
    have hkB : w.heap.size ≤ w.heap.size + 1 + 1 := by omega
    have hz1 : w.heap.size + 1 < w1.heap.size := by have := hb1.size; simp at this; omega
    have hz0 : w.heap.size < w1.heap.size := by omega
    clear hb1
    generalize w.heap.size + 1 + 1 = R at *
    have HG := hide G
    have hR := G.lt
    have HKB := hide hkB
    obtain ⟨q0, q1, q2, q3, q4, q5, q6, q7, q8, q9, q10, q11, q12, q13⟩ := HQ1.out
    obtain ⟨u0, u1, u2⟩ := HU1.out
    clear G hkB
    go_wp2_with fail
    all_goals first
      | (exfalso; omega)
      | skip
    refine (count_any c u.lv (u.yr - 1) _ hn).mono ?_
    rintro e w2 ⟨rfl, hb2⟩
    rw [HC.out]
    have G2 := HG.out.alloc (.cells #[.int .i64 u.lv, .int .i64 (u.yr - 1), .int .i64 (u.ix - 1)] 38) |>.call hb2
    have V2 := (BlkIs.new w1 #[.int .i64 u.lv, .int .i64 (u.yr - 1), .int .i64 (u.ix - 1)] 38).call hb2
    have HW2 := hide ((HW.out.alloc (by omega) _).trans (hb2.mono (by simp; omega)) : Below w.heap.size w w2)
    obtain ⟨⟨r0, r1, r2⟩, f0, f1, f2⟩ := G2.three
    obtain ⟨⟨v0, v1, v2⟩, ⟨g0, g1, g2⟩⟩ := V2.three
    have hz2 : w1.heap.size < w2.heap.size := V2.lt
    have HG2 := hide G2
    have hR2 := G2.lt
    clear q0 q1 q2 q3 q4 q5 q6 q7 q8 q9 q10 q11 q12 q13
    clear hb2 G2 V2 u0 u1 u2
    have hne : R ≠ w1.heap.size := by omega
    have hne' : w1.heap.size ≠ R := by omega
    have hk1 : w.heap.size ≤ w1.heap.size := by omega
    have h11 := H1.out
    go_wp2
    exact bodyPost_ret (v := .tuple #[.agg #[.int .i64 0, .int .i64 0, .int .i64 0], .int .i64 (frameE c u.lv (u.yr - 1))]) (by exact res_back rfl rfl (HG2.out.set123 _ _ _)) rfl ⟨rfl, ((HW2.out.setCell HKB.out _).setCell HKB.out _).setCell HKB.out _⟩

theorem fback_any (c : Cal) (u : Un) (w : World) (hn : c.name.size ≤ 1000) :
    Calls Tryz.prog 20 #[calV c, unitV u] w fun e w' => e = .returned (.tuple #[unitV (bkU c u), .int .i64 (bkE c u)]) ∧ Below w.heap.size w w' := by
  by_cases hE : unitE c u = 0
  · by_cases h0 : 1 < u.ix
    · refine (fback_in c u w hn hE h0).mono ?_
      rintro e w1 ⟨rfl, hb⟩
      exact ⟨by rw [bkU, bkE, if_pos hE, if_pos hE, if_pos h0, if_pos h0], hb⟩
    · exact fback_over c u w hn hE h0
  · refine (fback_bad c u w hn hE).mono ?_
    rintro e w1 ⟨rfl, hb⟩
    exact ⟨by rw [bkU, bkE, if_neg hE, if_neg hE], hb⟩
end Go.Proofs.YtojdngkleiokgaaGreat
