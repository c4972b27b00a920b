/- Twin, the contract of twin.monthly, second half. -/
import Derived.Test.YtjhhmeoibfdcmaaGreatMTq
namespace Go.Proofs.YtjhhmeoibfdcmaaGreat
open Go.RowKit Go.Shelf Qd
set_option linter.unusedSimpArgs false
set_option linter.unusedVariables false
attribute [local go_sem] Oper.semAt_some

set_option maxRecDepth 100000 in
set_option maxHeartbeats 8000000 in
theorem monthly_w1 (c : Cal) (u : Un) (t : Int) (w : World) (hn : c.name.size ≤ 1000) (hU : unitE c u = 0) (ht : srv c t) (h5 : u.lv = 5) (hc : (cutB c ⟨4, t, (upV c u 4).ix⟩ : Int) ≤ ((cutA c ⟨4, t, (upV c u 4).ix⟩ : Int) + 1 + (u.ix - ((cutA c (upV c u 4) : Int) + 1)))) :
    Calls Tryz.prog 193 #[calV c, unitV u, .int .i64 t] w fun e w' => ∃ v, e = .returned (.tuple #[v, .int .i64 0]) ∧ TwV w' v (monthL c u t) ∧ Below w.heap.size w w' := by
  obtain ⟨i, e1, e0, hg, hgt, e3, e4, e5, e6⟩ := mon_week hU ht h5
  have hab := cutAB hgt
  have hab0 := cutAB hg
  have hb60 := nWk_bd c t (un_lv hgt).2.2.2.1
  have hb61 := nWk_bd c u.yr (un_lv hg).2.2.2.1
  have hd1 := dn_5 hg
  have hd2 := dn_5 hgt
  have hibd : (i : Int) + 1 ≤ 60 := by
    have h1 := (un_lv hg).2.2.2.2.2
    have h2 := (cnt_bd c u.yr (un_lv hg).2.2.2.1 4).2
    have h3 : uI ⟨4, u.yr, (i : Int) + 1⟩ = i := by simp [uI]
    rw [h3] at h1
    simp only at h1
    omega
  have hwl : monthL c u t = wkU ⟨5, t, (cutA c ⟨4, t, (i : Int) + 1⟩ : Int) + 1 + (u.ix - ((cutA c ⟨4, u.yr, (i : Int) + 1⟩ : Int) + 1))⟩ (min (cutB c ⟨4, t, (i : Int) + 1⟩ : Int) ((cutA c ⟨4, t, (i : Int) + 1⟩ : Int) + 1 + (u.ix - ((cutA c ⟨4, u.yr, (i : Int) + 1⟩ : Int) + 1))) + 1 - ((cutA c ⟨4, t, (i : Int) + 1⟩ : Int) + 1 + (u.ix - ((cutA c ⟨4, u.yr, (i : Int) + 1⟩ : Int) + 1)))).toNat := by rw [monthL, if_pos h5, e1]
  rw [hwl]
  clear hwl
  simp only at hab hab0 hd1 hd2
  rw [e1] at hc
  simp only at hc
  rw [Int.min_eq_left hc]
  have h5b : (u.lv == 5) = true := by simp [h5]
  have hixb : 1 ≤ u.ix ∧ u.ix ≤ 61 := by omega
  obtain ⟨i0, hi, hi0, hi1, hi2⟩ := info_parts unit_info
  obtain ⟨A0, hA0⟩ : ∃ A, cutA c ⟨4, u.yr, (i : Int) + 1⟩ = A := ⟨_, rfl⟩
  obtain ⟨B0, hB0⟩ : ∃ B, cutB c ⟨4, u.yr, (i : Int) + 1⟩ = B := ⟨_, rfl⟩
  obtain ⟨A, hAA⟩ : ∃ A, cutA c ⟨4, t, (i : Int) + 1⟩ = A := ⟨_, rfl⟩
  obtain ⟨B, hBB⟩ : ∃ B, cutB c ⟨4, t, (i : Int) + 1⟩ = B := ⟨_, rfl⟩
  obtain ⟨N, hNN⟩ : ∃ N, nWk c t = N := ⟨_, rfl⟩
  obtain ⟨N0, hNN0⟩ : ∃ N, nWk c u.yr = N := ⟨_, rfl⟩
  rw [hA0, hB0] at hd1 hab0
  rw [hAA, hBB] at hd2 hab
  rw [hAA, hBB, hA0] at hc
  try rw [hAA]
  try rw [hBB]
  try rw [hA0]
  rw [hNN] at hab hb60
  rw [hNN0] at hab0 hb61
  have HD1 := hide hd1
  have HD2 := hide hd2
  have HE := hide (And.intro e0 e1)
  clear hd1 hd2 hU hg hgt ht h5 hA0 hB0 hAA hBB hNN hNN0 e0 e1 e3 e4 e5 e6
  simp only [calV, unitV]
  refine (callsIn_wide (n := 5)).1 ?_
  refine callsIn_of_wp_marks Tryz.func193 rfl trivial ?_ rfl
  simp only [Tryz.ntmps193, List.size_toArray, List.length_cons, List.length_nil, Nat.reduceAdd, Nat.reduceSub, Array.replicate_succ, Array.replicate_zero, List.push_toArray, List.append_toArray, List.nil_append, List.cons_append]
  gi_wp2_with fail
  have HM0 := hide (mnSt_new c u w)
  have HB0 := hide (show Below w.heap.size w (((w.alloc (.cells (calCs c) 24)).alloc (.cells #[.int .i64 u.lv, .int .i64 u.yr, .int .i64 u.ix] 26)).alloc (.cells #[.int .i64 u.lv, .int .i64 u.yr, .int .i64 u.ix] 26)) by (repeat' exact bel))
  refine ⟨trivial, (callsIn_wide.2 (up_any c u 4 _ hn)).mono ?_⟩
  rintro e w1 ⟨rfl, hb1⟩
  rw [HE.out.1, HE.out.2]
  simp only [unitV]
  have HM1 := hide (HM0.out.call (by exact hb1))
  have HB1 := hide (HB0.out.trans (hb1.mono (by simp; omega)))
  clear hb1
  have hz1 : w.heap.size + 2 < w1.heap.size := HM1.out.lt
  have hzA : w.heap.size < w1.heap.size := by omega
  have hzB : w.heap.size + 1 < w1.heap.size := by omega
  have hzC : w.heap.size + 1 + 1 < w1.heap.size := by omega
  obtain ⟨q0, q1, q2, q3, q4, q5, q6, q7, q8, q9, q10, q11, q12, q13⟩ := HM1.out.1.cal
  obtain ⟨u0, u1, u2⟩ := HM1.out.un
  obtain ⟨⟨p0, p1, p2⟩, p3, p4, p5⟩ := HM1.out.pn
  gi_wp2_with fail
  refine ⟨trivial, (callsIn_wide.2 (down_any c ⟨4, u.yr, (i : Int) + 1⟩ 5 _ hn)).mono ?_⟩
  rintro e w2 ⟨rfl, hb2⟩
  rw [HD1.out.1, HD1.out.2.1, HD1.out.2.2]
  simp only [unitV]
  have HM2 := hide (((HM1.out.setp 4 u.yr ((i : Int) + 1)).alloc _).call (by exact hb2))
  have HB2 := hide (((((HB1.out.setCell (p := ⟨w.heap.size + 1 + 1, 0, none⟩) (by simp; omega) (.int .i64 4)).setCell (p := ⟨w.heap.size + 1 + 1, 1, none⟩) (by simp; omega) (.int .i64 u.yr)).setCell (p := ⟨w.heap.size + 1 + 1, 2, none⟩) (by simp; omega) (.int .i64 ((i : Int) + 1))).alloc (by simp; omega) _).trans (hb2.mono (by simp; omega)))
  clear hb2
  clear q0 q1 q2 q3 q4 q5 q6 q7 q8 q9 q10 q11 q12 q13
  clear u0 u1 u2 p0 p1 p2 p3 p4 p5 hzA hzB hzC
  have hz2 : w.heap.size + 2 < w2.heap.size := HM2.out.lt
  have hzA : w.heap.size < w2.heap.size := by omega
  have hzB : w.heap.size + 1 < w2.heap.size := by omega
  have hzC : w.heap.size + 1 + 1 < w2.heap.size := by omega
  obtain ⟨q0, q1, q2, q3, q4, q5, q6, q7, q8, q9, q10, q11, q12, q13⟩ := HM2.out.1.cal
  obtain ⟨u0, u1, u2⟩ := HM2.out.un
  obtain ⟨⟨p0, p1, p2⟩, p3, p4, p5⟩ := HM2.out.pn
  gi_wp2_with fail
  refine ⟨trivial, (callsIn_wide.2 (down_any c ⟨4, t, (i : Int) + 1⟩ 5 _ hn)).mono ?_⟩
  rintro e w3 ⟨rfl, hb3⟩
  rw [HD2.out.1, HD2.out.2.1, HD2.out.2.2]
  simp only [unitV]
  have HM3 := hide ((((HM2.out.year t).alloc _).alloc _).call (by exact hb3))
  have HB3 := hide (((((HB2.out.setCell (p := ⟨w.heap.size + 1 + 1, 1, none⟩) (by simp; omega) (.int .i64 t)).alloc (by simp; omega) _).alloc (by simp; omega) _)).trans (hb3.mono (by simp; omega)))
  have GO := ((BlkIs.new (w2.setCell ⟨w.heap.size + 1 + 1, 1, none⟩ (.int .i64 t)) #[.int .i64 5, .int .i64 u.yr, .int .i64 ((A0 : Int) + 1)] 26).alloc (.cells #[.int .i64 5, .int .i64 u.yr, .int .i64 (B0 : Int)] 26)).call (by exact hb3)
  have go2 : w3.cell? ⟨w2.heap.size, 2, none⟩ = some (.int .i64 ((A0 : Int) + 1)) := by simpa using GO.cell 2
  have hw23 : w2.heap.size < w3.heap.size := by have := hb3.size; simp at this; omega
  clear hb3 GO
  clear q0 q1 q2 q3 q4 q5 q6 q7 q8 q9 q10 q11 q12 q13
  clear u0 u1 u2 p0 p1 p2 p3 p4 p5 hzA hzB hzC
  have hz3 : w.heap.size + 2 < w3.heap.size := HM3.out.lt
  have hzA : w.heap.size < w3.heap.size := by omega
  have hzB : w.heap.size + 1 < w3.heap.size := by omega
  have hzC : w.heap.size + 1 + 1 < w3.heap.size := by omega
  obtain ⟨q0, q1, q2, q3, q4, q5, q6, q7, q8, q9, q10, q11, q12, q13⟩ := HM3.out.1.cal
  obtain ⟨u0, u1, u2⟩ := HM3.out.un
  obtain ⟨⟨p0, p1, p2⟩, p3, p4, p5⟩ := HM3.out.pn
  gi_wp2_with fail

  refine ⟨trivial, (weeks_fn _ ⟨5, t, ((A : Int) + 1 + (u.ix - ((A0 : Int) + 1)))⟩ ⟨5, t, (B : Int)⟩ _).mono ?_⟩
  rintro e w4 ⟨rfl, rfl⟩
  simp only
  gi_wp2_with fail
  have HBZ := hide HB3.out
  have hzz2 : w.heap.size < w3.heap.size := hzA
  obtain ⟨W5, hW5⟩ : ∃ W5 : World, W5 = ((((w3.alloc (.cells #[.int .i64 5, .int .i64 t, .int .i64 ((A : Int) + 1 + (u.ix - ((A0 : Int) + 1)))] 26)).alloc (.cells #[.int .i64 5, .int .i64 t, .int .i64 (B : Int)] 26)).alloc (.cells #[.slice none 0 0] 115)).alloc (.cells #[.int .i64 5, .int .i64 t, .int .i64 ((A : Int) + 1 + (u.ix - ((A0 : Int) + 1)))] 26)).alloc (.cells #[.int .i64 5, .int .i64 t, .int .i64 (B : Int)] 26) := ⟨_, rfl⟩
  have s0 : BlkIs W5 (w3.heap.size + 3) #[.int .i64 5, .int .i64 t, .int .i64 ((A : Int) + 1 + (u.ix - ((A0 : Int) + 1)))] 26 := by
    rw [hW5]
    have := (BlkIs.new (((w3.alloc (.cells #[.int .i64 5, .int .i64 t, .int .i64 ((A : Int) + 1 + (u.ix - ((A0 : Int) + 1)))] 26)).alloc (.cells #[.int .i64 5, .int .i64 t, .int .i64 (B : Int)] 26)).alloc (.cells #[.slice none 0 0] 115)) #[.int .i64 5, .int .i64 t, .int .i64 ((A : Int) + 1 + (u.ix - ((A0 : Int) + 1)))] 26).alloc (.cells #[.int .i64 5, .int .i64 t, .int .i64 (B : Int)] 26)
    simpa using this
  have s1 : BlkIs W5 (w3.heap.size + 4) #[.int .i64 5, .int .i64 t, .int .i64 (B : Int)] 26 := by
    rw [hW5]
    have := BlkIs.new ((((w3.alloc (.cells #[.int .i64 5, .int .i64 t, .int .i64 ((A : Int) + 1 + (u.ix - ((A0 : Int) + 1)))] 26)).alloc (.cells #[.int .i64 5, .int .i64 t, .int .i64 (B : Int)] 26)).alloc (.cells #[.slice none 0 0] 115)).alloc (.cells #[.int .i64 5, .int .i64 t, .int .i64 ((A : Int) + 1 + (u.ix - ((A0 : Int) + 1)))] 26)) #[.int .i64 5, .int .i64 t, .int .i64 (B : Int)] 26
    simpa using this
  have sO : Boxed W5 (w3.heap.size + 2) 115 (.slice none 0 0) := by
    rw [hW5]
    have := ((Boxed.new ((w3.alloc (.cells #[.int .i64 5, .int .i64 t, .int .i64 ((A : Int) + 1 + (u.ix - ((A0 : Int) + 1)))] 26)).alloc (.cells #[.int .i64 5, .int .i64 t, .int .i64 (B : Int)] 26)) 115 (.slice none 0 0)).alloc (.cells #[.int .i64 5, .int .i64 t, .int .i64 ((A : Int) + 1 + (u.ix - ((A0 : Int) + 1)))] 26)).alloc (.cells #[.int .i64 5, .int .i64 t, .int .i64 (B : Int)] 26)
    simpa using this
  have hzz : w.heap.size ≤ w3.heap.size + 2 := by omega
  have hBW : Below w.heap.size w W5 := by
    have b1 := HBZ.out
    rw [hW5]
    refine Below.alloc (Below.alloc (Below.alloc (Below.alloc (Below.alloc b1 ?_ _) ?_ _) ?_ _) ?_ _) ?_ _ <;> first | omega | (simp; omega)
  have hsz : W5.heap.size = w3.heap.size + 5 := by rw [hW5]; simp
  rw [← hW5]
  clear hW5
  simp only [sz_alloc]
  refine wpIn_rangeFunc_ownH (α := Wk ⟨5, t, ((A : Int) + 1 + (u.ix - ((A0 : Int) + 1)))⟩ ((B : Int) + 1 - ((A : Int) + 1 + (u.ix - ((A0 : Int) + 1)))).toNat) rfl (by omega) (gf := 236) (lb := #[.pointer (some ⟨w3.heap.size + 3, 0, none⟩), .pointer (some ⟨w3.heap.size + 4, 0, none⟩)]) rfl trivial (enters_of Tryz.func236 (by kernel_rfl) rfl)
    (weeks_stops ⟨5, t, ((A : Int) + 1 + (u.ix - ((A0 : Int) + 1)))⟩ ⟨5, t, (B : Int)⟩ ((B : Int) + 1 - ((A : Int) + 1 + (u.ix - ((A0 : Int) + 1)))).toNat rfl (by simp only; omega) (w3.heap.size + 3) (w3.heap.size + 4) W5 s0 s1)
    KeepBx.trans (fun W l o o' _ h1 h2 _ => keepBx_putObj W l o o' h1 h2) (Below.refl _ _) (fun _ => rfl)
    (fun (pre : List (Wk ⟨5, t, ((A : Int) + 1 + (u.ix - ((A0 : Int) + 1)))⟩ ((B : Int) + 1 - ((A : Int) + 1 + (u.ix - ((A0 : Int) + 1)))).toNat)) W => (∃ v, Boxed W (w3.heap.size + 2) 115 v ∧ W.ownsRow (w3.heap.size + 2) 26 3 v (valW pre).length (flatU (valW pre)) ∧ (v = .slice none 0 0 ↔ valW pre = [])) ∧ Below w.heap.size w W)
    (fun _ _ _ => False)
    (OwnFrom.and (Own.from (holdsRow_own (w3.heap.size + 2) (w3.heap.size + 2) _ _ 3 (fun (pre : List (Wk ⟨5, t, ((A : Int) + 1 + (u.ix - ((A0 : Int) + 1)))⟩ ((B : Int) + 1 - ((A : Int) + 1 + (u.ix - ((A0 : Int) + 1)))).toNat)) => (valW pre).length) (fun pre => flatU (valW pre)) (fun pre v => v = .slice none 0 0 ↔ valW pre = [])) _) (ownFrom_below (Nat.le_refl _) (by omega)))
    (fun _ _ _ _ _ hs _ _ => hs)
    ⟨⟨_, sO, World.ownsRow_nil _ _ _ _, by simp [valW]⟩, hBW⟩
    (AxW (w3.heap.size + 2) ?a1) (fun x a' => axW_own _ _ x a' _)
    ?assign ?body ?done ?stop
  case assign =>
    rintro l pre x W K ⟨⟨v, hv, hrow, hnil⟩, hB⟩ hK
    have hK2 := hide hK
    clear hK
    obtain ⟨Bx, hBx⟩ : ∃ Bx, Bx = W.heap.size := ⟨_, rfl⟩
    simp only [encW, unitV]
    gi_wp2
    rw [← hBx]
    have hK3 := fun a' (h : a' = _) => hK2.out a' _ ((KeepsOthers.alloc _ _).from _) (KeepBx.alloc _ _) ⟨⟨v, hv.alloc _, hrow.alloc _, hnil⟩, hB.alloc hB.size _⟩ ⟨Bx, by rw [hBx]; exact hv.lt, by rw [hBx]; exact BlkIs.new W #[.int .i64 x.1.lv, .int .i64 x.1.yr, .int .i64 x.1.ix] 26, h⟩
    have hK4 := hK3 _ rfl
    exact hK4
  case body =>
    rintro l pre ⟨x, hxx⟩ a' W hl ⟨r, hr⟩ ⟨⟨v, hv, hrow, hnil⟩, hB⟩ ⟨Bx, hBx, bX, rfl⟩ hlt
    simp only at bX ⊢
    have hbx0 : W.cell? ⟨Bx, 0, none⟩ = some (.int .i64 x.lv) := bX.cell 0
    have hbx1 : W.cell? ⟨Bx, 1, none⟩ = some (.int .i64 x.yr) := bX.cell 1
    have hbx2 : W.cell? ⟨Bx, 2, none⟩ = some (.int .i64 x.ix) := bX.cell 2
    have hc := hv.cell
    have hWz : w3.heap.size + 2 ≤ W.heap.size := Nat.le_of_lt hv.lt
    have hpl : (valW pre).length + 1 ≤ 2000000 := by rw [valW_len]; omega
    gi_wp2_with (gi_at_builtin; refine wpListIn_append_or _ rfl _ _ 115 rfl (w3.heap.size + 2) 26 i0 (.agg #[.int .i64 0, .int .i64 0, .int .i64 0]) 3 24 Tryz.underlying115 hi hi0 hi1 hi2 rfl (by decide) _ _ _ rfl (hrow.alloc _) ⟨W.heap.size, 0, none⟩ 1 1 [.int .i64 x.lv, .int .i64 x.yr, .int .i64 x.ix] rfl rfl (cells_new3 _ _ _ _ _) (by simp [Value.oneCell']) (by unfold maxLen; omega) (by omega) (by simp; omega) (by omega) ?_; intro v' w6 hown' hgrow hor; obtain ⟨g', cap', rfl⟩ := ownsRow_succ hown'; obtain ⟨hv3, hv4, hr4, hk4, hb4⟩ := hv.appended (by decide) hrow hWz (by omega) hown' hgrow; have hc1 := hv3.cell; have hf1 := hv3.frozen)
    have hbx := app_bx (v' := .slice (some ⟨g', 0, none⟩) ((valW pre).length + 1) cap') hv hrow (by rcases Nat.eq_zero_or_pos (valW pre).length with h | h; exact .inl (hnil.2 (List.length_eq_zero_iff.1 h)); exact .inr h) hgrow hor
    refine ⟨hk4.from _, hbx, ⟨_, hv4, ?_, ?_⟩, hB.trans (hb4.mono (by omega))⟩
    · rw [valW_snoc, flatU_snoc]
      simpa using hr4
    · rw [valW_snoc]
      simp
  case done =>
    rintro D xs W hD hxs ⟨⟨v, hv, hrow, hnil⟩, hB⟩ hK
    rw [show valW xs = wkU ⟨5, t, ((A : Int) + 1 + (u.ix - ((A0 : Int) + 1)))⟩ ((B : Int) + 1 - ((A : Int) + 1 + (u.ix - ((A0 : Int) + 1)))).toNat from hxs] at hrow hnil
    clear hxs
    have hc := hv.cell
    have HRW := hide hrow
    have HNL := hide hnil
    clear hrow hnil hv
    gi_wp2
    refine ⟨by simp, .inl ⟨_, _, rfl, run_takeDeferred hK, ?_⟩⟩
    refine ⟨_, res_monthly rfl rfl, v, rfl, ?_, ?_⟩
    · exact twV_of (b := 0) (ownsRow_putObj (HRW.out.base (Nat.zero_le _)) _ hK rfl) HNL.out
    · exact hB.trans (belowK_b (w := w) (Nat.le_refl _) _ D _ _ (by omega) hK rfl rfl)
  case stop =>
    rintro D cc pre W _ _ h _
    exact h.elim

set_option maxRecDepth 100000 in
set_option maxHeartbeats 8000000 in
theorem monthly_w2 (c : Cal) (u : Un) (t : Int) (w : World) (hn : c.name.size ≤ 1000) (hU : unitE c u = 0) (ht : srv c t) (h5 : u.lv = 5) (hc : ((cutA c ⟨4, t, (upV c u 4).ix⟩ : Int) + 1 + (u.ix - ((cutA c (upV c u 4) : Int) + 1))) < (cutB c ⟨4, t, (upV c u 4).ix⟩ : Int)) :
    Calls Tryz.prog 193 #[calV c, unitV u, .int .i64 t] w fun e w' => ∃ v, e = .returned (.tuple #[v, .int .i64 0]) ∧ TwV w' v (monthL c u t) ∧ Below w.heap.size w w' := by
  obtain ⟨i, e1, e0, hg, hgt, e3, e4, e5, e6⟩ := mon_week hU ht h5
  have hab := cutAB hgt
  have hab0 := cutAB hg
  have hb60 := nWk_bd c t (un_lv hgt).2.2.2.1
  have hb61 := nWk_bd c u.yr (un_lv hg).2.2.2.1
  have hd1 := dn_5 hg
  have hd2 := dn_5 hgt
  have hibd : (i : Int) + 1 ≤ 60 := by
    have h1 := (un_lv hg).2.2.2.2.2
    have h2 := (cnt_bd c u.yr (un_lv hg).2.2.2.1 4).2
    have h3 : uI ⟨4, u.yr, (i : Int) + 1⟩ = i := by simp [uI]
    rw [h3] at h1
    simp only at h1
    omega
  have hwl : monthL c u t = wkU ⟨5, t, (cutA c ⟨4, t, (i : Int) + 1⟩ : Int) + 1 + (u.ix - ((cutA c ⟨4, u.yr, (i : Int) + 1⟩ : Int) + 1))⟩ (min (cutB c ⟨4, t, (i : Int) + 1⟩ : Int) ((cutA c ⟨4, t, (i : Int) + 1⟩ : Int) + 1 + (u.ix - ((cutA c ⟨4, u.yr, (i : Int) + 1⟩ : Int) + 1))) + 1 - ((cutA c ⟨4, t, (i : Int) + 1⟩ : Int) + 1 + (u.ix - ((cutA c ⟨4, u.yr, (i : Int) + 1⟩ : Int) + 1)))).toNat := by rw [monthL, if_pos h5, e1]
  rw [hwl]
  clear hwl
  simp only at hab hab0 hd1 hd2
  rw [e1] at hc
  simp only at hc
  rw [Int.min_eq_right (Int.le_of_lt hc)]
  have h5b : (u.lv == 5) = true := by simp [h5]
  have hixb : 1 ≤ u.ix ∧ u.ix ≤ 61 := by omega
  obtain ⟨i0, hi, hi0, hi1, hi2⟩ := info_parts unit_info
  obtain ⟨A0, hA0⟩ : ∃ A, cutA c ⟨4, u.yr, (i : Int) + 1⟩ = A := ⟨_, rfl⟩
  obtain ⟨B0, hB0⟩ : ∃ B, cutB c ⟨4, u.yr, (i : Int) + 1⟩ = B := ⟨_, rfl⟩
  obtain ⟨A, hAA⟩ : ∃ A, cutA c ⟨4, t, (i : Int) + 1⟩ = A := ⟨_, rfl⟩
  obtain ⟨B, hBB⟩ : ∃ B, cutB c ⟨4, t, (i : Int) + 1⟩ = B := ⟨_, rfl⟩
  obtain ⟨N, hNN⟩ : ∃ N, nWk c t = N := ⟨_, rfl⟩
  obtain ⟨N0, hNN0⟩ : ∃ N, nWk c u.yr = N := ⟨_, rfl⟩
  rw [hA0, hB0] at hd1 hab0
  rw [hAA, hBB] at hd2 hab
  rw [hAA, hBB, hA0] at hc
  try rw [hAA]
  try rw [hBB]
  try rw [hA0]
  rw [hNN] at hab hb60
  rw [hNN0] at hab0 hb61
  have HD1 := hide hd1
  have HD2 := hide hd2
  have HE := hide (And.intro e0 e1)
  clear hd1 hd2 hU hg hgt ht h5 hA0 hB0 hAA hBB hNN hNN0 e0 e1 e3 e4 e5 e6
  simp only [calV, unitV]
  refine (callsIn_wide (n := 5)).1 ?_
  refine callsIn_of_wp_marks Tryz.func193 rfl trivial ?_ rfl
  simp only [Tryz.ntmps193, List.size_toArray, List.length_cons, List.length_nil, Nat.reduceAdd, Nat.reduceSub, Array.replicate_succ, Array.replicate_zero, List.push_toArray, List.append_toArray, List.nil_append, List.cons_append]
  gi_wp2_with fail
  have HM0 := hide (mnSt_new c u w)
  have HB0 := hide (show Below w.heap.size w (((w.alloc (.cells (calCs c) 24)).alloc (.cells #[.int .i64 u.lv, .int .i64 u.yr, .int .i64 u.ix] 26)).alloc (.cells #[.int .i64 u.lv, .int .i64 u.yr, .int .i64 u.ix] 26)) by (repeat' exact bel))
  refine ⟨trivial, (callsIn_wide.2 (up_any c u 4 _ hn)).mono ?_⟩
  rintro e w1 ⟨rfl, hb1⟩
  rw [HE.out.1, HE.out.2]
  simp only [unitV]
  have HM1 := hide (HM0.out.call (by exact hb1))
  have HB1 := hide (HB0.out.trans (hb1.mono (by simp; omega)))
  clear hb1
  have hz1 : w.heap.size + 2 < w1.heap.size := HM1.out.lt
  have hzA : w.heap.size < w1.heap.size := by omega
  have hzB : w.heap.size + 1 < w1.heap.size := by omega
  have hzC : w.heap.size + 1 + 1 < w1.heap.size := by omega
  obtain ⟨q0, q1, q2, q3, q4, q5, q6, q7, q8, q9, q10, q11, q12, q13⟩ := HM1.out.1.cal
  obtain ⟨u0, u1, u2⟩ := HM1.out.un
  obtain ⟨⟨p0, p1, p2⟩, p3, p4, p5⟩ := HM1.out.pn
  gi_wp2_with fail
  refine ⟨trivial, (callsIn_wide.2 (down_any c ⟨4, u.yr, (i : Int) + 1⟩ 5 _ hn)).mono ?_⟩
  rintro e w2 ⟨rfl, hb2⟩
  rw [HD1.out.1, HD1.out.2.1, HD1.out.2.2]
  simp only [unitV]
  have HM2 := hide (((HM1.out.setp 4 u.yr ((i : Int) + 1)).alloc _).call (by exact hb2))
  have HB2 := hide (((((HB1.out.setCell (p := ⟨w.heap.size + 1 + 1, 0, none⟩) (by simp; omega) (.int .i64 4)).setCell (p := ⟨w.heap.size + 1 + 1, 1, none⟩) (by simp; omega) (.int .i64 u.yr)).setCell (p := ⟨w.heap.size + 1 + 1, 2, none⟩) (by simp; omega) (.int .i64 ((i : Int) + 1))).alloc (by simp; omega) _).trans (hb2.mono (by simp; omega)))
  clear hb2
  clear q0 q1 q2 q3 q4 q5 q6 q7 q8 q9 q10 q11 q12 q13
  clear u0 u1 u2 p0 p1 p2 p3 p4 p5 hzA hzB hzC
  have hz2 : w.heap.size + 2 < w2.heap.size := HM2.out.lt
  have hzA : w.heap.size < w2.heap.size := by omega
  have hzB : w.heap.size + 1 < w2.heap.size := by omega
  have hzC : w.heap.size + 1 + 1 < w2.heap.size := by omega
  obtain ⟨q0, q1, q2, q3, q4, q5, q6, q7, q8, q9, q10, q11, q12, q13⟩ := HM2.out.1.cal
  obtain ⟨u0, u1, u2⟩ := HM2.out.un
  obtain ⟨⟨p0, p1, p2⟩, p3, p4, p5⟩ := HM2.out.pn
  gi_wp2_with fail
  refine ⟨trivial, (callsIn_wide.2 (down_any c ⟨4, t, (i : Int) + 1⟩ 5 _ hn)).mono ?_⟩
  rintro e w3 ⟨rfl, hb3⟩
  rw [HD2.out.1, HD2.out.2.1, HD2.out.2.2]
  simp only [unitV]
  have HM3 := hide ((((HM2.out.year t).alloc _).alloc _).call (by exact hb3))
  have HB3 := hide (((((HB2.out.setCell (p := ⟨w.heap.size + 1 + 1, 1, none⟩) (by simp; omega) (.int .i64 t)).alloc (by simp; omega) _).alloc (by simp; omega) _)).trans (hb3.mono (by simp; omega)))
  have GO := ((BlkIs.new (w2.setCell ⟨w.heap.size + 1 + 1, 1, none⟩ (.int .i64 t)) #[.int .i64 5, .int .i64 u.yr, .int .i64 ((A0 : Int) + 1)] 26).alloc (.cells #[.int .i64 5, .int .i64 u.yr, .int .i64 (B0 : Int)] 26)).call (by exact hb3)
  have go2 : w3.cell? ⟨w2.heap.size, 2, none⟩ = some (.int .i64 ((A0 : Int) + 1)) := by simpa using GO.cell 2
  have hw23 : w2.heap.size < w3.heap.size := by have := hb3.size; simp at this; omega
  clear hb3 GO
  clear q0 q1 q2 q3 q4 q5 q6 q7 q8 q9 q10 q11 q12 q13
  clear u0 u1 u2 p0 p1 p2 p3 p4 p5 hzA hzB hzC
  have hz3 : w.heap.size + 2 < w3.heap.size := HM3.out.lt
  have hzA : w.heap.size < w3.heap.size := by omega
  have hzB : w.heap.size + 1 < w3.heap.size := by omega
  have hzC : w.heap.size + 1 + 1 < w3.heap.size := by omega
  obtain ⟨q0, q1, q2, q3, q4, q5, q6, q7, q8, q9, q10, q11, q12, q13⟩ := HM3.out.1.cal
  obtain ⟨u0, u1, u2⟩ := HM3.out.un
  obtain ⟨⟨p0, p1, p2⟩, p3, p4, p5⟩ := HM3.out.pn
  gi_wp2_with fail

  refine ⟨trivial, (weeks_fn _ ⟨5, t, ((A : Int) + 1 + (u.ix - ((A0 : Int) + 1)))⟩ ⟨5, t, ((A : Int) + 1 + (u.ix - ((A0 : Int) + 1)))⟩ _).mono ?_⟩
  rintro e w4 ⟨rfl, rfl⟩
  simp only
  gi_wp2_with fail
  have HBZ := hide HB3.out
  have hzz2 : w.heap.size < w3.heap.size := hzA
  obtain ⟨W5, hW5⟩ : ∃ W5 : World, W5 = ((((w3.alloc (.cells #[.int .i64 5, .int .i64 t, .int .i64 ((A : Int) + 1 + (u.ix - ((A0 : Int) + 1)))] 26)).alloc (.cells #[.int .i64 5, .int .i64 t, .int .i64 ((A : Int) + 1 + (u.ix - ((A0 : Int) + 1)))] 26)).alloc (.cells #[.slice none 0 0] 115)).alloc (.cells #[.int .i64 5, .int .i64 t, .int .i64 ((A : Int) + 1 + (u.ix - ((A0 : Int) + 1)))] 26)).alloc (.cells #[.int .i64 5, .int .i64 t, .int .i64 ((A : Int) + 1 + (u.ix - ((A0 : Int) + 1)))] 26) := ⟨_, rfl⟩
  have s0 : BlkIs W5 (w3.heap.size + 3) #[.int .i64 5, .int .i64 t, .int .i64 ((A : Int) + 1 + (u.ix - ((A0 : Int) + 1)))] 26 := by
    rw [hW5]
    have := (BlkIs.new (((w3.alloc (.cells #[.int .i64 5, .int .i64 t, .int .i64 ((A : Int) + 1 + (u.ix - ((A0 : Int) + 1)))] 26)).alloc (.cells #[.int .i64 5, .int .i64 t, .int .i64 ((A : Int) + 1 + (u.ix - ((A0 : Int) + 1)))] 26)).alloc (.cells #[.slice none 0 0] 115)) #[.int .i64 5, .int .i64 t, .int .i64 ((A : Int) + 1 + (u.ix - ((A0 : Int) + 1)))] 26).alloc (.cells #[.int .i64 5, .int .i64 t, .int .i64 ((A : Int) + 1 + (u.ix - ((A0 : Int) + 1)))] 26)
    simpa using this
  have s1 : BlkIs W5 (w3.heap.size + 4) #[.int .i64 5, .int .i64 t, .int .i64 ((A : Int) + 1 + (u.ix - ((A0 : Int) + 1)))] 26 := by
    rw [hW5]
    have := BlkIs.new ((((w3.alloc (.cells #[.int .i64 5, .int .i64 t, .int .i64 ((A : Int) + 1 + (u.ix - ((A0 : Int) + 1)))] 26)).alloc (.cells #[.int .i64 5, .int .i64 t, .int .i64 ((A : Int) + 1 + (u.ix - ((A0 : Int) + 1)))] 26)).alloc (.cells #[.slice none 0 0] 115)).alloc (.cells #[.int .i64 5, .int .i64 t, .int .i64 ((A : Int) + 1 + (u.ix - ((A0 : Int) + 1)))] 26)) #[.int .i64 5, .int .i64 t, .int .i64 ((A : Int) + 1 + (u.ix - ((A0 : Int) + 1)))] 26
    simpa using this
  have sO : Boxed W5 (w3.heap.size + 2) 115 (.slice none 0 0) := by
    rw [hW5]
    have := ((Boxed.new ((w3.alloc (.cells #[.int .i64 5, .int .i64 t, .int .i64 ((A : Int) + 1 + (u.ix - ((A0 : Int) + 1)))] 26)).alloc (.cells #[.int .i64 5, .int .i64 t, .int .i64 ((A : Int) + 1 + (u.ix - ((A0 : Int) + 1)))] 26)) 115 (.slice none 0 0)).alloc (.cells #[.int .i64 5, .int .i64 t, .int .i64 ((A : Int) + 1 + (u.ix - ((A0 : Int) + 1)))] 26)).alloc (.cells #[.int .i64 5, .int .i64 t, .int .i64 ((A : Int) + 1 + (u.ix - ((A0 : Int) + 1)))] 26)
    simpa using this
  have hzz : w.heap.size ≤ w3.heap.size + 2 := by omega
  have hBW : Below w.heap.size w W5 := by
    have b1 := HBZ.out
    rw [hW5]
    refine Below.alloc (Below.alloc (Below.alloc (Below.alloc (Below.alloc b1 ?_ _) ?_ _) ?_ _) ?_ _) ?_ _ <;> first | omega | (simp; omega)
  have hsz : W5.heap.size = w3.heap.size + 5 := by rw [hW5]; simp
  rw [← hW5]
  clear hW5
  simp only [sz_alloc]
  refine wpIn_rangeFunc_ownH (α := Wk ⟨5, t, ((A : Int) + 1 + (u.ix - ((A0 : Int) + 1)))⟩ (((A : Int) + 1 + (u.ix - ((A0 : Int) + 1))) + 1 - ((A : Int) + 1 + (u.ix - ((A0 : Int) + 1)))).toNat) rfl (by omega) (gf := 236) (lb := #[.pointer (some ⟨w3.heap.size + 3, 0, none⟩), .pointer (some ⟨w3.heap.size + 4, 0, none⟩)]) rfl trivial (enters_of Tryz.func236 (by kernel_rfl) rfl)
    (weeks_stops ⟨5, t, ((A : Int) + 1 + (u.ix - ((A0 : Int) + 1)))⟩ ⟨5, t, ((A : Int) + 1 + (u.ix - ((A0 : Int) + 1)))⟩ (((A : Int) + 1 + (u.ix - ((A0 : Int) + 1))) + 1 - ((A : Int) + 1 + (u.ix - ((A0 : Int) + 1)))).toNat rfl (by simp only; omega) (w3.heap.size + 3) (w3.heap.size + 4) W5 s0 s1)
    KeepBx.trans (fun W l o o' _ h1 h2 _ => keepBx_putObj W l o o' h1 h2) (Below.refl _ _) (fun _ => rfl)
    (fun (pre : List (Wk ⟨5, t, ((A : Int) + 1 + (u.ix - ((A0 : Int) + 1)))⟩ (((A : Int) + 1 + (u.ix - ((A0 : Int) + 1))) + 1 - ((A : Int) + 1 + (u.ix - ((A0 : Int) + 1)))).toNat)) W => (∃ v, Boxed W (w3.heap.size + 2) 115 v ∧ W.ownsRow (w3.heap.size + 2) 26 3 v (valW pre).length (flatU (valW pre)) ∧ (v = .slice none 0 0 ↔ valW pre = [])) ∧ Below w.heap.size w W)
    (fun _ _ _ => False)
    (OwnFrom.and (Own.from (holdsRow_own (w3.heap.size + 2) (w3.heap.size + 2) _ _ 3 (fun (pre : List (Wk ⟨5, t, ((A : Int) + 1 + (u.ix - ((A0 : Int) + 1)))⟩ (((A : Int) + 1 + (u.ix - ((A0 : Int) + 1))) + 1 - ((A : Int) + 1 + (u.ix - ((A0 : Int) + 1)))).toNat)) => (valW pre).length) (fun pre => flatU (valW pre)) (fun pre v => v = .slice none 0 0 ↔ valW pre = [])) _) (ownFrom_below (Nat.le_refl _) (by omega)))
    (fun _ _ _ _ _ hs _ _ => hs)
    ⟨⟨_, sO, World.ownsRow_nil _ _ _ _, by simp [valW]⟩, hBW⟩
    (AxW (w3.heap.size + 2) ?a1) (fun x a' => axW_own _ _ x a' _)
    ?assign ?body ?done ?stop
  case assign =>
    rintro l pre x W K ⟨⟨v, hv, hrow, hnil⟩, hB⟩ hK
    have hK2 := hide hK
    clear hK
    obtain ⟨Bx, hBx⟩ : ∃ Bx, Bx = W.heap.size := ⟨_, rfl⟩
    simp only [encW, unitV]
    gi_wp2
    rw [← hBx]
    have hK3 := fun a' (h : a' = _) => hK2.out a' _ ((KeepsOthers.alloc _ _).from _) (KeepBx.alloc _ _) ⟨⟨v, hv.alloc _, hrow.alloc _, hnil⟩, hB.alloc hB.size _⟩ ⟨Bx, by rw [hBx]; exact hv.lt, by rw [hBx]; exact BlkIs.new W #[.int .i64 x.1.lv, .int .i64 x.1.yr, .int .i64 x.1.ix] 26, h⟩
    have hK4 := hK3 _ rfl
    exact hK4
  case body =>
    rintro l pre ⟨x, hxx⟩ a' W hl ⟨r, hr⟩ ⟨⟨v, hv, hrow, hnil⟩, hB⟩ ⟨Bx, hBx, bX, rfl⟩ hlt
    simp only at bX ⊢
    have hbx0 : W.cell? ⟨Bx, 0, none⟩ = some (.int .i64 x.lv) := bX.cell 0
    have hbx1 : W.cell? ⟨Bx, 1, none⟩ = some (.int .i64 x.yr) := bX.cell 1
    have hbx2 : W.cell? ⟨Bx, 2, none⟩ = some (.int .i64 x.ix) := bX.cell 2
    have hc := hv.cell
    have hWz : w3.heap.size + 2 ≤ W.heap.size := Nat.le_of_lt hv.lt
    have hpl : (valW pre).length + 1 ≤ 2000000 := by rw [valW_len]; omega
    gi_wp2_with (gi_at_builtin; refine wpListIn_append_or _ rfl _ _ 115 rfl (w3.heap.size + 2) 26 i0 (.agg #[.int .i64 0, .int .i64 0, .int .i64 0]) 3 24 Tryz.underlying115 hi hi0 hi1 hi2 rfl (by decide) _ _ _ rfl (hrow.alloc _) ⟨W.heap.size, 0, none⟩ 1 1 [.int .i64 x.lv, .int .i64 x.yr, .int .i64 x.ix] rfl rfl (cells_new3 _ _ _ _ _) (by simp [Value.oneCell']) (by unfold maxLen; omega) (by omega) (by simp; omega) (by omega) ?_; intro v' w6 hown' hgrow hor; obtain ⟨g', cap', rfl⟩ := ownsRow_succ hown'; obtain ⟨hv3, hv4, hr4, hk4, hb4⟩ := hv.appended (by decide) hrow hWz (by omega) hown' hgrow; have hc1 := hv3.cell; have hf1 := hv3.frozen)
    have hbx := app_bx (v' := .slice (some ⟨g', 0, none⟩) ((valW pre).length + 1) cap') hv hrow (by rcases Nat.eq_zero_or_pos (valW pre).length with h | h; exact .inl (hnil.2 (List.length_eq_zero_iff.1 h)); exact .inr h) hgrow hor
    refine ⟨hk4.from _, hbx, ⟨_, hv4, ?_, ?_⟩, hB.trans (hb4.mono (by omega))⟩
    · rw [valW_snoc, flatU_snoc]
      simpa using hr4
    · rw [valW_snoc]
      simp
  case done =>
    rintro D xs W hD hxs ⟨⟨v, hv, hrow, hnil⟩, hB⟩ hK
    rw [show valW xs = wkU ⟨5, t, ((A : Int) + 1 + (u.ix - ((A0 : Int) + 1)))⟩ (((A : Int) + 1 + (u.ix - ((A0 : Int) + 1))) + 1 - ((A : Int) + 1 + (u.ix - ((A0 : Int) + 1)))).toNat from hxs] at hrow hnil
    clear hxs
    have hc := hv.cell
    have HRW := hide hrow
    have HNL := hide hnil
    clear hrow hnil hv
    gi_wp2
    refine ⟨by simp, .inl ⟨_, _, rfl, run_takeDeferred hK, ?_⟩⟩
    refine ⟨_, res_monthly rfl rfl, v, rfl, ?_, ?_⟩
    · exact twV_of (b := 0) (ownsRow_putObj (HRW.out.base (Nat.zero_le _)) _ hK rfl) HNL.out
    · exact hB.trans (belowK_b (w := w) (Nat.le_refl _) _ D _ _ (by omega) hK rfl rfl)
  case stop =>
    rintro D cc pre W _ _ h _
    exact h.elim

theorem monthly_any (c : Cal) (u : Un) (t : Int) (w : World) (hn : c.name.size ≤ 1000) (hU : unitE c u = 0) (ht : srv c t) :
    Calls Tryz.prog 193 #[calV c, unitV u, .int .i64 t] w fun e w' => ∃ v, e = .returned (.tuple #[v, .int .i64 0]) ∧ TwV w' v (monthL c u t) ∧ Below w.heap.size w w' := by
  by_cases h5 : u.lv = 5
  · by_cases hc : (cutB c ⟨4, t, (upV c u 4).ix⟩ : Int) ≤ ((cutA c ⟨4, t, (upV c u 4).ix⟩ : Int) + 1 + (u.ix - ((cutA c (upV c u 4) : Int) + 1)))
    · exact monthly_w1 c u t w hn hU ht h5 hc
    · exact monthly_w2 c u t w hn hU ht h5 (by omega)
  · exact monthly_n c u t w hn hU ht h5
end Go.Proofs.YtjhhmeoibfdcmaaGreat
