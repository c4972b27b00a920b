/- Twin, third part: the contract of twin.compared. -/
import Derived.Test.YtamnccechaooaaaGreatMTw
namespace Go.Proofs.YtamnccechaooaaaGreat
open Go.RowKit Go.Shelf Qd
set_option linter.unusedSimpArgs false
set_option linter.unusedVariables false
attribute [local go_sem] Oper.semAt_some

theorem res_compared {tmps : Array Value} {W : World} {B1 B2 : Nat} {v : Value} {e : Int} (h8 : tmps[6]? = some (.pointer (some ⟨B1, 0, none⟩))) (h9 : tmps[7]? = some (.pointer (some ⟨B2, 0, none⟩)))
    (g1 : BlkIs W B1 #[v] 42) (g2 : BlkIs W B2 #[.int .i64 e] 28) :
    (results Tryz.f81 tmps).run Tryz.prog W = .ok (.tuple #[v, .int .i64 e]) W := by
  have c0 := g1.cell 0
  have c1 := g2.cell 0
  simp at c0 c1
  simp [results, Tryz.results81, go_sem, h8, h9, c0, c1]

/-- What lies in the frame of twin.compared. -/
def CmSt (c : Cal) (u : Un) (t : Int) (B : Nat) (w : World) : Prop := BlkIs w B (calCs c) 24 ∧ BlkIs w (B + 1) #[.int .i64 u.lv, .int .i64 u.yr, .int .i64 u.ix] 27 ∧ BlkIs w (B + 2) #[.int .i64 t] 3 ∧ BlkIs w (B + 3) #[.slice none 0 0] 42 ∧ BlkIs w (B + 4) #[.int .i64 0] 28
theorem CmSt.call {c : Cal} {u : Un} {t : Int} {B : Nat} {w w' : World} (h : CmSt c u t B w) (hb : Below w.heap.size w w') : CmSt c u t B w' := ⟨h.1.call hb, h.2.1.call hb, h.2.2.1.call hb, h.2.2.2.1.call hb, h.2.2.2.2.call hb⟩
theorem CmSt.below {c : Cal} {u : Un} {t : Int} {B K : Nat} {w w' : World} (h : CmSt c u t B w) (hb : Below K w w') (hK : B + 4 < K) : CmSt c u t B w' := ⟨h.1.below hb (by omega), h.2.1.below hb (by omega), h.2.2.1.below hb (by omega), h.2.2.2.1.below hb (by omega), h.2.2.2.2.below hb (by omega)⟩
theorem CmSt.alloc {c : Cal} {u : Un} {t : Int} {B : Nat} {w : World} (h : CmSt c u t B w) (o : Obj) : CmSt c u t B (w.alloc o) := ⟨h.1.alloc o, h.2.1.alloc o, h.2.2.1.alloc o, h.2.2.2.1.alloc o, h.2.2.2.2.alloc o⟩
theorem CmSt.lt {c : Cal} {u : Un} {t : Int} {B : Nat} {w : World} (h : CmSt c u t B w) : B + 4 < w.heap.size := h.2.2.2.2.lt
theorem CmSt.un {c : Cal} {u : Un} {t : Int} {B : Nat} {w : World} (h : CmSt c u t B w) : (w.cell? ⟨B + 1, 0, none⟩ = some (.int .i64 u.lv) ∧ w.cell? ⟨B + 1, 1, none⟩ = some (.int .i64 u.yr) ∧ w.cell? ⟨B + 1, 2, none⟩ = some (.int .i64 u.ix)) ∧ w.cell? ⟨B + 2, 0, none⟩ = some (.int .i64 t) := ⟨⟨h.2.1.cell 0, h.2.1.cell 1, h.2.1.cell 2⟩, h.2.2.1.cell 0⟩
theorem cmSt_new (c : Cal) (u : Un) (t : Int) (w : World) : CmSt c u t w.heap.size (((((w.alloc (.cells (calCs c) 24)).alloc (.cells #[.int .i64 u.lv, .int .i64 u.yr, .int .i64 u.ix] 27)).alloc (.cells #[.int .i64 t] 3)).alloc (.cells #[.slice none 0 0] 42)).alloc (.cells #[.int .i64 0] 28)) := by
  refine ⟨((((BlkIs.new w _ _).alloc _).alloc _).alloc _).alloc _, ?_, ?_, ?_, ?_⟩
  · have := (((BlkIs.new (w.alloc (.cells (calCs c) 24)) #[.int .i64 u.lv, .int .i64 u.yr, .int .i64 u.ix] 27).alloc (.cells #[.int .i64 t] 3)).alloc (.cells #[.slice none 0 0] 42)).alloc (.cells #[.int .i64 0] 28)
    simpa using this
  · have := ((BlkIs.new ((w.alloc (.cells (calCs c) 24)).alloc (.cells #[.int .i64 u.lv, .int .i64 u.yr, .int .i64 u.ix] 27)) #[.int .i64 t] 3).alloc (.cells #[.slice none 0 0] 42)).alloc (.cells #[.int .i64 0] 28)
    simpa using this
  · have := (BlkIs.new (((w.alloc (.cells (calCs c) 24)).alloc (.cells #[.int .i64 u.lv, .int .i64 u.yr, .int .i64 u.ix] 27)).alloc (.cells #[.int .i64 t] 3)) #[.slice none 0 0] 42).alloc (.cells #[.int .i64 0] 28)
    simpa using this
  · have := BlkIs.new ((((w.alloc (.cells (calCs c) 24)).alloc (.cells #[.int .i64 u.lv, .int .i64 u.yr, .int .i64 u.ix] 27)).alloc (.cells #[.int .i64 t] 3)).alloc (.cells #[.slice none 0 0] 42)) #[.int .i64 0] 28
    simpa using this
theorem cmSt_own {β : Type} (c : Cal) (u : Un) (t : Int) (B : Nat) : Own (fun (_ : β) W => CmSt c u t B W) := fun s X Y row h hg hr => ⟨blk_own h.1 hg hr, blk_own h.2.1 hg hr, blk_own h.2.2.1 hg hr, blk_own h.2.2.2.1 hg hr, blk_own h.2.2.2.2 hg hr⟩
theorem szA (w : World) (o : Obj) : (w.alloc o).heap.size = w.heap.size + 1 := by simp

set_option maxRecDepth 100000 in
set_option maxHeartbeats 8000000 in
theorem compared_any (c : Cal) (u : Un) (t : Int) (w : World) (hn : c.name.size ≤ 1000) (hU : unitE c u = 0) (hk6 : c.kind ≠ 6) (ht : srv c t) :
    Calls Tryz.prog 81 #[calV c, unitV u, .int .i64 t] w fun e w' => ∃ v, e = .returned (.tuple #[v, .int .i64 0]) ∧ TwV w' v (cmpL c u.yr t (wksL c u)) ∧ Below w.heap.size w w' := by
  have hf := (un_lv hU).1
  have hA := (un_lv hU).2.2.2.1
  obtain ⟨hok, hk, _, _, hy1, hy2, _⟩ := frame_ok hf
  have hab := cutAB hU
  have hb60 := nWk_bd c _ hA
  have hwk : (nWk c u.yr : Int) = wksV c u.yr := nwk_wks hk hk6 ⟨hy1, hy2⟩
  have HCW := hide (show ∀ x : Int, 1 ≤ x → x ≤ nWk c u.yr → (cwE c u.yr t x = 0 ∨ cwE c u.yr t x = 12) ∧ 0 ≤ cwV c u.yr t x ∧ cwV c u.yr t x ≤ 60 from fun x h1 h2 => ⟨cw_two hk hk6 ⟨hy1, hy2⟩ ht ⟨h1, by omega⟩, cw_bd hk hk6 ⟨hy1, hy2⟩ ht ⟨h1, by omega⟩⟩)
  have HPL := hide (show ∀ (n : Int) (w : World), 0 ≤ n → n ≤ 60 → Calls Tryz.prog 109 #[calV c, .int .i64 t, .int .i64 n] w fun e w' => e = .returned (.tuple #[unitV (plU c t n), .int .i64 0]) ∧ Below w.heap.size w w' from fun n w h1 h2 => tplace_any c t n w hn hk hk6 ht (by omega))
  have hd := dn_5 hU
  have hwl : wksL c u = wkU ⟨5, u.yr, (cutA c u : Int) + 1⟩ (cutB c u - cutA c u) := rfl
  rw [hwl]
  clear hwl
  obtain ⟨i0, hi, hi0, hi1, hi2⟩ := info_parts unit_info
  obtain ⟨A, hAA⟩ : ∃ A, cutA c u = A := ⟨_, rfl⟩
  obtain ⟨B, hBB⟩ : ∃ B, cutB c u = B := ⟨_, rfl⟩
  obtain ⟨N, hNN⟩ : ∃ N, nWk c u.yr = N := ⟨_, rfl⟩
  rw [hAA, hBB] at hd hab ⊢
  rw [hNN] at hab HCW hb60
  have HD := hide hd
  clear hd hU hf hok hk hy1 hy2 ht hA hk6 hwk hAA hBB hNN
  simp only [calV, unitV]
  refine (callsIn_wide (n := 5)).1 ?_
  refine callsIn_of_wp_marks Tryz.func81 rfl trivial ?_ rfl
  simp only [Tryz.ntmps81, List.size_toArray, List.length_cons, List.length_nil, Nat.reduceAdd, Nat.reduceSub, Array.replicate_succ, Array.replicate_zero, List.push_toArray, List.append_toArray, List.nil_append, List.cons_append]
  gi_wp2_with fail
  have HM0 := hide (cmSt_new c u t w)
  have HB0 := hide (show Below w.heap.size w (((((w.alloc (.cells (calCs c) 24)).alloc (.cells #[.int .i64 u.lv, .int .i64 u.yr, .int .i64 u.ix] 27)).alloc (.cells #[.int .i64 t] 3)).alloc (.cells #[.slice none 0 0] 42)).alloc (.cells #[.int .i64 0] 28)) by (repeat' exact bel))
  refine ⟨trivial, (callsIn_wide.2 (down_any c u 5 _ hn)).mono ?_⟩
  rintro e w1 ⟨rfl, hb1⟩
  rw [HD.out.1, HD.out.2.1, HD.out.2.2]
  simp only [unitV]
  have HM1 := hide (HM0.out.call (by exact hb1))
  have HB1 := hide (HB0.out.trans (hb1.mono (by simp; omega)))
  clear hb1
  gi_wp2_with fail
  refine ⟨trivial, (weeks_fn _ ⟨5, u.yr, (A : Int) + 1⟩ ⟨5, u.yr, (B : Int)⟩ _).mono ?_⟩
  rintro e w2 ⟨rfl, rfl⟩
  simp only
  gi_wp2_with fail
  obtain ⟨W5, hW5⟩ : ∃ W5 : World, W5 = (((((w1.alloc (.cells #[.int .i64 5, .int .i64 u.yr, .int .i64 ((A : Int) + 1)] 27)).alloc (.cells #[.int .i64 5, .int .i64 u.yr, .int .i64 (B : Int)] 27)).alloc (.cells #[.slice none 0 0] 42)).alloc (.cells #[.int .i64 5, .int .i64 u.yr, .int .i64 ((A : Int) + 1)] 27)).alloc (.cells #[.int .i64 5, .int .i64 u.yr, .int .i64 (B : Int)] 27)) := ⟨_, rfl⟩
  have hsz : W5.heap.size = w1.heap.size + 5 := by rw [hW5]; simp
  have s0 : BlkIs W5 (w1.heap.size + 3) #[.int .i64 5, .int .i64 u.yr, .int .i64 ((A : Int) + 1)] 27 := by
    rw [hW5]
    have := (BlkIs.new (((w1.alloc (.cells #[.int .i64 5, .int .i64 u.yr, .int .i64 ((A : Int) + 1)] 27)).alloc (.cells #[.int .i64 5, .int .i64 u.yr, .int .i64 (B : Int)] 27)).alloc (.cells #[.slice none 0 0] 42)) #[.int .i64 5, .int .i64 u.yr, .int .i64 ((A : Int) + 1)] 27).alloc (.cells #[.int .i64 5, .int .i64 u.yr, .int .i64 (B : Int)] 27)
    simpa using this
  have s1 : BlkIs W5 (w1.heap.size + 4) #[.int .i64 5, .int .i64 u.yr, .int .i64 (B : Int)] 27 := by
    rw [hW5]
    have := BlkIs.new ((((w1.alloc (.cells #[.int .i64 5, .int .i64 u.yr, .int .i64 ((A : Int) + 1)] 27)).alloc (.cells #[.int .i64 5, .int .i64 u.yr, .int .i64 (B : Int)] 27)).alloc (.cells #[.slice none 0 0] 42)).alloc (.cells #[.int .i64 5, .int .i64 u.yr, .int .i64 ((A : Int) + 1)] 27)) #[.int .i64 5, .int .i64 u.yr, .int .i64 (B : Int)] 27
    simpa using this
  have sO : Boxed W5 (w1.heap.size + 2) 42 (.slice none 0 0) := by
    rw [hW5]
    have := ((Boxed.new ((w1.alloc (.cells #[.int .i64 5, .int .i64 u.yr, .int .i64 ((A : Int) + 1)] 27)).alloc (.cells #[.int .i64 5, .int .i64 u.yr, .int .i64 (B : Int)] 27)) 42 (.slice none 0 0)).alloc (.cells #[.int .i64 5, .int .i64 u.yr, .int .i64 ((A : Int) + 1)] 27)).alloc (.cells #[.int .i64 5, .int .i64 u.yr, .int .i64 (B : Int)] 27)
    simpa using this
  have hM5 : CmSt c u t w.heap.size W5 := by
    rw [hW5]; exact ((((HM1.out.alloc _).alloc _).alloc _).alloc _).alloc _
  have hz4 : w.heap.size + 4 < w1.heap.size := HM1.out.lt
  have hBW : Below w.heap.size w W5 := by
    have b1 := HB1.out
    rw [hW5]
    refine Below.alloc (Below.alloc (Below.alloc (Below.alloc (Below.alloc b1 ?_ _) ?_ _) ?_ _) ?_ _) ?_ _ <;> first | omega | (simp; omega)
  rw [← hW5]
  clear hW5
  simp only [szA]
  refine wpIn_rangeFunc_ownH (α := Wk ⟨5, u.yr, (A : Int) + 1⟩ (B - A)) rfl (by omega) (gf := 139) (lb := #[.pointer (some ⟨w1.heap.size + 3, 0, none⟩), .pointer (some ⟨w1.heap.size + 4, 0, none⟩)]) rfl trivial (enters_of Tryz.func139 (by kernel_rfl) rfl)
    (weeks_stops ⟨5, u.yr, (A : Int) + 1⟩ ⟨5, u.yr, (B : Int)⟩ (B - A) (by simp only; omega) (by simp only; omega) (w1.heap.size + 3) (w1.heap.size + 4) W5 s0 s1)
    KeepBx.trans (fun W l o o' _ h1 h2 _ => keepBx_putObj W l o o' h1 h2) (Below.refl _ _) (fun _ => rfl)
    (fun (pre : List (Wk ⟨5, u.yr, (A : Int) + 1⟩ (B - A))) W => ((∃ v, Boxed W (w1.heap.size + 2) 42 v ∧ W.ownsRow (w1.heap.size + 2) 27 3 v (cmpL c u.yr t (valW pre)).length (flatU (cmpL c u.yr t (valW pre))) ∧ (v = .slice none 0 0 ↔ cmpL c u.yr t (valW pre) = [])) ∧ CmSt c u t w.heap.size W) ∧ Below w.heap.size w W)
    (fun _ _ _ => False)
    (OwnFrom.and (OwnFrom.and (Own.from (holdsRow_own (w1.heap.size + 2) (w1.heap.size + 2) _ _ 3 (fun (pre : List (Wk ⟨5, u.yr, (A : Int) + 1⟩ (B - A))) => (cmpL c u.yr t (valW pre)).length) (fun pre => flatU (cmpL c u.yr t (valW pre))) (fun pre v => v = .slice none 0 0 ↔ cmpL c u.yr t (valW pre) = [])) _) (Own.from (cmSt_own c u t w.heap.size) _)) (ownFrom_below (Nat.le_refl _) (by omega)))
    (fun _ _ _ _ _ hs _ _ => hs)
    ⟨⟨⟨_, sO, World.ownsRow_nil _ _ _ _, by simp [valW, cmpL]⟩, hM5⟩, hBW⟩
    (AxW (w1.heap.size + 2) ?a1) (fun x a' => axW_own _ _ x a' _)
    ?assign ?body ?done ?stop
  case assign =>
    rintro l pre x W K ⟨⟨⟨v, hv, hrow, hnil⟩, k1⟩, hB⟩ hK
    have hK2 := hide hK
    clear hK
    obtain ⟨Bx, hBx⟩ : ∃ Bx, Bx = W.heap.size := ⟨_, rfl⟩
    simp only [encW, unitV]
    gi_wp2
    rw [← hBx]
    have hK3 := fun a' (h : a' = _) => hK2.out a' _ ((KeepsOthers.alloc _ _).from _) (KeepBx.alloc _ _) ⟨⟨⟨v, hv.alloc _, hrow.alloc _, hnil⟩, k1.alloc _⟩, hB.alloc hB.size _⟩ ⟨Bx, by rw [hBx]; exact hv.lt, by rw [hBx]; exact BlkIs.new W #[.int .i64 x.1.lv, .int .i64 x.1.yr, .int .i64 x.1.ix] 27, h⟩
    have hK4 := hK3 _ rfl
    exact hK4
  case body =>
    rintro l pre ⟨x, hxx⟩ a' W hl ⟨r, hr⟩ ⟨⟨⟨v, hv, hrow, hnil⟩, k1⟩, hB⟩ ⟨Bx, hBx, bX, rfl⟩ hlt
    have hxx2 : ∃ j : Nat, j < B - A ∧ x = (⟨5, u.yr, (A : Int) + 1 + (j : Int)⟩ : Un) := hxx
    obtain ⟨jx, hjx, hxe⟩ := hxx2
    simp only at bX hxe
    have hxi : x.ix = (A : Int) + 1 + jx := by rw [hxe]
    have hbx2 : W.cell? ⟨Bx, 2, none⟩ = some (.int .i64 x.ix) := bX.cell 2
    obtain ⟨q0, q1, q2, q3, q4, q5, q6, q7, q8, q9, q10, q11, q12, q13⟩ := k1.1.cal
    obtain ⟨⟨u0, u1, u2⟩, tt⟩ := k1.un
    have hWz := hB.size
    have hwx := HCW.out x.ix (by omega) (by omega)
    have hcl := cmpL_le c u.yr t (valW pre)
    rw [valW_len] at hcl
    have HKM := hide k1
    have HXE := hide hxe
    have hvl := hv.lt
    have hkl := k1.lt
    clear hxe hxi
    simp only
    gi_wp2_with fail
    refine ⟨trivial, (callsIn_wide.2 (week_any c u.yr t x.ix _ hn)).mono ?_⟩
    rintro e W1 ⟨rfl, hb1⟩
    have HV1 := hide (boxed_call hv hb1)
    have HR1 := hide (owns_call hrow hb1)
    have HM1' := hide (HKM.out.call hb1)
    have HKO1 := hide (keeps_below hb1)
    have HKB1 := hide (KeepBx.below hb1)
    have HBB1 := hide (hB.trans (hb1.mono hWz))
    have hs1 := hb1.size
    clear hb1 u0 u1 u2 tt hbx2
    clear q0 q1 q2 q3 q4 q5 q6 q7 q8 q9 q10 q11 q12 q13
    obtain ⟨cE, hcE⟩ : ∃ cE, cwE c u.yr t x.ix = cE := ⟨_, rfl⟩
    obtain ⟨nV, hnV⟩ : ∃ nV, cwV c u.yr t x.ix = nV := ⟨_, rfl⟩
    rw [hcE, hnV] at hwx
    rw [hcE, hnV]
    have HCE := hide hcE
    have HNV := hide hnV
    clear hcE hnV
    rcases hwx.1 with rfl | rfl
    · obtain ⟨q0, q1, q2, q3, q4, q5, q6, q7, q8, q9, q10, q11, q12, q13⟩ := HM1'.out.1.cal
      obtain ⟨⟨u0, u1, u2⟩, tt⟩ := HM1'.out.un
      have hn0 := hwx.2
      clear hwx
      gi_wp2_with fail
      refine ⟨trivial, (callsIn_wide.2 (HPL.out nV _ hn0.1 hn0.2)).mono ?_⟩
      rintro e W2 ⟨rfl, hb2⟩
      have hv2 := boxed_call HV1.out hb2
      have hrow2 := owns_call HR1.out hb2
      have HM2 := hide (HM1'.out.call hb2)
      have HKO2 := hide (HKO1.out.trans (keeps_below hb2))
      have HKB2 := hide (HKB1.out.trans (KeepBx.below hb2))
      have HBB2 := hide (HBB1.out.trans (hb2.mono (by omega)))
      have hs2 := hb2.size
      clear hb2 u0 u1 u2 tt
      clear q0 q1 q2 q3 q4 q5 q6 q7 q8 q9 q10 q11 q12 q13
      obtain ⟨p, hp⟩ : ∃ p, plU c t nV = p := ⟨_, rfl⟩
      rw [hp]
      have HP := hide hp
      clear hp
      simp only [unitV]
      have hpl : (cmpL c u.yr t (valW pre)).length + 1 ≤ 2000000 := by omega
      have hW2b : w1.heap.size + 2 ≤ W2.heap.size := by omega
      have hc : W2.cell? ⟨w1.heap.size + 1 + 1, 0, none⟩ = some v := hv2.cell
      have hW2c : w1.heap.size + 1 + 1 < W2.heap.size := (Array.getElem?_eq_some_iff.1 (show W2.heap[w1.heap.size + 1 + 1]? = _ from hv2)).1
      gi_wp2_with (gi_at_builtin; refine wpListIn_append_or _ rfl _ _ 42 rfl (w1.heap.size + 2) 27 i0 (.agg #[.int .i64 0, .int .i64 0, .int .i64 0]) 3 24 Tryz.underlying42 hi hi0 hi1 hi2 rfl (by decide) _ _ _ rfl ((hrow2.alloc (.cells #[.int .i64 p.lv, .int .i64 p.yr, .int .i64 p.ix] 27)).alloc (.cells #[.int .i64 p.lv, .int .i64 p.yr, .int .i64 p.ix] 27)) ⟨W2.heap.size + 1, 0, none⟩ 1 1 [.int .i64 p.lv, .int .i64 p.yr, .int .i64 p.ix] rfl rfl (cells_newS _ _ _ _ _ _) (by simp [Value.oneCell']) (by unfold maxLen; omega) (by omega) (by simp; omega) (by omega) ?_; intro v' w6 hown' hgrow hor; obtain ⟨g', cap', rfl⟩ := ownsRow_succ hown'; obtain ⟨hv3, hv4, hr4, hk4, hb4⟩ := (hv2.alloc (.cells #[.int .i64 p.lv, .int .i64 p.yr, .int .i64 p.ix] 27)).appended (by decide) (hrow2.alloc (.cells #[.int .i64 p.lv, .int .i64 p.yr, .int .i64 p.ix] 27)) (by simp; omega) (by omega) hown' hgrow; have hc1 := hv3.cell; have hf1 := hv3.frozen)
      have hbx := app_bx (v' := .slice (some ⟨g', 0, none⟩) ((cmpL c u.yr t (valW pre)).length + 1) cap') (hv2.alloc (.cells #[.int .i64 p.lv, .int .i64 p.yr, .int .i64 p.ix] 27)) (hrow2.alloc (.cells #[.int .i64 p.lv, .int .i64 p.yr, .int .i64 p.ix] 27)) (by rcases Nat.eq_zero_or_pos (cmpL c u.yr t (valW pre)).length with h | h; exact .inl (hnil.2 (List.length_eq_zero_iff.1 h)); exact .inr h) hgrow hor
      have e1 : cmpL c u.yr t (valW pre ++ [x]) = cmpL c u.yr t (valW pre) ++ [p] := by rw [cmpL_yes _ HCE.out, HNV.out, HP.out]
      have hba : Below W2.heap.size W2 (W2.alloc (.cells #[.int .i64 p.lv, .int .i64 p.yr, .int .i64 p.ix] 27)) := (Below.refl _ _).alloc (Nat.le_refl _) _
      refine ⟨((HKO2.out.trans (KeepsOthers.alloc _ _)).trans hk4).from _, (HKB2.out.trans (KeepBx.alloc _ _)).trans hbx, ⟨⟨_, hv4, ?_, ?_⟩, (HM2.out.call hba).below hb4 (by omega)⟩, (HBB2.out.trans (hba.mono (by omega))).trans (hb4.mono (by omega))⟩
      · rw [valW_snoc]
        simp only
        rw [e1, flatU_snoc]
        simpa using hr4
      · rw [valW_snoc]
        simp only
        rw [e1]
        simp
    · gi_wp2
      have e1 : cmpL c u.yr t (valW pre ++ [x]) = cmpL c u.yr t (valW pre) := cmpL_no _ (by rw [HCE.out]; decide)
      refine ⟨HKO1.out.from _, HKB1.out, ⟨⟨v, HV1.out, ?_, ?_⟩, HM1'.out⟩, HBB1.out⟩
      · rw [valW_snoc]
        simp only
        rw [e1]
        exact HR1.out
      · rw [valW_snoc]
        simp only
        rw [e1]
        exact hnil
  case done =>
    rintro D xs W hD hxs ⟨⟨⟨v, hv, hrow, hnil⟩, k1⟩, hB⟩ hK
    rw [show valW xs = wkU ⟨5, u.yr, (A : Int) + 1⟩ (B - A) from hxs] at hrow hnil
    clear hxs
    have hc := hv.cell
    have j1 : BlkIs W (w.heap.size + 1 + 1 + 1) #[.slice none 0 0] 42 := k1.2.2.2.1
    have j2 : BlkIs W (w.heap.size + 1 + 1 + 1 + 1) #[.int .i64 0] 28 := k1.2.2.2.2
    have m1 : W.cell? ⟨w.heap.size + 1 + 1 + 1, 0, none⟩ = some (.slice none 0 0) := j1.cell 0
    have m2 : W.cell? ⟨w.heap.size + 1 + 1 + 1 + 1, 0, none⟩ = some (.int .i64 0) := j2.cell 0
    have f1 : W.frozen? ⟨w.heap.size + 1 + 1 + 1, 0, none⟩ = false := by simp [World.frozen?, show W.heap[w.heap.size + 1 + 1 + 1]? = _ from j1]
    have f2 : W.frozen? ⟨w.heap.size + 1 + 1 + 1 + 1, 0, none⟩ = false := by simp [World.frozen?, show W.heap[w.heap.size + 1 + 1 + 1 + 1]? = _ from j2]
    have HRW := hide hrow
    have HNL := hide hnil
    have HJ1 := hide j1
    have HJ2 := hide j2
    have HK1 := hide k1
    clear hrow hnil hv j1 j2 k1
    obtain ⟨ad, vn, vc, rfl⟩ : ∃ ad n cap, v = .slice ad n cap := by
      rcases HRW.out.2 with ⟨h1, _⟩ | ⟨g', cap', cur, h1, _⟩
      · exact ⟨_, _, _, h1⟩
      · exact ⟨_, _, _, h1⟩
    gi_wp2
    have j1 := HJ1.out
    have j2 := HJ2.out
    have hrow := HRW.out
    have hnil := HNL.out
    have hK2 : ((W.setCell ⟨w.heap.size + 1 + 1 + 1, 0, none⟩ (.slice ad vn vc)).setCell ⟨w.heap.size + 1 + 1 + 1 + 1, 0, none⟩ (.int .i64 0)).heap[D]? = some (.deferred (some [])) := ((KeepsOthers.setCell _ _ _).trans (KeepsOthers.setCell _ _ _)).same _ _ hK rfl
    refine ⟨by simp, .inl ⟨_, _, rfl, run_takeDeferred hK2, ?_⟩⟩
    have hgp := grownBy_putObj' ((W.setCell ⟨w.heap.size + 1 + 1 + 1, 0, none⟩ (.slice ad vn vc)).setCell ⟨w.heap.size + 1 + 1 + 1 + 1, 0, none⟩ (.int .i64 0)) D (.deferred none)
    have i1 := blk_own ((j1.set0 (.slice ad vn vc)).far (p := ⟨w.heap.size + 1 + 1 + 1 + 1, 0, none⟩) (by simp) (.int .i64 0)) hgp (fun r e => by cases e; exact ⟨_, hK2, rfl⟩)
    have i2 := blk_own ((j2.far (p := ⟨w.heap.size + 1 + 1 + 1, 0, none⟩) (by simp) (.slice ad vn vc)).set0 (.int .i64 0)) hgp (fun r e => by cases e; exact ⟨_, hK2, rfl⟩)
    refine ⟨_, res_compared rfl rfl i1 i2, .slice ad vn vc, rfl, ?_, ?_⟩
    · refine twV_of (b := 0) (ownsRow_putObj ?_ _ hK2 rfl) hnil
      have hr1 := hrow.kept (grownBy_setCell' W (w.heap.size + 1 + 1 + 1) (.slice ad vn vc)) (.inr (hv1row hrow j1))
      have hr2 := hr1.kept (grownBy_setCell' _ (w.heap.size + 1 + 1 + 1 + 1) (.int .i64 0)) (.inr (hv1row hr1 (j2.far (p := ⟨w.heap.size + 1 + 1 + 1, 0, none⟩) (by simp) _)))
      exact hr2.base (Nat.zero_le _)
    · exact ((hB.setCell (by simp; omega) _).setCell (by simp; omega) _).trans (belowK_b (w := w) (Nat.le_refl _) _ D _ _ (by omega) hK2 rfl rfl)
  case stop =>
    rintro D cc pre W _ _ h _
    exact h.elim
end Go.Proofs.YtamnccechaooaaaGreat
