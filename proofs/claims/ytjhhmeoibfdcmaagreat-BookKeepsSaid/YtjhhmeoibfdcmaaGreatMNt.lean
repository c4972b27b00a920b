/- Twin, third part: the contract of twin.compared. Twin, plain: a unit compared with its own year, and units of years by months. Twin: spans that rise, and their sums. Twin: the days of a unit, and those with which they are compared. -/
import Derived.Test.YtjhhmeoibfdcmaaGreatMTw
import Derived.Test.YtjhhmeoibfdcmaaGreatMTq
namespace Go.Proofs.YtjhhmeoibfdcmaaGreat
open Go.RowKit Go.Shelf Qd
set_option linter.unusedSimpArgs false
set_option linter.unusedVariables false
attribute [local go_sem] Oper.semAt_some

theorem res_compared {tmps : Array Value} {W : World} {B1 B2 : Nat} {v : Value} {e : Int} (h8 : tmps[6]? = some (.pointer (some ⟨B1, 0, none⟩))) (h9 : tmps[7]? = some (.pointer (some ⟨B2, 0, none⟩)))
    (g1 : BlkIs W B1 #[v] 115) (g2 : BlkIs W B2 #[.int .i64 e] 35) :
    (results Tryz.f192 tmps).run Tryz.prog W = .ok (.tuple #[v, .int .i64 e]) W := by
  have c0 := g1.cell 0
  have c1 := g2.cell 0
  simp at c0 c1
  simp [results, Tryz.results192, go_sem, h8, h9, c0, c1]

/-- What lies in the frame of twin.compared. -/
def CmSt (c : Cal) (u : Un) (t : Int) (B : Nat) (w : World) : Prop := BlkIs w B (calCs c) 24 ∧ BlkIs w (B + 1) #[.int .i64 u.lv, .int .i64 u.yr, .int .i64 u.ix] 26 ∧ BlkIs w (B + 2) #[.int .i64 t] 3 ∧ BlkIs w (B + 3) #[.slice none 0 0] 115 ∧ BlkIs w (B + 4) #[.int .i64 0] 35
theorem CmSt.call {c : Cal} {u : Un} {t : Int} {B : Nat} {w w' : World} (h : CmSt c u t B w) (hb : Below w.heap.size w w') : CmSt c u t B w' := ⟨h.1.call hb, h.2.1.call hb, h.2.2.1.call hb, h.2.2.2.1.call hb, h.2.2.2.2.call hb⟩
theorem CmSt.below {c : Cal} {u : Un} {t : Int} {B K : Nat} {w w' : World} (h : CmSt c u t B w) (hb : Below K w w') (hK : B + 4 < K) : CmSt c u t B w' := ⟨h.1.below hb (by omega), h.2.1.below hb (by omega), h.2.2.1.below hb (by omega), h.2.2.2.1.below hb (by omega), h.2.2.2.2.below hb (by omega)⟩
theorem CmSt.alloc {c : Cal} {u : Un} {t : Int} {B : Nat} {w : World} (h : CmSt c u t B w) (o : Obj) : CmSt c u t B (w.alloc o) := ⟨h.1.alloc o, h.2.1.alloc o, h.2.2.1.alloc o, h.2.2.2.1.alloc o, h.2.2.2.2.alloc o⟩
theorem CmSt.lt {c : Cal} {u : Un} {t : Int} {B : Nat} {w : World} (h : CmSt c u t B w) : B + 4 < w.heap.size := h.2.2.2.2.lt
theorem CmSt.un {c : Cal} {u : Un} {t : Int} {B : Nat} {w : World} (h : CmSt c u t B w) : (w.cell? ⟨B + 1, 0, none⟩ = some (.int .i64 u.lv) ∧ w.cell? ⟨B + 1, 1, none⟩ = some (.int .i64 u.yr) ∧ w.cell? ⟨B + 1, 2, none⟩ = some (.int .i64 u.ix)) ∧ w.cell? ⟨B + 2, 0, none⟩ = some (.int .i64 t) := ⟨⟨h.2.1.cell 0, h.2.1.cell 1, h.2.1.cell 2⟩, h.2.2.1.cell 0⟩
theorem cmSt_new (c : Cal) (u : Un) (t : Int) (w : World) : CmSt c u t w.heap.size (((((w.alloc (.cells (calCs c) 24)).alloc (.cells #[.int .i64 u.lv, .int .i64 u.yr, .int .i64 u.ix] 26)).alloc (.cells #[.int .i64 t] 3)).alloc (.cells #[.slice none 0 0] 115)).alloc (.cells #[.int .i64 0] 35)) := by
  refine ⟨((((BlkIs.new w _ _).alloc _).alloc _).alloc _).alloc _, ?_, ?_, ?_, ?_⟩
  · have := (((BlkIs.new (w.alloc (.cells (calCs c) 24)) #[.int .i64 u.lv, .int .i64 u.yr, .int .i64 u.ix] 26).alloc (.cells #[.int .i64 t] 3)).alloc (.cells #[.slice none 0 0] 115)).alloc (.cells #[.int .i64 0] 35)
    simpa using this
  · have := ((BlkIs.new ((w.alloc (.cells (calCs c) 24)).alloc (.cells #[.int .i64 u.lv, .int .i64 u.yr, .int .i64 u.ix] 26)) #[.int .i64 t] 3).alloc (.cells #[.slice none 0 0] 115)).alloc (.cells #[.int .i64 0] 35)
    simpa using this
  · have := (BlkIs.new (((w.alloc (.cells (calCs c) 24)).alloc (.cells #[.int .i64 u.lv, .int .i64 u.yr, .int .i64 u.ix] 26)).alloc (.cells #[.int .i64 t] 3)) #[.slice none 0 0] 115).alloc (.cells #[.int .i64 0] 35)
    simpa using this
  · have := BlkIs.new ((((w.alloc (.cells (calCs c) 24)).alloc (.cells #[.int .i64 u.lv, .int .i64 u.yr, .int .i64 u.ix] 26)).alloc (.cells #[.int .i64 t] 3)).alloc (.cells #[.slice none 0 0] 115)) #[.int .i64 0] 35
    simpa using this
theorem cmSt_own {β : Type} (c : Cal) (u : Un) (t : Int) (B : Nat) : Own (fun (_ : β) W => CmSt c u t B W) := fun s X Y row h hg hr => ⟨blk_own h.1 hg hr, blk_own h.2.1 hg hr, blk_own h.2.2.1 hg hr, blk_own h.2.2.2.1 hg hr, blk_own h.2.2.2.2 hg hr⟩
theorem szA (w : World) (o : Obj) : (w.alloc o).heap.size = w.heap.size + 1 := by simp

set_option maxRecDepth 100000 in
set_option maxHeartbeats 8000000 in
theorem compared_any (c : Cal) (u : Un) (t : Int) (w : World) (hn : c.name.size ≤ 1000) (hU : unitE c u = 0) (hk6 : c.kind ≠ 6) (ht : srv c t) :
    Calls Tryz.prog 192 #[calV c, unitV u, .int .i64 t] w fun e w' => ∃ v, e = .returned (.tuple #[v, .int .i64 0]) ∧ TwV w' v (cmpL c u.yr t (wksL c u)) ∧ Below w.heap.size w w' := by
  have hf := (un_lv hU).1
  have hA := (un_lv hU).2.2.2.1
  obtain ⟨hok, hk, _, _, hy1, hy2, _⟩ := frame_ok hf
  have hab := cutAB hU
  have hb60 := nWk_bd c _ hA
  have hwk : (nWk c u.yr : Int) = wksV c u.yr := nwk_wks hk hk6 ⟨hy1, hy2⟩
  have HCW := hide (show ∀ x : Int, 1 ≤ x → x ≤ nWk c u.yr → (cwE c u.yr t x = 0 ∨ cwE c u.yr t x = 12) ∧ 0 ≤ cwV c u.yr t x ∧ cwV c u.yr t x ≤ 60 from fun x h1 h2 => ⟨cw_two hk hk6 ⟨hy1, hy2⟩ ht ⟨h1, by omega⟩, cw_bd hk hk6 ⟨hy1, hy2⟩ ht ⟨h1, by omega⟩⟩)
  have HPL := hide (show ∀ (n : Int) (w : World), 0 ≤ n → n ≤ 60 → Calls Tryz.prog 225 #[calV c, .int .i64 t, .int .i64 n] w fun e w' => e = .returned (.tuple #[unitV (plU c t n), .int .i64 0]) ∧ Below w.heap.size w w' from fun n w h1 h2 => tplace_any c t n w hn hk hk6 ht (by omega))
  have hd := dn_5 hU
  have hwl : wksL c u = wkU ⟨5, u.yr, (cutA c u : Int) + 1⟩ (cutB c u - cutA c u) := rfl
  rw [hwl]
  clear hwl
  obtain ⟨i0, hi, hi0, hi1, hi2⟩ := info_parts unit_info
  obtain ⟨A, hAA⟩ : ∃ A, cutA c u = A := ⟨_, rfl⟩
  obtain ⟨B, hBB⟩ : ∃ B, cutB c u = B := ⟨_, rfl⟩
  obtain ⟨N, hNN⟩ : ∃ N, nWk c u.yr = N := ⟨_, rfl⟩
  rw [hAA, hBB] at hd hab ⊢
  rw [hNN] at hab HCW hb60
  have HD := hide hd
  clear hd hU hf hok hk hy1 hy2 ht hA hk6 hwk hAA hBB hNN
  simp only [calV, unitV]
  refine (callsIn_wide (n := 5)).1 ?_
  refine callsIn_of_wp_marks Tryz.func192 rfl trivial ?_ rfl
  simp only [Tryz.ntmps192, List.size_toArray, List.length_cons, List.length_nil, Nat.reduceAdd, Nat.reduceSub, Array.replicate_succ, Array.replicate_zero, List.push_toArray, List.append_toArray, List.nil_append, List.cons_append]
  gi_wp2_with fail
  have HM0 := hide (cmSt_new c u t w)
  have HB0 := hide (show Below w.heap.size w (((((w.alloc (.cells (calCs c) 24)).alloc (.cells #[.int .i64 u.lv, .int .i64 u.yr, .int .i64 u.ix] 26)).alloc (.cells #[.int .i64 t] 3)).alloc (.cells #[.slice none 0 0] 115)).alloc (.cells #[.int .i64 0] 35)) by (repeat' exact bel))
  refine ⟨trivial, (callsIn_wide.2 (down_any c u 5 _ hn)).mono ?_⟩
  rintro e w1 ⟨rfl, hb1⟩
  rw [HD.out.1, HD.out.2.1, HD.out.2.2]
  simp only [unitV]
  have HM1 := hide (HM0.out.call (by exact hb1))
  have HB1 := hide (HB0.out.trans (hb1.mono (by simp; omega)))
  clear hb1
  gi_wp2_with fail
  refine ⟨trivial, (weeks_fn _ ⟨5, u.yr, (A : Int) + 1⟩ ⟨5, u.yr, (B : Int)⟩ _).mono ?_⟩
  rintro e w2 ⟨rfl, rfl⟩
  simp only
  gi_wp2_with fail
  obtain ⟨W5, hW5⟩ : ∃ W5 : World, W5 = (((((w1.alloc (.cells #[.int .i64 5, .int .i64 u.yr, .int .i64 ((A : Int) + 1)] 26)).alloc (.cells #[.int .i64 5, .int .i64 u.yr, .int .i64 (B : Int)] 26)).alloc (.cells #[.slice none 0 0] 115)).alloc (.cells #[.int .i64 5, .int .i64 u.yr, .int .i64 ((A : Int) + 1)] 26)).alloc (.cells #[.int .i64 5, .int .i64 u.yr, .int .i64 (B : Int)] 26)) := ⟨_, rfl⟩
  have hsz : W5.heap.size = w1.heap.size + 5 := by rw [hW5]; simp
  have s0 : BlkIs W5 (w1.heap.size + 3) #[.int .i64 5, .int .i64 u.yr, .int .i64 ((A : Int) + 1)] 26 := by
    rw [hW5]
    have := (BlkIs.new (((w1.alloc (.cells #[.int .i64 5, .int .i64 u.yr, .int .i64 ((A : Int) + 1)] 26)).alloc (.cells #[.int .i64 5, .int .i64 u.yr, .int .i64 (B : Int)] 26)).alloc (.cells #[.slice none 0 0] 115)) #[.int .i64 5, .int .i64 u.yr, .int .i64 ((A : Int) + 1)] 26).alloc (.cells #[.int .i64 5, .int .i64 u.yr, .int .i64 (B : Int)] 26)
    simpa using this
  have s1 : BlkIs W5 (w1.heap.size + 4) #[.int .i64 5, .int .i64 u.yr, .int .i64 (B : Int)] 26 := by
    rw [hW5]
    have := BlkIs.new ((((w1.alloc (.cells #[.int .i64 5, .int .i64 u.yr, .int .i64 ((A : Int) + 1)] 26)).alloc (.cells #[.int .i64 5, .int .i64 u.yr, .int .i64 (B : Int)] 26)).alloc (.cells #[.slice none 0 0] 115)).alloc (.cells #[.int .i64 5, .int .i64 u.yr, .int .i64 ((A : Int) + 1)] 26)) #[.int .i64 5, .int .i64 u.yr, .int .i64 (B : Int)] 26
    simpa using this
  have sO : Boxed W5 (w1.heap.size + 2) 115 (.slice none 0 0) := by
    rw [hW5]
    have := ((Boxed.new ((w1.alloc (.cells #[.int .i64 5, .int .i64 u.yr, .int .i64 ((A : Int) + 1)] 26)).alloc (.cells #[.int .i64 5, .int .i64 u.yr, .int .i64 (B : Int)] 26)) 115 (.slice none 0 0)).alloc (.cells #[.int .i64 5, .int .i64 u.yr, .int .i64 ((A : Int) + 1)] 26)).alloc (.cells #[.int .i64 5, .int .i64 u.yr, .int .i64 (B : Int)] 26)
    simpa using this
  have hM5 : CmSt c u t w.heap.size W5 := by
    rw [hW5]; exact ((((HM1.out.alloc _).alloc _).alloc _).alloc _).alloc _
  have hz4 : w.heap.size + 4 < w1.heap.size := HM1.out.lt
  have hBW : Below w.heap.size w W5 := by
    have b1 := HB1.out
    rw [hW5]
    refine Below.alloc (Below.alloc (Below.alloc (Below.alloc (Below.alloc b1 ?_ _) ?_ _) ?_ _) ?_ _) ?_ _ <;> first | omega | (simp; omega)
  rw [← hW5]
  clear hW5
  simp only [szA]
  refine wpIn_rangeFunc_ownH (α := Wk ⟨5, u.yr, (A : Int) + 1⟩ (B - A)) rfl (by omega) (gf := 236) (lb := #[.pointer (some ⟨w1.heap.size + 3, 0, none⟩), .pointer (some ⟨w1.heap.size + 4, 0, none⟩)]) rfl trivial (enters_of Tryz.func236 (by kernel_rfl) rfl)
    (weeks_stops ⟨5, u.yr, (A : Int) + 1⟩ ⟨5, u.yr, (B : Int)⟩ (B - A) (by simp only; omega) (by simp only; omega) (w1.heap.size + 3) (w1.heap.size + 4) W5 s0 s1)
    KeepBx.trans (fun W l o o' _ h1 h2 _ => keepBx_putObj W l o o' h1 h2) (Below.refl _ _) (fun _ => rfl)
    (fun (pre : List (Wk ⟨5, u.yr, (A : Int) + 1⟩ (B - A))) W => ((∃ v, Boxed W (w1.heap.size + 2) 115 v ∧ W.ownsRow (w1.heap.size + 2) 26 3 v (cmpL c u.yr t (valW pre)).length (flatU (cmpL c u.yr t (valW pre))) ∧ (v = .slice none 0 0 ↔ cmpL c u.yr t (valW pre) = [])) ∧ CmSt c u t w.heap.size W) ∧ Below w.heap.size w W)
    (fun _ _ _ => False)
    (OwnFrom.and (OwnFrom.and (Own.from (holdsRow_own (w1.heap.size + 2) (w1.heap.size + 2) _ _ 3 (fun (pre : List (Wk ⟨5, u.yr, (A : Int) + 1⟩ (B - A))) => (cmpL c u.yr t (valW pre)).length) (fun pre => flatU (cmpL c u.yr t (valW pre))) (fun pre v => v = .slice none 0 0 ↔ cmpL c u.yr t (valW pre) = [])) _) (Own.from (cmSt_own c u t w.heap.size) _)) (ownFrom_below (Nat.le_refl _) (by omega)))
    (fun _ _ _ _ _ hs _ _ => hs)
    ⟨⟨⟨_, sO, World.ownsRow_nil _ _ _ _, by simp [valW, cmpL]⟩, hM5⟩, hBW⟩
    (AxW (w1.heap.size + 2) ?a1) (fun x a' => axW_own _ _ x a' _)
    ?assign ?body ?done ?stop
  case assign =>
    rintro l pre x W K ⟨⟨⟨v, hv, hrow, hnil⟩, k1⟩, hB⟩ hK
    have hK2 := hide hK
    clear hK
    obtain ⟨Bx, hBx⟩ : ∃ Bx, Bx = W.heap.size := ⟨_, rfl⟩
    simp only [encW, unitV]
    gi_wp2
    rw [← hBx]
    have hK3 := fun a' (h : a' = _) => hK2.out a' _ ((KeepsOthers.alloc _ _).from _) (KeepBx.alloc _ _) ⟨⟨⟨v, hv.alloc _, hrow.alloc _, hnil⟩, k1.alloc _⟩, hB.alloc hB.size _⟩ ⟨Bx, by rw [hBx]; exact hv.lt, by rw [hBx]; exact BlkIs.new W #[.int .i64 x.1.lv, .int .i64 x.1.yr, .int .i64 x.1.ix] 26, h⟩
    have hK4 := hK3 _ rfl
    exact hK4
  case body =>
    rintro l pre ⟨x, hxx⟩ a' W hl ⟨r, hr⟩ ⟨⟨⟨v, hv, hrow, hnil⟩, k1⟩, hB⟩ ⟨Bx, hBx, bX, rfl⟩ hlt
    have hxx2 : ∃ j : Nat, j < B - A ∧ x = (⟨5, u.yr, (A : Int) + 1 + (j : Int)⟩ : Un) := hxx
    obtain ⟨jx, hjx, hxe⟩ := hxx2
    simp only at bX hxe
    have hxi : x.ix = (A : Int) + 1 + jx := by rw [hxe]
    have hbx2 : W.cell? ⟨Bx, 2, none⟩ = some (.int .i64 x.ix) := bX.cell 2
    obtain ⟨q0, q1, q2, q3, q4, q5, q6, q7, q8, q9, q10, q11, q12, q13⟩ := k1.1.cal
    obtain ⟨⟨u0, u1, u2⟩, tt⟩ := k1.un
    have hWz := hB.size
    have hwx := HCW.out x.ix (by omega) (by omega)
    have hcl := cmpL_le c u.yr t (valW pre)
    rw [valW_len] at hcl
    have HKM := hide k1
    have HXE := hide hxe
    have hvl := hv.lt
    have hkl := k1.lt
    clear hxe hxi
    simp only
    gi_wp2_with fail
    refine ⟨trivial, (callsIn_wide.2 (week_any c u.yr t x.ix _ hn)).mono ?_⟩
    rintro e W1 ⟨rfl, hb1⟩
    have HV1 := hide (boxed_call hv hb1)
    have HR1 := hide (owns_call hrow hb1)
    have HM1' := hide (HKM.out.call hb1)
    have HKO1 := hide (keeps_below hb1)
    have HKB1 := hide (KeepBx.below hb1)
    have HBB1 := hide (hB.trans (hb1.mono hWz))
    have hs1 := hb1.size
    clear hb1 u0 u1 u2 tt hbx2
    clear q0 q1 q2 q3 q4 q5 q6 q7 q8 q9 q10 q11 q12 q13
    obtain ⟨cE, hcE⟩ : ∃ cE, cwE c u.yr t x.ix = cE := ⟨_, rfl⟩
    obtain ⟨nV, hnV⟩ : ∃ nV, cwV c u.yr t x.ix = nV := ⟨_, rfl⟩
    rw [hcE, hnV] at hwx
    rw [hcE, hnV]
    have HCE := hide hcE
    have HNV := hide hnV
    clear hcE hnV
    rcases hwx.1 with rfl | rfl
    · obtain ⟨q0, q1, q2, q3, q4, q5, q6, q7, q8, q9, q10, q11, q12, q13⟩ := HM1'.out.1.cal
      obtain ⟨⟨u0, u1, u2⟩, tt⟩ := HM1'.out.un
      have hn0 := hwx.2
      clear hwx
      gi_wp2_with fail
      refine ⟨trivial, (callsIn_wide.2 (HPL.out nV _ hn0.1 hn0.2)).mono ?_⟩
      rintro e W2 ⟨rfl, hb2⟩
      have hv2 := boxed_call HV1.out hb2
      have hrow2 := owns_call HR1.out hb2
      have HM2 := hide (HM1'.out.call hb2)
      have HKO2 := hide (HKO1.out.trans (keeps_below hb2))
      have HKB2 := hide (HKB1.out.trans (KeepBx.below hb2))
      have HBB2 := hide (HBB1.out.trans (hb2.mono (by omega)))
      have hs2 := hb2.size
      clear hb2 u0 u1 u2 tt
      clear q0 q1 q2 q3 q4 q5 q6 q7 q8 q9 q10 q11 q12 q13
      obtain ⟨p, hp⟩ : ∃ p, plU c t nV = p := ⟨_, rfl⟩
      rw [hp]
      have HP := hide hp
      clear hp
      simp only [unitV]
      have hpl : (cmpL c u.yr t (valW pre)).length + 1 ≤ 2000000 := by omega
      have hW2b : w1.heap.size + 2 ≤ W2.heap.size := by omega
      have hc : W2.cell? ⟨w1.heap.size + 1 + 1, 0, none⟩ = some v := hv2.cell
      have hW2c : w1.heap.size + 1 + 1 < W2.heap.size := (Array.getElem?_eq_some_iff.1 (show W2.heap[w1.heap.size + 1 + 1]? = _ from hv2)).1
      gi_wp2_with (gi_at_builtin; refine wpListIn_append_or _ rfl _ _ 115 rfl (w1.heap.size + 2) 26 i0 (.agg #[.int .i64 0, .int .i64 0, .int .i64 0]) 3 24 Tryz.underlying115 hi hi0 hi1 hi2 rfl (by decide) _ _ _ rfl ((hrow2.alloc (.cells #[.int .i64 p.lv, .int .i64 p.yr, .int .i64 p.ix] 26)).alloc (.cells #[.int .i64 p.lv, .int .i64 p.yr, .int .i64 p.ix] 26)) ⟨W2.heap.size + 1, 0, none⟩ 1 1 [.int .i64 p.lv, .int .i64 p.yr, .int .i64 p.ix] rfl rfl (cells_newS _ _ _ _ _ _) (by simp [Value.oneCell']) (by unfold maxLen; omega) (by omega) (by simp; omega) (by omega) ?_; intro v' w6 hown' hgrow hor; obtain ⟨g', cap', rfl⟩ := ownsRow_succ hown'; obtain ⟨hv3, hv4, hr4, hk4, hb4⟩ := (hv2.alloc (.cells #[.int .i64 p.lv, .int .i64 p.yr, .int .i64 p.ix] 26)).appended (by decide) (hrow2.alloc (.cells #[.int .i64 p.lv, .int .i64 p.yr, .int .i64 p.ix] 26)) (by simp; omega) (by omega) hown' hgrow; have hc1 := hv3.cell; have hf1 := hv3.frozen)
      have hbx := app_bx (v' := .slice (some ⟨g', 0, none⟩) ((cmpL c u.yr t (valW pre)).length + 1) cap') (hv2.alloc (.cells #[.int .i64 p.lv, .int .i64 p.yr, .int .i64 p.ix] 26)) (hrow2.alloc (.cells #[.int .i64 p.lv, .int .i64 p.yr, .int .i64 p.ix] 26)) (by rcases Nat.eq_zero_or_pos (cmpL c u.yr t (valW pre)).length with h | h; exact .inl (hnil.2 (List.length_eq_zero_iff.1 h)); exact .inr h) hgrow hor
      have e1 : cmpL c u.yr t (valW pre ++ [x]) = cmpL c u.yr t (valW pre) ++ [p] := by rw [cmpL_yes _ HCE.out, HNV.out, HP.out]
      have hba : Below W2.heap.size W2 (W2.alloc (.cells #[.int .i64 p.lv, .int .i64 p.yr, .int .i64 p.ix] 26)) := (Below.refl _ _).alloc (Nat.le_refl _) _
      refine ⟨((HKO2.out.trans (KeepsOthers.alloc _ _)).trans hk4).from _, (HKB2.out.trans (KeepBx.alloc _ _)).trans hbx, ⟨⟨_, hv4, ?_, ?_⟩, (HM2.out.call hba).below hb4 (by omega)⟩, (HBB2.out.trans (hba.mono (by omega))).trans (hb4.mono (by omega))⟩
      · rw [valW_snoc]
        simp only
        rw [e1, flatU_snoc]
        simpa using hr4
      · rw [valW_snoc]
        simp only
        rw [e1]
        simp
    · gi_wp2
      have e1 : cmpL c u.yr t (valW pre ++ [x]) = cmpL c u.yr t (valW pre) := cmpL_no _ (by rw [HCE.out]; decide)
      refine ⟨HKO1.out.from _, HKB1.out, ⟨⟨v, HV1.out, ?_, ?_⟩, HM1'.out⟩, HBB1.out⟩
      · rw [valW_snoc]
        simp only
        rw [e1]
        exact HR1.out
      · rw [valW_snoc]
        simp only
        rw [e1]
        exact hnil
  case done =>
    rintro D xs W hD hxs ⟨⟨⟨v, hv, hrow, hnil⟩, k1⟩, hB⟩ hK
    rw [show valW xs = wkU ⟨5, u.yr, (A : Int) + 1⟩ (B - A) from hxs] at hrow hnil
    clear hxs
    have hc := hv.cell
    have j1 : BlkIs W (w.heap.size + 1 + 1 + 1) #[.slice none 0 0] 115 := k1.2.2.2.1
    have j2 : BlkIs W (w.heap.size + 1 + 1 + 1 + 1) #[.int .i64 0] 35 := k1.2.2.2.2
    have m1 : W.cell? ⟨w.heap.size + 1 + 1 + 1, 0, none⟩ = some (.slice none 0 0) := j1.cell 0
    have m2 : W.cell? ⟨w.heap.size + 1 + 1 + 1 + 1, 0, none⟩ = some (.int .i64 0) := j2.cell 0
    have f1 : W.frozen? ⟨w.heap.size + 1 + 1 + 1, 0, none⟩ = false := by simp [World.frozen?, show W.heap[w.heap.size + 1 + 1 + 1]? = _ from j1]
    have f2 : W.frozen? ⟨w.heap.size + 1 + 1 + 1 + 1, 0, none⟩ = false := by simp [World.frozen?, show W.heap[w.heap.size + 1 + 1 + 1 + 1]? = _ from j2]
    have HRW := hide hrow
    have HNL := hide hnil
    have HJ1 := hide j1
    have HJ2 := hide j2
    have HK1 := hide k1
    clear hrow hnil hv j1 j2 k1
    obtain ⟨ad, vn, vc, rfl⟩ : ∃ ad n cap, v = .slice ad n cap := by
      rcases HRW.out.2 with ⟨h1, _⟩ | ⟨g', cap', cur, h1, _⟩
      · exact ⟨_, _, _, h1⟩
      · exact ⟨_, _, _, h1⟩
    gi_wp2
    have j1 := HJ1.out
    have j2 := HJ2.out
    have hrow := HRW.out
    have hnil := HNL.out
    have hK2 : ((W.setCell ⟨w.heap.size + 1 + 1 + 1, 0, none⟩ (.slice ad vn vc)).setCell ⟨w.heap.size + 1 + 1 + 1 + 1, 0, none⟩ (.int .i64 0)).heap[D]? = some (.deferred (some [])) := ((KeepsOthers.setCell _ _ _).trans (KeepsOthers.setCell _ _ _)).same _ _ hK rfl
    refine ⟨by simp, .inl ⟨_, _, rfl, run_takeDeferred hK2, ?_⟩⟩
    have hgp := grownBy_putObj' ((W.setCell ⟨w.heap.size + 1 + 1 + 1, 0, none⟩ (.slice ad vn vc)).setCell ⟨w.heap.size + 1 + 1 + 1 + 1, 0, none⟩ (.int .i64 0)) D (.deferred none)
    have i1 := blk_own ((j1.set0 (.slice ad vn vc)).far (p := ⟨w.heap.size + 1 + 1 + 1 + 1, 0, none⟩) (by simp) (.int .i64 0)) hgp (fun r e => by cases e; exact ⟨_, hK2, rfl⟩)
    have i2 := blk_own ((j2.far (p := ⟨w.heap.size + 1 + 1 + 1, 0, none⟩) (by simp) (.slice ad vn vc)).set0 (.int .i64 0)) hgp (fun r e => by cases e; exact ⟨_, hK2, rfl⟩)
    refine ⟨_, res_compared rfl rfl i1 i2, .slice ad vn vc, rfl, ?_, ?_⟩
    · refine twV_of (b := 0) (ownsRow_putObj ?_ _ hK2 rfl) hnil
      have hr1 := hrow.kept (grownBy_setCell' W (w.heap.size + 1 + 1 + 1) (.slice ad vn vc)) (.inr (hv1row hrow j1))
      have hr2 := hr1.kept (grownBy_setCell' _ (w.heap.size + 1 + 1 + 1 + 1) (.int .i64 0)) (.inr (hv1row hr1 (j2.far (p := ⟨w.heap.size + 1 + 1 + 1, 0, none⟩) (by simp) _)))
      exact hr2.base (Nat.zero_le _)
    · exact ((hB.setCell (by simp; omega) _).setCell (by simp; omega) _).trans (belowK_b (w := w) (Nat.le_refl _) _ D _ _ (by omega) hK2 rfl rfl)
  case stop =>
    rintro D cc pre W _ _ h _
    exact h.elim
end Go.Proofs.YtjhhmeoibfdcmaaGreat

namespace Go.Proofs.YtjhhmeoibfdcmaaGreat
open Go.RowKit Qd
set_option linter.unusedSimpArgs false
set_option linter.unusedVariables false

/-- The weeks of a unit are together its days. -/
theorem wks_run {c : Cal} {v : Un} (hv : unitE c v = 0) : runsL ((wksL c v).map (spV c)) = [spV c v] ∧ 0 < (wksL c v).length ∧ inB c (wksL c v) = true := by
  obtain ⟨hf, l1, l5, hA, hx, hi⟩ := un_lv hv
  obtain ⟨hok, hk, _, _, hy1, hy2, _⟩ := frame_ok hf
  have hab := cutAB hv
  have hf5 : frameE c 5 v.yr = 0 := srv_frame hk ⟨hy1, hy2⟩ (by decide) (by decide)
  obtain ⟨q1, q2⟩ := wk_map (cutA c v) (cutB c v - cutA c v) hf5 (by omega)
  refine ⟨?_, by rw [wksL, wkU_len]; omega, ?_⟩
  · rw [wksL, q1, adjS, runs_one _ _ (by omega), sp_get hv]
    simp only [Nat.add_zero]
    rw [show cutA c v + (cutB c v - cutA c v) = cutB c v by omega]
  · refine List.all_eq_true.2 fun w hw => ?_
    obtain ⟨j, hj, rfl⟩ := List.mem_map.1 hw
    simp [hy1, hy2]
theorem cmp_self {c : Cal} {u : Un} (hU : unitE c u = 0) (hk6 : c.kind ≠ 6) : cmpL c u.yr u.yr (wksL c u) = wksL c u := by
  obtain ⟨hf, l1, l5, hA, hx, hi⟩ := un_lv hU
  obtain ⟨hok, hk, _, _, hy1, hy2, _⟩ := frame_ok hf
  have hy : srv c u.yr := ⟨hy1, hy2⟩
  have hab := cutAB hU
  have hw := nwk_wks hk hk6 hy
  rcases cmp_shape hU hk6 hy with ⟨s, _, _, h, e2, _⟩ | ⟨a, _, _, _, h1, h2, _⟩ | ⟨a, _, _, _, h1, h2, _⟩
  · have hx1 := h ((cutA c u : Int) + 1) (by omega) (by omega)
    have hs : s = 0 := by
      rcases cw_shift hk hk6 hy hy (x := (cutA c u : Int) + 1) ⟨by omega, by omega⟩ with g | g | g | g | g | g <;> omega
    subst hs
    rw [e2, segL, wksL, wkU]
    refine upto_congr fun j hj => ?_
    rw [plU, if_neg (by omega), if_pos (by omega)]
    simp only [Un.mk.injEq, true_and]
    omega
  · omega
  · omega
theorem mon_self {c : Cal} {u : Un} (hU : unitE c u = 0) : monthL c u u.yr = wksL c u := by
  obtain ⟨hf, l1, l5, hA, hx, hi⟩ := un_lv hU
  obtain ⟨hok, hk, _, _, hy1, hy2, _⟩ := frame_ok hf
  unfold monthL
  by_cases h5 : u.lv = 5
  · rw [if_pos h5]
    obtain ⟨i, e1, e0, hg, hgt, e3, e4, e5, e6⟩ := mon_week (t := u.yr) hU ⟨hy1, hy2⟩ h5
    rw [e1]
    simp only
    rw [wksL, show ((cutA c ⟨4, u.yr, (i : Int) + 1⟩ : Int) + 1 + (u.ix - ((cutA c ⟨4, u.yr, (i : Int) + 1⟩ : Int) + 1))) = (cutA c u : Int) + 1 by omega, show (min (cutB c ⟨4, u.yr, (i : Int) + 1⟩ : Int) ((cutA c u : Int) + 1) + 1 - ((cutA c u : Int) + 1)).toNat = cutB c u - cutA c u by omega]
  · rw [if_neg h5]
/-- In its own year a unit is compared with itself. -/
theorem tw_self {c : Cal} {u : Un} (hU : unitE c u = 0) : twE c u 0 = 0 ∧ rnL c u 0 = [spV c u] := by
  obtain ⟨hf, l1, l5, hA, hx, hi⟩ := un_lv hU
  obtain ⟨hok, hk, _, _, hy1, hy2, _⟩ := frame_ok hf
  obtain ⟨w1, w2, w3⟩ := wks_run hU
  have e : twL0 c u 0 = wksL c u := by
    rw [twL0, Int.add_zero]
    split
    · exact mon_self hU
    · rename_i h6; exact cmp_self hU h6
  have hE : twE c u 0 = 0 := by
    rw [twE, if_pos hU, if_pos ⟨by omega, by omega⟩, e, if_pos w3, if_neg (by omega)]
  refine ⟨hE, ?_⟩
  rw [rnL, (tw_ok hE).2.2.2.2, e, w1]
/-- By months a unit is compared with that of the same number, a week with that of its place. -/
theorem mon_run {c : Cal} {u : Un} {k : Int} (h : twE c u k = 0) (h6 : c.kind = 6) :
    (¬ u.lv = 5 ∧ unitE c ⟨u.lv, u.yr + k, u.ix⟩ = 0 ∧ rnL c u k = [spV c ⟨u.lv, u.yr + k, u.ix⟩]) ∨
    (u.lv = 5 ∧ ∃ i : Nat, upV c u 4 = ⟨4, u.yr, (i : Int) + 1⟩ ∧ upE c u 4 = 0 ∧ unitE c ⟨4, u.yr, (i : Int) + 1⟩ = 0 ∧ unitE c ⟨4, u.yr + k, (i : Int) + 1⟩ = 0 ∧
      unitE c ⟨5, u.yr + k, u.ix - ((cutA c ⟨4, u.yr, (i : Int) + 1⟩ : Int) + 1) + ((cutA c ⟨4, u.yr + k, (i : Int) + 1⟩ : Int) + 1)⟩ = 0 ∧
      rnL c u k = [spV c ⟨5, u.yr + k, u.ix - ((cutA c ⟨4, u.yr, (i : Int) + 1⟩ : Int) + 1) + ((cutA c ⟨4, u.yr + k, (i : Int) + 1⟩ : Int) + 1)⟩]) := by
  obtain ⟨hU, ht, hin, hlen, hL⟩ := tw_ok h
  obtain ⟨hf, l1, l5, hA, hx, hi⟩ := un_lv hU
  obtain ⟨hok, hk, _, _, hy1, hy2, _⟩ := frame_ok hf
  have hst : srv c (u.yr + k) := ht
  have e : twL0 c u k = monthL c u (u.yr + k) := by rw [twL0, if_pos h6]
  rw [e] at hlen hL
  by_cases h5 : u.lv = 5
  · right
    obtain ⟨i, e1, e0, hg, hgt, e3, e4, e5, e6⟩ := mon_week hU hst h5
    refine ⟨h5, i, e1, e0, hg, hgt, ?_⟩
    have hb := cutAB hgt
    simp only at hb
    have hm : monthL c u (u.yr + k) = wkU ⟨5, u.yr + k, (cutA c ⟨4, u.yr + k, (i : Int) + 1⟩ : Int) + 1 + (u.ix - ((cutA c ⟨4, u.yr, (i : Int) + 1⟩ : Int) + 1))⟩ (min (cutB c ⟨4, u.yr + k, (i : Int) + 1⟩ : Int) ((cutA c ⟨4, u.yr + k, (i : Int) + 1⟩ : Int) + 1 + (u.ix - ((cutA c ⟨4, u.yr, (i : Int) + 1⟩ : Int) + 1))) + 1 - ((cutA c ⟨4, u.yr + k, (i : Int) + 1⟩ : Int) + 1 + (u.ix - ((cutA c ⟨4, u.yr, (i : Int) + 1⟩ : Int) + 1)))).toNat := by rw [monthL, if_pos h5, e1]
    rw [hm] at hlen hL
    rw [wkU_len] at hlen
    generalize hA1 : cutA c ⟨4, u.yr + k, (i : Int) + 1⟩ = A1 at *
    generalize hA0 : cutA c ⟨4, u.yr, (i : Int) + 1⟩ = A0 at *
    generalize hB1 : cutB c ⟨4, u.yr + k, (i : Int) + 1⟩ = B1 at *
    obtain ⟨j, hj⟩ : ∃ j : Nat, (A1 : Int) + 1 + (u.ix - ((A0 : Int) + 1)) = (j : Int) + 1 := ⟨A1 + (cutA c u - A0), by omega⟩
    rw [show u.ix - ((A0 : Int) + 1) + ((A1 : Int) + 1) = (j : Int) + 1 by omega]
    rw [hj] at hL hlen
    have hm1 : (min (B1 : Int) ((j : Int) + 1) + 1 - ((j : Int) + 1)).toNat = 1 := by omega
    rw [hm1] at hL
    have hjn : j < nWk c (u.yr + k) := by omega
    have hs := wk_span (srv_frame hk hst (by decide) (by decide) : frameE c 5 (u.yr + k) = 0) j hjn
    refine ⟨hs.1, ?_⟩
    rw [rnL, hL]
    simp [wkU, upto, runsL, runAdd]
  · left
    have hU2 := mon_same hU hst h5
    obtain ⟨w1, _, _⟩ := wks_run hU2
    refine ⟨h5, hU2, ?_⟩
    rw [rnL, hL, monthL, if_neg h5, w1]
theorem unit_codes (c : Cal) (u : Un) : unitE c u = 0 ∨ unitE c u = 13 ∨ unitE c u = 11 ∨ unitE c u = 1 := by
  unfold unitE frameE
  repeat' split
  all_goals omega
/-- By months only a week may have none. -/
theorem mon_gone {c : Cal} {u : Un} {k : Int} (h6 : c.kind = 6) (h : twE c u k = 12) : u.lv = 5 := by
  by_cases hU : unitE c u = 0
  · by_cases ht : c.first ≤ u.yr + k ∧ u.yr + k ≤ c.last
    · by_cases h5 : u.lv = 5
      · exact h5
      · have hU2 := mon_same hU (show srv c (u.yr + k) from ht) h5
        obtain ⟨_, w2, _⟩ := wks_run hU2
        rw [twE, if_pos hU, if_pos ht] at h
        have e : twL0 c u k = wksL c ⟨u.lv, u.yr + k, u.ix⟩ := by rw [twL0, if_pos h6, monthL, if_neg h5]
        rw [e, if_neg (show ¬ (wksL c ⟨u.lv, u.yr + k, u.ix⟩).length = 0 by omega)] at h
        split at h <;> omega
    · rw [twE, if_pos hU, if_neg ht] at h; omega
  · rw [twE, if_neg hU] at h
    have := unit_codes c u
    omega
/-- How many weeks a unit is compared with. -/
theorem tw_count {c : Cal} {u : Un} {k : Int} (h : twE c u k = 0) (hk6 : c.kind ≠ 6) :
    (c.policy = 3 ∧ 0 < addedV c u.yr ∧ addedV c (u.yr + k) = 0 ∧ (cutA c u : Int) + 1 ≤ addedV c u.yr ∧ addedV c u.yr ≤ cutB c u ∧ ((twL c u k).length : Int) = (cutB c u : Int) - cutA c u - 1) ∨
    (¬ (c.policy = 3 ∧ 0 < addedV c u.yr ∧ addedV c (u.yr + k) = 0 ∧ (cutA c u : Int) + 1 ≤ addedV c u.yr ∧ addedV c u.yr ≤ cutB c u) ∧ ((twL c u k).length : Int) = (cutB c u : Int) - cutA c u) := by
  obtain ⟨hU, ht, hin, hlen, hL⟩ := tw_ok h
  obtain ⟨hf, l1, l5, hA, hx, hi⟩ := un_lv hU
  obtain ⟨hok, hk, _, _, hy1, hy2, _⟩ := frame_ok hf
  have hst : srv c (u.yr + k) := ht
  have hab := cutAB hU
  have ad := added_two hk hk6 ⟨hy1, hy2⟩ hst
  have e : twL0 c u k = cmpL c u.yr (u.yr + k) (wksL c u) := by rw [twL0, if_neg hk6]
  rw [hL, e]
  rcases cmp_shape hU hk6 hst with ⟨s, s1, s2, _, e2, hno⟩ | ⟨a, a1, a2, p, wy, wt, rfl, _, _, e2⟩ | ⟨a, a1, a2, p, wy, wt, rfl, _, e2⟩
  · right
    rw [e2, segL_len]
    refine ⟨fun hq => ?_, by omega⟩
    omega
  · left
    rw [e2, segL_len]
    omega
  · right
    rw [e2, List.length_append, segL_len, segL_len]
    refine ⟨fun hq => ?_, by omega⟩
    omega

/-- The runs of days of a unit of a year of weeks. -/
theorem tw_week {c : Cal} {u : Un} {k : Int} (h : twE c u k = 0) (hk6 : c.kind ≠ 6) :
    ∃ (a b : Int) (m n : Nat), 0 < m ∧ m + n ≤ 60 ∧ (twL c u k).length = m + n ∧ (rnL c u k = if n = 0 then [⟨a, a + 7 * m - 1⟩] else [⟨a, a + 7 * m - 1⟩, ⟨b, b + 7 * n - 1⟩]) ∧ (0 < n → a + 7 * m < b) ∧ 0 ≤ a ∧ a ≤ 3068037 ∧ (0 < n → b ≤ 3068037) := by
  obtain ⟨hU, ht, hin, hlen, hL⟩ := tw_ok h
  obtain ⟨hf, l1, l5, hA, hx, hi⟩ := un_lv hU
  obtain ⟨hok, hk, _, _, hy1, hy2, _⟩ := frame_ok hf
  have hst : srv c (u.yr + k) := ht
  have hab := cutAB hU
  have hb60 := nWk_bd c _ hA
  have e : twL0 c u k = cmpL c u.yr (u.yr + k) (wksL c u) := by rw [twL0, if_neg hk6]
  have key : ∀ (n : Int) (m : Nat), 0 < m → (∀ w ∈ segL c (u.yr + k) n m, w ∈ twL c u k) → -40 ≤ n ∧ n + m ≤ 100 → 0 ≤ startV c (u.yr + k) + 7 * (n - 1) ∧ startV c (u.yr + k) + 7 * (n - 1) ≤ 3068037 := by
    intro n m hm hmem hn
    have hw : plU c (u.yr + k) n ∈ segL c (u.yr + k) n m := List.mem_map.2 ⟨0, List.mem_range.2 hm, by simp⟩
    have hz : srv c (plU c (u.yr + k) n).yr := inB_mem hin (by rw [← hL]; exact hmem _ hw)
    obtain ⟨p1, _, p2⟩ := pl_span hk hk6 hst (n := n) (by omega) hz
    have := sp_bd2 p1
    rw [p2] at this
    simp only at this
    omega
  rw [rnL]
  rw [hL] at key ⊢
  rw [e] at hlen hin key ⊢
  rcases cmp_shape hU hk6 hst with ⟨s, s1, s2, _, e2, _⟩ | ⟨a, a1, a2, _, _, _, _, _, _, e2⟩ | ⟨a, a1, a2, _, _, _, _, _, e2⟩
  · rw [e2] at hlen hin key ⊢
    rw [segL_len] at hlen ⊢
    obtain ⟨q1, q2⟩ := seg_map (n := (cutA c u : Int) + 1 + s) (cutB c u - cutA c u) hk hk6 hst (by omega) (fun w hw => inB_mem hin hw)
    have hb := key _ _ hlen (fun w hw => hw) (by omega)
    refine ⟨startV c (u.yr + k) + 7 * ((cutA c u : Int) + 1 + s - 1), 0, _, 0, hlen, by omega, rfl, ?_, fun h0 => absurd h0 (by omega), hb.1, hb.2, fun h0 => absurd h0 (by omega)⟩
    rw [q1, if_pos rfl, adjS, runs_one _ _ hlen]
    simp only [List.cons.injEq, Sp.mk.injEq, and_true]
    constructor <;> omega
  · rw [e2] at hlen hin key ⊢
    rw [segL_len] at hlen ⊢
    obtain ⟨q1, q2⟩ := seg_map (n := (cutA c u : Int) + 1) (cutB c u - cutA c u - 1) hk hk6 hst (by omega) (fun w hw => inB_mem hin hw)
    have hb := key _ _ hlen (fun w hw => hw) (by omega)
    refine ⟨startV c (u.yr + k) + 7 * ((cutA c u : Int) + 1 - 1), 0, _, 0, hlen, by omega, rfl, ?_, fun h0 => absurd h0 (by omega), hb.1, hb.2, fun h0 => absurd h0 (by omega)⟩
    rw [q1, if_pos rfl, adjS, runs_one _ _ hlen]
    simp only [List.cons.injEq, Sp.mk.injEq, and_true]
    constructor <;> omega
  · rw [e2] at hlen hin key ⊢
    rw [List.length_append, segL_len, segL_len] at hlen ⊢
    obtain ⟨q1, q2⟩ := seg_map (n := (cutA c u : Int) + 1) (a - 1 - cutA c u).toNat hk hk6 hst (by omega) (fun w hw => inB_mem hin (List.mem_append.2 (.inl hw)))
    obtain ⟨r1, r2⟩ := seg_map (n := a + 1) (cutB c u - a + 1).toNat hk hk6 hst (by omega) (fun w hw => inB_mem hin (List.mem_append.2 (.inr hw)))
    have hb := key _ _ (show 0 < (a - 1 - cutA c u).toNat by omega) (fun w hw => List.mem_append.2 (.inl hw)) (by omega)
    have hc := key _ _ (show 0 < (cutB c u - a + 1).toNat by omega) (fun w hw => List.mem_append.2 (.inr hw)) (by omega)
    refine ⟨startV c (u.yr + k) + 7 * ((cutA c u : Int) + 1 - 1), startV c (u.yr + k) + 7 * (a + 1 - 1), (a - 1 - cutA c u).toNat, (cutB c u - a + 1).toNat, by omega, by omega, rfl, ?_, fun h0 => by omega, hb.1, hb.2, fun _ => hc.2⟩
    rw [List.map_append, q1, r1, rn_form (by omega) (fun _ => by omega), if_neg (by omega), if_neg (by omega)]
    simp only [List.cons.injEq, Sp.mk.injEq, and_true]
    refine ⟨⟨?_, ?_⟩, ?_, ?_⟩ <;> omega
/-- The days of some spans, together. -/
def sumR (R : List Sp) : Int := (R.map fun s => s.b - s.a + 1).sum
theorem sumR_snoc (R : List Sp) (s : Sp) : sumR (R ++ [s]) = sumR R + (s.b - s.a + 1) := by simp [sumR]
/-- A year that is compared, where weeks are dropped, has as many days as the shorter one. -/
theorem year_sum {c : Cal} {u : Un} {k : Int} (h : twE c u k = 0) (h1 : u.lv = 1) (hp : c.policy = 3) : c.kind ≠ 6 ∧ sumR (rnL c u k) = min (daysV c u.yr) (daysV c (u.yr + k)) ∧ askE c u.yr 1601 = 0 ∧ askE c (u.yr + k) 1601 = 0 ∧ (rnL c u k).length ≤ 2 ∧ (∀ j, 0 ≤ sumR ((rnL c u k).take j) ∧ sumR ((rnL c u k).take j) ≤ 420) ∧ ∀ s ∈ rnL c u k, 0 ≤ s.a ∧ s.a ≤ s.b ∧ s.b ≤ 3068500 := by
  obtain ⟨hU, ht, hin, hlen, hL⟩ := tw_ok h
  obtain ⟨hf, l1, l5, hA, hx, hi⟩ := un_lv hU
  obtain ⟨hok, hk, _, _, hy1, hy2, _⟩ := frame_ok hf
  have hst : srv c (u.yr + k) := ht
  have hk6 : c.kind ≠ 6 := fun h6 => by
    have := hok.2.1.2.2 h6
    omega
  have hcn := tw_count h hk6
  obtain ⟨a, b, m, n, g1, g2, g3, g4, g5, g6, g7, g8⟩ := tw_week h hk6
  have ad := added_two hk hk6 ⟨hy1, hy2⟩ hst
  obtain ⟨_, aY, wY, dY⟩ := wks_beside hk hk6 ⟨hy1, hy2⟩ u.yr (by omega) (by omega)
  obtain ⟨_, aT, wT, dT⟩ := wks_beside hk hk6 hst (u.yr + k) (by omega) (by omega)
  have hw := nwk_wks hk hk6 (show srv c u.yr from ⟨hy1, hy2⟩)
  have hu0 : uI u = 0 := by rw [h1] at hi; simp [cntL] at hi; exact hi
  have hcA : cutA c u = 0 := by rw [cutA, hu0, cut_0]
  have hcB : cutB c u = nWk c u.yr := by
    rw [cutB, hu0, h1]
    have := cut_end c u.yr 1 (by decide) (by decide)
    simpa [cntL] using this
  have had := added_bd hk hk6 ⟨hy1, hy2⟩
  rw [hcA, hcB] at hcn
  have hsum : sumR (rnL c u k) = 7 * ((m : Int) + n) := by
    rw [g4]
    split
    · simp [sumR]; omega
    · simp [sumR]; omega
  refine ⟨hk6, ?_, aY, aT, ?_, ?_, ?_⟩
  · rw [hsum, dY, dT]
    omega
  · rw [g4]; split <;> simp
  · intro j
    rw [g4]
    split
    · rcases j with _ | j
      · simp [sumR]
      · simp [sumR]; omega
    · rcases j with _ | _ | j
      · simp [sumR]
      · simp [sumR]; omega
      · simp [sumR]; omega
  · intro s hs
    rw [g4] at hs
    split at hs
    · simp only [List.mem_singleton] at hs
      subst hs
      simp only
      omega
    · simp only [List.mem_cons, List.not_mem_nil, or_false] at hs
      rcases hs with rfl | rfl
      · simp only; omega
      · simp only; omega
/-- A year has weeks to be compared with. -/
theorem year_gone {c : Cal} {u : Un} {k : Int} (hU : unitE c u = 0) (h1 : u.lv = 1) (hp : c.policy = 3) : ¬ twE c u k = 12 := by
  obtain ⟨hf, l1, l5, hA, hx, hi⟩ := un_lv hU
  obtain ⟨hok, hk, _, _, hy1, hy2, _⟩ := frame_ok hf
  have hk6 : c.kind ≠ 6 := fun h6 => by
    have := hok.2.1.2.2 h6
    omega
  intro h
  rw [twE, if_pos hU] at h
  split at h
  · rename_i ht
    have hst : srv c (u.yr + k) := ht
    have hu0 : uI u = 0 := by rw [h1] at hi; simp [cntL] at hi; exact hi
    have hcA : cutA c u = 0 := by rw [cutA, hu0, cut_0]
    have hcB : cutB c u = nWk c u.yr := by
      rw [cutB, hu0, h1]
      have := cut_end c u.yr 1 (by decide) (by decide)
      simpa [cntL] using this
    have hb := nWk_bd c _ hA
    have e : 0 < (twL0 c u k).length := by
      rw [twL0, if_neg hk6]
      rcases cmp_shape hU hk6 hst with ⟨s, _, _, _, e2, _⟩ | ⟨a, _, _, _, _, _, _, _, _, e2⟩ | ⟨a, _, _, _, _, _, _, _, e2⟩
      · rw [e2, segL_len]; omega
      · rw [e2, segL_len]; omega
      · rw [e2, List.length_append, segL_len, segL_len]; omega
    rw [if_neg (show ¬ (twL0 c u k).length = 0 by omega)] at h
    split at h <;> omega
  · omega
end Go.Proofs.YtjhhmeoibfdcmaaGreat

namespace Go.Proofs.YtjhhmeoibfdcmaaGreat
open Go.RowKit Qd

/-- The last day of a list of spans. -/
def lastS (d : Int) (l : List Sp) : Int := match l.getLast? with | some p => p.b | none => d
theorem lastS_nil (d : Int) : lastS d [] = d := rfl
theorem lastS_snoc (d : Int) (l : List Sp) (s : Sp) : lastS d (l ++ [s]) = s.b := by simp [lastS]
theorem adj_succ (f : Nat → Int) (j : Nat) : adjS f (j + 1) = adjS f j ++ [⟨f j, f (j + 1) - 1⟩] := upto_succ _ _
theorem adj_len (f : Nat → Int) (j : Nat) : (adjS f j).length = j := by
  induction j with
  | zero => rfl
  | succ j ih => rw [adj_succ, List.length_append, ih]; rfl
theorem adj_take (f : Nat → Int) (m j : Nat) (h : j ≤ m) : (adjS f m).take j = adjS f j := by
  obtain ⟨i, rfl⟩ := Nat.le.dest h
  have e : adjS f (j + i) = adjS f j ++ upto (fun x => (⟨f (j + x), f (j + x + 1) - 1⟩ : Sp)) i := upto_add _ j i
  rw [e]
  exact List.take_left' (adj_len f j)
theorem adj_sum (f : Nat → Int) (j : Nat) : sumR (adjS f j) = f j - f 0 := by
  induction j with
  | zero => simp [adjS, upto, sumR]
  | succ j ih => rw [adj_succ, sumR_snoc, ih]; simp only; omega
theorem adj_last (f : Nat → Int) (j : Nat) (l : List Sp) (d : Int) : lastS d (l ++ adjS f j) = if j = 0 then lastS d l else f j - 1 := by
  cases j with
  | zero => simp [adjS, upto]
  | succ j => rw [adj_succ, ← List.append_assoc, lastS_snoc]; simp
theorem sumR_app (l1 l2 : List Sp) : sumR (l1 ++ l2) = sumR l1 + sumR l2 := by simp [sumR]
/-- Spans that rise and are not empty; d: a day ahead of the first one, e: the days between two of them, at the least. -/
def Ris (d e : Int) (S : List Sp) : Prop := ∀ (j : Nat) (s : Sp), S[j]? = some s → lastS d (S.take j) + e < s.a ∧ s.a ≤ s.b
theorem ris_adj {f g : Nat → Int} {m n : Nat} {d : Int} (h0 : d < f 0) (hm : 0 < m) (hf : ∀ j, j < m → f j < f (j + 1)) (hg : ∀ j, j < n → g j < g (j + 1)) (hfg : 0 < n → f m < g 0) : Ris d 0 (adjS f m ++ adjS g n) := by
  intro j s hs
  by_cases hj : j < m
  · rw [List.getElem?_append_left (by rw [adj_len]; exact hj)] at hs
    have e1 : (adjS f m)[j]? = some ⟨f j, f (j + 1) - 1⟩ := upto_get _ m j hj
    rw [e1] at hs
    cases hs
    have e2 : (adjS f m ++ adjS g n).take j = adjS f j := by rw [List.take_append_of_le_length (by rw [adj_len]; omega), adj_take f m j (by omega)]
    have e3 := adj_last f j [] d
    rw [List.nil_append] at e3
    rw [e2, e3, lastS_nil]
    have := hf j hj
    simp only
    split
    · rename_i hz; subst hz; omega
    · omega
  · obtain ⟨i, rfl⟩ : ∃ i, j = m + i := ⟨j - m, by omega⟩
    rw [List.getElem?_append_right (by rw [adj_len]; omega), adj_len, show m + i - m = i by omega] at hs
    have hi : i < n := by
      have := (List.getElem?_eq_some_iff.1 hs).1
      rwa [adj_len] at this
    have e1 : (adjS g n)[i]? = some ⟨g i, g (i + 1) - 1⟩ := upto_get _ n i hi
    rw [e1] at hs
    cases hs
    have e2 : (adjS f m ++ adjS g n).take (m + i) = adjS f m ++ adjS g i := by
      rw [List.take_append, adj_len, show m + i - m = i by omega, adj_take g n i (by omega), List.take_of_length_le (by rw [adj_len]; omega)]
    have e4 := adj_last f m [] d
    rw [List.nil_append, if_neg (by omega)] at e4
    rw [e2, adj_last, e4]
    have h1 := hg i hi
    have h2 := hfg (by omega)
    simp only
    split
    · rename_i hz; subst hz; omega
    · omega
theorem ris_sum {d : Int} {S : List Sp} (h : Ris d 0 S) (hd : -1 ≤ d) : ∀ j, j ≤ S.length → 0 ≤ sumR (S.take j) ∧ sumR (S.take j) ≤ lastS d (S.take j) + 1 := by
  intro j
  induction j with
  | zero => intro _; simp [sumR, lastS]; omega
  | succ j ih =>
    intro hj
    obtain ⟨s, hs⟩ : ∃ s, S[j]? = some s := ⟨_, List.getElem?_eq_getElem (by omega)⟩
    have h1 := ih (by omega)
    have h2 := h j s hs
    have e : S.take (j + 1) = S.take j ++ [s] := by rw [List.take_add_one, hs]; rfl
    rw [e, sumR_snoc, lastS_snoc]
    omega
/-- Weeks rise, spans rise and do not touch, and both have as many days. -/
theorem tw_runs {c : Cal} {u : Un} {k : Int} (h : twE c u k = 0) : Ris (-1) 0 ((twL c u k).map (spV c)) ∧ Ris (-2) 1 (rnL c u k) ∧ sumR ((twL c u k).map (spV c)) = sumR (rnL c u k) ∧ 0 < (rnL c u k).length ∧ (rnL c u k).length ≤ 2 ∧ (twL c u k).length ≤ 60 ∧ 0 < (twL c u k).length ∧ (∀ x ∈ twL c u k, unitE c x = 0 ∧ x.lv = 5 ∧ 0 ≤ (spV c x).a ∧ (spV c x).a ≤ (spV c x).b ∧ (spV c x).b ≤ 3068037) ∧ (∀ s ∈ rnL c u k, 0 ≤ s.a ∧ s.a ≤ s.b ∧ s.b ≤ 3068037) := by
  obtain ⟨f, g, m, n, hm, hmn, hlen, hmap, hf, hg, hfg, hun⟩ := tw_form h
  have hall : ∀ x ∈ twL c u k, unitE c x = 0 ∧ x.lv = 5 ∧ 0 ≤ (spV c x).a ∧ (spV c x).a ≤ (spV c x).b ∧ (spV c x).b ≤ 3068037 := fun x hx => ⟨(hun x hx).1, (hun x hx).2, sp_bd2 (hun x hx).1⟩
  have hS : ∀ s ∈ adjS f m ++ adjS g n, 0 ≤ s.a ∧ s.a ≤ s.b ∧ s.b ≤ 3068037 := by
    intro s hs
    rw [← hmap] at hs
    obtain ⟨x, hx, rfl⟩ := List.mem_map.1 hs
    exact (hall x hx).2.2
  have hin : ∀ j, j < m → (⟨f j, f (j + 1) - 1⟩ : Sp) ∈ adjS f m ++ adjS g n := fun j hj => List.mem_append_left _ (List.mem_of_getElem? (upto_get _ m j hj))
  have hin2 : ∀ j, j < n → (⟨g j, g (j + 1) - 1⟩ : Sp) ∈ adjS f m ++ adjS g n := fun j hj => List.mem_append_right _ (List.mem_of_getElem? (upto_get _ n j hj))
  have f0 := hS _ (hin 0 hm)
  have f1 := hS _ (hin (m - 1) (by omega))
  rw [show m - 1 + 1 = m by omega] at f1
  simp only at f0 f1
  have mono : ∀ (q : Nat → Int) (z : Nat), (∀ j, j < z → q j < q (j + 1)) → 0 < z → q 0 < q z := by
    intro q z hq
    induction z with
    | zero => intro h; omega
    | succ z ih =>
      intro _
      rcases Nat.eq_zero_or_pos z with rfl | hz
      · exact hq 0 (by omega)
      · have a1 := ih (fun j hj => hq j (by omega)) hz
        have a2 := hq z (by omega)
        omega
  have hfm := mono f m hf hm
  have hR : rnL c u k = if n = 0 then [⟨f 0, f m - 1⟩] else [⟨f 0, f m - 1⟩, ⟨g 0, g n - 1⟩] := by rw [rnL, hmap, rn_form hm hfg]
  have hsum : sumR ((twL c u k).map (spV c)) = (f m - f 0) + (g n - g 0) := by rw [hmap, sumR_app, adj_sum, adj_sum]
  refine ⟨by rw [hmap]; exact ris_adj (by omega) hm hf hg hfg, ?_, ?_, ?_, ?_, by omega, by omega, hall, ?_⟩
  all_goals rw [hR]
  · split
    · intro j s hs
      match j, hs with
      | 0, hs => cases hs; simp [lastS]; omega
    · rename_i hn
      have g1 := hS _ (hin2 0 (by omega))
      have hgn := mono g n hg (by omega)
      have h3 := hfg (by omega)
      intro j s hs
      match j, hs with
      | 0, hs => cases hs; simp [lastS]; omega
      | 1, hs => cases hs; simp [lastS]; omega
  · rw [hsum]
    split
    · rename_i hn; subst hn; simp [sumR]; omega
    · simp [sumR]; omega
  · split <;> simp
  · split <;> simp
  · intro s hs
    split at hs
    · simp only [List.mem_singleton] at hs; subst hs; simp only; omega
    · rename_i hn
      have g1 := hS _ (hin2 0 (by omega))
      have g2 := hS _ (hin2 (n - 1) (by omega))
      rw [show n - 1 + 1 = n by omega] at g2
      simp only at g1 g2
      have hgn := mono g n hg (by omega)
      simp only [List.mem_cons, List.not_mem_nil, or_false] at hs
      rcases hs with rfl | rfl <;> simp only <;> omega
end Go.Proofs.YtjhhmeoibfdcmaaGreat

namespace Go.Proofs.YtjhhmeoibfdcmaaGreat
open Go.RowKit Qd

/-- The day at a place of one run, or of two. -/
def runPos (p m1 p2 M : Int) : Int := if M < m1 then p + M else p2 + (M - m1)
/-- How many days ahead of a day have one, if those of a gap have none. -/
def metN (S g gl d : Int) : Int := if d ≤ g then d - S else if d ≤ g + gl then g - S else d - S - gl
theorem metN_in {S g gl d : Int} (h1 : g ≤ d) (h2 : d < g + gl) : metN S g gl (d + 1) = metN S g gl d := by
  unfold metN
  repeat' split
  all_goals omega
theorem metN_out {S g gl d : Int} (h : ¬ (g ≤ d ∧ d < g + gl)) (h0 : 0 ≤ gl) : metN S g gl (d + 1) = metN S g gl d + 1 := by
  unfold metN
  repeat' split
  all_goals omega
theorem metN_start {S g gl : Int} (h : S ≤ g) : metN S g gl S = 0 := by
  unfold metN
  rw [if_pos h]; omega
theorem metN_end {S g gl E : Int} (h : g + gl ≤ E + 1) (h0 : 0 ≤ gl) : metN S g gl (E + 1) = E + 1 - S - gl := by
  unfold metN
  repeat' split
  all_goals omega
theorem metN_bd {S g gl d : Int} (h : S ≤ g) (h0 : 0 ≤ gl) (hd : S ≤ d) : 0 ≤ metN S g gl d ∧ metN S g gl d ≤ d - S := by
  unfold metN
  repeat' split
  all_goals omega
theorem metN_lt {S g gl d E : Int} (h : ¬ (g ≤ d ∧ d < g + gl)) (h0 : 0 ≤ gl) (hg : g + gl ≤ E + 1) (hd : d ≤ E) : metN S g gl d < E + 1 - S - gl := by
  unfold metN
  repeat' split
  all_goals omega
/-- A unit of a year of weeks: its days, and those with which they are compared. -/
theorem tw_days {c : Cal} {u : Un} {k : Int} (hU : unitE c u = 0) (hk6 : c.kind ≠ 6) (ht : c.first ≤ u.yr + k ∧ u.yr + k ≤ c.last) :
    ∃ g gl p m1 p2 m2 : Int, (gl = 0 ∨ gl = 7) ∧ (spV c u).a ≤ g ∧ g + gl ≤ (spV c u).b + 1 ∧ 0 ≤ m2 ∧
      (∀ d : Int, (spV c u).a ≤ d → d ≤ (spV c u).b → if g ≤ d ∧ d < g + gl then cdE c d k = 12 else cdE c d k = 0 ∧ cdV c d k = runPos p m1 p2 (metN (spV c u).a g gl d)) ∧
      ((spV c u).b - (spV c u).a + 1 - gl = 7 * ((twL0 c u k).length : Int)) ∧ m1 + m2 = (spV c u).b - (spV c u).a + 1 - gl ∧
      (twE c u k = 0 → 0 < m1 ∧ (0 < m2 → p + m1 < p2) ∧ rnL c u k = (if m2 = 0 then [⟨p, p + m1 - 1⟩] else [⟨p, p + m1 - 1⟩, ⟨p2, p2 + m2 - 1⟩])) := by
  obtain ⟨hf, l1, l5, hA, _, _⟩ := un_lv hU
  obtain ⟨hok, hk, _, _, hy1, hy2, _⟩ := frame_ok hf
  have hy : srv c u.yr := ⟨hy1, hy2⟩
  have hts : srv c (u.yr + k) := ht
  have hab := cutAB hU
  have hb60 := nWk_bd c _ hA
  have hsp := sp_get hU
  rw [dayW_7 c _ hA hk6 _ (by omega), dayW_7 c _ hA hk6 _ hab.2] at hsp
  have hend := dayW_end c _ hA
  rw [dayW_7 c _ hA hk6 _ (Nat.le_refl _)] at hend
  have ha0 : (spV c u).a = startV c u.yr + 7 * (cutA c u : Int) := by rw [hsp]
  have hb0 : (spV c u).b = startV c u.yr + 7 * (cutB c u : Int) - 1 := by rw [hsp]
  have hl0 : twL0 c u k = cmpL c u.yr (u.yr + k) (wksL c u) := by rw [twL0, if_neg hk6]
  have hday : ∀ d : Int, (spV c u).a ≤ d → d ≤ (spV c u).b → ∃ x : Int, x = (d - startV c u.yr) / 7 + 1 ∧ (cutA c u : Int) < x ∧ x ≤ cutB c u ∧ cdE c d k = cwE c u.yr (u.yr + k) x ∧ (cdE c d k = 0 → cdV c d k = startV c (u.yr + k) + (d - startV c u.yr) + 7 * (cwV c u.yr (u.yr + k) x - x)) := by
    intro d h1 h2
    obtain ⟨s1, s2⟩ := serv_yes (day := d) hk ⟨hA, by omega, by omega⟩ hy1 hy2
    have h3 := cd_week (d := d) (k := k) s1 hk6 (by rw [s2]; exact ht)
    rw [s2] at h3
    exact ⟨_, rfl, by omega, by omega, h3.1, h3.2⟩
  rcases cmp_shape hU hk6 hts with ⟨s, s1, s2, hw, hL, _⟩ | ⟨a, a1, a2, _, _, _, _, hg12, hw, hL⟩ | ⟨a, a1, a2, _, _, _, _, hw, hL⟩
  · refine ⟨(spV c u).a, 0, startV c (u.yr + k) + 7 * ((cutA c u : Int) + s), 7 * ((cutB c u : Int) - cutA c u), 0, 0, .inl rfl, by omega, by omega, by omega, ?_, ?_, by omega, ?_⟩
    · intro d h1 h2
      obtain ⟨x, hx, x1, x2, e1, e2⟩ := hday d h1 h2
      obtain ⟨w1, w2⟩ := hw x x1 x2
      rw [if_neg (by omega)]
      refine ⟨by rw [e1, w1], ?_⟩
      rw [e2 (by rw [e1, w1]), w2]
      unfold runPos metN
      repeat' split
      all_goals omega
    · rw [hl0, hL, segL_len]; omega
    · intro hE
      obtain ⟨_, _, hin, _, hLe⟩ := tw_ok hE
      rw [hl0, hL] at hin hLe
      obtain ⟨hm, _⟩ := seg_map (c := c) (t := u.yr + k) (n := (cutA c u : Int) + 1 + s) (cutB c u - cutA c u) hk hk6 hts ⟨by omega, by omega⟩ (fun w hw => inB_mem hin hw)
      have hr := rn_form (f := fun j => startV c (u.yr + k) + 7 * ((cutA c u : Int) + 1 + s + j - 1)) (g := fun _ => 0) (m := cutB c u - cutA c u) (n := 0) (by omega) (by omega)
      refine ⟨by omega, by omega, ?_⟩
      rw [if_pos rfl, rnL, hLe, hm]
      have e0 : adjS (fun _ => (0 : Int)) 0 = [] := rfl
      rw [e0, List.append_nil, if_pos rfl] at hr
      rw [hr]
      simp only [List.cons.injEq, Sp.mk.injEq, and_true]
      constructor <;> omega
  · refine ⟨startV c u.yr + 7 * (a - 1), 7, startV c (u.yr + k) + 7 * (cutA c u : Int), 7 * ((cutB c u : Int) - cutA c u - 1), 0, 0, .inr rfl, by omega, by omega, by omega, ?_, ?_, by omega, ?_⟩
    · intro d h1 h2
      obtain ⟨x, hx, x1, x2, e1, e2⟩ := hday d h1 h2
      split
      · have : x = a := by omega
        rw [e1, this, hg12]
      · obtain ⟨w1, w2⟩ := hw x x1 x2 (by omega)
        refine ⟨by rw [e1, w1], ?_⟩
        rw [e2 (by rw [e1, w1]), w2]
        unfold runPos metN
        repeat' split
        all_goals omega
    · rw [hl0, hL, segL_len]; omega
    · intro hE
      obtain ⟨_, _, hin, hlen, hLe⟩ := tw_ok hE
      rw [hl0, hL] at hin hLe hlen
      rw [segL_len] at hlen
      obtain ⟨hm, _⟩ := seg_map (c := c) (t := u.yr + k) (n := (cutA c u : Int) + 1) (cutB c u - cutA c u - 1) hk hk6 hts ⟨by omega, by omega⟩ (fun w hw => inB_mem hin hw)
      have hr := rn_form (f := fun j => startV c (u.yr + k) + 7 * ((cutA c u : Int) + 1 + j - 1)) (g := fun _ => 0) (m := cutB c u - cutA c u - 1) (n := 0) (by omega) (by omega)
      refine ⟨by omega, by omega, ?_⟩
      rw [if_pos rfl, rnL, hLe, hm]
      have e0 : adjS (fun _ => (0 : Int)) 0 = [] := rfl
      rw [e0, List.append_nil, if_pos rfl] at hr
      rw [hr]
      simp only [List.cons.injEq, Sp.mk.injEq, and_true]
      constructor <;> omega
  · refine ⟨(spV c u).a, 0, startV c (u.yr + k) + 7 * (cutA c u : Int), 7 * (a - 1 - cutA c u), startV c (u.yr + k) + 7 * a, 7 * ((cutB c u : Int) - a + 1), .inl rfl, by omega, by omega, by omega, ?_, ?_, by omega, ?_⟩
    · intro d h1 h2
      obtain ⟨x, hx, x1, x2, e1, e2⟩ := hday d h1 h2
      obtain ⟨w1, w2⟩ := hw x x1 x2
      rw [if_neg (by omega)]
      refine ⟨by rw [e1, w1], ?_⟩
      rw [e2 (by rw [e1, w1]), w2]
      unfold runPos metN
      repeat' split
      all_goals omega
    · rw [hl0, hL, List.length_append, segL_len, segL_len]; omega
    · intro hE
      obtain ⟨_, _, hin, _, hLe⟩ := tw_ok hE
      rw [hl0, hL] at hin hLe
      obtain ⟨hm, _⟩ := seg_map (c := c) (t := u.yr + k) (n := (cutA c u : Int) + 1) (a - 1 - cutA c u).toNat hk hk6 hts ⟨by omega, by omega⟩ (fun w hw => inB_mem hin (List.mem_append_left _ hw))
      obtain ⟨hm2, _⟩ := seg_map (c := c) (t := u.yr + k) (n := a + 1) (cutB c u - a + 1).toNat hk hk6 hts ⟨by omega, by omega⟩ (fun w hw => inB_mem hin (List.mem_append_right _ hw))
      have hr := rn_form (f := fun j => startV c (u.yr + k) + 7 * ((cutA c u : Int) + 1 + j - 1)) (g := fun j => startV c (u.yr + k) + 7 * (a + 1 + (j : Nat) - 1)) (m := (a - 1 - cutA c u).toNat) (n := (cutB c u - a + 1).toNat) (by omega) (by intro _; (try simp only); omega)
      refine ⟨by omega, by omega, ?_⟩
      rw [if_neg (by omega), rnL, hLe, List.map_append, hm, hm2, hr, if_neg (by omega)]
      simp only [List.cons.injEq, Sp.mk.injEq, and_true]
      refine ⟨⟨?_, ?_⟩, ?_, ?_⟩ <;> omega
end Go.Proofs.YtjhhmeoibfdcmaaGreat
