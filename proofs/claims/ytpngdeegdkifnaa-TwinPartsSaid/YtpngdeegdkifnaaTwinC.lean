/- Twin, third part: the contract of twin.compared. Twin, fourth part: the contract of twin.monthly. Twin, the contract of twin.monthly, second half. Twin, fifth part: the contract of twin.Weeks. Twin, sixth part: the contract of twin.Runs. Twin: the chapter's example, and what a list of units is as a value. -/
import Derived.Test.YtpngdeegdkifnaaTwinA
import Derived.Test.YtpngdeegdkifnaaTwinB
import Derived.Test.YtpngdeegdkifnaaUnAt
namespace Go.Proofs.Ytpngdeegdkifnaa
open Go.RowKit Go.Shelf Qd
set_option linter.unusedSimpArgs false
set_option linter.unusedVariables false
attribute [local go_sem] Oper.semAt_some

theorem res_compared {tmps : Array Value} {W : World} {B1 B2 : Nat} {v : Value} {e : Int} (h8 : tmps[6]? = some (.pointer (some ⟨B1, 0, none⟩))) (h9 : tmps[7]? = some (.pointer (some ⟨B2, 0, none⟩)))
    (g1 : BlkIs W B1 #[v] 40) (g2 : BlkIs W B2 #[.int .i64 e] 26) :
    (results Try.f51 tmps).run Try.prog W = .ok (.tuple #[v, .int .i64 e]) W := by
  have c0 := g1.cell 0
  have c1 := g2.cell 0
  simp at c0 c1
  simp [results, Try.results51, go_sem, h8, h9, c0, c1]

/-- What lies in the frame of twin.compared. -/
def CmSt (c : Cal) (u : Un) (t : Int) (B : Nat) (w : World) : Prop := BlkIs w B (calCs c) 24 ∧ BlkIs w (B + 1) #[.int .i64 u.lv, .int .i64 u.yr, .int .i64 u.ix] 31 ∧ BlkIs w (B + 2) #[.int .i64 t] 3 ∧ BlkIs w (B + 3) #[.slice none 0 0] 40 ∧ BlkIs w (B + 4) #[.int .i64 0] 26
theorem CmSt.call {c : Cal} {u : Un} {t : Int} {B : Nat} {w w' : World} (h : CmSt c u t B w) (hb : Below w.heap.size w w') : CmSt c u t B w' := ⟨h.1.call hb, h.2.1.call hb, h.2.2.1.call hb, h.2.2.2.1.call hb, h.2.2.2.2.call hb⟩
theorem CmSt.below {c : Cal} {u : Un} {t : Int} {B K : Nat} {w w' : World} (h : CmSt c u t B w) (hb : Below K w w') (hK : B + 4 < K) : CmSt c u t B w' := ⟨h.1.below hb (by omega), h.2.1.below hb (by omega), h.2.2.1.below hb (by omega), h.2.2.2.1.below hb (by omega), h.2.2.2.2.below hb (by omega)⟩
theorem CmSt.alloc {c : Cal} {u : Un} {t : Int} {B : Nat} {w : World} (h : CmSt c u t B w) (o : Obj) : CmSt c u t B (w.alloc o) := ⟨h.1.alloc o, h.2.1.alloc o, h.2.2.1.alloc o, h.2.2.2.1.alloc o, h.2.2.2.2.alloc o⟩
theorem CmSt.lt {c : Cal} {u : Un} {t : Int} {B : Nat} {w : World} (h : CmSt c u t B w) : B + 4 < w.heap.size := h.2.2.2.2.lt
theorem CmSt.un {c : Cal} {u : Un} {t : Int} {B : Nat} {w : World} (h : CmSt c u t B w) : (w.cell? ⟨B + 1, 0, none⟩ = some (.int .i64 u.lv) ∧ w.cell? ⟨B + 1, 1, none⟩ = some (.int .i64 u.yr) ∧ w.cell? ⟨B + 1, 2, none⟩ = some (.int .i64 u.ix)) ∧ w.cell? ⟨B + 2, 0, none⟩ = some (.int .i64 t) := ⟨⟨h.2.1.cell 0, h.2.1.cell 1, h.2.1.cell 2⟩, h.2.2.1.cell 0⟩
theorem cmSt_new (c : Cal) (u : Un) (t : Int) (w : World) : CmSt c u t w.heap.size (((((w.alloc (.cells (calCs c) 24)).alloc (.cells #[.int .i64 u.lv, .int .i64 u.yr, .int .i64 u.ix] 31)).alloc (.cells #[.int .i64 t] 3)).alloc (.cells #[.slice none 0 0] 40)).alloc (.cells #[.int .i64 0] 26)) := by
  refine ⟨((((BlkIs.new w _ _).alloc _).alloc _).alloc _).alloc _, ?_, ?_, ?_, ?_⟩
  · have := (((BlkIs.new (w.alloc (.cells (calCs c) 24)) #[.int .i64 u.lv, .int .i64 u.yr, .int .i64 u.ix] 31).alloc (.cells #[.int .i64 t] 3)).alloc (.cells #[.slice none 0 0] 40)).alloc (.cells #[.int .i64 0] 26)
    simpa using this
  · have := ((BlkIs.new ((w.alloc (.cells (calCs c) 24)).alloc (.cells #[.int .i64 u.lv, .int .i64 u.yr, .int .i64 u.ix] 31)) #[.int .i64 t] 3).alloc (.cells #[.slice none 0 0] 40)).alloc (.cells #[.int .i64 0] 26)
    simpa using this
  · have := (BlkIs.new (((w.alloc (.cells (calCs c) 24)).alloc (.cells #[.int .i64 u.lv, .int .i64 u.yr, .int .i64 u.ix] 31)).alloc (.cells #[.int .i64 t] 3)) #[.slice none 0 0] 40).alloc (.cells #[.int .i64 0] 26)
    simpa using this
  · have := BlkIs.new ((((w.alloc (.cells (calCs c) 24)).alloc (.cells #[.int .i64 u.lv, .int .i64 u.yr, .int .i64 u.ix] 31)).alloc (.cells #[.int .i64 t] 3)).alloc (.cells #[.slice none 0 0] 40)) #[.int .i64 0] 26
    simpa using this
theorem cmSt_own {β : Type} (c : Cal) (u : Un) (t : Int) (B : Nat) : Own (fun (_ : β) W => CmSt c u t B W) := fun s X Y row h hg hr => ⟨blk_own h.1 hg hr, blk_own h.2.1 hg hr, blk_own h.2.2.1 hg hr, blk_own h.2.2.2.1 hg hr, blk_own h.2.2.2.2 hg hr⟩
theorem szA (w : World) (o : Obj) : (w.alloc o).heap.size = w.heap.size + 1 := by simp

set_option maxRecDepth 100000 in
set_option maxHeartbeats 8000000 in
theorem compared_any (c : Cal) (u : Un) (t : Int) (w : World) (hn : c.name.size ≤ 1000) (hU : unitE c u = 0) (hk6 : c.kind ≠ 6) (ht : srv c t) :
    Calls Try.prog 51 #[calV c, unitV u, .int .i64 t] w fun e w' => ∃ v, e = .returned (.tuple #[v, .int .i64 0]) ∧ TwV w' v (cmpL c u.yr t (wksL c u)) ∧ Below w.heap.size w w' := by
  have hf := (un_lv hU).1
  have hA := (un_lv hU).2.2.2.1
  obtain ⟨hok, hk, _, _, hy1, hy2, _⟩ := frame_ok hf
  have hab := cutAB hU
  have hb60 := nWk_bd c _ hA
  have hwk : (nWk c u.yr : Int) = wksV c u.yr := nwk_wks hk hk6 ⟨hy1, hy2⟩
  have HCW := hide (show ∀ x : Int, 1 ≤ x → x ≤ nWk c u.yr → (cwE c u.yr t x = 0 ∨ cwE c u.yr t x = 12) ∧ 0 ≤ cwV c u.yr t x ∧ cwV c u.yr t x ≤ 60 from fun x h1 h2 => ⟨cw_two hk hk6 ⟨hy1, hy2⟩ ht ⟨h1, by omega⟩, cw_bd hk hk6 ⟨hy1, hy2⟩ ht ⟨h1, by omega⟩⟩)
  have HPL := hide (show ∀ (n : Int) (w : World), 0 ≤ n → n ≤ 60 → Calls Try.prog 75 #[calV c, .int .i64 t, .int .i64 n] w fun e w' => e = .returned (.tuple #[unitV (plU c t n), .int .i64 0]) ∧ Below w.heap.size w w' from fun n w h1 h2 => tplace_any c t n w hn hk hk6 ht (by omega))
  have hd := dn_5 hU
  have hwl : wksL c u = wkU ⟨5, u.yr, (cutA c u : Int) + 1⟩ (cutB c u - cutA c u) := rfl
  rw [hwl]
  clear hwl
  obtain ⟨i0, hi, hi0, hi1, hi2⟩ := info_parts unit_info
  obtain ⟨A, hAA⟩ : ∃ A, cutA c u = A := ⟨_, rfl⟩
  obtain ⟨B, hBB⟩ : ∃ B, cutB c u = B := ⟨_, rfl⟩
  obtain ⟨N, hNN⟩ : ∃ N, nWk c u.yr = N := ⟨_, rfl⟩
  rw [hAA, hBB] at hd hab ⊢
  rw [hNN] at hab HCW hb60
  have HD := hide hd
  clear hd hU hf hok hk hy1 hy2 ht hA hk6 hwk hAA hBB hNN
  simp only [calV, unitV]
  refine (callsIn_wide (n := 5)).1 ?_
  refine callsIn_of_wp_marks Try.func51 rfl trivial ?_ rfl
  simp only [Try.ntmps51, List.size_toArray, List.length_cons, List.length_nil, Nat.reduceAdd, Nat.reduceSub, Array.replicate_succ, Array.replicate_zero, List.push_toArray, List.append_toArray, List.nil_append, List.cons_append]
  gi_wp2_with fail
  have HM0 := hide (cmSt_new c u t w)
  have HB0 := hide (show Below w.heap.size w (((((w.alloc (.cells (calCs c) 24)).alloc (.cells #[.int .i64 u.lv, .int .i64 u.yr, .int .i64 u.ix] 31)).alloc (.cells #[.int .i64 t] 3)).alloc (.cells #[.slice none 0 0] 40)).alloc (.cells #[.int .i64 0] 26)) by (repeat' (first | (with_reducible exact Below.refl _ _) | (with_reducible assumption) | (with_reducible refine Below.alloc ?_ ?_ _) | (with_reducible refine below_drewN ?_ _) | (with_reducible refine Below.drew ?_) | (with_reducible refine Below.setCell ?_ ?_ _) | (with_reducible refine Below.trans ?_ (Below.mono (by assumption) ?_)) | go_size | (simp at *; omega))))
  refine ⟨trivial, (callsIn_wide.2 (down_any c u 5 _ hn)).mono ?_⟩
  rintro e w1 ⟨rfl, hb1⟩
  rw [HD.out.1, HD.out.2.1, HD.out.2.2]
  simp only [unitV]
  have HM1 := hide (HM0.out.call (by exact hb1))
  have HB1 := hide (HB0.out.trans (hb1.mono (by simp; omega)))
  clear hb1
  gi_wp2_with fail
  refine ⟨trivial, (weeks_fn _ ⟨5, u.yr, (A : Int) + 1⟩ ⟨5, u.yr, (B : Int)⟩ _).mono ?_⟩
  rintro e w2 ⟨rfl, rfl⟩
  simp only
  gi_wp2_with fail
  obtain ⟨W5, hW5⟩ : ∃ W5 : World, W5 = (((((w1.alloc (.cells #[.int .i64 5, .int .i64 u.yr, .int .i64 ((A : Int) + 1)] 31)).alloc (.cells #[.int .i64 5, .int .i64 u.yr, .int .i64 (B : Int)] 31)).alloc (.cells #[.slice none 0 0] 40)).alloc (.cells #[.int .i64 5, .int .i64 u.yr, .int .i64 ((A : Int) + 1)] 31)).alloc (.cells #[.int .i64 5, .int .i64 u.yr, .int .i64 (B : Int)] 31)) := ⟨_, rfl⟩
  have hsz : W5.heap.size = w1.heap.size + 5 := by rw [hW5]; simp
  have s0 : BlkIs W5 (w1.heap.size + 3) #[.int .i64 5, .int .i64 u.yr, .int .i64 ((A : Int) + 1)] 31 := by
    rw [hW5]
    have := (BlkIs.new (((w1.alloc (.cells #[.int .i64 5, .int .i64 u.yr, .int .i64 ((A : Int) + 1)] 31)).alloc (.cells #[.int .i64 5, .int .i64 u.yr, .int .i64 (B : Int)] 31)).alloc (.cells #[.slice none 0 0] 40)) #[.int .i64 5, .int .i64 u.yr, .int .i64 ((A : Int) + 1)] 31).alloc (.cells #[.int .i64 5, .int .i64 u.yr, .int .i64 (B : Int)] 31)
    simpa using this
  have s1 : BlkIs W5 (w1.heap.size + 4) #[.int .i64 5, .int .i64 u.yr, .int .i64 (B : Int)] 31 := by
    rw [hW5]
    have := BlkIs.new ((((w1.alloc (.cells #[.int .i64 5, .int .i64 u.yr, .int .i64 ((A : Int) + 1)] 31)).alloc (.cells #[.int .i64 5, .int .i64 u.yr, .int .i64 (B : Int)] 31)).alloc (.cells #[.slice none 0 0] 40)).alloc (.cells #[.int .i64 5, .int .i64 u.yr, .int .i64 ((A : Int) + 1)] 31)) #[.int .i64 5, .int .i64 u.yr, .int .i64 (B : Int)] 31
    simpa using this
  have sO : Boxed W5 (w1.heap.size + 2) 40 (.slice none 0 0) := by
    rw [hW5]
    have := ((Boxed.new ((w1.alloc (.cells #[.int .i64 5, .int .i64 u.yr, .int .i64 ((A : Int) + 1)] 31)).alloc (.cells #[.int .i64 5, .int .i64 u.yr, .int .i64 (B : Int)] 31)) 40 (.slice none 0 0)).alloc (.cells #[.int .i64 5, .int .i64 u.yr, .int .i64 ((A : Int) + 1)] 31)).alloc (.cells #[.int .i64 5, .int .i64 u.yr, .int .i64 (B : Int)] 31)
    simpa using this
  have hM5 : CmSt c u t w.heap.size W5 := by
    rw [hW5]; exact ((((HM1.out.alloc _).alloc _).alloc _).alloc _).alloc _
  have hz4 : w.heap.size + 4 < w1.heap.size := HM1.out.lt
  have hBW : Below w.heap.size w W5 := by
    have b1 := HB1.out
    rw [hW5]
    refine Below.alloc (Below.alloc (Below.alloc (Below.alloc (Below.alloc b1 ?_ _) ?_ _) ?_ _) ?_ _) ?_ _ <;> first | omega | (simp; omega)
  rw [← hW5]
  clear hW5
  simp only [szA]
  refine wpIn_rangeFunc_ownH (α := Wk ⟨5, u.yr, (A : Int) + 1⟩ (B - A)) rfl (by omega) (gf := 98) (lb := #[.pointer (some ⟨w1.heap.size + 3, 0, none⟩), .pointer (some ⟨w1.heap.size + 4, 0, none⟩)]) rfl trivial (enters_of Try.func98 (by kernel_rfl) rfl)
    (weeks_stops ⟨5, u.yr, (A : Int) + 1⟩ ⟨5, u.yr, (B : Int)⟩ (B - A) (by simp only; omega) (by simp only; omega) (w1.heap.size + 3) (w1.heap.size + 4) W5 s0 s1)
    KeepBx.trans (fun W l o o' _ h1 h2 _ => keepBx_putObj W l o o' h1 h2) (Below.refl _ _) (fun _ => rfl)
    (fun (pre : List (Wk ⟨5, u.yr, (A : Int) + 1⟩ (B - A))) W => ((∃ v, Boxed W (w1.heap.size + 2) 40 v ∧ W.ownsRow (w1.heap.size + 2) 31 3 v (cmpL c u.yr t (valW pre)).length (flatU (cmpL c u.yr t (valW pre))) ∧ (v = .slice none 0 0 ↔ cmpL c u.yr t (valW pre) = [])) ∧ CmSt c u t w.heap.size W) ∧ Below w.heap.size w W)
    (fun _ _ _ => False)
    (OwnFrom.and (OwnFrom.and (Own.from (holdsRow_own (w1.heap.size + 2) (w1.heap.size + 2) _ _ 3 (fun (pre : List (Wk ⟨5, u.yr, (A : Int) + 1⟩ (B - A))) => (cmpL c u.yr t (valW pre)).length) (fun pre => flatU (cmpL c u.yr t (valW pre))) (fun pre v => v = .slice none 0 0 ↔ cmpL c u.yr t (valW pre) = [])) _) (Own.from (cmSt_own c u t w.heap.size) _)) (ownFrom_below (Nat.le_refl _) (by omega)))
    (fun _ _ _ _ _ hs _ _ => hs)
    ⟨⟨⟨_, sO, World.ownsRow_nil _ _ _ _, by simp [valW, cmpL]⟩, hM5⟩, hBW⟩
    (AxW (w1.heap.size + 2) ?a1) (fun x a' => axW_own _ _ x a' _)
    ?assign ?body ?done ?stop
  case assign =>
    rintro l pre x W K ⟨⟨⟨v, hv, hrow, hnil⟩, k1⟩, hB⟩ hK
    have hK2 := hide hK
    clear hK
    obtain ⟨Bx, hBx⟩ : ∃ Bx, Bx = W.heap.size := ⟨_, rfl⟩
    simp only [encW, unitV]
    gi_wp2
    rw [← hBx]
    have hK3 := fun a' (h : a' = _) => hK2.out a' _ ((KeepsOthers.alloc _ _).from _) (KeepBx.alloc _ _) ⟨⟨⟨v, hv.alloc _, hrow.alloc _, hnil⟩, k1.alloc _⟩, hB.alloc hB.size _⟩ ⟨Bx, by rw [hBx]; exact hv.lt, by rw [hBx]; exact BlkIs.new W #[.int .i64 x.1.lv, .int .i64 x.1.yr, .int .i64 x.1.ix] 31, h⟩
    have hK4 := hK3 _ rfl
    exact hK4
  case body =>
    rintro l pre ⟨x, hxx⟩ a' W hl ⟨r, hr⟩ ⟨⟨⟨v, hv, hrow, hnil⟩, k1⟩, hB⟩ ⟨Bx, hBx, bX, rfl⟩ hlt
    have hxx2 : ∃ j : Nat, j < B - A ∧ x = (⟨5, u.yr, (A : Int) + 1 + (j : Int)⟩ : Un) := hxx
    obtain ⟨jx, hjx, hxe⟩ := hxx2
    simp only at bX hxe
    have hxi : x.ix = (A : Int) + 1 + jx := by rw [hxe]
    have hbx2 : W.cell? ⟨Bx, 2, none⟩ = some (.int .i64 x.ix) := bX.cell 2
    obtain ⟨q0, q1, q2, q3, q4, q5, q6, q7, q8, q9, q10, q11, q12, q13⟩ := k1.1.cal
    obtain ⟨⟨u0, u1, u2⟩, tt⟩ := k1.un
    have hWz := hB.size
    have hwx := HCW.out x.ix (by omega) (by omega)
    have hcl := cmpL_le c u.yr t (valW pre)
    rw [valW_len] at hcl
    have HKM := hide k1
    have HXE := hide hxe
    have hvl := hv.lt
    have hkl := k1.lt
    clear hxe hxi
    simp only
    gi_wp2_with fail
    refine ⟨trivial, (callsIn_wide.2 (week_any c u.yr t x.ix _ hn)).mono ?_⟩
    rintro e W1 ⟨rfl, hb1⟩
    have HV1 := hide (boxed_call hv hb1)
    have HR1 := hide (owns_call hrow hb1)
    have HM1' := hide (HKM.out.call hb1)
    have HKO1 := hide (keeps_below hb1)
    have HKB1 := hide (KeepBx.below hb1)
    have HBB1 := hide (hB.trans (hb1.mono hWz))
    have hs1 := hb1.size
    clear hb1 u0 u1 u2 tt hbx2
    clear q0 q1 q2 q3 q4 q5 q6 q7 q8 q9 q10 q11 q12 q13
    obtain ⟨cE, hcE⟩ : ∃ cE, cwE c u.yr t x.ix = cE := ⟨_, rfl⟩
    obtain ⟨nV, hnV⟩ : ∃ nV, cwV c u.yr t x.ix = nV := ⟨_, rfl⟩
    rw [hcE, hnV] at hwx
    rw [hcE, hnV]
    have HCE := hide hcE
    have HNV := hide hnV
    clear hcE hnV
    rcases hwx.1 with rfl | rfl
    · obtain ⟨q0, q1, q2, q3, q4, q5, q6, q7, q8, q9, q10, q11, q12, q13⟩ := HM1'.out.1.cal
      obtain ⟨⟨u0, u1, u2⟩, tt⟩ := HM1'.out.un
      have hn0 := hwx.2
      clear hwx
      gi_wp2_with fail
      refine ⟨trivial, (callsIn_wide.2 (HPL.out nV _ hn0.1 hn0.2)).mono ?_⟩
      rintro e W2 ⟨rfl, hb2⟩
      have hv2 := boxed_call HV1.out hb2
      have hrow2 := owns_call HR1.out hb2
      have HM2 := hide (HM1'.out.call hb2)
      have HKO2 := hide (HKO1.out.trans (keeps_below hb2))
      have HKB2 := hide (HKB1.out.trans (KeepBx.below hb2))
      have HBB2 := hide (HBB1.out.trans (hb2.mono (by omega)))
      have hs2 := hb2.size
      clear hb2 u0 u1 u2 tt
      clear q0 q1 q2 q3 q4 q5 q6 q7 q8 q9 q10 q11 q12 q13
      obtain ⟨p, hp⟩ : ∃ p, plU c t nV = p := ⟨_, rfl⟩
      rw [hp]
      have HP := hide hp
      clear hp
      simp only [unitV]
      have hpl : (cmpL c u.yr t (valW pre)).length + 1 ≤ 2000000 := by omega
      have hW2b : w1.heap.size + 2 ≤ W2.heap.size := by omega
      have hc : W2.cell? ⟨w1.heap.size + 1 + 1, 0, none⟩ = some v := hv2.cell
      have hW2c : w1.heap.size + 1 + 1 < W2.heap.size := (Array.getElem?_eq_some_iff.1 (show W2.heap[w1.heap.size + 1 + 1]? = _ from hv2)).1
      gi_wp2_with (gi_at_builtin; refine wpListIn_append_or _ rfl _ _ 40 rfl (w1.heap.size + 2) 31 i0 (.agg #[.int .i64 0, .int .i64 0, .int .i64 0]) 3 24 Try.underlying40 hi hi0 hi1 hi2 rfl (by decide) _ _ _ rfl ((hrow2.alloc (.cells #[.int .i64 p.lv, .int .i64 p.yr, .int .i64 p.ix] 31)).alloc (.cells #[.int .i64 p.lv, .int .i64 p.yr, .int .i64 p.ix] 31)) ⟨W2.heap.size + 1, 0, none⟩ 1 1 [.int .i64 p.lv, .int .i64 p.yr, .int .i64 p.ix] rfl rfl (cells_newS _ _ _ _ _ _) (by simp [Value.oneCell']) (by unfold maxLen; omega) (by omega) (by simp; omega) (by omega) ?_; intro v' w6 hown' hgrow hor; obtain ⟨g', cap', rfl⟩ := ownsRow_succ hown'; obtain ⟨hv3, hv4, hr4, hk4, hb4⟩ := (hv2.alloc (.cells #[.int .i64 p.lv, .int .i64 p.yr, .int .i64 p.ix] 31)).appended (by decide) (hrow2.alloc (.cells #[.int .i64 p.lv, .int .i64 p.yr, .int .i64 p.ix] 31)) (by simp; omega) (by omega) hown' hgrow; have hc1 := hv3.cell; have hf1 := hv3.frozen)
      have hbx := app_bx (v' := .slice (some ⟨g', 0, none⟩) ((cmpL c u.yr t (valW pre)).length + 1) cap') (hv2.alloc (.cells #[.int .i64 p.lv, .int .i64 p.yr, .int .i64 p.ix] 31)) (hrow2.alloc (.cells #[.int .i64 p.lv, .int .i64 p.yr, .int .i64 p.ix] 31)) (by rcases Nat.eq_zero_or_pos (cmpL c u.yr t (valW pre)).length with h | h; exact .inl (hnil.2 (List.length_eq_zero_iff.1 h)); exact .inr h) hgrow hor
      have e1 : cmpL c u.yr t (valW pre ++ [x]) = cmpL c u.yr t (valW pre) ++ [p] := by rw [cmpL_yes _ HCE.out, HNV.out, HP.out]
      have hba : Below W2.heap.size W2 (W2.alloc (.cells #[.int .i64 p.lv, .int .i64 p.yr, .int .i64 p.ix] 31)) := (Below.refl _ _).alloc (Nat.le_refl _) _
      refine ⟨((HKO2.out.trans (KeepsOthers.alloc _ _)).trans hk4).from _, (HKB2.out.trans (KeepBx.alloc _ _)).trans hbx, ⟨⟨_, hv4, ?_, ?_⟩, (HM2.out.call hba).below hb4 (by omega)⟩, (HBB2.out.trans (hba.mono (by omega))).trans (hb4.mono (by omega))⟩
      · rw [valW_snoc]
        simp only
        rw [e1, flatU_snoc]
        simpa using hr4
      · rw [valW_snoc]
        simp only
        rw [e1]
        simp
    · gi_wp2
      have e1 : cmpL c u.yr t (valW pre ++ [x]) = cmpL c u.yr t (valW pre) := cmpL_no _ (by rw [HCE.out]; decide)
      refine ⟨HKO1.out.from _, HKB1.out, ⟨⟨v, HV1.out, ?_, ?_⟩, HM1'.out⟩, HBB1.out⟩
      · rw [valW_snoc]
        simp only
        rw [e1]
        exact HR1.out
      · rw [valW_snoc]
        simp only
        rw [e1]
        exact hnil
  case done =>
    rintro D xs W hD hxs ⟨⟨⟨v, hv, hrow, hnil⟩, k1⟩, hB⟩ hK
    rw [show valW xs = wkU ⟨5, u.yr, (A : Int) + 1⟩ (B - A) from hxs] at hrow hnil
    clear hxs
    have hc := hv.cell
    have j1 : BlkIs W (w.heap.size + 1 + 1 + 1) #[.slice none 0 0] 40 := k1.2.2.2.1
    have j2 : BlkIs W (w.heap.size + 1 + 1 + 1 + 1) #[.int .i64 0] 26 := k1.2.2.2.2
    have m1 : W.cell? ⟨w.heap.size + 1 + 1 + 1, 0, none⟩ = some (.slice none 0 0) := j1.cell 0
    have m2 : W.cell? ⟨w.heap.size + 1 + 1 + 1 + 1, 0, none⟩ = some (.int .i64 0) := j2.cell 0
    have f1 : W.frozen? ⟨w.heap.size + 1 + 1 + 1, 0, none⟩ = false := by simp [World.frozen?, show W.heap[w.heap.size + 1 + 1 + 1]? = _ from j1]
    have f2 : W.frozen? ⟨w.heap.size + 1 + 1 + 1 + 1, 0, none⟩ = false := by simp [World.frozen?, show W.heap[w.heap.size + 1 + 1 + 1 + 1]? = _ from j2]
    have HRW := hide hrow
    have HNL := hide hnil
    have HJ1 := hide j1
    have HJ2 := hide j2
    have HK1 := hide k1
    clear hrow hnil hv j1 j2 k1
    obtain ⟨ad, vn, vc, rfl⟩ : ∃ ad n cap, v = .slice ad n cap := by
      rcases HRW.out.2 with ⟨h1, _⟩ | ⟨g', cap', cur, h1, _⟩
      · exact ⟨_, _, _, h1⟩
      · exact ⟨_, _, _, h1⟩
    gi_wp2
    have j1 := HJ1.out
    have j2 := HJ2.out
    have hrow := HRW.out
    have hnil := HNL.out
    have hK2 : ((W.setCell ⟨w.heap.size + 1 + 1 + 1, 0, none⟩ (.slice ad vn vc)).setCell ⟨w.heap.size + 1 + 1 + 1 + 1, 0, none⟩ (.int .i64 0)).heap[D]? = some (.deferred (some [])) := ((KeepsOthers.setCell _ _ _).trans (KeepsOthers.setCell _ _ _)).same _ _ hK rfl
    refine ⟨by simp, .inl ⟨_, _, rfl, run_takeDeferred hK2, ?_⟩⟩
    have hgp := grownBy_putObj' ((W.setCell ⟨w.heap.size + 1 + 1 + 1, 0, none⟩ (.slice ad vn vc)).setCell ⟨w.heap.size + 1 + 1 + 1 + 1, 0, none⟩ (.int .i64 0)) D (.deferred none)
    have i1 := blk_own ((j1.set0 (.slice ad vn vc)).far (p := ⟨w.heap.size + 1 + 1 + 1 + 1, 0, none⟩) (by simp) (.int .i64 0)) hgp (fun r e => by cases e; exact ⟨_, hK2, rfl⟩)
    have i2 := blk_own ((j2.far (p := ⟨w.heap.size + 1 + 1 + 1, 0, none⟩) (by simp) (.slice ad vn vc)).set0 (.int .i64 0)) hgp (fun r e => by cases e; exact ⟨_, hK2, rfl⟩)
    refine ⟨_, res_compared rfl rfl i1 i2, .slice ad vn vc, rfl, ?_, ?_⟩
    · refine twV_of (b := 0) (ownsRow_putObj ?_ _ hK2 rfl) hnil
      have hr1 := hrow.kept (grownBy_setCell' W (w.heap.size + 1 + 1 + 1) (.slice ad vn vc)) (.inr (hv1row hrow j1))
      have hr2 := hr1.kept (grownBy_setCell' _ (w.heap.size + 1 + 1 + 1 + 1) (.int .i64 0)) (.inr (hv1row hr1 (j2.far (p := ⟨w.heap.size + 1 + 1 + 1, 0, none⟩) (by simp) _)))
      exact hr2.base (Nat.zero_le _)
    · exact ((hB.setCell (by simp; omega) _).setCell (by simp; omega) _).trans (belowK_b (w := w) (Nat.le_refl _) _ D _ _ (by omega) hK2 rfl rfl)
  case stop =>
    rintro D cc pre W _ _ h _
    exact h.elim
end Go.Proofs.Ytpngdeegdkifnaa

namespace Go.Proofs.Ytpngdeegdkifnaa
open Go.RowKit Go.Shelf Qd
set_option linter.unusedSimpArgs false
set_option linter.unusedVariables false
attribute [local go_sem] Oper.semAt_some

theorem res_monthly {tmps : Array Value} {W : World} {v : Value} {e : Int} (h6 : tmps[6]? = some v) (h7 : tmps[7]? = some (.int .i64 e)) :
    (results Try.f52 tmps).run Try.prog W = .ok (.tuple #[v, .int .i64 e]) W := by
  simp [results, Try.results52, go_sem, h6, h7]
theorem sz_alloc (w : World) (o : Obj) : (w.alloc o).heap.size = w.heap.size + 1 := by simp
theorem blk_three {w : World} {B : Nat} {a b c : Value} {t : TypeId} (h : BlkIs w B #[a, b, c] t) :
    (w.cell? ⟨B, 0, none⟩ = some a ∧ w.cell? ⟨B, 1, none⟩ = some b ∧ w.cell? ⟨B, 2, none⟩ = some c) ∧ (w.frozen? ⟨B, 0, none⟩ = false ∧ w.frozen? ⟨B, 1, none⟩ = false ∧ w.frozen? ⟨B, 2, none⟩ = false) := ⟨⟨h.cell 0, h.cell 1, h.cell 2⟩, h.frozen 0, h.frozen 1, h.frozen 2⟩
/-- The frame of twin.monthly: the calendar, the unit, and what it goes by. -/
def MnSt (c : Cal) (u p : Un) (B : Nat) (w : World) : Prop := BlkIs w B (calCs c) 24 ∧ BlkIs w (B + 1) #[.int .i64 u.lv, .int .i64 u.yr, .int .i64 u.ix] 31 ∧ BlkIs w (B + 2) #[.int .i64 p.lv, .int .i64 p.yr, .int .i64 p.ix] 31
theorem MnSt.call {c : Cal} {u p : Un} {B : Nat} {w w' : World} (h : MnSt c u p B w) (hb : Below w.heap.size w w') : MnSt c u p B w' := ⟨h.1.call hb, h.2.1.call hb, h.2.2.call hb⟩
theorem MnSt.alloc {c : Cal} {u p : Un} {B : Nat} {w : World} (h : MnSt c u p B w) (o : Obj) : MnSt c u p B (w.alloc o) := ⟨h.1.alloc o, h.2.1.alloc o, h.2.2.alloc o⟩
theorem MnSt.lt {c : Cal} {u p : Un} {B : Nat} {w : World} (h : MnSt c u p B w) : B + 2 < w.heap.size := h.2.2.lt
theorem MnSt.un {c : Cal} {u p : Un} {B : Nat} {w : World} (h : MnSt c u p B w) : (w.cell? ⟨B + 1, 0, none⟩ = some (.int .i64 u.lv) ∧ w.cell? ⟨B + 1, 1, none⟩ = some (.int .i64 u.yr) ∧ w.cell? ⟨B + 1, 2, none⟩ = some (.int .i64 u.ix)) := ⟨h.2.1.cell 0, h.2.1.cell 1, h.2.1.cell 2⟩
theorem MnSt.pn {c : Cal} {u p : Un} {B : Nat} {w : World} (h : MnSt c u p B w) : (w.cell? ⟨B + 1 + 1, 0, none⟩ = some (.int .i64 p.lv) ∧ w.cell? ⟨B + 1 + 1, 1, none⟩ = some (.int .i64 p.yr) ∧ w.cell? ⟨B + 1 + 1, 2, none⟩ = some (.int .i64 p.ix)) ∧ (w.frozen? ⟨B + 1 + 1, 0, none⟩ = false ∧ w.frozen? ⟨B + 1 + 1, 1, none⟩ = false ∧ w.frozen? ⟨B + 1 + 1, 2, none⟩ = false) := blk_three (B := B + 1 + 1) h.2.2
theorem mnSt_new (c : Cal) (u : Un) (w : World) : MnSt c u u w.heap.size (((w.alloc (.cells (calCs c) 24)).alloc (.cells #[.int .i64 u.lv, .int .i64 u.yr, .int .i64 u.ix] 31)).alloc (.cells #[.int .i64 u.lv, .int .i64 u.yr, .int .i64 u.ix] 31)) := by
  refine ⟨((BlkIs.new w _ _).alloc _).alloc _, ?_, ?_⟩
  · have := (BlkIs.new (w.alloc (.cells (calCs c) 24)) #[.int .i64 u.lv, .int .i64 u.yr, .int .i64 u.ix] 31).alloc (.cells #[.int .i64 u.lv, .int .i64 u.yr, .int .i64 u.ix] 31)
    simpa using this
  · have := BlkIs.new ((w.alloc (.cells (calCs c) 24)).alloc (.cells #[.int .i64 u.lv, .int .i64 u.yr, .int .i64 u.ix] 31)) #[.int .i64 u.lv, .int .i64 u.yr, .int .i64 u.ix] 31
    simpa using this
theorem MnSt.year {c : Cal} {u p : Un} {B : Nat} {w : World} (h : MnSt c u p B w) (y : Int) : MnSt c u ⟨p.lv, y, p.ix⟩ B (w.setCell ⟨B + 1 + 1, 1, none⟩ (.int .i64 y)) := ⟨h.1.far (by simp; omega) _, h.2.1.far (by simp) _, BlkIs.set3 (B := B + 1 + 1) h.2.2 _⟩

theorem MnSt.setp {c : Cal} {u p : Un} {B : Nat} {w : World} (h : MnSt c u p B w) (x y z : Int) : MnSt c u ⟨x, y, z⟩ B (((w.setCell ⟨B + 1 + 1, 0, none⟩ (.int .i64 x)).setCell ⟨B + 1 + 1, 1, none⟩ (.int .i64 y)).setCell ⟨B + 1 + 1, 2, none⟩ (.int .i64 z)) :=
  ⟨((h.1.far (by simp; omega) _).far (by simp; omega) _).far (by simp; omega) _, ((h.2.1.far (by simp) _).far (by simp) _).far (by simp) _, BlkIs.set123 (B := B + 1 + 1) h.2.2 _ _ _⟩

set_option maxRecDepth 100000 in
set_option maxHeartbeats 8000000 in
theorem monthly_n (c : Cal) (u : Un) (t : Int) (w : World) (hn : c.name.size ≤ 1000) (hU : unitE c u = 0) (ht : srv c t) (h5 : ¬ u.lv = 5) :
    Calls Try.prog 52 #[calV c, unitV u, .int .i64 t] w fun e w' => ∃ v, e = .returned (.tuple #[v, .int .i64 0]) ∧ TwV w' v (monthL c u t) ∧ Below w.heap.size w w' := by
  have hU2 := mon_same hU ht h5
  have hab := cutAB hU2
  have hb60 := nWk_bd c t (un_lv hU2).2.2.2.1
  have hd1 := dn_5 hU
  have hd2 := dn_5 hU2
  have hwl : monthL c u t = wkU ⟨5, t, (cutA c ⟨u.lv, t, u.ix⟩ : Int) + 1⟩ (cutB c ⟨u.lv, t, u.ix⟩ - cutA c ⟨u.lv, t, u.ix⟩) := by rw [monthL, if_neg h5]; rfl
  rw [hwl]
  clear hwl
  simp only at hab hd2
  have h5b : (u.lv == 5) = false := by simpa using h5
  obtain ⟨i0, hi, hi0, hi1, hi2⟩ := info_parts unit_info
  obtain ⟨A0, hA0⟩ : ∃ A, cutA c u = A := ⟨_, rfl⟩
  obtain ⟨B0, hB0⟩ : ∃ B, cutB c u = B := ⟨_, rfl⟩
  obtain ⟨A, hAA⟩ : ∃ A, cutA c ⟨u.lv, t, u.ix⟩ = A := ⟨_, rfl⟩
  obtain ⟨B, hBB⟩ : ∃ B, cutB c ⟨u.lv, t, u.ix⟩ = B := ⟨_, rfl⟩
  obtain ⟨N, hNN⟩ : ∃ N, nWk c t = N := ⟨_, rfl⟩
  rw [hA0, hB0] at hd1
  rw [hAA, hBB] at hd2 hab ⊢
  rw [hNN] at hab hb60
  have HD1 := hide hd1
  have HD2 := hide hd2
  clear hd1 hd2 hU hU2 ht h5 hA0 hB0 hAA hBB hNN
  simp only [calV, unitV]
  refine (callsIn_wide (n := 5)).1 ?_
  refine callsIn_of_wp_marks Try.func52 rfl trivial ?_ rfl
  simp only [Try.ntmps52, List.size_toArray, List.length_cons, List.length_nil, Nat.reduceAdd, Nat.reduceSub, Array.replicate_succ, Array.replicate_zero, List.push_toArray, List.append_toArray, List.nil_append, List.cons_append]
  gi_wp2_with fail
  have HM0 := hide (mnSt_new c u w)
  have HB0 := hide (show Below w.heap.size w (((w.alloc (.cells (calCs c) 24)).alloc (.cells #[.int .i64 u.lv, .int .i64 u.yr, .int .i64 u.ix] 31)).alloc (.cells #[.int .i64 u.lv, .int .i64 u.yr, .int .i64 u.ix] 31)) by (repeat' (first | (with_reducible exact Below.refl _ _) | (with_reducible assumption) | (with_reducible refine Below.alloc ?_ ?_ _) | (with_reducible refine below_drewN ?_ _) | (with_reducible refine Below.drew ?_) | (with_reducible refine Below.setCell ?_ ?_ _) | (with_reducible refine Below.trans ?_ (Below.mono (by assumption) ?_)) | go_size | (simp at *; omega))))
  refine ⟨trivial, (callsIn_wide.2 (down_any c u 5 _ hn)).mono ?_⟩
  rintro e w1 ⟨rfl, hb1⟩
  rw [HD1.out.1, HD1.out.2.1, HD1.out.2.2]
  simp only [unitV]
  have HM1 := hide (HM0.out.call (by exact hb1))
  have HB1 := hide (HB0.out.trans (hb1.mono (by simp; omega)))
  clear hb1
  have hz1 : w.heap.size + 2 < w1.heap.size := HM1.out.lt
  have hzA : w.heap.size < w1.heap.size := by omega
  have hzB : w.heap.size + 1 < w1.heap.size := by omega
  have hzC : w.heap.size + 1 + 1 < w1.heap.size := by omega
  obtain ⟨q0, q1, q2, q3, q4, q5, q6, q7, q8, q9, q10, q11, q12, q13⟩ := HM1.out.1.cal
  obtain ⟨u0, u1, u2⟩ := HM1.out.un
  obtain ⟨⟨p0, p1, p2⟩, p3, p4, p5⟩ := HM1.out.pn
  gi_wp2_with fail
  refine ⟨trivial, (callsIn_wide.2 (down_any c ⟨u.lv, t, u.ix⟩ 5 _ hn)).mono ?_⟩
  rintro e w2 ⟨rfl, hb2⟩
  rw [HD2.out.1, HD2.out.2.1, HD2.out.2.2]
  simp only [unitV]
  have HM2 := hide ((((HM1.out.year t).alloc _).alloc _).call (by exact hb2))
  have HB2 := hide (((((HB1.out.setCell (p := ⟨w.heap.size + 1 + 1, 1, none⟩) (by simp; omega) (.int .i64 t)).alloc (by simp; omega) _).alloc (by simp; omega) _)).trans (hb2.mono (by simp; omega)))
  clear hb2
  clear q0 q1 q2 q3 q4 q5 q6 q7 q8 q9 q10 q11 q12 q13
  clear u0 u1 u2 p0 p1 p2 p3 p4 p5 hzA hzB hzC
  have hz2 : w.heap.size + 2 < w2.heap.size := HM2.out.lt
  have hzA : w.heap.size < w2.heap.size := by omega
  have hzB : w.heap.size + 1 < w2.heap.size := by omega
  have hzC : w.heap.size + 1 + 1 < w2.heap.size := by omega
  obtain ⟨q0, q1, q2, q3, q4, q5, q6, q7, q8, q9, q10, q11, q12, q13⟩ := HM2.out.1.cal
  obtain ⟨u0, u1, u2⟩ := HM2.out.un
  obtain ⟨⟨p0, p1, p2⟩, p3, p4, p5⟩ := HM2.out.pn
  gi_wp2_with fail
  refine ⟨trivial, (weeks_fn _ ⟨5, t, (A : Int) + 1⟩ ⟨5, t, (B : Int)⟩ _).mono ?_⟩
  rintro e w3 ⟨rfl, rfl⟩
  simp only
  gi_wp2_with fail
  have HBZ := hide HB2.out
  have hzz2 : w.heap.size < w2.heap.size := hzA
  obtain ⟨W5, hW5⟩ : ∃ W5 : World, W5 = ((((w2.alloc (.cells #[.int .i64 5, .int .i64 t, .int .i64 ((A : Int) + 1)] 31)).alloc (.cells #[.int .i64 5, .int .i64 t, .int .i64 (B : Int)] 31)).alloc (.cells #[.slice none 0 0] 40)).alloc (.cells #[.int .i64 5, .int .i64 t, .int .i64 ((A : Int) + 1)] 31)).alloc (.cells #[.int .i64 5, .int .i64 t, .int .i64 (B : Int)] 31) := ⟨_, rfl⟩
  have s0 : BlkIs W5 (w2.heap.size + 3) #[.int .i64 5, .int .i64 t, .int .i64 ((A : Int) + 1)] 31 := by
    rw [hW5]
    have := (BlkIs.new (((w2.alloc (.cells #[.int .i64 5, .int .i64 t, .int .i64 ((A : Int) + 1)] 31)).alloc (.cells #[.int .i64 5, .int .i64 t, .int .i64 (B : Int)] 31)).alloc (.cells #[.slice none 0 0] 40)) #[.int .i64 5, .int .i64 t, .int .i64 ((A : Int) + 1)] 31).alloc (.cells #[.int .i64 5, .int .i64 t, .int .i64 (B : Int)] 31)
    simpa using this
  have s1 : BlkIs W5 (w2.heap.size + 4) #[.int .i64 5, .int .i64 t, .int .i64 (B : Int)] 31 := by
    rw [hW5]
    have := BlkIs.new ((((w2.alloc (.cells #[.int .i64 5, .int .i64 t, .int .i64 ((A : Int) + 1)] 31)).alloc (.cells #[.int .i64 5, .int .i64 t, .int .i64 (B : Int)] 31)).alloc (.cells #[.slice none 0 0] 40)).alloc (.cells #[.int .i64 5, .int .i64 t, .int .i64 ((A : Int) + 1)] 31)) #[.int .i64 5, .int .i64 t, .int .i64 (B : Int)] 31
    simpa using this
  have sO : Boxed W5 (w2.heap.size + 2) 40 (.slice none 0 0) := by
    rw [hW5]
    have := ((Boxed.new ((w2.alloc (.cells #[.int .i64 5, .int .i64 t, .int .i64 ((A : Int) + 1)] 31)).alloc (.cells #[.int .i64 5, .int .i64 t, .int .i64 (B : Int)] 31)) 40 (.slice none 0 0)).alloc (.cells #[.int .i64 5, .int .i64 t, .int .i64 ((A : Int) + 1)] 31)).alloc (.cells #[.int .i64 5, .int .i64 t, .int .i64 (B : Int)] 31)
    simpa using this
  have hzz : w.heap.size ≤ w2.heap.size + 2 := by omega
  have hBW : Below w.heap.size w W5 := by
    have b1 := HBZ.out
    rw [hW5]
    refine Below.alloc (Below.alloc (Below.alloc (Below.alloc (Below.alloc b1 ?_ _) ?_ _) ?_ _) ?_ _) ?_ _ <;> first | omega | (simp; omega)
  have hsz : W5.heap.size = w2.heap.size + 5 := by rw [hW5]; simp
  rw [← hW5]
  clear hW5
  simp only [sz_alloc]
  refine wpIn_rangeFunc_ownH (α := Wk ⟨5, t, ((A : Int) + 1)⟩ (B - A)) rfl (by omega) (gf := 98) (lb := #[.pointer (some ⟨w2.heap.size + 3, 0, none⟩), .pointer (some ⟨w2.heap.size + 4, 0, none⟩)]) rfl trivial (enters_of Try.func98 (by kernel_rfl) rfl)
    (weeks_stops ⟨5, t, ((A : Int) + 1)⟩ ⟨5, t, (B : Int)⟩ (B - A) (by simp only; omega) (by simp only; omega) (w2.heap.size + 3) (w2.heap.size + 4) W5 s0 s1)
    KeepBx.trans (fun W l o o' _ h1 h2 _ => keepBx_putObj W l o o' h1 h2) (Below.refl _ _) (fun _ => rfl)
    (fun (pre : List (Wk ⟨5, t, ((A : Int) + 1)⟩ (B - A))) W => (∃ v, Boxed W (w2.heap.size + 2) 40 v ∧ W.ownsRow (w2.heap.size + 2) 31 3 v (valW pre).length (flatU (valW pre)) ∧ (v = .slice none 0 0 ↔ valW pre = [])) ∧ Below w.heap.size w W)
    (fun _ _ _ => False)
    (OwnFrom.and (Own.from (holdsRow_own (w2.heap.size + 2) (w2.heap.size + 2) _ _ 3 (fun (pre : List (Wk ⟨5, t, ((A : Int) + 1)⟩ (B - A))) => (valW pre).length) (fun pre => flatU (valW pre)) (fun pre v => v = .slice none 0 0 ↔ valW pre = [])) _) (ownFrom_below (Nat.le_refl _) (by omega)))
    (fun _ _ _ _ _ hs _ _ => hs)
    ⟨⟨_, sO, World.ownsRow_nil _ _ _ _, by simp [valW]⟩, hBW⟩
    (AxW (w2.heap.size + 2) ?a1) (fun x a' => axW_own _ _ x a' _)
    ?assign ?body ?done ?stop
  case assign =>
    rintro l pre x W K ⟨⟨v, hv, hrow, hnil⟩, hB⟩ hK
    have hK2 := hide hK
    clear hK
    obtain ⟨Bx, hBx⟩ : ∃ Bx, Bx = W.heap.size := ⟨_, rfl⟩
    simp only [encW, unitV]
    gi_wp2
    rw [← hBx]
    have hK3 := fun a' (h : a' = _) => hK2.out a' _ ((KeepsOthers.alloc _ _).from _) (KeepBx.alloc _ _) ⟨⟨v, hv.alloc _, hrow.alloc _, hnil⟩, hB.alloc hB.size _⟩ ⟨Bx, by rw [hBx]; exact hv.lt, by rw [hBx]; exact BlkIs.new W #[.int .i64 x.1.lv, .int .i64 x.1.yr, .int .i64 x.1.ix] 31, h⟩
    have hK4 := hK3 _ rfl
    exact hK4
  case body =>
    rintro l pre ⟨x, hxx⟩ a' W hl ⟨r, hr⟩ ⟨⟨v, hv, hrow, hnil⟩, hB⟩ ⟨Bx, hBx, bX, rfl⟩ hlt
    simp only at bX ⊢
    have hbx0 : W.cell? ⟨Bx, 0, none⟩ = some (.int .i64 x.lv) := bX.cell 0
    have hbx1 : W.cell? ⟨Bx, 1, none⟩ = some (.int .i64 x.yr) := bX.cell 1
    have hbx2 : W.cell? ⟨Bx, 2, none⟩ = some (.int .i64 x.ix) := bX.cell 2
    have hc := hv.cell
    have hWz : w2.heap.size + 2 ≤ W.heap.size := Nat.le_of_lt hv.lt
    have hpl : (valW pre).length + 1 ≤ 2000000 := by rw [valW_len]; omega
    gi_wp2_with (gi_at_builtin; refine wpListIn_append_or _ rfl _ _ 40 rfl (w2.heap.size + 2) 31 i0 (.agg #[.int .i64 0, .int .i64 0, .int .i64 0]) 3 24 Try.underlying40 hi hi0 hi1 hi2 rfl (by decide) _ _ _ rfl (hrow.alloc _) ⟨W.heap.size, 0, none⟩ 1 1 [.int .i64 x.lv, .int .i64 x.yr, .int .i64 x.ix] rfl rfl (cells_new3 _ _ _ _ _) (by simp [Value.oneCell']) (by unfold maxLen; omega) (by omega) (by simp; omega) (by omega) ?_; intro v' w6 hown' hgrow hor; obtain ⟨g', cap', rfl⟩ := ownsRow_succ hown'; obtain ⟨hv3, hv4, hr4, hk4, hb4⟩ := hv.appended (by decide) hrow hWz (by omega) hown' hgrow; have hc1 := hv3.cell; have hf1 := hv3.frozen)
    have hbx := app_bx (v' := .slice (some ⟨g', 0, none⟩) ((valW pre).length + 1) cap') hv hrow (by rcases Nat.eq_zero_or_pos (valW pre).length with h | h; exact .inl (hnil.2 (List.length_eq_zero_iff.1 h)); exact .inr h) hgrow hor
    refine ⟨hk4.from _, hbx, ⟨_, hv4, ?_, ?_⟩, hB.trans (hb4.mono (by omega))⟩
    · rw [valW_snoc, flatU_snoc]
      simpa using hr4
    · rw [valW_snoc]
      simp
  case done =>
    rintro D xs W hD hxs ⟨⟨v, hv, hrow, hnil⟩, hB⟩ hK
    rw [show valW xs = wkU ⟨5, t, ((A : Int) + 1)⟩ (B - A) from hxs] at hrow hnil
    clear hxs
    have hc := hv.cell
    have HRW := hide hrow
    have HNL := hide hnil
    clear hrow hnil hv
    gi_wp2
    refine ⟨by simp, .inl ⟨_, _, rfl, run_takeDeferred hK, ?_⟩⟩
    refine ⟨_, res_monthly rfl rfl, v, rfl, ?_, ?_⟩
    · exact twV_of (b := 0) (ownsRow_putObj (HRW.out.base (Nat.zero_le _)) _ hK rfl) HNL.out
    · exact hB.trans (belowK_b (w := w) (Nat.le_refl _) _ D _ _ (by omega) hK rfl rfl)
  case stop =>
    rintro D cc pre W _ _ h _
    exact h.elim
end Go.Proofs.Ytpngdeegdkifnaa

namespace Go.Proofs.Ytpngdeegdkifnaa
open Go.RowKit Go.Shelf Qd
set_option linter.unusedSimpArgs false
set_option linter.unusedVariables false
attribute [local go_sem] Oper.semAt_some

set_option maxRecDepth 100000 in
set_option maxHeartbeats 8000000 in
theorem monthly_w1 (c : Cal) (u : Un) (t : Int) (w : World) (hn : c.name.size ≤ 1000) (hU : unitE c u = 0) (ht : srv c t) (h5 : u.lv = 5) (hc : (cutB c ⟨4, t, (upV c u 4).ix⟩ : Int) ≤ ((cutA c ⟨4, t, (upV c u 4).ix⟩ : Int) + 1 + (u.ix - ((cutA c (upV c u 4) : Int) + 1)))) :
    Calls Try.prog 52 #[calV c, unitV u, .int .i64 t] w fun e w' => ∃ v, e = .returned (.tuple #[v, .int .i64 0]) ∧ TwV w' v (monthL c u t) ∧ Below w.heap.size w w' := by
  obtain ⟨i, e1, e0, hg, hgt, e3, e4, e5, e6⟩ := mon_week hU ht h5
  have hab := cutAB hgt
  have hab0 := cutAB hg
  have hb60 := nWk_bd c t (un_lv hgt).2.2.2.1
  have hb61 := nWk_bd c u.yr (un_lv hg).2.2.2.1
  have hd1 := dn_5 hg
  have hd2 := dn_5 hgt
  have hibd : (i : Int) + 1 ≤ 60 := by
    have h1 := (un_lv hg).2.2.2.2.2
    have h2 := (cnt_bd c u.yr (un_lv hg).2.2.2.1 4).2
    have h3 : uI ⟨4, u.yr, (i : Int) + 1⟩ = i := by simp [uI]
    rw [h3] at h1
    simp only at h1
    omega
  have hwl : monthL c u t = wkU ⟨5, t, (cutA c ⟨4, t, (i : Int) + 1⟩ : Int) + 1 + (u.ix - ((cutA c ⟨4, u.yr, (i : Int) + 1⟩ : Int) + 1))⟩ (min (cutB c ⟨4, t, (i : Int) + 1⟩ : Int) ((cutA c ⟨4, t, (i : Int) + 1⟩ : Int) + 1 + (u.ix - ((cutA c ⟨4, u.yr, (i : Int) + 1⟩ : Int) + 1))) + 1 - ((cutA c ⟨4, t, (i : Int) + 1⟩ : Int) + 1 + (u.ix - ((cutA c ⟨4, u.yr, (i : Int) + 1⟩ : Int) + 1)))).toNat := by rw [monthL, if_pos h5, e1]
  rw [hwl]
  clear hwl
  simp only at hab hab0 hd1 hd2
  rw [e1] at hc
  simp only at hc
  rw [Int.min_eq_left hc]
  have h5b : (u.lv == 5) = true := by simp [h5]
  have hixb : 1 ≤ u.ix ∧ u.ix ≤ 61 := by omega
  obtain ⟨i0, hi, hi0, hi1, hi2⟩ := info_parts unit_info
  obtain ⟨A0, hA0⟩ : ∃ A, cutA c ⟨4, u.yr, (i : Int) + 1⟩ = A := ⟨_, rfl⟩
  obtain ⟨B0, hB0⟩ : ∃ B, cutB c ⟨4, u.yr, (i : Int) + 1⟩ = B := ⟨_, rfl⟩
  obtain ⟨A, hAA⟩ : ∃ A, cutA c ⟨4, t, (i : Int) + 1⟩ = A := ⟨_, rfl⟩
  obtain ⟨B, hBB⟩ : ∃ B, cutB c ⟨4, t, (i : Int) + 1⟩ = B := ⟨_, rfl⟩
  obtain ⟨N, hNN⟩ : ∃ N, nWk c t = N := ⟨_, rfl⟩
  obtain ⟨N0, hNN0⟩ : ∃ N, nWk c u.yr = N := ⟨_, rfl⟩
  rw [hA0, hB0] at hd1 hab0
  rw [hAA, hBB] at hd2 hab
  rw [hAA, hBB, hA0] at hc
  try rw [hAA]
  try rw [hBB]
  try rw [hA0]
  rw [hNN] at hab hb60
  rw [hNN0] at hab0 hb61
  have HD1 := hide hd1
  have HD2 := hide hd2
  have HE := hide (And.intro e0 e1)
  clear hd1 hd2 hU hg hgt ht h5 hA0 hB0 hAA hBB hNN hNN0 e0 e1 e3 e4 e5 e6
  simp only [calV, unitV]
  refine (callsIn_wide (n := 5)).1 ?_
  refine callsIn_of_wp_marks Try.func52 rfl trivial ?_ rfl
  simp only [Try.ntmps52, List.size_toArray, List.length_cons, List.length_nil, Nat.reduceAdd, Nat.reduceSub, Array.replicate_succ, Array.replicate_zero, List.push_toArray, List.append_toArray, List.nil_append, List.cons_append]
  gi_wp2_with fail
  have HM0 := hide (mnSt_new c u w)
  have HB0 := hide (show Below w.heap.size w (((w.alloc (.cells (calCs c) 24)).alloc (.cells #[.int .i64 u.lv, .int .i64 u.yr, .int .i64 u.ix] 31)).alloc (.cells #[.int .i64 u.lv, .int .i64 u.yr, .int .i64 u.ix] 31)) by (repeat' (first | (with_reducible exact Below.refl _ _) | (with_reducible assumption) | (with_reducible refine Below.alloc ?_ ?_ _) | (with_reducible refine below_drewN ?_ _) | (with_reducible refine Below.drew ?_) | (with_reducible refine Below.setCell ?_ ?_ _) | (with_reducible refine Below.trans ?_ (Below.mono (by assumption) ?_)) | go_size | (simp at *; omega))))
  refine ⟨trivial, (callsIn_wide.2 (up_any c u 4 _ hn)).mono ?_⟩
  rintro e w1 ⟨rfl, hb1⟩
  rw [HE.out.1, HE.out.2]
  simp only [unitV]
  have HM1 := hide (HM0.out.call (by exact hb1))
  have HB1 := hide (HB0.out.trans (hb1.mono (by simp; omega)))
  clear hb1
  have hz1 : w.heap.size + 2 < w1.heap.size := HM1.out.lt
  have hzA : w.heap.size < w1.heap.size := by omega
  have hzB : w.heap.size + 1 < w1.heap.size := by omega
  have hzC : w.heap.size + 1 + 1 < w1.heap.size := by omega
  obtain ⟨q0, q1, q2, q3, q4, q5, q6, q7, q8, q9, q10, q11, q12, q13⟩ := HM1.out.1.cal
  obtain ⟨u0, u1, u2⟩ := HM1.out.un
  obtain ⟨⟨p0, p1, p2⟩, p3, p4, p5⟩ := HM1.out.pn
  gi_wp2_with fail
  refine ⟨trivial, (callsIn_wide.2 (down_any c ⟨4, u.yr, (i : Int) + 1⟩ 5 _ hn)).mono ?_⟩
  rintro e w2 ⟨rfl, hb2⟩
  rw [HD1.out.1, HD1.out.2.1, HD1.out.2.2]
  simp only [unitV]
  have HM2 := hide (((HM1.out.setp 4 u.yr ((i : Int) + 1)).alloc _).call (by exact hb2))
  have HB2 := hide (((((HB1.out.setCell (p := ⟨w.heap.size + 1 + 1, 0, none⟩) (by simp; omega) (.int .i64 4)).setCell (p := ⟨w.heap.size + 1 + 1, 1, none⟩) (by simp; omega) (.int .i64 u.yr)).setCell (p := ⟨w.heap.size + 1 + 1, 2, none⟩) (by simp; omega) (.int .i64 ((i : Int) + 1))).alloc (by simp; omega) _).trans (hb2.mono (by simp; omega)))
  clear hb2
  clear q0 q1 q2 q3 q4 q5 q6 q7 q8 q9 q10 q11 q12 q13
  clear u0 u1 u2 p0 p1 p2 p3 p4 p5 hzA hzB hzC
  have hz2 : w.heap.size + 2 < w2.heap.size := HM2.out.lt
  have hzA : w.heap.size < w2.heap.size := by omega
  have hzB : w.heap.size + 1 < w2.heap.size := by omega
  have hzC : w.heap.size + 1 + 1 < w2.heap.size := by omega
  obtain ⟨q0, q1, q2, q3, q4, q5, q6, q7, q8, q9, q10, q11, q12, q13⟩ := HM2.out.1.cal
  obtain ⟨u0, u1, u2⟩ := HM2.out.un
  obtain ⟨⟨p0, p1, p2⟩, p3, p4, p5⟩ := HM2.out.pn
  gi_wp2_with fail
  refine ⟨trivial, (callsIn_wide.2 (down_any c ⟨4, t, (i : Int) + 1⟩ 5 _ hn)).mono ?_⟩
  rintro e w3 ⟨rfl, hb3⟩
  rw [HD2.out.1, HD2.out.2.1, HD2.out.2.2]
  simp only [unitV]
  have HM3 := hide ((((HM2.out.year t).alloc _).alloc _).call (by exact hb3))
  have HB3 := hide (((((HB2.out.setCell (p := ⟨w.heap.size + 1 + 1, 1, none⟩) (by simp; omega) (.int .i64 t)).alloc (by simp; omega) _).alloc (by simp; omega) _)).trans (hb3.mono (by simp; omega)))
  have GO := ((BlkIs.new (w2.setCell ⟨w.heap.size + 1 + 1, 1, none⟩ (.int .i64 t)) #[.int .i64 5, .int .i64 u.yr, .int .i64 ((A0 : Int) + 1)] 31).alloc (.cells #[.int .i64 5, .int .i64 u.yr, .int .i64 (B0 : Int)] 31)).call (by exact hb3)
  have go2 : w3.cell? ⟨w2.heap.size, 2, none⟩ = some (.int .i64 ((A0 : Int) + 1)) := by simpa using GO.cell 2
  have hw23 : w2.heap.size < w3.heap.size := by have := hb3.size; simp at this; omega
  clear hb3 GO
  clear q0 q1 q2 q3 q4 q5 q6 q7 q8 q9 q10 q11 q12 q13
  clear u0 u1 u2 p0 p1 p2 p3 p4 p5 hzA hzB hzC
  have hz3 : w.heap.size + 2 < w3.heap.size := HM3.out.lt
  have hzA : w.heap.size < w3.heap.size := by omega
  have hzB : w.heap.size + 1 < w3.heap.size := by omega
  have hzC : w.heap.size + 1 + 1 < w3.heap.size := by omega
  obtain ⟨q0, q1, q2, q3, q4, q5, q6, q7, q8, q9, q10, q11, q12, q13⟩ := HM3.out.1.cal
  obtain ⟨u0, u1, u2⟩ := HM3.out.un
  obtain ⟨⟨p0, p1, p2⟩, p3, p4, p5⟩ := HM3.out.pn
  gi_wp2_with fail

  refine ⟨trivial, (weeks_fn _ ⟨5, t, ((A : Int) + 1 + (u.ix - ((A0 : Int) + 1)))⟩ ⟨5, t, (B : Int)⟩ _).mono ?_⟩
  rintro e w4 ⟨rfl, rfl⟩
  simp only
  gi_wp2_with fail
  have HBZ := hide HB3.out
  have hzz2 : w.heap.size < w3.heap.size := hzA
  obtain ⟨W5, hW5⟩ : ∃ W5 : World, W5 = ((((w3.alloc (.cells #[.int .i64 5, .int .i64 t, .int .i64 ((A : Int) + 1 + (u.ix - ((A0 : Int) + 1)))] 31)).alloc (.cells #[.int .i64 5, .int .i64 t, .int .i64 (B : Int)] 31)).alloc (.cells #[.slice none 0 0] 40)).alloc (.cells #[.int .i64 5, .int .i64 t, .int .i64 ((A : Int) + 1 + (u.ix - ((A0 : Int) + 1)))] 31)).alloc (.cells #[.int .i64 5, .int .i64 t, .int .i64 (B : Int)] 31) := ⟨_, rfl⟩
  have s0 : BlkIs W5 (w3.heap.size + 3) #[.int .i64 5, .int .i64 t, .int .i64 ((A : Int) + 1 + (u.ix - ((A0 : Int) + 1)))] 31 := by
    rw [hW5]
    have := (BlkIs.new (((w3.alloc (.cells #[.int .i64 5, .int .i64 t, .int .i64 ((A : Int) + 1 + (u.ix - ((A0 : Int) + 1)))] 31)).alloc (.cells #[.int .i64 5, .int .i64 t, .int .i64 (B : Int)] 31)).alloc (.cells #[.slice none 0 0] 40)) #[.int .i64 5, .int .i64 t, .int .i64 ((A : Int) + 1 + (u.ix - ((A0 : Int) + 1)))] 31).alloc (.cells #[.int .i64 5, .int .i64 t, .int .i64 (B : Int)] 31)
    simpa using this
  have s1 : BlkIs W5 (w3.heap.size + 4) #[.int .i64 5, .int .i64 t, .int .i64 (B : Int)] 31 := by
    rw [hW5]
    have := BlkIs.new ((((w3.alloc (.cells #[.int .i64 5, .int .i64 t, .int .i64 ((A : Int) + 1 + (u.ix - ((A0 : Int) + 1)))] 31)).alloc (.cells #[.int .i64 5, .int .i64 t, .int .i64 (B : Int)] 31)).alloc (.cells #[.slice none 0 0] 40)).alloc (.cells #[.int .i64 5, .int .i64 t, .int .i64 ((A : Int) + 1 + (u.ix - ((A0 : Int) + 1)))] 31)) #[.int .i64 5, .int .i64 t, .int .i64 (B : Int)] 31
    simpa using this
  have sO : Boxed W5 (w3.heap.size + 2) 40 (.slice none 0 0) := by
    rw [hW5]
    have := ((Boxed.new ((w3.alloc (.cells #[.int .i64 5, .int .i64 t, .int .i64 ((A : Int) + 1 + (u.ix - ((A0 : Int) + 1)))] 31)).alloc (.cells #[.int .i64 5, .int .i64 t, .int .i64 (B : Int)] 31)) 40 (.slice none 0 0)).alloc (.cells #[.int .i64 5, .int .i64 t, .int .i64 ((A : Int) + 1 + (u.ix - ((A0 : Int) + 1)))] 31)).alloc (.cells #[.int .i64 5, .int .i64 t, .int .i64 (B : Int)] 31)
    simpa using this
  have hzz : w.heap.size ≤ w3.heap.size + 2 := by omega
  have hBW : Below w.heap.size w W5 := by
    have b1 := HBZ.out
    rw [hW5]
    refine Below.alloc (Below.alloc (Below.alloc (Below.alloc (Below.alloc b1 ?_ _) ?_ _) ?_ _) ?_ _) ?_ _ <;> first | omega | (simp; omega)
  have hsz : W5.heap.size = w3.heap.size + 5 := by rw [hW5]; simp
  rw [← hW5]
  clear hW5
  simp only [sz_alloc]
  refine wpIn_rangeFunc_ownH (α := Wk ⟨5, t, ((A : Int) + 1 + (u.ix - ((A0 : Int) + 1)))⟩ ((B : Int) + 1 - ((A : Int) + 1 + (u.ix - ((A0 : Int) + 1)))).toNat) rfl (by omega) (gf := 98) (lb := #[.pointer (some ⟨w3.heap.size + 3, 0, none⟩), .pointer (some ⟨w3.heap.size + 4, 0, none⟩)]) rfl trivial (enters_of Try.func98 (by kernel_rfl) rfl)
    (weeks_stops ⟨5, t, ((A : Int) + 1 + (u.ix - ((A0 : Int) + 1)))⟩ ⟨5, t, (B : Int)⟩ ((B : Int) + 1 - ((A : Int) + 1 + (u.ix - ((A0 : Int) + 1)))).toNat rfl (by simp only; omega) (w3.heap.size + 3) (w3.heap.size + 4) W5 s0 s1)
    KeepBx.trans (fun W l o o' _ h1 h2 _ => keepBx_putObj W l o o' h1 h2) (Below.refl _ _) (fun _ => rfl)
    (fun (pre : List (Wk ⟨5, t, ((A : Int) + 1 + (u.ix - ((A0 : Int) + 1)))⟩ ((B : Int) + 1 - ((A : Int) + 1 + (u.ix - ((A0 : Int) + 1)))).toNat)) W => (∃ v, Boxed W (w3.heap.size + 2) 40 v ∧ W.ownsRow (w3.heap.size + 2) 31 3 v (valW pre).length (flatU (valW pre)) ∧ (v = .slice none 0 0 ↔ valW pre = [])) ∧ Below w.heap.size w W)
    (fun _ _ _ => False)
    (OwnFrom.and (Own.from (holdsRow_own (w3.heap.size + 2) (w3.heap.size + 2) _ _ 3 (fun (pre : List (Wk ⟨5, t, ((A : Int) + 1 + (u.ix - ((A0 : Int) + 1)))⟩ ((B : Int) + 1 - ((A : Int) + 1 + (u.ix - ((A0 : Int) + 1)))).toNat)) => (valW pre).length) (fun pre => flatU (valW pre)) (fun pre v => v = .slice none 0 0 ↔ valW pre = [])) _) (ownFrom_below (Nat.le_refl _) (by omega)))
    (fun _ _ _ _ _ hs _ _ => hs)
    ⟨⟨_, sO, World.ownsRow_nil _ _ _ _, by simp [valW]⟩, hBW⟩
    (AxW (w3.heap.size + 2) ?a1) (fun x a' => axW_own _ _ x a' _)
    ?assign ?body ?done ?stop
  case assign =>
    rintro l pre x W K ⟨⟨v, hv, hrow, hnil⟩, hB⟩ hK
    have hK2 := hide hK
    clear hK
    obtain ⟨Bx, hBx⟩ : ∃ Bx, Bx = W.heap.size := ⟨_, rfl⟩
    simp only [encW, unitV]
    gi_wp2
    rw [← hBx]
    have hK3 := fun a' (h : a' = _) => hK2.out a' _ ((KeepsOthers.alloc _ _).from _) (KeepBx.alloc _ _) ⟨⟨v, hv.alloc _, hrow.alloc _, hnil⟩, hB.alloc hB.size _⟩ ⟨Bx, by rw [hBx]; exact hv.lt, by rw [hBx]; exact BlkIs.new W #[.int .i64 x.1.lv, .int .i64 x.1.yr, .int .i64 x.1.ix] 31, h⟩
    have hK4 := hK3 _ rfl
    exact hK4
  case body =>
    rintro l pre ⟨x, hxx⟩ a' W hl ⟨r, hr⟩ ⟨⟨v, hv, hrow, hnil⟩, hB⟩ ⟨Bx, hBx, bX, rfl⟩ hlt
    simp only at bX ⊢
    have hbx0 : W.cell? ⟨Bx, 0, none⟩ = some (.int .i64 x.lv) := bX.cell 0
    have hbx1 : W.cell? ⟨Bx, 1, none⟩ = some (.int .i64 x.yr) := bX.cell 1
    have hbx2 : W.cell? ⟨Bx, 2, none⟩ = some (.int .i64 x.ix) := bX.cell 2
    have hc := hv.cell
    have hWz : w3.heap.size + 2 ≤ W.heap.size := Nat.le_of_lt hv.lt
    have hpl : (valW pre).length + 1 ≤ 2000000 := by rw [valW_len]; omega
    gi_wp2_with (gi_at_builtin; refine wpListIn_append_or _ rfl _ _ 40 rfl (w3.heap.size + 2) 31 i0 (.agg #[.int .i64 0, .int .i64 0, .int .i64 0]) 3 24 Try.underlying40 hi hi0 hi1 hi2 rfl (by decide) _ _ _ rfl (hrow.alloc _) ⟨W.heap.size, 0, none⟩ 1 1 [.int .i64 x.lv, .int .i64 x.yr, .int .i64 x.ix] rfl rfl (cells_new3 _ _ _ _ _) (by simp [Value.oneCell']) (by unfold maxLen; omega) (by omega) (by simp; omega) (by omega) ?_; intro v' w6 hown' hgrow hor; obtain ⟨g', cap', rfl⟩ := ownsRow_succ hown'; obtain ⟨hv3, hv4, hr4, hk4, hb4⟩ := hv.appended (by decide) hrow hWz (by omega) hown' hgrow; have hc1 := hv3.cell; have hf1 := hv3.frozen)
    have hbx := app_bx (v' := .slice (some ⟨g', 0, none⟩) ((valW pre).length + 1) cap') hv hrow (by rcases Nat.eq_zero_or_pos (valW pre).length with h | h; exact .inl (hnil.2 (List.length_eq_zero_iff.1 h)); exact .inr h) hgrow hor
    refine ⟨hk4.from _, hbx, ⟨_, hv4, ?_, ?_⟩, hB.trans (hb4.mono (by omega))⟩
    · rw [valW_snoc, flatU_snoc]
      simpa using hr4
    · rw [valW_snoc]
      simp
  case done =>
    rintro D xs W hD hxs ⟨⟨v, hv, hrow, hnil⟩, hB⟩ hK
    rw [show valW xs = wkU ⟨5, t, ((A : Int) + 1 + (u.ix - ((A0 : Int) + 1)))⟩ ((B : Int) + 1 - ((A : Int) + 1 + (u.ix - ((A0 : Int) + 1)))).toNat from hxs] at hrow hnil
    clear hxs
    have hc := hv.cell
    have HRW := hide hrow
    have HNL := hide hnil
    clear hrow hnil hv
    gi_wp2
    refine ⟨by simp, .inl ⟨_, _, rfl, run_takeDeferred hK, ?_⟩⟩
    refine ⟨_, res_monthly rfl rfl, v, rfl, ?_, ?_⟩
    · exact twV_of (b := 0) (ownsRow_putObj (HRW.out.base (Nat.zero_le _)) _ hK rfl) HNL.out
    · exact hB.trans (belowK_b (w := w) (Nat.le_refl _) _ D _ _ (by omega) hK rfl rfl)
  case stop =>
    rintro D cc pre W _ _ h _
    exact h.elim

set_option maxRecDepth 100000 in
set_option maxHeartbeats 8000000 in
theorem monthly_w2 (c : Cal) (u : Un) (t : Int) (w : World) (hn : c.name.size ≤ 1000) (hU : unitE c u = 0) (ht : srv c t) (h5 : u.lv = 5) (hc : ((cutA c ⟨4, t, (upV c u 4).ix⟩ : Int) + 1 + (u.ix - ((cutA c (upV c u 4) : Int) + 1))) < (cutB c ⟨4, t, (upV c u 4).ix⟩ : Int)) :
    Calls Try.prog 52 #[calV c, unitV u, .int .i64 t] w fun e w' => ∃ v, e = .returned (.tuple #[v, .int .i64 0]) ∧ TwV w' v (monthL c u t) ∧ Below w.heap.size w w' := by
  obtain ⟨i, e1, e0, hg, hgt, e3, e4, e5, e6⟩ := mon_week hU ht h5
  have hab := cutAB hgt
  have hab0 := cutAB hg
  have hb60 := nWk_bd c t (un_lv hgt).2.2.2.1
  have hb61 := nWk_bd c u.yr (un_lv hg).2.2.2.1
  have hd1 := dn_5 hg
  have hd2 := dn_5 hgt
  have hibd : (i : Int) + 1 ≤ 60 := by
    have h1 := (un_lv hg).2.2.2.2.2
    have h2 := (cnt_bd c u.yr (un_lv hg).2.2.2.1 4).2
    have h3 : uI ⟨4, u.yr, (i : Int) + 1⟩ = i := by simp [uI]
    rw [h3] at h1
    simp only at h1
    omega
  have hwl : monthL c u t = wkU ⟨5, t, (cutA c ⟨4, t, (i : Int) + 1⟩ : Int) + 1 + (u.ix - ((cutA c ⟨4, u.yr, (i : Int) + 1⟩ : Int) + 1))⟩ (min (cutB c ⟨4, t, (i : Int) + 1⟩ : Int) ((cutA c ⟨4, t, (i : Int) + 1⟩ : Int) + 1 + (u.ix - ((cutA c ⟨4, u.yr, (i : Int) + 1⟩ : Int) + 1))) + 1 - ((cutA c ⟨4, t, (i : Int) + 1⟩ : Int) + 1 + (u.ix - ((cutA c ⟨4, u.yr, (i : Int) + 1⟩ : Int) + 1)))).toNat := by rw [monthL, if_pos h5, e1]
  rw [hwl]
  clear hwl
  simp only at hab hab0 hd1 hd2
  rw [e1] at hc
  simp only at hc
  rw [Int.min_eq_right (Int.le_of_lt hc)]
  have h5b : (u.lv == 5) = true := by simp [h5]
  have hixb : 1 ≤ u.ix ∧ u.ix ≤ 61 := by omega
  obtain ⟨i0, hi, hi0, hi1, hi2⟩ := info_parts unit_info
  obtain ⟨A0, hA0⟩ : ∃ A, cutA c ⟨4, u.yr, (i : Int) + 1⟩ = A := ⟨_, rfl⟩
  obtain ⟨B0, hB0⟩ : ∃ B, cutB c ⟨4, u.yr, (i : Int) + 1⟩ = B := ⟨_, rfl⟩
  obtain ⟨A, hAA⟩ : ∃ A, cutA c ⟨4, t, (i : Int) + 1⟩ = A := ⟨_, rfl⟩
  obtain ⟨B, hBB⟩ : ∃ B, cutB c ⟨4, t, (i : Int) + 1⟩ = B := ⟨_, rfl⟩
  obtain ⟨N, hNN⟩ : ∃ N, nWk c t = N := ⟨_, rfl⟩
  obtain ⟨N0, hNN0⟩ : ∃ N, nWk c u.yr = N := ⟨_, rfl⟩
  rw [hA0, hB0] at hd1 hab0
  rw [hAA, hBB] at hd2 hab
  rw [hAA, hBB, hA0] at hc
  try rw [hAA]
  try rw [hBB]
  try rw [hA0]
  rw [hNN] at hab hb60
  rw [hNN0] at hab0 hb61
  have HD1 := hide hd1
  have HD2 := hide hd2
  have HE := hide (And.intro e0 e1)
  clear hd1 hd2 hU hg hgt ht h5 hA0 hB0 hAA hBB hNN hNN0 e0 e1 e3 e4 e5 e6
  simp only [calV, unitV]
  refine (callsIn_wide (n := 5)).1 ?_
  refine callsIn_of_wp_marks Try.func52 rfl trivial ?_ rfl
  simp only [Try.ntmps52, List.size_toArray, List.length_cons, List.length_nil, Nat.reduceAdd, Nat.reduceSub, Array.replicate_succ, Array.replicate_zero, List.push_toArray, List.append_toArray, List.nil_append, List.cons_append]
  gi_wp2_with fail
  have HM0 := hide (mnSt_new c u w)
  have HB0 := hide (show Below w.heap.size w (((w.alloc (.cells (calCs c) 24)).alloc (.cells #[.int .i64 u.lv, .int .i64 u.yr, .int .i64 u.ix] 31)).alloc (.cells #[.int .i64 u.lv, .int .i64 u.yr, .int .i64 u.ix] 31)) by (repeat' (first | (with_reducible exact Below.refl _ _) | (with_reducible assumption) | (with_reducible refine Below.alloc ?_ ?_ _) | (with_reducible refine below_drewN ?_ _) | (with_reducible refine Below.drew ?_) | (with_reducible refine Below.setCell ?_ ?_ _) | (with_reducible refine Below.trans ?_ (Below.mono (by assumption) ?_)) | go_size | (simp at *; omega))))
  refine ⟨trivial, (callsIn_wide.2 (up_any c u 4 _ hn)).mono ?_⟩
  rintro e w1 ⟨rfl, hb1⟩
  rw [HE.out.1, HE.out.2]
  simp only [unitV]
  have HM1 := hide (HM0.out.call (by exact hb1))
  have HB1 := hide (HB0.out.trans (hb1.mono (by simp; omega)))
  clear hb1
  have hz1 : w.heap.size + 2 < w1.heap.size := HM1.out.lt
  have hzA : w.heap.size < w1.heap.size := by omega
  have hzB : w.heap.size + 1 < w1.heap.size := by omega
  have hzC : w.heap.size + 1 + 1 < w1.heap.size := by omega
  obtain ⟨q0, q1, q2, q3, q4, q5, q6, q7, q8, q9, q10, q11, q12, q13⟩ := HM1.out.1.cal
  obtain ⟨u0, u1, u2⟩ := HM1.out.un
  obtain ⟨⟨p0, p1, p2⟩, p3, p4, p5⟩ := HM1.out.pn
  gi_wp2_with fail
  refine ⟨trivial, (callsIn_wide.2 (down_any c ⟨4, u.yr, (i : Int) + 1⟩ 5 _ hn)).mono ?_⟩
  rintro e w2 ⟨rfl, hb2⟩
  rw [HD1.out.1, HD1.out.2.1, HD1.out.2.2]
  simp only [unitV]
  have HM2 := hide (((HM1.out.setp 4 u.yr ((i : Int) + 1)).alloc _).call (by exact hb2))
  have HB2 := hide (((((HB1.out.setCell (p := ⟨w.heap.size + 1 + 1, 0, none⟩) (by simp; omega) (.int .i64 4)).setCell (p := ⟨w.heap.size + 1 + 1, 1, none⟩) (by simp; omega) (.int .i64 u.yr)).setCell (p := ⟨w.heap.size + 1 + 1, 2, none⟩) (by simp; omega) (.int .i64 ((i : Int) + 1))).alloc (by simp; omega) _).trans (hb2.mono (by simp; omega)))
  clear hb2
  clear q0 q1 q2 q3 q4 q5 q6 q7 q8 q9 q10 q11 q12 q13
  clear u0 u1 u2 p0 p1 p2 p3 p4 p5 hzA hzB hzC
  have hz2 : w.heap.size + 2 < w2.heap.size := HM2.out.lt
  have hzA : w.heap.size < w2.heap.size := by omega
  have hzB : w.heap.size + 1 < w2.heap.size := by omega
  have hzC : w.heap.size + 1 + 1 < w2.heap.size := by omega
  obtain ⟨q0, q1, q2, q3, q4, q5, q6, q7, q8, q9, q10, q11, q12, q13⟩ := HM2.out.1.cal
  obtain ⟨u0, u1, u2⟩ := HM2.out.un
  obtain ⟨⟨p0, p1, p2⟩, p3, p4, p5⟩ := HM2.out.pn
  gi_wp2_with fail
  refine ⟨trivial, (callsIn_wide.2 (down_any c ⟨4, t, (i : Int) + 1⟩ 5 _ hn)).mono ?_⟩
  rintro e w3 ⟨rfl, hb3⟩
  rw [HD2.out.1, HD2.out.2.1, HD2.out.2.2]
  simp only [unitV]
  have HM3 := hide ((((HM2.out.year t).alloc _).alloc _).call (by exact hb3))
  have HB3 := hide (((((HB2.out.setCell (p := ⟨w.heap.size + 1 + 1, 1, none⟩) (by simp; omega) (.int .i64 t)).alloc (by simp; omega) _).alloc (by simp; omega) _)).trans (hb3.mono (by simp; omega)))
  have GO := ((BlkIs.new (w2.setCell ⟨w.heap.size + 1 + 1, 1, none⟩ (.int .i64 t)) #[.int .i64 5, .int .i64 u.yr, .int .i64 ((A0 : Int) + 1)] 31).alloc (.cells #[.int .i64 5, .int .i64 u.yr, .int .i64 (B0 : Int)] 31)).call (by exact hb3)
  have go2 : w3.cell? ⟨w2.heap.size, 2, none⟩ = some (.int .i64 ((A0 : Int) + 1)) := by simpa using GO.cell 2
  have hw23 : w2.heap.size < w3.heap.size := by have := hb3.size; simp at this; omega
  clear hb3 GO
  clear q0 q1 q2 q3 q4 q5 q6 q7 q8 q9 q10 q11 q12 q13
  clear u0 u1 u2 p0 p1 p2 p3 p4 p5 hzA hzB hzC
  have hz3 : w.heap.size + 2 < w3.heap.size := HM3.out.lt
  have hzA : w.heap.size < w3.heap.size := by omega
  have hzB : w.heap.size + 1 < w3.heap.size := by omega
  have hzC : w.heap.size + 1 + 1 < w3.heap.size := by omega
  obtain ⟨q0, q1, q2, q3, q4, q5, q6, q7, q8, q9, q10, q11, q12, q13⟩ := HM3.out.1.cal
  obtain ⟨u0, u1, u2⟩ := HM3.out.un
  obtain ⟨⟨p0, p1, p2⟩, p3, p4, p5⟩ := HM3.out.pn
  gi_wp2_with fail

  refine ⟨trivial, (weeks_fn _ ⟨5, t, ((A : Int) + 1 + (u.ix - ((A0 : Int) + 1)))⟩ ⟨5, t, ((A : Int) + 1 + (u.ix - ((A0 : Int) + 1)))⟩ _).mono ?_⟩
  rintro e w4 ⟨rfl, rfl⟩
  simp only
  gi_wp2_with fail
  have HBZ := hide HB3.out
  have hzz2 : w.heap.size < w3.heap.size := hzA
  obtain ⟨W5, hW5⟩ : ∃ W5 : World, W5 = ((((w3.alloc (.cells #[.int .i64 5, .int .i64 t, .int .i64 ((A : Int) + 1 + (u.ix - ((A0 : Int) + 1)))] 31)).alloc (.cells #[.int .i64 5, .int .i64 t, .int .i64 ((A : Int) + 1 + (u.ix - ((A0 : Int) + 1)))] 31)).alloc (.cells #[.slice none 0 0] 40)).alloc (.cells #[.int .i64 5, .int .i64 t, .int .i64 ((A : Int) + 1 + (u.ix - ((A0 : Int) + 1)))] 31)).alloc (.cells #[.int .i64 5, .int .i64 t, .int .i64 ((A : Int) + 1 + (u.ix - ((A0 : Int) + 1)))] 31) := ⟨_, rfl⟩
  have s0 : BlkIs W5 (w3.heap.size + 3) #[.int .i64 5, .int .i64 t, .int .i64 ((A : Int) + 1 + (u.ix - ((A0 : Int) + 1)))] 31 := by
    rw [hW5]
    have := (BlkIs.new (((w3.alloc (.cells #[.int .i64 5, .int .i64 t, .int .i64 ((A : Int) + 1 + (u.ix - ((A0 : Int) + 1)))] 31)).alloc (.cells #[.int .i64 5, .int .i64 t, .int .i64 ((A : Int) + 1 + (u.ix - ((A0 : Int) + 1)))] 31)).alloc (.cells #[.slice none 0 0] 40)) #[.int .i64 5, .int .i64 t, .int .i64 ((A : Int) + 1 + (u.ix - ((A0 : Int) + 1)))] 31).alloc (.cells #[.int .i64 5, .int .i64 t, .int .i64 ((A : Int) + 1 + (u.ix - ((A0 : Int) + 1)))] 31)
    simpa using this
  have s1 : BlkIs W5 (w3.heap.size + 4) #[.int .i64 5, .int .i64 t, .int .i64 ((A : Int) + 1 + (u.ix - ((A0 : Int) + 1)))] 31 := by
    rw [hW5]
    have := BlkIs.new ((((w3.alloc (.cells #[.int .i64 5, .int .i64 t, .int .i64 ((A : Int) + 1 + (u.ix - ((A0 : Int) + 1)))] 31)).alloc (.cells #[.int .i64 5, .int .i64 t, .int .i64 ((A : Int) + 1 + (u.ix - ((A0 : Int) + 1)))] 31)).alloc (.cells #[.slice none 0 0] 40)).alloc (.cells #[.int .i64 5, .int .i64 t, .int .i64 ((A : Int) + 1 + (u.ix - ((A0 : Int) + 1)))] 31)) #[.int .i64 5, .int .i64 t, .int .i64 ((A : Int) + 1 + (u.ix - ((A0 : Int) + 1)))] 31
    simpa using this
  have sO : Boxed W5 (w3.heap.size + 2) 40 (.slice none 0 0) := by
    rw [hW5]
    have := ((Boxed.new ((w3.alloc (.cells #[.int .i64 5, .int .i64 t, .int .i64 ((A : Int) + 1 + (u.ix - ((A0 : Int) + 1)))] 31)).alloc (.cells #[.int .i64 5, .int .i64 t, .int .i64 ((A : Int) + 1 + (u.ix - ((A0 : Int) + 1)))] 31)) 40 (.slice none 0 0)).alloc (.cells #[.int .i64 5, .int .i64 t, .int .i64 ((A : Int) + 1 + (u.ix - ((A0 : Int) + 1)))] 31)).alloc (.cells #[.int .i64 5, .int .i64 t, .int .i64 ((A : Int) + 1 + (u.ix - ((A0 : Int) + 1)))] 31)
    simpa using this
  have hzz : w.heap.size ≤ w3.heap.size + 2 := by omega
  have hBW : Below w.heap.size w W5 := by
    have b1 := HBZ.out
    rw [hW5]
    refine Below.alloc (Below.alloc (Below.alloc (Below.alloc (Below.alloc b1 ?_ _) ?_ _) ?_ _) ?_ _) ?_ _ <;> first | omega | (simp; omega)
  have hsz : W5.heap.size = w3.heap.size + 5 := by rw [hW5]; simp
  rw [← hW5]
  clear hW5
  simp only [sz_alloc]
  refine wpIn_rangeFunc_ownH (α := Wk ⟨5, t, ((A : Int) + 1 + (u.ix - ((A0 : Int) + 1)))⟩ (((A : Int) + 1 + (u.ix - ((A0 : Int) + 1))) + 1 - ((A : Int) + 1 + (u.ix - ((A0 : Int) + 1)))).toNat) rfl (by omega) (gf := 98) (lb := #[.pointer (some ⟨w3.heap.size + 3, 0, none⟩), .pointer (some ⟨w3.heap.size + 4, 0, none⟩)]) rfl trivial (enters_of Try.func98 (by kernel_rfl) rfl)
    (weeks_stops ⟨5, t, ((A : Int) + 1 + (u.ix - ((A0 : Int) + 1)))⟩ ⟨5, t, ((A : Int) + 1 + (u.ix - ((A0 : Int) + 1)))⟩ (((A : Int) + 1 + (u.ix - ((A0 : Int) + 1))) + 1 - ((A : Int) + 1 + (u.ix - ((A0 : Int) + 1)))).toNat rfl (by simp only; omega) (w3.heap.size + 3) (w3.heap.size + 4) W5 s0 s1)
    KeepBx.trans (fun W l o o' _ h1 h2 _ => keepBx_putObj W l o o' h1 h2) (Below.refl _ _) (fun _ => rfl)
    (fun (pre : List (Wk ⟨5, t, ((A : Int) + 1 + (u.ix - ((A0 : Int) + 1)))⟩ (((A : Int) + 1 + (u.ix - ((A0 : Int) + 1))) + 1 - ((A : Int) + 1 + (u.ix - ((A0 : Int) + 1)))).toNat)) W => (∃ v, Boxed W (w3.heap.size + 2) 40 v ∧ W.ownsRow (w3.heap.size + 2) 31 3 v (valW pre).length (flatU (valW pre)) ∧ (v = .slice none 0 0 ↔ valW pre = [])) ∧ Below w.heap.size w W)
    (fun _ _ _ => False)
    (OwnFrom.and (Own.from (holdsRow_own (w3.heap.size + 2) (w3.heap.size + 2) _ _ 3 (fun (pre : List (Wk ⟨5, t, ((A : Int) + 1 + (u.ix - ((A0 : Int) + 1)))⟩ (((A : Int) + 1 + (u.ix - ((A0 : Int) + 1))) + 1 - ((A : Int) + 1 + (u.ix - ((A0 : Int) + 1)))).toNat)) => (valW pre).length) (fun pre => flatU (valW pre)) (fun pre v => v = .slice none 0 0 ↔ valW pre = [])) _) (ownFrom_below (Nat.le_refl _) (by omega)))
    (fun _ _ _ _ _ hs _ _ => hs)
    ⟨⟨_, sO, World.ownsRow_nil _ _ _ _, by simp [valW]⟩, hBW⟩
    (AxW (w3.heap.size + 2) ?a1) (fun x a' => axW_own _ _ x a' _)
    ?assign ?body ?done ?stop
  case assign =>
    rintro l pre x W K ⟨⟨v, hv, hrow, hnil⟩, hB⟩ hK
    have hK2 := hide hK
    clear hK
    obtain ⟨Bx, hBx⟩ : ∃ Bx, Bx = W.heap.size := ⟨_, rfl⟩
    simp only [encW, unitV]
    gi_wp2
    rw [← hBx]
    have hK3 := fun a' (h : a' = _) => hK2.out a' _ ((KeepsOthers.alloc _ _).from _) (KeepBx.alloc _ _) ⟨⟨v, hv.alloc _, hrow.alloc _, hnil⟩, hB.alloc hB.size _⟩ ⟨Bx, by rw [hBx]; exact hv.lt, by rw [hBx]; exact BlkIs.new W #[.int .i64 x.1.lv, .int .i64 x.1.yr, .int .i64 x.1.ix] 31, h⟩
    have hK4 := hK3 _ rfl
    exact hK4
  case body =>
    rintro l pre ⟨x, hxx⟩ a' W hl ⟨r, hr⟩ ⟨⟨v, hv, hrow, hnil⟩, hB⟩ ⟨Bx, hBx, bX, rfl⟩ hlt
    simp only at bX ⊢
    have hbx0 : W.cell? ⟨Bx, 0, none⟩ = some (.int .i64 x.lv) := bX.cell 0
    have hbx1 : W.cell? ⟨Bx, 1, none⟩ = some (.int .i64 x.yr) := bX.cell 1
    have hbx2 : W.cell? ⟨Bx, 2, none⟩ = some (.int .i64 x.ix) := bX.cell 2
    have hc := hv.cell
    have hWz : w3.heap.size + 2 ≤ W.heap.size := Nat.le_of_lt hv.lt
    have hpl : (valW pre).length + 1 ≤ 2000000 := by rw [valW_len]; omega
    gi_wp2_with (gi_at_builtin; refine wpListIn_append_or _ rfl _ _ 40 rfl (w3.heap.size + 2) 31 i0 (.agg #[.int .i64 0, .int .i64 0, .int .i64 0]) 3 24 Try.underlying40 hi hi0 hi1 hi2 rfl (by decide) _ _ _ rfl (hrow.alloc _) ⟨W.heap.size, 0, none⟩ 1 1 [.int .i64 x.lv, .int .i64 x.yr, .int .i64 x.ix] rfl rfl (cells_new3 _ _ _ _ _) (by simp [Value.oneCell']) (by unfold maxLen; omega) (by omega) (by simp; omega) (by omega) ?_; intro v' w6 hown' hgrow hor; obtain ⟨g', cap', rfl⟩ := ownsRow_succ hown'; obtain ⟨hv3, hv4, hr4, hk4, hb4⟩ := hv.appended (by decide) hrow hWz (by omega) hown' hgrow; have hc1 := hv3.cell; have hf1 := hv3.frozen)
    have hbx := app_bx (v' := .slice (some ⟨g', 0, none⟩) ((valW pre).length + 1) cap') hv hrow (by rcases Nat.eq_zero_or_pos (valW pre).length with h | h; exact .inl (hnil.2 (List.length_eq_zero_iff.1 h)); exact .inr h) hgrow hor
    refine ⟨hk4.from _, hbx, ⟨_, hv4, ?_, ?_⟩, hB.trans (hb4.mono (by omega))⟩
    · rw [valW_snoc, flatU_snoc]
      simpa using hr4
    · rw [valW_snoc]
      simp
  case done =>
    rintro D xs W hD hxs ⟨⟨v, hv, hrow, hnil⟩, hB⟩ hK
    rw [show valW xs = wkU ⟨5, t, ((A : Int) + 1 + (u.ix - ((A0 : Int) + 1)))⟩ (((A : Int) + 1 + (u.ix - ((A0 : Int) + 1))) + 1 - ((A : Int) + 1 + (u.ix - ((A0 : Int) + 1)))).toNat from hxs] at hrow hnil
    clear hxs
    have hc := hv.cell
    have HRW := hide hrow
    have HNL := hide hnil
    clear hrow hnil hv
    gi_wp2
    refine ⟨by simp, .inl ⟨_, _, rfl, run_takeDeferred hK, ?_⟩⟩
    refine ⟨_, res_monthly rfl rfl, v, rfl, ?_, ?_⟩
    · exact twV_of (b := 0) (ownsRow_putObj (HRW.out.base (Nat.zero_le _)) _ hK rfl) HNL.out
    · exact hB.trans (belowK_b (w := w) (Nat.le_refl _) _ D _ _ (by omega) hK rfl rfl)
  case stop =>
    rintro D cc pre W _ _ h _
    exact h.elim

theorem monthly_any (c : Cal) (u : Un) (t : Int) (w : World) (hn : c.name.size ≤ 1000) (hU : unitE c u = 0) (ht : srv c t) :
    Calls Try.prog 52 #[calV c, unitV u, .int .i64 t] w fun e w' => ∃ v, e = .returned (.tuple #[v, .int .i64 0]) ∧ TwV w' v (monthL c u t) ∧ Below w.heap.size w w' := by
  by_cases h5 : u.lv = 5
  · by_cases hc : (cutB c ⟨4, t, (upV c u 4).ix⟩ : Int) ≤ ((cutA c ⟨4, t, (upV c u 4).ix⟩ : Int) + 1 + (u.ix - ((cutA c (upV c u 4) : Int) + 1)))
    · exact monthly_w1 c u t w hn hU ht h5 hc
    · exact monthly_w2 c u t w hn hU ht h5 (by omega)
  · exact monthly_n c u t w hn hU ht h5
end Go.Proofs.Ytpngdeegdkifnaa

namespace Go.Proofs.Ytpngdeegdkifnaa
open Go.RowKit Go.Shelf Qd
set_option linter.unusedSimpArgs false
set_option linter.unusedVariables false

theorem TwV.call {w w' : World} {v : Value} {L : List Un} (h : TwV w v L) (hb : Below w.heap.size w w') : TwV w' v L := by
  rcases h with h | ⟨g, cap, h1, h2, h3⟩
  · exact .inl h
  · exact .inr ⟨g, cap, h1, h2, h3.call hb⟩

set_option maxRecDepth 100000 in
set_option maxHeartbeats 1600000 in
theorem tweeks_bad (c : Cal) (u : Un) (k : Int) (w : World) (hn : c.name.size ≤ 1000) (hU : ¬ unitE c u = 0) :
    Calls Try.prog 28 #[calV c, unitV u, .int .i64 k] w fun e w' => e = .returned (.tuple #[.slice none 0 0, .int .i64 (unitE c u)]) ∧ Below w.heap.size w w' := by
  have hU' : (unitE c u != 0) = true := by simpa using hU
  clear hU
  simp only [calV, unitV]
  go_enter Try.func28, Try.ntmps28
  go_wp2_with fail
  refine (ucheck_any c u _ hn).mono ?_
  rintro e w1 ⟨rfl, hb1⟩
  have hz1 : w.heap.size + 1 < w1.heap.size := by have := hb1.size; simp at this; omega
  have HB1 := hide (show Below w.heap.size w w1 by refine Below.trans ?_ (hb1.mono (by first | omega | (simp; done) | (simp; omega))); (repeat' (first | (with_reducible exact Below.refl _ _) | (with_reducible assumption) | (with_reducible refine Below.alloc ?_ ?_ _) | (with_reducible refine below_drewN ?_ _) | (with_reducible refine Below.drew ?_) | (with_reducible refine Below.setCell ?_ ?_ _) | (with_reducible refine Below.trans ?_ (Below.mono (by assumption) ?_)) | go_size | (simp at *; omega))))
  have HQ1 := hide (calAt_below hb1 (by simp; omega) (calAt_alloc (calAt_new w c) (by simp) _))
  have HU1 := hide (unAt_below hb1 (by simp) (unAt_new w c u))
  obtain ⟨q0, q1, q2, q3, q4, q5, q6, q7, q8, q9, q10, q11, q12, q13⟩ := HQ1.out
  obtain ⟨u0, u1, u2⟩ := HU1.out
  have hy1 : w.heap.size < w1.heap.size := by omega
  clear hb1
  have hBel := HB1.out
  go_wp2
  go_ret2
  exact ⟨rfl, by (repeat' (first | (with_reducible exact Below.refl _ _) | (with_reducible assumption) | (with_reducible refine Below.alloc ?_ ?_ _) | (with_reducible refine below_drewN ?_ _) | (with_reducible refine Below.drew ?_) | (with_reducible refine Below.setCell ?_ ?_ _) | (with_reducible refine Below.trans ?_ (Below.mono (by assumption) ?_)) | go_size | (simp at *; omega)))⟩

set_option maxRecDepth 100000 in
set_option maxHeartbeats 1600000 in
theorem tweeks_rng (c : Cal) (u : Un) (k : Int) (w : World) (hn : c.name.size ≤ 1000) (hU : unitE c u = 0) (hk : k < c.first - u.yr ∨ (c.first - u.yr ≤ k ∧ c.last - u.yr < k)) :
    Calls Try.prog 28 #[calV c, unitV u, .int .i64 k] w fun e w' => e = .returned (.tuple #[.slice none 0 0, .int .i64 11]) ∧ Below w.heap.size w w' := by
  have hf := (un_lv hU).1
  obtain ⟨hok, hk2, _, _, hy1, hy2, _⟩ := frame_ok hf
  have hyb := ok_years hk2
  have HU := hide hU
  clear hU hf hok hk2
  simp only [calV, unitV]
  go_enter Try.func28, Try.ntmps28
  go_wp2_with fail
  refine (ucheck_any c u _ hn).mono ?_
  rintro e w1 ⟨rfl, hb1⟩
  rw [HU.out]
  have hz1 : w.heap.size + 1 < w1.heap.size := by have := hb1.size; simp at this; omega
  have HB1 := hide (show Below w.heap.size w w1 by refine Below.trans ?_ (hb1.mono (by first | omega | (simp; done) | (simp; omega))); (repeat' (first | (with_reducible exact Below.refl _ _) | (with_reducible assumption) | (with_reducible refine Below.alloc ?_ ?_ _) | (with_reducible refine below_drewN ?_ _) | (with_reducible refine Below.drew ?_) | (with_reducible refine Below.setCell ?_ ?_ _) | (with_reducible refine Below.trans ?_ (Below.mono (by assumption) ?_)) | go_size | (simp at *; omega))))
  have HQ1 := hide (calAt_below hb1 (by simp; omega) (calAt_alloc (calAt_new w c) (by simp) _))
  have HU1 := hide (unAt_below hb1 (by simp) (unAt_new w c u))
  obtain ⟨q0, q1, q2, q3, q4, q5, q6, q7, q8, q9, q10, q11, q12, q13⟩ := HQ1.out
  obtain ⟨u0, u1, u2⟩ := HU1.out
  have hy1 : w.heap.size < w1.heap.size := by omega
  clear hb1
  have hBel := HB1.out
  rcases hk with hk | ⟨hk, hk3⟩
  all_goals
    go_wp2
    all_goals first
      | (exfalso; omega)
      | (go_ret2; exact ⟨rfl, by (repeat' (first | (with_reducible exact Below.refl _ _) | (with_reducible assumption) | (with_reducible refine Below.alloc ?_ ?_ _) | (with_reducible refine below_drewN ?_ _) | (with_reducible refine Below.drew ?_) | (with_reducible refine Below.setCell ?_ ?_ _) | (with_reducible refine Below.trans ?_ (Below.mono (by assumption) ?_)) | go_size | (simp at *; omega)))⟩)
/-- What is kept in the loop over the weeks: the calendar, and they. -/
def TwSt (c : Cal) (L : List Un) (g cap B : Nat) (w0 w : World) : Prop := CalAt w B c ∧ B < w.heap.size ∧ UnsAt w g cap L ∧ g < w.heap.size ∧ Below B w0 w
theorem TwSt.call {c : Cal} {L : List Un} {g cap B : Nat} {w0 w w' : World} (h : TwSt c L g cap B w0 w) (hb : Below w.heap.size w w') : TwSt c L g cap B w0 w' := ⟨calAt_below hb h.2.1 h.1, Nat.lt_of_lt_of_le h.2.1 hb.size, h.2.2.1.call hb, Nat.lt_of_lt_of_le h.2.2.2.1 hb.size, h.2.2.2.2.trans (hb.mono (Nat.le_of_lt h.2.1))⟩
theorem TwSt.alloc {c : Cal} {L : List Un} {g cap B : Nat} {w0 w : World} (h : TwSt c L g cap B w0 w) (o : Obj) : TwSt c L g cap B w0 (w.alloc o) := h.call ((Below.refl _ _).alloc (Nat.le_refl _) _)
theorem inB_get {c : Cal} {L : List Un} (h : inB c L = true) {j : Nat} {x : Un} (hx : L[j]? = some x) : c.first ≤ x.yr ∧ x.yr ≤ c.last := inB_mem h (List.mem_of_getElem? hx)
theorem inB_all {c : Cal} {L : List Un} (h : ∀ (j : Nat) (x : Un), L[j]? = some x → c.first ≤ x.yr ∧ x.yr ≤ c.last) : inB c L = true := by
  refine List.all_eq_true.2 fun x hx => ?_
  obtain ⟨j, hj⟩ := List.mem_iff_getElem?.1 hx
  have := h j x hj
  simpa using this
theorem tw_12 {c : Cal} {u : Un} {k : Int} (hU : unitE c u = 0) (hr : c.first ≤ u.yr + k ∧ u.yr + k ≤ c.last) (h : twL0 c u k = []) : twE c u k = 12 ∧ twL c u k = [] := by
  have e : twE c u k = 12 := by rw [twE, if_pos hU, if_pos hr, h]; rfl
  exact ⟨e, tw_no (by rw [e]; decide)⟩
theorem tw_11 {c : Cal} {u : Un} {k : Int} (hU : unitE c u = 0) (hr : c.first ≤ u.yr + k ∧ u.yr + k ≤ c.last) (h : ¬ inB c (twL0 c u k) = true) : twE c u k = 11 ∧ twL c u k = [] := by
  have e : twE c u k = 11 := by rw [twE, if_pos hU, if_pos hr, if_neg h]
  exact ⟨e, tw_no (by rw [e]; decide)⟩
theorem tw_0 {c : Cal} {u : Un} {k : Int} (hU : unitE c u = 0) (hr : c.first ≤ u.yr + k ∧ u.yr + k ≤ c.last) (h : inB c (twL0 c u k) = true) (h0 : 0 < (twL0 c u k).length) : twE c u k = 0 ∧ twL c u k = twL0 c u k := by
  have e : twE c u k = 0 := by rw [twE, if_pos hU, if_pos hr, if_pos h, if_neg (by omega)]
  exact ⟨e, by rw [twL, if_pos e]⟩

set_option maxRecDepth 100000 in
set_option maxHeartbeats 3200000 in
theorem tweeks_w (c : Cal) (u : Un) (k : Int) (w : World) (hn : c.name.size ≤ 1000) (hU : unitE c u = 0) (hr : c.first ≤ u.yr + k ∧ u.yr + k ≤ c.last) (hk6 : c.kind ≠ 6) :
    Calls Try.prog 28 #[calV c, unitV u, .int .i64 k] w fun e w' => (∃ v, e = .returned (.tuple #[v, .int .i64 (twE c u k)]) ∧ TwV w' v (twL c u k)) ∧ Below w.heap.size w w' := by
  have hf := (un_lv hU).1
  have hA := (un_lv hU).2.2.2.1
  obtain ⟨hok, hk2, _, _, hy1, hy2, _⟩ := frame_ok hf
  have hyb := ok_years hk2
  have hl0 : twL0 c u k = cmpL c u.yr (u.yr + k) (wksL c u) := by simp [twL0, hk6]
  have hl60 := tw0_len hU hr
  have HOW := hide (fun (w : World) => compared_any c u (u.yr + k) w hn hU hk6 hr)
  have HU := hide hU
  have hkb : (c.kind == 6) = false := by simpa using hk6
  have H12 := hide (fun (h : twL0 c u k = []) => tw_12 hU hr h)
  have H11 := hide (fun (h : ¬ inB c (twL0 c u k) = true) => tw_11 hU hr h)
  have H0 := hide (fun (h : inB c (twL0 c u k) = true) (h0 : 0 < (twL0 c u k).length) => tw_0 hU hr h h0)
  obtain ⟨L, hL⟩ : ∃ L, twL0 c u k = L := ⟨_, rfl⟩
  rw [← hl0] at HOW
  rw [hL] at HOW hl60 H12 H11 H0
  have hyb2 : 1602 ≤ c.first ∧ c.last ≤ 9996 := ⟨hyb.2.2.1, hyb.2.2.2.1⟩
  clear hU hf hok hk2 hk6 hA hl0 hL hyb
  simp only [calV, unitV]
  go_enter Try.func28, Try.ntmps28
  go_wp2_with fail
  refine (ucheck_any c u _ hn).mono ?_
  rintro e w1 ⟨rfl, hb1⟩
  rw [HU.out]
  have hz1 : w.heap.size + 1 < w1.heap.size := by have := hb1.size; simp at this; omega
  have HB1 := hide (show Below w.heap.size w w1 by refine Below.trans ?_ (hb1.mono (by first | omega | (simp; done) | (simp; omega))); (repeat' (first | (with_reducible exact Below.refl _ _) | (with_reducible assumption) | (with_reducible refine Below.alloc ?_ ?_ _) | (with_reducible refine below_drewN ?_ _) | (with_reducible refine Below.drew ?_) | (with_reducible refine Below.setCell ?_ ?_ _) | (with_reducible refine Below.trans ?_ (Below.mono (by assumption) ?_)) | go_size | (simp at *; omega))))
  have HQ1 := hide (calAt_below hb1 (by simp; omega) (calAt_alloc (calAt_new w c) (by simp) _))
  have HU1 := hide (unAt_below hb1 (by simp) (unAt_new w c u))
  obtain ⟨q0, q1, q2, q3, q4, q5, q6, q7, q8, q9, q10, q11, q12, q13⟩ := HQ1.out
  obtain ⟨u0, u1, u2⟩ := HU1.out
  have hy1 : w.heap.size < w1.heap.size := by omega
  clear hb1
  go_wp2_with fail
  all_goals first
    | (exfalso; omega)
    | skip
  refine (HOW.out _).mono ?_
  rintro e w2 ⟨v, rfl, hv, hb2⟩
  have hs2 := hb2.size
  have HQ2 := hide (calAt_below hb2 (by omega) HQ1.out)
  have HB2 := hide (HB1.out.trans (hb2.mono (by omega)))
  clear hb2 u0 u1 u2
  clear q0 q1 q2 q3 q4 q5 q6 q7 q8 q9 q10 q11 q12 q13
  rcases hv with ⟨hLn, rfl⟩ | ⟨g, cap, rfl, hlp, hun⟩
  · have HEQ := hide (H12.out hLn)
    obtain ⟨q0, q1, q2, q3, q4, q5, q6, q7, q8, q9, q10, q11, q12, q13⟩ := HQ2.out
    go_wp2_with fail
    go_loopw [55] (fun s wr => s = .int .i64 0 ∧ Below w.heap.size w wr) (fun s _ => (500 - intOf s).toNat)
    case atStart => exact ⟨rfl, HB2.out⟩
    case round =>
      obtain ⟨rfl, hBel⟩ := hrel
      go_wp2
      go_ret2
      rw [HEQ.out.1, HEQ.out.2]
      exact ⟨⟨_, rfl, .inl ⟨rfl, rfl⟩⟩, by (repeat' (first | (with_reducible exact Below.refl _ _) | (with_reducible assumption) | (with_reducible refine Below.alloc ?_ ?_ _) | (with_reducible refine below_drewN ?_ _) | (with_reducible refine Below.drew ?_) | (with_reducible refine Below.setCell ?_ ?_ _) | (with_reducible refine Below.trans ?_ (Below.mono (by assumption) ?_)) | go_size | (simp at *; omega)))⟩
  · have hgl := hun.lt hlp
    have HS2 := hide (show TwSt c L g cap w.heap.size w w2 from ⟨HQ2.out, by omega, hun, hgl.1, HB2.out⟩)
    clear hun
    by_cases hin : inB c L = true
    · have HEQ := hide (H0.out hin hlp)
      have HIN := hide hin
      clear hin
      obtain ⟨q0, q1, q2, q3, q4, q5, q6, q7, q8, q9, q10, q11, q12, q13⟩ := HQ2.out
      go_wp2_with fail
      go_loopw [55] (fun s wr => ∃ j : Nat, s = .int .i64 j ∧ j ≤ L.length ∧ TwSt c L g cap w.heap.size w wr) (fun s _ => (500 - intOf s).toNat)
      case atStart => exact ⟨0, rfl, Nat.zero_le _, HS2.out⟩
      case round =>
        obtain ⟨j, rfl, hj, hS⟩ := hrel
        have HS := hide hS
        clear hS
        clear q0 q1 q2 q3 q4 q5 q6 q7 q8 q9 q10 q11 q12 q13
        obtain ⟨q0, q1, q2, q3, q4, q5, q6, q7, q8, q9, q10, q11, q12, q13⟩ := HS.out.1
        have hB2 := HS.out.2.1
        have hG2 := HS.out.2.2.2.1
        have hBel := HS.out.2.2.2.2
        by_cases hlt : j < L.length
        · obtain ⟨x, hx⟩ : ∃ x, L[j]? = some x := ⟨_, List.getElem?_eq_getElem hlt⟩
          have hxy := inB_get HIN.out hx
          obtain ⟨a0, a1, a2⟩ := UnsAt.cell HS.out.2.2.1 hx
          clear hx
          have hi1 : (0 : Int) ≤ (j : Int) := by omega
          have hi3 : (j : Int) < (L.length : Int) := by omega
          go_wp2
          all_goals first
            | (exfalso; omega)
            | skip
          go_roundw
          case rel => exact ⟨j + 1, by go_num, by omega, HS.out.call (by (repeat' (first | (with_reducible exact Below.refl _ _) | (with_reducible assumption) | (with_reducible refine Below.alloc ?_ ?_ _) | (with_reducible refine below_drewN ?_ _) | (with_reducible refine Below.drew ?_) | (with_reducible refine Below.setCell ?_ ?_ _) | (with_reducible refine Below.trans ?_ (Below.mono (by assumption) ?_)) | go_size | (simp at *; omega))))⟩
          case measure => simp [intOf]; omega
        · go_wp2
          all_goals first
            | (exfalso; omega)
            | (go_ret2; rw [HEQ.out.1, HEQ.out.2]; exact ⟨⟨_, rfl, .inr ⟨g, cap, rfl, hlp, HS.out.2.2.1⟩⟩, by (repeat' (first | (with_reducible exact Below.refl _ _) | (with_reducible assumption) | (with_reducible refine Below.alloc ?_ ?_ _) | (with_reducible refine below_drewN ?_ _) | (with_reducible refine Below.drew ?_) | (with_reducible refine Below.setCell ?_ ?_ _) | (with_reducible refine Below.trans ?_ (Below.mono (by assumption) ?_)) | go_size | (simp at *; omega)))⟩)
    · have HEQ := hide (H11.out hin)
      have HIN := hide hin
      clear hin
      obtain ⟨q0, q1, q2, q3, q4, q5, q6, q7, q8, q9, q10, q11, q12, q13⟩ := HQ2.out
      go_wp2_with fail
      go_loopw [55] (fun s wr => ∃ j : Nat, s = .int .i64 j ∧ j ≤ L.length ∧ Hid (∀ (i : Nat) (x : Un), i < j → L[i]? = some x → c.first ≤ x.yr ∧ x.yr ≤ c.last) ∧ TwSt c L g cap w.heap.size w wr) (fun s _ => (500 - intOf s).toNat)
      case atStart => exact ⟨0, rfl, Nat.zero_le _, hide (fun i x h => by omega), HS2.out⟩
      case round =>
        obtain ⟨j, rfl, hj, HI, hS⟩ := hrel
        have HS := hide hS
        clear hS
        clear q0 q1 q2 q3 q4 q5 q6 q7 q8 q9 q10 q11 q12 q13
        obtain ⟨q0, q1, q2, q3, q4, q5, q6, q7, q8, q9, q10, q11, q12, q13⟩ := HS.out.1
        have hB2 := HS.out.2.1
        have hG2 := HS.out.2.2.2.1
        have hBel := HS.out.2.2.2.2
        by_cases hlt : j < L.length
        · obtain ⟨x, hx⟩ : ∃ x, L[j]? = some x := ⟨_, List.getElem?_eq_getElem hlt⟩
          obtain ⟨a0, a1, a2⟩ := UnsAt.cell HS.out.2.2.1 hx
          have HX := hide hx
          clear hx
          have hi1 : (0 : Int) ≤ (j : Int) := by omega
          have hi3 : (j : Int) < (L.length : Int) := by omega
          by_cases hxy : c.first ≤ x.yr ∧ x.yr ≤ c.last
          · go_wp2
            all_goals first
              | (exfalso; omega)
              | skip
            go_roundw
            case rel => exact ⟨j + 1, by go_num, by omega, hide (fun i y h1 h2 => by
              rcases Nat.lt_or_ge i j with h | h
              · exact HI.out i y h h2
              · have : i = j := by omega
                subst this
                have h3 := HX.out
                rw [h2] at h3
                cases h3
                exact hxy), HS.out.call (by (repeat' (first | (with_reducible exact Below.refl _ _) | (with_reducible assumption) | (with_reducible refine Below.alloc ?_ ?_ _) | (with_reducible refine below_drewN ?_ _) | (with_reducible refine Below.drew ?_) | (with_reducible refine Below.setCell ?_ ?_ _) | (with_reducible refine Below.trans ?_ (Below.mono (by assumption) ?_)) | go_size | (simp at *; omega))))⟩
            case measure => simp [intOf]; omega
          · rcases (show x.yr < c.first ∨ (c.first ≤ x.yr ∧ c.last < x.yr) by omega) with h | ⟨h, h2⟩
            all_goals
              go_wp2
              all_goals first
                | (exfalso; omega)
                | (go_ret2; rw [HEQ.out.1, HEQ.out.2]; exact ⟨⟨_, rfl, .inl ⟨rfl, rfl⟩⟩, by (repeat' (first | (with_reducible exact Below.refl _ _) | (with_reducible assumption) | (with_reducible refine Below.alloc ?_ ?_ _) | (with_reducible refine below_drewN ?_ _) | (with_reducible refine Below.drew ?_) | (with_reducible refine Below.setCell ?_ ?_ _) | (with_reducible refine Below.trans ?_ (Below.mono (by assumption) ?_)) | go_size | (simp at *; omega)))⟩)
        · exact absurd (inB_all (fun i x hx => HI.out i x (by have := (List.getElem?_eq_some_iff.1 hx).1; omega) hx)) HIN.out

set_option maxRecDepth 100000 in
set_option maxHeartbeats 3200000 in
theorem tweeks_m (c : Cal) (u : Un) (k : Int) (w : World) (hn : c.name.size ≤ 1000) (hU : unitE c u = 0) (hr : c.first ≤ u.yr + k ∧ u.yr + k ≤ c.last) (hk6 : c.kind = 6) :
    Calls Try.prog 28 #[calV c, unitV u, .int .i64 k] w fun e w' => (∃ v, e = .returned (.tuple #[v, .int .i64 (twE c u k)]) ∧ TwV w' v (twL c u k)) ∧ Below w.heap.size w w' := by
  have hf := (un_lv hU).1
  have hA := (un_lv hU).2.2.2.1
  obtain ⟨hok, hk2, _, _, hy1, hy2, _⟩ := frame_ok hf
  have hyb := ok_years hk2
  have hl0 : twL0 c u k = monthL c u (u.yr + k) := by simp [twL0, hk6]
  have hl60 := tw0_len hU hr
  have HOW := hide (fun (w : World) => monthly_any c u (u.yr + k) w hn hU hr)
  have HU := hide hU
  have hkb : (c.kind == 6) = true := by simp [hk6]
  have H12 := hide (fun (h : twL0 c u k = []) => tw_12 hU hr h)
  have H11 := hide (fun (h : ¬ inB c (twL0 c u k) = true) => tw_11 hU hr h)
  have H0 := hide (fun (h : inB c (twL0 c u k) = true) (h0 : 0 < (twL0 c u k).length) => tw_0 hU hr h h0)
  obtain ⟨L, hL⟩ : ∃ L, twL0 c u k = L := ⟨_, rfl⟩
  rw [← hl0] at HOW
  rw [hL] at HOW hl60 H12 H11 H0
  have hyb2 : 1602 ≤ c.first ∧ c.last ≤ 9996 := ⟨hyb.2.2.1, hyb.2.2.2.1⟩
  clear hU hf hok hk2 hk6 hA hl0 hL hyb
  simp only [calV, unitV]
  go_enter Try.func28, Try.ntmps28
  go_wp2_with fail
  refine (ucheck_any c u _ hn).mono ?_
  rintro e w1 ⟨rfl, hb1⟩
  rw [HU.out]
  have hz1 : w.heap.size + 1 < w1.heap.size := by have := hb1.size; simp at this; omega
  have HB1 := hide (show Below w.heap.size w w1 by refine Below.trans ?_ (hb1.mono (by first | omega | (simp; done) | (simp; omega))); (repeat' (first | (with_reducible exact Below.refl _ _) | (with_reducible assumption) | (with_reducible refine Below.alloc ?_ ?_ _) | (with_reducible refine below_drewN ?_ _) | (with_reducible refine Below.drew ?_) | (with_reducible refine Below.setCell ?_ ?_ _) | (with_reducible refine Below.trans ?_ (Below.mono (by assumption) ?_)) | go_size | (simp at *; omega))))
  have HQ1 := hide (calAt_below hb1 (by simp; omega) (calAt_alloc (calAt_new w c) (by simp) _))
  have HU1 := hide (unAt_below hb1 (by simp) (unAt_new w c u))
  obtain ⟨q0, q1, q2, q3, q4, q5, q6, q7, q8, q9, q10, q11, q12, q13⟩ := HQ1.out
  obtain ⟨u0, u1, u2⟩ := HU1.out
  have hy1 : w.heap.size < w1.heap.size := by omega
  clear hb1
  go_wp2_with fail
  all_goals first
    | (exfalso; omega)
    | skip
  refine (HOW.out _).mono ?_
  rintro e w2 ⟨v, rfl, hv, hb2⟩
  have hs2 := hb2.size
  have HQ2 := hide (calAt_below hb2 (by omega) HQ1.out)
  have HB2 := hide (HB1.out.trans (hb2.mono (by omega)))
  clear hb2 u0 u1 u2
  clear q0 q1 q2 q3 q4 q5 q6 q7 q8 q9 q10 q11 q12 q13
  rcases hv with ⟨hLn, rfl⟩ | ⟨g, cap, rfl, hlp, hun⟩
  · have HEQ := hide (H12.out hLn)
    obtain ⟨q0, q1, q2, q3, q4, q5, q6, q7, q8, q9, q10, q11, q12, q13⟩ := HQ2.out
    go_wp2_with fail
    go_loopw [55] (fun s wr => s = .int .i64 0 ∧ Below w.heap.size w wr) (fun s _ => (500 - intOf s).toNat)
    case atStart => exact ⟨rfl, HB2.out⟩
    case round =>
      obtain ⟨rfl, hBel⟩ := hrel
      go_wp2
      go_ret2
      rw [HEQ.out.1, HEQ.out.2]
      exact ⟨⟨_, rfl, .inl ⟨rfl, rfl⟩⟩, by (repeat' (first | (with_reducible exact Below.refl _ _) | (with_reducible assumption) | (with_reducible refine Below.alloc ?_ ?_ _) | (with_reducible refine below_drewN ?_ _) | (with_reducible refine Below.drew ?_) | (with_reducible refine Below.setCell ?_ ?_ _) | (with_reducible refine Below.trans ?_ (Below.mono (by assumption) ?_)) | go_size | (simp at *; omega)))⟩
  · have hgl := hun.lt hlp
    have HS2 := hide (show TwSt c L g cap w.heap.size w w2 from ⟨HQ2.out, by omega, hun, hgl.1, HB2.out⟩)
    clear hun
    by_cases hin : inB c L = true
    · have HEQ := hide (H0.out hin hlp)
      have HIN := hide hin
      clear hin
      obtain ⟨q0, q1, q2, q3, q4, q5, q6, q7, q8, q9, q10, q11, q12, q13⟩ := HQ2.out
      go_wp2_with fail
      go_loopw [55] (fun s wr => ∃ j : Nat, s = .int .i64 j ∧ j ≤ L.length ∧ TwSt c L g cap w.heap.size w wr) (fun s _ => (500 - intOf s).toNat)
      case atStart => exact ⟨0, rfl, Nat.zero_le _, HS2.out⟩
      case round =>
        obtain ⟨j, rfl, hj, hS⟩ := hrel
        have HS := hide hS
        clear hS
        clear q0 q1 q2 q3 q4 q5 q6 q7 q8 q9 q10 q11 q12 q13
        obtain ⟨q0, q1, q2, q3, q4, q5, q6, q7, q8, q9, q10, q11, q12, q13⟩ := HS.out.1
        have hB2 := HS.out.2.1
        have hG2 := HS.out.2.2.2.1
        have hBel := HS.out.2.2.2.2
        by_cases hlt : j < L.length
        · obtain ⟨x, hx⟩ : ∃ x, L[j]? = some x := ⟨_, List.getElem?_eq_getElem hlt⟩
          have hxy := inB_get HIN.out hx
          obtain ⟨a0, a1, a2⟩ := UnsAt.cell HS.out.2.2.1 hx
          clear hx
          have hi1 : (0 : Int) ≤ (j : Int) := by omega
          have hi3 : (j : Int) < (L.length : Int) := by omega
          go_wp2
          all_goals first
            | (exfalso; omega)
            | skip
          go_roundw
          case rel => exact ⟨j + 1, by go_num, by omega, HS.out.call (by (repeat' (first | (with_reducible exact Below.refl _ _) | (with_reducible assumption) | (with_reducible refine Below.alloc ?_ ?_ _) | (with_reducible refine below_drewN ?_ _) | (with_reducible refine Below.drew ?_) | (with_reducible refine Below.setCell ?_ ?_ _) | (with_reducible refine Below.trans ?_ (Below.mono (by assumption) ?_)) | go_size | (simp at *; omega))))⟩
          case measure => simp [intOf]; omega
        · go_wp2
          all_goals first
            | (exfalso; omega)
            | (go_ret2; rw [HEQ.out.1, HEQ.out.2]; exact ⟨⟨_, rfl, .inr ⟨g, cap, rfl, hlp, HS.out.2.2.1⟩⟩, by (repeat' (first | (with_reducible exact Below.refl _ _) | (with_reducible assumption) | (with_reducible refine Below.alloc ?_ ?_ _) | (with_reducible refine below_drewN ?_ _) | (with_reducible refine Below.drew ?_) | (with_reducible refine Below.setCell ?_ ?_ _) | (with_reducible refine Below.trans ?_ (Below.mono (by assumption) ?_)) | go_size | (simp at *; omega)))⟩)
    · have HEQ := hide (H11.out hin)
      have HIN := hide hin
      clear hin
      obtain ⟨q0, q1, q2, q3, q4, q5, q6, q7, q8, q9, q10, q11, q12, q13⟩ := HQ2.out
      go_wp2_with fail
      go_loopw [55] (fun s wr => ∃ j : Nat, s = .int .i64 j ∧ j ≤ L.length ∧ Hid (∀ (i : Nat) (x : Un), i < j → L[i]? = some x → c.first ≤ x.yr ∧ x.yr ≤ c.last) ∧ TwSt c L g cap w.heap.size w wr) (fun s _ => (500 - intOf s).toNat)
      case atStart => exact ⟨0, rfl, Nat.zero_le _, hide (fun i x h => by omega), HS2.out⟩
      case round =>
        obtain ⟨j, rfl, hj, HI, hS⟩ := hrel
        have HS := hide hS
        clear hS
        clear q0 q1 q2 q3 q4 q5 q6 q7 q8 q9 q10 q11 q12 q13
        obtain ⟨q0, q1, q2, q3, q4, q5, q6, q7, q8, q9, q10, q11, q12, q13⟩ := HS.out.1
        have hB2 := HS.out.2.1
        have hG2 := HS.out.2.2.2.1
        have hBel := HS.out.2.2.2.2
        by_cases hlt : j < L.length
        · obtain ⟨x, hx⟩ : ∃ x, L[j]? = some x := ⟨_, List.getElem?_eq_getElem hlt⟩
          obtain ⟨a0, a1, a2⟩ := UnsAt.cell HS.out.2.2.1 hx
          have HX := hide hx
          clear hx
          have hi1 : (0 : Int) ≤ (j : Int) := by omega
          have hi3 : (j : Int) < (L.length : Int) := by omega
          by_cases hxy : c.first ≤ x.yr ∧ x.yr ≤ c.last
          · go_wp2
            all_goals first
              | (exfalso; omega)
              | skip
            go_roundw
            case rel => exact ⟨j + 1, by go_num, by omega, hide (fun i y h1 h2 => by
              rcases Nat.lt_or_ge i j with h | h
              · exact HI.out i y h h2
              · have : i = j := by omega
                subst this
                have h3 := HX.out
                rw [h2] at h3
                cases h3
                exact hxy), HS.out.call (by (repeat' (first | (with_reducible exact Below.refl _ _) | (with_reducible assumption) | (with_reducible refine Below.alloc ?_ ?_ _) | (with_reducible refine below_drewN ?_ _) | (with_reducible refine Below.drew ?_) | (with_reducible refine Below.setCell ?_ ?_ _) | (with_reducible refine Below.trans ?_ (Below.mono (by assumption) ?_)) | go_size | (simp at *; omega))))⟩
            case measure => simp [intOf]; omega
          · rcases (show x.yr < c.first ∨ (c.first ≤ x.yr ∧ c.last < x.yr) by omega) with h | ⟨h, h2⟩
            all_goals
              go_wp2
              all_goals first
                | (exfalso; omega)
                | (go_ret2; rw [HEQ.out.1, HEQ.out.2]; exact ⟨⟨_, rfl, .inl ⟨rfl, rfl⟩⟩, by (repeat' (first | (with_reducible exact Below.refl _ _) | (with_reducible assumption) | (with_reducible refine Below.alloc ?_ ?_ _) | (with_reducible refine below_drewN ?_ _) | (with_reducible refine Below.drew ?_) | (with_reducible refine Below.setCell ?_ ?_ _) | (with_reducible refine Below.trans ?_ (Below.mono (by assumption) ?_)) | go_size | (simp at *; omega)))⟩)
        · exact absurd (inB_all (fun i x hx => HI.out i x (by have := (List.getElem?_eq_some_iff.1 hx).1; omega) hx)) HIN.out

theorem tweeks_any (c : Cal) (u : Un) (k : Int) (w : World) (hn : c.name.size ≤ 1000) :
    Calls Try.prog 28 #[calV c, unitV u, .int .i64 k] w fun e w' => (∃ v, e = .returned (.tuple #[v, .int .i64 (twE c u k)]) ∧ TwV w' v (twL c u k)) ∧ Below w.heap.size w w' := by
  by_cases hU : unitE c u = 0
  · by_cases hr : c.first ≤ u.yr + k ∧ u.yr + k ≤ c.last
    · by_cases hk6 : c.kind = 6
      · exact tweeks_m c u k w hn hU hr hk6
      · exact tweeks_w c u k w hn hU hr hk6
    · have e : twE c u k = 11 := by rw [twE, if_pos hU, if_neg hr]
      rw [e, tw_no (by rw [e]; decide)]
      refine (tweeks_rng c u k w hn hU (by omega)).mono ?_
      rintro e w' ⟨rfl, hb⟩
      exact ⟨⟨_, rfl, .inl ⟨rfl, rfl⟩⟩, hb⟩
  · have e : twE c u k = unitE c u := by rw [twE, if_neg hU]
    rw [e, tw_no (by rw [e]; exact hU)]
    refine (tweeks_bad c u k w hn hU).mono ?_
    rintro e w' ⟨rfl, hb⟩
    exact ⟨⟨_, rfl, .inl ⟨rfl, rfl⟩⟩, hb⟩
theorem twV_nil {w : World} {v : Value} {L : List Un} (h : L = []) (hv : TwV w v L) : v = .slice none 0 0 := by
  rcases hv with h1 | ⟨g, cap, h1, h2, h3⟩
  · exact h1.2
  · subst h; simp at h2
theorem twV_some {w : World} {v : Value} {L : List Un} (h : 0 < L.length) (hv : TwV w v L) : ∃ g cap, v = .slice (some ⟨g, 0, none⟩) L.length cap ∧ 0 < L.length ∧ UnsAt w g cap L := by
  rcases hv with h1 | h1
  · rw [h1.1] at h; simp at h
  · exact h1
end Go.Proofs.Ytpngdeegdkifnaa

namespace Go.Proofs.Ytpngdeegdkifnaa
open Go.RowKit Go.Shelf Qd
set_option linter.unusedSimpArgs false
set_option linter.unusedVariables false

/-- Spans as cells. -/
def flatS (l : List Sp) : List Value := l.flatMap fun s => [.int .i64 s.a, .int .i64 s.b]
theorem flatS_snoc (l : List Sp) (s : Sp) : flatS (l ++ [s]) = flatS l ++ [.int .i64 s.a, .int .i64 s.b] := by simp [flatS]
theorem flatS_len (l : List Sp) : (flatS l).length = l.length * 2 := by
  induction l with
  | nil => rfl
  | cons a l ih => simp only [flatS, List.flatMap_cons, List.length_append, List.length_cons, List.length_nil] at ih ⊢; omega
def SpsAt (w : World) (g cap : Nat) (l : List Sp) : Prop := w.ownsRow 0 35 2 (.slice (some ⟨g, 0, none⟩) l.length cap) l.length (flatS l)
theorem span_info : (Try.prog.info? 35).map (fun i => (i.zero, i.size, i.bytes)) = some (some (.agg #[.int .i64 0, .int .i64 0]), 2, 16) := by kernel_rfl
theorem flatS_last (R : List Sp) (p : Sp) : (flatS (R ++ [p]))[R.length * 2 + 1]? = some (.int .i64 p.b) := by
  rw [flatS_snoc, List.getElem?_append_right (by rw [flatS_len]; omega), flatS_len, show R.length * 2 + 1 - R.length * 2 = 1 by omega]
  rfl
theorem flatS_set (R : List Sp) (p : Sp) (x : Int) : (flatS (R ++ [p])).set (R.length * 2 + 1) (.int .i64 x) = flatS (R ++ [⟨p.a, x⟩]) := by
  rw [flatS_snoc, flatS_snoc, List.set_append_right _ _ (by rw [flatS_len]; omega), flatS_len, show R.length * 2 + 1 - R.length * 2 = 1 by omega]
  rfl
/-- A cell of a row, set. -/
theorem owns_set {w : World} {base size n g cap i : Nat} {e : TypeId} {xs : List Value} (h : w.ownsRow base e size (.slice (some ⟨g, 0, none⟩) n cap) n xs) (hi : i < n * size) (u : Value) :
    (w.setCell ⟨g, i, none⟩ u).ownsRow base e size (.slice (some ⟨g, 0, none⟩) n cap) n (xs.set i u) := by
  refine ⟨by rw [List.length_set]; exact h.1, .inr ?_⟩
  rcases h.2 with ⟨h1, _⟩ | ⟨g2, cap2, cur, h1, h2, h3, h4, h5, h6, h7⟩
  · cases h1
  · cases h1
    refine ⟨g, cap, cur.setIfInBounds i u, rfl, h2, ?_, h4, h5, by simpa using h6, ?_⟩
    · have hlt := (Array.getElem?_eq_some_iff.1 h3).1
      simp only [World.setCell, Array.getElem?_modify, if_pos rfl, h3]
      simp
    · rw [Array.toList_setIfInBounds, ← h7, List.take_set]
theorem owns_fz {w : World} {base size n g cap : Nat} {e : TypeId} {xs : List Value} (h : w.ownsRow base e size (.slice (some ⟨g, 0, none⟩) n cap) n xs) (i : Nat) : w.frozen? ⟨g, i, none⟩ = false := by
  rcases h.2 with ⟨h1, _⟩ | ⟨g2, cap2, cur, h1, h2, h3, _⟩
  · cases h1
  · cases h1
    simp [World.frozen?, h3]
theorem runs_len (l : List Sp) : (runsL l).length ≤ l.length := by
  have key : ∀ (l r : List Sp), (l.foldl runAdd r).length ≤ r.length + l.length := by
    intro l
    induction l with
    | nil => intro r; simp
    | cons s l ih =>
      intro r
      rw [List.foldl_cons]
      have h1 := ih (runAdd r s)
      have h2 : (runAdd r s).length ≤ r.length + 1 := by
        rcases List.eq_nil_or_concat r with rfl | ⟨r0, p, rfl⟩
        · simp [runAdd_nil]
        · by_cases hp : p.b = s.a - 1
          · rw [List.concat_eq_append, runAdd_join _ _ _ hp]; simp
          · rw [List.concat_eq_append, runAdd_new _ _ _ hp]; simp
      simp only [List.length_cons] at h1 ⊢
      omega
  simpa [runsL] using key l []
/-- What is kept in the loop of twin.Runs: the calendar, the weeks, the runs. -/
def RnSt (c : Cal) (L : List Un) (g cap B Bo : Nat) (R : List Sp) (v : Value) (w0 w : World) : Prop := CalAt w B c ∧ B < w.heap.size ∧ UnsAt w g cap L ∧ g < Bo ∧ Bo ≤ w.heap.size ∧ (w.ownsRow Bo 35 2 v R.length (flatS R) ∧ (v = .slice none 0 0 ↔ R = [])) ∧ B < Bo ∧ Below B w0 w
theorem RnSt.call {c : Cal} {L : List Un} {g cap B Bo : Nat} {R : List Sp} {v : Value} {w0 w w' : World} (h : RnSt c L g cap B Bo R v w0 w) (hb : Below w.heap.size w w') : RnSt c L g cap B Bo R v w0 w' := ⟨calAt_below hb h.2.1 h.1, Nat.lt_of_lt_of_le h.2.1 hb.size, h.2.2.1.call hb, h.2.2.2.1, Nat.le_trans h.2.2.2.2.1 hb.size, ⟨owns_call h.2.2.2.2.2.1.1 hb, h.2.2.2.2.2.1.2⟩, h.2.2.2.2.2.2.1, h.2.2.2.2.2.2.2.trans (hb.mono (Nat.le_of_lt h.2.1))⟩
theorem RnSt.alloc {c : Cal} {L : List Un} {g cap B Bo : Nat} {R : List Sp} {v : Value} {w0 w : World} (h : RnSt c L g cap B Bo R v w0 w) (o : Obj) : RnSt c L g cap B Bo R v w0 (w.alloc o) := h.call ((Below.refl _ _).alloc (Nat.le_refl _) _)
theorem uns_base {w w' : World} {Bo g cap : Nat} {L : List Un} (h : UnsAt w g cap L) (hg : g < Bo) (hb : Below Bo w w') : UnsAt w' g cap L := by
  refine ⟨h.1, ?_⟩
  rcases h.2 with h1 | ⟨g', cap', cur, he, h2, hg', h3⟩
  · exact .inl h1
  · cases he
    exact .inr ⟨g, cap, cur, rfl, h2, (hb.block g hg).trans hg', h3⟩
theorem cells_new2 (W : World) (a b : Value) (t : TypeId) : ∀ (j : Nat) (u : Value), [a, b][j]? = some u → (W.alloc (.cells #[a, b] t)).cell? ((⟨W.heap.size, 0, none⟩ : Addr).add j) = some u := by
  intro j u h
  match j, h with
  | 0, h => simpa [World.cell?_alloc_at, Addr.add] using h
  | 1, h => simpa [World.cell?_alloc_at, Addr.add] using h
theorem wrapIn (n : Int) (h0 : -9223372036854775808 ≤ n) (h1 : n < 9223372036854775808) : IntKind.i64.wrap n = n := by
  simp [IntKind.wrap, IntKind.bits, IntKind.signed]; omega
theorem cells_new2' (W : World) (N : Nat) (a b : Value) (t : TypeId) (hN : W.heap.size = N) : ∀ (j : Nat) (u : Value), [a, b][j]? = some u → (W.alloc (.cells #[a, b] t)).cell? ((⟨N, 0, none⟩ : Addr).add j) = some u := by
  subst hN; exact cells_new2 W a b t
theorem owns_succ_sp {w : World} {base n : Nat} {v : Value} {xs : List Value} (h : w.ownsRow base 35 2 v (n + 1) xs) : ∃ g cap, v = .slice (some ⟨g, 0, none⟩) (n + 1) cap := by
  obtain ⟨g, cap, h1, _⟩ := owns_pos h (by omega)
  exact ⟨g, cap, h1⟩

theorem RnSt.set {c : Cal} {L : List Un} {g cap B Bo g2 cap2 : Nat} {R0 : List Sp} {p : Sp} {w0 w : World} (h : RnSt c L g cap B Bo (R0 ++ [p]) (.slice (some ⟨g2, 0, none⟩) (R0.length + 1) cap2) w0 w) (x : Int) :
    RnSt c L g cap B Bo (R0 ++ [⟨p.a, x⟩]) (.slice (some ⟨g2, 0, none⟩) (R0.length + 1) cap2) w0 (w.setCell ⟨g2, R0.length * 2 + 1, none⟩ (.int .i64 x)) := by
  obtain ⟨h1, h2, h3, h4, h5, ⟨h6, h7⟩, h8, h9⟩ := h
  have hl : (R0 ++ [p]).length = R0.length + 1 := by simp
  have hl2 : (R0 ++ [(⟨p.a, x⟩ : Sp)]).length = R0.length + 1 := by simp
  rw [hl] at h6
  have hg2 : Bo ≤ g2 := by
    rcases h6.2 with ⟨e, _⟩ | ⟨g', cap', cur, e, hb, _⟩
    · cases e
    · cases e; exact hb
  have hb : Below Bo w (w.setCell ⟨g2, R0.length * 2 + 1, none⟩ (.int .i64 x)) := (Below.refl _ _).setCell hg2 _
  have ho := owns_set h6 (i := R0.length * 2 + 1) (by omega) (.int .i64 x)
  rw [flatS_set] at ho
  refine ⟨calAt_below hb h8 h1, by simpa using h2, uns_base h3 h4 hb, h4, by simpa using h5, ⟨?_, by simp⟩, h8, h9.trans (hb.mono (by omega))⟩
  rw [hl2]
  exact ho
theorem RnSt.grow {c : Cal} {L : List Un} {g cap B Bo : Nat} {R : List Sp} {S : Sp} {v v' : Value} {w0 W w' : World} (h : RnSt c L g cap B Bo R v w0 W) (o : Obj)
    (ho : w'.ownsRow Bo 35 2 v' (R.length + 1) (flatS R ++ [.int .i64 S.a, .int .i64 S.b])) (hgrow : (W.alloc o).grownBy w' v.ownBlock) :
    RnSt c L g cap B Bo (R ++ [S]) v' w0 w' := by
  obtain ⟨h1, h2, h3, h4, h5, ⟨h6, h7⟩, h8, h9⟩ := h
  have hb : Below Bo W w' := ((Below.refl Bo W).alloc h5 o).grown hgrow (by simp; omega) (fun k hk => by have := (h6.lt k hk).1; omega)
  obtain ⟨g3, cap3, rfl⟩ := owns_succ_sp ho
  have hs : W.heap.size ≤ w'.heap.size := by have := hgrow.size; simp at this; omega
  refine ⟨calAt_below hb h8 h1, by omega, uns_base h3 h4 hb, h4, by omega, ⟨?_, by simp⟩, h8, h9.trans (hb.mono (by omega))⟩
  rw [flatS_snoc]
  simpa using ho

set_option maxRecDepth 100000 in
set_option maxHeartbeats 1600000 in
theorem runs_no (c : Cal) (u : Un) (k : Int) (w : World) (hn : c.name.size ≤ 1000) (hE : ¬ twE c u k = 0) :
    Calls Try.prog 27 #[calV c, unitV u, .int .i64 k] w fun e w' => e = .returned (.tuple #[.slice none 0 0, .int .i64 (twE c u k)]) ∧ Below w.heap.size w w' := by
  have hEb : (twE c u k != 0) = true := by simpa using hE
  have HL := hide (tw_no hE)
  clear hE
  simp only [calV, unitV]
  go_enter Try.func27, Try.ntmps27
  go_wp2_with fail
  refine (tweeks_any c u k _ hn).mono ?_
  rintro e w1 ⟨⟨v, rfl, hv⟩, hb1⟩
  obtain rfl := twV_nil HL.out hv
  clear hv
  have hz1 : w.heap.size + 1 < w1.heap.size := by have := hb1.size; simp at this; omega
  have HB1 := hide (show Below w.heap.size w w1 by refine Below.trans ?_ (hb1.mono (by first | omega | (simp; done) | (simp; omega))); (repeat' (first | (with_reducible exact Below.refl _ _) | (with_reducible assumption) | (with_reducible refine Below.alloc ?_ ?_ _) | (with_reducible refine below_drewN ?_ _) | (with_reducible refine Below.drew ?_) | (with_reducible refine Below.setCell ?_ ?_ _) | (with_reducible refine Below.trans ?_ (Below.mono (by assumption) ?_)) | go_size | (simp at *; omega))))
  have HQ1 := hide (calAt_below hb1 (by simp; omega) (calAt_alloc (calAt_new w c) (by simp) _))
  have HU1 := hide (unAt_below hb1 (by simp) (unAt_new w c u))
  obtain ⟨q0, q1, q2, q3, q4, q5, q6, q7, q8, q9, q10, q11, q12, q13⟩ := HQ1.out
  obtain ⟨u0, u1, u2⟩ := HU1.out
  have hy1 : w.heap.size < w1.heap.size := by omega
  clear hb1
  have hBel := HB1.out
  go_wp2
  go_ret2
  exact ⟨rfl, by (repeat' (first | (with_reducible exact Below.refl _ _) | (with_reducible assumption) | (with_reducible refine Below.alloc ?_ ?_ _) | (with_reducible refine below_drewN ?_ _) | (with_reducible refine Below.drew ?_) | (with_reducible refine Below.setCell ?_ ?_ _) | (with_reducible refine Below.trans ?_ (Below.mono (by assumption) ?_)) | go_size | (simp at *; omega)))⟩

set_option maxRecDepth 100000 in
set_option maxHeartbeats 6400000 in
theorem runs_yes (c : Cal) (u : Un) (k : Int) (w : World) (hn : c.name.size ≤ 1000) (hE : twE c u k = 0) :
    Calls Try.prog 27 #[calV c, unitV u, .int .i64 k] w fun e w' => (∃ g cap, e = .returned (.tuple #[.slice (some ⟨g, 0, none⟩) (rnL c u k).length cap, .int .i64 0]) ∧ SpsAt w' g cap (rnL c u k)) ∧ Below w.heap.size w w' := by
  obtain ⟨f, g0, m, n, hm, hmn, hlen, hmap, q1x, q2x, q3x, hun⟩ := tw_form hE
  have hr0 : rnL c u k ≠ [] := by
    have : rnL c u k = runsL (adjS f m ++ adjS g0 n) := by rw [rnL, hmap]
    rw [this, rn_form hm (by assumption)]
    split <;> simp
  have HE := hide hE
  have HR := hide (show rnL c u k = runsL ((twL c u k).map (spV c)) from rfl)
  obtain ⟨L, hL⟩ : ∃ L, twL c u k = L := ⟨_, rfl⟩
  obtain ⟨RR, hRR⟩ : ∃ R, rnL c u k = R := ⟨_, rfl⟩
  rw [hL] at hun hlen HR
  rw [hRR] at hr0 HR ⊢
  have HU := hide (show ∀ (j : Nat) (x : Un), L[j]? = some x → unitE c x = 0 ∧ 0 ≤ (spV c x).a ∧ (spV c x).a ≤ (spV c x).b ∧ (spV c x).b ≤ 3068037 from fun j x hx => ⟨(hun x (List.mem_of_getElem? hx)).1, sp_bd2 (hun x (List.mem_of_getElem? hx)).1⟩)
  have HLL := hide hL
  have hL60 : L.length ≤ 60 ∧ 0 < L.length := by omega
  obtain ⟨i0, hi, hi0, hi1, hi2⟩ := info_parts span_info
  clear q1x q2x q3x hun hmap hlen hm hmn hE hL hRR f g0 m n
  simp only [calV, unitV]
  go_enter Try.func27, Try.ntmps27
  go_wp2_with fail
  refine (tweeks_any c u k _ hn).mono ?_
  rintro e w1 ⟨⟨v, rfl, hv⟩, hb1⟩
  rw [HE.out]
  rw [HLL.out] at hv
  obtain ⟨g, cap, rfl, _, hun⟩ := twV_some hL60.2 hv
  have hgl := hun.lt hL60.2
  have HN1 := hide hun
  clear hv hun
  have hz1 : w.heap.size + 1 < w1.heap.size := by have := hb1.size; simp at this; omega
  have HB1 := hide (show Below w.heap.size w w1 by refine Below.trans ?_ (hb1.mono (by first | omega | (simp; done) | (simp; omega))); (repeat' (first | (with_reducible exact Below.refl _ _) | (with_reducible assumption) | (with_reducible refine Below.alloc ?_ ?_ _) | (with_reducible refine below_drewN ?_ _) | (with_reducible refine Below.drew ?_) | (with_reducible refine Below.setCell ?_ ?_ _) | (with_reducible refine Below.trans ?_ (Below.mono (by assumption) ?_)) | go_size | (simp at *; omega))))
  have HQ1 := hide (calAt_below hb1 (by simp; omega) (calAt_alloc (calAt_new w c) (by simp) _))
  have HU1 := hide (unAt_below hb1 (by simp) (unAt_new w c u))
  obtain ⟨q0, q1, q2, q3, q4, q5, q6, q7, q8, q9, q10, q11, q12, q13⟩ := HQ1.out
  obtain ⟨u0, u1, u2⟩ := HU1.out
  have hy1 : w.heap.size < w1.heap.size := by omega
  clear hb1
  have HS1 := hide (show RnSt c L g cap w.heap.size w1.heap.size [] (.slice none 0 0) w w1 from ⟨HQ1.out, by omega, HN1.out, hgl.1, Nat.le_refl _, ⟨World.ownsRow_nil _ _ _ _, by simp⟩, by omega, HB1.out⟩)
  clear u0 u1 u2
  go_wp2_with fail
  go_loopw [10, 28] (fun s10 s28 wr => ∃ j : Nat, s28 = .int .i64 j ∧ j ≤ L.length ∧ RnSt c L g cap w.heap.size w1.heap.size (runsL ((L.take j).map (spV c))) s10 w wr) (fun _ s28 _ => (500 - intOf s28).toNat)
  case atStart => exact ⟨0, rfl, Nat.zero_le _, by simpa [runsL] using HS1.out⟩
  case round =>
    obtain ⟨j, rfl, hj, hS⟩ := hrel
    have HS := hide hS
    clear hS
    clear q0 q1 q2 q3 q4 q5 q6 q7 q8 q9 q10 q11 q12 q13
    obtain ⟨q0, q1, q2, q3, q4, q5, q6, q7, q8, q9, q10, q11, q12, q13⟩ := HS.out.1
    have hB2 := HS.out.2.1
    have hG2 : g < wr.heap.size := by have h1 := HS.out.2.2.2.1; have h2 := HS.out.2.2.2.2.1; omega
    by_cases hlt : j < L.length
    · obtain ⟨x, hx⟩ : ∃ x, L[j]? = some x := ⟨_, List.getElem?_eq_getElem hlt⟩
      have hxs := HU.out j x hx
      obtain ⟨a0, a1, a2⟩ := UnsAt.cell HS.out.2.2.1 hx
      have HTK := hide (show (L.take (j + 1)).map (spV c) = (L.take j).map (spV c) ++ [spV c x] by rw [List.take_add_one, hx]; simp)
      clear hx
      have hi3 : (0 : Int) ≤ (j : Int) := by omega
      have hi4 : (j : Int) < (L.length : Int) := by omega
      obtain ⟨S, hSS⟩ : ∃ S, spV c x = S := ⟨_, rfl⟩
      rw [hSS] at hxs HTK
      have HSS := hide hSS
      have HXE := hide hxs.1
      clear hSS
      go_wp2_with fail
      refine (uspan_any c x _ hn).mono ?_
      rintro e w3 ⟨rfl, hb3⟩
      rw [HSS.out, HXE.out]
      simp only [spanV]
      have HS3 := hide ((HS.out.alloc _).call hb3)
      have hs3 := hb3.size
      clear hb3
      clear q0 q1 q2 q3 q4 q5 q6 q7 q8 q9 q10 q11 q12 q13
      obtain ⟨R, hR⟩ : ∃ R, runsL ((L.take j).map (spV c)) = R := ⟨_, rfl⟩
      have HRR := hide hR
      rw [hR] at HS3
      have hRl : R.length ≤ 60 := by
        have h1 := runs_len ((L.take j).map (spV c))
        rw [hR, List.length_map, List.length_take] at h1
        omega
      clear hR
      have hBo : w1.heap.size ≤ w3.heap.size := HS3.out.2.2.2.2.1
      have hsA : 0 ≤ S.a ∧ S.a ≤ 3068037 := by omega
      have HRN := hide (show runsL ((L.take (j + 1)).map (spV c)) = runAdd R S by rw [HTK.out, runs_snoc, HRR.out])
      rcases List.eq_nil_or_concat R with hRn | ⟨R0, p, hRp⟩
      · subst hRn
        obtain rfl := HS3.out.2.2.2.2.2.1.2.2 rfl
        go_wp2_with fail
        go_quiet (fail)
        have HS4 := hide (HS3.out.call (show Below w3.heap.size w3 ((w3.alloc (.cells #[.int .i64 S.a, .int .i64 S.b] 35)).drewN nq) by (repeat' (first | (with_reducible exact Below.refl _ _) | (with_reducible assumption) | (with_reducible refine Below.alloc ?_ ?_ _) | (with_reducible refine below_drewN ?_ _) | (with_reducible refine Below.drew ?_) | (with_reducible refine Below.setCell ?_ ?_ _) | (with_reducible refine Below.trans ?_ (Below.mono (by assumption) ?_)) | go_size | (simp at *; omega)))))
        go_wp2_with ((at_builtin; refine wpList_append_own _ rfl _ _ 48 rfl w1.heap.size 35 i0 (.agg #[.int .i64 0, .int .i64 0]) 2 16 Try.underlying48 hi hi0 hi1 hi2 rfl (by decide) _ _ _ rfl (HS4.out.2.2.2.2.2.1.1.alloc _) ⟨w3.heap.size + 1, 0, none⟩ 1 1 [.int .i64 S.a, .int .i64 S.b] rfl rfl ?c1a ?c2a ?c3a ?c4a ?c5a ?_))
        case c1a => exact cells_new2' _ _ _ _ _ (by simp)
        case c2a => intro u hu; simp at hu; rcases hu with rfl | rfl <;> rfl
        case c3a => unfold maxLen; (try simp only [List.length_nil, List.length_append, List.length_cons]); omega
        case c4a => (try simp only [List.length_nil, List.length_append, List.length_cons]); omega
        case c5a => simp; omega
        · intro v' w' hown' hgrow _
          have HG := hide (HS4.out.grow (S := S) _ (by simpa using hown') hgrow)
          clear hown' hgrow
          go_wp2
          go_roundw
          case rel => exact ⟨j + 1, by go_num, by omega, by rw [HRN.out, runAdd_nil]; exact HG.out⟩
          case measure => simp [intOf]; omega
      · rw [List.concat_eq_append] at hRp
        subst hRp
        have hRl0 : R0.length ≤ 59 := by simp at hRl; omega
        have hown3 := HS3.out.2.2.2.2.2.1.1
        rw [show (R0 ++ [p]).length = R0.length + 1 by simp] at hown3
        obtain ⟨g2, cap2, rfl⟩ := owns_succ_sp hown3
        have hc3 : w3.cell? ⟨g2, R0.length * 2 + 1, none⟩ = some (.int .i64 p.b) := by have h := hown3.cells (g := g2) rfl _ _ (flatS_last R0 p); simp only [Addr.add] at h; simpa using h
        have hf3 := owns_fz hown3 (R0.length * 2 + 1)
        have hg2 : g2 < w3.heap.size := by
          rcases hown3.2 with ⟨e, _⟩ | ⟨g', cap', cur, e, _, h3, _⟩
          · cases e
          · cases e; exact (Array.getElem?_eq_some_iff.1 h3).1
        have HO3 := hide hown3
        clear hown3
        have hi5 : (0 : Int) ≤ (R0.length : Int) := by omega
        have hi6 : (R0.length : Int) < (R0.length : Int) + 1 := by omega
        have hi7 : (0 : Int) < (R0.length : Int) + 1 := by omega
        have hwr : IntKind.i64.wrap (R0.length : Int) = (R0.length : Int) := wrapIn _ (by omega) (by omega)
        by_cases hpe : p.b = S.a - 1
        · have HPE := hide hpe
          have hpb : (p.b == S.a - 1) = true := by simpa using hpe
          clear hpe
          go_wp2_with fail
          go_quiet (fail)
          have HS4 := hide (HS3.out.call (show Below w3.heap.size w3 ((w3.alloc (.cells #[.int .i64 S.a, .int .i64 S.b] 35)).drewN nq) by (repeat' (first | (with_reducible exact Below.refl _ _) | (with_reducible assumption) | (with_reducible refine Below.alloc ?_ ?_ _) | (with_reducible refine below_drewN ?_ _) | (with_reducible refine Below.drew ?_) | (with_reducible refine Below.setCell ?_ ?_ _) | (with_reducible refine Below.trans ?_ (Below.mono (by assumption) ?_)) | go_size | (simp at *; omega)))))
          go_wp2
          go_roundw
          case rel => exact ⟨j + 1, by go_num, by omega, by rw [HRN.out, runAdd_join _ _ _ HPE.out]; first | exact HS4.out.set S.b | exact (HS3.out.set S.b).alloc _⟩
          case measure => simp [intOf]; omega
        · have HPE := hide hpe
          have hpb : (p.b == S.a - 1) = false := by simpa using hpe
          clear hpe
          go_wp2_with fail
          go_quiet (fail)
          have HS4 := hide (HS3.out.call (show Below w3.heap.size w3 ((w3.alloc (.cells #[.int .i64 S.a, .int .i64 S.b] 35)).drewN nq) by (repeat' (first | (with_reducible exact Below.refl _ _) | (with_reducible assumption) | (with_reducible refine Below.alloc ?_ ?_ _) | (with_reducible refine below_drewN ?_ _) | (with_reducible refine Below.drew ?_) | (with_reducible refine Below.setCell ?_ ?_ _) | (with_reducible refine Below.trans ?_ (Below.mono (by assumption) ?_)) | go_size | (simp at *; omega)))))
          go_wp2_with ((at_builtin; refine wpList_append_own _ rfl _ _ 48 rfl w1.heap.size 35 i0 (.agg #[.int .i64 0, .int .i64 0]) 2 16 Try.underlying48 hi hi0 hi1 hi2 rfl (by decide) _ _ _ rfl ((show ((w3.alloc (.cells #[.int .i64 S.a, .int .i64 S.b] 35)).drewN nq).ownsRow w1.heap.size 35 2 (.slice (some ⟨g2, 0, none⟩) (R0.length + 1) cap2) (R0.length + 1) (flatS (R0 ++ [p])) from owns_call HO3.out (by (repeat' (first | (with_reducible exact Below.refl _ _) | (with_reducible assumption) | (with_reducible refine Below.alloc ?_ ?_ _) | (with_reducible refine below_drewN ?_ _) | (with_reducible refine Below.drew ?_) | (with_reducible refine Below.setCell ?_ ?_ _) | (with_reducible refine Below.trans ?_ (Below.mono (by assumption) ?_)) | go_size | (simp at *; omega))))).alloc _) ⟨w3.heap.size + 1, 0, none⟩ 1 1 [.int .i64 S.a, .int .i64 S.b] rfl rfl ?c1b ?c2b ?c3b ?c4b ?c5b ?_))
          case c1b => exact cells_new2' _ _ _ _ _ (by simp)
          case c2b => intro u hu; simp at hu; rcases hu with rfl | rfl <;> rfl
          case c3b => unfold maxLen; (try simp only [List.length_nil, List.length_append, List.length_cons]); omega
          case c4b => (try simp only [List.length_nil, List.length_append, List.length_cons]); omega
          case c5b => simp; omega
          · intro v' w' hown' hgrow _
            have HG := hide (HS4.out.grow (S := S) _ (by simpa using hown') hgrow)
            clear hown' hgrow
            go_wp2
            go_roundw
            case rel => exact ⟨j + 1, by go_num, by omega, by rw [HRN.out, runAdd_new _ _ _ HPE.out]; exact HG.out⟩
            case measure => simp [intOf]; omega
    · have hjl : j = L.length := by omega
      subst hjl
      have hown := HS.out.2.2.2.2.2.1
      rw [List.take_length, ← HR.out] at hown
      obtain ⟨g2, cap2, rfl, hg2⟩ := owns_pos hown.1 (List.length_pos_iff.2 hr0)
      have hBel := HS.out.2.2.2.2.2.2.2
      go_wp2
      go_ret2
      exact ⟨⟨g2, cap2, rfl, hown.1.base (Nat.zero_le _)⟩, hBel⟩
end Go.Proofs.Ytpngdeegdkifnaa

namespace Go.Proofs.Ytpngdeegdkifnaa
open Go.RowKit Qd
set_option linter.unusedSimpArgs false
set_option linter.unusedVariables false

theorem SpsAt.cell {w : World} {g cap : Nat} {l : List Sp} (h : SpsAt w g cap l) {i : Nat} {s : Sp} (hi : l[i]? = some s) : w.cell? ⟨g, i * 2, none⟩ = some (.int .i64 s.a) ∧ w.cell? ⟨g, i * 2 + 1, none⟩ = some (.int .i64 s.b) := by
  have hc := h.cells (g := g) rfl
  have key : (flatS l)[i * 2]? = some (.int .i64 s.a) ∧ (flatS l)[i * 2 + 1]? = some (.int .i64 s.b) := by
    clear hc h
    induction l generalizing i with
    | nil => simp at hi
    | cons a l ih =>
      cases i with
      | zero =>
        obtain rfl : a = s := by simpa using hi
        exact ⟨rfl, rfl⟩
      | succ i =>
        have h := ih (i := i) (by simpa using hi)
        have e : flatS (a :: l) = .int .i64 a.a :: .int .i64 a.b :: flatS l := rfl
        rw [e, show (i + 1) * 2 = i * 2 + 1 + 1 by omega, show i * 2 + 1 + 1 + 1 = i * 2 + 1 + 1 + 1 from rfl]
        simpa using h
  have h0 := hc _ _ key.1
  have h1 := hc _ _ key.2
  have e : ∀ k : Nat, (⟨g, 0, none⟩ : Addr).add k = ⟨g, k, none⟩ := by intro k; cases k <;> simp [Addr.add]
  rw [e] at h0 h1
  exact ⟨h0, h1⟩
theorem spsLt {w : World} {g cap : Nat} {l : List Sp} (h : SpsAt w g cap l) (h0 : 0 < l.length) : g < w.heap.size ∧ l.length ≤ cap := by
  rcases h.2 with ⟨h1, _⟩ | ⟨g', cap', cur, he, h2, hg, h3, _⟩
  · cases h1
  · cases he
    exact ⟨(Array.getElem?_eq_some_iff.1 hg).1, h3⟩
theorem SpsAt.call {w w' : World} {g cap : Nat} {l : List Sp} (h : SpsAt w g cap l) (hb : Below w.heap.size w w') : SpsAt w' g cap l := owns_call h hb

def nrf20 : Cal := ⟨⟨#[120]⟩, 3, 6, 1, 1, 1, 4, 5, 4, 0, 12, 2000, 2030, 3⟩
theorem n20_e : twE nrf20 ⟨4, 2023, 12⟩ (-1) = 0 := by decide +kernel
theorem n20_w : (twL nrf20 ⟨4, 2023, 12⟩ (-1)).map (fun u => (u.lv, u.yr, u.ix)) = [(5, 2022, 49), (5, 2022, 50), (5, 2022, 51), (5, 2022, 52)] := by decide +kernel
theorem n20_l : (twL nrf20 ⟨4, 2023, 12⟩ (-1)).length = 4 := by have := congrArg List.length n20_w; simpa using this
theorem n20_0 : (twL nrf20 ⟨4, 2023, 12⟩ (-1))[0]? = some ⟨5, 2022, 49⟩ := by
  have h := n20_w
  generalize twL nrf20 ⟨4, 2023, 12⟩ (-1) = L at h
  match L, h with
  | x :: _, h =>
    simp only [List.map_cons, List.cons.injEq, Prod.mk.injEq] at h
    obtain ⟨⟨h1, h2, h3⟩, _⟩ := h
    obtain ⟨a, b, d⟩ := x
    simp only at h1 h2 h3
    subst h1 h2 h3
    rfl
theorem n20_r : ∃ s : Sp, rnL nrf20 ⟨4, 2023, 12⟩ (-1) = [s] ∧ s.b = s.a + 27 ∧ 0 ≤ s.a ∧ s.a ≤ 3068037 := by
  have h : (rnL nrf20 ⟨4, 2023, 12⟩ (-1)).map (fun s => decide (s.b = s.a + 27 ∧ 0 ≤ s.a ∧ s.a ≤ 3068037)) = [true] := by decide +kernel
  generalize rnL nrf20 ⟨4, 2023, 12⟩ (-1) = R at h
  cases R with
  | nil => simp at h
  | cons s R =>
    cases R with
    | nil => exact ⟨s, rfl, by simpa using h⟩
    | cons a b => simp at h

set_option maxRecDepth 100000 in
set_option maxHeartbeats 1600000 in
theorem live20_any (w : World) :
    Calls Try.prog 26 #[] w fun e w' => e = .returned (.bool true) ∧ Below w.heap.size w w' := by
  obtain ⟨s, hr, hs, hs1, hs2⟩ := n20_r
  have HR := hide hr
  clear hr
  go_enter Try.func26, Try.ntmps26
  go_wp2_with fail
  refine (tweeks_any nrf20 ⟨4, 2023, 12⟩ (-1) _ (by decide)).mono ?_
  rintro e w1 ⟨⟨v, rfl, hv⟩, hb1⟩
  rw [n20_e]
  obtain ⟨g, cap, rfl, _, hun⟩ := twV_some (by rw [n20_l]; decide) hv
  rw [n20_l]
  have HUN := hide hun
  clear hv
  have hz1 : w.heap.size < w1.heap.size := by have := hb1.size; simp at this; omega
  have HB1 := hide (show Below w.heap.size w w1 by refine Below.trans ?_ (hb1.mono (by simp)); (repeat' (first | (with_reducible exact Below.refl _ _) | (with_reducible assumption) | (with_reducible refine Below.alloc ?_ ?_ _) | (with_reducible refine below_drewN ?_ _) | (with_reducible refine Below.drew ?_) | (with_reducible refine Below.setCell ?_ ?_ _) | (with_reducible refine Below.trans ?_ (Below.mono (by assumption) ?_)) | go_size | (simp at *; omega))))
  have HQ1 := hide (calAt_below hb1 (by simp) (calAt_new w nrf20))
  clear hb1 hun
  obtain ⟨q0, q1, q2, q3, q4, q5, q6, q7, q8, q9, q10, q11, q12, q13⟩ := HQ1.out
  simp only [nrf20] at q0 q1 q2 q3 q4 q5 q6 q7 q8 q9 q10 q11 q12 q13
  go_wp2_with fail
  refine (runs_yes nrf20 ⟨4, 2023, 12⟩ (-1) _ (by decide) n20_e).mono ?_
  rintro e w2 ⟨⟨g2, cap2, rfl, hsp⟩, hb2⟩
  rw [HR.out] at hsp ⊢
  have hu2 := HUN.out.call hb2
  have HB2 := hide (HB1.out.trans (hb2.mono (by omega)))
  clear hb2
  obtain ⟨a0, a1, a2⟩ := UnsAt.cell hu2 n20_0
  obtain ⟨b0, b1⟩ := SpsAt.cell hsp (i := 0) (s := s) rfl
  simp only [Nat.zero_mul, Nat.zero_add] at a0 a1 a2 b0 b1
  have hub := unB_same 5 2022 49
  have hw : IntKind.i64.wrap (s.b - s.a) = 27 := by rw [hs, show s.a + 27 - s.a = 27 by omega]; decide
  have hBel := HB2.out
  simp only [List.length_cons, List.length_nil, Nat.zero_add]
  go_wp2_with fail
  go_quiet (fail)
  go_wp2
  go_ret
  exact ⟨ret_bool (by simp; omega), by (repeat' (first | (with_reducible exact Below.refl _ _) | (with_reducible assumption) | (with_reducible refine Below.alloc ?_ ?_ _) | (with_reducible refine below_drewN ?_ _) | (with_reducible refine Below.drew ?_) | (with_reducible refine Below.setCell ?_ ?_ _) | (with_reducible refine Below.trans ?_ (Below.mono (by assumption) ?_)) | go_size | (simp at *; omega)))⟩
end Go.Proofs.Ytpngdeegdkifnaa
