/- Contracts of comp: pairs, policies. Contracts of comp.Week. Contracts of comp.Week: its three policies. Contract of comp.Day. The plain law of comparable days; layer 19's example. The plain law of comparable days: weeks that are dropped; there and back; rising. -/
import Derived.Test.YtjhhmeoibfdcmaaGreatMSa
import Derived.Test.YtjhhmeoibfdcmaaGreatMUn
import Derived.WideMake
import Derived.Test.YtjhhmeoibfdcmaaGreatMFi
namespace Go.Proofs.YtjhhmeoibfdcmaaGreat
open Go.RowKit Qd
set_option linter.unusedSimpArgs false
set_option linter.unusedVariables false

abbrev prV (a b s t : Int) : Value := .agg #[.int .i64 a, .int .i64 b, .int .i64 s, .int .i64 t]
def dropE (a b w : Int) : Int := if w = a ∧ b = 0 then 12 else 0
def dropV (a b w : Int) : Int := if w = a then b else if 0 < b ∧ b ≤ (if 0 < a ∧ a < w then w - 1 else w) then (if 0 < a ∧ a < w then w - 1 else w) + 1 else (if 0 < a ∧ a < w then w - 1 else w)

set_option maxRecDepth 100000 in
set_option maxHeartbeats 1600000 in
theorem pol1_any (a b s t x : Int) (w : World) : Calls Tryz.prog 245 #[prV a b s t, .int .i64 x] w fun e w' => e = .returned (.tuple #[.int .i64 x, .int .i64 0]) ∧ Below w.heap.size w w' := by
  simp only [prV]
  go_enter Tryz.func245, Tryz.ntmps245
  go_wp2
  go_ret2
  exact ⟨rfl, by (repeat' exact bel)⟩
set_option maxRecDepth 100000 in
set_option maxHeartbeats 1600000 in
theorem pol2_any (a b s t x : Int) (w : World) (ha : 0 ≤ a ∧ a ≤ 100) (hb : 0 ≤ b ∧ b ≤ 100) (hx : 0 ≤ x ∧ x ≤ 100) : Calls Tryz.prog 246 #[prV a b s t, .int .i64 x] w fun e w' => e = .returned (.tuple #[.int .i64 (x + b - a), .int .i64 0]) ∧ Below w.heap.size w w' := by
  simp only [prV]
  go_enter Tryz.func246, Tryz.ntmps246
  go_wp2
  go_ret2
  exact ⟨rfl, by (repeat' exact bel)⟩
set_option maxRecDepth 100000 in
set_option maxHeartbeats 1600000 in
theorem drop_any (a b s t x : Int) (w : World) (hs : 0 ≤ s ∧ s ≤ 100) (ht : 0 ≤ t ∧ t ≤ 100) (hx : 0 ≤ x ∧ x ≤ 100) : Calls Tryz.prog 247 #[prV a b s t, .int .i64 x] w fun e w' => e = .returned (.tuple #[.int .i64 (dropV s t x), .int .i64 (dropE s t x)]) ∧ Below w.heap.size w w' := by
  simp only [prV]
  by_cases h1 : x = s
  · subst h1
    by_cases h2 : t = 0
    · subst h2
      have H := hide (show dropV x 0 x = 0 ∧ dropE x 0 x = 12 by simp [dropV, dropE])
      go_enter Tryz.func247, Tryz.ntmps247
      go_wp2
      all_goals first
        | (exfalso; omega)
        | (go_ret2; exact ⟨ret_int2 H.out.1.symm H.out.2.symm, by (repeat' exact bel)⟩)
    · have H := hide (show dropV x t x = t ∧ dropE x t x = 0 by simp [dropV, dropE, h2])
      have hb : (t == 0) = false := by simpa using h2
      go_enter Tryz.func247, Tryz.ntmps247
      go_wp2
      all_goals first
        | (exfalso; omega)
        | (go_ret2; exact ⟨ret_int2 H.out.1.symm H.out.2.symm, by (repeat' exact bel)⟩)
  · have HE := hide (show dropE s t x = 0 by unfold dropE; rw [if_neg (fun h => h1 h.1)])
    have HV := hide (show dropV s t x = if 0 < t ∧ t ≤ (if 0 < s ∧ s < x then x - 1 else x) then (if 0 < s ∧ s < x then x - 1 else x) + 1 else (if 0 < s ∧ s < x then x - 1 else x) by unfold dropV; rw [if_neg h1])
    have hb : (x == s) = false := by simpa using h1
    clear h1
    by_cases h3 : 0 < s ∧ s < x
    · have HV2 := hide (show dropV s t x = if 0 < t ∧ t ≤ x - 1 then x - 1 + 1 else x - 1 by rw [HV.out, if_pos h3])
      obtain ⟨h3a, h3b⟩ := h3
      by_cases h4 : 0 < t ∧ t ≤ x - 1
      · have H := hide (show dropV s t x = x - 1 + 1 by rw [HV2.out, if_pos h4])
        obtain ⟨h4a, h4b⟩ := h4
        go_enter Tryz.func247, Tryz.ntmps247
        go_wp2
        all_goals first
          | (exfalso; omega)
          | (go_ret2; exact ⟨ret_int2 (by rw [H.out]; try omega) HE.out.symm, by (repeat' exact bel)⟩)
      · have H := hide (show dropV s t x = x - 1 by rw [HV2.out, if_neg h4])
        rcases (show t ≤ 0 ∨ (0 < t ∧ x - 1 < t) by omega) with h4 | ⟨h4, h5⟩
        · go_enter Tryz.func247, Tryz.ntmps247
          go_wp2
          all_goals first
            | (exfalso; omega)
            | (go_ret2; exact ⟨ret_int2 (by rw [H.out]; try omega) HE.out.symm, by (repeat' exact bel)⟩)
        · go_enter Tryz.func247, Tryz.ntmps247
          go_wp2
          all_goals first
            | (exfalso; omega)
            | (go_ret2; exact ⟨ret_int2 (by rw [H.out]; try omega) HE.out.symm, by (repeat' exact bel)⟩)
    · have HV2 := hide (show dropV s t x = if 0 < t ∧ t ≤ x then x + 1 else x by rw [HV.out, if_neg h3])
      by_cases h4 : 0 < t ∧ t ≤ x
      · have H := hide (show dropV s t x = x + 1 by rw [HV2.out, if_pos h4])
        obtain ⟨h4a, h4b⟩ := h4
        rcases (show s ≤ 0 ∨ (0 < s ∧ x ≤ s) by omega) with h3 | ⟨h3, h3'⟩
        · go_enter Tryz.func247, Tryz.ntmps247
          go_wp2
          all_goals first
            | (exfalso; omega)
            | (go_ret2; exact ⟨ret_int2 (by rw [H.out]; try omega) HE.out.symm, by (repeat' exact bel)⟩)
        · go_enter Tryz.func247, Tryz.ntmps247
          go_wp2
          all_goals first
            | (exfalso; omega)
            | (go_ret2; exact ⟨ret_int2 (by rw [H.out]; try omega) HE.out.symm, by (repeat' exact bel)⟩)
      · have H := hide (show dropV s t x = x by rw [HV2.out, if_neg h4])
        rcases (show s ≤ 0 ∨ (0 < s ∧ x ≤ s) by omega) with h3 | ⟨h3, h3'⟩
        · rcases (show t ≤ 0 ∨ (0 < t ∧ x < t) by omega) with h4 | ⟨h4, h5⟩
          · go_enter Tryz.func247, Tryz.ntmps247
            go_wp2
            all_goals first
              | (exfalso; omega)
              | (go_ret2; exact ⟨ret_int2 (by rw [H.out]; try omega) HE.out.symm, by (repeat' exact bel)⟩)
          · go_enter Tryz.func247, Tryz.ntmps247
            go_wp2
            all_goals first
              | (exfalso; omega)
              | (go_ret2; exact ⟨ret_int2 (by rw [H.out]; try omega) HE.out.symm, by (repeat' exact bel)⟩)
        · rcases (show t ≤ 0 ∨ (0 < t ∧ x < t) by omega) with h4 | ⟨h4, h5⟩
          · go_enter Tryz.func247, Tryz.ntmps247
            go_wp2
            all_goals first
              | (exfalso; omega)
              | (go_ret2; exact ⟨ret_int2 (by rw [H.out]; try omega) HE.out.symm, by (repeat' exact bel)⟩)
          · go_enter Tryz.func247, Tryz.ntmps247
            go_wp2
            all_goals first
              | (exfalso; omega)
              | (go_ret2; exact ⟨ret_int2 (by rw [H.out]; try omega) HE.out.symm, by (repeat' exact bel)⟩)

theorem alloc_set (w : World) (o o' : Obj) : ({ w.alloc o with heap := (w.alloc o).heap.setIfInBounds w.heap.size o' } : World) = w.alloc o' := by
  have h : (w.alloc o).heap.setIfInBounds w.heap.size o' = (w.alloc o').heap := by
    show (w.heap.push o).setIfInBounds w.heap.size o' = w.heap.push o'
    apply Array.ext'
    simp [Array.toList_push]
  rw [h]
  rfl
theorem run_upd (w : World) (es : Array MapEntry) (clk : Nat) (k : Int) (v : Value) (hf : Instr.findNow (.int .i64) (.int .i64 k) es.toList 0 = some none) :
    (Instr.mapUpdate 264 (.map (some w.heap.size)) (.int .i64 k) v).run Tryz.prog (w.alloc (.map es clk)) = .ok () (w.alloc (.map (es.push ⟨.int .i64 k, v, clk⟩) (clk + 1))) := by
  have u3 := Tryz.underlying3
  have um := Tryz.underlying264
  have hh : (w.alloc (.map es clk)).heap[w.heap.size]? = some (.map es clk) := heap_alloc_new w _
  have hs := alloc_set w (.map es clk)
  have hc : (Instr.checkKey false 10000 3 (.int .i64 k)).run Tryz.prog (w.alloc (.map es clk)) = .ok () (w.alloc (.map es clk)) := MapKept.run_checkKey (k := .int .i64 k) u3 (by simp [MapKept.IsKey]) false 9999
  simp [Instr.mapUpdate, run_underlying um, MapKept.run_getObj_map hh, hc, MapKept.run_findKey u3 hf, MapKept.run_setObj_map _ hh, Result.andThen, hs]
  exact hs _
theorem run_look (w : World) (M : Nat) (es : Array MapEntry) (clk : Nat) (k : Int) (i : Nat) (v : Value) (hh : w.heap[M]? = some (.map es clk)) (hf : Instr.findNow (.int .i64) (.int .i64 k) es.toList 0 = some (some (i, v))) :
    (Instr.lookup 264 (.map (some M)) (.int .i64 k) false).run Tryz.prog w = .ok v w := by
  have u3 := Tryz.underlying3
  have um := Tryz.underlying264
  have hc : ∀ e, (Instr.checkKey e 10000 3 (.int .i64 k)).run Tryz.prog w = .ok () w := fun e => MapKept.run_checkKey (k := .int .i64 k) u3 (by simp [MapKept.IsKey]) e 9999
  simp [Instr.lookup, run_underlying um, MapKept.run_getObj_map hh, hc, MapKept.run_findKey u3 hf, Result.andThen]
abbrev polEs : Array MapEntry := #[⟨.int .i64 1, .func (.func 245) #[] #[], 0⟩, ⟨.int .i64 2, .func (.func 246) #[] #[], 1⟩, ⟨.int .i64 3, .func (.func 247) #[] #[], 2⟩]
set_option maxRecDepth 100000 in
set_option maxHeartbeats 1600000 in
theorem policies_any (w : World) : Calls Tryz.prog 239 #[] w fun e w' => e = .returned (.map (some w.heap.size)) ∧ w.alloc (.map polEs 3) = w' := by
  have hmm := @run_makeMap Tryz.prog
  have h1 := run_upd w #[] 0 1 (.func (.func 245) #[] #[]) rfl
  have h2 := run_upd w #[⟨.int .i64 1, .func (.func 245) #[] #[], 0⟩] 1 2 (.func (.func 246) #[] #[]) rfl
  have h3 := run_upd w #[⟨.int .i64 1, .func (.func 245) #[] #[], 0⟩, ⟨.int .i64 2, .func (.func 246) #[] #[], 1⟩] 2 3 (.func (.func 247) #[] #[]) rfl
  simp only [List.push_toArray, List.cons_append, List.nil_append] at h1 h2 h3
  go_enter Tryz.func239, Tryz.ntmps239
  go_wp2
  go_ret
  exact ⟨rfl, rfl⟩

set_option maxRecDepth 100000 in
set_option maxHeartbeats 1600000 in
theorem served2_any (c : Cal) (y : Int) (w : World) : Calls Tryz.prog 237 #[calV c, .int .i64 y] w fun e w' => e = .returned (.bool (decide (c.first ≤ y ∧ y ≤ c.last))) ∧ Below w.heap.size w w' := by
  simp only [calV]
  go_enter Tryz.func237, Tryz.ntmps237
  go_wp2
  all_goals (go_ret; refine ⟨ret_bool ?_, by (repeat' exact bel)⟩; simp; try omega)

abbrev srv (c : Cal) (y : Int) : Prop := c.first ≤ y ∧ y ≤ c.last
theorem wks_srv {c : Cal} {y : Int} (hk : c.okB = true) (hk6 : c.kind ≠ 6) (h : srv c y) : wksE c y = 0 ∧ askE c y 1601 = 0 ∧ (wksV c y = 52 ∨ wksV c y = 53) := by
  have hok : c.Ok := by simpa [Cal.okB] using hk
  obtain ⟨_, _, b1, b2, _⟩ := ok_years hk
  obtain ⟨h1, h2⟩ := h
  have hA : askE c y 1601 = 0 := ask_2 hok (by omega) (by omega)
  have hE : wksE c y = 0 := by simp [wksE, wksB, hk, hk6, hA]
  exact ⟨hE, hA, (wks_ok hE).2.2.2.2.2.1⟩
theorem le_end (c : Cal) (y : Int) (hE : askE c y 1601 = 0) (k : Nat) (hk : k < (endsL c y).length) : endAt c y k ≤ endV c y := by
  have h1 : ∀ m, k + 1 + m ≤ (endsL c y).length → endAt c y k + 1 ≤ fromAt c y (k + 1 + m) := by
    intro m
    induction m with
    | zero => intro _; rw [Nat.add_zero, from_succ]; omega
    | succ m ih =>
      intro hm
      have h2 := ih (by omega)
      have h3 := period_1 c y hE (k + 1 + m) (by omega)
      rw [show k + 1 + (m + 1) = (k + 1 + m) + 1 by omega, from_succ]
      omega
  have h2 := h1 ((endsL c y).length - (k + 1)) (by omega)
  rw [show k + 1 + ((endsL c y).length - (k + 1)) = (endsL c y).length by omega] at h2
  have := (last_end c y hE).1
  omega
theorem added_bd {c : Cal} {y : Int} (hk : c.okB = true) (hk6 : c.kind ≠ 6) (h : srv c y) : 0 ≤ addedV c y ∧ addedV c y ≤ 53 ∧ (addedV c y = 0 ↔ wksV c y = 52) := by
  obtain ⟨hE, hA, h5⟩ := wks_srv hk hk6 h
  obtain ⟨hok, _, _, _, hv, _, hd⟩ := wks_ok hE
  unfold addedV
  by_cases h53 : wksV c y = 53
  · rw [if_pos ⟨hE, h53⟩]
    obtain ⟨x1, x2⟩ := extra_bd hok hk6
    have hl := ends_len c y hk
    have hlt : (c.extra - 1).toNat < (endsL c y).length := by omega
    have hp := period_1 c y hA _ hlt
    have hf := from_bd c y hA _ (Nat.le_of_lt hlt)
    have he := le_end c y hA _ hlt
    have hdv : daysV c y = endV c y - startV c y + 1 := by simp [daysV, hA]
    have h7 := hp.2.2 hk6
    omega
  · rw [if_neg (fun h => h53 h.2)]
    omega

theorem policies_any2 (w : World) : Calls Tryz.prog 239 #[] w fun e w' => (∃ M, e = .returned (.map (some M)) ∧ w'.heap[M]? = some (.map polEs 3)) ∧ Below w.heap.size w w' := by
  refine (policies_any w).mono ?_
  rintro e w' ⟨rfl, rfl⟩
  exact ⟨⟨_, rfl, heap_alloc_new w _⟩, (Below.refl _ _).alloc (Nat.le_refl _) _⟩
theorem res_paired {tmps : Array Value} {W : World} {B : Nat} {a0 a1 a2 a3 e : Int} (h6 : tmps[6]? = some (.pointer (some ⟨B, 0, none⟩))) (h7 : tmps[7]? = some (.int .i64 e))
    (g6 : BlkIs W B #[.int .i64 a0, .int .i64 a1, .int .i64 a2, .int .i64 a3] 260) :
    (results Tryz.f238 tmps).run Tryz.prog W = .ok (.tuple #[.agg #[.int .i64 a0, .int .i64 a1, .int .i64 a2, .int .i64 a3], .int .i64 e]) W := by
  have c0 := g6.cell 0
  have c1 := g6.cell 1
  have c2 := g6.cell 2
  have c3 := g6.cell 3
  simp at c0 c1 c2 c3
  simp [results, Tryz.results238, go_sem, h6, h7, c0, c1, c2, c3]
theorem calAt_far {W : World} {B : Nat} {c : Cal} (Q : CalAt W B c) {p : Addr} (h : B ≠ p.block) (u : Value) : CalAt (W.setCell p u) B c :=
  calAt_same (fun o => World.cell?_of_block (a := ⟨B, o, none⟩) (Below.heap_setCell W p u B h)) Q
theorem BlkIs.p0 {w : World} {B : Nat} {a b c d : Value} {t : TypeId} (h : BlkIs w B #[a, b, c, d] t) (y : Value) : BlkIs (w.setCell ⟨B, 0, none⟩ y) B #[y, b, c, d] t := by
  unfold BlkIs at h ⊢
  simp [World.setCell, Array.getElem?_modify, h]
theorem BlkIs.p1 {w : World} {B : Nat} {a b c d : Value} {t : TypeId} (h : BlkIs w B #[a, b, c, d] t) (y : Value) : BlkIs (w.setCell ⟨B, 1, none⟩ y) B #[a, y, c, d] t := by
  unfold BlkIs at h ⊢
  simp [World.setCell, Array.getElem?_modify, h]
theorem BlkIs.p2 {w : World} {B : Nat} {a b c d : Value} {t : TypeId} (h : BlkIs w B #[a, b, c, d] t) (y : Value) : BlkIs (w.setCell ⟨B, 2, none⟩ y) B #[a, b, y, d] t := by
  unfold BlkIs at h ⊢
  simp [World.setCell, Array.getElem?_modify, h]
theorem BlkIs.p3 {w : World} {B : Nat} {a b c d : Value} {t : TypeId} (h : BlkIs w B #[a, b, c, d] t) (y : Value) : BlkIs (w.setCell ⟨B, 3, none⟩ y) B #[a, b, c, y] t := by
  unfold BlkIs at h ⊢
  simp [World.setCell, Array.getElem?_modify, h]
theorem BlkIs.four {w : World} {B : Nat} {a b c d : Value} {t : TypeId} (h : BlkIs w B #[a, b, c, d] t) :
    (w.cell? ⟨B, 0, none⟩ = some a ∧ w.cell? ⟨B, 1, none⟩ = some b ∧ w.cell? ⟨B, 2, none⟩ = some c ∧ w.cell? ⟨B, 3, none⟩ = some d) ∧ (w.frozen? ⟨B, 0, none⟩ = false ∧ w.frozen? ⟨B, 1, none⟩ = false ∧ w.frozen? ⟨B, 2, none⟩ = false ∧ w.frozen? ⟨B, 3, none⟩ = false) :=
  ⟨⟨h.cell 0, h.cell 1, h.cell 2, h.cell 3⟩, h.frozen 0, h.frozen 1, h.frozen 2, h.frozen 3⟩

set_option maxRecDepth 100000 in
set_option maxHeartbeats 3200000 in
theorem paired_ok (c : Cal) (y t : Int) (w : World) (hn : c.name.size ≤ 1000) (hy : wksE c y = 0) (ht : wksE c t = 0) :
    Calls Tryz.prog 238 #[calV c, .int .i64 y, .int .i64 t] w fun e w' => e = .returned (.tuple #[prV (wksV c y) (wksV c t) (addedV c y) (addedV c t), .int .i64 0]) ∧ Below w.heap.size w w' := by
  have HY := hide hy
  have HT := hide ht
  clear hy ht
  simp only [calV, prV]
  go_enter Tryz.func238, Tryz.ntmps238
  go_wp2_with fail
  refine (aweeks_any c y _ hn).mono ?_
  rintro e w1 ⟨rfl, hb1⟩
  rw [HY.out]
  have G := (show BlkIs w1 (w.heap.size + 1) #[.int .i64 0, .int .i64 0, .int .i64 0, .int .i64 0] 260 from BlkIs.below (by simpa using BlkIs.new (w.alloc (calObj c)) #[.int .i64 0, .int .i64 0, .int .i64 0, .int .i64 0] 260) hb1 (by simp))
  have HQ1 := hide (show CalAt w1 w.heap.size c from calAt_below hb1 (by simp; omega) (calAt_alloc (calAt_new w c) (by simp) _))
  have HW1 := hide (show Below w.heap.size w w1 by (repeat' exact bel))
  have hz1 : w.heap.size < w1.heap.size := by have := hb1.size; simp at this; omega
  have hkB : w.heap.size ≤ w.heap.size + 1 := by omega
  have hne : w.heap.size ≠ w.heap.size + 1 := by omega
  clear hb1
  generalize w.heap.size + 1 = R at *
  have hR1 := G.lt
  have HG1 := hide G
  obtain ⟨⟨r0, r1, r2, r3⟩, f0, f1, f2, f3⟩ := G.four
  clear G
  obtain ⟨q0, q1, q2, q3, q4, q5, q6, q7, q8, q9, q10, q11, q12, q13⟩ := HQ1.out
  go_wp2_with fail
  refine (aweeks_any c t _ hn).mono ?_
  rintro e w2 ⟨rfl, hb2⟩
  rw [HT.out]
  have G := (HG1.out.p0 (.int .i64 (wksV c y))).call hb2
  have HQ2 := hide (show CalAt w2 w.heap.size c from calAt_below hb2 (by simp; omega) (calAt_far HQ1.out (by exact hne) _))
  have HW2 := hide ((HW1.out.setCell hkB _).trans (hb2.mono (by simp; omega)) : Below w.heap.size w w2)
  have hz2 : w.heap.size < w2.heap.size := by have := hb2.size; simp at this; omega
  clear q0 q1 q2 q3 q4 q5 q6 q7 q8 q9 q10 q11 q12 q13
  clear hb2 r0 r1 r2 r3 f0 f1 f2 f3
  have hR2 := G.lt
  have HG2 := hide G
  obtain ⟨⟨r0, r1, r2, r3⟩, f0, f1, f2, f3⟩ := G.four
  clear G
  obtain ⟨q0, q1, q2, q3, q4, q5, q6, q7, q8, q9, q10, q11, q12, q13⟩ := HQ2.out
  go_wp2_with fail
  refine (added_any c y _ hn).mono ?_
  rintro e w3 ⟨rfl, hb3⟩
  rw [HY.out]
  have G := (HG2.out.p1 (.int .i64 (wksV c t))).call hb3
  have HQ3 := hide (show CalAt w3 w.heap.size c from calAt_below hb3 (by simp; omega) (calAt_far HQ2.out (by exact hne) _))
  have HW3 := hide ((HW2.out.setCell hkB _).trans (hb3.mono (by simp; omega)) : Below w.heap.size w w3)
  have hz3 : w.heap.size < w3.heap.size := by have := hb3.size; simp at this; omega
  clear q0 q1 q2 q3 q4 q5 q6 q7 q8 q9 q10 q11 q12 q13
  clear hb3 r0 r1 r2 r3 f0 f1 f2 f3
  have hR3 := G.lt
  have HG3 := hide G
  obtain ⟨⟨r0, r1, r2, r3⟩, f0, f1, f2, f3⟩ := G.four
  clear G
  obtain ⟨q0, q1, q2, q3, q4, q5, q6, q7, q8, q9, q10, q11, q12, q13⟩ := HQ3.out
  go_wp2_with fail
  refine (added_any c t _ hn).mono ?_
  rintro e w4 ⟨rfl, hb4⟩
  rw [HT.out]
  have G := (HG3.out.p2 (.int .i64 (addedV c y))).call hb4
  have HQ4 := hide (show CalAt w4 w.heap.size c from calAt_below hb4 (by simp; omega) (calAt_far HQ3.out (by exact hne) _))
  have HW4 := hide ((HW3.out.setCell hkB _).trans (hb4.mono (by simp; omega)) : Below w.heap.size w w4)
  have hz4 : w.heap.size < w4.heap.size := by have := hb4.size; simp at this; omega
  clear q0 q1 q2 q3 q4 q5 q6 q7 q8 q9 q10 q11 q12 q13
  clear hb4 r0 r1 r2 r3 f0 f1 f2 f3
  have hR4 := G.lt
  have HG4 := hide G
  obtain ⟨⟨r0, r1, r2, r3⟩, f0, f1, f2, f3⟩ := G.four
  clear G
  obtain ⟨q0, q1, q2, q3, q4, q5, q6, q7, q8, q9, q10, q11, q12, q13⟩ := HQ4.out
  clear q0 q1 q2 q3 q4 q5 q6 q7 q8 q9 q10 q11 q12 q13
  have hRR := hR4
  go_wp2
  exact bodyPost_ret (v := .tuple #[.agg #[.int .i64 (wksV c y), .int .i64 (wksV c t), .int .i64 (addedV c y), .int .i64 (addedV c t)], .int .i64 0]) (by exact res_paired rfl rfl (((((HG4.out.p3 _).p0 _).p1 _).p2 _).p3 _)) rfl ⟨rfl, ((((HW4.out.setCell hkB _).setCell hkB _).setCell hkB _).setCell hkB _).setCell hkB _⟩

set_option maxRecDepth 100000 in
set_option maxHeartbeats 3200000 in
theorem cpweek_cal (c : Cal) (y t x : Int) (w : World) (hn : c.name.size ≤ 1000) (hk : c.okB = false) :
    Calls Tryz.prog 224 #[calV c, .int .i64 y, .int .i64 t, .int .i64 x] w fun e w' => e = .returned (.tuple #[.int .i64 0, .int .i64 1]) ∧ Below w.heap.size w w' := by
  have HO := hide (show okE c = 1 by simp [okE, hk])
  clear hk
  simp only [calV]
  go_enter Tryz.func224, Tryz.ntmps224
  go_wp2_with fail
  refine (check_any c _ hn).mono ?_
  rintro e w1 ⟨rfl, hb1⟩
  rw [HO.out]
  have hz1 : w.heap.size < w1.heap.size := by have := hb1.size; simp at this; omega
  have HB1 := hide (show Below w.heap.size w w1 by refine Below.trans ?_ (hb1.mono (by simp)); (repeat' exact bel))
  have HQ1 := hide (calAt_below hb1 (by simp) (calAt_new w c))
  obtain ⟨q0, q1, q2, q3, q4, q5, q6, q7, q8, q9, q10, q11, q12, q13⟩ := HQ1.out
  clear hb1
  clear q0 q1 q2 q3 q4 q5 q6 q7 q8 q9 q10 q11 q12 q13
  go_wp2
  go_ret2
  exact ⟨rfl, HB1.out⟩

set_option maxRecDepth 100000 in
set_option maxHeartbeats 3200000 in
theorem cpweek_mon (c : Cal) (y t x : Int) (w : World) (hn : c.name.size ≤ 1000) (hk : c.okB = true) (hk6 : c.kind = 6) :
    Calls Tryz.prog 224 #[calV c, .int .i64 y, .int .i64 t, .int .i64 x] w fun e w' => e = .returned (.tuple #[.int .i64 0, .int .i64 1]) ∧ Below w.heap.size w w' := by
  have HO := hide (show okE c = 0 by simp [okE, hk])
  have hkb : (c.kind == 6) = true := by simp [hk6]
  clear hk hk6
  simp only [calV]
  go_enter Tryz.func224, Tryz.ntmps224
  go_wp2_with fail
  refine (check_any c _ hn).mono ?_
  rintro e w1 ⟨rfl, hb1⟩
  rw [HO.out]
  have hz1 : w.heap.size < w1.heap.size := by have := hb1.size; simp at this; omega
  have HB1 := hide (show Below w.heap.size w w1 by refine Below.trans ?_ (hb1.mono (by simp)); (repeat' exact bel))
  have HQ1 := hide (calAt_below hb1 (by simp) (calAt_new w c))
  obtain ⟨q0, q1, q2, q3, q4, q5, q6, q7, q8, q9, q10, q11, q12, q13⟩ := HQ1.out
  clear hb1
  go_wp2
  go_ret2
  exact ⟨rfl, HB1.out⟩

set_option maxRecDepth 100000 in
set_option maxHeartbeats 3200000 in
theorem cpweek_y (c : Cal) (y t x : Int) (w : World) (hn : c.name.size ≤ 1000) (hk : c.okB = true) (hk6 : c.kind ≠ 6) (hy : ¬ srv c y) :
    Calls Tryz.prog 224 #[calV c, .int .i64 y, .int .i64 t, .int .i64 x] w fun e w' => e = .returned (.tuple #[.int .i64 0, .int .i64 11]) ∧ Below w.heap.size w w' := by
  have HO := hide (show okE c = 0 by simp [okE, hk])
  have hkb : (c.kind == 6) = false := by simpa using hk6
  have HY := hide (show decide (c.first ≤ y ∧ y ≤ c.last) = false by simpa using hy)
  clear hk hk6 hy
  simp only [calV]
  go_enter Tryz.func224, Tryz.ntmps224
  go_wp2_with fail
  refine (check_any c _ hn).mono ?_
  rintro e w1 ⟨rfl, hb1⟩
  rw [HO.out]
  have hz1 : w.heap.size < w1.heap.size := by have := hb1.size; simp at this; omega
  have HB1 := hide (show Below w.heap.size w w1 by refine Below.trans ?_ (hb1.mono (by simp)); (repeat' exact bel))
  have HQ1 := hide (calAt_below hb1 (by simp) (calAt_new w c))
  obtain ⟨q0, q1, q2, q3, q4, q5, q6, q7, q8, q9, q10, q11, q12, q13⟩ := HQ1.out
  clear hb1
  go_wp2_with fail
  refine (served2_any c y _).mono ?_
  rintro e w2 ⟨rfl, hb2⟩
  rw [HY.out]
  have hz2 : w.heap.size < w2.heap.size := Nat.lt_of_lt_of_le hz1 hb2.size
  have HB2 := hide (HB1.out.trans (hb2.mono (Nat.le_of_lt hz1)))
  have HQ2 := hide (calAt_below hb2 hz1 HQ1.out)
  clear q0 q1 q2 q3 q4 q5 q6 q7 q8 q9 q10 q11 q12 q13
  obtain ⟨q0, q1, q2, q3, q4, q5, q6, q7, q8, q9, q10, q11, q12, q13⟩ := HQ2.out
  clear hb2
  clear q0 q1 q2 q3 q4 q5 q6 q7 q8 q9 q10 q11 q12 q13
  go_wp2
  go_ret2
  exact ⟨rfl, HB2.out⟩

set_option maxRecDepth 100000 in
set_option maxHeartbeats 3200000 in
theorem cpweek_t (c : Cal) (y t x : Int) (w : World) (hn : c.name.size ≤ 1000) (hk : c.okB = true) (hk6 : c.kind ≠ 6) (hy : srv c y) (ht : ¬ srv c t) :
    Calls Tryz.prog 224 #[calV c, .int .i64 y, .int .i64 t, .int .i64 x] w fun e w' => e = .returned (.tuple #[.int .i64 0, .int .i64 11]) ∧ Below w.heap.size w w' := by
  have HO := hide (show okE c = 0 by simp [okE, hk])
  have hkb : (c.kind == 6) = false := by simpa using hk6
  have HY := hide (show decide (c.first ≤ y ∧ y ≤ c.last) = true by simpa using hy)
  have HT := hide (show decide (c.first ≤ t ∧ t ≤ c.last) = false by simpa using ht)
  clear hk hk6 hy ht
  simp only [calV]
  go_enter Tryz.func224, Tryz.ntmps224
  go_wp2_with fail
  refine (check_any c _ hn).mono ?_
  rintro e w1 ⟨rfl, hb1⟩
  rw [HO.out]
  have hz1 : w.heap.size < w1.heap.size := by have := hb1.size; simp at this; omega
  have HB1 := hide (show Below w.heap.size w w1 by refine Below.trans ?_ (hb1.mono (by simp)); (repeat' exact bel))
  have HQ1 := hide (calAt_below hb1 (by simp) (calAt_new w c))
  obtain ⟨q0, q1, q2, q3, q4, q5, q6, q7, q8, q9, q10, q11, q12, q13⟩ := HQ1.out
  clear hb1
  go_wp2_with fail
  refine (served2_any c y _).mono ?_
  rintro e w2 ⟨rfl, hb2⟩
  rw [HY.out]
  have hz2 : w.heap.size < w2.heap.size := Nat.lt_of_lt_of_le hz1 hb2.size
  have HB2 := hide (HB1.out.trans (hb2.mono (Nat.le_of_lt hz1)))
  have HQ2 := hide (calAt_below hb2 hz1 HQ1.out)
  clear q0 q1 q2 q3 q4 q5 q6 q7 q8 q9 q10 q11 q12 q13
  obtain ⟨q0, q1, q2, q3, q4, q5, q6, q7, q8, q9, q10, q11, q12, q13⟩ := HQ2.out
  clear hb2
  go_wp2_with fail
  refine (served2_any c t _).mono ?_
  rintro e w3 ⟨rfl, hb3⟩
  rw [HT.out]
  have hz3 : w.heap.size < w3.heap.size := Nat.lt_of_lt_of_le hz2 hb3.size
  have HB3 := hide (HB2.out.trans (hb3.mono (Nat.le_of_lt hz2)))
  have HQ3 := hide (calAt_below hb3 hz2 HQ2.out)
  clear q0 q1 q2 q3 q4 q5 q6 q7 q8 q9 q10 q11 q12 q13
  obtain ⟨q0, q1, q2, q3, q4, q5, q6, q7, q8, q9, q10, q11, q12, q13⟩ := HQ3.out
  clear hb3
  clear q0 q1 q2 q3 q4 q5 q6 q7 q8 q9 q10 q11 q12 q13
  go_wp2
  go_ret2
  exact ⟨rfl, HB3.out⟩

set_option maxRecDepth 100000 in
set_option maxHeartbeats 3200000 in
theorem cpweek_none (c : Cal) (y t x : Int) (w : World) (hn : c.name.size ≤ 1000) (hk : c.okB = true) (hk6 : c.kind ≠ 6) (hy : srv c y) (ht : srv c t) (hx : x < 1 ∨ (1 ≤ x ∧ wksV c y < x)) :
    Calls Tryz.prog 224 #[calV c, .int .i64 y, .int .i64 t, .int .i64 x] w fun e w' => e = .returned (.tuple #[.int .i64 0, .int .i64 13]) ∧ Below w.heap.size w w' := by
  have HO := hide (show okE c = 0 by simp [okE, hk])
  have hkb : (c.kind == 6) = false := by simpa using hk6
  have HY := hide (show decide (c.first ≤ y ∧ y ≤ c.last) = true by simpa using hy)
  have HT := hide (show decide (c.first ≤ t ∧ t ≤ c.last) = true by simpa using ht)
  obtain ⟨wy, _, wy2⟩ := wks_srv hk hk6 hy
  obtain ⟨wt, _, wt2⟩ := wks_srv hk hk6 ht
  have hay := added_bd hk hk6 hy
  have hat := added_bd hk hk6 ht
  have WY := hide wy
  have WT := hide wt
  obtain ⟨ny, hny⟩ : ∃ n, n = wksV c y := ⟨_, rfl⟩
  obtain ⟨nt, hnt⟩ : ∃ n, n = wksV c t := ⟨_, rfl⟩
  obtain ⟨ay, hay'⟩ : ∃ n, n = addedV c y := ⟨_, rfl⟩
  obtain ⟨ta, hat'⟩ : ∃ n, n = addedV c t := ⟨_, rfl⟩
  rw [← hny] at wy2 hay hx
  rw [← hnt] at wt2 hat
  rw [← hay'] at hay
  rw [← hat'] at hat
  have HNY := hide hny
  have HNT := hide hnt
  have HAY := hide hay'
  have HAT := hide hat'
  have hb1 : 0 ≤ ay ∧ ay ≤ 53 ∧ 0 ≤ ta ∧ ta ≤ 53 ∧ 52 ≤ ny ∧ ny ≤ 53 ∧ 52 ≤ nt ∧ nt ≤ 53 := by omega
  clear hk hk6 hy ht wy wt wy2 wt2 hay hat hny hnt hay' hat'
  simp only [calV]
  go_enter Tryz.func224, Tryz.ntmps224
  go_wp2_with fail
  refine (check_any c _ hn).mono ?_
  rintro e w1 ⟨rfl, hb1⟩
  rw [HO.out]
  have hz1 : w.heap.size < w1.heap.size := by have := hb1.size; simp at this; omega
  have HB1 := hide (show Below w.heap.size w w1 by refine Below.trans ?_ (hb1.mono (by simp)); (repeat' exact bel))
  have HQ1 := hide (calAt_below hb1 (by simp) (calAt_new w c))
  obtain ⟨q0, q1, q2, q3, q4, q5, q6, q7, q8, q9, q10, q11, q12, q13⟩ := HQ1.out
  clear hb1
  go_wp2_with fail
  refine (served2_any c y _).mono ?_
  rintro e w2 ⟨rfl, hb2⟩
  rw [HY.out]
  have hz2 : w.heap.size < w2.heap.size := Nat.lt_of_lt_of_le hz1 hb2.size
  have HB2 := hide (HB1.out.trans (hb2.mono (Nat.le_of_lt hz1)))
  have HQ2 := hide (calAt_below hb2 hz1 HQ1.out)
  clear q0 q1 q2 q3 q4 q5 q6 q7 q8 q9 q10 q11 q12 q13
  obtain ⟨q0, q1, q2, q3, q4, q5, q6, q7, q8, q9, q10, q11, q12, q13⟩ := HQ2.out
  clear hb2
  go_wp2_with fail
  refine (served2_any c t _).mono ?_
  rintro e w3 ⟨rfl, hb3⟩
  rw [HT.out]
  have hz3 : w.heap.size < w3.heap.size := Nat.lt_of_lt_of_le hz2 hb3.size
  have HB3 := hide (HB2.out.trans (hb3.mono (Nat.le_of_lt hz2)))
  have HQ3 := hide (calAt_below hb3 hz2 HQ2.out)
  clear q0 q1 q2 q3 q4 q5 q6 q7 q8 q9 q10 q11 q12 q13
  obtain ⟨q0, q1, q2, q3, q4, q5, q6, q7, q8, q9, q10, q11, q12, q13⟩ := HQ3.out
  clear hb3
  go_wp2_with fail
  refine (paired_ok c y t _ hn WY.out WT.out).mono ?_
  rintro e w4 ⟨rfl, hb4⟩
  simp only [prV]
  rw [← HNY.out, ← HNT.out, ← HAY.out, ← HAT.out]
  have hz4 : w.heap.size < w4.heap.size := Nat.lt_of_lt_of_le hz3 hb4.size
  have HB4 := hide (HB3.out.trans (hb4.mono (Nat.le_of_lt hz3)))
  have HQ4 := hide (calAt_below hb4 hz3 HQ3.out)
  clear q0 q1 q2 q3 q4 q5 q6 q7 q8 q9 q10 q11 q12 q13
  obtain ⟨q0, q1, q2, q3, q4, q5, q6, q7, q8, q9, q10, q11, q12, q13⟩ := HQ4.out
  clear hb4
  clear q0 q1 q2 q3 q4 q5 q6 q7 q8 q9 q10 q11 q12 q13
  rcases hx with hx | ⟨hx1, hx2⟩
  · go_wp2
    all_goals first
      | (exfalso; omega)
      | (have hBel := HB4.out; go_ret2; exact ⟨rfl, by (repeat' exact bel)⟩)
  · go_wp2
    all_goals first
      | (exfalso; omega)
      | (have hBel := HB4.out; go_ret2; exact ⟨rfl, by (repeat' exact bel)⟩)

/-- The calendar, and the pair. -/
def WkSt (c : Cal) (B P : Nat) (a b s t : Int) (w : World) : Prop := CalAt w B c ∧ B < w.heap.size ∧ BlkIs w P #[.int .i64 a, .int .i64 b, .int .i64 s, .int .i64 t] 260
theorem WkSt.call {c : Cal} {B P : Nat} {a b s t : Int} {w w' : World} (h : WkSt c B P a b s t w) (hb : Below w.heap.size w w') : WkSt c B P a b s t w' :=
  ⟨calAt_below hb h.2.1 h.1, Nat.lt_of_lt_of_le h.2.1 hb.size, h.2.2.call hb⟩
theorem WkSt.drew {c : Cal} {B P : Nat} {a b s t : Int} {w : World} (h : WkSt c B P a b s t w) : WkSt c B P a b s t w.drew := h
theorem WkSt.load {c : Cal} {B P : Nat} {a b s t : Int} {w : World} (h : WkSt c B P a b s t w) : w.cell? ⟨B, 13, none⟩ = some (.int .i64 c.policy) ∧ w.cell? ⟨P, 0, none⟩ = some (.int .i64 a) ∧ w.cell? ⟨P, 1, none⟩ = some (.int .i64 b) ∧ w.cell? ⟨P, 2, none⟩ = some (.int .i64 s) ∧ w.cell? ⟨P, 3, none⟩ = some (.int .i64 t) :=
  ⟨h.1.2.2.2.2.2.2.2.2.2.2.2.2.2, h.2.2.cell 0, h.2.2.cell 1, h.2.2.cell 2, h.2.2.cell 3⟩

set_option maxRecDepth 100000 in
set_option maxHeartbeats 3200000 in
theorem cpweek_1 (c : Cal) (y t x : Int) (w : World) (hn : c.name.size ≤ 1000) (hk : c.okB = true) (hk6 : c.kind ≠ 6) (hy : srv c y) (ht : srv c t) (hx : 1 ≤ x ∧ x ≤ wksV c y) (hp : c.policy = 1) :
    Calls Tryz.prog 224 #[calV c, .int .i64 y, .int .i64 t, .int .i64 x] w fun e w' => e = .returned (.tuple #[.int .i64 x, .int .i64 0]) ∧ Below w.heap.size w w' := by
  have HO := hide (show okE c = 0 by simp [okE, hk])
  have hkb : (c.kind == 6) = false := by simpa using hk6
  have HY := hide (show decide (c.first ≤ y ∧ y ≤ c.last) = true by simpa using hy)
  have HT := hide (show decide (c.first ≤ t ∧ t ≤ c.last) = true by simpa using ht)
  obtain ⟨wy, _, wy2⟩ := wks_srv hk hk6 hy
  obtain ⟨wt, _, wt2⟩ := wks_srv hk hk6 ht
  have hay := added_bd hk hk6 hy
  have hat := added_bd hk hk6 ht
  have WY := hide wy
  have WT := hide wt
  obtain ⟨ny, hny⟩ : ∃ n, n = wksV c y := ⟨_, rfl⟩
  obtain ⟨nt, hnt⟩ : ∃ n, n = wksV c t := ⟨_, rfl⟩
  obtain ⟨ay, hay'⟩ : ∃ n, n = addedV c y := ⟨_, rfl⟩
  obtain ⟨ta, hat'⟩ : ∃ n, n = addedV c t := ⟨_, rfl⟩
  rw [← hny] at wy2 hay hx
  rw [← hnt] at wt2 hat
  rw [← hay'] at hay
  rw [← hat'] at hat
  have HNY := hide hny
  have HNT := hide hnt
  have HAY := hide hay'
  have HAT := hide hat'
  have hb1 : 0 ≤ ay ∧ ay ≤ 53 ∧ 0 ≤ ta ∧ ta ≤ 53 ∧ 52 ≤ ny ∧ ny ≤ 53 ∧ 52 ≤ nt ∧ nt ≤ 53 := by omega
  clear hk hk6 hy ht wy wt wy2 wt2 hay hat hny hnt hay' hat'
  obtain ⟨hx1, hx2⟩ := hx
  have HP := hide hp
  clear hp
  simp only [calV]
  go_enter Tryz.func224, Tryz.ntmps224
  go_wp2_with fail
  refine (check_any c _ hn).mono ?_
  rintro e w1 ⟨rfl, hb1⟩
  rw [HO.out]
  have hz1 : w.heap.size < w1.heap.size := by have := hb1.size; simp at this; omega
  have HB1 := hide (show Below w.heap.size w w1 by refine Below.trans ?_ (hb1.mono (by simp)); (repeat' exact bel))
  have HQ1 := hide (calAt_below hb1 (by simp) (calAt_new w c))
  obtain ⟨q0, q1, q2, q3, q4, q5, q6, q7, q8, q9, q10, q11, q12, q13⟩ := HQ1.out
  clear hb1
  go_wp2_with fail
  refine (served2_any c y _).mono ?_
  rintro e w2 ⟨rfl, hb2⟩
  rw [HY.out]
  have hz2 : w.heap.size < w2.heap.size := Nat.lt_of_lt_of_le hz1 hb2.size
  have HB2 := hide (HB1.out.trans (hb2.mono (Nat.le_of_lt hz1)))
  have HQ2 := hide (calAt_below hb2 hz1 HQ1.out)
  clear q0 q1 q2 q3 q4 q5 q6 q7 q8 q9 q10 q11 q12 q13
  obtain ⟨q0, q1, q2, q3, q4, q5, q6, q7, q8, q9, q10, q11, q12, q13⟩ := HQ2.out
  clear hb2
  go_wp2_with fail
  refine (served2_any c t _).mono ?_
  rintro e w3 ⟨rfl, hb3⟩
  rw [HT.out]
  have hz3 : w.heap.size < w3.heap.size := Nat.lt_of_lt_of_le hz2 hb3.size
  have HB3 := hide (HB2.out.trans (hb3.mono (Nat.le_of_lt hz2)))
  have HQ3 := hide (calAt_below hb3 hz2 HQ2.out)
  clear q0 q1 q2 q3 q4 q5 q6 q7 q8 q9 q10 q11 q12 q13
  obtain ⟨q0, q1, q2, q3, q4, q5, q6, q7, q8, q9, q10, q11, q12, q13⟩ := HQ3.out
  clear hb3
  go_wp2_with fail
  refine (paired_ok c y t _ hn WY.out WT.out).mono ?_
  rintro e w4 ⟨rfl, hb4⟩
  simp only [prV]
  rw [← HNY.out, ← HNT.out, ← HAY.out, ← HAT.out]
  have hz4 : w.heap.size < w4.heap.size := Nat.lt_of_lt_of_le hz3 hb4.size
  have HB4 := hide (HB3.out.trans (hb4.mono (Nat.le_of_lt hz3)))
  have HQ4 := hide (calAt_below hb4 hz3 HQ3.out)
  clear q0 q1 q2 q3 q4 q5 q6 q7 q8 q9 q10 q11 q12 q13
  obtain ⟨q0, q1, q2, q3, q4, q5, q6, q7, q8, q9, q10, q11, q12, q13⟩ := HQ4.out
  clear hb4
  have HD := hide (show WkSt c w.heap.size w4.heap.size ny nt ay ta (w4.alloc (.cells #[.int .i64 ny, .int .i64 nt, .int .i64 ay, .int .i64 ta] 260)) from ⟨calAt_alloc HQ4.out hz4 _, by simp; omega, BlkIs.new w4 _ _⟩)
  have HW1 := hide (show Below w.heap.size w (w4.alloc (.cells #[.int .i64 ny, .int .i64 nt, .int .i64 ay, .int .i64 ta] 260)) from HB4.out.alloc (by omega) _)
  go_wp2_with fail
  all_goals first
    | (exfalso; omega)
    | skip
  obtain ⟨P, hP⟩ : ∃ P, P = w4.heap.size := ⟨_, rfl⟩
  rw [← hP] at HD ⊢
  generalize w4.alloc (.cells #[.int .i64 ny, .int .i64 nt, .int .i64 ay, .int .i64 ta] 260) = W at *
  clear q0 q1 q2 q3 q4 q5 q6 q7 q8 q9 q10 q11 q12 q13
  obtain ⟨k0, k1, k2, k3, k4⟩ := HD.out.load
  rw [HP.out] at k0
  have hzW : w.heap.size ≤ W.heap.size := HW1.out.size
  clear hP HB1 HB2 HB3 HB4 HQ1 HQ2 HQ3 HQ4 hz1 hz2 hz3 hz4
  go_region_with (first
    | (go_at_call 239; refine (policies_any2 _).mono ?_; rintro e w5 ⟨⟨M, rfl, hM⟩, hb5⟩; have HD2 := hide (HD.out.drew.call (by exact hb5)); have HW2 := hide (HW1.out.drew.trans (hb5.mono (by exact hzW)) : Below w.heap.size w w5); obtain ⟨m0, m1, m2, m3, m4⟩ := HD2.out.load; rw [HP.out] at m0; have hz5 : w.heap.size ≤ w5.heap.size := HW2.out.size; have hlook := run_look w5 M polEs 3 1 0 (.func (.func 245) #[] #[]) hM rfl; clear hb5 hM)
    | (go_at_call 245; refine (pol1_any ny nt ay ta x _).mono ?_; rintro e w6 ⟨rfl, hb6⟩; have HW3 := hide (HW2.out.trans (hb6.mono (by exact hz5)) : Below w.heap.size w w6); clear hb6))
  all_goals
    go_simp
    go_wp2
    go_ret2
    exact ⟨rfl, HW3.out⟩

set_option maxRecDepth 100000 in
set_option maxHeartbeats 3200000 in
theorem cpweek_2 (c : Cal) (y t x : Int) (w : World) (hn : c.name.size ≤ 1000) (hk : c.okB = true) (hk6 : c.kind ≠ 6) (hy : srv c y) (ht : srv c t) (hx : 1 ≤ x ∧ x ≤ wksV c y) (hp : c.policy = 2) :
    Calls Tryz.prog 224 #[calV c, .int .i64 y, .int .i64 t, .int .i64 x] w fun e w' => e = .returned (.tuple #[.int .i64 (x + wksV c t - wksV c y), .int .i64 0]) ∧ Below w.heap.size w w' := by
  rw [show (x + wksV c t - wksV c y) = x + wksV c t - wksV c y from rfl]
  have HO := hide (show okE c = 0 by simp [okE, hk])
  have hkb : (c.kind == 6) = false := by simpa using hk6
  have HY := hide (show decide (c.first ≤ y ∧ y ≤ c.last) = true by simpa using hy)
  have HT := hide (show decide (c.first ≤ t ∧ t ≤ c.last) = true by simpa using ht)
  obtain ⟨wy, _, wy2⟩ := wks_srv hk hk6 hy
  obtain ⟨wt, _, wt2⟩ := wks_srv hk hk6 ht
  have hay := added_bd hk hk6 hy
  have hat := added_bd hk hk6 ht
  have WY := hide wy
  have WT := hide wt
  obtain ⟨ny, hny⟩ : ∃ n, n = wksV c y := ⟨_, rfl⟩
  obtain ⟨nt, hnt⟩ : ∃ n, n = wksV c t := ⟨_, rfl⟩
  obtain ⟨ay, hay'⟩ : ∃ n, n = addedV c y := ⟨_, rfl⟩
  obtain ⟨ta, hat'⟩ : ∃ n, n = addedV c t := ⟨_, rfl⟩
  rw [← hny] at wy2 hay hx
  rw [← hnt] at wt2 hat
  rw [← hay'] at hay
  rw [← hat'] at hat
  have HNY := hide hny
  have HNT := hide hnt
  have HAY := hide hay'
  have HAT := hide hat'
  have hb1 : 0 ≤ ay ∧ ay ≤ 53 ∧ 0 ≤ ta ∧ ta ≤ 53 ∧ 52 ≤ ny ∧ ny ≤ 53 ∧ 52 ≤ nt ∧ nt ≤ 53 := by omega
  clear hk hk6 hy ht wy wt wy2 wt2 hay hat hny hnt hay' hat'
  obtain ⟨hx1, hx2⟩ := hx
  have HP := hide hp
  clear hp
  rw [← HNT.out, ← HNY.out]
  simp only [calV]
  go_enter Tryz.func224, Tryz.ntmps224
  go_wp2_with fail
  refine (check_any c _ hn).mono ?_
  rintro e w1 ⟨rfl, hb1⟩
  rw [HO.out]
  have hz1 : w.heap.size < w1.heap.size := by have := hb1.size; simp at this; omega
  have HB1 := hide (show Below w.heap.size w w1 by refine Below.trans ?_ (hb1.mono (by simp)); (repeat' exact bel))
  have HQ1 := hide (calAt_below hb1 (by simp) (calAt_new w c))
  obtain ⟨q0, q1, q2, q3, q4, q5, q6, q7, q8, q9, q10, q11, q12, q13⟩ := HQ1.out
  clear hb1
  go_wp2_with fail
  refine (served2_any c y _).mono ?_
  rintro e w2 ⟨rfl, hb2⟩
  rw [HY.out]
  have hz2 : w.heap.size < w2.heap.size := Nat.lt_of_lt_of_le hz1 hb2.size
  have HB2 := hide (HB1.out.trans (hb2.mono (Nat.le_of_lt hz1)))
  have HQ2 := hide (calAt_below hb2 hz1 HQ1.out)
  clear q0 q1 q2 q3 q4 q5 q6 q7 q8 q9 q10 q11 q12 q13
  obtain ⟨q0, q1, q2, q3, q4, q5, q6, q7, q8, q9, q10, q11, q12, q13⟩ := HQ2.out
  clear hb2
  go_wp2_with fail
  refine (served2_any c t _).mono ?_
  rintro e w3 ⟨rfl, hb3⟩
  rw [HT.out]
  have hz3 : w.heap.size < w3.heap.size := Nat.lt_of_lt_of_le hz2 hb3.size
  have HB3 := hide (HB2.out.trans (hb3.mono (Nat.le_of_lt hz2)))
  have HQ3 := hide (calAt_below hb3 hz2 HQ2.out)
  clear q0 q1 q2 q3 q4 q5 q6 q7 q8 q9 q10 q11 q12 q13
  obtain ⟨q0, q1, q2, q3, q4, q5, q6, q7, q8, q9, q10, q11, q12, q13⟩ := HQ3.out
  clear hb3
  go_wp2_with fail
  refine (paired_ok c y t _ hn WY.out WT.out).mono ?_
  rintro e w4 ⟨rfl, hb4⟩
  simp only [prV]
  rw [← HNY.out, ← HNT.out, ← HAY.out, ← HAT.out]
  have hz4 : w.heap.size < w4.heap.size := Nat.lt_of_lt_of_le hz3 hb4.size
  have HB4 := hide (HB3.out.trans (hb4.mono (Nat.le_of_lt hz3)))
  have HQ4 := hide (calAt_below hb4 hz3 HQ3.out)
  clear q0 q1 q2 q3 q4 q5 q6 q7 q8 q9 q10 q11 q12 q13
  obtain ⟨q0, q1, q2, q3, q4, q5, q6, q7, q8, q9, q10, q11, q12, q13⟩ := HQ4.out
  clear hb4
  have HD := hide (show WkSt c w.heap.size w4.heap.size ny nt ay ta (w4.alloc (.cells #[.int .i64 ny, .int .i64 nt, .int .i64 ay, .int .i64 ta] 260)) from ⟨calAt_alloc HQ4.out hz4 _, by simp; omega, BlkIs.new w4 _ _⟩)
  have HW1 := hide (show Below w.heap.size w (w4.alloc (.cells #[.int .i64 ny, .int .i64 nt, .int .i64 ay, .int .i64 ta] 260)) from HB4.out.alloc (by omega) _)
  go_wp2_with fail
  all_goals first
    | (exfalso; omega)
    | skip
  obtain ⟨P, hP⟩ : ∃ P, P = w4.heap.size := ⟨_, rfl⟩
  rw [← hP] at HD ⊢
  generalize w4.alloc (.cells #[.int .i64 ny, .int .i64 nt, .int .i64 ay, .int .i64 ta] 260) = W at *
  clear q0 q1 q2 q3 q4 q5 q6 q7 q8 q9 q10 q11 q12 q13
  obtain ⟨k0, k1, k2, k3, k4⟩ := HD.out.load
  rw [HP.out] at k0
  have hzW : w.heap.size ≤ W.heap.size := HW1.out.size
  clear hP HB1 HB2 HB3 HB4 HQ1 HQ2 HQ3 HQ4 hz1 hz2 hz3 hz4
  go_region_with (first
    | (go_at_call 239; refine (policies_any2 _).mono ?_; rintro e w5 ⟨⟨M, rfl, hM⟩, hb5⟩; have HD2 := hide (HD.out.drew.call (by exact hb5)); have HW2 := hide (HW1.out.drew.trans (hb5.mono (by exact hzW)) : Below w.heap.size w w5); obtain ⟨m0, m1, m2, m3, m4⟩ := HD2.out.load; rw [HP.out] at m0; have hz5 : w.heap.size ≤ w5.heap.size := HW2.out.size; have hlook := run_look w5 M polEs 3 2 1 (.func (.func 246) #[] #[]) hM rfl; clear hb5 hM)
    | (go_at_call 246; refine (pol2_any ny nt ay ta x _ (by omega) (by omega) (by omega)).mono ?_; rintro e w6 ⟨rfl, hb6⟩; have HW3 := hide (HW2.out.trans (hb6.mono (by exact hz5)) : Below w.heap.size w w6); clear hb6))
  all_goals
    go_simp
    go_wp2
    go_ret2
    exact ⟨rfl, HW3.out⟩

set_option maxRecDepth 100000 in
set_option maxHeartbeats 3200000 in
theorem cpweek_3 (c : Cal) (y t x : Int) (w : World) (hn : c.name.size ≤ 1000) (hk : c.okB = true) (hk6 : c.kind ≠ 6) (hy : srv c y) (ht : srv c t) (hx : 1 ≤ x ∧ x ≤ wksV c y) (hp : c.policy = 3) :
    Calls Tryz.prog 224 #[calV c, .int .i64 y, .int .i64 t, .int .i64 x] w fun e w' => e = .returned (.tuple #[.int .i64 (dropV (addedV c y) (addedV c t) x), .int .i64 (dropE (addedV c y) (addedV c t) x)]) ∧ Below w.heap.size w w' := by
  have HO := hide (show okE c = 0 by simp [okE, hk])
  have hkb : (c.kind == 6) = false := by simpa using hk6
  have HY := hide (show decide (c.first ≤ y ∧ y ≤ c.last) = true by simpa using hy)
  have HT := hide (show decide (c.first ≤ t ∧ t ≤ c.last) = true by simpa using ht)
  obtain ⟨wy, _, wy2⟩ := wks_srv hk hk6 hy
  obtain ⟨wt, _, wt2⟩ := wks_srv hk hk6 ht
  have hay := added_bd hk hk6 hy
  have hat := added_bd hk hk6 ht
  have WY := hide wy
  have WT := hide wt
  obtain ⟨ny, hny⟩ : ∃ n, n = wksV c y := ⟨_, rfl⟩
  obtain ⟨nt, hnt⟩ : ∃ n, n = wksV c t := ⟨_, rfl⟩
  obtain ⟨ay, hay'⟩ : ∃ n, n = addedV c y := ⟨_, rfl⟩
  obtain ⟨ta, hat'⟩ : ∃ n, n = addedV c t := ⟨_, rfl⟩
  rw [← hny] at wy2 hay hx
  rw [← hnt] at wt2 hat
  rw [← hay'] at hay
  rw [← hat'] at hat
  have HNY := hide hny
  have HNT := hide hnt
  have HAY := hide hay'
  have HAT := hide hat'
  have hb1 : 0 ≤ ay ∧ ay ≤ 53 ∧ 0 ≤ ta ∧ ta ≤ 53 ∧ 52 ≤ ny ∧ ny ≤ 53 ∧ 52 ≤ nt ∧ nt ≤ 53 := by omega
  clear hk hk6 hy ht wy wt wy2 wt2 hay hat hny hnt hay' hat'
  obtain ⟨hx1, hx2⟩ := hx
  have HP := hide hp
  clear hp
  rw [← HAY.out, ← HAT.out]
  simp only [calV]
  go_enter Tryz.func224, Tryz.ntmps224
  go_wp2_with fail
  refine (check_any c _ hn).mono ?_
  rintro e w1 ⟨rfl, hb1⟩
  rw [HO.out]
  have hz1 : w.heap.size < w1.heap.size := by have := hb1.size; simp at this; omega
  have HB1 := hide (show Below w.heap.size w w1 by refine Below.trans ?_ (hb1.mono (by simp)); (repeat' exact bel))
  have HQ1 := hide (calAt_below hb1 (by simp) (calAt_new w c))
  obtain ⟨q0, q1, q2, q3, q4, q5, q6, q7, q8, q9, q10, q11, q12, q13⟩ := HQ1.out
  clear hb1
  go_wp2_with fail
  refine (served2_any c y _).mono ?_
  rintro e w2 ⟨rfl, hb2⟩
  rw [HY.out]
  have hz2 : w.heap.size < w2.heap.size := Nat.lt_of_lt_of_le hz1 hb2.size
  have HB2 := hide (HB1.out.trans (hb2.mono (Nat.le_of_lt hz1)))
  have HQ2 := hide (calAt_below hb2 hz1 HQ1.out)
  clear q0 q1 q2 q3 q4 q5 q6 q7 q8 q9 q10 q11 q12 q13
  obtain ⟨q0, q1, q2, q3, q4, q5, q6, q7, q8, q9, q10, q11, q12, q13⟩ := HQ2.out
  clear hb2
  go_wp2_with fail
  refine (served2_any c t _).mono ?_
  rintro e w3 ⟨rfl, hb3⟩
  rw [HT.out]
  have hz3 : w.heap.size < w3.heap.size := Nat.lt_of_lt_of_le hz2 hb3.size
  have HB3 := hide (HB2.out.trans (hb3.mono (Nat.le_of_lt hz2)))
  have HQ3 := hide (calAt_below hb3 hz2 HQ2.out)
  clear q0 q1 q2 q3 q4 q5 q6 q7 q8 q9 q10 q11 q12 q13
  obtain ⟨q0, q1, q2, q3, q4, q5, q6, q7, q8, q9, q10, q11, q12, q13⟩ := HQ3.out
  clear hb3
  go_wp2_with fail
  refine (paired_ok c y t _ hn WY.out WT.out).mono ?_
  rintro e w4 ⟨rfl, hb4⟩
  simp only [prV]
  rw [← HNY.out, ← HNT.out, ← HAY.out, ← HAT.out]
  have hz4 : w.heap.size < w4.heap.size := Nat.lt_of_lt_of_le hz3 hb4.size
  have HB4 := hide (HB3.out.trans (hb4.mono (Nat.le_of_lt hz3)))
  have HQ4 := hide (calAt_below hb4 hz3 HQ3.out)
  clear q0 q1 q2 q3 q4 q5 q6 q7 q8 q9 q10 q11 q12 q13
  obtain ⟨q0, q1, q2, q3, q4, q5, q6, q7, q8, q9, q10, q11, q12, q13⟩ := HQ4.out
  clear hb4
  have HD := hide (show WkSt c w.heap.size w4.heap.size ny nt ay ta (w4.alloc (.cells #[.int .i64 ny, .int .i64 nt, .int .i64 ay, .int .i64 ta] 260)) from ⟨calAt_alloc HQ4.out hz4 _, by simp; omega, BlkIs.new w4 _ _⟩)
  have HW1 := hide (show Below w.heap.size w (w4.alloc (.cells #[.int .i64 ny, .int .i64 nt, .int .i64 ay, .int .i64 ta] 260)) from HB4.out.alloc (by omega) _)
  go_wp2_with fail
  all_goals first
    | (exfalso; omega)
    | skip
  obtain ⟨P, hP⟩ : ∃ P, P = w4.heap.size := ⟨_, rfl⟩
  rw [← hP] at HD ⊢
  generalize w4.alloc (.cells #[.int .i64 ny, .int .i64 nt, .int .i64 ay, .int .i64 ta] 260) = W at *
  clear q0 q1 q2 q3 q4 q5 q6 q7 q8 q9 q10 q11 q12 q13
  obtain ⟨k0, k1, k2, k3, k4⟩ := HD.out.load
  rw [HP.out] at k0
  have hzW : w.heap.size ≤ W.heap.size := HW1.out.size
  clear hP HB1 HB2 HB3 HB4 HQ1 HQ2 HQ3 HQ4 hz1 hz2 hz3 hz4
  go_region_with (first
    | (go_at_call 239; refine (policies_any2 _).mono ?_; rintro e w5 ⟨⟨M, rfl, hM⟩, hb5⟩; have HD2 := hide (HD.out.drew.call (by exact hb5)); have HW2 := hide (HW1.out.drew.trans (hb5.mono (by exact hzW)) : Below w.heap.size w w5); obtain ⟨m0, m1, m2, m3, m4⟩ := HD2.out.load; rw [HP.out] at m0; have hz5 : w.heap.size ≤ w5.heap.size := HW2.out.size; have hlook := run_look w5 M polEs 3 3 2 (.func (.func 247) #[] #[]) hM rfl; clear hb5 hM)
    | (go_at_call 247; refine (drop_any ny nt ay ta x _ (by omega) (by omega) (by omega)).mono ?_; rintro e w6 ⟨rfl, hb6⟩; have HW3 := hide (HW2.out.trans (hb6.mono (by exact hz5)) : Below w.heap.size w w6); clear hb6))
  all_goals
    go_simp
    go_wp2
    go_ret2
    exact ⟨rfl, HW3.out⟩

/-- Why a week has no comparable one, and which it is. -/
def cwE (c : Cal) (y t x : Int) : Int := if c.okB = true ∧ c.kind ≠ 6 then (if (c.first ≤ y ∧ y ≤ c.last) ∧ (c.first ≤ t ∧ t ≤ c.last) then (if 1 ≤ x ∧ x ≤ wksV c y then (if c.policy = 3 then dropE (addedV c y) (addedV c t) x else 0) else 13) else 11) else 1
def cwV (c : Cal) (y t x : Int) : Int := if cwE c y t x = 0 then (if c.policy = 1 then x else if c.policy = 2 then x + wksV c t - wksV c y else dropV (addedV c y) (addedV c t) x) else 0
theorem ok_pol {c : Cal} (hk : c.okB = true) (hk6 : c.kind ≠ 6) : c.policy = 1 ∨ c.policy = 2 ∨ c.policy = 3 := by
  have hok : c.Ok := by simpa [Cal.okB] using hk
  have hp := hok.2.1
  unfold Cal.polic at hp
  omega
theorem cw_in {c : Cal} {y t x : Int} (hk : c.okB = true) (hk6 : c.kind ≠ 6) (hy : srv c y) (ht : srv c t) (hx : 1 ≤ x ∧ x ≤ wksV c y) : cwE c y t x = if c.policy = 3 then dropE (addedV c y) (addedV c t) x else 0 := by
  unfold cwE
  rw [if_pos ⟨hk, hk6⟩, if_pos ⟨hy, ht⟩, if_pos hx]
theorem drop_bd (a b x : Int) (ha : 0 ≤ a ∧ a ≤ 53) (hb : 0 ≤ b ∧ b ≤ 53) (hx : 1 ≤ x ∧ x ≤ 53) : 0 ≤ dropV a b x ∧ dropV a b x ≤ 54 := by
  unfold dropV
  repeat' split
  all_goals omega
theorem cw_bd {c : Cal} {y t x : Int} (hk : c.okB = true) (hk6 : c.kind ≠ 6) (hy : srv c y) (ht : srv c t) (hx : 1 ≤ x ∧ x ≤ wksV c y) : 0 ≤ cwV c y t x ∧ cwV c y t x ≤ 60 := by
  have h1 := (wks_srv hk hk6 hy).2.2
  have h2 := (wks_srv hk hk6 ht).2.2
  have h3 := added_bd hk hk6 hy
  have h4 := added_bd hk hk6 ht
  have := drop_bd (addedV c y) (addedV c t) x (by omega) (by omega) (by omega)
  unfold cwV
  repeat' split
  all_goals omega
theorem week_any (c : Cal) (y t x : Int) (w : World) (hn : c.name.size ≤ 1000) :
    Calls Tryz.prog 224 #[calV c, .int .i64 y, .int .i64 t, .int .i64 x] w fun e w' => e = .returned (.tuple #[.int .i64 (cwV c y t x), .int .i64 (cwE c y t x)]) ∧ Below w.heap.size w w' := by
  have zero : ∀ e, cwE c y t x = e → e ≠ 0 → cwV c y t x = 0 := fun e h1 h2 => by rw [cwV, if_neg (by omega)]
  cases hk : c.okB
  · have hE : cwE c y t x = 1 := by unfold cwE; rw [if_neg (by rw [hk]; simp)]
    rw [zero 1 hE (by omega), hE]
    exact cpweek_cal c y t x w hn hk
  · by_cases hk6 : c.kind = 6
    · have hE : cwE c y t x = 1 := by unfold cwE; rw [if_neg (fun h => h.2 hk6)]
      rw [zero 1 hE (by omega), hE]
      exact cpweek_mon c y t x w hn hk hk6
    · by_cases hy : srv c y
      · by_cases ht : srv c t
        · by_cases hx : 1 ≤ x ∧ x ≤ wksV c y
          · have hE := cw_in hk hk6 hy ht hx
            rcases ok_pol hk hk6 with hp | hp | hp
            · have hE0 : cwE c y t x = 0 := by rw [hE, if_neg (by omega)]
              rw [cwV, if_pos hE0, hE0, if_pos hp]
              exact cpweek_1 c y t x w hn hk hk6 hy ht hx hp
            · have hE0 : cwE c y t x = 0 := by rw [hE, if_neg (by omega)]
              rw [cwV, if_pos hE0, hE0, if_neg (by omega), if_pos hp]
              exact cpweek_2 c y t x w hn hk hk6 hy ht hx hp
            · rw [if_pos hp] at hE
              have hV : cwV c y t x = dropV (addedV c y) (addedV c t) x := by
                unfold cwV
                rw [hE]
                by_cases hd : dropE (addedV c y) (addedV c t) x = 0
                · rw [if_pos hd, if_neg (by omega), if_neg (by omega)]
                · rw [if_neg hd]
                  unfold dropE at hd
                  split at hd
                  · rename_i h
                    unfold dropV
                    rw [if_pos h.1, h.2]
                  · exact absurd rfl hd
              rw [hV, hE]
              exact cpweek_3 c y t x w hn hk hk6 hy ht hx hp
          · have hE : cwE c y t x = 13 := by unfold cwE; rw [if_pos ⟨hk, hk6⟩, if_pos ⟨hy, ht⟩, if_neg hx]
            rw [zero 13 hE (by omega), hE]
            exact cpweek_none c y t x w hn hk hk6 hy ht (by omega)
        · have hE : cwE c y t x = 11 := by unfold cwE; rw [if_pos ⟨hk, hk6⟩, if_neg (fun h => ht h.2)]
          rw [zero 11 hE (by omega), hE]
          exact cpweek_t c y t x w hn hk hk6 hy ht
      · have hE : cwE c y t x = 11 := by unfold cwE; rw [if_pos ⟨hk, hk6⟩, if_neg (fun h => hy h.1)]
        rw [zero 11 hE (by omega), hE]
        exact cpweek_y c y t x w hn hk hk6 hy

theorem fd_served {c : Cal} {d : Int} (hs : servE c d = 0) (lv : Int) (h1 : 1 ≤ lv) (h5 : lv ≤ 5) : fdE c d lv = 0 := by
  have := serv_ok hs
  unfold fdE
  rw [if_pos ⟨this.1, h1, h5⟩]
  exact hs
/-- The week of a served day. -/
theorem fd_week {c : Cal} {d : Int} (hs : servE c d = 0) (hk6 : c.kind ≠ 6) :
    fdU c d 5 = ⟨5, servY c d, (d - startV c (servY c d)) / 7 + 1⟩ ∧ unitE c ⟨5, servY c d, (d - startV c (servY c d)) / 7 + 1⟩ = 0 ∧ (spV c ⟨5, servY c d, (d - startV c (servY c d)) / 7 + 1⟩).a = d - (d - startV c (servY c d)) % 7 ∧
      1 ≤ (d - startV c (servY c d)) / 7 + 1 ∧ (d - startV c (servY c d)) / 7 + 1 ≤ wksV c (servY c d) ∧ (spV c ⟨5, servY c d, (d - startV c (servY c d)) / 7 + 1⟩).b ≤ 3068038 := by
  have hf5 := fd_served hs 5 (by omega) (by omega)
  obtain ⟨hk, h1, h5, _, hd, hy, hf⟩ := fd_ok hf5
  obtain ⟨i, e, hi, ha, hb⟩ := fd_in hf5
  have hcut : ∀ j, cutN c (servY c d) 5 j = j := fun j => by simp [cutN]
  rw [hcut] at ha hb
  rw [cnt_5] at hi
  have hA := hy.1
  have d1 := dayW_7 c _ hA hk6 i (Nat.le_of_lt hi)
  have d2 := dayW_7 c _ hA hk6 (i + 1) hi
  have hq : (d - startV c (servY c d)) / 7 = (i : Int) := by omega
  obtain ⟨g0, _, _⟩ := un_mk hf i (by rw [cnt_5]; exact hi)
  have hsp := sp_mk hf i (by rw [cnt_5]; exact hi)
  rw [hcut, hcut, d1, d2] at hsp
  have hE : wksE c (servY c d) = 0 := by simp [wksE, wksB, hk, hk6, hA]
  have h7 := nWk_7 c _ hA hk6
  have hw := (wks_ok hE).2.2.2.2.2.2
  have hyb := year_bd c _ hA
  have hdv : daysV c (servY c d) = endV c (servY c d) - startV c (servY c d) + 1 := by simp [daysV, hA]
  rw [hq]
  refine ⟨e, g0, ?_, by omega, by omega, ?_⟩
  · rw [hsp]; simp only; omega
  · rw [hsp]; simp only; omega
/-- The months of a served day's period, and of that of the same number. -/
theorem sp_period {c : Cal} {y : Int} (hf : frameE c 4 y = 0) (i : Nat) (hi : i < nPer c y) : spV c ⟨4, y, (i : Int) + 1⟩ = ⟨fromAt c y i, endAt c y i⟩ := by
  obtain ⟨hok, hk, _, _, hy1, hy2, hA⟩ := frame_ok hf
  have hsp := sp_mk hf i (by rw [cnt_4]; exact hi)
  have c4 : ∀ j, cutN c y 4 j = cumW c y j := fun j => by simp [cutN, pcut]
  rw [c4, c4, dayW_cum c y hA i (Nat.le_of_lt hi), dayW_cum c y hA (i + 1) hi, from_succ] at hsp
  rw [hsp]
  congr 1
  omega
theorem fd_month {c : Cal} {d : Int} (hs : servE c d = 0) : ∃ i : Nat, uI (fdU c d 4) = i ∧ fdU c d 4 = ⟨4, servY c d, (i : Int) + 1⟩ ∧ i < nPer c (servY c d) ∧ fromAt c (servY c d) i ≤ d ∧ d ≤ endAt c (servY c d) i := by
  have hf4 := fd_served hs 4 (by omega) (by omega)
  obtain ⟨hk, h1, h5, _, hd, hy, hf⟩ := fd_ok hf4
  obtain ⟨i, e, hi, ha, hb⟩ := fd_in hf4
  rw [cnt_4] at hi
  have c4 : ∀ j, cutN c (servY c d) 4 j = cumW c (servY c d) j := fun j => by simp [cutN, pcut]
  rw [c4, dayW_cum c _ hy.1 i (Nat.le_of_lt hi)] at ha
  rw [c4, dayW_cum c _ hy.1 (i + 1) hi, from_succ] at hb
  exact ⟨i, by rw [e]; simp [uI], e, hi, ha, by omega⟩
theorem per_same {c : Cal} (hk : c.okB = true) (y t : Int) : nPer c y = nPer c t := by
  have h1 : ((nPer c y : Nat) : Int) = perV c := ends_len c y hk
  have h2 : ((nPer c t : Nat) : Int) = perV c := ends_len c t hk
  omega

theorem sp_bd2 {c : Cal} {u : Un} (h : unitE c u = 0) : 0 ≤ (spV c u).a ∧ (spV c u).a ≤ (spV c u).b ∧ (spV c u).b ≤ 3068037 := by
  obtain ⟨hf, hl1, hl5, hA, hx, hi⟩ := un_lv h
  have hab := cutAB h
  rw [sp_get h]
  have b1 := dayW_le c u.yr hA (Nat.zero_le (cutA c u)) (by omega)
  have b2 := dayW_le c u.yr hA hab.2 (Nat.le_refl _)
  have b3 := dayW_lt c u.yr hA hab.1 hab.2
  rw [dayW_0] at b1
  rw [dayW_end c u.yr hA] at b2
  have := year_bd c u.yr hA
  simp only
  omega
noncomputable def cdE (c : Cal) (d k : Int) : Int := if servE c d = 0 then (if c.first - servY c d ≤ k ∧ k ≤ c.last - servY c d then (if c.kind = 6 then 0 else cwE c (servY c d) (servY c d + k) ((d - startV c (servY c d)) / 7 + 1)) else 11) else servE c d
noncomputable def cdV (c : Cal) (d k : Int) : Int := if cdE c d k = 0 then (if c.kind = 6 then min (fromAt c (servY c d + k) (uI (fdU c d 4)) + (d - fromAt c (servY c d) (uI (fdU c d 4)))) (endAt c (servY c d + k) (uI (fdU c d 4))) else startV c (servY c d + k) + 7 * (cwV c (servY c d) (servY c d + k) ((d - startV c (servY c d)) / 7 + 1) - 1) + (d - startV c (servY c d)) % 7) else 0

theorem wkDay_same (c : Cal) (y t : Int) (h : wksV c y = wksV c t) (k : Nat) : wkDay c y k - startV c y = wkDay c t k - startV c t := by
  induction k with
  | zero => simp [wkDay]
  | succ k ih =>
    have e1 : wkDay c y (k + 1) = wkDay c y k + 7 * lenAt c (wksV c y) k := rfl
    have e2 : wkDay c t (k + 1) = wkDay c t k + 7 * lenAt c (wksV c t) k := rfl
    rw [e1, e2, h]
    omega
/-- Each year of 53 weeks has the added one at the same place. -/
theorem added_const {c : Cal} {y t : Int} (hk : c.okB = true) (hk6 : c.kind ≠ 6) (hy : srv c y) (ht : srv c t) (h1 : wksV c y = 53) (h2 : wksV c t = 53) : addedV c y = addedV c t := by
  obtain ⟨ey, ay, _⟩ := wks_srv hk hk6 hy
  obtain ⟨et, at', _⟩ := wks_srv hk hk6 ht
  have hok : c.Ok := by simpa [Cal.okB] using hk
  obtain ⟨x1, x2⟩ := extra_bd hok hk6
  obtain ⟨s4, s6, _, _⟩ := ok_shape hok
  have h5 : ¬ c.shape = 5 := fun h => hk6 (s6.2 h)
  unfold addedV
  rw [if_pos ⟨ey, h1⟩, if_pos ⟨et, h2⟩]
  by_cases h4 : c.shape = 4
  · have hx : c.extra = 12 := by
      obtain ⟨_, _, _, hr⟩ := hok
      unfold Cal.ruled Cal.weeks weeksP Cal.pat0 at hr
      omega
    have hly := last_end c y ay
    have hlt := last_end c t at'
    have hny : (endsL c y).length = 12 := by simp [endsL, h4, sun_len]
    have hnt : (endsL c t).length = 12 := by simp [endsL, h4, sun_len]
    rw [hny] at hly
    rw [hnt] at hlt
    have e1 : fromAt c y 12 = endAt c y 11 + 1 := from_succ c y 11
    have e2 : fromAt c t 12 = endAt c t 11 + 1 := from_succ c t 11
    have w1 := (wks_ok ey).2.2.2.2
    have w2 := (wks_ok et).2.2.2.2
    have d1 : daysV c y = endV c y - startV c y + 1 := by simp [daysV, ay]
    have d2 : daysV c t = endV c t - startV c t + 1 := by simp [daysV, at']
    rw [hx]
    rw [show ((12 : Int) - 1).toNat = 11 from rfl]
    omega
  · have eA : ∀ z, ∀ j : Nat, (j : Int) < perV c → endAt c z j = wkDay c z (j + 1) - 1 := by
      intro z j hj
      have eL : endsL c z = (List.range (perV c).toNat).map fun i => wkDay c z (i + 1) - 1 := by simp [endsL, h4, h5]
      unfold endAt
      rw [eL]
      simp [hj]
    rw [eA y _ (by omega), eA t _ (by omega)]
    have := wkDay_same c y t (by omega) ((c.extra - 1).toNat + 1)
    congr 1
    omega
/-- A served day of a year of weeks, and its comparable one. -/
theorem cd_week {c : Cal} {d k : Int} (hs : servE c d = 0) (hk6 : c.kind ≠ 6) (hx : c.first ≤ servY c d + k ∧ servY c d + k ≤ c.last) :
    cdE c d k = cwE c (servY c d) (servY c d + k) ((d - startV c (servY c d)) / 7 + 1) ∧
    (cdE c d k = 0 → cdV c d k = startV c (servY c d + k) + (d - startV c (servY c d)) + 7 * (cwV c (servY c d) (servY c d + k) ((d - startV c (servY c d)) / 7 + 1) - ((d - startV c (servY c d)) / 7 + 1))) := by
  have hE : cdE c d k = cwE c (servY c d) (servY c d + k) ((d - startV c (servY c d)) / 7 + 1) := by rw [cdE, if_pos hs, if_pos (by omega), if_neg hk6]
  refine ⟨hE, fun h => ?_⟩
  rw [cdV, if_pos h, if_neg hk6]
  omega
/-- What the three policies do. -/
theorem cw_cases {c : Cal} {y t x : Int} (hk : c.okB = true) (hk6 : c.kind ≠ 6) (hy : srv c y) (ht : srv c t) (hx : 1 ≤ x ∧ x ≤ wksV c y) :
    (c.policy = 1 ∧ cwE c y t x = 0 ∧ cwV c y t x = x) ∨ (c.policy = 2 ∧ cwE c y t x = 0 ∧ cwV c y t x = x + wksV c t - wksV c y) ∨
    (c.policy = 3 ∧ ((x = addedV c y ∧ addedV c t = 0 ∧ cwE c y t x = 12 ∧ cwV c y t x = 0) ∨ (¬ (x = addedV c y ∧ addedV c t = 0) ∧ cwE c y t x = 0 ∧ cwV c y t x = dropV (addedV c y) (addedV c t) x))) := by
  have hE := cw_in hk hk6 hy ht hx
  rcases ok_pol hk hk6 with hp | hp | hp
  · left
    have hE0 : cwE c y t x = 0 := by rw [hE, if_neg (by omega)]
    exact ⟨hp, hE0, by rw [cwV, if_pos hE0, if_pos hp]⟩
  · right; left
    have hE0 : cwE c y t x = 0 := by rw [hE, if_neg (by omega)]
    exact ⟨hp, hE0, by rw [cwV, if_pos hE0, if_neg (by omega), if_pos hp]⟩
  · right; right
    rw [if_pos hp] at hE
    refine ⟨hp, ?_⟩
    by_cases hd : x = addedV c y ∧ addedV c t = 0
    · left
      have hE2 : cwE c y t x = 12 := by rw [hE, dropE, if_pos hd]
      exact ⟨hd.1, hd.2, hE2, by rw [cwV, if_neg (by omega)]⟩
    · right
      have hE2 : cwE c y t x = 0 := by rw [hE, dropE, if_neg hd]
      exact ⟨hd, hE2, by rw [cwV, if_pos hE2, if_neg (by omega), if_neg (by omega)]⟩
theorem cd_out {c : Cal} {d k : Int} (hs : servE c d = 0) (hx : ¬ (c.first ≤ servY c d + k ∧ servY c d + k ≤ c.last)) : cdE c d k = 11 ∧ cdV c d k = 0 := by
  have hE : cdE c d k = 11 := by rw [cdE, if_pos hs, if_neg (by omega)]
  exact ⟨hE, by rw [cdV, if_neg (by omega)]⟩
theorem cd_no {c : Cal} {d k : Int} (hs : ¬ servE c d = 0) : cdE c d k = servE c d ∧ cdV c d k = 0 := by
  have hE : cdE c d k = servE c d := by rw [cdE, if_neg hs]
  exact ⟨hE, by rw [cdV, if_neg (by rw [hE]; exact hs)]⟩
/-- In its own year a day is compared with itself. -/
theorem cd_same {c : Cal} {d : Int} (hs : servE c d = 0) : cdE c d 0 = 0 ∧ cdV c d 0 = d := by
  obtain ⟨hk, hd, hyr, hy1, hy2⟩ := serv_ok hs
  by_cases hk6 : c.kind = 6
  · have hE : cdE c d 0 = 0 := by rw [cdE, if_pos hs, if_pos (by omega), if_pos hk6]
    refine ⟨hE, ?_⟩
    rw [cdV, if_pos hE, if_pos hk6]
    obtain ⟨i, e1, e2, e3, e4, e5⟩ := fd_month hs
    rw [e1, show servY c d + 0 = servY c d by omega]
    omega
  · obtain ⟨hE, hV⟩ := cd_week (k := 0) hs hk6 (by omega)
    rw [show servY c d + 0 = servY c d by omega] at hE hV
    have hsy : srv c (servY c d) := ⟨hy1, hy2⟩
    obtain ⟨f1, f2, f3, f4, f5, f6⟩ := fd_week hs hk6
    have hab := added_bd hk hk6 hsy
    rcases cw_cases hk hk6 hsy hsy ⟨f4, f5⟩ with ⟨_, h1, h2⟩ | ⟨_, h1, h2⟩ | ⟨_, ⟨h0, h3, h1, h2⟩ | ⟨h0, h1, h2⟩⟩
    · have h0 : cdE c d 0 = 0 := by rw [hE, h1]
      exact ⟨h0, by rw [hV h0, h2]; omega⟩
    · have h0 : cdE c d 0 = 0 := by rw [hE, h1]
      exact ⟨h0, by rw [hV h0, h2]; omega⟩
    · omega
    · have h0 : cdE c d 0 = 0 := by rw [hE, h1]
      refine ⟨h0, ?_⟩
      rw [hV h0, h2]
      have : dropV (addedV c (servY c d)) (addedV c (servY c d)) ((d - startV c (servY c d)) / 7 + 1) = (d - startV c (servY c d)) / 7 + 1 := by
        unfold dropV
        repeat' split
        all_goals omega
      omega

def nrf19 : Cal := ⟨⟨#[120]⟩, 3, 6, 1, 1, 1, 4, 5, 4, 0, 12, 2000, 2030, 2⟩
theorem n19_week : cwE nrf19 2024 2023 1 = 0 ∧ cwV nrf19 2024 2023 1 = 2 := by decide +kernel
theorem n19_ask : askE nrf19 2024 1601 = 0 ∧ askE nrf19 2023 1601 = 0 := by decide +kernel
theorem n19_bd : startV nrf19 2024 ≤ endV nrf19 2024 := by decide +kernel
theorem n19_day : cdE nrf19 (startV nrf19 2024) (-1) = 0 ∧ cdV nrf19 (startV nrf19 2024) (-1) = startV nrf19 2023 + 7 := by
  have hs := serv_yes (c := nrf19) (day := startV nrf19 2024) (y := 2024) (by decide +kernel) ⟨n19_ask.1, Int.le_refl _, n19_bd⟩ (by decide) (by decide)
  obtain ⟨hE, hV⟩ := cd_week (k := -1) hs.1 (by decide) (by rw [hs.2]; decide)
  rw [hs.2] at hE hV
  have e : startV nrf19 2024 - startV nrf19 2024 = 0 := by omega
  rw [e] at hE hV
  have e2 : (0 : Int) / 7 + 1 = 1 := by decide
  rw [e2, show (2024 : Int) + -1 = 2023 from rfl] at hE hV
  rw [n19_week.1] at hE
  refine ⟨hE, ?_⟩
  rw [hV hE, n19_week.2]
  omega

theorem drop_same (a x : Int) (hx : 1 ≤ x) : dropV a a x = x := by
  unfold dropV
  repeat' split
  all_goals omega
theorem drop_l (b x : Int) (hx : 1 ≤ x) : dropV 0 b x = if 0 < b ∧ b ≤ x then x + 1 else x := by
  unfold dropV
  repeat' split
  all_goals omega
theorem drop_r (a x : Int) (h : x ≠ a) : dropV a 0 x = if 0 < a ∧ a < x then x - 1 else x := by
  unfold dropV
  repeat' split
  all_goals omega
/-- The added weeks of two years. -/
theorem added_two {c : Cal} {y t : Int} (hk : c.okB = true) (hk6 : c.kind ≠ 6) (hy : srv c y) (ht : srv c t) :
    (addedV c y = addedV c t ∧ wksV c y = wksV c t) ∨ (addedV c y = 0 ∧ 0 < addedV c t ∧ addedV c t ≤ 53 ∧ wksV c y = 52 ∧ wksV c t = 53) ∨ (0 < addedV c y ∧ addedV c t = 0 ∧ addedV c y ≤ 53 ∧ wksV c y = 53 ∧ wksV c t = 52) := by
  have h1 := added_bd hk hk6 hy
  have h2 := added_bd hk hk6 ht
  have w1 := (wks_srv hk hk6 hy).2.2
  have w2 := (wks_srv hk hk6 ht).2.2
  rcases w1 with w1 | w1 <;> rcases w2 with w2 | w2
  · left; omega
  · right; left; omega
  · right; right; omega
  · left
    exact ⟨added_const hk hk6 hy ht w1 w2, by omega⟩
/-- What a week of a year is compared with, told as what is added to its number. -/
theorem cw_shift {c : Cal} {y t x : Int} (hk : c.okB = true) (hk6 : c.kind ≠ 6) (hy : srv c y) (ht : srv c t) (hx : 1 ≤ x ∧ x ≤ wksV c y) :
    (cwE c y t x = 12 ∧ cwV c y t x = 0 ∧ c.policy = 3 ∧ wksV c y = 53 ∧ wksV c t = 52 ∧ x = addedV c y) ∨
    (cwE c y t x = 0 ∧ c.policy = 1 ∧ cwV c y t x = x) ∨
    (cwE c y t x = 0 ∧ c.policy = 2 ∧ cwV c y t x = x + wksV c t - wksV c y) ∨
    (cwE c y t x = 0 ∧ c.policy = 3 ∧ wksV c y = wksV c t ∧ cwV c y t x = x) ∨
    (cwE c y t x = 0 ∧ c.policy = 3 ∧ wksV c y = 52 ∧ wksV c t = 53 ∧ addedV c y = 0 ∧ 0 < addedV c t ∧ addedV c t ≤ 53 ∧ ((x < addedV c t ∧ cwV c y t x = x) ∨ (addedV c t ≤ x ∧ cwV c y t x = x + 1))) ∨
    (cwE c y t x = 0 ∧ c.policy = 3 ∧ wksV c y = 53 ∧ wksV c t = 52 ∧ 0 < addedV c y ∧ addedV c t = 0 ∧ addedV c y ≤ 53 ∧ ((x < addedV c y ∧ cwV c y t x = x) ∨ (addedV c y < x ∧ cwV c y t x = x - 1))) := by
  have h2 := added_two hk hk6 hy ht
  rcases cw_cases hk hk6 hy ht hx with ⟨p, e, v⟩ | ⟨p, e, v⟩ | ⟨p, ⟨h0, h3, e, v⟩ | ⟨h0, e, v⟩⟩
  · right; left; exact ⟨e, p, v⟩
  · right; right; left; exact ⟨e, p, v⟩
  · left
    rcases h2 with h2 | h2 | h2
    · omega
    · omega
    · exact ⟨e, v, p, h2.2.2.2.1, h2.2.2.2.2, h0⟩
  · rcases h2 with h2 | h2 | h2
    · right; right; right; left
      refine ⟨e, p, h2.2, ?_⟩
      rw [v, ← h2.1, drop_same _ _ hx.1]
    · right; right; right; right; left
      refine ⟨e, p, h2.2.2.2.1, h2.2.2.2.2, h2.1, h2.2.1, h2.2.2.1, ?_⟩
      rw [h2.1, drop_l _ _ hx.1] at v
      by_cases h : addedV c t ≤ x
      · right; rw [if_pos ⟨h2.2.1, h⟩] at v; exact ⟨h, v⟩
      · left; rw [if_neg (by omega)] at v; exact ⟨by omega, v⟩
    · right; right; right; right; right
      refine ⟨e, p, h2.2.2.2.1, h2.2.2.2.2, h2.1, h2.2.1, h2.2.2.1, ?_⟩
      have hne : x ≠ addedV c y := fun h => h0 ⟨h, h2.2.1⟩
      rw [h2.2.1, drop_r _ _ hne] at v
      by_cases h : addedV c y < x
      · right; rw [if_pos ⟨h2.1, h⟩] at v; exact ⟨h, v⟩
      · left; rw [if_neg (by omega)] at v; exact ⟨by omega, v⟩
/-- A served day of a year of weeks: what there is to know of its year. -/
theorem sv_week {c : Cal} {d : Int} (hs : servE c d = 0) (hk6 : c.kind ≠ 6) : c.okB = true ∧ isB d = true ∧ srv c (servY c d) ∧ 0 ≤ d - startV c (servY c d) ∧ d - startV c (servY c d) < 7 * wksV c (servY c d) ∧ 1 ≤ (d - startV c (servY c d)) / 7 + 1 ∧ (d - startV c (servY c d)) / 7 + 1 ≤ wksV c (servY c d) := by
  obtain ⟨hk, hd, hyr, hy1, hy2⟩ := serv_ok hs
  obtain ⟨f1, f2, f3, f4, f5, f6⟩ := fd_week hs hk6
  exact ⟨hk, hd, ⟨hy1, hy2⟩, by have := hyr.2.1; omega, by omega, f4, f5⟩
/-- Year of weeks: its days. -/
theorem yr_week {c : Cal} {y : Int} (hk : c.okB = true) (hk6 : c.kind ≠ 6) (hy : srv c y) : endV c y = startV c y + 7 * wksV c y - 1 ∧ askE c y 1601 = 0 ∧ 52 ≤ wksV c y ∧ wksV c y ≤ 53 ∧ 358 ≤ startV c y ∧ endV c y + 358 ≤ 3068037 := by
  obtain ⟨hE, hA, h5⟩ := wks_srv hk hk6 hy
  have hw := (wks_ok hE).2.2.2.2.2.2
  have hdv : daysV c y = endV c y - startV c y + 1 := by simp [daysV, hA]
  have hok : c.Ok := by simpa [Cal.okB] using hk
  obtain ⟨_, _, b1, b2, _⟩ := ok_years hk
  obtain ⟨h1, h2⟩ := hy
  have e1 : endV c 1600 + 358 ≤ endV c 1601 := by simpa using end_mono c 1600 hok (by omega) 1 (by omega)
  have e0 : 0 ≤ endV c 1600 := by
    have := start_next c 1600 (ask_2 hok (by omega) (by omega))
    have h3 := start_b c (1600 + 1)
    by_cases h : 0 ≤ endV c 1600
    · exact h
    · have hA2 : askE c 1600 1600 = 0 := ask_2 hok (by omega) (by omega)
      have ht := ask_there hA2 (by omega)
      have := fin_bd c (1600 + c.shift) hok ht (by obtain ⟨_, hs, _⟩ := ok_rule hok; omega)
      have : endV c 1600 = finV c (1600 + c.shift) := by simp [endV, hA2]
      omega
  have e2 : endV c 1601 ≤ endV c (y - 1) := end_le c hok (by omega) (by omega) (by omega)
  have e3 := start_next c (y - 1) (by rw [show y - 1 + 1 = y by omega]; exact hA)
  rw [show y - 1 + 1 = y by omega] at e3
  have e4 : endV c y + 358 ≤ endV c (y + 1) := by simpa using end_mono c y hok (by omega) 1 (by omega)
  have hA3 : askE c (y + 1) 1601 = 0 := ask_2 hok (by omega) (by omega)
  have e5 := end_b c _ hA3
  refine ⟨by omega, hA, by omega, by omega, by omega, by omega⟩
theorem start_mod {c : Cal} {y : Int} (hk6 : c.kind ≠ 6) (hA : askE c y 1601 = 0) : (startV c y + 5) % 7 + 1 = c.day % 7 + 1 := by
  obtain ⟨hok, _, _⟩ := ask_ok hA
  obtain ⟨_, _, _, hd⟩ := ok_rule hok
  have hf := fin_day c (y - 1 + c.shift) hok hk6
  have : startV c y = finV c (y - 1 + c.shift) + 1 := by simp [startV, hA]
  have := hd hk6
  omega
/-- CompRises, told plainly. -/
theorem rises {c : Cal} {d n k : Int} (hs : servE c d = 0) (hs2 : servE c (d + n) = 0) (hyy : servY c d = servY c (d + n)) (hk6 : c.kind ≠ 6) (hn : 1 ≤ n) :
    (cdE c d k = 11 ∧ cdE c (d + n) k = 11) ∨ cdE c d k = 12 ∨ cdE c (d + n) k = 12 ∨
    (cdE c d k = 0 ∧ cdE c (d + n) k = 0 ∧ cdV c d k < cdV c (d + n) k ∧ (cdV c (d + n) k - cdV c d k - n = 0 ∨ (c.policy = 3 ∧ (cdV c (d + n) k - cdV c d k - n = 7 ∨ cdV c (d + n) k - cdV c d k - n = -7)))) := by
  by_cases hx : c.first ≤ servY c d + k ∧ servY c d + k ≤ c.last
  · obtain ⟨hk, hd, hsy, o1, o2, x1, x2⟩ := sv_week hs hk6
    obtain ⟨_, _, _, p1, p2, z1, z2⟩ := sv_week hs2 hk6
    obtain ⟨hE, hV⟩ := cd_week hs hk6 hx
    obtain ⟨hE2, hV2⟩ := cd_week hs2 hk6 (by rw [← hyy]; exact hx)
    rw [← hyy] at p1 p2 z1 z2 hE2 hV2
    have hst : srv c (servY c d + k) := hx
    generalize servY c d = y at *
    generalize startV c y = s at *
    generalize startV c (y + k) = s2 at *
    generalize hx1 : (d - s) / 7 + 1 = X1 at *
    generalize hx2 : (d + n - s) / 7 + 1 = X2 at *
    have c1 := cw_shift hk hk6 hsy hst ⟨x1, x2⟩
    have c2 := cw_shift hk hk6 hsy hst ⟨z1, z2⟩
    rcases c1 with c1 | c1 | c1 | c1 | c1 | c1
    · right; left; rw [hE]; exact c1.1
    all_goals
      rcases c2 with c2 | c2 | c2 | c2 | c2 | c2
      · right; right; left; rw [hE2]; exact c2.1
      all_goals
        have e1 : cdE c d k = 0 := by rw [hE]; exact c1.1
        have e2 : cdE c (d + n) k = 0 := by rw [hE2]; exact c2.1
        have v1 := hV e1
        have v2 := hV2 e2
        right; right; right
        refine ⟨e1, e2, ?_, ?_⟩ <;> omega
  · left
    exact ⟨(cd_out hs hx).1, (cd_out hs2 (by rw [← hyy]; exact hx)).1⟩
/-- CompBack, told plainly. -/
theorem there_back {c : Cal} {d k : Int} (hs : servE c d = 0) (hk6 : c.kind ≠ 6) (hE0 : cdE c d k = 0) (hno : ¬ (wksV c (servY c d) ≠ wksV c (servY c d + k) ∧ c.policy ≠ 3 ∧ wksV c (servY c d + k) < wksV c (servY c d))) :
    cdE c (cdV c d k) (-k) = 0 ∧ cdV c (cdV c d k) (-k) = d := by
  have hx : c.first ≤ servY c d + k ∧ servY c d + k ≤ c.last := by
    by_cases h : c.first ≤ servY c d + k ∧ servY c d + k ≤ c.last
    · exact h
    · have := (cd_out hs h).1; omega
  obtain ⟨hk, hd, hsy, o1, o2, x1, x2⟩ := sv_week hs hk6
  obtain ⟨hE, hV⟩ := cd_week hs hk6 hx
  have hst : srv c (servY c d + k) := hx
  have v1 := hV hE0
  obtain ⟨ey, ay, wy1, wy2, _, _⟩ := yr_week hk hk6 hsy
  obtain ⟨et, at', wt1, wt2, _, _⟩ := yr_week hk hk6 hst
  have c1 := cw_shift hk hk6 hsy hst ⟨x1, x2⟩
  generalize hyy : servY c d = y at *
  generalize hD : cdV c d k = D at *
  -- the day lies in the other year
  have hin : startV c (y + k) ≤ D ∧ D ≤ endV c (y + k) := by
    generalize hX1 : (d - startV c y) / 7 + 1 = X1 at *
    rcases c1 with c1 | c1 | c1 | c1 | c1 | c1 <;> omega
  have hs2 := serv_yes (c := c) (day := D) (y := y + k) hk ⟨at', hin.1, hin.2⟩ hx.1 hx.2
  have hyk : y + k + -k = y := by omega
  obtain ⟨hE2, hV2⟩ := cd_week (k := -k) hs2.1 hk6 (by rw [hs2.2, hyk]; exact hsy)
  obtain ⟨_, _, _, p1, p2, z1, z2⟩ := sv_week hs2.1 hk6
  rw [hs2.2] at hE2 hV2 p1 p2 z1 z2
  rw [hyk] at hE2 hV2
  have c2 := cw_shift hk hk6 hst hsy ⟨z1, z2⟩
  generalize startV c y = s at *
  generalize startV c (y + k) = s2 at *
  generalize hX1 : (d - s) / 7 + 1 = X1 at *
  generalize hX2 : (D - s2) / 7 + 1 = X2 at *
  have hX : X2 = cwV c y (y + k) X1 := by omega
  have key : cwE c (y + k) y X2 = 0 ∧ cwV c (y + k) y X2 = X1 := by
    rcases c1 with c1 | c1 | c1 | c1 | c1 | c1
    · rw [hE] at hE0; omega
    all_goals
      rcases c2 with c2 | c2 | c2 | c2 | c2 | c2
      all_goals first
        | (exfalso; omega)
        | exact ⟨c2.1, by omega⟩
  have e2 : cdE c D (-k) = 0 := by rw [hE2]; exact key.1
  refine ⟨e2, ?_⟩
  rw [hV2 e2, key.2]
  omega
end Go.Proofs.YtjhhmeoibfdcmaaGreat
