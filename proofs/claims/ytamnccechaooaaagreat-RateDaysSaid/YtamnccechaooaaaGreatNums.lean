/- Rows of numbers that are appended to. -/
import Derived.Test.YtamnccechaooaaaGreatWideB
import Derived.Laws.OwnMore
namespace Go.Proofs.YtamnccechaooaaaGreat
open Go.RowKit
set_option linter.unusedSimpArgs false
set_option linter.unusedVariables false

def intsC (l : List Int) : List Value := l.map (Value.int .i64)
theorem intsC_len (l : List Int) : (intsC l).length = l.length := by simp [intsC]
theorem intsC_app (l m : List Int) : intsC (l ++ m) = intsC l ++ intsC m := by simp [intsC]
theorem i64_info : (Tryz.prog.info? 2).map (fun i => (i.zero, i.size, i.bytes)) = some (some (.int .i64 0), 1, 8) := by kernel_rfl
/-- Numbers that lie in a block, or none. -/
def NumsN (w : World) (v : Value) (l : List Int) : Prop := (l = [] ∧ v = .slice none 0 0) ∨ ∃ g cap, l ≠ [] ∧ v = .slice (some ⟨g, 0, none⟩) l.length cap ∧ g < w.heap.size ∧ ∀ (i : Nat) (x : Int), l[i]? = some x → w.cell? ⟨g, i, none⟩ = some (.int .i64 x)
theorem NumsN.call {w w' : World} {v : Value} {l : List Int} (h : NumsN w v l) (hb : Below w.heap.size w w') : NumsN w' v l := by
  rcases h with h | ⟨g, cap, h1, h2, h3, h4⟩
  · exact .inl h
  · exact .inr ⟨g, cap, h1, h2, Nat.lt_of_lt_of_le h3 hb.size, fun i x hx => (hb.cell (p := ⟨g, i, none⟩) h3).trans (h4 i x hx)⟩
theorem NumsN.nums {w : World} {v : Value} {l : List Int} (h : NumsN w v l) : Nums w v l := by
  rcases h with ⟨rfl, rfl⟩ | ⟨g, cap, h1, h2, h3, h4⟩
  · exact ⟨none, 0, rfl, fun i x hx => by simp at hx⟩
  · exact ⟨_, _, h2, fun i x hx => ⟨g, 0, rfl, h3, by simpa using h4 i x hx⟩⟩
theorem owns_nums {w : World} {base : Nat} {v : Value} {l : List Int} (h : w.ownsRow base 2 1 v l.length (intsC l)) : Nums w v l := by
  rcases h.2 with ⟨h1, h2⟩ | ⟨g, cap, cur, h1, h2, h3, h4, h5, h6, h7⟩
  · have hn : l.length = 0 := h2
    have hl : l = [] := List.length_eq_zero_iff.1 hn
    subst hl
    exact ⟨none, 0, h1, fun i x hx => by simp at hx⟩
  · refine ⟨_, _, h1, fun i x hx => ⟨g, 0, rfl, (Array.getElem?_eq_some_iff.1 h3).1, ?_⟩⟩
    subst h1
    have := h.cellAt i (by have := (List.getElem?_eq_some_iff.1 hx).1; omega)
    rw [Nat.zero_add, this]
    simp [intsC, hx]
/-- Blocks of another type stay. -/
def KeepI (w w' : World) : Prop := w.heap.size ≤ w'.heap.size ∧ ∀ (B : Nat) (cs : Array Value) (t : TypeId), t ≠ 2 → w.heap[B]? = some (.cells cs t (0, 0)) → w'.heap[B]? = some (.cells cs t (0, 0))
theorem KeepI.refl (w : World) : KeepI w w := ⟨Nat.le_refl _, fun _ _ _ _ h => h⟩
/-- More numbers appended to a row of one's own. -/
theorem app_nums {ops : Array Oper} {rest : List Oper} {o : Oper} {a : Act} {Q : Exit → Act → World → Prop} {w : World} (hgd : o.guard = none) (s x : Operand)
    (ho : o.op = .call { callee := .builtin .append, args := #[s, x], argTypes := #[45, 45] }) (base : Nat) (v u : Value) (m l : List Int)
    (hs : a.eval s = v) (hown : w.ownsRow base 2 1 v m.length (intsC m)) (hx : a.eval x = u) (hu : NumsN w u l) (hml : m.length + l.length ≤ 1000000) (hbase : base ≤ w.heap.size)
    (h : ∀ v' w', w'.ownsRow base 2 1 v' (m ++ l).length (intsC (m ++ l)) → Below base w w' → KeepI w w' → wpList Tryz.prog ops Q rest (a.put o.dst v') w') : wpList Tryz.prog ops Q (o :: rest) a w := by
  obtain ⟨i, hi, hi0, hi1, hi2⟩ := info_parts i64_info
  rcases hu with ⟨rfl, rfl⟩ | ⟨g, cap, h1, rfl, h3, h4⟩
  · refine wpList_plain hgd fun K hK => ?_
    have hr := run_append_owned_none (P := Tryz.prog) w base 45 o.type 2 i 1 Tryz.underlying45 hi v m.length (intsC m) hown
    unfold Oper.wp execOp
    simp only [ho, resolve, invoke, builtin, Sem.run_bind, Sem.run_pure, Result.andThen_ok, List.map_toArray, List.map_cons, List.map_nil, hs, hx, hr]
    exact hK _ _ (h v w (by simpa using hown) (Below.refl _ _) (KeepI.refl _))
  · refine wpList_append_own w hgd s x 45 ho base 2 i (.int .i64 0) 1 8 Tryz.underlying45 hi hi0 hi1 hi2 rfl (by decide) v m.length (intsC m) hs hown ⟨g, 0, none⟩ l.length cap (intsC l) hx (by simp [intsC]) ?_ ?_ ?_ ?_ hbase ?_
    · intro j u hj
      simp only [intsC, List.getElem?_map, Option.map_eq_some_iff] at hj
      obtain ⟨y, hy, rfl⟩ := hj
      have h5 := h4 j y hy
      by_cases hj0 : j = 0
      · subst hj0; simpa [Addr.add] using h5
      · simpa [Addr.add, hj0] using h5
    · intro u hu
      simp only [intsC, List.mem_map] at hu
      obtain ⟨y, _, rfl⟩ := hu
      rfl
    · unfold maxLen; omega
    · omega
    · intro v' w' ho' hg _
      refine h v' w' (by rw [List.length_append, intsC_app]; exact ho') ((Below.refl base w).grown hg hbase fun k hk => (hown.lt k hk).1) ⟨hg.size, fun B cs t ht hB => (hg.block B (Array.getElem?_eq_some_iff.1 hB).1 (fun e => ?_)).trans hB⟩
      rcases hown.2 with ⟨h1, _⟩ | ⟨g', cap', cur, h1, _, h3', _⟩
      · rw [h1] at e; simp [Value.ownBlock] at e
      · rw [h1] at e
        obtain rfl : B = g' := by simpa [Value.ownBlock] using e
        rw [h3'] at hB
        cases hB
        exact ht rfl
end Go.Proofs.YtamnccechaooaaaGreat
