/- The iterator of find.each. Contracts of find.each and find.All. Plain facts of the units of some years; units that lie in a row. -/
import Derived.Test.YtojdngkleiokgaaGreatMFi
import Derived.Test.YtojdngkleiokgaaGreatMSa
import Derived.RangeFuncNested
namespace Go.Proofs.YtojdngkleiokgaaGreat
open Go.RowKit Go.Shelf Qd
set_option linter.unusedSimpArgs false
set_option linter.unusedVariables false
attribute [local go_sem] Oper.semAt_some

/-- Whatever cells are of neither type lie as they lay. -/
def KeepTy (t1 t2 : TypeId) (W W' : World) : Prop := W.heap.size ≤ W'.heap.size ∧ ∀ (B : Nat) (cs : Array Value) (t : TypeId) (z : Nat × Nat), t ≠ t1 → t ≠ t2 → W.heap[B]? = some (.cells cs t z) → W'.heap[B]? = some (.cells cs t z)
theorem KeepTy.refl (t1 t2 : TypeId) (W : World) : KeepTy t1 t2 W W := ⟨Nat.le_refl _, fun _ _ _ _ _ _ h => h⟩
theorem KeepTy.trans {t1 t2 : TypeId} {A B C : World} (h : KeepTy t1 t2 A B) (k : KeepTy t1 t2 B C) : KeepTy t1 t2 A C := ⟨Nat.le_trans h.1 k.1, fun i cs t z h1 h2 hi => k.2 i cs t z h1 h2 (h.2 i cs t z h1 h2 hi)⟩
theorem KeepTy.alloc {t1 t2 : TypeId} (W : World) (o : Obj) : KeepTy t1 t2 W (W.alloc o) := ⟨by simp, fun i cs t z _ _ hi => (Below.heap_alloc W o i (Array.getElem?_eq_some_iff.1 hi).1).trans hi⟩
theorem KeepTy.turn {t1 t2 : TypeId} {W W' : World} {row : Option Nat} (hg : W.grownBy W' row) (hr : ∀ r, row = some r → ∀ cs t z, W.heap[r]? = some (.cells cs t z) → t = t1 ∨ t = t2) : KeepTy t1 t2 W W' :=
  ⟨hg.size, fun i cs t z h1 h2 hi => (hg.block i (Array.getElem?_eq_some_iff.1 hi).1 (fun e => by rcases hr i e.symm cs t z hi with h | h <;> contradiction)).trans hi⟩
theorem BlkIs.ty {w w' : World} {t1 t2 : TypeId} {B : Nat} {cs : Array Value} {t : TypeId} (h : BlkIs w B cs t) (hk : KeepTy t1 t2 w w') (h1 : t ≠ t1) (h2 : t ≠ t2) : BlkIs w' B cs t := hk.2 B cs t (0, 0) h1 h2 h

attribute [local go_sem] Oper.semAt_some

/-- Units as cells, and a slice of them. -/
def flatU (l : List Un) : List Value := l.flatMap fun u => [.int .i64 u.lv, .int .i64 u.yr, .int .i64 u.ix]
theorem flatU_snoc (l : List Un) (u : Un) : flatU (l ++ [u]) = flatU l ++ [.int .i64 u.lv, .int .i64 u.yr, .int .i64 u.ix] := by simp [flatU]
def UnsAt (w : World) (g cap : Nat) (l : List Un) : Prop := w.ownsRow 0 38 3 (.slice (some ⟨g, 0, none⟩) l.length cap) l.length (flatU l)

theorem cells_new3 (W : World) (a b d : Value) (t : TypeId) : ∀ (j : Nat) (u : Value), [a, b, d][j]? = some u → (W.alloc (.cells #[a, b, d] t)).cell? ((⟨W.heap.size, 0, none⟩ : Addr).add j) = some u := by
  intro j u h
  match j, h with
  | 0, h => simpa [World.cell?_alloc_at, Addr.add] using h
  | 1, h => simpa [World.cell?_alloc_at, Addr.add] using h
  | 2, h => simpa [World.cell?_alloc_at, Addr.add] using h
theorem hv1row {W : World} {X n₀ size k : Nat} {cs : Array Value} {t : TypeId} {v : Value} {xs : List Value} (hrow : W.ownsRow n₀ 38 size v k xs) (hb : BlkIs W X cs t) (ht : t ≠ 38 := by decide) : v.ownBlock ≠ some X := by
  rcases hrow.2 with ⟨rfl, _⟩ | ⟨g, cap, cur, rfl, _, hgb, _⟩
  · simp [Value.ownBlock]
  · intro e
    obtain rfl : g = X := by simpa [Value.ownBlock] using e
    unfold BlkIs at hb
    rw [hgb] at hb
    cases hb
    exact ht rfl
theorem _root_.Go.World.ownsRow.base {w : World} {b b' size n : Nat} {e : TypeId} {v : Value} {xs : List Value} (h : w.ownsRow b e size v n xs) (hb : b' ≤ b) : w.ownsRow b' e size v n xs := by
  refine ⟨h.1, ?_⟩
  rcases h.2 with h2 | ⟨g, cap, cur, h1, h2, h3⟩
  · exact .inl h2
  · exact .inr ⟨g, cap, cur, h1, by omega, h3⟩
theorem unit_info : (Tryz.prog.info? 38).map (fun i => (i.zero, i.size, i.bytes)) = some (some (.agg #[.int .i64 0, .int .i64 0, .int .i64 0]), 3, 24) := by kernel_rfl

end Go.Proofs.YtojdngkleiokgaaGreat

namespace Go.Proofs.YtojdngkleiokgaaGreat
open Go.RowKit Qd
set_option linter.unusedSimpArgs false
set_option linter.unusedVariables false

theorem flatU_get (l : List Un) (i : Nat) (u : Un) (h : l[i]? = some u) : (flatU l)[i * 3]? = some (.int .i64 u.lv) ∧ (flatU l)[i * 3 + 1]? = some (.int .i64 u.yr) ∧ (flatU l)[i * 3 + 2]? = some (.int .i64 u.ix) := by
  induction l generalizing i with
  | nil => simp at h
  | cons a l ih =>
    cases i with
    | zero => simp at h; subst h; simp [flatU]
    | succ i =>
      have h2 := ih i (by simpa using h)
      have e : flatU (a :: l) = .int .i64 a.lv :: .int .i64 a.yr :: .int .i64 a.ix :: flatU l := rfl
      rw [e, show (i + 1) * 3 = i * 3 + 1 + 1 + 1 by omega]
      simp only [List.getElem?_cons_succ, show i * 3 + 1 + 1 + 1 + 1 = (i * 3 + 1) + 1 + 1 + 1 by omega, show i * 3 + 1 + 1 + 1 + 2 = (i * 3 + 2) + 1 + 1 + 1 by omega]
      exact h2
theorem UnsAt.cell {w : World} {g cap : Nat} {l : List Un} (h : UnsAt w g cap l) {i : Nat} {u : Un} (hi : l[i]? = some u) :
    w.cell? ⟨g, i * 3, none⟩ = some (.int .i64 u.lv) ∧ w.cell? ⟨g, i * 3 + 1, none⟩ = some (.int .i64 u.yr) ∧ w.cell? ⟨g, i * 3 + 2, none⟩ = some (.int .i64 u.ix) := by
  have hil := (List.getElem?_eq_some_iff.1 hi).1
  rcases h.2 with ⟨h1, _⟩ | ⟨g', cap', cur, he, _, hg, hn, _, hs, ht⟩
  · cases h1
  · cases he
    obtain ⟨f0, f1, f2⟩ := flatU_get l i u hi
    have hc : ∀ k, k < l.length * 3 → w.cell? ⟨g, k, none⟩ = (flatU l)[k]? := by
      intro k hk
      rw [cell_of_row w g k cur _ (0, 0) hg, ← ht, List.getElem?_take, if_pos hk]
      simp
    exact ⟨(hc _ (by omega)).trans f0, (hc _ (by omega)).trans f1, (hc _ (by omega)).trans f2⟩
theorem UnsAt.call {w w' : World} {g cap : Nat} {l : List Un} (h : UnsAt w g cap l) (hb : Below w.heap.size w w') : UnsAt w' g cap l := by
  refine ⟨h.1, ?_⟩
  rcases h.2 with h1 | ⟨g', cap', cur, he, h2, hg, h3⟩
  · exact .inl h1
  · exact .inr ⟨g', cap', cur, he, h2, (hb.block g' (Array.getElem?_eq_some_iff.1 hg).1).trans hg, h3⟩
theorem UnsAt.alloc {w : World} {g cap : Nat} {l : List Un} (h : UnsAt w g cap l) (o : Obj) : UnsAt (w.alloc o) g cap l := h.call (((Below.refl _ w).alloc (Nat.le_refl _) o))
theorem UnsAt.lt {w : World} {g cap : Nat} {l : List Un} (h : UnsAt w g cap l) (h0 : 0 < l.length) : g < w.heap.size ∧ l.length ≤ cap := by
  rcases h.2 with ⟨h1, _⟩ | ⟨g', cap', cur, he, h2, hg, h3, _⟩
  · cases h1
  · cases he
    exact ⟨(Array.getElem?_eq_some_iff.1 hg).1, h3⟩
end Go.Proofs.YtojdngkleiokgaaGreat
