/- A unit that lies in a block. -/
import Derived.Test.YtepmfpgljcbkmaaCalAt
import Derived.Test.YtepmfpgljcbkmaaEqU
namespace Go.Proofs.Ytepmfpgljcbkmaa
open Go.RowKit Qd
set_option linter.unusedSimpArgs false
set_option linter.unusedVariables false

abbrev UnAt (w : World) (B : Nat) (u : Un) : Prop :=
  w.cell? ⟨B, 0, none⟩ = some (.int .i64 u.lv) ∧ w.cell? ⟨B, 1, none⟩ = some (.int .i64 u.yr) ∧ w.cell? ⟨B, 2, none⟩ = some (.int .i64 u.ix)
abbrev unObj (u : Un) : Obj := .cells #[.int .i64 u.lv, .int .i64 u.yr, .int .i64 u.ix] 35
theorem unAt_new (w : World) (c : Cal) (u : Un) : UnAt ((w.alloc (calObj c)).alloc (unObj u)) (w.heap.size + 1) u := by
  refine ⟨?_, ?_, ?_⟩ <;> simp [World.cell?_alloc_at]
theorem unAt_fresh (w : World) (u : Un) : UnAt (w.alloc (unObj u)) w.heap.size u := by
  refine ⟨?_, ?_, ?_⟩ <;> simp [World.cell?_alloc_at]
theorem unAt_same {W W' : World} {B : Nat} {u : Un} (h : ∀ o, W'.cell? ⟨B, o, none⟩ = W.cell? ⟨B, o, none⟩) (Q : UnAt W B u) : UnAt W' B u := by
  obtain ⟨q0, q1, q2⟩ := Q
  exact ⟨(h 0).trans q0, (h 1).trans q1, (h 2).trans q2⟩
theorem unAt_below {W W' : World} {B K : Nat} {u : Un} (hb : Below K W W') (hB : B < K) (Q : UnAt W B u) : UnAt W' B u :=
  unAt_same (fun o => hb.cell (p := ⟨B, o, none⟩) hB) Q
theorem unAt_alloc {W : World} {B : Nat} {u : Un} (Q : UnAt W B u) (hB : B < W.heap.size) (o : Obj) : UnAt (W.alloc o) B u :=
  unAt_same (fun i => World.cell?_alloc_lt W o ⟨B, i, none⟩ hB) Q
abbrev SpAt (w : World) (B : Nat) (s : Sp) : Prop := w.cell? ⟨B, 0, none⟩ = some (.int .i64 s.a) ∧ w.cell? ⟨B, 1, none⟩ = some (.int .i64 s.b)
abbrev spObj (s : Sp) : Obj := .cells #[.int .i64 s.a, .int .i64 s.b] 31
theorem spAt_fresh (w : World) (s : Sp) : SpAt (w.alloc (spObj s)) w.heap.size s := by
  refine ⟨?_, ?_⟩ <;> simp [World.cell?_alloc_at]
theorem spAt_below {W W' : World} {B K : Nat} {s : Sp} (hb : Below K W W') (hB : B < K) (Q : SpAt W B s) : SpAt W' B s :=
  ⟨(hb.cell (p := ⟨B, 0, none⟩) hB).trans Q.1, (hb.cell (p := ⟨B, 1, none⟩) hB).trans Q.2⟩
theorem spAt_alloc {W : World} {B : Nat} {s : Sp} (Q : SpAt W B s) (hB : B < W.heap.size) (o : Obj) : SpAt (W.alloc o) B s :=
  ⟨(World.cell?_alloc_lt W o ⟨B, 0, none⟩ hB).trans Q.1, (World.cell?_alloc_lt W o ⟨B, 1, none⟩ hB).trans Q.2⟩
end Go.Proofs.Ytepmfpgljcbkmaa
