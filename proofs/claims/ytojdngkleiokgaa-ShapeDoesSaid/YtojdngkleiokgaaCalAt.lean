/- A calendar that lies in a block. -/
import Derived.Test.YtojdngkleiokgaaFieldC
namespace Go.Proofs.Ytojdngkleiokgaa
open Go.RowKit Qd
set_option linter.unusedSimpArgs false
set_option linter.unusedVariables false

abbrev CalAt (w : World) (B : Nat) (c : Cal) : Prop :=
  w.cell? ⟨B, 0, none⟩ = some (.string c.name) ∧ w.cell? ⟨B, 1, none⟩ = some (.int .i64 c.kind) ∧ w.cell? ⟨B, 2, none⟩ = some (.int .i64 c.day) ∧ w.cell? ⟨B, 3, none⟩ = some (.int .i64 c.month) ∧
  w.cell? ⟨B, 4, none⟩ = some (.int .i64 c.shift) ∧ w.cell? ⟨B, 5, none⟩ = some (.int .i64 c.shape) ∧ w.cell? ⟨B, 6, none⟩ = some (.int .i64 c.p0) ∧ w.cell? ⟨B, 7, none⟩ = some (.int .i64 c.p1) ∧
  w.cell? ⟨B, 8, none⟩ = some (.int .i64 c.p2) ∧ w.cell? ⟨B, 9, none⟩ = some (.int .i64 c.cycle) ∧ w.cell? ⟨B, 10, none⟩ = some (.int .i64 c.extra) ∧ w.cell? ⟨B, 11, none⟩ = some (.int .i64 c.first) ∧
  w.cell? ⟨B, 12, none⟩ = some (.int .i64 c.last) ∧ w.cell? ⟨B, 13, none⟩ = some (.int .i64 c.policy)

abbrev calObj (c : Cal) : Obj := .cells #[.string c.name, .int .i64 c.kind, .int .i64 c.day, .int .i64 c.month, .int .i64 c.shift, .int .i64 c.shape, .int .i64 c.p0, .int .i64 c.p1, .int .i64 c.p2, .int .i64 c.cycle, .int .i64 c.extra, .int .i64 c.first, .int .i64 c.last, .int .i64 c.policy] 24
theorem calAt_new (w : World) (c : Cal) : CalAt (w.alloc (calObj c)) w.heap.size c := by
  refine ⟨?_, ?_, ?_, ?_, ?_, ?_, ?_, ?_, ?_, ?_, ?_, ?_, ?_, ?_⟩ <;> simp
theorem calAt_same {W W' : World} {B : Nat} {c : Cal} (h : ∀ o, W'.cell? ⟨B, o, none⟩ = W.cell? ⟨B, o, none⟩) (Q : CalAt W B c) : CalAt W' B c := by
  obtain ⟨q0, q1, q2, q3, q4, q5, q6, q7, q8, q9, q10, q11, q12, q13⟩ := Q
  exact ⟨(h 0).trans q0, (h 1).trans q1, (h 2).trans q2, (h 3).trans q3, (h 4).trans q4, (h 5).trans q5, (h 6).trans q6, (h 7).trans q7, (h 8).trans q8, (h 9).trans q9, (h 10).trans q10, (h 11).trans q11, (h 12).trans q12, (h 13).trans q13⟩
theorem calAt_below {W W' : World} {B K : Nat} {c : Cal} (hb : Below K W W') (hB : B < K) (Q : CalAt W B c) : CalAt W' B c :=
  calAt_same (fun o => hb.cell (p := ⟨B, o, none⟩) hB) Q
theorem calAt_alloc {W : World} {B : Nat} {c : Cal} (Q : CalAt W B c) (hB : B < W.heap.size) (o : Obj) : CalAt (W.alloc o) B c :=
  calAt_same (fun i => World.cell?_alloc_lt W o ⟨B, i, none⟩ hB) Q
end Go.Proofs.Ytojdngkleiokgaa
