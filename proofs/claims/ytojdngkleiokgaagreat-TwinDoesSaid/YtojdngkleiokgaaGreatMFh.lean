/- Plain facts of the units that meet a span. Contracts of find.All and find.Meets on what they refuse. The contract of find.Meets. Contracts of find.All on what it refuses. -/
import Derived.Test.YtojdngkleiokgaaGreatMFe
namespace Go.Proofs.YtojdngkleiokgaaGreat
open Go.RowKit Qd
set_option linter.unusedSimpArgs false
set_option linter.unusedVariables false

end Go.Proofs.YtojdngkleiokgaaGreat

namespace Go.Proofs.YtojdngkleiokgaaGreat
open Go.RowKit Go.Shelf Qd
set_option linter.unusedSimpArgs false
set_option linter.unusedVariables false

theorem BlkIs.fz {w : World} {B : Nat} {cs : Array Value} {t : TypeId} (h : BlkIs w B cs t) (i : Nat) : w.frozen? ⟨B, i, none⟩ = false := by simp [World.frozen?, show w.heap[B]? = _ from h]

/-- What lies in the frame of find.Meets: the calendar, the span, both results. -/
def MtSt (c : Cal) (s : Sp) (B : Nat) (w : World) : Prop := BlkIs w B (calCs c) 24 ∧ BlkIs w (B + 1) #[.int .i64 s.a, .int .i64 s.b] 26 ∧ BlkIs w (B + 2) #[.slice none 0 0] 30 ∧ BlkIs w (B + 3) #[.int .i64 0] 31
theorem MtSt.call {c : Cal} {s : Sp} {B : Nat} {w w' : World} (h : MtSt c s B w) (hb : Below w.heap.size w w') : MtSt c s B w' := ⟨h.1.call hb, h.2.1.call hb, h.2.2.1.call hb, h.2.2.2.call hb⟩
theorem MtSt.alloc {c : Cal} {s : Sp} {B : Nat} {w : World} (h : MtSt c s B w) (o : Obj) : MtSt c s B (w.alloc o) := ⟨h.1.alloc o, h.2.1.alloc o, h.2.2.1.alloc o, h.2.2.2.alloc o⟩
theorem MtSt.lt {c : Cal} {s : Sp} {B : Nat} {w : World} (h : MtSt c s B w) : B + 3 < w.heap.size := h.2.2.2.lt
theorem MtSt.sp {c : Cal} {s : Sp} {B : Nat} {w : World} (h : MtSt c s B w) : w.cell? ⟨B + 1, 0, none⟩ = some (.int .i64 s.a) ∧ w.cell? ⟨B + 1, 1, none⟩ = some (.int .i64 s.b) := ⟨h.2.1.cell 0, h.2.1.cell 1⟩
theorem MtSt.res {c : Cal} {s : Sp} {B : Nat} {w : World} (h : MtSt c s B w) : (w.cell? ⟨B + 2, 0, none⟩ = some (.slice none 0 0) ∧ w.cell? ⟨B + 3, 0, none⟩ = some (.int .i64 0)) ∧ w.frozen? ⟨B + 2, 0, none⟩ = false ∧ w.frozen? ⟨B + 3, 0, none⟩ = false := ⟨⟨h.2.2.1.cell 0, h.2.2.2.cell 0⟩, h.2.2.1.fz 0, h.2.2.2.fz 0⟩
attribute [local go_sem] Oper.semAt_some

end Go.Proofs.YtojdngkleiokgaaGreat
