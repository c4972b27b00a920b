/- What '==' says of units and spans. A unit that lies in a block. -/
import Derived.Test.YtpngdeegdkifnaaUnitV
import Derived.Test.YtpngdeegdkifnaaCalAt
namespace Go.Proofs.Ytpngdeegdkifnaa
open Go.RowKit Qd
set_option linter.unusedSimpArgs false
set_option linter.unusedVariables false

def unB (a b c x y z : Int) : Bool := a == x && (b == y && c == z)
theorem unB_same (a b c : Int) : unB a b c a b c = true := by simp [unB]
theorem unB_eq {a b c x y z : Int} (h1 : a = x) (h2 : b = y) (h3 : c = z) : unB a b c x y z = true := by simp [unB, h1, h2, h3]
theorem unB_ne {a b c x y z : Int} (h : a ≠ x ∨ b ≠ y ∨ c ≠ z) : unB a b c x y z = false := by
  simp [unB]; omega
/-- What '==' says of two units. -/
theorem eqUnit (d : Nat) (a b c x y z : Int) (w : World) : (Op.equalIn (d + 2) 31 (.agg #[.int .i64 a, .int .i64 b, .int .i64 c]) (.agg #[.int .i64 x, .int .i64 y, .int .i64 z])).run Try.prog w = .ok (unB a b c x y z) w := by
  have u3 := Try.underlying3
  have a3 := Try.isAgg3
  have z3 := Try.sizeOf3
  rw [run_equalIn_struct w _ _ _ _ (by simp [Program.fieldsOf, Try.underlying31]) (by kernel_rfl)]
  simp only [Program.fieldsOf, Try.underlying31]
  go_simp
  by_cases h1 : a = x <;> by_cases h2 : b = y <;> by_cases h3 : c = z <;> simp [unB, h1, h2, h3]
@[go_sem high] theorem eql_unit (a b c x y z : Int) (w : World) : (binOp .eql 31 (.agg #[.int .i64 a, .int .i64 b, .int .i64 c]) (.agg #[.int .i64 x, .int .i64 y, .int .i64 z])).run Try.prog w = .ok (.bool (unB a b c x y z)) w := by
  rw [run_eql_struct, eqUnit 9998]; rfl
@[go_sem high] theorem neq_unit (a b c x y z : Int) (w : World) : (binOp .neq 31 (.agg #[.int .i64 a, .int .i64 b, .int .i64 c]) (.agg #[.int .i64 x, .int .i64 y, .int .i64 z])).run Try.prog w = .ok (.bool (!unB a b c x y z)) w := by
  rw [run_neq_struct, eqUnit 9998]; rfl
def spB (a b x y : Int) : Bool := a == x && b == y
theorem spB_same (a b : Int) : spB a b a b = true := by simp [spB]
theorem spB_ne {a b x y : Int} (h : a ≠ x ∨ b ≠ y) : spB a b x y = false := by
  simp [spB]; omega
theorem eqSpan (d : Nat) (a b x y : Int) (w : World) : (Op.equalIn (d + 2) 35 (.agg #[.int .i64 a, .int .i64 b]) (.agg #[.int .i64 x, .int .i64 y])).run Try.prog w = .ok (spB a b x y) w := by
  have u3 := Try.underlying3
  have a3 := Try.isAgg3
  have z3 := Try.sizeOf3
  rw [run_equalIn_struct w _ _ _ _ (by simp [Program.fieldsOf, Try.underlying35]) (by kernel_rfl)]
  simp only [Program.fieldsOf, Try.underlying35]
  go_simp
  by_cases h1 : a = x <;> by_cases h2 : b = y <;> simp [spB, h1, h2]
@[go_sem high] theorem eql_span (a b x y : Int) (w : World) : (binOp .eql 35 (.agg #[.int .i64 a, .int .i64 b]) (.agg #[.int .i64 x, .int .i64 y])).run Try.prog w = .ok (.bool (spB a b x y)) w := by
  rw [run_eql_struct, eqSpan 9998]; rfl
@[go_sem high] theorem neq_span (a b x y : Int) (w : World) : (binOp .neq 35 (.agg #[.int .i64 a, .int .i64 b]) (.agg #[.int .i64 x, .int .i64 y])).run Try.prog w = .ok (.bool (!spB a b x y)) w := by
  rw [run_neq_struct, eqSpan 9998]; rfl
end Go.Proofs.Ytpngdeegdkifnaa

namespace Go.Proofs.Ytpngdeegdkifnaa
open Go.RowKit Qd
set_option linter.unusedSimpArgs false
set_option linter.unusedVariables false

abbrev UnAt (w : World) (B : Nat) (u : Un) : Prop :=
  w.cell? ⟨B, 0, none⟩ = some (.int .i64 u.lv) ∧ w.cell? ⟨B, 1, none⟩ = some (.int .i64 u.yr) ∧ w.cell? ⟨B, 2, none⟩ = some (.int .i64 u.ix)
abbrev unObj (u : Un) : Obj := .cells #[.int .i64 u.lv, .int .i64 u.yr, .int .i64 u.ix] 31
theorem unAt_new (w : World) (c : Cal) (u : Un) : UnAt ((w.alloc (calObj c)).alloc (unObj u)) (w.heap.size + 1) u := by
  refine ⟨?_, ?_, ?_⟩ <;> simp [World.cell?_alloc_at]
theorem unAt_fresh (w : World) (u : Un) : UnAt (w.alloc (unObj u)) w.heap.size u := by
  refine ⟨?_, ?_, ?_⟩ <;> simp [World.cell?_alloc_at]
theorem unAt_same {W W' : World} {B : Nat} {u : Un} (h : ∀ o, W'.cell? ⟨B, o, none⟩ = W.cell? ⟨B, o, none⟩) (Q : UnAt W B u) : UnAt W' B u := by
  obtain ⟨q0, q1, q2⟩ := Q
  exact ⟨(h 0).trans q0, (h 1).trans q1, (h 2).trans q2⟩
theorem unAt_below {W W' : World} {B K : Nat} {u : Un} (hb : Below K W W') (hB : B < K) (Q : UnAt W B u) : UnAt W' B u :=
  unAt_same (fun o => hb.cell (p := ⟨B, o, none⟩) hB) Q
theorem unAt_alloc {W : World} {B : Nat} {u : Un} (Q : UnAt W B u) (hB : B < W.heap.size) (o : Obj) : UnAt (W.alloc o) B u :=
  unAt_same (fun i => World.cell?_alloc_lt W o ⟨B, i, none⟩ hB) Q
abbrev SpAt (w : World) (B : Nat) (s : Sp) : Prop := w.cell? ⟨B, 0, none⟩ = some (.int .i64 s.a) ∧ w.cell? ⟨B, 1, none⟩ = some (.int .i64 s.b)
abbrev spObj (s : Sp) : Obj := .cells #[.int .i64 s.a, .int .i64 s.b] 35
theorem spAt_fresh (w : World) (s : Sp) : SpAt (w.alloc (spObj s)) w.heap.size s := by
  refine ⟨?_, ?_⟩ <;> simp [World.cell?_alloc_at]
theorem spAt_below {W W' : World} {B K : Nat} {s : Sp} (hb : Below K W W') (hB : B < K) (Q : SpAt W B s) : SpAt W' B s :=
  ⟨(hb.cell (p := ⟨B, 0, none⟩) hB).trans Q.1, (hb.cell (p := ⟨B, 1, none⟩) hB).trans Q.2⟩
theorem spAt_alloc {W : World} {B : Nat} {s : Sp} (Q : SpAt W B s) (hB : B < W.heap.size) (o : Obj) : SpAt (W.alloc o) B s :=
  ⟨(World.cell?_alloc_lt W o ⟨B, 0, none⟩ hB).trans Q.1, (World.cell?_alloc_lt W o ⟨B, 1, none⟩ hB).trans Q.2⟩
end Go.Proofs.Ytpngdeegdkifnaa
