/- What '==' says of units and spans. -/
import Derived.Test.YtepmfpgljcbkmaaUnitV
namespace Go.Proofs.Ytepmfpgljcbkmaa
open Go.RowKit Qd
set_option linter.unusedSimpArgs false
set_option linter.unusedVariables false

def unB (a b c x y z : Int) : Bool := a == x && (b == y && c == z)
theorem unB_same (a b c : Int) : unB a b c a b c = true := by simp [unB]
theorem unB_eq {a b c x y z : Int} (h1 : a = x) (h2 : b = y) (h3 : c = z) : unB a b c x y z = true := by simp [unB, h1, h2, h3]
theorem unB_ne {a b c x y z : Int} (h : a ≠ x ∨ b ≠ y ∨ c ≠ z) : unB a b c x y z = false := by
  simp [unB]; omega
/-- What '==' says of two units. -/
theorem eqUnit (d : Nat) (a b c x y z : Int) (w : World) : (Op.equalIn (d + 2) 35 (.agg #[.int .i64 a, .int .i64 b, .int .i64 c]) (.agg #[.int .i64 x, .int .i64 y, .int .i64 z])).run Try.prog w = .ok (unB a b c x y z) w := by
  have u3 := Try.underlying3
  have a3 := Try.isAgg3
  have z3 := Try.sizeOf3
  rw [run_equalIn_struct w _ _ _ _ (by simp [Program.fieldsOf, Try.underlying35]) (by kernel_rfl)]
  simp only [Program.fieldsOf, Try.underlying35]
  go_simp
  by_cases h1 : a = x <;> by_cases h2 : b = y <;> by_cases h3 : c = z <;> simp [unB, h1, h2, h3]
@[go_sem high] theorem eql_unit (a b c x y z : Int) (w : World) : (binOp .eql 35 (.agg #[.int .i64 a, .int .i64 b, .int .i64 c]) (.agg #[.int .i64 x, .int .i64 y, .int .i64 z])).run Try.prog w = .ok (.bool (unB a b c x y z)) w := by
  rw [run_eql_struct, eqUnit 9998]; rfl
@[go_sem high] theorem neq_unit (a b c x y z : Int) (w : World) : (binOp .neq 35 (.agg #[.int .i64 a, .int .i64 b, .int .i64 c]) (.agg #[.int .i64 x, .int .i64 y, .int .i64 z])).run Try.prog w = .ok (.bool (!unB a b c x y z)) w := by
  rw [run_neq_struct, eqUnit 9998]; rfl
def spB (a b x y : Int) : Bool := a == x && b == y
theorem spB_same (a b : Int) : spB a b a b = true := by simp [spB]
theorem spB_ne {a b x y : Int} (h : a ≠ x ∨ b ≠ y) : spB a b x y = false := by
  simp [spB]; omega
theorem eqSpan (d : Nat) (a b x y : Int) (w : World) : (Op.equalIn (d + 2) 31 (.agg #[.int .i64 a, .int .i64 b]) (.agg #[.int .i64 x, .int .i64 y])).run Try.prog w = .ok (spB a b x y) w := by
  have u3 := Try.underlying3
  have a3 := Try.isAgg3
  have z3 := Try.sizeOf3
  rw [run_equalIn_struct w _ _ _ _ (by simp [Program.fieldsOf, Try.underlying31]) (by kernel_rfl)]
  simp only [Program.fieldsOf, Try.underlying31]
  go_simp
  by_cases h1 : a = x <;> by_cases h2 : b = y <;> simp [spB, h1, h2]
@[go_sem high] theorem eql_span (a b x y : Int) (w : World) : (binOp .eql 31 (.agg #[.int .i64 a, .int .i64 b]) (.agg #[.int .i64 x, .int .i64 y])).run Try.prog w = .ok (.bool (spB a b x y)) w := by
  rw [run_eql_struct, eqSpan 9998]; rfl
@[go_sem high] theorem neq_span (a b x y : Int) (w : World) : (binOp .neq 31 (.agg #[.int .i64 a, .int .i64 b]) (.agg #[.int .i64 x, .int .i64 y])).run Try.prog w = .ok (.bool (!spB a b x y)) w := by
  rw [run_neq_struct, eqSpan 9998]; rfl
end Go.Proofs.Ytepmfpgljcbkmaa
