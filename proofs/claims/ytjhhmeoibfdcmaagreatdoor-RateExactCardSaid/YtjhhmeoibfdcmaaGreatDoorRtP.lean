/- The plain law of exact shares: a whole number times a ratio in lowest terms. -/
import Derived.Test.YtjhhmeoibfdcmaaGreatDoorRtA
namespace Go.Proofs.YtjhhmeoibfdcmaaGreatDoor
open Go.RowKit Qd
set_option linter.unusedSimpArgs false
set_option linter.unusedVariables false

def exP (a : Int) (X D : Nat) : Nat := a.natAbs / Nat.gcd a.natAbs D * X
def exN (a : Int) (X D : Nat) : Int := if a < 0 then -(exP a X D : Int) else (exP a X D : Int)
def exM (a : Int) (D : Nat) : Nat := D / Nat.gcd a.natAbs D
def exV (a : Int) (X D : Nat) : Value := if fitE (exN a X D) = 0 then ratV (exN a X D) (exM a D) else ratV 0 0
theorem ex_form (a : Int) (X D : Nat) : ∃ x y : Int, exV a X D = .agg #[.int .i64 x, .int .i64 y] := by
  unfold exV ratV
  split <;> exact ⟨_, _, rfl⟩
theorem mk_ex (a : Int) (X D : Nat) (hM : exM a D ≤ 9223372036854775807) :
    mkE (decide (a < 0) && decide (0 < exP a X D % 18446744073709551616)) (exP a X D % 18446744073709551616) (exM a D) (exP a X D / 18446744073709551616) = fitE (exN a X D) ∧
    mkV (decide (a < 0) && decide (0 < exP a X D % 18446744073709551616)) (exP a X D % 18446744073709551616) (exM a D) (exP a X D / 18446744073709551616) = exV a X D := by
  have key : mkE (decide (a < 0) && decide (0 < exP a X D % 18446744073709551616)) (exP a X D % 18446744073709551616) (exM a D) (exP a X D / 18446744073709551616) = fitE (exN a X D) := by
    unfold exN
    generalize exP a X D = P
    by_cases hf : in64 (if a < 0 then -(P : Int) else (P : Int))
    · rw [(fit_yes hf).2, mkE, if_neg]
      unfold in64 at hf
      by_cases ha : a < 0
      · rw [if_pos ha] at hf
        simp only [ha, decide_true, Bool.true_and, decide_eq_false_iff_not]
        omega
      · rw [if_neg ha] at hf
        simp only [ha, decide_false, Bool.false_and, and_true]
        omega
    · rw [(fit_no hf).2, mkE, if_pos]
      unfold in64 at hf
      by_cases ha : a < 0
      · rw [if_pos ha] at hf
        simp only [ha, decide_true, Bool.true_and, decide_eq_false_iff_not]
        omega
      · rw [if_neg ha] at hf
        simp only [ha, decide_false, Bool.false_and, and_true]
        omega
  refine ⟨key, ?_⟩
  unfold mkV exV
  rw [key]
  by_cases h0 : fitE (exN a X D) = 0
  · rw [if_pos h0, if_pos h0]
    have hin : in64 (exN a X D) := by
      by_cases hf : in64 (exN a X D)
      · exact hf
      · rw [(fit_no hf).2] at h0; exact absurd h0 (by decide)
    have : (if (decide (a < 0) && decide (0 < exP a X D % 18446744073709551616)) = true then -((exP a X D % 18446744073709551616 : Nat) : Int) else ((exP a X D % 18446744073709551616 : Nat) : Int)) = exN a X D := by
      unfold exN at hin ⊢
      generalize exP a X D = P at *
      unfold in64 at hin
      by_cases ha : a < 0
      · rw [if_pos ha] at hin ⊢
        simp only [ha, decide_true, Bool.true_and, decide_eq_true_eq]
        split <;> omega
      · rw [if_neg ha] at hin ⊢
        simp only [ha, decide_false, Bool.false_and, Bool.false_eq_true, if_false]
        omega
    rw [this]
  · rw [if_neg h0, if_neg h0]
theorem exM_le (a : Int) (D : Nat) : exM a D ≤ D := Nat.div_le_self _ _
end Go.Proofs.YtjhhmeoibfdcmaaGreatDoor
