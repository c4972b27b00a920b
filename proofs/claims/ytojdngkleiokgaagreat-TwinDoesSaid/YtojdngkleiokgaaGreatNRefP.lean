/- Plain facts for the references: quarters. -/
import Derived.Test.YtojdngkleiokgaaGreatMSa
import Derived.Test.YtojdngkleiokgaaGreatQuarter
namespace Go.Proofs.YtojdngkleiokgaaGreat
open Go.RowKit Qd
set_option linter.unusedSimpArgs false
set_option linter.unusedVariables false

theorem per_vals (c : Cal) (h : c.okB = true) : perV c = 12 ∨ perV c = 13 ∨ perV c = 26 ∨ perV c = 52 := by
  have hk : c.Ok := by simpa [Cal.okB] using h
  have : perV c = manyP c.shape c.cycle := by simp [perV, h]
  rw [this]
  obtain ⟨_, _, _, hr⟩ := hk
  unfold manyP
  simp only [Cal.ruled, Cal.weeks, weeksP, Cal.pat0] at hr
  split
  · omega
  · split
    · have h3 : c.cycle = 1 ∨ c.cycle = 2 ∨ c.cycle = 4 := by omega
      rcases h3 with h3 | h3 | h3 <;> rw [h3] <;> decide
    · split
      · omega
      · omega
theorem q_step {n p q : Int} (hn : n = 12 ∨ n = 13 ∨ n = 26 ∨ n = 52) (hp : 1 ≤ p ∧ p ≤ n) (hq : 1 ≤ q ∧ q ≤ 4) : n * q / 4 < p ↔ q < (4 * p + n - 1) / n := by
  have hq4 : q = 1 ∨ q = 2 ∨ q = 3 ∨ q = 4 := by omega
  rcases hn with rfl | rfl | rfl | rfl <;> rcases hq4 with rfl | rfl | rfl | rfl <;> omega
theorem q_bd {n p : Int} (hn : n = 12 ∨ n = 13 ∨ n = 26 ∨ n = 52) (hp : 1 ≤ p ∧ p ≤ n) : 1 ≤ (4 * p + n - 1) / n ∧ (4 * p + n - 1) / n ≤ 4 := by
  rcases hn with rfl | rfl | rfl | rfl <;> omega
end Go.Proofs.YtojdngkleiokgaaGreat
