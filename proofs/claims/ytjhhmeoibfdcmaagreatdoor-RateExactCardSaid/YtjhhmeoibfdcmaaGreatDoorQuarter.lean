/- Contracts of shape.Quarter, and what the laws' own examples come to. -/
import Derived.Test.YtjhhmeoibfdcmaaGreatDoorFieldF
namespace Go.Proofs.YtjhhmeoibfdcmaaGreatDoor
open Go.RowKit Qd
set_option linter.unusedSimpArgs false
set_option linter.unusedVariables false

theorem per_bounds (c : Cal) (h : c.okB = true) : 12 ≤ perV c ∧ perV c ≤ 52 := by
  have hk : c.Ok := by simpa [Cal.okB] using h
  have : perV c = manyP c.shape c.cycle := by simp [perV, h]
  rw [this]
  obtain ⟨_, _, _, hr⟩ := hk
  have e2 : (52 : Int) / 1 = 52 := by decide
  have e3 : (52 : Int) / 2 = 26 := by decide
  have e4 : (52 : Int) / 4 = 13 := by decide
  unfold manyP
  simp only [Cal.ruled, Cal.weeks, weeksP, Cal.pat0] at hr
  split
  · omega
  · split
    · rcases hr with h | h | h | h | h
      · omega
      · omega
      · have h3 : c.cycle = 1 ∨ c.cycle = 2 ∨ c.cycle = 4 := by omega
        rcases h3 with h3 | h3 | h3 <;> rw [h3] <;> omega
      · have h3 : c.cycle = 1 ∨ c.cycle = 2 ∨ c.cycle = 4 := by omega
        rcases h3 with h3 | h3 | h3 <;> rw [h3] <;> omega
      · omega
    · split
      · omega
      · omega

/-- In which quarter a period lies, and why it is not told. -/
def qOkB (c : Cal) (p : Int) : Bool := c.okB && decide (1 ≤ p) && decide (p ≤ perV c)
def qV (c : Cal) (p : Int) : Int := if qOkB c p then (4 * p + perV c - 1) / perV c else 0
def qE (c : Cal) (p : Int) : Int := if qOkB c p then 0 else 1

end Go.Proofs.YtjhhmeoibfdcmaaGreatDoor
