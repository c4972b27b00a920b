/- Contracts of the references: which calendars may be, second part: years of weeks by a rule. -/
import Derived.Test.YtojdngkleiokgaaGreatNRefF
namespace Go.Proofs.YtojdngkleiokgaaGreat
open Go.RowKit Qd
set_option linter.unusedSimpArgs false
set_option linter.unusedVariables false

theorem rmany_shaped {c : Cal} (h : calShaped c) : rmanyP c = manyP c.shape c.cycle := by
  rw [rmanyP, if_neg]
  intro h2
  unfold calShaped at h
  omega
theorem ruled_12 {c : Cal} (hk : c.kind = 1 ∨ c.kind = 2) : c.ruled ↔ (1 ≤ c.day ∧ c.day ≤ 7) ∧ (1 ≤ c.month ∧ c.month ≤ 12) ∧ (c.shift = 0 ∨ c.shift = 1) ∧ calShaped c ∧ 1 ≤ c.extra ∧ c.extra ≤ manyP c.shape c.cycle := by
  rw [← weeks_shaped]
  unfold Cal.ruled
  generalize c.weeks = P
  constructor
  · intro h
    rcases h with h | h | h | h | h
    · omega
    · omega
    · exact ⟨h.2.2.2.1, h.2.1, by have := h.2.2.1; omega, h.2.2.2.2⟩
    · omega
    · omega
  · intro ⟨h1, h2, h3, h4⟩
    exact .inr (.inr (.inl ⟨hk, h2, by omega, h1, h4⟩))
theorem ruled_5 {c : Cal} (hk : c.kind = 5) : c.ruled ↔ c.day = 7 ∧ c.month = 12 ∧ c.shift = 0 ∧ calShaped c ∧ 1 ≤ c.extra ∧ c.extra ≤ manyP c.shape c.cycle := by
  rw [← weeks_shaped]
  unfold Cal.ruled
  generalize c.weeks = P
  constructor
  · intro h
    rcases h with h | h | h | h | h
    · omega
    · omega
    · omega
    · exact h.2
    · omega
  · intro h
    exact .inr (.inr (.inr (.inl ⟨hk, h⟩)))
theorem shaped_x (nm : ByteArray) (k d m sh sp a b p cy ex fi la po : Int) (w : World) (v : Bool) (hv : decide (calShaped (Cal.mk nm k d m sh sp a b p cy ex fi la po)) = v) :
    Calls Tryz.prog 96 #[.agg #[.string nm, .int .i64 k, .int .i64 d, .int .i64 m, .int .i64 sh, .int .i64 sp, .int .i64 a, .int .i64 b, .int .i64 p, .int .i64 cy, .int .i64 ex, .int .i64 fi, .int .i64 la, .int .i64 po]] w
      fun e w' => e = .returned (.bool v) ∧ Below w.heap.size w w' := by subst hv; exact shaped_any ⟨nm, k, d, m, sh, sp, a, b, p, cy, ex, fi, la, po⟩ w
theorem many_x (nm : ByteArray) (k d m sh sp a b p cy ex fi la po : Int) (w : World) (v : Int) (hv : rmanyP (Cal.mk nm k d m sh sp a b p cy ex fi la po) = v) :
    Calls Tryz.prog 97 #[.agg #[.string nm, .int .i64 k, .int .i64 d, .int .i64 m, .int .i64 sh, .int .i64 sp, .int .i64 a, .int .i64 b, .int .i64 p, .int .i64 cy, .int .i64 ex, .int .i64 fi, .int .i64 la, .int .i64 po]] w
      fun e w' => e = .returned (.int .i64 v) ∧ Below w.heap.size w w' := by subst hv; exact rmany_any ⟨nm, k, d, m, sh, sp, a, b, p, cy, ex, fi, la, po⟩ w
end Go.Proofs.YtojdngkleiokgaaGreat
