/- What the laws' own example comes to: true. -/
import Derived.Test.YtojdngkleiokgaaQuarter
namespace Go.Proofs.Ytojdngkleiokgaa
open Go.RowKit Qd
set_option linter.unusedSimpArgs false
set_option linter.unusedVariables false

def fourC : Cal := ⟨⟨#[120]⟩, 1, 6, 9, 0, 2, 0, 0, 0, 0, 13, 2000, 2030, 1⟩
theorem four_ok : fourC.okB = true := by decide +kernel
theorem four_per : perV fourC = 13 := by decide +kernel
theorem four_q (p : Int) (h1 : 1 ≤ p) (h2 : p ≤ 13) : qV fourC p = (4 * p + 12) / 13 ∧ qE fourC p = 0 := by
  simp [qV, qE, qOkB, four_ok, four_per, h1, h2]
  omega

set_option maxHeartbeats 800000 in
theorem four_any (w : World) :
    Calls Try.prog 28 #[] w fun e w' => e = .returned (calV fourC) ∧ Below w.heap.size w w' := by
  go_enter Try.func28, Try.ntmps28
  go_wp2
  go_returns
  refine ⟨rfl, ?_⟩
  (repeat' (first | (with_reducible exact Below.refl _ _) | (with_reducible assumption) | (with_reducible refine Below.alloc ?_ ?_ _) | (with_reducible refine below_drewN ?_ _) | (with_reducible refine Below.drew ?_) | (with_reducible refine Below.setCell ?_ ?_ _) | (with_reducible refine Below.trans ?_ (Below.mono (by assumption) ?_)) | go_size | (simp at *; omega)))

set_option maxHeartbeats 800000 in
theorem live15_any (w : World) :
    Calls Try.prog 7 #[] w fun e w' => e = .returned (.bool true) ∧ Below w.heap.size w w' := by
  go_enter Try.func7, Try.ntmps7
  go_wp2
  go_loopw [1] (fun s wr => ∃ p : Int, 1 ≤ p ∧ p ≤ 14 ∧ s = .int .i64 p ∧ Below w.heap.size w wr) (fun s _ => (14 - intOf s).toNat)
  case atStart => exact ⟨1, by omega, by omega, rfl, Below.refl _ _⟩
  case round =>
    obtain ⟨p, hp1, hp2, rfl, hB⟩ := hrel
    by_cases hlt : p ≤ 13
    · go_wp2_with fail
      refine (four_any _).mono ?_
      rintro e w1 ⟨rfl, hb1⟩
      go_wp2_with fail
      refine (quarter_any fourC p _ (by decide)).mono ?_
      rintro e w2 ⟨rfl, hb2⟩
      obtain ⟨hq1, hq2⟩ := four_q p hp1 hlt
      rw [hq1, hq2]
      clear hq1 hq2
      go_wp2
      exact ⟨⟨p + 1, by omega, by omega, rfl, (hB.trans (hb1.mono hB.size)).trans (hb2.mono (Nat.le_trans hB.size hb1.size))⟩, by simp [intOf]; omega⟩
    · go_wp2
      go_ret
      exact ⟨rfl, hB⟩
end Go.Proofs.Ytojdngkleiokgaa
