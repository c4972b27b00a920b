/- The walk of ShapeHalves. -/
import Derived.Test.YtcmdcgmpdjjgcaaLive15
import Derived.Test.YtcmdcgmpdjjgcaaPlainHalves
namespace Go.Proofs.Ytcmdcgmpdjjgcaa
open Go.RowKit Qd
set_option linter.unusedSimpArgs false
set_option linter.unusedVariables false

theorem per_pers (c : Cal) (h : c.okB = true) : Pers (perV c) := by
  have hk : c.Ok := by simpa [Cal.okB] using h
  have : perV c = manyP c.shape c.cycle := by simp [perV, h]
  rw [this]
  obtain ⟨_, _, _, hr⟩ := hk
  have e2 : (52 : Int) / 1 = 52 := by decide
  have e3 : (52 : Int) / 2 = 26 := by decide
  have e4 : (52 : Int) / 4 = 13 := by decide
  unfold manyP Pers
  simp only [Cal.ruled, Cal.weeks, weeksP, Cal.pat0] at hr
  split
  · omega
  · split
    · have h3 : c.cycle = 1 ∨ c.cycle = 2 ∨ c.cycle = 4 := by omega
      rcases h3 with h3 | h3 | h3 <;> rw [h3] <;> omega
    · split
      · omega
      · omega

set_option maxHeartbeats 800000 in
theorem halves_long (c : Cal) (w : World) (hn : 100 < c.name.size) (hm : c.name.size ≤ 9223372036854775807) :
    Calls Try.prog 4 #[calV c] w fun e w' => e = .returned (.bool true) ∧ Below w.heap.size w w' := by
  simp only [calV]
  go_enter Try.func4, Try.ntmps4
  go_wp2_with fail
  refine (live15_any _).mono ?_
  rintro e w1 ⟨rfl, hb1⟩
  obtain ⟨hc, hf⟩ := bcell hb1
  go_wp2
  go_ret
  refine ⟨rfl, ?_⟩
  refine Below.trans ?_ (hb1.mono (by simp))
  (repeat' (first | (with_reducible exact Below.refl _ _) | (with_reducible assumption) | (with_reducible refine Below.alloc ?_ ?_ _) | (with_reducible refine below_drewN ?_ _) | (with_reducible refine Below.drew ?_) | (with_reducible refine Below.setCell ?_ ?_ _) | (with_reducible refine Below.trans ?_ (Below.mono (by assumption) ?_)) | go_size | (simp at *; omega)))

set_option maxRecDepth 100000 in
set_option maxHeartbeats 800000 in
theorem halves_bad (c : Cal) (w : World) (hn : c.name.size ≤ 100) (hk : c.okB = false) :
    Calls Try.prog 4 #[calV c] w fun e w' => e = .returned (.bool true) ∧ Below w.heap.size w w' := by
  have hE : okE c = 1 := by simp [okE, hk]
  have hP : perV c = 0 := by simp [perV, hk]
  have h1 : qV c 1 = 0 := by simp [qV, qOkB, hk]
  have h2 : qE c 1 = 1 := by simp [qE, qOkB, hk]
  simp only [calV]
  go_enter Try.func4, Try.ntmps4
  go_wp2_with fail
  refine (live15_any _).mono ?_
  rintro e w1 ⟨rfl, hb1⟩
  obtain ⟨hc, hf⟩ := bcell hb1
  have hz1 : w.heap.size < w1.heap.size := by have := hb1.size; simp at this; omega
  have hB1 : Below w.heap.size w w1 := by
    refine Below.trans ?_ (hb1.mono (by simp))
    (repeat' (first | (with_reducible exact Below.refl _ _) | (with_reducible assumption) | (with_reducible refine Below.alloc ?_ ?_ _) | (with_reducible refine below_drewN ?_ _) | (with_reducible refine Below.drew ?_) | (with_reducible refine Below.setCell ?_ ?_ _) | (with_reducible refine Below.trans ?_ (Below.mono (by assumption) ?_)) | go_size | (simp at *; omega)))
  clear hb1
  go_wp2_with fail
  refine (periods_any c _ (by omega)).mono ?_
  rintro e w2 ⟨rfl, hb2⟩
  obtain ⟨hc2, hf2⟩ := bcell hb2
  have hz2 : w.heap.size < w2.heap.size := by have := hb2.size; omega
  have hB2 : Below w.heap.size w w2 := hB1.trans (hb2.mono (by omega))
  clear hb2 hB1
  rw [hE]
  go_wp2_with fail
  refine (quarter_any c _ _ (by omega)).mono ?_
  rintro e w3 ⟨rfl, hb3⟩
  rw [h1, h2]
  go_wp2
  go_ret
  refine ⟨rfl, hB2.trans (hb3.mono (by omega))⟩
end Go.Proofs.Ytcmdcgmpdjjgcaa
