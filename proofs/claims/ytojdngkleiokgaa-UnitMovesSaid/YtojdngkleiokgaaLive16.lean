/- The layer's example. -/
import Derived.Test.YtojdngkleiokgaaMUn
namespace Go.Proofs.Ytojdngkleiokgaa
open Go.RowKit Qd
set_option linter.unusedSimpArgs false
set_option linter.unusedVariables false

def nrfC : Cal := ⟨⟨#[120]⟩, 3, 6, 1, 1, 1, 4, 5, 4, 0, 12, 2000, 2030, 1⟩
theorem nrf_frame : frameE nrfC 5 2023 = 0 := by decide +kernel
theorem nrf_count : countV nrfC 5 2023 = 53 := by decide +kernel
theorem nrf_dn : dnE nrfC ⟨2, 2023, 2⟩ 4 = 0 ∧ (dnA nrfC ⟨2, 2023, 2⟩ 4).lv = 4 ∧ (dnA nrfC ⟨2, 2023, 2⟩ 4).yr = 2023 ∧ (dnA nrfC ⟨2, 2023, 2⟩ 4).ix = 7 := by decide +kernel

set_option maxRecDepth 100000 in
set_option maxHeartbeats 1600000 in
theorem live16_any (w : World) :
    Calls Try.prog 17 #[] w fun e w' => e = .returned (.bool true) ∧ Below w.heap.size w w' := by
  go_enter Try.func17, Try.ntmps17
  go_wp2_with fail
  refine (count_any nrfC 5 2023 _ (by decide)).mono ?_
  rintro e w1 ⟨rfl, hb1⟩
  rw [nrf_count, nrf_frame]
  have hz1 : w.heap.size < w1.heap.size := by have := hb1.size; simp at this; omega
  have HB1 := hide (show Below w.heap.size w w1 by refine Below.trans ?_ (hb1.mono (by simp)); (repeat' (first | (with_reducible exact Below.refl _ _) | (with_reducible assumption) | (with_reducible refine Below.alloc ?_ ?_ _) | (with_reducible refine below_drewN ?_ _) | (with_reducible refine Below.drew ?_) | (with_reducible refine Below.setCell ?_ ?_ _) | (with_reducible refine Below.trans ?_ (Below.mono (by assumption) ?_)) | go_size | (simp at *; omega))))
  have HQ1 := hide (calAt_below hb1 (by simp) (calAt_new w nrfC))
  obtain ⟨q0, q1, q2, q3, q4, q5, q6, q7, q8, q9, q10, q11, q12, q13⟩ := HQ1.out
  clear hb1
  simp only [nrfC] at q0 q1 q2 q3 q4 q5 q6 q7 q8 q9 q10 q11 q12 q13
  go_wp2_with fail
  refine (down_any nrfC ⟨2, 2023, 2⟩ 4 _ (by decide)).mono ?_
  rintro e w2 ⟨rfl, hb2⟩
  rw [nrf_dn.1]
  simp only [unitV]
  rw [nrf_dn.2.1, nrf_dn.2.2.1, nrf_dn.2.2.2]
  have HB2 := hide (HB1.out.trans (hb2.mono (Nat.le_of_lt hz1)))
  have hz2 : w.heap.size < w2.heap.size := Nat.lt_of_lt_of_le hz1 hb2.size
  clear q0 q1 q2 q3 q4 q5 q6 q7 q8 q9 q10 q11 q12 q13
  clear hb2
  go_wp2
  have := HB2.out
  first
    | (go_ret; exact ⟨ret_bool (by simp [unB]), by (repeat' (first | (with_reducible exact Below.refl _ _) | (with_reducible assumption) | (with_reducible refine Below.alloc ?_ ?_ _) | (with_reducible refine below_drewN ?_ _) | (with_reducible refine Below.drew ?_) | (with_reducible refine Below.setCell ?_ ?_ _) | (with_reducible refine Below.trans ?_ (Below.mono (by assumption) ?_)) | go_size | (simp at *; omega)))⟩)
    | (go_ret; exact ⟨rfl, by (repeat' (first | (with_reducible exact Below.refl _ _) | (with_reducible assumption) | (with_reducible refine Below.alloc ?_ ?_ _) | (with_reducible refine below_drewN ?_ _) | (with_reducible refine Below.drew ?_) | (with_reducible refine Below.setCell ?_ ?_ _) | (with_reducible refine Below.trans ?_ (Below.mono (by assumption) ?_)) | go_size | (simp at *; omega)))⟩)
end Go.Proofs.Ytojdngkleiokgaa
