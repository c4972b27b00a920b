/- Contracts of field, fourth part: ruled, Check. -/
import Derived.Test.YtjhhmeoibfdcmaaGreatDoorFieldD
namespace Go.Proofs.YtjhhmeoibfdcmaaGreatDoor
open Go.RowKit Qd
set_option linter.unusedSimpArgs false
set_option linter.unusedVariables false

set_option maxRecDepth 100000 in
set_option maxHeartbeats 1600000 in
theorem ruled_3 (c : Cal) (w : World) (hs : c.kind = 3) :
    Calls Tryz.prog 64 #[calV c] w fun e w' => e = .returned (.bool (decide c.ruled)) ∧ Below w.heap.size w w' := by
  obtain ⟨nm, k, d, m, sh, sp, a, b, p, cy, ex, fi, la, po⟩ := c
  obtain rfl : k = 3 := hs
  simp only [calV]
  go_enter Tryz.func64, Tryz.ntmps64
  go_wp2_with fail
  refine (fixed_3 _).mono ?_
  rintro e w1 ⟨rfl, hb1⟩
  obtain ⟨hc, hf⟩ := bcell hb1
  have hz1 : w.heap.size < w1.heap.size := by have := hb1.size; simp at this; omega
  have hB1 : Below w.heap.size w w1 := by
    refine Below.trans ?_ (hb1.mono (by simp))
    (repeat' exact bel)
  clear hb1
  go_wp2
  go_region
  all_goals go_wp2
  all_goals
    go_ret
    refine ⟨ret_bool ?_, by (repeat' exact bel)⟩
    clear hc hf hB1 hz1
    simp_all [Cal.ruled, Cal.pat0]
  all_goals omega

set_option maxRecDepth 100000 in
set_option maxHeartbeats 1600000 in
theorem ruled_4 (c : Cal) (w : World) (hs : c.kind = 4) :
    Calls Tryz.prog 64 #[calV c] w fun e w' => e = .returned (.bool (decide c.ruled)) ∧ Below w.heap.size w w' := by
  obtain ⟨nm, k, d, m, sh, sp, a, b, p, cy, ex, fi, la, po⟩ := c
  obtain rfl : k = 4 := hs
  simp only [calV]
  go_enter Tryz.func64, Tryz.ntmps64
  go_wp2_with fail
  refine (fixed_4 _).mono ?_
  rintro e w1 ⟨rfl, hb1⟩
  obtain ⟨hc, hf⟩ := bcell hb1
  have hz1 : w.heap.size < w1.heap.size := by have := hb1.size; simp at this; omega
  have hB1 : Below w.heap.size w w1 := by
    refine Below.trans ?_ (hb1.mono (by simp))
    (repeat' exact bel)
  clear hb1
  go_wp2
  go_region
  all_goals go_wp2
  all_goals
    go_ret
    refine ⟨ret_bool ?_, by (repeat' exact bel)⟩
    clear hc hf hB1 hz1
    simp_all [Cal.ruled, Cal.pat0]
  all_goals omega

set_option maxRecDepth 100000 in
set_option maxHeartbeats 1600000 in
theorem ruled_n (c : Cal) (w : World) (h3 : (c.kind == 3) = false) (h4 : (c.kind == 4) = false) :
    Calls Tryz.prog 64 #[calV c] w fun e w' => e = .returned (.bool (decide c.ruled)) ∧ Below w.heap.size w w' := by
  simp only [calV]
  cases hm : (decide (1 ≤ c.month ∧ c.month ≤ 12))
  case false =>
    go_enter Tryz.func64, Tryz.ntmps64
    go_wp2_with fail
    refine (fixed_no _ h3 h4 _).mono ?_
    rintro e w1 ⟨rfl, hb1⟩
    obtain ⟨hc, hf⟩ := bcell hb1
    have hz1 : w.heap.size < w1.heap.size := by have := hb1.size; simp at this; omega
    have hB1 : Below w.heap.size w w1 := by
      refine Below.trans ?_ (hb1.mono (by simp))
      (repeat' exact bel)
    clear hb1
    go_wp2_with (first | (go_at_call 62; refine (between_any _ _ _ _).mono ?_; rintro e w' ⟨rfl, rfl⟩))
    go_ret
    refine ⟨ret_bool ?_, by (repeat' exact bel)⟩
    clear hc hf hB1 hz1
    simp_all [Cal.ruled]
    try omega
  case true =>
    go_enter Tryz.func64, Tryz.ntmps64
    go_wp2_with fail
    refine (fixed_no _ h3 h4 _).mono ?_
    rintro e w1 ⟨rfl, hb1⟩
    obtain ⟨hc, hf⟩ := bcell hb1
    have hz1 : w.heap.size < w1.heap.size := by have := hb1.size; simp at this; omega
    have hB1 : Below w.heap.size w w1 := by
      refine Below.trans ?_ (hb1.mono (by simp))
      (repeat' exact bel)
    clear hb1
    go_wp2_with (first | (go_at_call 62; refine (between_any _ _ _ _).mono ?_; rintro e w' ⟨rfl, rfl⟩) | (go_at_call 90; (with_reducible refine (weeks_x _ _ _ _ _ _ _ _ _ _ _ _ _ _ _).mono ?_); rintro e w2 ⟨rfl, hb2⟩))
    all_goals
      go_ret
      refine ⟨ret_bool ?_, by first | (repeat' exact bel) | (refine Below.trans ?_ (hb2.mono (by simp; omega)); (repeat' exact bel))⟩
      clear hc hf hB1 hz1
      try clear hb2
      simp_all [Cal.ruled, Cal.pat0, Cal.weeks]
    all_goals grind

theorem ruled_any (c : Cal) (w : World) :
    Calls Tryz.prog 64 #[calV c] w fun e w' => e = .returned (.bool (decide c.ruled)) ∧ Below w.heap.size w w' := by
  by_cases h3 : c.kind = 3
  · exact ruled_3 c w h3
  · by_cases h4 : c.kind = 4
    · exact ruled_4 c w h4
    · exact ruled_n c w (beq_eq_false_iff_ne.2 h3) (beq_eq_false_iff_ne.2 h4)
theorem ruled_x (nm : ByteArray) (k d m sh sp a b p cy ex fi la po : Int) (w : World) :
    Calls Tryz.prog 64 #[.agg #[.string nm, .int .i64 k, .int .i64 d, .int .i64 m, .int .i64 sh, .int .i64 sp, .int .i64 a, .int .i64 b, .int .i64 p, .int .i64 cy, .int .i64 ex, .int .i64 fi, .int .i64 la, .int .i64 po]] w
      fun e w' => e = .returned (.bool (decide (Cal.mk nm k d m sh sp a b p cy ex fi la po).ruled)) ∧ Below w.heap.size w w' := ruled_any ⟨nm, k, d, m, sh, sp, a, b, p, cy, ex, fi, la, po⟩ w
end Go.Proofs.YtjhhmeoibfdcmaaGreatDoor
