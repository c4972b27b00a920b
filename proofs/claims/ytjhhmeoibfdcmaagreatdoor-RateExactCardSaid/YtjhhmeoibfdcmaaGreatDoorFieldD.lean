/- Contracts of field, third part: weeks. -/
import Derived.Test.YtjhhmeoibfdcmaaGreatDoorFieldC
namespace Go.Proofs.YtjhhmeoibfdcmaaGreatDoor
open Go.RowKit Qd
set_option linter.unusedSimpArgs false
set_option linter.unusedVariables false



set_option maxRecDepth 100000 in
set_option maxHeartbeats 1600000 in
theorem weeks_1 (c : Cal) (w : World) (hs : c.shape = 1) :
    Calls Tryz.prog 90 #[calV c] w fun e w' => e = .returned (.bool (decide c.weeks)) ∧ Below w.heap.size w w' := by
  obtain ⟨nm, k, d, m, sh, sp, a, b, p, cy, ex, fi, la, po⟩ := c
  obtain rfl : sp = 1 := hs
  simp only [calV]
  cases hc' : (cy == 0)
  all_goals
    go_enter Tryz.func90, Tryz.ntmps90
    go_wp2
    go_quiet (fail)
    go_wp2
    go_region_with (first | (go_at_call 108; refine (patterns_any _).mono ?_; rintro e w' ⟨rfl, rfl⟩) | (go_at_call 107; refine (place_any _ _ _ _ _ (patAt_at _ _ (by simp))).mono ?_; rintro e w1 ⟨rfl, hb1⟩))
    all_goals
      go_simp
      obtain ⟨hc, hf⟩ := bcell hb1
      have hz1 := hb1.size
      simp at hz1
      have hB1 : Below w.heap.size w w1 := by
          refine Below.trans ?_ (hb1.mono (by simp; omega))
          (repeat' exact bel)
      clear hb1
      cases hp : (decide (0 < patIx a b p + 1))
      all_goals
        go_wp2
        go_quiet ((first | (go_at_call 101; first | exact quiet_left (many_any _ _ _) | exact quiet_add_left (many_any _ _ _)) | (go_at_call 62; first | exact quiet_left (between_any _ _ _ _) | exact quiet_add_left (between_any _ _ _ _))))
        go_wp2
        go_ret
        refine ⟨ret_bool ?_, below_drewN hB1 _⟩
        have hx := hp
        clear hc hf
        simp_all [Cal.weeks, weeksP, pat_ix] <;> omega

theorem weeks_any (c : Cal) (w : World) :
    Calls Tryz.prog 90 #[calV c] w fun e w' => e = .returned (.bool (decide c.weeks)) ∧ Below w.heap.size w w' := by
  by_cases h1 : c.shape = 1
  · exact weeks_1 c w h1
  · by_cases h2 : c.shape = 2
    · exact weeks_2 c w h2
    · by_cases h3 : c.shape = 3
      · exact weeks_3 c w h3
      · exact weeks_no c w (beq_eq_false_iff_ne.2 h1) (beq_eq_false_iff_ne.2 h2) (beq_eq_false_iff_ne.2 h3)

theorem weeks_x (nm : ByteArray) (k d m sh sp a b p cy ex fi la po : Int) (w : World) :
    Calls Tryz.prog 90 #[.agg #[.string nm, .int .i64 k, .int .i64 d, .int .i64 m, .int .i64 sh, .int .i64 sp, .int .i64 a, .int .i64 b, .int .i64 p, .int .i64 cy, .int .i64 ex, .int .i64 fi, .int .i64 la, .int .i64 po]] w
      fun e w' => e = .returned (.bool (decide (Cal.mk nm k d m sh sp a b p cy ex fi la po).weeks)) ∧ Below w.heap.size w w' := weeks_any ⟨nm, k, d, m, sh, sp, a, b, p, cy, ex, fi, la, po⟩ w
end Go.Proofs.YtjhhmeoibfdcmaaGreatDoor
