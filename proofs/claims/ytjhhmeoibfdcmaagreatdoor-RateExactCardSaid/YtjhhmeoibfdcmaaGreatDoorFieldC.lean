/- Contracts of field, third part: weeks. -/
import Derived.Test.YtjhhmeoibfdcmaaGreatDoorFieldB
namespace Go.Proofs.YtjhhmeoibfdcmaaGreatDoor
open Go.RowKit Qd
set_option linter.unusedSimpArgs false
set_option linter.unusedVariables false

abbrev calV (c : Cal) : Value := .agg #[.string c.name, .int .i64 c.kind, .int .i64 c.day, .int .i64 c.month, .int .i64 c.shift, .int .i64 c.shape, .int .i64 c.p0, .int .i64 c.p1, .int .i64 c.p2, .int .i64 c.cycle, .int .i64 c.extra, .int .i64 c.first, .int .i64 c.last, .int .i64 c.policy]

set_option maxHeartbeats 1600000 in
theorem weeks_2 (c : Cal) (w : World) (hs : c.shape = 2) :
    Calls Tryz.prog 90 #[calV c] w fun e w' => e = .returned (.bool (decide c.weeks)) ∧ Below w.heap.size w w' := by
  obtain ⟨nm, k, d, m, sh, sp, a, b, p, cy, ex, fi, la, po⟩ := c
  obtain rfl : sp = 2 := hs
  simp only [calV]
  cases hc' : (cy == 0)
  all_goals
    go_enter Tryz.func90, Tryz.ntmps90
    go_wp2
    go_quiet (fail)
    go_wp2
    cases hp : (a == 0 && (b == 0 && p == 0))
    all_goals
      go_quiet ((first | (go_at_call 101; first | exact quiet_left (many_any _ _ _) | exact quiet_add_left (many_any _ _ _)) | (go_at_call 62; first | exact quiet_left (between_any _ _ _ _) | exact quiet_add_left (between_any _ _ _ _))))
      go_wp2
      go_ret
      refine ⟨ret_bool ?_, by (repeat' exact bel)⟩
      simp_all [Cal.weeks, weeksP]

set_option maxHeartbeats 1600000 in
theorem weeks_3 (c : Cal) (w : World) (hs : c.shape = 3) :
    Calls Tryz.prog 90 #[calV c] w fun e w' => e = .returned (.bool (decide c.weeks)) ∧ Below w.heap.size w w' := by
  obtain ⟨nm, k, d, m, sh, sp, a, b, p, cy, ex, fi, la, po⟩ := c
  obtain rfl : sp = 3 := hs
  simp only [calV]
  cases hc1 : (cy == 1) <;> cases hc2 : (cy == 2) <;> cases hc4 : (cy == 4)
  all_goals first
    | (exfalso; simp_all; done)
    | skip
  all_goals
    go_enter Tryz.func90, Tryz.ntmps90
    go_wp2
    go_quiet (fail)
    go_wp2
    cases hp : (a == 0 && (b == 0 && p == 0))
    all_goals
      go_quiet ((first | (go_at_call 101; first | exact quiet_left (many_any _ _ _) | exact quiet_add_left (many_any _ _ _)) | (go_at_call 62; first | exact quiet_left (between_any _ _ _ _) | exact quiet_add_left (between_any _ _ _ _))))
      go_wp2
      go_ret
      refine ⟨ret_bool ?_, by (repeat' exact bel)⟩
      simp_all [Cal.weeks, weeksP]

set_option maxHeartbeats 1600000 in
theorem weeks_no (c : Cal) (w : World) (h1 : (c.shape == 1) = false) (h2 : (c.shape == 2) = false) (h3 : (c.shape == 3) = false) :
    Calls Tryz.prog 90 #[calV c] w fun e w' => e = .returned (.bool (decide c.weeks)) ∧ Below w.heap.size w w' := by
  simp only [calV]
  go_enter Tryz.func90, Tryz.ntmps90
  go_wp2
  go_quiet (fail)
  go_wp2
  go_ret
  refine ⟨ret_bool ?_, by (repeat' exact bel)⟩
  simp_all [Cal.weeks, weeksP]

end Go.Proofs.YtjhhmeoibfdcmaaGreatDoor
