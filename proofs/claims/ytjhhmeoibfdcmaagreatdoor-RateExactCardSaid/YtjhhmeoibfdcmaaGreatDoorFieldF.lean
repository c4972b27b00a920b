/- Contracts of field, fifth part: Check, Periods; and shape.Quarter. -/
import Derived.Test.YtjhhmeoibfdcmaaGreatDoorFieldE
namespace Go.Proofs.YtjhhmeoibfdcmaaGreatDoor
open Go.RowKit Qd
set_option linter.unusedSimpArgs false
set_option linter.unusedVariables false

/-- 0: it may be; 1: it may not. -/
def okE (c : Cal) : Int := if c.okB then 0 else 1
theorem okE_yes {c : Cal} (h : c.Ok) : okE c = 0 := by unfold okE Cal.okB; rw [decide_eq_true h]; rfl
theorem okE_no {c : Cal} (h : ¬ c.Ok) : okE c = 1 := by unfold okE Cal.okB; rw [decide_eq_false h]; rfl
theorem beq_dec (x y : Int) : (x == y) = decide (x = y) := by by_cases h : x = y <;> simp [h]

set_option maxRecDepth 100000 in
set_option maxHeartbeats 1600000 in
theorem check_any (c : Cal) (w : World) (hn : c.name.size ≤ 1000) :
    Calls Tryz.prog 45 #[calV c] w fun e w' => e = .returned (.int .i64 (okE c)) ∧ Below w.heap.size w w' := by
  obtain ⟨nm, k, d, m, sh, sp, a, b, p, cy, ex, fi, la, po⟩ := c
  simp only [calV]
  dsimp only at hn
  go_enter Tryz.func45, Tryz.ntmps45
  go_wp2_with (first | (go_at_call 62; refine (between_any _ _ _ _).mono ?_; rintro e w' ⟨rfl, rfl⟩) | (go_at_call 63; (with_reducible refine (name_any _ _ hn).mono ?_); rintro e w' ⟨rfl, rfl⟩) | (go_at_call 64; (with_reducible refine (ruled_x _ _ _ _ _ _ _ _ _ _ _ _ _ _ _).mono ?_); rintro e w2 ⟨rfl, hb2⟩))
  all_goals
    go_ret
    refine ⟨ret_int ?_, by first | (repeat' exact bel) | (refine Below.trans ?_ (hb2.mono (by simp)); (repeat' exact bel))⟩
    try clear hb2
    first
      | refine (okE_yes ?_).symm
      | refine (okE_no ?_).symm
    simp only [Cal.Ok, Cal.served, Cal.polic]
    try simp only [beq_dec] at *
  all_goals grind

theorem check_x (nm : ByteArray) (k d m sh sp a b p cy ex fi la po : Int) (w : World) (hn : nm.size ≤ 1000) :
    Calls Tryz.prog 45 #[.agg #[.string nm, .int .i64 k, .int .i64 d, .int .i64 m, .int .i64 sh, .int .i64 sp, .int .i64 a, .int .i64 b, .int .i64 p, .int .i64 cy, .int .i64 ex, .int .i64 fi, .int .i64 la, .int .i64 po]] w
      fun e w' => e = .returned (.int .i64 (okE (Cal.mk nm k d m sh sp a b p cy ex fi la po))) ∧ Below w.heap.size w w' := check_any ⟨nm, k, d, m, sh, sp, a, b, p, cy, ex, fi, la, po⟩ w hn

/-- How many periods; 0, if the calendar may not be. -/
def perV (c : Cal) : Int := if c.okB then manyP c.shape c.cycle else 0

set_option maxHeartbeats 800000 in
theorem periods_any (c : Cal) (w : World) (hn : c.name.size ≤ 1000) :
    Calls Tryz.prog 75 #[calV c] w fun e w' => e = .returned (.tuple #[.int .i64 (perV c), .int .i64 (okE c)]) ∧ Below w.heap.size w w' := by
  simp only [calV]
  cases hk : c.okB
  · have hE : okE c = 1 := by simp [okE, hk]
    have hP : perV c = 0 := by simp [perV, hk]
    go_enter Tryz.func75, Tryz.ntmps75
    go_wp2_with fail
    refine (check_any c _ hn).mono ?_
    rintro e w1 ⟨rfl, hb1⟩
    rw [hE]
    go_wp2
    go_ret2
    refine ⟨ret_int2 hP.symm hE.symm, ?_⟩
    refine Below.trans ?_ (hb1.mono (by simp))
    (repeat' exact bel)
  · have hE : okE c = 0 := by simp [okE, hk]
    have hP : perV c = manyP c.shape c.cycle := by simp [perV, hk]
    go_enter Tryz.func75, Tryz.ntmps75
    go_wp2_with fail
    refine (check_any c _ hn).mono ?_
    rintro e w1 ⟨rfl, hb1⟩
    rw [hE]
    obtain ⟨hc, hf⟩ := bcell hb1
    have hB1 : Below w.heap.size w w1 := by
      refine Below.trans ?_ (hb1.mono (by simp))
      (repeat' exact bel)
    clear hb1
    go_wp2_with (first | (go_at_call 101; (with_reducible refine (many_any _ _ _).mono ?_); rintro e w' ⟨rfl, rfl⟩))
    go_ret2
    exact ⟨ret_int2 hP.symm hE.symm, hB1⟩
end Go.Proofs.YtjhhmeoibfdcmaaGreatDoor
