/- Contracts of shape.Quarter, and what the laws' own examples come to. -/
import Derived.Test.YtojdngkleiokgaaFieldF
namespace Go.Proofs.Ytojdngkleiokgaa
open Go.RowKit Qd
set_option linter.unusedSimpArgs false
set_option linter.unusedVariables false

theorem per_bounds (c : Cal) (h : c.okB = true) : 12 ≤ perV c ∧ perV c ≤ 52 := by
  have hk : c.Ok := by simpa [Cal.okB] using h
  have : perV c = manyP c.shape c.cycle := by simp [perV, h]
  rw [this]
  obtain ⟨_, _, _, hr⟩ := hk
  have e2 : (52 : Int) / 1 = 52 := by decide
  have e3 : (52 : Int) / 2 = 26 := by decide
  have e4 : (52 : Int) / 4 = 13 := by decide
  unfold manyP
  simp only [Cal.ruled, Cal.weeks, weeksP, Cal.pat0] at hr
  split
  · omega
  · split
    · rcases hr with h | h | h | h | h
      · omega
      · omega
      · have h3 : c.cycle = 1 ∨ c.cycle = 2 ∨ c.cycle = 4 := by omega
        rcases h3 with h3 | h3 | h3 <;> rw [h3] <;> omega
      · have h3 : c.cycle = 1 ∨ c.cycle = 2 ∨ c.cycle = 4 := by omega
        rcases h3 with h3 | h3 | h3 <;> rw [h3] <;> omega
      · omega
    · split
      · omega
      · omega

/-- In which quarter a period lies, and why it is not told. -/
def qOkB (c : Cal) (p : Int) : Bool := c.okB && decide (1 ≤ p) && decide (p ≤ perV c)
def qV (c : Cal) (p : Int) : Int := if qOkB c p then (4 * p + perV c - 1) / perV c else 0
def qE (c : Cal) (p : Int) : Int := if qOkB c p then 0 else 1

set_option maxHeartbeats 800000 in
theorem quarter_any (c : Cal) (p : Int) (w : World) (hn : c.name.size ≤ 1000) :
    Calls Try.prog 8 #[calV c, .int .i64 p] w fun e w' => e = .returned (.tuple #[.int .i64 (qV c p), .int .i64 (qE c p)]) ∧ Below w.heap.size w w' := by
  simp only [calV]
  cases hk : c.okB
  · have hE : okE c = 1 := by simp [okE, hk]
    have hP : perV c = 0 := by simp [perV, hk]
    have H1 : Hid (qV c p = 0) := by simp [Hid, qV, qOkB, hk]
    have H2 : Hid (qE c p = 1) := by simp [Hid, qE, qOkB, hk]
    go_enter Try.func8, Try.ntmps8
    go_wp2_with fail
    refine (periods_any c _ hn).mono ?_
    rintro e w1 ⟨rfl, hb1⟩
    rw [hE, hP]
    go_wp2
    all_goals (go_ret2; refine ⟨ret_int2 H1.out.symm H2.out.symm, ?_⟩; refine Below.trans ?_ (hb1.mono (by simp)); (repeat' (first | (with_reducible exact Below.refl _ _) | (with_reducible assumption) | (with_reducible refine Below.alloc ?_ ?_ _) | (with_reducible refine below_drewN ?_ _) | (with_reducible refine Below.drew ?_) | (with_reducible refine Below.setCell ?_ ?_ _) | (with_reducible refine Below.trans ?_ (Below.mono (by assumption) ?_)) | go_size | (simp at *; omega))))
  · have hE : okE c = 0 := by simp [okE, hk]
    have hb := per_bounds c hk
    have hpr : p < 1 ∨ perV c < p ∨ (1 ≤ p ∧ p ≤ perV c) := by omega
    rcases hpr with hp | hp | ⟨hp1, hp2⟩
    · have H1 : Hid (qV c p = 0) := by simp [Hid, qV, qOkB, hk]; omega
      have H2 : Hid (qE c p = 1) := by simp [Hid, qE, qOkB, hk]; omega
      go_enter Try.func8, Try.ntmps8
      go_wp2_with fail
      refine (periods_any c _ hn).mono ?_
      rintro e w1 ⟨rfl, hb1⟩
      rw [hE]
      go_wp2
      all_goals (go_ret2; refine ⟨ret_int2 H1.out.symm H2.out.symm, ?_⟩; refine Below.trans ?_ (hb1.mono (by simp)); (repeat' (first | (with_reducible exact Below.refl _ _) | (with_reducible assumption) | (with_reducible refine Below.alloc ?_ ?_ _) | (with_reducible refine below_drewN ?_ _) | (with_reducible refine Below.drew ?_) | (with_reducible refine Below.setCell ?_ ?_ _) | (with_reducible refine Below.trans ?_ (Below.mono (by assumption) ?_)) | go_size | (simp at *; omega))))
    · have H1 : Hid (qV c p = 0) := by simp [Hid, qV, qOkB, hk]; omega
      have H2 : Hid (qE c p = 1) := by simp [Hid, qE, qOkB, hk]; omega
      go_enter Try.func8, Try.ntmps8
      go_wp2_with fail
      refine (periods_any c _ hn).mono ?_
      rintro e w1 ⟨rfl, hb1⟩
      rw [hE]
      go_wp2
      all_goals (go_ret2; refine ⟨ret_int2 H1.out.symm H2.out.symm, ?_⟩; refine Below.trans ?_ (hb1.mono (by simp)); (repeat' (first | (with_reducible exact Below.refl _ _) | (with_reducible assumption) | (with_reducible refine Below.alloc ?_ ?_ _) | (with_reducible refine below_drewN ?_ _) | (with_reducible refine Below.drew ?_) | (with_reducible refine Below.setCell ?_ ?_ _) | (with_reducible refine Below.trans ?_ (Below.mono (by assumption) ?_)) | go_size | (simp at *; omega))))
    · have H1 : Hid (qV c p = (4 * p + perV c - 1) / perV c) := by simp [Hid, qV, qOkB, hk, hp1, hp2]
      have H2 : Hid (qE c p = 0) := by simp [Hid, qE, qOkB, hk, hp1, hp2]
      go_enter Try.func8, Try.ntmps8
      go_wp2_with fail
      refine (periods_any c _ hn).mono ?_
      rintro e w1 ⟨rfl, hb1⟩
      rw [hE]
      go_wp2
      all_goals (go_ret2; refine ⟨ret_int2 H1.out.symm H2.out.symm, ?_⟩; refine Below.trans ?_ (hb1.mono (by simp)); (repeat' (first | (with_reducible exact Below.refl _ _) | (with_reducible assumption) | (with_reducible refine Below.alloc ?_ ?_ _) | (with_reducible refine below_drewN ?_ _) | (with_reducible refine Below.drew ?_) | (with_reducible refine Below.setCell ?_ ?_ _) | (with_reducible refine Below.trans ?_ (Below.mono (by assumption) ?_)) | go_size | (simp at *; omega))))
end Go.Proofs.Ytojdngkleiokgaa
