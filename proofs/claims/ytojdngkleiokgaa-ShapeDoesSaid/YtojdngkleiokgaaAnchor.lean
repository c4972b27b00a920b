/- Contracts of anchor: rules. -/
import Derived.Test.YtojdngkleiokgaaWeek
import Derived.Test.YtojdngkleiokgaaFieldF
namespace Go.Proofs.Ytojdngkleiokgaa
open Go.RowKit Qd
set_option linter.unusedSimpArgs false
set_option linter.unusedVariables false

set_option maxHeartbeats 800000 in
theorem rlast_any (m d y : Int) (w : World) :
    Calls Try.prog 123 #[.agg #[.int .i64 m, .int .i64 d], .int .i64 y] w fun e w' => e = .returned (.tuple #[.int .i64 (lastV y m d), .int .i64 (wkE y m d)]) ∧ Below w.heap.size w w' := by
  go_enter Try.func123, Try.ntmps123
  go_wp2_with fail
  refine (last_any _ _ _ _).mono ?_
  rintro e w1 ⟨rfl, hb1⟩
  go_wp2
  go_ret2
  exact ⟨rfl, ((Below.refl _ _).alloc (Nat.le_refl _) _).trans (hb1.mono (by simp))⟩

set_option maxHeartbeats 800000 in
theorem rnear_any (m d y : Int) (w : World) :
    Calls Try.prog 125 #[.agg #[.int .i64 m, .int .i64 d], .int .i64 y] w fun e w' => e = .returned (.tuple #[.int .i64 (nearV y m d), .int .i64 (nearE y m d)]) ∧ Below w.heap.size w w' := by
  go_enter Try.func125, Try.ntmps125
  go_wp2_with fail
  refine (near_any _ _ _ _).mono ?_
  rintro e w1 ⟨rfl, hb1⟩
  go_wp2
  go_ret2
  exact ⟨rfl, ((Below.refl _ _).alloc (Nat.le_refl _) _).trans (hb1.mono (by simp))⟩

def monV (y m : Int) : Int := if thereB y m then endN y m else 0
def monE (y m : Int) : Int := if thereB y m then 0 else 4
set_option maxHeartbeats 800000 in
theorem rmonth_any (m y : Int) (w : World) :
    Calls Try.prog 124 #[.int .i64 m, .int .i64 y] w fun e w' => e = .returned (.tuple #[.int .i64 (monV y m), .int .i64 (monE y m)]) ∧ Below w.heap.size w w' := by
  cases ht : thereB y m
  · have hl : lenE y m = 4 := by simp [lenE, ht]
    have H1 := hide (show monV y m = 0 by simp [monV, ht])
    have H2 := hide (show monE y m = 4 by simp [monE, ht])
    go_enter Try.func124, Try.ntmps124
    go_wp2_with fail
    refine (length_any _ _ _).mono ?_
    rintro e w1 ⟨rfl, hb1⟩
    rw [hl]
    go_wp2
    go_ret2
    exact ⟨ret_int2 H1.out.symm H2.out.symm, hb1⟩
  · have hl : lenE y m = 0 := by simp [lenE, ht]
    have hd := end_date y m ht
    have hdE : dateE y m (lenV y m) = 0 := by simp [dateE, hd]
    have hdV : dayV y m (lenV y m) = endN y m := by simp [dayV, hd, endN]
    have H1 := hide (show monV y m = endN y m by simp [monV, ht])
    have H2 := hide (show monE y m = 0 by simp [monE, ht])
    have H4 := hide (And.intro hdE hdV)
    clear hdE hdV hd
    go_enter Try.func124, Try.ntmps124
    go_wp2_with fail
    refine (length_any _ _ _).mono ?_
    rintro e w1 ⟨rfl, hb1⟩
    rw [hl]
    go_wp2_with fail
    refine (day_any _ _ _ _).mono ?_
    rintro e w2 ⟨rfl, hb2⟩
    rw [H4.out.1, H4.out.2]
    go_wp2
    go_ret2
    exact ⟨ret_int2 H1.out.symm H2.out.symm, hb1.trans (hb2.mono hb1.size)⟩

/-- The rule of a calendar, as a value. -/
def ruleV (k m d : Int) : Value :=
  if k = 1 ∨ k = 4 then .iface 95 (.agg #[.int .i64 m, .int .i64 d]) else if k = 6 then .iface 96 (.int .i64 m) else .iface 97 (.agg #[.int .i64 m, .int .i64 d])
set_option maxHeartbeats 800000 in
theorem rule_any (c : Cal) (w : World) :
    Calls Try.prog 54 #[calV c] w fun e w' => e = .returned (ruleV c.kind c.month c.day) ∧ Below w.heap.size w w' := by
  simp only [calV]
  go_enter Try.func54, Try.ntmps54
  go_wp2
  all_goals
    go_ret
    refine ⟨?_, by (repeat' (first | (with_reducible exact Below.refl _ _) | (with_reducible assumption) | (with_reducible refine Below.alloc ?_ ?_ _) | (with_reducible refine below_drewN ?_ _) | (with_reducible refine Below.drew ?_) | (with_reducible refine Below.setCell ?_ ?_ _) | (with_reducible refine Below.trans ?_ (Below.mono (by assumption) ?_)) | go_size | (simp at *; omega)))⟩
    simp_all [ruleV]

/-- Why a year, from one on, is not told. -/
def askE (c : Cal) (y a : Int) : Int := if c.okB then (if a ≤ y ∧ y ≤ 9997 then 0 else 11) else 1
set_option maxHeartbeats 800000 in
theorem asked_any (c : Cal) (y a : Int) (w : World) (hn : c.name.size ≤ 1000) :
    Calls Try.prog 53 #[calV c, .int .i64 y, .int .i64 a] w fun e w' => e = .returned (.int .i64 (askE c y a)) ∧ Below w.heap.size w w' := by
  simp only [calV]
  cases hk : c.okB
  · have hE : okE c = 1 := by simp [okE, hk]
    have H1 := hide (show askE c y a = 1 by simp [askE, hk])
    go_enter Try.func53, Try.ntmps53
    go_wp2_with fail
    refine (check_any c _ hn).mono ?_
    rintro e w1 ⟨rfl, hb1⟩
    rw [hE]
    go_wp2
    go_ret
    exact ⟨ret_int H1.out.symm, ((Below.refl _ _).alloc (Nat.le_refl _) _).trans (hb1.mono (by simp))⟩
  · have hE : okE c = 0 := by simp [okE, hk]
    go_enter Try.func53, Try.ntmps53
    go_wp2_with fail
    refine (check_any c _ hn).mono ?_
    rintro e w1 ⟨rfl, hb1⟩
    rw [hE]
    go_wp2
    all_goals
      go_ret
      refine ⟨ret_int ?_, ((Below.refl _ _).alloc (Nat.le_refl _) _).trans (hb1.mono (by simp))⟩
      clear hb1
      simp only [askE, hk]
      grind
end Go.Proofs.Ytojdngkleiokgaa
