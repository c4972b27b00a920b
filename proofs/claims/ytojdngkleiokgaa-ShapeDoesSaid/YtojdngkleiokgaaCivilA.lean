/- Contracts of civil. -/
import Derived.Test.YtojdngkleiokgaaBase
import Derived.Test.YtojdngkleiokgaaPlainA
namespace Go.Proofs.Ytojdngkleiokgaa
open Go.RowKit Qd
set_option linter.unusedSimpArgs false
set_option linter.unusedVariables false

set_option maxHeartbeats 400000 in
theorem there_any (y m : Int) (w : World) :
    Calls Try.prog 81 #[.int .i64 y, .int .i64 m] w fun e w' => e = .returned (.bool (thereB y m)) ∧ w = w' := by
  go_enter Try.func81, Try.ntmps81
  go_wp2
  all_goals (go_ret; refine ⟨ret_bool ?_, rfl⟩; simp_all [thereB]; try omega)

set_option maxHeartbeats 400000 in
theorem leap_any (y : Int) (w : World) :
    Calls Try.prog 100 #[.int .i64 y] w fun e w' => e = .returned (.bool (leapB y)) ∧ w = w' := by
  cases ht : thereB y 1
  · go_enter Try.func100, Try.ntmps100
    go_wp2_with (first | (go_at_call 81; refine (there_any _ _ _).mono ?_; rintro e w' ⟨rfl, rfl⟩))
    all_goals (go_ret; refine ⟨ret_bool ?_, rfl⟩; simp_all [thereB, leapB]; try omega)
  · have hy : 1600 ≤ y ∧ y ≤ 9999 := by simpa [thereB] using ht
    go_enter Try.func100, Try.ntmps100
    go_wp2_with (first | (go_at_call 81; refine (there_any _ _ _).mono ?_; rintro e w' ⟨rfl, rfl⟩))
    all_goals (go_ret; refine ⟨ret_bool ?_, rfl⟩; simp_all [thereB, leapB]; try rfl)

theorem tab_cell (m : Int) (h1 : 1 ≤ m) (h2 : m ≤ 13) : ([.int .i64 0, .int .i64 31, .int .i64 59, .int .i64 90, .int .i64 120, .int .i64 151, .int .i64 181, .int .i64 212, .int .i64 243, .int .i64 273, .int .i64 304, .int .i64 334, .int .i64 365] : List Value)[m.toNat - 1]? = some (.int .i64 (tabV m)) := by
  have h13 : m = 1 ∨ m = 2 ∨ m = 3 ∨ m = 4 ∨ m = 5 ∨ m = 6 ∨ m = 7 ∨ m = 8 ∨ m = 9 ∨ m = 10 ∨ m = 11 ∨ m = 12 ∨ m = 13 := by omega
  rcases h13 with rfl | rfl | rfl | rfl | rfl | rfl | rfl | rfl | rfl | rfl | rfl | rfl | rfl <;> simp [tabV]

set_option maxHeartbeats 400000 in
theorem ahead_any (y m : Int) (w : World) (h1 : 1 ≤ m) (h2 : m ≤ 13) :
    Calls Try.prog 80 #[.int .i64 y, .int .i64 m] w fun e w' => e = .returned (.int .i64 (aheadV y m)) ∧ Below w.heap.size w w' := by
  have hc := tab_cell m h1 h2
  have hb := tab_bd m
  have HA := hide (show aheadV y m = tabV m + if 2 < m ∧ leapB y = true then 1 else 0 from rfl)
  go_enter Try.func80, Try.ntmps80
  go_wp2_with (first | (go_at_call 100; refine (leap_any _ _).mono ?_; rintro e w' ⟨rfl, rfl⟩))
  all_goals (go_ret; refine ⟨ret_int ?_, by (repeat' (first | (with_reducible exact Below.refl _ _) | (with_reducible assumption) | (with_reducible refine Below.alloc ?_ ?_ _) | (with_reducible refine below_drewN ?_ _) | (with_reducible refine Below.drew ?_) | (with_reducible refine Below.setCell ?_ ?_ _) | (with_reducible refine Below.trans ?_ (Below.mono (by assumption) ?_)) | go_size | (simp at *; omega)))⟩; rw [HA.out]; clear hc; grind)

set_option maxHeartbeats 400000 in
theorem length_any (y m : Int) (w : World) :
    Calls Try.prog 59 #[.int .i64 y, .int .i64 m] w fun e w' => e = .returned (.tuple #[.int .i64 (lenV y m), .int .i64 (lenE y m)]) ∧ Below w.heap.size w w' := by
  cases ht : thereB y m
  · have H1 : Hid (lenV y m = 0) := by simp [Hid, lenV, ht]
    have H2 : Hid (lenE y m = 4) := by simp [Hid, lenE, ht]
    go_enter Try.func59, Try.ntmps59
    go_wp2_with (first | (go_at_call 81; refine (there_any _ _ _).mono ?_; rintro e w' ⟨rfl, rfl⟩))
    all_goals (go_ret2; refine ⟨ret_int2 H1.out.symm H2.out.symm, Below.refl _ _⟩)
  · have hm : 1 ≤ m ∧ m ≤ 12 := by simp [thereB] at ht; omega
    have H1 : Hid (lenV y m = aheadV y (m + 1) - aheadV y m) := by simp [Hid, lenV, ht]
    have H2 : Hid (lenE y m = 0) := by simp [Hid, lenE, ht]
    have hb1 := ahead_bd y m
    have hb2 := ahead_bd y (m + 1)
    go_enter Try.func59, Try.ntmps59
    go_wp2_with (first | (go_at_call 81; refine (there_any _ _ _).mono ?_; rintro e w' ⟨rfl, rfl⟩))
    refine (ahead_any _ _ _ (by omega) (by omega)).mono ?_
    rintro e w1 ⟨rfl, hB1⟩
    go_wp2_with fail
    refine (ahead_any _ _ _ (by omega) (by omega)).mono ?_
    rintro e w2 ⟨rfl, hB2⟩
    go_wp2
    go_ret2
    exact ⟨ret_int2 H1.out.symm H2.out.symm, hB1.trans (hB2.mono hB1.size)⟩

set_option maxHeartbeats 400000 in
theorem years_any (y : Int) (w : World) (h1 : 1600 ≤ y) (h2 : y ≤ 10000) :
    Calls Try.prog 79 #[.int .i64 y] w fun e w' => e = .returned (.int .i64 (yearsV y)) ∧ w = w' := by
  have H := hide (show yearsV y = (y - 1600) * 365 + ((y - 1600 + 3) / 4 - (y - 1600 + 99) / 100 + (y - 1600 + 399) / 400) from rfl)
  go_enter Try.func79, Try.ntmps79
  go_wp2
  go_ret
  exact ⟨ret_int H.out.symm, rfl⟩

set_option maxHeartbeats 400000 in
theorem is_any (day : Int) (w : World) :
    Calls Try.prog 78 #[.int .i64 day] w fun e w' => e = .returned (.bool (isB day)) ∧ w = w' := by
  go_enter Try.func78, Try.ntmps78
  go_wp2
  all_goals (go_ret; refine ⟨ret_bool ?_, rfl⟩; simp_all [isB]; try omega)

def wdV (day : Int) : Int := if isB day then (day + 5) % 7 + 1 else 0
set_option maxHeartbeats 400000 in
theorem weekday_any (day : Int) (w : World) :
    Calls Try.prog 99 #[.int .i64 day] w fun e w' => e = .returned (.tuple #[.int .i64 (wdV day), .int .i64 (isE day)]) ∧ w = w' := by
  cases ht : isB day
  · have H2 : Hid (isE day = 4) := by simp [Hid, isE, ht]
    have H1 : Hid (wdV day = 0) := by simp [Hid, wdV, ht]
    go_enter Try.func99, Try.ntmps99
    go_wp2_with (first | (go_at_call 78; refine (is_any _ _).mono ?_; rintro e w' ⟨rfl, rfl⟩))
    go_ret2
    exact ⟨ret_int2 H1.out.symm H2.out.symm, rfl⟩
  · have H2 : Hid (isE day = 0) := by simp [Hid, isE, ht]
    have H1 : Hid (wdV day = (day + 5) % 7 + 1) := by simp [Hid, wdV, ht]
    have hd : 0 ≤ day ∧ day < 3068037 := by simpa [isB] using ht
    go_enter Try.func99, Try.ntmps99
    go_wp2_with (first | (go_at_call 78; refine (is_any _ _).mono ?_; rintro e w' ⟨rfl, rfl⟩))
    go_ret2
    exact ⟨ret_int2 H1.out.symm H2.out.symm, rfl⟩

def addB (day n : Int) : Bool := isB day && decide (-day ≤ n) && decide (n < 3068037 - day)
def addV (day n : Int) : Int := if addB day n then day + n else 0
def addE (day n : Int) : Int := if addB day n then 0 else 4
set_option maxHeartbeats 400000 in
theorem add_any (day n : Int) (w : World) :
    Calls Try.prog 127 #[.int .i64 day, .int .i64 n] w fun e w' => e = .returned (.tuple #[.int .i64 (addV day n), .int .i64 (addE day n)]) ∧ w = w' := by
  cases ht : isB day
  · have H2 : Hid (addB day n = false) := by simp [Hid, addB, ht]
    go_enter Try.func127, Try.ntmps127
    go_wp2_with (first | (go_at_call 78; refine (is_any _ _).mono ?_; rintro e w' ⟨rfl, rfl⟩))
    go_ret2
    exact ⟨ret_int2 (by unfold addV; rw [H2.out]; rfl) (by unfold addE; rw [H2.out]; rfl), rfl⟩
  · have hd : 0 ≤ day ∧ day < 3068037 := by simpa [isB] using ht
    have h3 : n < -day ∨ 3068037 - day ≤ n ∨ (-day ≤ n ∧ n < 3068037 - day) := by omega
    rcases h3 with h3 | h3 | h3
    · have H2 : Hid (addB day n = false) := by simp [Hid, addB, ht]; omega
      go_enter Try.func127, Try.ntmps127
      go_wp2_with (first | (go_at_call 78; refine (is_any _ _).mono ?_; rintro e w' ⟨rfl, rfl⟩))
      all_goals first | (exfalso; omega) | (go_ret2; exact ⟨ret_int2 (by unfold addV; rw [H2.out]; rfl) (by unfold addE; rw [H2.out]; rfl), rfl⟩)
    · have H2 : Hid (addB day n = false) := by simp [Hid, addB, ht]; omega
      go_enter Try.func127, Try.ntmps127
      go_wp2_with (first | (go_at_call 78; refine (is_any _ _).mono ?_; rintro e w' ⟨rfl, rfl⟩))
      all_goals first | (exfalso; omega) | (go_ret2; exact ⟨ret_int2 (by unfold addV; rw [H2.out]; rfl) (by unfold addE; rw [H2.out]; rfl), rfl⟩)
    · have H2 : Hid (addB day n = true) := by simp [Hid, addB, ht]; omega
      go_enter Try.func127, Try.ntmps127
      go_wp2_with (first | (go_at_call 78; refine (is_any _ _).mono ?_; rintro e w' ⟨rfl, rfl⟩))
      all_goals first | (exfalso; omega) | (go_ret2; exact ⟨ret_int2 (by unfold addV; rw [H2.out]; rfl) (by unfold addE; rw [H2.out]; rfl), rfl⟩)
end Go.Proofs.Ytojdngkleiokgaa
