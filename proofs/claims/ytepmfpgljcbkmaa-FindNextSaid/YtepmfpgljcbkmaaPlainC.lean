/- Plain words on the civil calendar: no program in sight. -/
set_option linter.unusedSimpArgs false
set_option linter.unusedVariables false
namespace Qd
def thereB (y m : Int) : Bool := decide (1600 ≤ y ∧ y ≤ 9999 ∧ 1 ≤ m ∧ m ≤ 12)
def leapB (y : Int) : Bool := decide (1600 ≤ y ∧ y ≤ 9999) && (decide (y % 400 = 0) || (decide (y % 4 = 0) && decide (y % 100 ≠ 0)))
def tabV (m : Int) : Int :=
  if m = 1 then 0 else if m = 2 then 31 else if m = 3 then 59 else if m = 4 then 90 else if m = 5 then 120 else if m = 6 then 151 else if m = 7 then 181 else
  if m = 8 then 212 else if m = 9 then 243 else if m = 10 then 273 else if m = 11 then 304 else if m = 12 then 334 else 365
def aheadV (y m : Int) : Int := tabV m + if 2 < m ∧ leapB y = true then 1 else 0
def lenV (y m : Int) : Int := if thereB y m then aheadV y (m + 1) - aheadV y m else 0
def lenE (y m : Int) : Int := if thereB y m then 0 else 4
/-- There is such a day. -/
def dateB (y m d : Int) : Bool := thereB y m && decide (1 ≤ d ∧ d ≤ lenV y m)
def dateE (y m d : Int) : Int := if dateB y m d then 0 else 4
def yearsV (y : Int) : Int := (y - 1600) * 365 + ((y - 1600 + 3) / 4 - (y - 1600 + 99) / 100 + (y - 1600 + 399) / 400)
def dayN (y m d : Int) : Int := yearsV y + aheadV y m + d - 1
def dayV (y m d : Int) : Int := if dateB y m d then dayN y m d else 0
def isB (day : Int) : Bool := decide (0 ≤ day ∧ day < 3068037)
def isE (day : Int) : Int := if isB day then 0 else 4
/-- The first guess at a day's year. -/
def guess (day : Int) : Int := min (1600 + day / 146097 * 400 + day % 146097 / 36524 * 100 + day % 146097 % 36524 / 1461 * 4 + day % 146097 % 36524 % 1461 / 365) 9999
def ofY (day : Int) : Int := if day < yearsV (guess day) then guess day - 1 else guess day
/-- The last month, from one on down, that is not behind. -/
def mDown (y left : Int) : Nat → Int
  | 0 => 1
  | k + 1 => if aheadV y (k + 1) ≤ left then k + 1 else mDown y left k
def ofM (day : Int) : Int := mDown (ofY day) (day - yearsV (ofY day)) 12
def ofD (day : Int) : Int := day - yearsV (ofY day) - aheadV (ofY day) (ofM day) + 1

theorem tab_bd (m : Int) : 0 ≤ tabV m ∧ tabV m ≤ 365 := by
  unfold tabV
  repeat' split
  all_goals omega
theorem ahead_bd (y m : Int) : 0 ≤ aheadV y m ∧ aheadV y m ≤ 366 := by
  have := tab_bd m
  unfold aheadV
  split <;> omega
theorem len_bd (y m : Int) : 0 ≤ lenV y m ∧ lenV y m ≤ 31 := by
  unfold lenV
  split
  · rename_i h
    have hm : 1 ≤ m ∧ m ≤ 12 := by simp [thereB] at h; omega
    have h12 : m = 1 ∨ m = 2 ∨ m = 3 ∨ m = 4 ∨ m = 5 ∨ m = 6 ∨ m = 7 ∨ m = 8 ∨ m = 9 ∨ m = 10 ∨ m = 11 ∨ m = 12 := by omega
    rcases h12 with rfl | rfl | rfl | rfl | rfl | rfl | rfl | rfl | rfl | rfl | rfl | rfl <;> (simp [aheadV, tabV]; try (split <;> omega))
  · omega
theorem len_lo (y m : Int) (h : thereB y m = true) : 28 ≤ lenV y m := by
  unfold lenV
  rw [if_pos h]
  have hm : 1 ≤ m ∧ m ≤ 12 := by simp [thereB] at h; omega
  have h12 : m = 1 ∨ m = 2 ∨ m = 3 ∨ m = 4 ∨ m = 5 ∨ m = 6 ∨ m = 7 ∨ m = 8 ∨ m = 9 ∨ m = 10 ∨ m = 11 ∨ m = 12 := by omega
  rcases h12 with rfl | rfl | rfl | rfl | rfl | rfl | rfl | rfl | rfl | rfl | rfl | rfl <;> (simp [aheadV, tabV]; try (split <;> omega))
theorem ahead_1 (y : Int) : aheadV y 1 = 0 := by simp [aheadV, tabV]
theorem ahead_13 (y : Int) : aheadV y 13 = 365 + if leapB y = true then 1 else 0 := by simp [aheadV, tabV]
theorem ahead_mono (y m : Int) (h1 : 1 ≤ m) (h2 : m ≤ 12) : aheadV y m + 28 ≤ aheadV y (m + 1) := by
  have h12 : m = 1 ∨ m = 2 ∨ m = 3 ∨ m = 4 ∨ m = 5 ∨ m = 6 ∨ m = 7 ∨ m = 8 ∨ m = 9 ∨ m = 10 ∨ m = 11 ∨ m = 12 := by omega
  rcases h12 with rfl | rfl | rfl | rfl | rfl | rfl | rfl | rfl | rfl | rfl | rfl | rfl <;> (simp [aheadV, tabV]; try (split <;> omega))
/-- Each year has 365 days, or 366. -/
theorem years_succ (y : Int) (h1 : 1600 ≤ y) (h2 : y ≤ 9999) : yearsV (y + 1) = yearsV y + 365 + if leapB y = true then 1 else 0 := by
  unfold yearsV leapB
  have e : (decide (1600 ≤ y ∧ y ≤ 9999)) = true := by simp [h1, h2]
  rw [e]
  simp only [Bool.true_and, Bool.or_eq_true, Bool.and_eq_true, decide_eq_true_eq]
  split <;> omega
theorem years_bd (y : Int) (h1 : 1600 ≤ y) (h2 : y ≤ 10000) : 0 ≤ yearsV y ∧ yearsV y ≤ 3068037 := by
  unfold yearsV
  omega
theorem years_1600 : yearsV 1600 = 0 := by decide
theorem years_end : yearsV 10000 = 3068037 := by decide
theorem years_mono (a b : Int) (h0 : 1600 ≤ a) (h : a ≤ b) : yearsV a ≤ yearsV b := by unfold yearsV; omega
theorem years_lt (a b : Int) (h0 : 1600 ≤ a) (h : a < b) : yearsV a + 365 ≤ yearsV b := by unfold yearsV; omega
end Qd
