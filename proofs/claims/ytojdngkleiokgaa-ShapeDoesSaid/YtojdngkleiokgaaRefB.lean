/- Contracts of the references: days (layer 5). -/
import Derived.Test.YtojdngkleiokgaaCivilC
namespace Go.Proofs.Ytojdngkleiokgaa
open Go.RowKit Qd
set_option linter.unusedSimpArgs false
set_option linter.unusedVariables false

set_option maxHeartbeats 800000 in
theorem rleap_any (y : Int) (w : World) :
    Calls Try.prog 66 #[.int .i64 y] w fun e w' => e = .returned (.bool (leapB y)) ∧ w = w' := by
  by_cases hy : 1600 ≤ y ∧ y ≤ 9999
  · have e4 : y.tmod 4 = y % 4 := Int.tmod_eq_emod_of_nonneg (by omega)
    have e100 : y.tmod 100 = y % 100 := Int.tmod_eq_emod_of_nonneg (by omega)
    have e400 : y.tmod 400 = y % 400 := Int.tmod_eq_emod_of_nonneg (by omega)
    have H := hide (show leapB y = (decide (y % 400 = 0) || (decide (y % 4 = 0) && decide (y % 100 ≠ 0))) by simp [leapB, hy.1, hy.2])
    go_enter Try.func66, Try.ntmps66
    go_wp2
    all_goals first
      | (exfalso; omega)
      | (go_ret; refine ⟨ret_bool ?_, rfl⟩; rw [H.out]; simp; omega)
      | (go_ret; refine ⟨ret_bool ?_, rfl⟩; rw [H.out]; grind)
  · have H := hide (show leapB y = false by simp [leapB]; omega)
    rcases (show y < 1600 ∨ (1600 ≤ y ∧ 9999 < y) by omega) with h | ⟨h, h2⟩
    all_goals
      go_enter Try.func66, Try.ntmps66
      go_wp2
      all_goals first
        | (exfalso; omega)
        | (go_ret; exact ⟨ret_bool H.out.symm, rfl⟩)

theorem len_4 (y m : Int) (h : thereB y m = true) (hm : m = 4 ∨ m = 6 ∨ m = 9 ∨ m = 11) : lenV y m = 30 := by
  simp only [lenV, h, if_true, aheadV, tabV]
  rcases hm with rfl | rfl | rfl | rfl <;> simp <;> split <;> omega
theorem len_2 (y : Int) (h : thereB y 2 = true) : lenV y 2 = 28 + if leapB y = true then 1 else 0 := by
  simp only [lenV, h, if_true, aheadV, tabV]
  cases leapB y <;> simp
theorem len_31 (y m : Int) (h : thereB y m = true) (hm : ¬ (m = 4 ∨ m = 6 ∨ m = 9 ∨ m = 11) ∧ ¬ m = 2) : lenV y m = 31 := by
  have hm2 : m = 1 ∨ m = 3 ∨ m = 5 ∨ m = 7 ∨ m = 8 ∨ m = 10 ∨ m = 12 := by simp [thereB] at h; omega
  simp only [lenV, h, if_true, aheadV, tabV]
  rcases hm2 with rfl | rfl | rfl | rfl | rfl | rfl | rfl <;> simp <;> split <;> omega

set_option maxHeartbeats 1600000 in
theorem rlength_any (y m : Int) (w : World) :
    Calls Try.prog 40 #[.int .i64 y, .int .i64 m] w fun e w' => e = .returned (.tuple #[.int .i64 (lenV y m), .int .i64 (lenE y m)]) ∧ w = w' := by
  by_cases hy : 1600 ≤ y ∧ y ≤ 9999 ∧ 1 ≤ m ∧ m ≤ 12
  · have ht : thereB y m = true := by simp [thereB]; omega
    have HE := hide (show lenE y m = 0 by simp [lenE, ht])
    obtain ⟨hy1, hy2, hy3, hy4⟩ := hy
    by_cases h4 : m = 4 ∨ m = 6 ∨ m = 9 ∨ m = 11
    · have HV := hide (len_4 y m ht h4)
      clear ht
      rcases h4 with rfl | rfl | rfl | rfl
      all_goals
        go_enter Try.func40, Try.ntmps40
        go_wp2_with fail
        all_goals first
          | (exfalso; omega)
          | (go_ret2; exact ⟨ret_int2 HV.out.symm HE.out.symm, rfl⟩)
    · by_cases h2 : m = 2
      · subst h2
        have HV := hide (len_2 y ht)
        clear ht
        cases hl : leapB y
        all_goals
          rw [hl] at HV
          go_enter Try.func40, Try.ntmps40
          go_wp2_with (first | (go_at_call 66; refine (rleap_any _ _).mono ?_; rintro e w' ⟨rfl, rfl⟩; rw [hl]))
          all_goals first
            | (exfalso; omega)
            | (go_ret2; exact ⟨ret_int2 (by rw [HV.out]; simp) HE.out.symm, rfl⟩)
      · have HV := hide (len_31 y m ht ⟨h4, h2⟩)
        clear ht
        have n1 : (m == 4) = false := by simp; omega
        have n2 : (m == 6) = false := by simp; omega
        have n3 : (m == 9) = false := by simp; omega
        have n4 : (m == 11) = false := by simp; omega
        have n5 : (m == 2) = false := by simp; omega
        clear h4 h2
        go_enter Try.func40, Try.ntmps40
        go_wp2_with fail
        all_goals first
          | (exfalso; omega)
          | (go_ret2; exact ⟨ret_int2 HV.out.symm HE.out.symm, rfl⟩)
  · have HV := hide (show lenV y m = 0 by simp [lenV, thereB]; omega)
    have HE := hide (show lenE y m = 4 by simp [lenE, thereB]; omega)
    rcases (show y < 1600 ∨ (1600 ≤ y ∧ 9999 < y) ∨ (1600 ≤ y ∧ y ≤ 9999 ∧ m < 1) ∨ (1600 ≤ y ∧ y ≤ 9999 ∧ 1 ≤ m ∧ 12 < m) by omega) with h | ⟨h, h2⟩ | ⟨h, h2, h3⟩ | ⟨h, h2, h3, h4⟩
    all_goals
      go_enter Try.func40, Try.ntmps40
      go_wp2_with fail
      all_goals first
        | (exfalso; omega)
        | (go_ret2; exact ⟨ret_int2 HV.out.symm HE.out.symm, rfl⟩)

set_option maxHeartbeats 800000 in
theorem rdcheck_any (y m d : Int) (w : World) :
    Calls Try.prog 83 #[.agg #[.int .i64 y, .int .i64 m, .int .i64 d]] w fun e w' => e = .returned (.int .i64 (dateE y m d)) ∧ Below w.heap.size w w' := by
  cases ht : thereB y m
  · have hl : lenE y m = 4 := by simp [lenE, ht]
    have H2 : Hid (dateE y m d = 4) := by simp [Hid, dateE, dateB, ht]
    go_enter Try.func83, Try.ntmps83
    go_wp2_with fail
    refine (rlength_any _ _ _).mono ?_
    rintro e w1 ⟨rfl, rfl⟩
    rw [hl]
    go_wp2
    all_goals first | (exfalso; omega) | (go_ret; exact ⟨ret_int H2.out.symm, by (repeat' (first | (with_reducible exact Below.refl _ _) | (with_reducible assumption) | (with_reducible refine Below.alloc ?_ ?_ _) | (with_reducible refine below_drewN ?_ _) | (with_reducible refine Below.drew ?_) | (with_reducible refine Below.setCell ?_ ?_ _) | (with_reducible refine Below.trans ?_ (Below.mono (by assumption) ?_)) | go_size | (simp at *; omega)))⟩)
  · have hl : lenE y m = 0 := by simp [lenE, ht]
    have hr : d < 1 ∨ (1 ≤ d ∧ lenV y m < d) ∨ (1 ≤ d ∧ d ≤ lenV y m) := by omega
    have hd : dateE y m d = if 1 ≤ d ∧ d ≤ lenV y m then 0 else 4 := by simp [dateE, dateB, ht]
    have HD := hide hd
    clear hd
    obtain ⟨v, hv⟩ : ∃ v, dateE y m d = v := ⟨_, rfl⟩
    have HV := hide hv
    rcases hr with hr | ⟨hr, hr2⟩ | ⟨hr, hr2⟩
    · have h4 : v = 4 := by rw [← hv, HD.out, if_neg (by omega)]
      subst h4
      clear hv
      go_enter Try.func83, Try.ntmps83
      go_wp2_with fail
      refine (rlength_any _ _ _).mono ?_
      rintro e w1 ⟨rfl, rfl⟩
      rw [hl]
      go_wp2
      all_goals first
        | (exfalso; omega)
        | (go_ret; exact ⟨ret_int HV.out.symm, by (repeat' (first | (with_reducible exact Below.refl _ _) | (with_reducible assumption) | (with_reducible refine Below.alloc ?_ ?_ _) | (with_reducible refine below_drewN ?_ _) | (with_reducible refine Below.drew ?_) | (with_reducible refine Below.setCell ?_ ?_ _) | (with_reducible refine Below.trans ?_ (Below.mono (by assumption) ?_)) | go_size | (simp at *; omega)))⟩)
    · have h4 : v = 4 := by rw [← hv, HD.out, if_neg (by omega)]
      subst h4
      clear hv
      go_enter Try.func83, Try.ntmps83
      go_wp2_with fail
      refine (rlength_any _ _ _).mono ?_
      rintro e w1 ⟨rfl, rfl⟩
      rw [hl]
      go_wp2
      all_goals first
        | (exfalso; omega)
        | (go_ret; exact ⟨ret_int HV.out.symm, by (repeat' (first | (with_reducible exact Below.refl _ _) | (with_reducible assumption) | (with_reducible refine Below.alloc ?_ ?_ _) | (with_reducible refine below_drewN ?_ _) | (with_reducible refine Below.drew ?_) | (with_reducible refine Below.setCell ?_ ?_ _) | (with_reducible refine Below.trans ?_ (Below.mono (by assumption) ?_)) | go_size | (simp at *; omega)))⟩)
    · have h4 : v = 0 := by rw [← hv, HD.out, if_pos ⟨hr, hr2⟩]
      subst h4
      clear hv
      go_enter Try.func83, Try.ntmps83
      go_wp2_with fail
      refine (rlength_any _ _ _).mono ?_
      rintro e w1 ⟨rfl, rfl⟩
      rw [hl]
      go_wp2
      all_goals first
        | (exfalso; omega)
        | (go_ret; exact ⟨ret_int HV.out.symm, by (repeat' (first | (with_reducible exact Below.refl _ _) | (with_reducible assumption) | (with_reducible refine Below.alloc ?_ ?_ _) | (with_reducible refine below_drewN ?_ _) | (with_reducible refine Below.drew ?_) | (with_reducible refine Below.setCell ?_ ?_ _) | (with_reducible refine Below.trans ?_ (Below.mono (by assumption) ?_)) | go_size | (simp at *; omega)))⟩)

def longV (y : Int) : Int := if leapB y = true then 366 else 365
set_option maxHeartbeats 400000 in
theorem rlong_any (y : Int) (w : World) :
    Calls Try.prog 65 #[.int .i64 y] w fun e w' => e = .returned (.int .i64 (longV y)) ∧ w = w' := by
  cases hl : leapB y
  all_goals
    have H := hide (show longV y = if leapB y = true then 366 else 365 from rfl)
    rw [hl] at H
    go_enter Try.func65, Try.ntmps65
    go_wp2_with (first | (go_at_call 66; refine (rleap_any _ _).mono ?_; rintro e w' ⟨rfl, rfl⟩; rw [hl]))
    go_ret
    exact ⟨ret_int (by rw [H.out]; rfl), rfl⟩
theorem years_long (y : Int) (h1 : 1600 ≤ y) (h2 : y ≤ 9999) : yearsV (y + 1) = yearsV y + longV y := by
  rw [years_succ y h1 h2, longV]; split <;> omega
theorem years_400 (y : Int) (h1 : 1600 ≤ y) (h2 : (y - 1600) % 400 = 0) : yearsV (y + 400) = yearsV y + 146097 := by
  unfold yearsV; omega
theorem long_bd (y : Int) : 365 ≤ longV y ∧ longV y ≤ 366 := by unfold longV; split <;> omega
theorem wd_tab (day : Int) (h : 0 ≤ day) : ([.int .i64 6, .int .i64 7, .int .i64 1, .int .i64 2, .int .i64 3, .int .i64 4, .int .i64 5] : List Value)[(day % 7).toNat]? = some (.int .i64 ((day + 5) % 7 + 1)) := by
  have h7 : day % 7 = 0 ∨ day % 7 = 1 ∨ day % 7 = 2 ∨ day % 7 = 3 ∨ day % 7 = 4 ∨ day % 7 = 5 ∨ day % 7 = 6 := by omega
  rcases h7 with h7 | h7 | h7 | h7 | h7 | h7 | h7 <;> rw [h7] <;> simp <;> omega
end Go.Proofs.Ytojdngkleiokgaa
