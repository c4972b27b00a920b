/- Contracts of civil. Contracts of civil: dates. Contracts of civil: a day's date. Contracts of week: end, Last, Near. -/
import Derived.Test.YtjhhmeoibfdcmaaGreatDoorBase
import Derived.Test.YtjhhmeoibfdcmaaGreatDoorPlainA
namespace Go.Proofs.YtjhhmeoibfdcmaaGreatDoor
open Go.RowKit Qd
set_option linter.unusedSimpArgs false
set_option linter.unusedVariables false

set_option maxHeartbeats 400000 in
theorem there_any (y m : Int) (w : World) :
    Calls Tryz.prog 117 #[.int .i64 y, .int .i64 m] w fun e w' => e = .returned (.bool (thereB y m)) ∧ w = w' := by
  go_enter Tryz.func117, Tryz.ntmps117
  go_wp2
  all_goals (go_ret; refine ⟨ret_bool ?_, rfl⟩; simp_all [thereB]; try omega)

set_option maxHeartbeats 400000 in
theorem leap_any (y : Int) (w : World) :
    Calls Tryz.prog 124 #[.int .i64 y] w fun e w' => e = .returned (.bool (leapB y)) ∧ w = w' := by
  cases ht : thereB y 1
  · go_enter Tryz.func124, Tryz.ntmps124
    go_wp2_with (first | (go_at_call 117; refine (there_any _ _ _).mono ?_; rintro e w' ⟨rfl, rfl⟩))
    all_goals (go_ret; refine ⟨ret_bool ?_, rfl⟩; simp_all [thereB, leapB]; try omega)
  · have hy : 1600 ≤ y ∧ y ≤ 9999 := by simpa [thereB] using ht
    go_enter Tryz.func124, Tryz.ntmps124
    go_wp2_with (first | (go_at_call 117; refine (there_any _ _ _).mono ?_; rintro e w' ⟨rfl, rfl⟩))
    all_goals (go_ret; refine ⟨ret_bool ?_, rfl⟩; simp_all [thereB, leapB]; try rfl)

theorem tab_cell (m : Int) (h1 : 1 ≤ m) (h2 : m ≤ 13) : ([.int .i64 0, .int .i64 31, .int .i64 59, .int .i64 90, .int .i64 120, .int .i64 151, .int .i64 181, .int .i64 212, .int .i64 243, .int .i64 273, .int .i64 304, .int .i64 334, .int .i64 365] : List Value)[m.toNat - 1]? = some (.int .i64 (tabV m)) := by
  have h13 : m = 1 ∨ m = 2 ∨ m = 3 ∨ m = 4 ∨ m = 5 ∨ m = 6 ∨ m = 7 ∨ m = 8 ∨ m = 9 ∨ m = 10 ∨ m = 11 ∨ m = 12 ∨ m = 13 := by omega
  rcases h13 with rfl | rfl | rfl | rfl | rfl | rfl | rfl | rfl | rfl | rfl | rfl | rfl | rfl <;> simp [tabV]

set_option maxHeartbeats 400000 in
theorem ahead_any (y m : Int) (w : World) (h1 : 1 ≤ m) (h2 : m ≤ 13) :
    Calls Tryz.prog 116 #[.int .i64 y, .int .i64 m] w fun e w' => e = .returned (.int .i64 (aheadV y m)) ∧ Below w.heap.size w w' := by
  have hc := tab_cell m h1 h2
  have hb := tab_bd m
  have HA := hide (show aheadV y m = tabV m + if 2 < m ∧ leapB y = true then 1 else 0 from rfl)
  go_enter Tryz.func116, Tryz.ntmps116
  go_wp2_with (first | (go_at_call 124; refine (leap_any _ _).mono ?_; rintro e w' ⟨rfl, rfl⟩))
  all_goals (go_ret; refine ⟨ret_int ?_, by (repeat' exact bel)⟩; rw [HA.out]; clear hc; grind)

set_option maxHeartbeats 400000 in
theorem length_any (y m : Int) (w : World) :
    Calls Tryz.prog 99 #[.int .i64 y, .int .i64 m] w fun e w' => e = .returned (.tuple #[.int .i64 (lenV y m), .int .i64 (lenE y m)]) ∧ Below w.heap.size w w' := by
  cases ht : thereB y m
  · have H1 : Hid (lenV y m = 0) := by simp [Hid, lenV, ht]
    have H2 : Hid (lenE y m = 4) := by simp [Hid, lenE, ht]
    go_enter Tryz.func99, Tryz.ntmps99
    go_wp2_with (first | (go_at_call 117; refine (there_any _ _ _).mono ?_; rintro e w' ⟨rfl, rfl⟩))
    all_goals (go_ret2; refine ⟨ret_int2 H1.out.symm H2.out.symm, Below.refl _ _⟩)
  · have hm : 1 ≤ m ∧ m ≤ 12 := by simp [thereB] at ht; omega
    have H1 : Hid (lenV y m = aheadV y (m + 1) - aheadV y m) := by simp [Hid, lenV, ht]
    have H2 : Hid (lenE y m = 0) := by simp [Hid, lenE, ht]
    have hb1 := ahead_bd y m
    have hb2 := ahead_bd y (m + 1)
    go_enter Tryz.func99, Tryz.ntmps99
    go_wp2_with (first | (go_at_call 117; refine (there_any _ _ _).mono ?_; rintro e w' ⟨rfl, rfl⟩))
    refine (ahead_any _ _ _ (by omega) (by omega)).mono ?_
    rintro e w1 ⟨rfl, hB1⟩
    go_wp2_with fail
    refine (ahead_any _ _ _ (by omega) (by omega)).mono ?_
    rintro e w2 ⟨rfl, hB2⟩
    go_wp2
    go_ret2
    exact ⟨ret_int2 H1.out.symm H2.out.symm, hB1.trans (hB2.mono hB1.size)⟩

set_option maxHeartbeats 400000 in
theorem years_any (y : Int) (w : World) (h1 : 1600 ≤ y) (h2 : y ≤ 10000) :
    Calls Tryz.prog 115 #[.int .i64 y] w fun e w' => e = .returned (.int .i64 (yearsV y)) ∧ w = w' := by
  have H := hide (show yearsV y = (y - 1600) * 365 + ((y - 1600 + 3) / 4 - (y - 1600 + 99) / 100 + (y - 1600 + 399) / 400) from rfl)
  go_enter Tryz.func115, Tryz.ntmps115
  go_wp2
  go_ret
  exact ⟨ret_int H.out.symm, rfl⟩

set_option maxHeartbeats 400000 in
theorem is_any (day : Int) (w : World) :
    Calls Tryz.prog 114 #[.int .i64 day] w fun e w' => e = .returned (.bool (isB day)) ∧ w = w' := by
  go_enter Tryz.func114, Tryz.ntmps114
  go_wp2
  all_goals (go_ret; refine ⟨ret_bool ?_, rfl⟩; simp_all [isB]; try omega)

def wdV (day : Int) : Int := if isB day then (day + 5) % 7 + 1 else 0
set_option maxHeartbeats 400000 in
theorem weekday_any (day : Int) (w : World) :
    Calls Tryz.prog 123 #[.int .i64 day] w fun e w' => e = .returned (.tuple #[.int .i64 (wdV day), .int .i64 (isE day)]) ∧ w = w' := by
  cases ht : isB day
  · have H2 : Hid (isE day = 4) := by simp [Hid, isE, ht]
    have H1 : Hid (wdV day = 0) := by simp [Hid, wdV, ht]
    go_enter Tryz.func123, Tryz.ntmps123
    go_wp2_with (first | (go_at_call 114; refine (is_any _ _).mono ?_; rintro e w' ⟨rfl, rfl⟩))
    go_ret2
    exact ⟨ret_int2 H1.out.symm H2.out.symm, rfl⟩
  · have H2 : Hid (isE day = 0) := by simp [Hid, isE, ht]
    have H1 : Hid (wdV day = (day + 5) % 7 + 1) := by simp [Hid, wdV, ht]
    have hd : 0 ≤ day ∧ day < 3068037 := by simpa [isB] using ht
    go_enter Tryz.func123, Tryz.ntmps123
    go_wp2_with (first | (go_at_call 114; refine (is_any _ _).mono ?_; rintro e w' ⟨rfl, rfl⟩))
    go_ret2
    exact ⟨ret_int2 H1.out.symm H2.out.symm, rfl⟩

def addB (day n : Int) : Bool := isB day && decide (-day ≤ n) && decide (n < 3068037 - day)
def addV (day n : Int) : Int := if addB day n then day + n else 0
def addE (day n : Int) : Int := if addB day n then 0 else 4
set_option maxHeartbeats 400000 in
theorem add_any (day n : Int) (w : World) :
    Calls Tryz.prog 145 #[.int .i64 day, .int .i64 n] w fun e w' => e = .returned (.tuple #[.int .i64 (addV day n), .int .i64 (addE day n)]) ∧ w = w' := by
  cases ht : isB day
  · have H2 : Hid (addB day n = false) := by simp [Hid, addB, ht]
    go_enter Tryz.func145, Tryz.ntmps145
    go_wp2_with (first | (go_at_call 114; refine (is_any _ _).mono ?_; rintro e w' ⟨rfl, rfl⟩))
    go_ret2
    exact ⟨ret_int2 (by unfold addV; rw [H2.out]; rfl) (by unfold addE; rw [H2.out]; rfl), rfl⟩
  · have hd : 0 ≤ day ∧ day < 3068037 := by simpa [isB] using ht
    have h3 : n < -day ∨ 3068037 - day ≤ n ∨ (-day ≤ n ∧ n < 3068037 - day) := by omega
    rcases h3 with h3 | h3 | h3
    · have H2 : Hid (addB day n = false) := by simp [Hid, addB, ht]; omega
      go_enter Tryz.func145, Tryz.ntmps145
      go_wp2_with (first | (go_at_call 114; refine (is_any _ _).mono ?_; rintro e w' ⟨rfl, rfl⟩))
      all_goals first | (exfalso; omega) | (go_ret2; exact ⟨ret_int2 (by unfold addV; rw [H2.out]; rfl) (by unfold addE; rw [H2.out]; rfl), rfl⟩)
    · have H2 : Hid (addB day n = false) := by simp [Hid, addB, ht]; omega
      go_enter Tryz.func145, Tryz.ntmps145
      go_wp2_with (first | (go_at_call 114; refine (is_any _ _).mono ?_; rintro e w' ⟨rfl, rfl⟩))
      all_goals first | (exfalso; omega) | (go_ret2; exact ⟨ret_int2 (by unfold addV; rw [H2.out]; rfl) (by unfold addE; rw [H2.out]; rfl), rfl⟩)
    · have H2 : Hid (addB day n = true) := by simp [Hid, addB, ht]; omega
      go_enter Tryz.func145, Tryz.ntmps145
      go_wp2_with (first | (go_at_call 114; refine (is_any _ _).mono ?_; rintro e w' ⟨rfl, rfl⟩))
      all_goals first | (exfalso; omega) | (go_ret2; exact ⟨ret_int2 (by unfold addV; rw [H2.out]; rfl) (by unfold addE; rw [H2.out]; rfl), rfl⟩)

set_option maxHeartbeats 400000 in
theorem dcheck_any (y m d : Int) (w : World) :
    Calls Tryz.prog 125 #[.agg #[.int .i64 y, .int .i64 m, .int .i64 d]] w fun e w' => e = .returned (.int .i64 (dateE y m d)) ∧ Below w.heap.size w w' := by
  cases ht : thereB y m
  · have hl : lenE y m = 4 := by simp [lenE, ht]
    have H2 : Hid (dateE y m d = 4) := by simp [Hid, dateE, dateB, ht]
    go_enter Tryz.func125, Tryz.ntmps125
    go_wp2_with fail
    refine (length_any _ _ _).mono ?_
    rintro e w1 ⟨rfl, hb1⟩
    obtain ⟨hc, hf⟩ := bcell hb1
    rw [hl]
    go_wp2
    all_goals (go_ret; refine ⟨ret_int H2.out.symm, ?_⟩; refine Below.trans ?_ (hb1.mono (by simp)); (repeat' exact bel))
  · have hl : lenE y m = 0 := by simp [lenE, ht]
    have hr : d < 1 ∨ lenV y m < d ∨ (1 ≤ d ∧ d ≤ lenV y m) := by omega
    rcases hr with hr | hr | ⟨hr, hr2⟩
    · have H2 : Hid (dateE y m d = 4) := by simp [Hid, dateE, dateB, ht]; omega
      go_enter Tryz.func125, Tryz.ntmps125
      go_wp2_with fail
      refine (length_any _ _ _).mono ?_
      rintro e w1 ⟨rfl, hb1⟩
      obtain ⟨hc, hf⟩ := bcell hb1
      rw [hl]
      go_wp2
      all_goals first | (exfalso; omega) | (go_ret; refine ⟨ret_int H2.out.symm, ?_⟩; refine Below.trans ?_ (hb1.mono (by simp)); (repeat' exact bel))
    · have H2 : Hid (dateE y m d = 4) := by simp [Hid, dateE, dateB, ht]; omega
      go_enter Tryz.func125, Tryz.ntmps125
      go_wp2_with fail
      refine (length_any _ _ _).mono ?_
      rintro e w1 ⟨rfl, hb1⟩
      obtain ⟨hc, hf⟩ := bcell hb1
      rw [hl]
      go_wp2
      all_goals first | (exfalso; omega) | (go_ret; refine ⟨ret_int H2.out.symm, ?_⟩; refine Below.trans ?_ (hb1.mono (by simp)); (repeat' exact bel))
    · have H2 : Hid (dateE y m d = 0) := by simp [Hid, dateE, dateB, ht]; omega
      go_enter Tryz.func125, Tryz.ntmps125
      go_wp2_with fail
      refine (length_any _ _ _).mono ?_
      rintro e w1 ⟨rfl, hb1⟩
      obtain ⟨hc, hf⟩ := bcell hb1
      rw [hl]
      go_wp2
      all_goals first | (exfalso; omega) | (go_ret; refine ⟨ret_int H2.out.symm, ?_⟩; refine Below.trans ?_ (hb1.mono (by simp)); (repeat' exact bel))

set_option maxHeartbeats 800000 in
theorem day_any (y m d : Int) (w : World) :
    Calls Tryz.prog 122 #[.agg #[.int .i64 y, .int .i64 m, .int .i64 d]] w fun e w' => e = .returned (.tuple #[.int .i64 (dayV y m d), .int .i64 (dateE y m d)]) ∧ Below w.heap.size w w' := by
  cases hd : dateB y m d
  · have hl : dateE y m d = 4 := by simp [dateE, hd]
    have H1 : Hid (dayV y m d = 0) := by simp [Hid, dayV, hd]
    have H2 := hide hl
    go_enter Tryz.func122, Tryz.ntmps122
    go_wp2_with fail
    refine (dcheck_any _ _ _ _).mono ?_
    rintro e w1 ⟨rfl, hb1⟩
    rw [hl]
    clear hl
    go_wp2
    all_goals (go_ret2; refine ⟨ret_int2 H1.out.symm H2.out.symm, ?_⟩; refine Below.trans ?_ (hb1.mono (by simp)); (repeat' exact bel))
  · have hl : dateE y m d = 0 := by simp [dateE, hd]
    have H1 : Hid (dayV y m d = yearsV y + aheadV y m + d - 1) := by simp [Hid, dayV, hd, dayN]
    have H2 := hide hl
    have hd' := hd
    simp only [dateB, Bool.and_eq_true, decide_eq_true_eq] at hd'
    obtain ⟨ht, hd1, hd2⟩ := hd'
    have hlb := len_bd y m
    have ht2 : 1600 ≤ y ∧ y ≤ 9999 ∧ 1 ≤ m ∧ m ≤ 12 := by simpa [thereB] using ht
    have hy := years_bd y (by omega) (by omega)
    have ha := ahead_bd y m
    clear hd ht
    go_enter Tryz.func122, Tryz.ntmps122
    go_wp2_with fail
    refine (dcheck_any _ _ _ _).mono ?_
    rintro e w1 ⟨rfl, hb1⟩
    obtain ⟨hc, hf⟩ := bcell hb1
    rw [hl]
    clear hl
    have hz1 : w.heap.size < w1.heap.size := by have := hb1.size; simp at this; omega
    have hB1 : Below w.heap.size w w1 := by
      refine Below.trans ?_ (hb1.mono (by simp))
      (repeat' exact bel)
    clear hb1
    have q0 : w1.cell? ⟨w.heap.size, 0, none⟩ = some (.int .i64 y) := by rw [hc _ _ (by simp)]; simp
    have q1 : w1.cell? ⟨w.heap.size, 1, none⟩ = some (.int .i64 m) := by rw [hc _ _ (by simp)]; simp
    have q2 : w1.cell? ⟨w.heap.size, 2, none⟩ = some (.int .i64 d) := by rw [hc _ _ (by simp)]; simp
    clear hc hf
    go_wp2_with fail
    go_region_held3 (fun w' => w'.cell? ⟨w.heap.size, 0, none⟩ = some (.int .i64 y) ∧ w'.cell? ⟨w.heap.size, 1, none⟩ = some (.int .i64 m) ∧ w'.cell? ⟨w.heap.size, 2, none⟩ = some (.int .i64 d)) (first | go_keep | (refine ⟨?_, ?_, ?_⟩ <;> (rw [hc2 _ _ (by go_size)]; simp [q0, q1, q2])))
      (first
        | (go_at_call 115; refine (years_any y _ (by omega) (by omega)).mono ?_; rintro e w' ⟨rfl, rfl⟩)
        | (go_at_call 116; refine (ahead_any y m _ (by omega) (by omega)).mono ?_; rintro e w2 ⟨rfl, hb2⟩; obtain ⟨hc2, hf2⟩ := bcell hb2))
    all_goals
      go_simp
      go_wp2
      go_ret2
      have w1_ : IntKind.i64.wrap (yearsV y + aheadV y m) = yearsV y + aheadV y m := IntWalk.i64_in _ (by omega)
      have w2_ : IntKind.i64.wrap (yearsV y + aheadV y m + d) = yearsV y + aheadV y m + d := IntWalk.i64_in _ (by omega)
      have w3_ : IntKind.i64.wrap (yearsV y + aheadV y m + d - 1) = yearsV y + aheadV y m + d - 1 := IntWalk.i64_in _ (by omega)
      refine ⟨ret_int2 ?_ H2.out.symm, ?_⟩
      · rw [w1_, w2_, w3_]; exact H1.out.symm
      · exact hB1.drew.trans (hb2.mono (Nat.le_of_lt hz1))

theorem mDown_step (y left : Int) (k : Nat) (h : left < aheadV y (k + 1)) : mDown y left (k + 1) = mDown y left k := by
  have : ¬ aheadV y ((k : Int) + 1) ≤ left := by omega
  simp [mDown, this]

set_option maxHeartbeats 400000 in
theorem of_no (day : Int) (w : World) (h : isB day = false) :
    Calls Tryz.prog 98 #[.int .i64 day] w fun e w' => e = .returned (.tuple #[.agg #[.int .i64 0, .int .i64 0, .int .i64 0], .int .i64 4]) ∧ Below w.heap.size w w' := by
  go_enter Tryz.func98, Tryz.ntmps98
  go_wp2_with (first | (go_at_call 114; refine (is_any _ _).mono ?_; rintro e w' ⟨rfl, rfl⟩))
  go_returns
  refine ⟨rfl, ?_⟩
  (repeat' exact bel)

set_option maxHeartbeats 1600000 in
theorem of_yes (day : Int) (w : World) (h : isB day = true) :
    Calls Tryz.prog 98 #[.int .i64 day] w fun e w' => e = .returned (.tuple #[.agg #[.int .i64 (ofY day), .int .i64 (ofM day), .int .i64 (ofD day)], .int .i64 0]) ∧ Below w.heap.size w w' := by
  have hd : 0 ≤ day ∧ day < 3068037 := by simpa [isB] using h
  obtain ⟨g1, g2, g3, g4⟩ := guess_ok day hd.1 hd.2
  have hyy := ofY_ok day hd.1 hd.2
  have HG := hide (show guess day = min (1600 + day / 146097 * 400 + day % 146097 / 36524 * 100 + day % 146097 % 36524 / 1461 * 4 + day % 146097 % 36524 % 1461 / 365) 9999 from rfl)
  go_enter Tryz.func98, Tryz.ntmps98
  go_wp2_with (first | (go_at_call 114; refine (is_any _ _).mono ?_; rintro e w' ⟨rfl, rfl⟩))
  all_goals
    go_loop [4] (fun s => ∃ y : Int, s = .int .i64 y ∧ ofY day ≤ y ∧ y ≤ 9999) (fun s => (intOf s).toNat)
    case atStart =>
      exact ⟨_, rfl, by unfold ofY; rw [HG.out]; split <;> omega, by omega⟩
    case round =>
      obtain ⟨y, rfl, hy1, hy2⟩ := hrel
      have hyb := years_bd y (by omega) (by omega)
      by_cases hlt : day < yearsV y
      · have hne : ofY day ≠ y := by intro e; rw [← e] at hlt; omega
        go_wp2_with (first | (go_at_call 115; refine (years_any y _ (by omega) (by omega)).mono ?_; rintro e w' ⟨rfl, rfl⟩))
        go_round
        case rel => exact ⟨y - 1, rfl, by omega, by omega⟩
        case measure => simp [intOf]; omega
      · have hye : y = ofY day := by
          rcases Int.lt_or_eq_of_le hy1 with h5 | h5
          · have := years_mono (ofY day + 1) y (by omega) (by omega); omega
          · exact h5.symm
        subst hye
        go_wp2_with (first | (go_at_call 115; refine (years_any (ofY day) _ (by omega) (by omega)).mono ?_; rintro e w' ⟨rfl, rfl⟩))
        have hleft : 0 ≤ day - yearsV (ofY day) := by omega
        have hmd := mDown_ok (ofY day) (day - yearsV (ofY day)) (by omega) 12 (by omega) (by omega) (by
          have h13 := ahead_13 (ofY day)
          have hs := years_succ (ofY day) (by omega) (by omega)
          have : ((12 : Nat) : Int) + 1 = 13 := rfl
          rw [this, h13]; omega)
        have HM := hide (show ofM day = mDown (ofY day) (day - yearsV (ofY day)) 12 from rfl)
        have HD := hide (show ofD day = day - yearsV (ofY day) - aheadV (ofY day) (ofM day) + 1 from rfl)
        have hmd1 : 1 ≤ ofM day := by rw [HM.out]; omega
        have hmd2 : ofM day ≤ 12 := by rw [HM.out]; omega
        have hmd3 : aheadV (ofY day) (ofM day) ≤ day - yearsV (ofY day) := by rw [HM.out]; omega
        clear hmd HG
        go_loopw [6] (fun s wr => ∃ k : Nat, s = .int .i64 k ∧ 1 ≤ k ∧ k ≤ 12 ∧ Hid (mDown (ofY day) (day - yearsV (ofY day)) k = ofM day) ∧ Below (w.heap.size + 1) (w.alloc (.cells #[.int .i64 0, .int .i64 0, .int .i64 0] 168)) wr) (fun s _ => (intOf s).toNat)
        case atStart => exact ⟨12, rfl, by omega, by omega, HM.out.symm, Below.refl _ _⟩
        case round =>
          obtain ⟨k, rfl, hk1, hk2, HK, hB⟩ := hrel
          have hab := ahead_bd (ofY day) k
          have hcw : ∀ o, wr.cell? ⟨w.heap.size, o, none⟩ = (w.alloc (.cells #[.int .i64 0, .int .i64 0, .int .i64 0] 168)).cell? ⟨w.heap.size, o, none⟩ := fun o => hB.cell (p := ⟨w.heap.size, o, none⟩) (by simp)
          have hfw : ∀ o, wr.frozen? ⟨w.heap.size, o, none⟩ = (w.alloc (.cells #[.int .i64 0, .int .i64 0, .int .i64 0] 168)).frozen? ⟨w.heap.size, o, none⟩ := fun o => hB.frozen (p := ⟨w.heap.size, o, none⟩) (by simp)
          have hzr : w.heap.size < wr.heap.size := by have := hB.size; simp at this; omega
          by_cases hlt2 : aheadV (ofY day) k ≤ day - yearsV (ofY day)
          · have hkm : (k : Int) = ofM day := by
              rw [← HK.out]
              cases k with
              | zero => omega
              | succ k => unfold mDown; rw [if_pos (by simpa using hlt2)]; rfl
            have HKM := hide hkm
            clear hkm
            go_wp2_with fail
            refine (ahead_any (ofY day) k _ (by omega) (by omega)).mono ?_
            rintro e w2 ⟨rfl, hb2⟩
            obtain ⟨hc2, hf2⟩ := bcell hb2
            have hz2 : w.heap.size < w2.heap.size := by have := hb2.size; omega
            go_wp2_with fail
            refine (ahead_any (ofY day) k _ (by omega) (by omega)).mono ?_
            rintro e w3 ⟨rfl, hb3⟩
            obtain ⟨hc3, hf3⟩ := bcell hb3
            have hz3 : w.heap.size < w3.heap.size := by have := hb3.size; omega
            go_wp2
            have e0 : ∀ o, w3.cell? ⟨w.heap.size, o, none⟩ = (w.alloc (.cells #[.int .i64 0, .int .i64 0, .int .i64 0] 168)).cell? ⟨w.heap.size, o, none⟩ := fun o => by
              rw [hc3 _ _ hz2, hc2 _ _ hzr]; exact hcw o
            refine bodyPost_ret (v := .tuple #[.agg #[.int .i64 (ofY day), .int .i64 k, .int .i64 (day - yearsV (ofY day) - aheadV (ofY day) k + 1)], .int .i64 0]) (by simp [results, Tryz.results98, go_sem, e0]) rfl ⟨?_, ?_⟩
            · rw [HD.out, HKM.out]
            · have hB3 : Below w.heap.size w w3 := by
                refine Below.trans ?_ (hb3.mono (by omega))
                refine Below.trans ?_ (hb2.mono (by omega))
                refine Below.trans ?_ (hB.mono (by omega))
                exact (Below.refl _ _).alloc (Nat.le_refl _) _
              exact ((hB3.setCell (by simp) _).setCell (by simp) _).setCell (by simp) _
          · have hk3 : 2 ≤ k := by
              rcases Nat.lt_or_ge k 2 with h5 | h5
              · exfalso
                obtain rfl : k = 1 := by omega
                have := ahead_1 (ofY day)
                simp at hlt2
                omega
              · exact h5
            have hHK := HK
            clear HK
            go_wp2_with fail
            refine (ahead_any (ofY day) k _ (by omega) (by omega)).mono ?_
            rintro e w2 ⟨rfl, hb2⟩
            go_wp2
            refine ⟨⟨k - 1, ?_, by omega, by omega, ?_, hB.trans (hb2.mono (by omega))⟩, by simp [intOf]; omega⟩
            · have : ((k - 1 : Nat) : Int) = (k : Int) - 1 := by omega
              rw [this]
            · obtain ⟨k, rfl⟩ : ∃ j, k = j + 1 := ⟨k - 1, by omega⟩
              have := hHK.out
              rw [mDown_step _ _ _ (by simp at hlt2 ⊢; omega)] at this
              exact this

/-- A month's last day. -/
def endN (y m : Int) : Int := dayN y m (lenV y m)
/-- Its weekday. -/
def endW (y m : Int) : Int := (endN y m + 5) % 7 + 1
def wkE (y m wd : Int) : Int := if thereB y m then (if 1 ≤ wd ∧ wd ≤ 7 then 0 else 1) else 4
def wkV (y m wd : Int) : Int := if wkE y m wd = 0 then endN y m else 0
def wkW (y m wd : Int) : Int := if wkE y m wd = 0 then endW y m else 0
theorem end_date (y m : Int) (h : thereB y m = true) : dateB y m (lenV y m) = true := by
  have := len_lo y m h
  simp [dateB, h]
  omega
theorem end_bd (y m : Int) (h : thereB y m = true) : 0 ≤ endN y m ∧ endN y m < 3068037 := by
  have := dayN_bd (end_date y m h)
  simpa [isB, endN] using this
theorem endW_bd (y m : Int) : 1 ≤ endW y m ∧ endW y m ≤ 7 := by unfold endW; omega

set_option maxHeartbeats 800000 in
theorem wend_any (y m wd : Int) (w : World) :
    Calls Tryz.prog 113 #[.int .i64 y, .int .i64 m, .int .i64 wd] w fun e w' => e = .returned (.tuple #[.int .i64 (wkV y m wd), .int .i64 (wkW y m wd), .int .i64 (wkE y m wd)]) ∧ Below w.heap.size w w' := by
  cases ht : thereB y m
  · have hl : lenE y m = 4 := by simp [lenE, ht]
    have hE : wkE y m wd = 4 := by simp [wkE, ht]
    have H1 := hide (show wkV y m wd = 0 by simp [wkV, hE])
    have H2 := hide (show wkW y m wd = 0 by simp [wkW, hE])
    have H3 := hide hE
    clear hE
    go_enter Tryz.func113, Tryz.ntmps113
    go_wp2_with fail
    refine (length_any _ _ _).mono ?_
    rintro e w1 ⟨rfl, hb1⟩
    rw [hl]
    clear hl
    go_wp2
    go_ret3
    refine ⟨?_, hb1⟩
    rw [H1.out, H2.out, H3.out]
    rfl
  · have hl : lenE y m = 0 := by simp [lenE, ht]
    have hr : wd < 1 ∨ 7 < wd ∨ (1 ≤ wd ∧ wd ≤ 7) := by omega
    rcases hr with hr | hr | ⟨hr, hr2⟩
    · have hE : wkE y m wd = 1 := by simp [wkE, ht]; omega
      have H1 := hide (show wkV y m wd = 0 by simp [wkV, hE])
      have H2 := hide (show wkW y m wd = 0 by simp [wkW, hE])
      have H3 := hide hE
      clear hE
      go_enter Tryz.func113, Tryz.ntmps113
      go_wp2_with fail
      refine (length_any _ _ _).mono ?_
      rintro e w1 ⟨rfl, hb1⟩
      rw [hl]
      clear hl
      go_wp2
      all_goals first
        | (exfalso; omega)
        | (go_ret3; refine ⟨?_, hb1⟩; rw [H1.out, H2.out, H3.out]; rfl)
    · have hE : wkE y m wd = 1 := by simp [wkE, ht]; omega
      have H1 := hide (show wkV y m wd = 0 by simp [wkV, hE])
      have H2 := hide (show wkW y m wd = 0 by simp [wkW, hE])
      have H3 := hide hE
      clear hE
      go_enter Tryz.func113, Tryz.ntmps113
      go_wp2_with fail
      refine (length_any _ _ _).mono ?_
      rintro e w1 ⟨rfl, hb1⟩
      rw [hl]
      clear hl
      go_wp2
      all_goals first
        | (exfalso; omega)
        | (go_ret3; refine ⟨?_, hb1⟩; rw [H1.out, H2.out, H3.out]; rfl)
    · have hE : wkE y m wd = 0 := by simp [wkE, ht]; omega
      have hd := end_date y m ht
      have hdE : dateE y m (lenV y m) = 0 := by simp [dateE, hd]
      have hdV : dayV y m (lenV y m) = endN y m := by simp [dayV, hd, endN]
      have hbd := end_bd y m ht
      have his : isB (endN y m) = true := by simp [isB]; omega
      have hiE : isE (endN y m) = 0 := by simp [isE, his]
      have hwd : wdV (endN y m) = endW y m := by simp [wdV, his, endW]
      have H1 := hide (show wkV y m wd = endN y m by simp [wkV, hE])
      have H2 := hide (show wkW y m wd = endW y m by simp [wkW, hE])
      have H3 := hide hE
      have H4 := hide (And.intro hdE hdV)
      have H5 := hide (And.intro hiE hwd)
      clear hE hd hdE hdV his hiE hwd
      go_enter Tryz.func113, Tryz.ntmps113
      go_wp2_with fail
      refine (length_any _ _ _).mono ?_
      rintro e w1 ⟨rfl, hb1⟩
      rw [hl]
      clear hl
      go_wp2_with (first | (go_at_call 122; refine (day_any _ _ _ _).mono ?_; rintro e w2 ⟨rfl, hb2⟩; rw [H4.out.1, H4.out.2]) | (go_at_call 123; refine (weekday_any _ _).mono ?_; rintro e w' ⟨rfl, rfl⟩; rw [H5.out.1, H5.out.2]))
      all_goals first
        | (exfalso; omega)
        | (go_ret3; refine ⟨?_, hb1.trans (hb2.mono hb1.size)⟩; rw [H1.out, H2.out, H3.out]; rfl)

/-- A month's last day of a weekday. -/
def lastV (y m wd : Int) : Int := if wkE y m wd = 0 then endN y m - (endW y m - wd + 7) % 7 else 0
set_option maxHeartbeats 800000 in
theorem last_any (y m wd : Int) (w : World) :
    Calls Tryz.prog 97 #[.int .i64 y, .int .i64 m, .int .i64 wd] w fun e w' => e = .returned (.tuple #[.int .i64 (lastV y m wd), .int .i64 (wkE y m wd)]) ∧ Below w.heap.size w w' := by
  by_cases hE : wkE y m wd = 0
  · have hw : thereB y m = true ∧ 1 ≤ wd ∧ wd ≤ 7 := by
      unfold wkE at hE
      split at hE
      · split at hE
        · exact ⟨by assumption, by assumption⟩
        · omega
      · omega
    have hV : wkV y m wd = endN y m := by simp [wkV, hE]
    have hW : wkW y m wd = endW y m := by simp [wkW, hE]
    have hb := end_bd y m hw.1
    have hwb := endW_bd y m
    obtain ⟨_, hw1, hw2⟩ := hw
    have H1 := hide (show lastV y m wd = endN y m - (endW y m - wd + 7) % 7 by simp [lastV, hE])
    have H2 := hide hE
    have H3 := hide (And.intro hV hW)
    clear hE hV hW
    go_enter Tryz.func97, Tryz.ntmps97
    go_wp2_with fail
    refine (wend_any _ _ _ _).mono ?_
    rintro e w1 ⟨rfl, hb1⟩
    rw [H2.out, H3.out.1, H3.out.2]
    go_wp2
    go_ret2
    exact ⟨ret_int2 (by rw [H1.out]; omega) H2.out.symm, hb1⟩
  · have hE' : (wkE y m wd != 0) = true := by simpa using hE
    have H1 := hide (show lastV y m wd = 0 by simp [lastV, hE])
    clear hE
    go_enter Tryz.func97, Tryz.ntmps97
    go_wp2_with fail
    refine (wend_any _ _ _ _).mono ?_
    rintro e w1 ⟨rfl, hb1⟩
    go_wp2
    go_ret2
    exact ⟨ret_int2 H1.out.symm rfl, hb1⟩

def nearD (y m wd : Int) : Int := (wd - endW y m + 7 + 3) % 7 - 3
/-- The day of a weekday that is nearest to a month's end. -/
def nearV (y m wd : Int) : Int := if wkE y m wd = 0 then addV (endN y m) (nearD y m wd) else 0
def nearE (y m wd : Int) : Int := if wkE y m wd = 0 then addE (endN y m) (nearD y m wd) else wkE y m wd
set_option maxHeartbeats 800000 in
theorem near_any (y m wd : Int) (w : World) :
    Calls Tryz.prog 144 #[.int .i64 y, .int .i64 m, .int .i64 wd] w fun e w' => e = .returned (.tuple #[.int .i64 (nearV y m wd), .int .i64 (nearE y m wd)]) ∧ Below w.heap.size w w' := by
  by_cases hE : wkE y m wd = 0
  · have hw : thereB y m = true ∧ 1 ≤ wd ∧ wd ≤ 7 := by
      unfold wkE at hE
      split at hE
      · split at hE
        · exact ⟨by assumption, by assumption⟩
        · omega
      · omega
    have hV : wkV y m wd = endN y m := by simp [wkV, hE]
    have hW : wkW y m wd = endW y m := by simp [wkW, hE]
    have hb := end_bd y m hw.1
    have hwb := endW_bd y m
    obtain ⟨_, hw1, hw2⟩ := hw
    have H1 := hide (show nearV y m wd = addV (endN y m) ((wd - endW y m + 7 + 3) % 7 - 3) by simp [nearV, hE, nearD])
    have H4 := hide (show nearE y m wd = addE (endN y m) ((wd - endW y m + 7 + 3) % 7 - 3) by simp [nearE, hE, nearD])
    have H2 := hide hE
    have H3 := hide (And.intro hV hW)
    clear hE hV hW
    go_enter Tryz.func144, Tryz.ntmps144
    go_wp2_with fail
    refine (wend_any _ _ _ _).mono ?_
    rintro e w1 ⟨rfl, hb1⟩
    rw [H2.out, H3.out.1, H3.out.2]
    go_wp2_with fail
    refine (add_any _ _ _).mono ?_
    rintro e w' ⟨rfl, rfl⟩
    go_wp2
    go_ret2
    exact ⟨ret_int2 H1.out.symm H4.out.symm, hb1⟩
  · have hE' : (wkE y m wd != 0) = true := by simpa using hE
    have H1 := hide (show nearV y m wd = 0 by simp [nearV, hE])
    have H4 := hide (show nearE y m wd = wkE y m wd by simp [nearE, hE])
    clear hE
    go_enter Tryz.func144, Tryz.ntmps144
    go_wp2_with fail
    refine (wend_any _ _ _ _).mono ?_
    rintro e w1 ⟨rfl, hb1⟩
    go_wp2
    go_ret2
    exact ⟨ret_int2 H1.out.symm H4.out.symm, hb1⟩
end Go.Proofs.YtjhhmeoibfdcmaaGreatDoor
