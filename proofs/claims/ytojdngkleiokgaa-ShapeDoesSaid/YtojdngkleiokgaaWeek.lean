/- Contracts of week: end, Last, Near. -/
import Derived.Test.YtojdngkleiokgaaCivilC
namespace Go.Proofs.Ytojdngkleiokgaa
open Go.RowKit Qd
set_option linter.unusedSimpArgs false
set_option linter.unusedVariables false

/-- A month's last day. -/
def endN (y m : Int) : Int := dayN y m (lenV y m)
/-- Its weekday. -/
def endW (y m : Int) : Int := (endN y m + 5) % 7 + 1
def wkE (y m wd : Int) : Int := if thereB y m then (if 1 ≤ wd ∧ wd ≤ 7 then 0 else 1) else 4
def wkV (y m wd : Int) : Int := if wkE y m wd = 0 then endN y m else 0
def wkW (y m wd : Int) : Int := if wkE y m wd = 0 then endW y m else 0
theorem end_date (y m : Int) (h : thereB y m = true) : dateB y m (lenV y m) = true := by
  have := len_lo y m h
  simp [dateB, h]
  omega
theorem end_bd (y m : Int) (h : thereB y m = true) : 0 ≤ endN y m ∧ endN y m < 3068037 := by
  have := dayN_bd (end_date y m h)
  simpa [isB, endN] using this
theorem endW_bd (y m : Int) : 1 ≤ endW y m ∧ endW y m ≤ 7 := by unfold endW; omega

set_option maxHeartbeats 800000 in
theorem wend_any (y m wd : Int) (w : World) :
    Calls Try.prog 77 #[.int .i64 y, .int .i64 m, .int .i64 wd] w fun e w' => e = .returned (.tuple #[.int .i64 (wkV y m wd), .int .i64 (wkW y m wd), .int .i64 (wkE y m wd)]) ∧ Below w.heap.size w w' := by
  cases ht : thereB y m
  · have hl : lenE y m = 4 := by simp [lenE, ht]
    have hE : wkE y m wd = 4 := by simp [wkE, ht]
    have H1 := hide (show wkV y m wd = 0 by simp [wkV, hE])
    have H2 := hide (show wkW y m wd = 0 by simp [wkW, hE])
    have H3 := hide hE
    clear hE
    go_enter Try.func77, Try.ntmps77
    go_wp2_with fail
    refine (length_any _ _ _).mono ?_
    rintro e w1 ⟨rfl, hb1⟩
    rw [hl]
    clear hl
    go_wp2
    go_ret3
    refine ⟨?_, hb1⟩
    rw [H1.out, H2.out, H3.out]
    rfl
  · have hl : lenE y m = 0 := by simp [lenE, ht]
    have hr : wd < 1 ∨ 7 < wd ∨ (1 ≤ wd ∧ wd ≤ 7) := by omega
    rcases hr with hr | hr | ⟨hr, hr2⟩
    · have hE : wkE y m wd = 1 := by simp [wkE, ht]; omega
      have H1 := hide (show wkV y m wd = 0 by simp [wkV, hE])
      have H2 := hide (show wkW y m wd = 0 by simp [wkW, hE])
      have H3 := hide hE
      clear hE
      go_enter Try.func77, Try.ntmps77
      go_wp2_with fail
      refine (length_any _ _ _).mono ?_
      rintro e w1 ⟨rfl, hb1⟩
      rw [hl]
      clear hl
      go_wp2
      all_goals first
        | (exfalso; omega)
        | (go_ret3; refine ⟨?_, hb1⟩; rw [H1.out, H2.out, H3.out]; rfl)
    · have hE : wkE y m wd = 1 := by simp [wkE, ht]; omega
      have H1 := hide (show wkV y m wd = 0 by simp [wkV, hE])
      have H2 := hide (show wkW y m wd = 0 by simp [wkW, hE])
      have H3 := hide hE
      clear hE
      go_enter Try.func77, Try.ntmps77
      go_wp2_with fail
      refine (length_any _ _ _).mono ?_
      rintro e w1 ⟨rfl, hb1⟩
      rw [hl]
      clear hl
      go_wp2
      all_goals first
        | (exfalso; omega)
        | (go_ret3; refine ⟨?_, hb1⟩; rw [H1.out, H2.out, H3.out]; rfl)
    · have hE : wkE y m wd = 0 := by simp [wkE, ht]; omega
      have hd := end_date y m ht
      have hdE : dateE y m (lenV y m) = 0 := by simp [dateE, hd]
      have hdV : dayV y m (lenV y m) = endN y m := by simp [dayV, hd, endN]
      have hbd := end_bd y m ht
      have his : isB (endN y m) = true := by simp [isB]; omega
      have hiE : isE (endN y m) = 0 := by simp [isE, his]
      have hwd : wdV (endN y m) = endW y m := by simp [wdV, his, endW]
      have H1 := hide (show wkV y m wd = endN y m by simp [wkV, hE])
      have H2 := hide (show wkW y m wd = endW y m by simp [wkW, hE])
      have H3 := hide hE
      have H4 := hide (And.intro hdE hdV)
      have H5 := hide (And.intro hiE hwd)
      clear hE hd hdE hdV his hiE hwd
      go_enter Try.func77, Try.ntmps77
      go_wp2_with fail
      refine (length_any _ _ _).mono ?_
      rintro e w1 ⟨rfl, hb1⟩
      rw [hl]
      clear hl
      go_wp2_with (first | (go_at_call 98; refine (day_any _ _ _ _).mono ?_; rintro e w2 ⟨rfl, hb2⟩; rw [H4.out.1, H4.out.2]) | (go_at_call 99; refine (weekday_any _ _).mono ?_; rintro e w' ⟨rfl, rfl⟩; rw [H5.out.1, H5.out.2]))
      all_goals first
        | (exfalso; omega)
        | (go_ret3; refine ⟨?_, hb1.trans (hb2.mono hb1.size)⟩; rw [H1.out, H2.out, H3.out]; rfl)

/-- A month's last day of a weekday. -/
def lastV (y m wd : Int) : Int := if wkE y m wd = 0 then endN y m - (endW y m - wd + 7) % 7 else 0
set_option maxHeartbeats 800000 in
theorem last_any (y m wd : Int) (w : World) :
    Calls Try.prog 57 #[.int .i64 y, .int .i64 m, .int .i64 wd] w fun e w' => e = .returned (.tuple #[.int .i64 (lastV y m wd), .int .i64 (wkE y m wd)]) ∧ Below w.heap.size w w' := by
  by_cases hE : wkE y m wd = 0
  · have hw : thereB y m = true ∧ 1 ≤ wd ∧ wd ≤ 7 := by
      unfold wkE at hE
      split at hE
      · split at hE
        · exact ⟨by assumption, by assumption⟩
        · omega
      · omega
    have hV : wkV y m wd = endN y m := by simp [wkV, hE]
    have hW : wkW y m wd = endW y m := by simp [wkW, hE]
    have hb := end_bd y m hw.1
    have hwb := endW_bd y m
    obtain ⟨_, hw1, hw2⟩ := hw
    have H1 := hide (show lastV y m wd = endN y m - (endW y m - wd + 7) % 7 by simp [lastV, hE])
    have H2 := hide hE
    have H3 := hide (And.intro hV hW)
    clear hE hV hW
    go_enter Try.func57, Try.ntmps57
    go_wp2_with fail
    refine (wend_any _ _ _ _).mono ?_
    rintro e w1 ⟨rfl, hb1⟩
    rw [H2.out, H3.out.1, H3.out.2]
    go_wp2
    go_ret2
    exact ⟨ret_int2 (by rw [H1.out]; omega) H2.out.symm, hb1⟩
  · have hE' : (wkE y m wd != 0) = true := by simpa using hE
    have H1 := hide (show lastV y m wd = 0 by simp [lastV, hE])
    clear hE
    go_enter Try.func57, Try.ntmps57
    go_wp2_with fail
    refine (wend_any _ _ _ _).mono ?_
    rintro e w1 ⟨rfl, hb1⟩
    go_wp2
    go_ret2
    exact ⟨ret_int2 H1.out.symm rfl, hb1⟩

def nearD (y m wd : Int) : Int := (wd - endW y m + 7 + 3) % 7 - 3
/-- The day of a weekday that is nearest to a month's end. -/
def nearV (y m wd : Int) : Int := if wkE y m wd = 0 then addV (endN y m) (nearD y m wd) else 0
def nearE (y m wd : Int) : Int := if wkE y m wd = 0 then addE (endN y m) (nearD y m wd) else wkE y m wd
set_option maxHeartbeats 800000 in
theorem near_any (y m wd : Int) (w : World) :
    Calls Try.prog 126 #[.int .i64 y, .int .i64 m, .int .i64 wd] w fun e w' => e = .returned (.tuple #[.int .i64 (nearV y m wd), .int .i64 (nearE y m wd)]) ∧ Below w.heap.size w w' := by
  by_cases hE : wkE y m wd = 0
  · have hw : thereB y m = true ∧ 1 ≤ wd ∧ wd ≤ 7 := by
      unfold wkE at hE
      split at hE
      · split at hE
        · exact ⟨by assumption, by assumption⟩
        · omega
      · omega
    have hV : wkV y m wd = endN y m := by simp [wkV, hE]
    have hW : wkW y m wd = endW y m := by simp [wkW, hE]
    have hb := end_bd y m hw.1
    have hwb := endW_bd y m
    obtain ⟨_, hw1, hw2⟩ := hw
    have H1 := hide (show nearV y m wd = addV (endN y m) ((wd - endW y m + 7 + 3) % 7 - 3) by simp [nearV, hE, nearD])
    have H4 := hide (show nearE y m wd = addE (endN y m) ((wd - endW y m + 7 + 3) % 7 - 3) by simp [nearE, hE, nearD])
    have H2 := hide hE
    have H3 := hide (And.intro hV hW)
    clear hE hV hW
    go_enter Try.func126, Try.ntmps126
    go_wp2_with fail
    refine (wend_any _ _ _ _).mono ?_
    rintro e w1 ⟨rfl, hb1⟩
    rw [H2.out, H3.out.1, H3.out.2]
    go_wp2_with fail
    refine (add_any _ _ _).mono ?_
    rintro e w' ⟨rfl, rfl⟩
    go_wp2
    go_ret2
    exact ⟨ret_int2 H1.out.symm H4.out.symm, hb1⟩
  · have hE' : (wkE y m wd != 0) = true := by simpa using hE
    have H1 := hide (show nearV y m wd = 0 by simp [nearV, hE])
    have H4 := hide (show nearE y m wd = wkE y m wd by simp [nearE, hE])
    clear hE
    go_enter Try.func126, Try.ntmps126
    go_wp2_with fail
    refine (wend_any _ _ _ _).mono ?_
    rintro e w1 ⟨rfl, hb1⟩
    go_wp2
    go_ret2
    exact ⟨ret_int2 H1.out.symm H4.out.symm, hb1⟩
end Go.Proofs.Ytojdngkleiokgaa
