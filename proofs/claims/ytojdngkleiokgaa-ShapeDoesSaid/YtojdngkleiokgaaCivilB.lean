/- Contracts of civil: dates. -/
import Derived.Test.YtojdngkleiokgaaCivilA
namespace Go.Proofs.Ytojdngkleiokgaa
open Go.RowKit Qd
set_option linter.unusedSimpArgs false
set_option linter.unusedVariables false

set_option maxHeartbeats 400000 in
theorem dcheck_any (y m d : Int) (w : World) :
    Calls Try.prog 106 #[.agg #[.int .i64 y, .int .i64 m, .int .i64 d]] w fun e w' => e = .returned (.int .i64 (dateE y m d)) ∧ Below w.heap.size w w' := by
  cases ht : thereB y m
  · have hl : lenE y m = 4 := by simp [lenE, ht]
    have H2 : Hid (dateE y m d = 4) := by simp [Hid, dateE, dateB, ht]
    go_enter Try.func106, Try.ntmps106
    go_wp2_with fail
    refine (length_any _ _ _).mono ?_
    rintro e w1 ⟨rfl, hb1⟩
    obtain ⟨hc, hf⟩ := bcell hb1
    rw [hl]
    go_wp2
    all_goals (go_ret; refine ⟨ret_int H2.out.symm, ?_⟩; refine Below.trans ?_ (hb1.mono (by simp)); (repeat' (first | (with_reducible exact Below.refl _ _) | (with_reducible assumption) | (with_reducible refine Below.alloc ?_ ?_ _) | (with_reducible refine below_drewN ?_ _) | (with_reducible refine Below.drew ?_) | (with_reducible refine Below.setCell ?_ ?_ _) | (with_reducible refine Below.trans ?_ (Below.mono (by assumption) ?_)) | go_size | (simp at *; omega))))
  · have hl : lenE y m = 0 := by simp [lenE, ht]
    have hr : d < 1 ∨ lenV y m < d ∨ (1 ≤ d ∧ d ≤ lenV y m) := by omega
    rcases hr with hr | hr | ⟨hr, hr2⟩
    · have H2 : Hid (dateE y m d = 4) := by simp [Hid, dateE, dateB, ht]; omega
      go_enter Try.func106, Try.ntmps106
      go_wp2_with fail
      refine (length_any _ _ _).mono ?_
      rintro e w1 ⟨rfl, hb1⟩
      obtain ⟨hc, hf⟩ := bcell hb1
      rw [hl]
      go_wp2
      all_goals first | (exfalso; omega) | (go_ret; refine ⟨ret_int H2.out.symm, ?_⟩; refine Below.trans ?_ (hb1.mono (by simp)); (repeat' (first | (with_reducible exact Below.refl _ _) | (with_reducible assumption) | (with_reducible refine Below.alloc ?_ ?_ _) | (with_reducible refine below_drewN ?_ _) | (with_reducible refine Below.drew ?_) | (with_reducible refine Below.setCell ?_ ?_ _) | (with_reducible refine Below.trans ?_ (Below.mono (by assumption) ?_)) | go_size | (simp at *; omega))))
    · have H2 : Hid (dateE y m d = 4) := by simp [Hid, dateE, dateB, ht]; omega
      go_enter Try.func106, Try.ntmps106
      go_wp2_with fail
      refine (length_any _ _ _).mono ?_
      rintro e w1 ⟨rfl, hb1⟩
      obtain ⟨hc, hf⟩ := bcell hb1
      rw [hl]
      go_wp2
      all_goals first | (exfalso; omega) | (go_ret; refine ⟨ret_int H2.out.symm, ?_⟩; refine Below.trans ?_ (hb1.mono (by simp)); (repeat' (first | (with_reducible exact Below.refl _ _) | (with_reducible assumption) | (with_reducible refine Below.alloc ?_ ?_ _) | (with_reducible refine below_drewN ?_ _) | (with_reducible refine Below.drew ?_) | (with_reducible refine Below.setCell ?_ ?_ _) | (with_reducible refine Below.trans ?_ (Below.mono (by assumption) ?_)) | go_size | (simp at *; omega))))
    · have H2 : Hid (dateE y m d = 0) := by simp [Hid, dateE, dateB, ht]; omega
      go_enter Try.func106, Try.ntmps106
      go_wp2_with fail
      refine (length_any _ _ _).mono ?_
      rintro e w1 ⟨rfl, hb1⟩
      obtain ⟨hc, hf⟩ := bcell hb1
      rw [hl]
      go_wp2
      all_goals first | (exfalso; omega) | (go_ret; refine ⟨ret_int H2.out.symm, ?_⟩; refine Below.trans ?_ (hb1.mono (by simp)); (repeat' (first | (with_reducible exact Below.refl _ _) | (with_reducible assumption) | (with_reducible refine Below.alloc ?_ ?_ _) | (with_reducible refine below_drewN ?_ _) | (with_reducible refine Below.drew ?_) | (with_reducible refine Below.setCell ?_ ?_ _) | (with_reducible refine Below.trans ?_ (Below.mono (by assumption) ?_)) | go_size | (simp at *; omega))))

set_option maxHeartbeats 800000 in
theorem day_any (y m d : Int) (w : World) :
    Calls Try.prog 98 #[.agg #[.int .i64 y, .int .i64 m, .int .i64 d]] w fun e w' => e = .returned (.tuple #[.int .i64 (dayV y m d), .int .i64 (dateE y m d)]) ∧ Below w.heap.size w w' := by
  cases hd : dateB y m d
  · have hl : dateE y m d = 4 := by simp [dateE, hd]
    have H1 : Hid (dayV y m d = 0) := by simp [Hid, dayV, hd]
    have H2 := hide hl
    go_enter Try.func98, Try.ntmps98
    go_wp2_with fail
    refine (dcheck_any _ _ _ _).mono ?_
    rintro e w1 ⟨rfl, hb1⟩
    rw [hl]
    clear hl
    go_wp2
    all_goals (go_ret2; refine ⟨ret_int2 H1.out.symm H2.out.symm, ?_⟩; refine Below.trans ?_ (hb1.mono (by simp)); (repeat' (first | (with_reducible exact Below.refl _ _) | (with_reducible assumption) | (with_reducible refine Below.alloc ?_ ?_ _) | (with_reducible refine below_drewN ?_ _) | (with_reducible refine Below.drew ?_) | (with_reducible refine Below.setCell ?_ ?_ _) | (with_reducible refine Below.trans ?_ (Below.mono (by assumption) ?_)) | go_size | (simp at *; omega))))
  · have hl : dateE y m d = 0 := by simp [dateE, hd]
    have H1 : Hid (dayV y m d = yearsV y + aheadV y m + d - 1) := by simp [Hid, dayV, hd, dayN]
    have H2 := hide hl
    have hd' := hd
    simp only [dateB, Bool.and_eq_true, decide_eq_true_eq] at hd'
    obtain ⟨ht, hd1, hd2⟩ := hd'
    have hlb := len_bd y m
    have ht2 : 1600 ≤ y ∧ y ≤ 9999 ∧ 1 ≤ m ∧ m ≤ 12 := by simpa [thereB] using ht
    have hy := years_bd y (by omega) (by omega)
    have ha := ahead_bd y m
    clear hd ht
    go_enter Try.func98, Try.ntmps98
    go_wp2_with fail
    refine (dcheck_any _ _ _ _).mono ?_
    rintro e w1 ⟨rfl, hb1⟩
    obtain ⟨hc, hf⟩ := bcell hb1
    rw [hl]
    clear hl
    have hz1 : w.heap.size < w1.heap.size := by have := hb1.size; simp at this; omega
    have hB1 : Below w.heap.size w w1 := by
      refine Below.trans ?_ (hb1.mono (by simp))
      (repeat' (first | (with_reducible exact Below.refl _ _) | (with_reducible assumption) | (with_reducible refine Below.alloc ?_ ?_ _) | (with_reducible refine below_drewN ?_ _) | (with_reducible refine Below.drew ?_) | (with_reducible refine Below.setCell ?_ ?_ _) | (with_reducible refine Below.trans ?_ (Below.mono (by assumption) ?_)) | go_size | (simp at *; omega)))
    clear hb1
    have q0 : w1.cell? ⟨w.heap.size, 0, none⟩ = some (.int .i64 y) := by rw [hc _ _ (by simp)]; simp
    have q1 : w1.cell? ⟨w.heap.size, 1, none⟩ = some (.int .i64 m) := by rw [hc _ _ (by simp)]; simp
    have q2 : w1.cell? ⟨w.heap.size, 2, none⟩ = some (.int .i64 d) := by rw [hc _ _ (by simp)]; simp
    clear hc hf
    go_wp2_with fail
    go_region_held3 (fun w' => w'.cell? ⟨w.heap.size, 0, none⟩ = some (.int .i64 y) ∧ w'.cell? ⟨w.heap.size, 1, none⟩ = some (.int .i64 m) ∧ w'.cell? ⟨w.heap.size, 2, none⟩ = some (.int .i64 d)) (first | go_keep | (refine ⟨?_, ?_, ?_⟩ <;> (rw [hc2 _ _ (by go_size)]; simp [q0, q1, q2])))
      (first
        | (go_at_call 79; refine (years_any y _ (by omega) (by omega)).mono ?_; rintro e w' ⟨rfl, rfl⟩)
        | (go_at_call 80; refine (ahead_any y m _ (by omega) (by omega)).mono ?_; rintro e w2 ⟨rfl, hb2⟩; obtain ⟨hc2, hf2⟩ := bcell hb2))
    all_goals
      go_simp
      go_wp2
      go_ret2
      have w1_ : IntKind.i64.wrap (yearsV y + aheadV y m) = yearsV y + aheadV y m := IntWalk.i64_in _ (by omega)
      have w2_ : IntKind.i64.wrap (yearsV y + aheadV y m + d) = yearsV y + aheadV y m + d := IntWalk.i64_in _ (by omega)
      have w3_ : IntKind.i64.wrap (yearsV y + aheadV y m + d - 1) = yearsV y + aheadV y m + d - 1 := IntWalk.i64_in _ (by omega)
      refine ⟨ret_int2 ?_ H2.out.symm, ?_⟩
      · rw [w1_, w2_, w3_]; exact H1.out.symm
      · exact hB1.drew.trans (hb2.mono (Nat.le_of_lt hz1))
end Go.Proofs.Ytojdngkleiokgaa
