/- Plain law of books: the units of a finer level come to what a unit comes to. -/
import Derived.Test.YtamnccechaooaaaGreatBookY
import Derived.Test.YtamnccechaooaaaGreatNTwinU
namespace Go.Proofs.YtamnccechaooaaaGreat
open Go.RowKit Qd
set_option linter.unusedSimpArgs false
set_option linter.unusedVariables false

theorem wkNs_add (f : Un → List Int) (y : Int) (a m n : Nat) : wkNs f y a (m + n) = wkNs f y a m ++ wkNs f y (a + m) n := by
  induction n with
  | zero => simp [wkNs]
  | succ n ih =>
    rw [← Nat.add_assoc, wkNs, ih, wkNs, List.append_assoc]
    congr 3
    simp only [Un.mk.injEq, true_and]
    omega
theorem units_sum {c : Cal} {y lv : Int} (hf : frameE c lv y = 0) (P : List Po) (f : Un → List Int) (i m : Nat) (h : i + m ≤ cntL c y lv) :
    (upto (fun j : Nat => (totL c ⟨lv, y, ((i + j : Nat) : Int) + 1⟩ P f).sum) m).sum = (wkNs f y (cutN c y lv i) (cutN c y lv (i + m) - cutN c y lv i)).sum + (inD ⟨dayW c y (cutN c y lv i), dayW c y (cutN c y lv (i + m)) - 1⟩ P).sum := by
  obtain ⟨hok, hk, l1, l5, _, _, hA⟩ := frame_ok hf
  induction m with
  | zero => rw [Nat.add_zero, inD_none, Nat.sub_self]; rfl
  | succ m ih =>
    obtain ⟨hU, ca, cb⟩ := un_mk hf (i + m) (by omega)
    have h1 := cut_mono c y hA lv l1 l5 (show i ≤ i + m by omega) (by omega)
    have h2 := cut_lt c y hA lv l1 l5 (i + m) (by omega)
    have h3 := cut_le_nWk c y hA lv l1 l5 (i + m + 1) (by omega)
    rw [upto_succ, List.sum_append, ih (by omega)]
    simp only [List.sum_cons, List.sum_nil]
    rw [totL, ca, cb, sp_get hU, ca, cb, List.sum_append, show i + (m + 1) = i + m + 1 by omega]
    rw [show cutN c y lv (i + m + 1) - cutN c y lv i = (cutN c y lv (i + m) - cutN c y lv i) + (cutN c y lv (i + m + 1) - cutN c y lv (i + m)) by omega, wkNs_add, List.sum_append, show cutN c y lv i + (cutN c y lv (i + m) - cutN c y lv i) = cutN c y lv (i + m) by omega]
    rw [← inD_add P (dayW_le c y hA h1 (by omega)) (dayW_le c y hA (Nat.le_of_lt h2) h3)]
    simp only
    omega
theorem roll_zero {c : Cal} {lv y : Int} {P : List Po} {A : List Ac} {Z : Parts} (h : rollE c lv y P A Z = 0) : frameE c lv y = 0 ∧ chkE P A = 0 ∧ Z.pe y = 0 ∧ ∀ j : Nat, j < cntL c y lv → TE c P A Z ⟨lv, y, (j : Int) + 1⟩ = 0 := by
  unfold rollE at h
  split at h
  · rename_i h1
    split at h
    · rename_i h2
      split at h
      · rename_i h3
        exact ⟨h1, h2, h3, fun j hj => tots_all h _ (List.mem_of_getElem? (yUg hj))⟩
      · rename_i h3; exact absurd h h3
    · rename_i h2; exact absurd h h2
  · rename_i h1; exact absurd h h1
theorem sums_err {c : Cal} {u : Un} {lv : Int} {P : List Po} {A : List Ac} {Z : Parts} (hR : rollE c lv u.yr P A Z = 0) (hD : ¬ dnE c u lv = 0) : TE c P A Z u = 1 ∨ TE c P A Z u = 13 ∨ dnE c u lv = 1 := by
  obtain ⟨hf, _, _, _⟩ := roll_zero hR
  obtain ⟨hok, hk, l1, l5, y1, y2, hA⟩ := frame_ok hf
  by_cases hU : unitE c u = 0
  · right; right
    rw [dnE, if_pos hU] at hD ⊢
    split
    · rename_i h; rw [if_pos h] at hD; exact absurd rfl hD
    · rfl
  · have hT : TE c P A Z u = unitE c u := by simp [TE, tE, hU]
    rw [hT]
    unfold unitE at hU ⊢
    by_cases hl : 1 ≤ u.lv ∧ u.lv ≤ 5
    · have h0 : frameE c u.lv u.yr = 0 := by simp [frameE, hk, hl, y1, y2]
      rw [if_pos h0] at hU ⊢
      split
      · rename_i h; rw [if_pos h] at hU; exact absurd rfl hU
      · exact .inr (.inl rfl)
    · have h0 : frameE c u.lv u.yr = 1 := by
        unfold frameE
        rw [if_pos hk, if_neg hl]
      rw [h0]; exact .inl rfl
/-- The units of a finer level. -/
theorem sums_T {c : Cal} {u : Un} {lv : Int} {P : List Po} {A : List Ac} {Z : Parts} (hR : rollE c lv u.yr P A Z = 0) (hD : dnE c u lv = 0) :
    ∃ i n : Nat, 0 < n ∧ i + n ≤ cntL c u.yr lv ∧ dnA c u lv = ⟨lv, u.yr, (i : Int) + 1⟩ ∧ dnB c u lv = ⟨lv, u.yr, (i : Int) + n⟩ ∧
      TV c P A Z u = fitV (upto (fun j : Nat => TV c P A Z ⟨lv, u.yr, ((i + j : Nat) : Int) + 1⟩) n).sum ∧ TE c P A Z u = fitE (upto (fun j : Nat => TV c P A Z ⟨lv, u.yr, ((i + j : Nat) : Int) + 1⟩) n).sum := by
  obtain ⟨hf, hC, hp, hall⟩ := roll_zero hR
  have hU : unitE c u = 0 := by
    by_cases hU : unitE c u = 0
    · exact hU
    · rw [dnE, if_neg hU] at hD; exact absurd hD hU
  have hl : u.lv ≤ lv ∧ lv ≤ 5 := by
    by_cases h : u.lv ≤ lv ∧ lv ≤ 5
    · exact h
    · rw [dnE, if_pos hU, if_neg h] at hD; cases hD
  obtain ⟨i, n, h1, h2, h3, h4, h5, h6⟩ := dn_parts hU hl.1 hl.2
  have hs : (upto (fun j : Nat => TV c P A Z ⟨lv, u.yr, ((i + j : Nat) : Int) + 1⟩) n).sum = (totL c u P (Z.f u.yr)).sum := by
    have e : upto (fun j : Nat => TV c P A Z ⟨lv, u.yr, ((i + j : Nat) : Int) + 1⟩) n = upto (fun j : Nat => (totL c ⟨lv, u.yr, ((i + j : Nat) : Int) + 1⟩ P (Z.f u.yr)).sum) n := by
      refine upto_congr fun j hj => ?_
      exact (T_zero (hall (i + j) (by omega))).2.2.2.2
    rw [e, units_sum hf P _ i n h2, h5, h6, totL, List.sum_append, sp_get hU]
  obtain ⟨t1, t2⟩ := T_ok (Z := Z) hU hC hp
  exact ⟨i, n, h1, h2, h3, h4, by rw [hs, t2], by rw [hs, t1]⟩
end Go.Proofs.YtamnccechaooaaaGreat
