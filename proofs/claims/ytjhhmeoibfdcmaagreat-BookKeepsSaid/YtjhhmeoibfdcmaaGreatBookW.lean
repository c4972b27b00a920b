/- Plain law of books: the weeks of a unit come to what it comes to. -/
import Derived.Test.YtjhhmeoibfdcmaaGreatMBt
namespace Go.Proofs.YtjhhmeoibfdcmaaGreat
open Go.RowKit Qd
set_option linter.unusedSimpArgs false
set_option linter.unusedVariables false

theorem week_facts {c : Cal} {y : Int} (hf : frameE c 5 y = 0) (i : Nat) (hi : i < nWk c y) :
    unitE c ⟨5, y, (i : Int) + 1⟩ = 0 ∧ cutA c ⟨5, y, (i : Int) + 1⟩ = i ∧ cutB c ⟨5, y, (i : Int) + 1⟩ = i + 1 ∧ spV c ⟨5, y, (i : Int) + 1⟩ = ⟨dayW c y i, dayW c y (i + 1) - 1⟩ := by
  obtain ⟨h1, h2, h3⟩ := un_mk hf i (by rw [cnt_5]; exact hi)
  have e : ∀ j, cutN c y 5 j = j := fun j => by simp [cutN]
  rw [e] at h2 h3
  exact ⟨h1, h2, h3, by rw [sp_get h1, h2, h3]⟩
theorem inD_cons (s : Sp) (p : Po) (P : List Po) : (inD s (p :: P)).sum = (if s.a ≤ p.day ∧ p.day ≤ s.b then p.n else 0) + (inD s P).sum := by
  unfold inD
  by_cases h : s.a ≤ p.day ∧ p.day ≤ s.b
  · rw [List.filter_cons_of_pos (by simpa using h), if_pos h]; simp
  · rw [List.filter_cons_of_neg (by simpa using h), if_neg h]; simp
theorem inD_add (P : List Po) {A B C : Int} (h1 : A ≤ B) (h2 : B ≤ C) : (inD ⟨A, B - 1⟩ P).sum + (inD ⟨B, C - 1⟩ P).sum = (inD ⟨A, C - 1⟩ P).sum := by
  induction P with
  | nil => rfl
  | cons p P ih =>
    rw [inD_cons, inD_cons, inD_cons]
    simp only
    by_cases g1 : A ≤ p.day ∧ p.day ≤ B - 1
    · rw [if_pos g1, if_neg (by omega), if_pos (by omega)]; omega
    · rw [if_neg g1]
      by_cases g2 : B ≤ p.day ∧ p.day ≤ C - 1
      · rw [if_pos g2, if_pos (by omega)]; omega
      · rw [if_neg g2, if_neg (by omega)]; omega
theorem inD_none (P : List Po) (A : Int) : (inD ⟨A, A - 1⟩ P).sum = 0 := by
  induction P with
  | nil => rfl
  | cons p P ih => rw [inD_cons, ih, if_neg (by simp only; omega)]; rfl
theorem tot_week {c : Cal} {y : Int} (hf : frameE c 5 y = 0) (i : Nat) (hi : i < nWk c y) (P : List Po) (f : Un → List Int) :
    (totL c ⟨5, y, (i : Int) + 1⟩ P f).sum = (f ⟨5, y, (i : Int) + 1⟩).sum + (inD ⟨dayW c y i, dayW c y (i + 1) - 1⟩ P).sum := by
  obtain ⟨_, h2, h3, h4⟩ := week_facts hf i hi
  rw [totL, h2, h3, h4, show i + 1 - i = 1 by omega, List.sum_append]
  simp [wkNs]
theorem wks_sum {c : Cal} {y : Int} (hf : frameE c 5 y = 0) (hA : askE c y 1601 = 0) (P : List Po) (f : Un → List Int) (a n : Nat) (h : a + n ≤ nWk c y) :
    ((wkU ⟨5, y, (a : Int) + 1⟩ n).map fun x => (totL c x P f).sum).sum = (wkNs f y a n).sum + (inD ⟨dayW c y a, dayW c y (a + n) - 1⟩ P).sum := by
  induction n with
  | zero => rw [Nat.add_zero, inD_none]; rfl
  | succ n ih =>
    have e : (⟨5, y, (a : Int) + 1 + (n : Int)⟩ : Un) = ⟨5, y, ((a + n : Nat) : Int) + 1⟩ := by congr 1; omega
    rw [wkU_succ, List.map_append, List.sum_append, ih (by omega), wkNs, List.sum_append]
    simp only [List.map_cons, List.map_nil, List.sum_cons, List.sum_nil]
    rw [e, tot_week hf (a + n) (by omega), ← inD_add P (show dayW c y a ≤ dayW c y (a + n) from dayW_le c y hA (by omega) (by omega)) (show dayW c y (a + n) ≤ dayW c y (a + (n + 1)) from dayW_le c y hA (by omega) (by omega))]
    rw [← Nat.add_assoc]
    omega
/-- The weeks of a unit come to what it comes to. -/
theorem tot_wks {c : Cal} {u : Un} (hU : unitE c u = 0) (P : List Po) (f : Un → List Int) : ((wksL c u).map fun x => (totL c x P f).sum).sum = (totL c u P f).sum := by
  obtain ⟨hf, l1, l5, hA, _, _⟩ := un_lv hU
  have hab := cutAB hU
  rw [wksL, wks_sum (frame_lv hf 5 (by omega) (by omega)) hA P f _ _ (by omega), totL, List.sum_append, sp_get hU, show cutA c u + (cutB c u - cutA c u) = cutB c u by omega]
theorem wks_in {c : Cal} {u x : Un} (hU : unitE c u = 0) (h : x ∈ wksL c u) : unitE c x = 0 ∧ x.yr = u.yr ∧ x.lv = 5 := by
  obtain ⟨hf, l1, l5, hA, _, _⟩ := un_lv hU
  have hab := cutAB hU
  obtain ⟨j, hj, rfl⟩ := List.mem_map.1 h
  rw [List.mem_range] at hj
  have e : (⟨5, u.yr, (cutA c u : Int) + 1 + (j : Int)⟩ : Un) = ⟨5, u.yr, ((cutA c u + j : Nat) : Int) + 1⟩ := by congr 1; omega
  refine ⟨?_, rfl, rfl⟩
  simp only
  rw [e]
  exact (week_facts (frame_lv hf 5 (by omega) (by omega)) (cutA c u + j) (by omega)).1
/-- What a unit comes to, where the book may be and the accruals can be split. -/
theorem T_ok {c : Cal} {x : Un} {P : List Po} {A : List Ac} {Z : Parts} (hU : unitE c x = 0) (hC : chkE P A = 0) (hp : Z.pe x.yr = 0) : TE c P A Z x = fitE (totL c x P (Z.f x.yr)).sum ∧ TV c P A Z x = fitV (totL c x P (Z.f x.yr)).sum := by
  simp [TE, tE, TV, tV, hU, hC, hp]
theorem T_zero {c : Cal} {x : Un} {P : List Po} {A : List Ac} {Z : Parts} (h : TE c P A Z x = 0) : unitE c x = 0 ∧ chkE P A = 0 ∧ Z.pe x.yr = 0 ∧ in64 (totL c x P (Z.f x.yr)).sum ∧ TV c P A Z x = (totL c x P (Z.f x.yr)).sum := by
  unfold TE tE at h
  by_cases h1 : unitE c x = 0
  · rw [if_pos h1] at h
    by_cases h2 : chkE P A = 0
    · rw [if_pos h2] at h
      by_cases h3 : Z.pe x.yr = 0
      · rw [if_pos h3] at h
        by_cases h4 : in64 (totL c x P (Z.f x.yr)).sum
        · exact ⟨h1, h2, h3, h4, by rw [(T_ok h1 h2 h3).2, (fit_yes h4).1]⟩
        · rw [(fit_no h4).2] at h; cases h
      · rw [if_neg h3] at h; exact absurd h h3
    · rw [if_neg h2] at h; exact absurd h h2
  · rw [if_neg h1] at h; exact absurd h h1
theorem tots_two {c : Cal} {P : List Po} {A : List Ac} {Z : Parts} {L : List Un} (h : ∀ x ∈ L, TE c P A Z x = 0 ∨ TE c P A Z x = 2) : (totsE c P A Z L = 0 ∧ ∀ x ∈ L, TE c P A Z x = 0) ∨ totsE c P A Z L = 2 := by
  induction L with
  | nil => exact .inl ⟨rfl, fun x h => by simp at h⟩
  | cons x L ih =>
    simp only [totsE]
    rcases h x (by simp) with h1 | h1
    · rw [if_pos h1]
      rcases ih fun y hy => h y (List.mem_cons_of_mem _ hy) with ⟨h2, h3⟩ | h2
      · exact .inl ⟨h2, fun y hy => by rcases List.mem_cons.1 hy with rfl | hy; exact h1; exact h3 y hy⟩
      · exact .inr h2
    · rw [if_neg (by omega)]; exact .inr h1
theorem tots_all {c : Cal} {P : List Po} {A : List Ac} {Z : Parts} {L : List Un} (h : totsE c P A Z L = 0) : ∀ x ∈ L, TE c P A Z x = 0 := by
  induction L with
  | nil => intro x hx; simp at hx
  | cons x L ih =>
    simp only [totsE] at h
    split at h
    · rename_i h1
      intro y hy
      rcases List.mem_cons.1 hy with rfl | hy
      · exact h1
      · exact ih h y hy
    · rename_i h1; exact absurd h h1
theorem map_eq {α : Type} (L : List α) (f g : α → Int) (h : ∀ x ∈ L, f x = g x) : (L.map f).sum = (L.map g).sum := by
  rw [List.map_congr_left h]
/-- In its own year a unit is compared with itself. -/
theorem same_row {c : Cal} {u : Un} {P : List Po} {A : List Ac} {Z : Parts} (hT : TE c P A Z u = 0) :
    (rwE c u 0 P A Z = 0 ∧ rwV c u 0 P A Z = ⟨u, TV c P A Z u, TV c P A Z u, 0, false⟩) ∨ (rwE c u 0 P A Z = 2 ∧ u.lv < 5 ∧ rwV c u 0 P A Z = ⟨⟨0, 0, 0⟩, 0, 0, 0, false⟩) := by
  obtain ⟨hU, hC, hp, h64, hV⟩ := T_zero hT
  obtain ⟨hf, l1, l5, hA, hx, hi⟩ := un_lv hU
  obtain ⟨hok, hk, _, _, hy1, hy2, _⟩ := frame_ok hf
  obtain ⟨_, hlen, hin⟩ := wks_run hU
  have hL0 : twL0 c u 0 = wksL c u := by
    unfold twL0
    rw [Int.add_zero]
    split
    · exact mon_self hU
    · rename_i h6; exact cmp_self hU h6
  have hE : twE c u 0 = 0 := by
    rw [twE, if_pos hU, if_pos (by omega), hL0, if_pos hin, if_neg (by omega)]
  have hL : twL c u 0 = wksL c u := by rw [twL, if_pos hE, hL0]
  have hwk : ∀ x ∈ wksL c u, TE c P A Z x = 0 ∨ TE c P A Z x = 2 := by
    intro x hx
    obtain ⟨e1, e2, _⟩ := wks_in hU hx
    rw [(T_ok e1 hC (by rw [e2]; exact hp)).1]
    unfold fitE
    split <;> simp
  have h0 : rwE c u 0 P A Z = if totsE c P A Z (wksL c u) = 0 then (if fitE (thS c u 0 P A Z) = 0 then fitE (TV c P A Z u - thV c u 0 P A Z) else fitE (thS c u 0 P A Z)) else totsE c P A Z (wksL c u) := by
    have hth : thE c u 0 P A Z = if totsE c P A Z (wksL c u) = 0 then fitE (thS c u 0 P A Z) else totsE c P A Z (wksL c u) := by
      rw [thE, hE, hL]; simp
    rw [rwE, if_pos hT, hth]
    by_cases h1 : totsE c P A Z (wksL c u) = 0
    · rw [if_pos h1, if_pos h1]
    · rw [if_neg h1, if_neg h1, if_neg h1]
  rcases tots_two hwk with ⟨h1, h2⟩ | h1
  · left
    have hS : thS c u 0 P A Z = TV c P A Z u := by
      rw [thS, hL, hV, ← tot_wks hU P (Z.f u.yr)]
      refine map_eq _ _ _ fun x hx => ?_
      obtain ⟨e1, e2, _⟩ := wks_in hU hx
      have := (T_zero (h2 x hx)).2.2.2.2
      rw [this, e2]
    have hO : thOk c u 0 P A Z = true := by simp [thOk, hE, hL, h1]
    have hth : thV c u 0 P A Z = TV c P A Z u := by rw [thV, if_pos hO, hS, (fit_yes (TV_in c P A Z u)).1]
    have hR : rwE c u 0 P A Z = 0 := by
      rw [h0, if_pos h1, hS, if_pos (fit_yes (TV_in c P A Z u)).2, hth, Int.sub_self]; decide
    refine ⟨hR, ?_⟩
    rw [rwV, if_pos hR, hth, hO, Int.sub_self]; rfl
  · right
    have hR : rwE c u 0 P A Z = 2 := by rw [h0, if_neg (by omega), h1]
    refine ⟨hR, ?_, by rw [rwV, if_neg (by omega)]⟩
    rcases Int.lt_or_le u.lv 5 with h5 | h5
    · exact h5
    · exfalso
      obtain ⟨lv, yr, ix⟩ := u
      simp only at l5 h5
      obtain rfl : lv = 5 := by omega
      obtain ⟨_, ei, hlt⟩ := unit_ok hU
      simp only at ei hlt
      rw [cnt_5] at hlt
      obtain ⟨q1, q2, q3, q4⟩ := week_facts hf (uI ⟨5, yr, ix⟩) hlt
      rw [← ei] at q1 q2 q3 q4
      have hw : wksL c ⟨5, yr, ix⟩ = [⟨5, yr, ix⟩] := by
        rw [wksL, q2, q3, show ∀ n : Nat, n + 1 - n = 1 by omega, wkU_succ]
        simp [wkU, upto]
        omega
      rw [hw] at h1
      simp [totsE, hT] at h1
end Go.Proofs.YtjhhmeoibfdcmaaGreat
