/- Twin: spans that rise, and their sums. -/
import Derived.Test.YtamnccechaooaaaGreatNTwinR
namespace Go.Proofs.YtamnccechaooaaaGreat
open Go.RowKit Qd

/-- The last day of a list of spans. -/
def lastS (d : Int) (l : List Sp) : Int := match l.getLast? with | some p => p.b | none => d
theorem lastS_nil (d : Int) : lastS d [] = d := rfl
theorem lastS_snoc (d : Int) (l : List Sp) (s : Sp) : lastS d (l ++ [s]) = s.b := by simp [lastS]
theorem adj_succ (f : Nat → Int) (j : Nat) : adjS f (j + 1) = adjS f j ++ [⟨f j, f (j + 1) - 1⟩] := upto_succ _ _
theorem adj_len (f : Nat → Int) (j : Nat) : (adjS f j).length = j := by
  induction j with
  | zero => rfl
  | succ j ih => rw [adj_succ, List.length_append, ih]; rfl
theorem adj_take (f : Nat → Int) (m j : Nat) (h : j ≤ m) : (adjS f m).take j = adjS f j := by
  obtain ⟨i, rfl⟩ := Nat.le.dest h
  have e : adjS f (j + i) = adjS f j ++ upto (fun x => (⟨f (j + x), f (j + x + 1) - 1⟩ : Sp)) i := upto_add _ j i
  rw [e]
  exact List.take_left' (adj_len f j)
theorem adj_sum (f : Nat → Int) (j : Nat) : sumR (adjS f j) = f j - f 0 := by
  induction j with
  | zero => simp [adjS, upto, sumR]
  | succ j ih => rw [adj_succ, sumR_snoc, ih]; simp only; omega
theorem adj_last (f : Nat → Int) (j : Nat) (l : List Sp) (d : Int) : lastS d (l ++ adjS f j) = if j = 0 then lastS d l else f j - 1 := by
  cases j with
  | zero => simp [adjS, upto]
  | succ j => rw [adj_succ, ← List.append_assoc, lastS_snoc]; simp
theorem sumR_app (l1 l2 : List Sp) : sumR (l1 ++ l2) = sumR l1 + sumR l2 := by simp [sumR]
/-- Spans that rise and are not empty; d: a day ahead of the first one, e: the days between two of them, at the least. -/
def Ris (d e : Int) (S : List Sp) : Prop := ∀ (j : Nat) (s : Sp), S[j]? = some s → lastS d (S.take j) + e < s.a ∧ s.a ≤ s.b
theorem ris_adj {f g : Nat → Int} {m n : Nat} {d : Int} (h0 : d < f 0) (hm : 0 < m) (hf : ∀ j, j < m → f j < f (j + 1)) (hg : ∀ j, j < n → g j < g (j + 1)) (hfg : 0 < n → f m < g 0) : Ris d 0 (adjS f m ++ adjS g n) := by
  intro j s hs
  by_cases hj : j < m
  · rw [List.getElem?_append_left (by rw [adj_len]; exact hj)] at hs
    have e1 : (adjS f m)[j]? = some ⟨f j, f (j + 1) - 1⟩ := upto_get _ m j hj
    rw [e1] at hs
    cases hs
    have e2 : (adjS f m ++ adjS g n).take j = adjS f j := by rw [List.take_append_of_le_length (by rw [adj_len]; omega), adj_take f m j (by omega)]
    have e3 := adj_last f j [] d
    rw [List.nil_append] at e3
    rw [e2, e3, lastS_nil]
    have := hf j hj
    simp only
    split
    · rename_i hz; subst hz; omega
    · omega
  · obtain ⟨i, rfl⟩ : ∃ i, j = m + i := ⟨j - m, by omega⟩
    rw [List.getElem?_append_right (by rw [adj_len]; omega), adj_len, show m + i - m = i by omega] at hs
    have hi : i < n := by
      have := (List.getElem?_eq_some_iff.1 hs).1
      rwa [adj_len] at this
    have e1 : (adjS g n)[i]? = some ⟨g i, g (i + 1) - 1⟩ := upto_get _ n i hi
    rw [e1] at hs
    cases hs
    have e2 : (adjS f m ++ adjS g n).take (m + i) = adjS f m ++ adjS g i := by
      rw [List.take_append, adj_len, show m + i - m = i by omega, adj_take g n i (by omega), List.take_of_length_le (by rw [adj_len]; omega)]
    have e4 := adj_last f m [] d
    rw [List.nil_append, if_neg (by omega)] at e4
    rw [e2, adj_last, e4]
    have h1 := hg i hi
    have h2 := hfg (by omega)
    simp only
    split
    · rename_i hz; subst hz; omega
    · omega
theorem ris_sum {d : Int} {S : List Sp} (h : Ris d 0 S) (hd : -1 ≤ d) : ∀ j, j ≤ S.length → 0 ≤ sumR (S.take j) ∧ sumR (S.take j) ≤ lastS d (S.take j) + 1 := by
  intro j
  induction j with
  | zero => intro _; simp [sumR, lastS]; omega
  | succ j ih =>
    intro hj
    obtain ⟨s, hs⟩ : ∃ s, S[j]? = some s := ⟨_, List.getElem?_eq_getElem (by omega)⟩
    have h1 := ih (by omega)
    have h2 := h j s hs
    have e : S.take (j + 1) = S.take j ++ [s] := by rw [List.take_add_one, hs]; rfl
    rw [e, sumR_snoc, lastS_snoc]
    omega
/-- Weeks rise, spans rise and do not touch, and both have as many days. -/
theorem tw_runs {c : Cal} {u : Un} {k : Int} (h : twE c u k = 0) : Ris (-1) 0 ((twL c u k).map (spV c)) ∧ Ris (-2) 1 (rnL c u k) ∧ sumR ((twL c u k).map (spV c)) = sumR (rnL c u k) ∧ 0 < (rnL c u k).length ∧ (rnL c u k).length ≤ 2 ∧ (twL c u k).length ≤ 60 ∧ 0 < (twL c u k).length ∧ (∀ x ∈ twL c u k, unitE c x = 0 ∧ x.lv = 5 ∧ 0 ≤ (spV c x).a ∧ (spV c x).a ≤ (spV c x).b ∧ (spV c x).b ≤ 3068037) ∧ (∀ s ∈ rnL c u k, 0 ≤ s.a ∧ s.a ≤ s.b ∧ s.b ≤ 3068037) := by
  obtain ⟨f, g, m, n, hm, hmn, hlen, hmap, hf, hg, hfg, hun⟩ := tw_form h
  have hall : ∀ x ∈ twL c u k, unitE c x = 0 ∧ x.lv = 5 ∧ 0 ≤ (spV c x).a ∧ (spV c x).a ≤ (spV c x).b ∧ (spV c x).b ≤ 3068037 := fun x hx => ⟨(hun x hx).1, (hun x hx).2, sp_bd2 (hun x hx).1⟩
  have hS : ∀ s ∈ adjS f m ++ adjS g n, 0 ≤ s.a ∧ s.a ≤ s.b ∧ s.b ≤ 3068037 := by
    intro s hs
    rw [← hmap] at hs
    obtain ⟨x, hx, rfl⟩ := List.mem_map.1 hs
    exact (hall x hx).2.2
  have hin : ∀ j, j < m → (⟨f j, f (j + 1) - 1⟩ : Sp) ∈ adjS f m ++ adjS g n := fun j hj => List.mem_append_left _ (List.mem_of_getElem? (upto_get _ m j hj))
  have hin2 : ∀ j, j < n → (⟨g j, g (j + 1) - 1⟩ : Sp) ∈ adjS f m ++ adjS g n := fun j hj => List.mem_append_right _ (List.mem_of_getElem? (upto_get _ n j hj))
  have f0 := hS _ (hin 0 hm)
  have f1 := hS _ (hin (m - 1) (by omega))
  rw [show m - 1 + 1 = m by omega] at f1
  simp only at f0 f1
  have mono : ∀ (q : Nat → Int) (z : Nat), (∀ j, j < z → q j < q (j + 1)) → 0 < z → q 0 < q z := by
    intro q z hq
    induction z with
    | zero => intro h; omega
    | succ z ih =>
      intro _
      rcases Nat.eq_zero_or_pos z with rfl | hz
      · exact hq 0 (by omega)
      · have a1 := ih (fun j hj => hq j (by omega)) hz
        have a2 := hq z (by omega)
        omega
  have hfm := mono f m hf hm
  have hR : rnL c u k = if n = 0 then [⟨f 0, f m - 1⟩] else [⟨f 0, f m - 1⟩, ⟨g 0, g n - 1⟩] := by rw [rnL, hmap, rn_form hm hfg]
  have hsum : sumR ((twL c u k).map (spV c)) = (f m - f 0) + (g n - g 0) := by rw [hmap, sumR_app, adj_sum, adj_sum]
  refine ⟨by rw [hmap]; exact ris_adj (by omega) hm hf hg hfg, ?_, ?_, ?_, ?_, by omega, by omega, hall, ?_⟩
  all_goals rw [hR]
  · split
    · intro j s hs
      match j, hs with
      | 0, hs => cases hs; simp [lastS]; omega
    · rename_i hn
      have g1 := hS _ (hin2 0 (by omega))
      have hgn := mono g n hg (by omega)
      have h3 := hfg (by omega)
      intro j s hs
      match j, hs with
      | 0, hs => cases hs; simp [lastS]; omega
      | 1, hs => cases hs; simp [lastS]; omega
  · rw [hsum]
    split
    · rename_i hn; subst hn; simp [sumR]; omega
    · simp [sumR]; omega
  · split <;> simp
  · split <;> simp
  · intro s hs
    split at hs
    · simp only [List.mem_singleton] at hs; subst hs; simp only; omega
    · rename_i hn
      have g1 := hS _ (hin2 0 (by omega))
      have g2 := hS _ (hin2 (n - 1) (by omega))
      rw [show n - 1 + 1 = n by omega] at g2
      simp only at g1 g2
      have hgn := mono g n hg (by omega)
      simp only [List.mem_cons, List.not_mem_nil, or_false] at hs
      rcases hs with rfl | rfl <;> simp only <;> omega
end Go.Proofs.YtamnccechaooaaaGreat
