/- Which weeks make a unit: the plain law behind frames. -/
import Derived.Test.YtepmfpgljcbkmaaFrameA
namespace Go.Proofs.Ytepmfpgljcbkmaa
open Go.RowKit Qd
set_option linter.unusedSimpArgs false
set_option linter.unusedVariables false

/-- How many units of a level a year has. -/
def cntL (c : Cal) (y : Int) (lv : Int) : Nat := if lv = 1 then 1 else if lv = 2 then 2 else if lv = 3 then 4 else if lv = 4 then nPer c y else nWk c y
/-- How many periods i units of a level have, but weeks. -/
def pcut (n : Nat) (lv : Int) (i : Nat) : Nat := if lv = 1 then n * i else if lv = 2 then n * (2 * i) / 4 else if lv = 3 then n * i / 4 else i
/-- How many weeks i units of a level have. -/
def cutN (c : Cal) (y : Int) (lv : Int) (i : Nat) : Nat := if lv = 5 then i else cumW c y (pcut (nPer c y) lv i)
/-- The last weeks of all units of a level. -/
def lastsL (c : Cal) (y : Int) (lv : Int) : List Int := upto (fun i => (cutN c y lv (i + 1) : Int)) (cntL c y lv)
theorem lasts_len (c : Cal) (y lv : Int) : (lastsL c y lv).length = cntL c y lv := by simp [lastsL, upto_length]
theorem lasts_get (c : Cal) (y lv : Int) (i : Nat) (hi : i < cntL c y lv) : (lastsL c y lv)[i]?.getD 0 = (cutN c y lv (i + 1) : Int) := by simp [lastsL, upto, hi]

theorem nPer_bd (c : Cal) (y : Int) (hE : askE c y 1601 = 0) : 12 ≤ nPer c y ∧ nPer c y ≤ 52 := (last_end c y hE).2
theorem cnt_bd (c : Cal) (y : Int) (hE : askE c y 1601 = 0) (lv : Int) : 1 ≤ cntL c y lv ∧ cntL c y lv ≤ 60 := by
  have := nPer_bd c y hE
  have := nWk_bd c y hE
  unfold cntL
  repeat' split
  all_goals omega
theorem cut_0 (c : Cal) (y lv : Int) : cutN c y lv 0 = 0 := by
  unfold cutN pcut
  repeat' split
  all_goals simp [cumW]
theorem cut_end (c : Cal) (y lv : Int) (h1 : 1 ≤ lv) (h5 : lv ≤ 5) : cutN c y lv (cntL c y lv) = nWk c y := by
  have h : lv = 1 ∨ lv = 2 ∨ lv = 3 ∨ lv = 4 ∨ lv = 5 := by omega
  rcases h with rfl | rfl | rfl | rfl | rfl
  · simp [cutN, cntL, pcut, nWk]
  · simp [cutN, cntL, pcut, nWk]
  · simp [cutN, cntL, pcut, nWk]
  · simp [cutN, cntL, pcut, nWk]
  · simp [cutN, cntL, pcut, nWk]
theorem pcut_lt (n : Nat) (lv : Int) (hn : 12 ≤ n) (i : Nat) : pcut n lv i < pcut n lv (i + 1) := by
  unfold pcut
  repeat' split
  · rw [Nat.mul_succ]; omega
  · have : n * (2 * (i + 1)) = n * (2 * i) + 2 * n := by rw [Nat.mul_add, Nat.mul_add]; omega
    omega
  · have : n * (i + 1) = n * i + n := by rw [Nat.mul_succ]
    omega
  · omega
theorem pcut_end (n : Nat) (lv : Int) (c : Cal) (y : Int) (h1 : 1 ≤ lv) (h5 : lv ≤ 4) : pcut (nPer c y) lv (cntL c y lv) = nPer c y := by
  have h : lv = 1 ∨ lv = 2 ∨ lv = 3 ∨ lv = 4 := by omega
  rcases h with rfl | rfl | rfl | rfl <;> simp [cntL, pcut]
theorem pcut_mono (n : Nat) (lv : Int) (hn : 12 ≤ n) (i j : Nat) (h : i ≤ j) : pcut n lv i ≤ pcut n lv j := by
  obtain ⟨m, rfl⟩ : ∃ m, j = i + m := ⟨j - i, by omega⟩
  induction m with
  | zero => exact Nat.le_refl _
  | succ m ih =>
    have h1 := ih (by omega)
    have h2 := pcut_lt n lv hn (i + m)
    rw [← Nat.add_assoc]
    omega
theorem cut_lt (c : Cal) (y : Int) (hE : askE c y 1601 = 0) (lv : Int) (h1 : 1 ≤ lv) (h5 : lv ≤ 5) (i : Nat) (hi : i < cntL c y lv) : cutN c y lv i < cutN c y lv (i + 1) := by
  unfold cutN
  split
  · omega
  · have hn := (nPer_bd c y hE).1
    have h2 := pcut_mono (nPer c y) lv hn (i + 1) (cntL c y lv) (by omega)
    rw [pcut_end 0 lv c y h1 (by omega)] at h2
    exact cumW_lt c y hE (pcut_lt _ lv hn i) h2
theorem cut_mono (c : Cal) (y : Int) (hE : askE c y 1601 = 0) (lv : Int) (h1 : 1 ≤ lv) (h5 : lv ≤ 5) {i j : Nat} (h : i ≤ j) (hj : j ≤ cntL c y lv) : cutN c y lv i ≤ cutN c y lv j := by
  obtain ⟨m, rfl⟩ : ∃ m, j = i + m := ⟨j - i, by omega⟩
  induction m with
  | zero => exact Nat.le_refl _
  | succ m ih =>
    have h2 := ih (by omega) (by omega)
    have h3 := cut_lt c y hE lv h1 h5 (i + m) (by omega)
    rw [← Nat.add_assoc]
    omega
theorem cut_slt (c : Cal) (y : Int) (hE : askE c y 1601 = 0) (lv : Int) (h1 : 1 ≤ lv) (h5 : lv ≤ 5) {i j : Nat} (h : i < j) (hj : j ≤ cntL c y lv) : cutN c y lv i < cutN c y lv j := by
  have h2 := cut_lt c y hE lv h1 h5 i (by omega)
  have h3 := cut_mono c y hE lv h1 h5 (show i + 1 ≤ j by omega) hj
  omega
theorem cut_le_nWk (c : Cal) (y : Int) (hE : askE c y 1601 = 0) (lv : Int) (h1 : 1 ≤ lv) (h5 : lv ≤ 5) (i : Nat) (hi : i ≤ cntL c y lv) : cutN c y lv i ≤ nWk c y := by
  have := cut_mono c y hE lv h1 h5 hi (Nat.le_refl _)
  rwa [cut_end c y lv h1 h5] at this
/-- Each cut of a level is one of the next finer one. -/
theorem cut_next (c : Cal) (y : Int) (hE : askE c y 1601 = 0) (lv : Int) (h1 : 1 ≤ lv) (h4 : lv ≤ 4) (i : Nat) (hi : i ≤ cntL c y lv) : ∃ j, j ≤ cntL c y (lv + 1) ∧ cutN c y lv i = cutN c y (lv + 1) j := by
  have h : lv = 1 ∨ lv = 2 ∨ lv = 3 ∨ lv = 4 := by omega
  rcases h with rfl | rfl | rfl | rfl
  · refine ⟨2 * i, by simp [cntL] at hi ⊢; omega, ?_⟩
    simp only [cutN, pcut]
    simp
    congr 1
    have : nPer c y * (2 * (2 * i)) = 4 * (nPer c y * i) := by rw [← Nat.mul_assoc 2 2 i, Nat.mul_left_comm]
    omega
  · exact ⟨2 * i, by simp [cntL] at hi ⊢; omega, by simp [cutN, pcut]⟩
  · refine ⟨nPer c y * i / 4, ?_, by simp [cutN, pcut]⟩
    have h2 : nPer c y * i ≤ nPer c y * 4 := Nat.mul_le_mul_left _ (by simpa [cntL] using hi)
    simp [cntL]
    omega
  · refine ⟨cumW c y i, ?_, by simp [cutN, pcut]⟩
    have := cumW_le c y (show i ≤ nPer c y by simpa [cntL] using hi)
    simpa [cntL, nWk] using this
theorem cut_finer (c : Cal) (y : Int) (hE : askE c y 1601 = 0) (a b : Int) (h1 : 1 ≤ a) (hab : a ≤ b) (h5 : b ≤ 5) (i : Nat) (hi : i ≤ cntL c y a) : ∃ j, j ≤ cntL c y b ∧ cutN c y a i = cutN c y b j := by
  obtain ⟨m, rfl⟩ : ∃ m : Nat, b = a + m := ⟨(b - a).toNat, by omega⟩
  induction m with
  | zero => exact ⟨i, by simpa using hi, by simp⟩
  | succ m ih =>
    obtain ⟨j, hj, e⟩ := ih (by omega) (by omega)
    obtain ⟨k, hk, e2⟩ := cut_next c y hE (a + m) (by omega) (by omega) j hj
    have e3 : a + ((m + 1 : Nat) : Int) = a + m + 1 := by omega
    rw [e3]
    exact ⟨k, hk, by rw [e, e2]⟩

/-- Where the first number that is not below x stands. -/
def bsL (l : List Int) (x : Int) : Nat := (l.takeWhile fun a => decide (a < x)).length
theorem bsL_le (l : List Int) (x : Int) : bsL l x ≤ l.length := by unfold bsL; exact (List.takeWhile_sublist _).length_le
theorem bsL_eq (l : List Int) (x : Int) (k : Nat) (hk : k ≤ l.length) (h : ∀ j, j < k → l[j]?.getD 0 < x) (h2 : k < l.length → x ≤ l[k]?.getD 0) : bsL l x = k := by
  rcases Nat.lt_or_eq_of_le hk with h3 | h3
  · refine takeWhile_stop _ l k h3 (fun j hj => ?_) ?_
    · have := h j hj
      rw [List.getElem?_eq_getElem (by omega)] at this
      simpa using this
    · have := h2 h3
      rw [List.getElem?_eq_getElem h3] at this
      simpa using this
  · rw [h3]
    refine takeWhile_all _ l (fun j hj => ?_)
    have := h j (by omega)
    rw [List.getElem?_eq_getElem hj] at this
    simpa using this
/-- In which unit of a level, counted from 0, the week behind w of them lies. -/
def ixN (c : Cal) (y lv : Int) (w : Nat) : Nat := bsL (lastsL c y lv) ((w : Int) + 1)
theorem ix_eq (c : Cal) (y : Int) (hE : askE c y 1601 = 0) (lv : Int) (h1 : 1 ≤ lv) (h5 : lv ≤ 5) (w i : Nat) (hi : i < cntL c y lv) (ha : cutN c y lv i ≤ w) (hb : w < cutN c y lv (i + 1)) : ixN c y lv w = i := by
  refine bsL_eq _ _ i (by rw [lasts_len]; omega) (fun j hj => ?_) (fun _ => ?_)
  · rw [lasts_get c y lv j (by omega)]
    have := cut_mono c y hE lv h1 h5 (show j + 1 ≤ i by omega) (by omega)
    omega
  · rw [lasts_get c y lv i hi]
    omega
theorem cut_find (c : Cal) (y : Int) (hE : askE c y 1601 = 0) (lv : Int) (h1 : 1 ≤ lv) (h5 : lv ≤ 5) (w : Nat) (hw : w < nWk c y) : ∃ i, i < cntL c y lv ∧ cutN c y lv i ≤ w ∧ w < cutN c y lv (i + 1) := by
  have key : ∀ m, m ≤ cntL c y lv → w < cutN c y lv m → ∃ i, i < cntL c y lv ∧ cutN c y lv i ≤ w ∧ w < cutN c y lv (i + 1) := by
    intro m
    induction m with
    | zero => intro _ h; rw [cut_0] at h; omega
    | succ m ih =>
      intro hm h
      rcases Nat.lt_or_ge w (cutN c y lv m) with h2 | h2
      · exact ih (by omega) h2
      · exact ⟨m, by omega, h2, h⟩
  exact key _ (Nat.le_refl _) (by rw [cut_end c y lv h1 h5]; exact hw)
theorem ix_ok (c : Cal) (y : Int) (hE : askE c y 1601 = 0) (lv : Int) (h1 : 1 ≤ lv) (h5 : lv ≤ 5) (w : Nat) (hw : w < nWk c y) :
    ixN c y lv w < cntL c y lv ∧ cutN c y lv (ixN c y lv w) ≤ w ∧ w < cutN c y lv (ixN c y lv w + 1) := by
  obtain ⟨i, hi, ha, hb⟩ := cut_find c y hE lv h1 h5 w hw
  rw [ix_eq c y hE lv h1 h5 w i hi ha hb]
  exact ⟨hi, ha, hb⟩
/-- A unit lies in the one of a coarser level in which its first week lies. -/
theorem up_ok (c : Cal) (y : Int) (hE : askE c y 1601 = 0) (a b : Int) (h1 : 1 ≤ a) (hab : a ≤ b) (h5 : b ≤ 5) (i : Nat) (hi : i < cntL c y b) :
    ixN c y a (cutN c y b i) < cntL c y a ∧ cutN c y a (ixN c y a (cutN c y b i)) ≤ cutN c y b i ∧ cutN c y b (i + 1) ≤ cutN c y a (ixN c y a (cutN c y b i) + 1) := by
  have hw : cutN c y b i < nWk c y := by
    have h2 := cut_lt c y hE b (by omega) h5 i hi
    have h3 := cut_le_nWk c y hE b (by omega) h5 (i + 1) (by omega)
    omega
  obtain ⟨e1, e2, e3⟩ := ix_ok c y hE a h1 (by omega) _ hw
  refine ⟨e1, e2, ?_⟩
  obtain ⟨j, hj, e⟩ := cut_finer c y hE a b h1 hab h5 _ (show ixN c y a (cutN c y b i) + 1 ≤ cntL c y a by omega)
  rw [e] at e3 ⊢
  have hij : i < j := by
    rcases Nat.lt_or_ge i j with h | h
    · exact h
    · have := cut_mono c y hE b (by omega) h5 h (by omega); omega
  exact cut_mono c y hE b (by omega) h5 hij hj
end Go.Proofs.Ytepmfpgljcbkmaa
