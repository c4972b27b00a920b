/- How a year's weeks lie: the plain law behind frames. Which weeks make a unit: the plain law behind frames. -/
import Derived.Test.YtojdngkleiokgaaYearC
namespace Go.Proofs.Ytojdngkleiokgaa
open Go.RowKit Qd
set_option linter.unusedSimpArgs false
set_option linter.unusedVariables false

/-- Spans one behind the other, of seven days at the most, from a day to the one ahead of another one. -/
def Chain : Int → Int → List (Int × Int) → Prop
  | s, e, [] => s = e
  | s, e, x :: l => x.1 = s ∧ x.1 ≤ x.2 ∧ x.2 ≤ x.1 + 6 ∧ Chain (x.2 + 1) e l
theorem chain_append {s m e : Int} {a b : List (Int × Int)} (h : Chain s m a) (h2 : Chain m e b) : Chain s e (a ++ b) := by
  induction a generalizing s with
  | nil => have : s = m := h; rw [this]; exact h2
  | cons x l ih => obtain ⟨h3, h4, h5, h6⟩ := h; exact ⟨h3, h4, h5, ih h6⟩
theorem chain_snoc {s m : Int} {a : List (Int × Int)} (h : Chain s m a) (x : Int × Int) (h1 : x.1 = m) (h2 : x.1 ≤ x.2) (h3 : x.2 ≤ x.1 + 6) : Chain s (x.2 + 1) (a ++ [x]) :=
  chain_append h ⟨h1, h2, h3, rfl⟩
/-- The day behind i of the spans. -/
def dOf (s : Int) (l : List (Int × Int)) (i : Nat) : Int := if i = 0 then s else (l[i - 1]?.getD (0, 0)).2 + 1
theorem dOf_succ (s : Int) (l : List (Int × Int)) (i : Nat) : dOf s l (i + 1) = (l[i]?.getD (0, 0)).2 + 1 := by simp [dOf]
theorem chain_end {s e : Int} {l : List (Int × Int)} (h : Chain s e l) : dOf s l l.length = e := by
  induction l generalizing s with
  | nil => exact h
  | cons x l ih =>
    obtain ⟨h3, h4, h5, h6⟩ := h
    have := ih h6
    rw [List.length_cons, dOf_succ]
    unfold dOf at this
    split at this
    · rename_i h0
      have h7 : l = [] := List.eq_nil_of_length_eq_zero h0
      subst h7
      exact this
    · rename_i h0
      have e1 : (x :: l)[l.length]? = l[l.length - 1]? := by
        obtain ⟨k, hk⟩ : ∃ k, l.length = k + 1 := ⟨l.length - 1, by omega⟩
        rw [hk]; simp
      rw [e1]; exact this
theorem chain_get {s e : Int} {l : List (Int × Int)} (h : Chain s e l) (i : Nat) (hi : i < l.length) :
    l[i]? = some (dOf s l i, dOf s l (i + 1) - 1) ∧ dOf s l i < dOf s l (i + 1) ∧ dOf s l (i + 1) ≤ dOf s l i + 7 := by
  induction l generalizing s i with
  | nil => simp at hi
  | cons x l ih =>
    obtain ⟨h3, h4, h5, h6⟩ := h
    cases i with
    | zero =>
      have e1 : dOf s (x :: l) 0 = x.1 := by simp [dOf, h3]
      have e2 : dOf s (x :: l) (0 + 1) = x.2 + 1 := by simp [dOf]
      rw [e1, e2]
      refine ⟨?_, by omega, by omega⟩
      have : (x.1, x.2 + 1 - 1) = x := by rw [show x.2 + 1 - 1 = x.2 by omega]
      simp [this]
    | succ i =>
      have hi2 : i < l.length := by simpa using hi
      have := ih h6 i hi2
      have e1 : ∀ j, dOf s (x :: l) (j + 1) = dOf (x.2 + 1) l j := by
        intro j
        rw [dOf_succ]
        cases j with
        | zero => simp [dOf]
        | succ j => rw [dOf_succ]; simp
      rw [e1, e1]
      simpa using this

theorem chain_full (f t : Int) (h : f ≤ t) (j : Nat) (hj : f + 7 * j ≤ t) : Chain f (f + 7 * j) (upto (fun j : Nat => (f + 7 * (j : Int), min (f + 7 * (j : Int) + 6) t)) j) := by
  induction j with
  | zero => simp [upto, Chain]
  | succ j ih =>
    rw [upto_succ]
    have := chain_snoc (ih (by omega)) (f + 7 * (j : Int), min (f + 7 * (j : Int) + 6) t) rfl (by simp; omega) (by simp; omega)
    have e : (f + 7 * (j : Int), min (f + 7 * (j : Int) + 6) t).2 + 1 = f + 7 * ((j + 1 : Nat) : Int) := by simp; omega
    rw [e] at this
    exact this
theorem chain_weeks (f t : Int) (h : f ≤ t) : Chain f (t + 1) (upto (fun j : Nat => (f + 7 * (j : Int), min (f + 7 * (j : Int) + 6) t)) ((t - f) / 7 + 1).toNat) := by
  obtain ⟨j, hj⟩ : ∃ j : Nat, ((t - f) / 7 + 1).toNat = j + 1 := ⟨((t - f) / 7).toNat, by omega⟩
  rw [hj, upto_succ]
  have hb : f + 7 * (j : Int) ≤ t ∧ t ≤ f + 7 * (j : Int) + 6 := by omega
  have := chain_snoc (chain_full f t h j hb.1) (f + 7 * (j : Int), min (f + 7 * (j : Int) + 6) t) rfl (by simp; omega) (by simp; omega)
  have e : (f + 7 * (j : Int), min (f + 7 * (j : Int) + 6) t).2 + 1 = t + 1 := by simp; omega
  rw [e] at this
  exact this

/-- How many weeks the period behind k of them has, as a count. -/
def nwk (c : Cal) (y : Int) (k : Nat) : Nat := (wkAt c y k).toNat
/-- How many weeks k periods have. -/
def cumW (c : Cal) (y : Int) : Nat → Nat
  | 0 => 0
  | k + 1 => cumW c y k + nwk c y k
/-- The week behind j of them of the period behind k of them. -/
def spAt (c : Cal) (y : Int) (k : Nat) (j : Nat) : Int × Int := (fromAt c y k + 7 * (j : Int), min (fromAt c y k + 7 * (j : Int) + 6) (endAt c y k))
/-- The weeks of k periods. -/
def spUp (c : Cal) (y : Int) : Nat → List (Int × Int)
  | 0 => []
  | k + 1 => spUp c y k ++ upto (spAt c y k) (nwk c y k)
theorem spUp_len (c : Cal) (y : Int) (k : Nat) : (spUp c y k).length = cumW c y k := by
  induction k with
  | zero => rfl
  | succ k ih => simp [spUp, cumW, ih, upto_length]
/-- How many periods a year has. -/
def nPer (c : Cal) (y : Int) : Nat := (endsL c y).length
/-- How many weeks. -/
def nWk (c : Cal) (y : Int) : Nat := cumW c y (nPer c y)
/-- A year's weeks. -/
def spL (c : Cal) (y : Int) : List (Int × Int) := spUp c y (nPer c y)
theorem spL_len (c : Cal) (y : Int) : (spL c y).length = nWk c y := spUp_len c y _
/-- The first day of the week behind i of them. -/
def dayW (c : Cal) (y : Int) (i : Nat) : Int := dOf (startV c y) (spL c y) i

theorem nwk_pos (c : Cal) (y : Int) (hE : askE c y 1601 = 0) (k : Nat) (hk : k < nPer c y) : 1 ≤ nwk c y k ∧ nwk c y k ≤ 6 := by
  have := period_1 c y hE k hk
  unfold nwk wkAt
  omega
theorem spUp_chain (c : Cal) (y : Int) (hE : askE c y 1601 = 0) (k : Nat) (hk : k ≤ nPer c y) : Chain (startV c y) (fromAt c y k) (spUp c y k) := by
  induction k with
  | zero => simp [spUp, Chain, fromAt]
  | succ k ih =>
    have hp := period_1 c y hE k hk
    refine chain_append (ih (by omega)) ?_
    rw [from_succ]
    exact chain_weeks (fromAt c y k) (endAt c y k) (by omega)
theorem spL_chain (c : Cal) (y : Int) (hE : askE c y 1601 = 0) : Chain (startV c y) (endV c y + 1) (spL c y) := by
  have := spUp_chain c y hE (nPer c y) (Nat.le_refl _)
  rwa [show fromAt c y (nPer c y) = endV c y + 1 from (last_end c y hE).1] at this
theorem spUp_pre (c : Cal) (y : Int) (k m : Nat) : ∃ r, spUp c y (k + m) = spUp c y k ++ r := by
  induction m with
  | zero => exact ⟨[], by simp⟩
  | succ m ih =>
    obtain ⟨r, hr⟩ := ih
    exact ⟨r ++ upto (spAt c y (k + m)) (nwk c y (k + m)), by rw [← Nat.add_assoc, spUp, hr, List.append_assoc]⟩
theorem cumW_mono (c : Cal) (y : Int) (k m : Nat) : cumW c y k ≤ cumW c y (k + m) := by
  induction m with
  | zero => exact Nat.le_refl _
  | succ m ih => rw [← Nat.add_assoc, cumW]; omega
theorem cumW_le (c : Cal) (y : Int) {k m : Nat} (h : k ≤ m) : cumW c y k ≤ cumW c y m := by
  have := cumW_mono c y k (m - k)
  rwa [show k + (m - k) = m by omega] at this
theorem cumW_lt (c : Cal) (y : Int) (hE : askE c y 1601 = 0) {k m : Nat} (h : k < m) (hm : m ≤ nPer c y) : cumW c y k < cumW c y m := by
  have h1 := cumW_le c y (show k + 1 ≤ m by omega)
  have h2 := nwk_pos c y hE k (by omega)
  rw [cumW] at h1
  omega
/-- The weeks of a period. -/
theorem spL_get (c : Cal) (y : Int) (k j : Nat) (hk : k < nPer c y) (hj : j < nwk c y k) : (spL c y)[cumW c y k + j]? = some (spAt c y k j) := by
  obtain ⟨r, hr⟩ := spUp_pre c y (k + 1) (nPer c y - (k + 1))
  rw [show k + 1 + (nPer c y - (k + 1)) = nPer c y by omega] at hr
  unfold spL
  rw [hr, List.getElem?_append_left (by rw [spUp_len, cumW]; omega), spUp, List.getElem?_append_right (by rw [spUp_len]; omega), spUp_len]
  simp [upto, hj]
theorem dayW_0 (c : Cal) (y : Int) : dayW c y 0 = startV c y := by simp [dayW, dOf]
theorem dayW_end (c : Cal) (y : Int) (hE : askE c y 1601 = 0) : dayW c y (nWk c y) = endV c y + 1 := by
  have := chain_end (spL_chain c y hE)
  rwa [spL_len] at this
theorem dayW_get (c : Cal) (y : Int) (hE : askE c y 1601 = 0) (i : Nat) (hi : i < nWk c y) :
    (spL c y)[i]? = some (dayW c y i, dayW c y (i + 1) - 1) ∧ dayW c y i < dayW c y (i + 1) ∧ dayW c y (i + 1) ≤ dayW c y i + 7 :=
  chain_get (spL_chain c y hE) i (by rw [spL_len]; exact hi)
theorem dayW_at (c : Cal) (y : Int) (hE : askE c y 1601 = 0) (k j : Nat) (hk : k < nPer c y) (hj : j < nwk c y k) : dayW c y (cumW c y k + j) = fromAt c y k + 7 * (j : Int) := by
  have h1 := spL_get c y k j hk hj
  have hlt : cumW c y k + j < nWk c y := by
    have := cumW_le c y (show k + 1 ≤ nPer c y by omega)
    rw [cumW] at this
    unfold nWk
    omega
  have h2 := (dayW_get c y hE _ hlt).1
  rw [h1] at h2
  have h3 := Option.some.inj h2
  have := congrArg Prod.fst h3
  exact this.symm
theorem dayW_cum (c : Cal) (y : Int) (hE : askE c y 1601 = 0) (k : Nat) (hk : k ≤ nPer c y) : dayW c y (cumW c y k) = fromAt c y k := by
  rcases Nat.lt_or_eq_of_le hk with h | h
  · have := dayW_at c y hE k 0 h (by have := nwk_pos c y hE k h; omega)
    simpa using this
  · subst h
    have h1 := dayW_end c y hE
    unfold nWk at h1
    rw [h1]
    exact (last_end c y hE).1.symm
theorem dayW_lt (c : Cal) (y : Int) (hE : askE c y 1601 = 0) {i j : Nat} (h : i < j) (hj : j ≤ nWk c y) : dayW c y i + (j - i) ≤ dayW c y j := by
  obtain ⟨m, rfl⟩ : ∃ m, j = i + 1 + m := ⟨j - i - 1, by omega⟩
  induction m with
  | zero =>
    have := (dayW_get c y hE i (by omega)).2.1
    simp
    omega
  | succ m ih =>
    have h1 := ih (by omega) (by omega)
    have h2 := (dayW_get c y hE (i + 1 + m) (by omega)).2.1
    rw [← Nat.add_assoc]
    omega
theorem dayW_le (c : Cal) (y : Int) (hE : askE c y 1601 = 0) {i j : Nat} (h : i ≤ j) (hj : j ≤ nWk c y) : dayW c y i ≤ dayW c y j := by
  rcases Nat.lt_or_eq_of_le h with h | h
  · have := dayW_lt c y hE h hj; omega
  · subst h; omega
/-- Weeks of a year of weeks have seven days. -/
theorem cum_7 (c : Cal) (y : Int) (hE : askE c y 1601 = 0) (hk6 : c.kind ≠ 6) (k : Nat) (hk : k ≤ nPer c y) : fromAt c y k = startV c y + 7 * (cumW c y k : Int) := by
  induction k with
  | zero => simp [fromAt, cumW]
  | succ k ih =>
    have h1 := ih (by omega)
    have h2 := period_1 c y hE k hk
    have h3 := h2.2.2 hk6
    rw [from_succ, cumW]
    unfold nwk wkAt
    omega
theorem nWk_7 (c : Cal) (y : Int) (hE : askE c y 1601 = 0) (hk6 : c.kind ≠ 6) : daysV c y = 7 * (nWk c y : Int) := by
  have h1 := cum_7 c y hE hk6 (nPer c y) (Nat.le_refl _)
  have h2 : fromAt c y (nPer c y) = endV c y + 1 := (last_end c y hE).1
  have h3 : daysV c y = endV c y - startV c y + 1 := by simp [daysV, hE]
  unfold nWk
  omega
theorem dayW_7 (c : Cal) (y : Int) (hE : askE c y 1601 = 0) (hk6 : c.kind ≠ 6) (i : Nat) (hi : i ≤ nWk c y) : dayW c y i = startV c y + 7 * (i : Int) := by
  have key : ∀ m : Nat, i + m = nWk c y → dayW c y i = startV c y + 7 * (i : Int) := by
    intro m hm
    have h7 := nWk_7 c y hE hk6
    have h3 : daysV c y = endV c y - startV c y + 1 := by simp [daysV, hE]
    have he := dayW_end c y hE
    have up : ∀ j : Nat, j ≤ nWk c y → dayW c y j ≤ startV c y + 7 * (j : Int) := by
      intro j
      induction j with
      | zero => intro _; simp [dayW_0]
      | succ j ih =>
        intro hj
        have h1 := ih (by omega)
        have h2 := (dayW_get c y hE j (by omega)).2.2
        omega
    have down : ∀ m : Nat, m ≤ nWk c y → endV c y + 1 ≤ dayW c y (nWk c y - m) + 7 * (m : Int) := by
      intro m
      induction m with
      | zero => intro _; simp [he]
      | succ m ih =>
        intro hm
        have h1 := ih (by omega)
        have h2 := (dayW_get c y hE (nWk c y - (m + 1)) (by omega)).2.2
        rw [show nWk c y - (m + 1) + 1 = nWk c y - m by omega] at h2
        omega
    have h1 := up i hi
    have h2 := down m (by omega)
    rw [show nWk c y - m = i by omega] at h2
    omega
  exact key (nWk c y - i) (by omega)
theorem nWk_bd (c : Cal) (y : Int) (hE : askE c y 1601 = 0) : 12 ≤ nWk c y ∧ nWk c y ≤ 60 := by
  have hl := last_end c y hE
  have hn : 12 ≤ nPer c y ∧ nPer c y ≤ 52 := ⟨hl.2.1, hl.2.2⟩
  constructor
  · have : ∀ k, k ≤ nPer c y → k ≤ cumW c y k := by
      intro k
      induction k with
      | zero => intro _; exact Nat.zero_le _
      | succ k ih =>
        intro hk
        have h1 := ih (by omega)
        have h2 := nwk_pos c y hE k hk
        rw [cumW]
        omega
    have := this _ (Nat.le_refl _)
    unfold nWk
    omega
  · by_cases hk6 : c.kind = 6
    · have h12 : nPer c y = 12 := by
        obtain ⟨hok, _, _⟩ := ask_ok hE
        have := (ok_shape hok).2.1.1 hk6
        unfold nPer endsL
        rw [if_neg (by omega), if_pos this, mon_len]
      have : ∀ k, k ≤ 12 → cumW c y k ≤ 5 * k := by
        intro k
        induction k with
        | zero => intro _; simp [cumW]
        | succ k ih =>
          intro hk
          have h1 := ih (by omega)
          have h2 : wkAt c y k ≤ 5 := by
            have e1 := month_end c y hE hk6 k (by omega)
            have e2 := month_from c y hE hk6 k (by omega)
            obtain ⟨hok, hy1, hy2⟩ := ask_ok hE
            obtain ⟨hm, hs, _, _⟩ := ok_rule hok
            have hs2 := mFirst_succ (mOf c y + k) (by unfold mOf; omega) (by unfold mOf; omega)
            have l2 := len_bd ((mOf c y + k) / 12) ((mOf c y + k) % 12 + 1)
            unfold wkAt
            rw [e1, e2]
            omega
          rw [cumW]
          unfold nwk
          omega
      have := this 12 (by omega)
      unfold nWk
      rw [h12]
      omega
    · have h7 := nWk_7 c y hE hk6
      have := days_weeks c y hE hk6
      omega
end Go.Proofs.Ytojdngkleiokgaa

namespace Go.Proofs.Ytojdngkleiokgaa
open Go.RowKit Qd
set_option linter.unusedSimpArgs false
set_option linter.unusedVariables false

/-- How many units of a level a year has. -/
def cntL (c : Cal) (y : Int) (lv : Int) : Nat := if lv = 1 then 1 else if lv = 2 then 2 else if lv = 3 then 4 else if lv = 4 then nPer c y else nWk c y
/-- How many periods i units of a level have, but weeks. -/
def pcut (n : Nat) (lv : Int) (i : Nat) : Nat := if lv = 1 then n * i else if lv = 2 then n * (2 * i) / 4 else if lv = 3 then n * i / 4 else i
/-- How many weeks i units of a level have. -/
def cutN (c : Cal) (y : Int) (lv : Int) (i : Nat) : Nat := if lv = 5 then i else cumW c y (pcut (nPer c y) lv i)
/-- The last weeks of all units of a level. -/
def lastsL (c : Cal) (y : Int) (lv : Int) : List Int := upto (fun i => (cutN c y lv (i + 1) : Int)) (cntL c y lv)
theorem lasts_len (c : Cal) (y lv : Int) : (lastsL c y lv).length = cntL c y lv := by simp [lastsL, upto_length]
theorem lasts_get (c : Cal) (y lv : Int) (i : Nat) (hi : i < cntL c y lv) : (lastsL c y lv)[i]?.getD 0 = (cutN c y lv (i + 1) : Int) := by simp [lastsL, upto, hi]

theorem nPer_bd (c : Cal) (y : Int) (hE : askE c y 1601 = 0) : 12 ≤ nPer c y ∧ nPer c y ≤ 52 := (last_end c y hE).2
theorem cnt_bd (c : Cal) (y : Int) (hE : askE c y 1601 = 0) (lv : Int) : 1 ≤ cntL c y lv ∧ cntL c y lv ≤ 60 := by
  have := nPer_bd c y hE
  have := nWk_bd c y hE
  unfold cntL
  repeat' split
  all_goals omega
theorem cut_0 (c : Cal) (y lv : Int) : cutN c y lv 0 = 0 := by
  unfold cutN pcut
  repeat' split
  all_goals simp [cumW]
theorem cut_end (c : Cal) (y lv : Int) (h1 : 1 ≤ lv) (h5 : lv ≤ 5) : cutN c y lv (cntL c y lv) = nWk c y := by
  have h : lv = 1 ∨ lv = 2 ∨ lv = 3 ∨ lv = 4 ∨ lv = 5 := by omega
  rcases h with rfl | rfl | rfl | rfl | rfl
  · simp [cutN, cntL, pcut, nWk]
  · simp [cutN, cntL, pcut, nWk]
  · simp [cutN, cntL, pcut, nWk]
  · simp [cutN, cntL, pcut, nWk]
  · simp [cutN, cntL, pcut, nWk]
theorem pcut_lt (n : Nat) (lv : Int) (hn : 12 ≤ n) (i : Nat) : pcut n lv i < pcut n lv (i + 1) := by
  unfold pcut
  repeat' split
  · rw [Nat.mul_succ]; omega
  · have : n * (2 * (i + 1)) = n * (2 * i) + 2 * n := by rw [Nat.mul_add, Nat.mul_add]; omega
    omega
  · have : n * (i + 1) = n * i + n := by rw [Nat.mul_succ]
    omega
  · omega
theorem pcut_end (n : Nat) (lv : Int) (c : Cal) (y : Int) (h1 : 1 ≤ lv) (h5 : lv ≤ 4) : pcut (nPer c y) lv (cntL c y lv) = nPer c y := by
  have h : lv = 1 ∨ lv = 2 ∨ lv = 3 ∨ lv = 4 := by omega
  rcases h with rfl | rfl | rfl | rfl <;> simp [cntL, pcut]
theorem pcut_mono (n : Nat) (lv : Int) (hn : 12 ≤ n) (i j : Nat) (h : i ≤ j) : pcut n lv i ≤ pcut n lv j := by
  obtain ⟨m, rfl⟩ : ∃ m, j = i + m := ⟨j - i, by omega⟩
  induction m with
  | zero => exact Nat.le_refl _
  | succ m ih =>
    have h1 := ih (by omega)
    have h2 := pcut_lt n lv hn (i + m)
    rw [← Nat.add_assoc]
    omega
theorem cut_lt (c : Cal) (y : Int) (hE : askE c y 1601 = 0) (lv : Int) (h1 : 1 ≤ lv) (h5 : lv ≤ 5) (i : Nat) (hi : i < cntL c y lv) : cutN c y lv i < cutN c y lv (i + 1) := by
  unfold cutN
  split
  · omega
  · have hn := (nPer_bd c y hE).1
    have h2 := pcut_mono (nPer c y) lv hn (i + 1) (cntL c y lv) (by omega)
    rw [pcut_end 0 lv c y h1 (by omega)] at h2
    exact cumW_lt c y hE (pcut_lt _ lv hn i) h2
theorem cut_mono (c : Cal) (y : Int) (hE : askE c y 1601 = 0) (lv : Int) (h1 : 1 ≤ lv) (h5 : lv ≤ 5) {i j : Nat} (h : i ≤ j) (hj : j ≤ cntL c y lv) : cutN c y lv i ≤ cutN c y lv j := by
  obtain ⟨m, rfl⟩ : ∃ m, j = i + m := ⟨j - i, by omega⟩
  induction m with
  | zero => exact Nat.le_refl _
  | succ m ih =>
    have h2 := ih (by omega) (by omega)
    have h3 := cut_lt c y hE lv h1 h5 (i + m) (by omega)
    rw [← Nat.add_assoc]
    omega
theorem cut_slt (c : Cal) (y : Int) (hE : askE c y 1601 = 0) (lv : Int) (h1 : 1 ≤ lv) (h5 : lv ≤ 5) {i j : Nat} (h : i < j) (hj : j ≤ cntL c y lv) : cutN c y lv i < cutN c y lv j := by
  have h2 := cut_lt c y hE lv h1 h5 i (by omega)
  have h3 := cut_mono c y hE lv h1 h5 (show i + 1 ≤ j by omega) hj
  omega
theorem cut_le_nWk (c : Cal) (y : Int) (hE : askE c y 1601 = 0) (lv : Int) (h1 : 1 ≤ lv) (h5 : lv ≤ 5) (i : Nat) (hi : i ≤ cntL c y lv) : cutN c y lv i ≤ nWk c y := by
  have := cut_mono c y hE lv h1 h5 hi (Nat.le_refl _)
  rwa [cut_end c y lv h1 h5] at this
/-- Each cut of a level is one of the next finer one. -/
theorem cut_next (c : Cal) (y : Int) (hE : askE c y 1601 = 0) (lv : Int) (h1 : 1 ≤ lv) (h4 : lv ≤ 4) (i : Nat) (hi : i ≤ cntL c y lv) : ∃ j, j ≤ cntL c y (lv + 1) ∧ cutN c y lv i = cutN c y (lv + 1) j := by
  have h : lv = 1 ∨ lv = 2 ∨ lv = 3 ∨ lv = 4 := by omega
  rcases h with rfl | rfl | rfl | rfl
  · refine ⟨2 * i, by simp [cntL] at hi ⊢; omega, ?_⟩
    simp only [cutN, pcut]
    simp
    congr 1
    have : nPer c y * (2 * (2 * i)) = 4 * (nPer c y * i) := by rw [← Nat.mul_assoc 2 2 i, Nat.mul_left_comm]
    omega
  · exact ⟨2 * i, by simp [cntL] at hi ⊢; omega, by simp [cutN, pcut]⟩
  · refine ⟨nPer c y * i / 4, ?_, by simp [cutN, pcut]⟩
    have h2 : nPer c y * i ≤ nPer c y * 4 := Nat.mul_le_mul_left _ (by simpa [cntL] using hi)
    simp [cntL]
    omega
  · refine ⟨cumW c y i, ?_, by simp [cutN, pcut]⟩
    have := cumW_le c y (show i ≤ nPer c y by simpa [cntL] using hi)
    simpa [cntL, nWk] using this
theorem cut_finer (c : Cal) (y : Int) (hE : askE c y 1601 = 0) (a b : Int) (h1 : 1 ≤ a) (hab : a ≤ b) (h5 : b ≤ 5) (i : Nat) (hi : i ≤ cntL c y a) : ∃ j, j ≤ cntL c y b ∧ cutN c y a i = cutN c y b j := by
  obtain ⟨m, rfl⟩ : ∃ m : Nat, b = a + m := ⟨(b - a).toNat, by omega⟩
  induction m with
  | zero => exact ⟨i, by simpa using hi, by simp⟩
  | succ m ih =>
    obtain ⟨j, hj, e⟩ := ih (by omega) (by omega)
    obtain ⟨k, hk, e2⟩ := cut_next c y hE (a + m) (by omega) (by omega) j hj
    have e3 : a + ((m + 1 : Nat) : Int) = a + m + 1 := by omega
    rw [e3]
    exact ⟨k, hk, by rw [e, e2]⟩

/-- Where the first number that is not below x stands. -/
def bsL (l : List Int) (x : Int) : Nat := (l.takeWhile fun a => decide (a < x)).length
theorem bsL_le (l : List Int) (x : Int) : bsL l x ≤ l.length := by unfold bsL; exact (List.takeWhile_sublist _).length_le
theorem bsL_eq (l : List Int) (x : Int) (k : Nat) (hk : k ≤ l.length) (h : ∀ j, j < k → l[j]?.getD 0 < x) (h2 : k < l.length → x ≤ l[k]?.getD 0) : bsL l x = k := by
  rcases Nat.lt_or_eq_of_le hk with h3 | h3
  · refine takeWhile_stop _ l k h3 (fun j hj => ?_) ?_
    · have := h j hj
      rw [List.getElem?_eq_getElem (by omega)] at this
      simpa using this
    · have := h2 h3
      rw [List.getElem?_eq_getElem h3] at this
      simpa using this
  · rw [h3]
    refine takeWhile_all _ l (fun j hj => ?_)
    have := h j (by omega)
    rw [List.getElem?_eq_getElem hj] at this
    simpa using this
/-- In which unit of a level, counted from 0, the week behind w of them lies. -/
def ixN (c : Cal) (y lv : Int) (w : Nat) : Nat := bsL (lastsL c y lv) ((w : Int) + 1)
theorem ix_eq (c : Cal) (y : Int) (hE : askE c y 1601 = 0) (lv : Int) (h1 : 1 ≤ lv) (h5 : lv ≤ 5) (w i : Nat) (hi : i < cntL c y lv) (ha : cutN c y lv i ≤ w) (hb : w < cutN c y lv (i + 1)) : ixN c y lv w = i := by
  refine bsL_eq _ _ i (by rw [lasts_len]; omega) (fun j hj => ?_) (fun _ => ?_)
  · rw [lasts_get c y lv j (by omega)]
    have := cut_mono c y hE lv h1 h5 (show j + 1 ≤ i by omega) (by omega)
    omega
  · rw [lasts_get c y lv i hi]
    omega
theorem cut_find (c : Cal) (y : Int) (hE : askE c y 1601 = 0) (lv : Int) (h1 : 1 ≤ lv) (h5 : lv ≤ 5) (w : Nat) (hw : w < nWk c y) : ∃ i, i < cntL c y lv ∧ cutN c y lv i ≤ w ∧ w < cutN c y lv (i + 1) := by
  have key : ∀ m, m ≤ cntL c y lv → w < cutN c y lv m → ∃ i, i < cntL c y lv ∧ cutN c y lv i ≤ w ∧ w < cutN c y lv (i + 1) := by
    intro m
    induction m with
    | zero => intro _ h; rw [cut_0] at h; omega
    | succ m ih =>
      intro hm h
      rcases Nat.lt_or_ge w (cutN c y lv m) with h2 | h2
      · exact ih (by omega) h2
      · exact ⟨m, by omega, h2, h⟩
  exact key _ (Nat.le_refl _) (by rw [cut_end c y lv h1 h5]; exact hw)
theorem ix_ok (c : Cal) (y : Int) (hE : askE c y 1601 = 0) (lv : Int) (h1 : 1 ≤ lv) (h5 : lv ≤ 5) (w : Nat) (hw : w < nWk c y) :
    ixN c y lv w < cntL c y lv ∧ cutN c y lv (ixN c y lv w) ≤ w ∧ w < cutN c y lv (ixN c y lv w + 1) := by
  obtain ⟨i, hi, ha, hb⟩ := cut_find c y hE lv h1 h5 w hw
  rw [ix_eq c y hE lv h1 h5 w i hi ha hb]
  exact ⟨hi, ha, hb⟩
/-- A unit lies in the one of a coarser level in which its first week lies. -/
theorem up_ok (c : Cal) (y : Int) (hE : askE c y 1601 = 0) (a b : Int) (h1 : 1 ≤ a) (hab : a ≤ b) (h5 : b ≤ 5) (i : Nat) (hi : i < cntL c y b) :
    ixN c y a (cutN c y b i) < cntL c y a ∧ cutN c y a (ixN c y a (cutN c y b i)) ≤ cutN c y b i ∧ cutN c y b (i + 1) ≤ cutN c y a (ixN c y a (cutN c y b i) + 1) := by
  have hw : cutN c y b i < nWk c y := by
    have h2 := cut_lt c y hE b (by omega) h5 i hi
    have h3 := cut_le_nWk c y hE b (by omega) h5 (i + 1) (by omega)
    omega
  obtain ⟨e1, e2, e3⟩ := ix_ok c y hE a h1 (by omega) _ hw
  refine ⟨e1, e2, ?_⟩
  obtain ⟨j, hj, e⟩ := cut_finer c y hE a b h1 hab h5 _ (show ixN c y a (cutN c y b i) + 1 ≤ cntL c y a by omega)
  rw [e] at e3 ⊢
  have hij : i < j := by
    rcases Nat.lt_or_ge i j with h | h
    · exact h
    · have := cut_mono c y hE b (by omega) h5 h (by omega); omega
  exact cut_mono c y hE b (by omega) h5 hij hj
end Go.Proofs.Ytojdngkleiokgaa
