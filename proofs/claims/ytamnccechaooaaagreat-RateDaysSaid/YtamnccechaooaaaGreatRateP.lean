/- The plain law of rates: how many days of a span lie in units that cover it. -/
import Derived.Test.YtamnccechaooaaaGreatMFh
namespace Go.Proofs.YtamnccechaooaaaGreat
open Go.RowKit Qd
set_option linter.unusedSimpArgs false
set_option linter.unusedVariables false

/-- How many days of a span lie in another one. -/
def clipV (a b : Int) (t : Sp) : Int := min b t.b - max a t.a + 1
/-- Spans, each of which begins on the day behind the one ahead. -/
def AdjL : List Sp → Prop
  | [] => True
  | [_] => True
  | u :: v :: l => v.a = u.b + 1 ∧ AdjL (v :: l)
theorem adj_of {l : List Sp} (h : ∀ (j : Nat) (u v : Sp), l[j]? = some u → l[j + 1]? = some v → v.a = u.b + 1) : AdjL l := by
  induction l with
  | nil => trivial
  | cons u l ih =>
    cases l with
    | nil => trivial
    | cons v l => exact ⟨h 0 u v rfl rfl, ih fun j x y hx hy => h (j + 1) x y (by simpa using hx) (by simpa using hy)⟩
theorem adj_above {u : Sp} {l : List Sp} (h : AdjL (u :: l)) (hp : ∀ t ∈ u :: l, t.a ≤ t.b) : ∀ t ∈ l, u.b < t.a := by
  induction l generalizing u with
  | nil => simp
  | cons v l ih =>
    intro t ht
    have h1 := hp v (by simp)
    rcases List.mem_cons.1 ht with rfl | ht
    · have := h.1; omega
    · have := ih h.2 (fun x hx => hp x (List.mem_cons_of_mem _ hx)) t ht
      have := h.1; omega
/-- The days of a span that lie in spans that cover it. -/
theorem clip_sum {u : Sp} {l : List Sp} {a b : Int} (h : AdjL (u :: l)) (hp : ∀ t ∈ u :: l, t.a ≤ t.b) (hab : a ≤ b) (ha : u.a ≤ a ∧ a ≤ u.b) (hb : ∀ t, (u :: l).getLast? = some t → t.a ≤ b ∧ b ≤ t.b) :
    ((u :: l).map (clipV a b)).sum = b - a + 1 ∧ ∀ t ∈ u :: l, 1 ≤ clipV a b t := by
  induction l generalizing u a with
  | nil =>
    have h1 := hb u rfl
    simp only [List.map_cons, List.map_nil, List.sum_cons, List.sum_nil, List.mem_singleton, forall_eq, clipV]
    omega
  | cons v l ih =>
    have hv := h.1
    have hpv := hp v (by simp)
    have hpu := hp u (by simp)
    have hlast : ∀ t, (v :: l).getLast? = some t → t.a ≤ b ∧ b ≤ t.b := fun t ht => hb t (by rw [List.getLast?_cons_cons]; exact ht)
    have hbv : v.a ≤ b := by
      cases l with
      | nil => exact (hlast v rfl).1
      | cons z l =>
        obtain ⟨t, ht⟩ : ∃ t, (v :: z :: l).getLast? = some t := ⟨_, List.getLast?_eq_some_getLast (by simp)⟩
        have h1 := hlast t ht
        have hm : t ∈ z :: l := by
          rw [List.getLast?_cons_cons] at ht
          exact List.mem_of_getLast? ht
        have := adj_above h.2 (fun x hx => hp x (List.mem_cons_of_mem _ hx)) t hm
        omega
    have hi := ih (a := v.a) h.2 (fun x hx => hp x (List.mem_cons_of_mem _ hx)) hbv ⟨by omega, hpv⟩ hlast
    have hge : ∀ t ∈ v :: l, v.a ≤ t.a := by
      intro t ht
      rcases List.mem_cons.1 ht with rfl | ht
      · omega
      · have := adj_above h.2 (fun x hx => hp x (List.mem_cons_of_mem _ hx)) t ht; omega
    have hsame : ∀ t ∈ v :: l, clipV a b t = clipV v.a b t := by
      intro t ht
      have := hge t ht
      unfold clipV; omega
    have e : (v :: l).map (clipV a b) = (v :: l).map (clipV v.a b) := List.map_congr_left hsame
    constructor
    · rw [List.map_cons, List.sum_cons, e, hi.1]
      unfold clipV; omega
    · intro t ht
      rcases List.mem_cons.1 ht with rfl | ht
      · unfold clipV; omega
      · rw [hsame t ht]; exact hi.2 t ht
/-- Between the first one and the last one all days lie in the span. -/
theorem clip_mid {l : List Sp} {a b : Int} (h : AdjL l) (hp : ∀ t ∈ l, t.a ≤ t.b) (ha : ∀ t, l[0]? = some t → a ≤ t.b) (hb : ∀ t, l.getLast? = some t → t.a ≤ b) {j : Nat} {t : Sp} (hj : l[j]? = some t) (h0 : 0 < j) (h1 : j + 1 < l.length) : clipV a b t = t.b - t.a + 1 := by
  have lo : ∀ (l : List Sp) (j : Nat) (t u : Sp), AdjL l → (∀ t ∈ l, t.a ≤ t.b) → l[0]? = some u → l[j]? = some t → 0 < j → u.b < t.a := by
    intro l j t u h hp hu ht hj
    cases l with
    | nil => simp at hu
    | cons x l =>
      have hx : x = u := by simpa using hu
      subst hx
      obtain ⟨i, rfl⟩ : ∃ i, j = i + 1 := ⟨j - 1, by omega⟩
      exact adj_above h hp t (List.mem_of_getElem? (by simpa using ht))
  have tail : ∀ (l : List Sp) (j : Nat), AdjL l → AdjL (l.drop j) := by
    intro l j
    induction j generalizing l with
    | zero => exact fun h => h
    | succ j ih =>
      intro h
      cases l with
      | nil => simpa using h
      | cons x l =>
        rw [List.drop_succ_cons]
        refine ih l ?_
        cases l with
        | nil => trivial
        | cons => exact h.2
  obtain ⟨u, hu⟩ : ∃ u, l[0]? = some u := ⟨_, List.getElem?_eq_getElem (by omega)⟩
  have q1 := lo l j t u h hp hu hj h0
  have q2 := ha u hu
  obtain ⟨z, hz⟩ : ∃ z, l.getLast? = some z := ⟨l[l.length - 1], by rw [List.getLast?_eq_getElem?, List.getElem?_eq_getElem (by omega)]⟩
  have q3 := hb z hz
  rw [List.getLast?_eq_getElem?] at hz
  have q4 := lo (l.drop j) (l.length - 1 - j) z t (tail l j h) (fun x hx => hp x (List.mem_of_mem_drop hx)) (by simpa using hj) (by rw [List.getElem?_drop, ← hz]; congr 1; omega) (by omega)
  unfold clipV; omega
end Go.Proofs.YtamnccechaooaaaGreat
