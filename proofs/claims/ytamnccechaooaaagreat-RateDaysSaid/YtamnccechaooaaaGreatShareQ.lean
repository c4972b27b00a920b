/- The plain law of shares: rows that are filled, parts that get one more. -/
import Derived.Test.YtamnccechaooaaaGreatShareP
import Derived.Test.YtamnccechaooaaaGreatSortH
import Derived.Test.YtamnccechaooaaaGreatDivD
namespace Go.Proofs.YtamnccechaooaaaGreat
open Go.RowKit Go.Sort
set_option linter.unusedSimpArgs false
set_option linter.unusedVariables false

/-- The parts of an amount. -/
def outV (a : Int) (ws : List Int) : List Int := outL a ws.sum ws (srtP (ptL a ws.sum ws))
theorem out_put (a : Int) (ws : List Int) : Put (ptL a ws.sum ws) (srtP (ptL a ws.sum ws)) := srtP_put (ptL_incr a ws.sum ws)
theorem outV_len (a : Int) (ws : List Int) : (outV a ws).length = ws.length := outL_len _ _ _ _
theorem outV_sum {a : Int} {ws : List Int} (h : 0 < ws.sum) : (outV a ws).sum = a := outL_sum h rfl (out_put a ws)
/-- A row filled so far. -/
def fillL {α : Type} (z : α) (l : List α) (j : Nat) : List α := l.take j ++ List.replicate (l.length - j) z
theorem fill_len {α : Type} (z : α) (l : List α) (j : Nat) (h : j ≤ l.length) : (fillL z l j).length = l.length := by simp [fillL]; omega
theorem fill_zero {α : Type} (z : α) (l : List α) : fillL z l 0 = List.replicate l.length z := by simp [fillL]
theorem fill_full {α : Type} (z : α) (l : List α) : fillL z l l.length = l := by simp [fillL]
theorem fill_set {α : Type} (z : α) (l : List α) (j : Nat) (x : α) (h : l[j]? = some x) : (fillL z l j).set j x = fillL z l (j + 1) := by
  have hj := (List.getElem?_eq_some_iff.1 h).1
  have hl : (l.take j).length = j := by rw [List.length_take]; omega
  have e : List.replicate (l.length - j) z = z :: List.replicate (l.length - (j + 1)) z := by rw [show l.length - j = (l.length - (j + 1)) + 1 by omega]; rfl
  unfold fillL
  rw [List.set_append_right _ _ (by omega), hl, Nat.sub_self, e, List.set_cons_zero, List.take_add_one, h]
  simp
theorem sum_take (l : List Int) (j : Nat) (x : Int) (h : l[j]? = some x) : (l.take (j + 1)).sum = (l.take j).sum + x := by rw [List.take_add_one, h]; simp
theorem pos_sum {ws : List Int} (h : ∀ x ∈ ws, 0 ≤ x) : ∀ x ∈ ws, x ≤ ws.sum := by
  induction ws with
  | nil => simp
  | cons y l ih =>
    have h1 := ih fun x hx => h x (List.mem_cons_of_mem _ hx)
    have h0 : 0 ≤ l.sum := by
      clear h1 ih
      induction l with
      | nil => simp
      | cons z l ih =>
        have := ih fun x hx => h x (by rcases List.mem_cons.1 hx with rfl | hx <;> simp [*])
        have := h z (by simp)
        simp only [List.sum_cons]; omega
    intro x hx
    rcases List.mem_cons.1 hx with rfl | hx
    · simp only [List.sum_cons]; omega
    · have := h1 x hx; have := h y (by simp); simp only [List.sum_cons]; omega
theorem qL_in {a n : Int} {ws : List Int} (ha : in64 a) (hn : 0 < n) (h : ∀ x ∈ ws, 0 ≤ x ∧ x ≤ n) : ∀ q ∈ qL a n ws, in64 q := by
  intro q hq
  simp only [qL, List.mem_map] at hq
  obtain ⟨x, hx, rfl⟩ := hq
  exact muldiv_bd ha (h x hx).1 (h x hx).2 hn
theorem left_wd {a n : Int} {ws : List Int} (ha : in64 a) (hq : ∀ q ∈ qL a n ws, in64 q) (hl : ws.length ≤ 1000000) (j : Nat) : wideOk (a - ((qL a n ws).take j).sum) := by
  have h := sum_bd (l := (qL a n ws).take j) (fun x hx => hq x (List.mem_of_mem_take hx))
  have h2 : ((qL a n ws).take j).length ≤ ws.length := by rw [List.length_take, qL_len]; omega
  unfold wideOk; unfold in64 at ha; omega
theorem set_modify (l : List Int) (i : Nat) (x : Int) (h : l[i]? = some x) : l.set i (x + 1) = l.modify i (· + 1) := by
  refine List.ext_getElem? fun k => ?_
  rw [List.getElem?_set, List.getElem?_modify]
  have hi := (List.getElem?_eq_some_iff.1 h).1
  by_cases hk : i = k
  · subst hk
    rw [if_pos rfl, if_pos hi, h]; simp
  · rw [if_neg hk]
    cases l[k]? <;> simp [hk]
/-- Who gets one more has not got it yet. -/
theorem bump_at {a n : Int} {ws : List Int} {S : List Pt} (hn : 0 < n) (hs : ws.sum = n) (h : Put (ptL a n ws) S) {j : Nat} {p : Pt} (hj : (S.take (moreV a n ws).toNat)[j]? = some p) :
    ∃ x, ws[p.pos.toNat]? = some x ∧ 0 ≤ p.pos ∧ p.pos < ws.length ∧ (bumpL (qL a n ws) ((S.take (moreV a n ws).toNat).take j))[p.pos.toNat]? = some (a * x / n) ∧ 0 < a * x % n := by
  obtain ⟨T, hT⟩ : ∃ T, S.take (moreV a n ws).toNat = T := ⟨_, rfl⟩
  have hpos : 0 < p.ab := take_pos hn hs h (List.mem_of_getElem? hj)
  have hsub : ∀ q ∈ T, q ∈ ptL a n ws := fun q hq => (put_mem h).1 (List.mem_of_mem_take (by rw [hT]; exact hq))
  have hsrt : T.Pairwise Pt.lt := by rw [← hT]; exact h.2.sublist (List.take_sublist _ _)
  rw [hT] at hj ⊢
  have hpm := hsub p (List.mem_of_getElem? hj)
  obtain ⟨i, hi, e⟩ := List.getElem_of_mem hpm
  obtain ⟨x, hx, e2⟩ := ptL_get (a := a) (n := n) (ws := ws) (i := i) (p := p) (by rw [List.getElem?_eq_getElem hi, e])
  have hb := ab_bd hn hpm
  have hpi : p.pos.toNat = i := by rw [e2]; simp
  refine ⟨x, by rw [hpi]; exact hx, hb.2.2.1, hb.2.2.2, ?_, by rw [e2] at hpos; exact hpos⟩
  have hg := bumpL_get (qL a n ws) (T.take j) i _ (qL_at hx)
  rw [hpi, hg]
  have hc : (T.take j).countP (fun q => q.pos.toNat == i) = 0 := by
    rw [List.countP_eq_zero]
    intro q hq hqi
    have hqm := hsub q (List.mem_of_mem_take hq)
    have hqb := ab_bd hn hqm
    have hqp : q = p := pos_inj hqm hpm (by have : q.pos.toNat = i := by simpa using hqi
                                            omega)
    subst hqp
    obtain ⟨k, hk, ek⟩ := List.getElem_of_mem hq
    rw [List.length_take] at hk
    rw [List.getElem_take] at ek
    have hjl := (List.getElem?_eq_some_iff.1 hj)
    have := List.pairwise_iff_getElem.1 hsrt k j (by omega) hjl.1 (by omega)
    rw [ek, hjl.2] at this
    unfold Pt.lt at this; omega
  rw [hc]; simp
theorem plus_in {a n x : Int} (ha : in64 a) (hx : 0 ≤ x) (hxn : x ≤ n) (hn : 0 < n) (hr : 0 < a * x % n) : in64 (a * x / n + 1) := by
  have hq := muldiv_bd ha hx hxn hn
  unfold in64 at *
  refine ⟨by omega, ?_⟩
  have h1 : a * x ≤ 9223372036854775807 * n := by
    rcases Int.lt_or_le a 0 with h | h
    · have := Int.mul_le_mul_of_nonneg_right (show a ≤ 0 by omega) hx; omega
    · have h2 : a * x ≤ a * n := Int.mul_le_mul_of_nonneg_left hxn h
      have h3 : a * n ≤ 9223372036854775807 * n := Int.mul_le_mul_of_nonneg_right ha.2 (by omega)
      omega
  have h2 := Int.ediv_mul_add_emod (a * x) n
  rcases Int.lt_or_le (a * x / n) 9223372036854775807 with h | h
  · omega
  · have h3 : 9223372036854775807 * n ≤ a * x / n * n := Int.mul_le_mul_of_nonneg_right h (by omega)
    omega
end Go.Proofs.YtamnccechaooaaaGreat
