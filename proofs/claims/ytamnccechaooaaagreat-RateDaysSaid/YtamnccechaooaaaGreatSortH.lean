/- The sort of the parts: blocks put in order, pairs of blocks made one; the parts put in order. -/
import Derived.Test.YtamnccechaooaaaGreatSortP
namespace Go.Proofs.YtamnccechaooaaaGreat
open Go.RowKit
set_option linter.unusedSimpArgs false
set_option linter.unusedVariables false

/-- A block of a list: the c-th of so many. -/
def Ck (b c : Nat) (l : List Pt) : List Pt := (l.drop (c * b)).take b
theorem ck_left {b c m : Nat} {l k : List Pt} (h : l.take m = k.take m) (hm : (c + 1) * b ≤ m) : Ck b c l = Ck b c k := by
  have e : ∀ x : List Pt, Ck b c x = (x.take m |>.drop (c * b)).take b := by
    intro x
    unfold Ck
    rw [List.drop_take, List.take_take]
    congr 1
    have : (c + 1) * b = c * b + b := Nat.succ_mul c b
    omega
  rw [e l, e k, h]
theorem ck_right {b c m : Nat} {l k : List Pt} (h : l.drop m = k.drop m) (hm : m ≤ c * b) : Ck b c l = Ck b c k := by
  have e : ∀ x : List Pt, Ck b c x = ((x.drop m).drop (c * b - m)).take b := by
    intro x
    unfold Ck
    rw [List.drop_drop]
    congr 2
    omega
  rw [e l, e k, h]
theorem ck_two (b i : Nat) (l : List Pt) : Ck (2 * b) i l = Ck b (2 * i) l ++ Ck b (2 * i + 1) l := by
  unfold Ck
  rw [show i * (2 * b) = 2 * i * b by rw [Nat.mul_left_comm, Nat.mul_assoc], show (2 * i + 1) * b = 2 * i * b + b from Nat.succ_mul _ _, ← List.drop_drop]
  rw [show 2 * b = b + b by omega, List.take_add]
theorem ck_nil {b c : Nat} {l : List Pt} (h : l.length ≤ c * b) : Ck b c l = [] := by
  unfold Ck
  rw [List.drop_eq_nil_of_le h, List.take_nil]
theorem ck_all {b : Nat} {l : List Pt} (h : l.length ≤ b) : Ck b 0 l = l := by
  unfold Ck
  rw [Nat.zero_mul, List.drop_zero, List.take_of_length_le h]
theorem ck_len (b c : Nat) (l : List Pt) : (Ck b c l).length = min b (l.length - c * b) := by simp [Ck]
/-- Each block from the k-th on has been put in order. -/
def Bls (b : Nat) (s D : List Pt) : Prop := ∀ c, Put (Ck b c s) (Ck b c D)
theorem put_nil : Put [] [] := ⟨List.Perm.refl _, List.Pairwise.nil⟩
/-- The blocks ahead of the i-th one are in order, the rest is as it was. -/
def InsL (b : Nat) (s D : List Pt) (i : Nat) : Prop := D.length = s.length ∧ (∀ c, c < i → Put (Ck b c s) (Ck b c D)) ∧ D.drop (i * b) = s.drop (i * b)
theorem InsL.step {b i : Nat} {s D s' : List Pt} (h : InsL b s D i) (hs : Put (Ck b i s) s') (hl : s'.length = (Ck b i s).length) : InsL b s (D.take (i * b) ++ s' ++ D.drop ((i + 1) * b)) (i + 1) := by
  obtain ⟨h1, h2, h3⟩ := h
  have hb : (i + 1) * b = i * b + b := Nat.succ_mul _ _
  have hlen : (D.take (i * b)).length = min (i * b) s.length := by rw [List.length_take, h1]
  have hsl : s'.length = min b (s.length - i * b) := by rw [hl, ck_len]
  refine ⟨by simp only [List.length_append, List.length_take, List.length_drop, h1, hsl]; omega, fun c hc => ?_, ?_⟩
  · rcases Nat.lt_or_ge c i with hlt | hge
    · have e : Ck b c (D.take (i * b) ++ s' ++ D.drop ((i + 1) * b)) = Ck b c D := by
        refine ck_left (m := i * b) ?_ (Nat.mul_le_mul_right b hlt)
        rcases Nat.le_total (i * b) s.length with hh | hh
        · rw [List.append_assoc, List.take_append_of_le_length (by rw [hlen]; omega), List.take_take, Nat.min_self]
        · have e1 : s' = [] := List.length_eq_zero_iff.1 (by omega)
          have e2 : D.drop ((i + 1) * b) = [] := List.drop_eq_nil_of_le (by omega)
          rw [e1, e2, List.append_nil, List.append_nil, List.take_take, Nat.min_self]
      rw [e]; exact h2 c hlt
    · obtain rfl : c = i := by omega
      have e : Ck b c (D.take (c * b) ++ s' ++ D.drop ((c + 1) * b)) = s' := by
        unfold Ck
        rcases Nat.le_total (c * b) s.length with hh | hh
        · rw [List.append_assoc, List.drop_append, List.drop_take, Nat.sub_self, List.take_zero, List.nil_append, hlen, show c * b - min (c * b) s.length = 0 by omega, List.drop_zero]
          rcases Nat.le_total b (s.length - c * b) with h5 | h5
          · rw [List.take_append_of_le_length (by omega), List.take_of_length_le (by omega)]
          · rw [List.drop_eq_nil_of_le (by omega), List.append_nil, List.take_of_length_le (by omega)]
        · have e1 : s' = [] := List.length_eq_zero_iff.1 (by omega)
          rw [e1, List.drop_eq_nil_of_le, List.take_nil]
          · simp only [List.length_append, List.length_take, List.length_drop, h1, List.length_nil]; omega
      rw [e]; exact hs
  · have e : (D.take (i * b) ++ s' ++ D.drop ((i + 1) * b)).drop ((i + 1) * b) = D.drop ((i + 1) * b) := by
      rcases Nat.le_total ((i + 1) * b) s.length with hh | hh
      · rw [List.drop_append, List.drop_eq_nil_of_le (by simp only [List.length_append, hlen, hsl]; omega), List.nil_append]
        rw [show (i + 1) * b - (D.take (i * b) ++ s').length = 0 by simp only [List.length_append, hlen, hsl]; omega, List.drop_zero]
      · rw [List.drop_eq_nil_of_le, List.drop_eq_nil_of_le (by omega)]
        simp only [List.length_append, List.length_take, List.length_drop, h1, hsl]; omega
    rw [e, hb, ← List.drop_drop, h3, List.drop_drop]
theorem InsL.fin {b i : Nat} {s D : List Pt} (h : InsL b s D i) (hi : s.length ≤ i * b) : Bls b s D := by
  intro c
  rcases Nat.lt_or_ge c i with hlt | hge
  · exact h.2.1 c hlt
  · have hm : i * b ≤ c * b := Nat.mul_le_mul_right b hge
    rw [ck_nil (by omega), ck_nil (by rw [h.1]; omega)]
    exact put_nil
/-- Pairs of blocks ahead of the i-th pair are one block in order; behind it the blocks are. -/
def SymL (b : Nat) (s D : List Pt) (i : Nat) : Prop := D.length = s.length ∧ (∀ c, c < i → Put (Ck (2 * b) c s) (Ck (2 * b) c D)) ∧ (∀ c, 2 * i ≤ c → Put (Ck b c s) (Ck b c D))
theorem SymL.start {b : Nat} {s D : List Pt} (hl : D.length = s.length) (h : Bls b s D) : SymL b s D 0 := ⟨hl, fun c hc => absurd hc (Nat.not_lt_zero _), fun c _ => h c⟩
/-- The lists at a pair. -/
theorem split_at (b i : Nat) (D : List Pt) : D = D.take (i * (2 * b)) ++ Ck b (2 * i) D ++ Ck b (2 * i + 1) D ++ D.drop ((i + 1) * (2 * b)) := by
  rw [List.append_assoc (D.take _), ← ck_two]
  unfold Ck
  rw [show (i + 1) * (2 * b) = i * (2 * b) + 2 * b from Nat.succ_mul _ _, ← List.drop_drop, List.append_assoc, List.take_append_drop, List.take_append_drop]
theorem SymL.step {b i : Nat} {s D s' : List Pt} (h : SymL b s D i) (hs : Put (Ck b (2 * i) D ++ Ck b (2 * i + 1) D) s') : SymL b s (D.take (i * (2 * b)) ++ s' ++ D.drop ((i + 1) * (2 * b))) (i + 1) := by
  obtain ⟨h1, h2, h3⟩ := h
  have hb : (i + 1) * (2 * b) = i * (2 * b) + 2 * b := Nat.succ_mul _ _
  have hlen : (D.take (i * (2 * b))).length = min (i * (2 * b)) s.length := by rw [List.length_take, h1]
  have hsl : s'.length = min (2 * b) (s.length - i * (2 * b)) := by rw [hs.1.length_eq, ← ck_two, ck_len, h1]
  have hP : Put (Ck (2 * b) i s) s' := by
    refine ⟨hs.1.trans ?_, hs.2⟩
    rw [ck_two]
    exact (h3 (2 * i) (by omega)).1.append (h3 (2 * i + 1) (by omega)).1
  refine ⟨by simp only [List.length_append, List.length_take, List.length_drop, h1, hsl]; omega, fun c hc => ?_, fun c hc => ?_⟩
  · rcases Nat.lt_or_ge c i with hlt | hge
    · have e : Ck (2 * b) c (D.take (i * (2 * b)) ++ s' ++ D.drop ((i + 1) * (2 * b))) = Ck (2 * b) c D := by
        refine ck_left (m := i * (2 * b)) ?_ (Nat.mul_le_mul_right _ hlt)
        rcases Nat.le_total (i * (2 * b)) s.length with hh | hh
        · rw [List.append_assoc, List.take_append_of_le_length (by rw [hlen]; omega), List.take_take, Nat.min_self]
        · have e1 : s' = [] := List.length_eq_zero_iff.1 (by omega)
          have e2 : D.drop ((i + 1) * (2 * b)) = [] := List.drop_eq_nil_of_le (by omega)
          rw [e1, e2, List.append_nil, List.append_nil, List.take_take, Nat.min_self]
      rw [e]; exact h2 c hlt
    · obtain rfl : c = i := by omega
      have e : Ck (2 * b) c (D.take (c * (2 * b)) ++ s' ++ D.drop ((c + 1) * (2 * b))) = s' := by
        unfold Ck
        rcases Nat.le_total (c * (2 * b)) s.length with hh | hh
        · rw [List.append_assoc, List.drop_append, List.drop_take, Nat.sub_self, List.take_zero, List.nil_append, hlen, show c * (2 * b) - min (c * (2 * b)) s.length = 0 by omega, List.drop_zero]
          rcases Nat.le_total (2 * b) (s.length - c * (2 * b)) with h5 | h5
          · rw [List.take_append_of_le_length (by omega), List.take_of_length_le (by omega)]
          · rw [List.drop_eq_nil_of_le (by omega), List.append_nil, List.take_of_length_le (by omega)]
        · have e1 : s' = [] := List.length_eq_zero_iff.1 (by omega)
          rw [e1, List.drop_eq_nil_of_le, List.take_nil]
          · simp only [List.length_append, List.length_take, List.length_drop, h1, List.length_nil]; omega
      rw [e]; exact hP
  · have hcb : (i + 1) * (2 * b) ≤ c * b := by
      have := Nat.mul_le_mul_right b hc
      rw [show (i + 1) * (2 * b) = 2 * (i + 1) * b by rw [Nat.mul_left_comm, Nat.mul_assoc]]
      exact this
    have e : Ck b c (D.take (i * (2 * b)) ++ s' ++ D.drop ((i + 1) * (2 * b))) = Ck b c D := by
      refine ck_right (m := (i + 1) * (2 * b)) ?_ hcb
      rcases Nat.le_total ((i + 1) * (2 * b)) s.length with hh | hh
      · rw [List.drop_append, List.drop_eq_nil_of_le (by simp only [List.length_append, hlen, hsl]; omega), List.nil_append]
        rw [show (i + 1) * (2 * b) - (D.take (i * (2 * b)) ++ s').length = 0 by simp only [List.length_append, hlen, hsl]; omega, List.drop_zero]
      · rw [List.drop_eq_nil_of_le, List.drop_eq_nil_of_le (by omega)]
        simp only [List.length_append, List.length_take, List.length_drop, h1, hsl]; omega
    rw [e]; exact h3 c (by omega)
theorem SymL.fin {b i : Nat} {s D : List Pt} (h : SymL b s D i) (hi : s.length ≤ i * (2 * b) + b) : Bls (2 * b) s D := by
  obtain ⟨h1, h2, h3⟩ := h
  intro c
  rcases Nat.lt_or_ge c i with hlt | hge
  · exact h2 c hlt
  · have hm : i * (2 * b) ≤ c * (2 * b) := Nat.mul_le_mul_right _ hge
    have e2 : (2 * c + 1) * b = c * (2 * b) + b := by rw [Nat.succ_mul]; congr 1; rw [Nat.mul_left_comm, Nat.mul_assoc]
    have z1 : Ck b (2 * c + 1) s = [] := ck_nil (by omega)
    have z2 : Ck b (2 * c + 1) D = [] := ck_nil (by omega)
    rw [ck_two, ck_two, z1, z2, List.append_nil, List.append_nil]
    exact h3 (2 * c) (by omega)
theorem Bls.fin {b : Nat} {s D : List Pt} (h : Bls b s D) (hl : D.length = s.length) (hb : s.length ≤ b) : Put s D := by
  have := h 0
  rwa [ck_all hb, ck_all (by omega)] at this
/-- What two blocks bring along. -/
theorem SymL.runs {b i : Nat} {s D : List Pt} (h : SymL b s D i) (hs : s.Pairwise fun x y => x.pos < y.pos) : Srt (Ck b (2 * i) D) ∧ Srt (Ck b (2 * i + 1) D) ∧ Ahead (Ck b (2 * i) D) (Ck b (2 * i + 1) D) := by
  obtain ⟨h1, h2, h3⟩ := h
  have a := h3 (2 * i) (by omega)
  have c := h3 (2 * i + 1) (by omega)
  refine ⟨a.2, c.2, ?_⟩
  have e : Ahead (Ck b (2 * i) s) (Ck b (2 * i + 1) s) := by
    have hp : (Ck b (2 * i) s ++ Ck b (2 * i + 1) s).Pairwise fun x y => x.pos < y.pos := by
      rw [← ck_two]
      unfold Ck
      exact hs.sublist ((List.take_sublist _ _).trans (List.drop_sublist _ _))
    exact (List.pairwise_append.1 hp).2.2
  exact e.perm a.1 c.1
/-- Parts put in order, one by one. -/
def insP (x : Pt) : List Pt → List Pt
  | [] => [x]
  | y :: l => if x.lt y then x :: y :: l else y :: insP x l
def srtP : List Pt → List Pt
  | [] => []
  | x :: l => insP x (srtP l)
theorem insP_perm (x : Pt) (l : List Pt) : (insP x l).Perm (x :: l) := by
  induction l with
  | nil => exact List.Perm.refl _
  | cons y l ih =>
    unfold insP
    split
    · exact List.Perm.refl _
    · exact (List.Perm.cons y ih).trans (List.Perm.swap x y l)
theorem srtP_perm (l : List Pt) : (srtP l).Perm l := by
  induction l with
  | nil => exact List.Perm.refl _
  | cons x l ih => exact (insP_perm x _).trans (List.Perm.cons x ih)
theorem insP_srt {x : Pt} {l : List Pt} (h : Srt l) (hd : ∀ y ∈ l, x.pos ≠ y.pos) : Srt (insP x l) := by
  induction l with
  | nil => exact List.pairwise_singleton _ _
  | cons y l ih =>
    have h1 := List.pairwise_cons.1 h
    unfold insP
    split
    · rename_i hxy
      refine List.pairwise_cons.2 ⟨fun z hz => ?_, h⟩
      rcases List.mem_cons.1 hz with rfl | hz
      · exact hxy
      · exact Pt.lt_trans hxy (h1.1 z hz)
    · rename_i hxy
      refine List.pairwise_cons.2 ⟨fun z hz => ?_, ih h1.2 (fun z hz => hd z (List.mem_cons_of_mem _ hz))⟩
      rcases List.mem_cons.1 ((insP_perm x l).mem_iff.1 hz) with rfl | hz
      · exact Pt.not_lt (hd y (by simp)) hxy
      · exact h1.1 z hz
theorem srtP_put {l : List Pt} (h : l.Pairwise fun x y => x.pos < y.pos) : Put l (srtP l) := by
  refine ⟨srtP_perm l, ?_⟩
  induction l with
  | nil => exact List.Pairwise.nil
  | cons x l ih =>
    have h1 := List.pairwise_cons.1 h
    exact insP_srt (ih h1.2) (fun y hy => by have := h1.1 y ((srtP_perm l).mem_iff.1 hy); omega)
end Go.Proofs.YtamnccechaooaaaGreat
