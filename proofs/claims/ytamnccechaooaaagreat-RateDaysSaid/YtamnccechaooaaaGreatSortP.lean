/- The plain law of a stable sort: parts in order of their shares, the first of equal ones first. -/
import Derived.Test.YtamnccechaooaaaGreatBase
namespace Go.Proofs.YtamnccechaooaaaGreat
open Go.RowKit
set_option linter.unusedSimpArgs false
set_option linter.unusedVariables false

/-- A part: where it stands, and how far its share lies above. -/
structure Pt where
  pos : Int
  ab : Int
  deriving DecidableEq, Inhabited
/-- Which of two parts comes first. -/
def Pt.lt (x y : Pt) : Prop := y.ab < x.ab ∨ (x.ab = y.ab ∧ x.pos < y.pos)
instance (x y : Pt) : Decidable (Pt.lt x y) := by unfold Pt.lt; infer_instance
theorem Pt.lt_trans {x y z : Pt} (h : x.lt y) (k : y.lt z) : x.lt z := by unfold Pt.lt at *; omega
theorem Pt.lt_asymm {x y : Pt} (h : x.lt y) (k : y.lt x) : False := by unfold Pt.lt at *; omega
theorem Pt.total {x y : Pt} (h : x.pos ≠ y.pos) : x.lt y ∨ y.lt x := by unfold Pt.lt; omega
theorem Pt.not_lt {x y : Pt} (h : x.pos ≠ y.pos) (k : ¬ x.lt y) : y.lt x := by unfold Pt.lt at *; omega
/-- What the comparison tells of a part and one that stood ahead of it. -/
theorem Pt.lt_iff {x y : Pt} (h : y.pos < x.pos) : x.lt y ↔ y.ab < x.ab := by unfold Pt.lt; omega
def Srt (l : List Pt) : Prop := l.Pairwise Pt.lt
/-- All of the one list stood ahead of all of the other one. -/
def Ahead (a b : List Pt) : Prop := ∀ x ∈ a, ∀ y ∈ b, x.pos < y.pos
theorem Ahead.perm {a b a' b' : List Pt} (h : Ahead a b) (ha : a'.Perm a) (hb : b'.Perm b) : Ahead a' b' := fun x hx y hy => h x (ha.mem_iff.1 hx) y (hb.mem_iff.1 hy)
theorem Ahead.sub {a b a' b' : List Pt} (h : Ahead a b) (ha : ∀ x ∈ a', x ∈ a) (hb : ∀ x ∈ b', x ∈ b) : Ahead a' b' := fun x hx y hy => h x (ha x hx) y (hb y hy)
/-- A list put in order: the same parts, in the order. -/
def Put (l s : List Pt) : Prop := s.Perm l ∧ Srt s
theorem Put.uniq {l s t : List Pt} (h : Put l s) (k : Put l t) : s = t := by
  have hp : s.Perm t := h.1.trans k.1.symm
  exact hp.eq_of_pairwise (le := Pt.lt) (fun a b _ _ h1 h2 => (Pt.lt_asymm h1 h2).elim) h.2 k.2
theorem Srt.app {a b : List Pt} (ha : Srt a) (hb : Srt b) (h : ∀ x ∈ a, ∀ y ∈ b, x.lt y) : Srt (a ++ b) := List.pairwise_append.2 ⟨ha, hb, h⟩
theorem Srt.left {a b : List Pt} (h : Srt (a ++ b)) : Srt a := (List.pairwise_append.1 h).1
theorem Srt.right {a b : List Pt} (h : Srt (a ++ b)) : Srt b := (List.pairwise_append.1 h).2.1
theorem Srt.cross {a b : List Pt} (h : Srt (a ++ b)) : ∀ x ∈ a, ∀ y ∈ b, x.lt y := (List.pairwise_append.1 h).2.2
/-- Two elements exchanged. -/
def swapL (l : List Pt) (i j : Nat) : List Pt := (l.set i (l[j]?.getD default)).set j (l[i]?.getD default)
theorem swapL_len (l : List Pt) (i j : Nat) : (swapL l i j).length = l.length := by simp [swapL]
theorem swapL_app (p q r : List Pt) (x y : Pt) : swapL (p ++ x :: (q ++ y :: r)) p.length (p.length + 1 + q.length) = p ++ y :: (q ++ x :: r) := by
  unfold swapL
  have e1 : (p ++ x :: (q ++ y :: r))[p.length]? = some x := by simp
  have e2 : (p ++ x :: (q ++ y :: r))[p.length + 1 + q.length]? = some y := by
    rw [List.getElem?_append_right (by omega), show p.length + 1 + q.length - p.length = q.length + 1 by omega, List.getElem?_cons_succ, List.getElem?_append_right (Nat.le_refl _)]; simp
  rw [e1, e2]
  simp only [Option.getD_some]
  rw [List.set_append_right _ _ (Nat.le_refl _), Nat.sub_self, List.set_cons_zero, List.set_append_right _ _ (by omega), show p.length + 1 + q.length - p.length = q.length + 1 by omega, List.set_cons_succ, List.set_append_right _ _ (Nat.le_refl _), Nat.sub_self, List.set_cons_zero]
theorem Put.trans {l s t : List Pt} (h : s.Perm l) (k : Put s t) : Put l t := ⟨k.1.trans h, k.2⟩
/-- The halves behind a rotation are apart: what stands ahead of the cut of the one run, and of the other one, comes first. -/
theorem halves {l1 l2 r1 r2 : List Pt} (hl : Srt (l1 ++ l2)) (hr : Srt (r1 ++ r2))
    (h1 : ∀ x ∈ l1.getLast?, ∀ y ∈ r2.head?, x.lt y) (h2 : ∀ x ∈ r1.getLast?, ∀ y ∈ l2.head?, x.lt y) :
    ∀ x ∈ l1 ++ r1, ∀ y ∈ l2 ++ r2, x.lt y := by
  have last : ∀ {a b : List Pt}, Srt (a ++ b) → ∀ x ∈ a, ∃ z ∈ a.getLast?, x = z ∨ x.lt z := by
    intro a b h x hx
    rcases List.eq_nil_or_concat a with rfl | ⟨a0, z, rfl⟩
    · simp at hx
    · rw [List.concat_eq_append] at hx h ⊢
      refine ⟨z, by simp, ?_⟩
      rcases List.mem_append.1 hx with h3 | h3
      · exact .inr (h.left.cross x h3 z (by simp))
      · simp at h3; exact .inl h3
  have head : ∀ {a b : List Pt}, Srt (a ++ b) → ∀ y ∈ b, ∃ z ∈ b.head?, z = y ∨ z.lt y := by
    intro a b h y hy
    cases b with
    | nil => simp at hy
    | cons z b0 =>
      refine ⟨z, by simp, ?_⟩
      rcases List.mem_cons.1 hy with h3 | h3
      · exact .inl h3.symm
      · exact .inr (List.rel_of_pairwise_cons h.right h3)
  have tr : ∀ {x z z' y : Pt}, (x = z ∨ x.lt z) → z.lt z' → (z' = y ∨ z'.lt y) → x.lt y := by
    intro x z z' y a b c
    rcases a with rfl | a <;> rcases c with rfl | c
    · exact b
    · exact Pt.lt_trans b c
    · exact Pt.lt_trans a b
    · exact Pt.lt_trans (Pt.lt_trans a b) c
  intro x hx y hy
  rcases List.mem_append.1 hx with hx | hx <;> rcases List.mem_append.1 hy with hy | hy
  · exact hl.cross x hx y hy
  · obtain ⟨z, hz, e⟩ := last hl x hx
    obtain ⟨z', hz', e'⟩ := head hr y hy
    exact tr e (h1 z hz z' hz') e'
  · obtain ⟨z, hz, e⟩ := last hr x hx
    obtain ⟨z', hz', e'⟩ := head hl y hy
    exact tr e (h2 z hz z' hz') e'
  · exact hr.cross x hx y hy
/-- One element put into a run behind it. -/
theorem put_front {x : Pt} {r1 r2 : List Pt} (h : Srt (r1 ++ r2)) (h1 : ∀ y ∈ r1, y.lt x) (h2 : ∀ y ∈ r2, x.lt y) : Srt (r1 ++ x :: r2) := by
  refine h.left.app (List.pairwise_cons.2 ⟨h2, h.right⟩) ?_
  intro a ha b hb
  rcases List.mem_cons.1 hb with rfl | hb
  · exact h1 a ha
  · exact h.cross a ha b hb
/-- The first i of two rows of as many exchanged. -/
def swR (p a m b r : List Pt) (i : Nat) : List Pt := p ++ (b.take i ++ a.drop i) ++ m ++ (a.take i ++ b.drop i) ++ r
theorem swR_zero (p a m b r : List Pt) : swR p a m b r 0 = p ++ a ++ m ++ b ++ r := by simp [swR]
theorem swR_full (p a m b r : List Pt) (n : Nat) (ha : a.length = n) (hb : b.length = n) : swR p a m b r n = p ++ b ++ m ++ a ++ r := by
  unfold swR
  rw [List.take_of_length_le (by omega), List.drop_eq_nil_of_le (by omega), List.take_of_length_le (by omega), List.drop_eq_nil_of_le (by omega)]
  simp only [List.append_nil]
theorem swR_step (p a m b r : List Pt) (n i : Nat) (ha : a.length = n) (hb : b.length = n) (hi : i < n) :
    swapL (swR p a m b r i) (p.length + i) (p.length + n + m.length + i) = swR p a m b r (i + 1) := by
  have e1 : a.drop i = a[i] :: a.drop (i + 1) := List.drop_eq_getElem_cons (by omega)
  have e2 : b.drop i = b[i] :: b.drop (i + 1) := List.drop_eq_getElem_cons (by omega)
  have e3 : a.take (i + 1) = a.take i ++ [a[i]] := List.take_succ_eq_append_getElem (by omega)
  have e4 : b.take (i + 1) = b.take i ++ [b[i]] := List.take_succ_eq_append_getElem (by omega)
  have h := swapL_app (p ++ b.take i) (a.drop (i + 1) ++ m ++ a.take i) (b.drop (i + 1) ++ r) a[i] b[i]
  have l1 : (p ++ b.take i).length = p.length + i := by simp; omega
  have l2 : (a.drop (i + 1) ++ m ++ a.take i).length = (n - (i + 1)) + m.length + i := by simp [ha]; omega
  rw [l1, l2, show p.length + i + 1 + (n - (i + 1) + m.length + i) = p.length + n + m.length + i by omega] at h
  have s1 : swR p a m b r i = p ++ b.take i ++ a[i] :: (a.drop (i + 1) ++ m ++ a.take i ++ b[i] :: (b.drop (i + 1) ++ r)) := by
    unfold swR; rw [e1, e2]; simp only [List.append_assoc, List.cons_append, List.nil_append]
  have s2 : swR p a m b r (i + 1) = p ++ b.take i ++ b[i] :: (a.drop (i + 1) ++ m ++ a.take i ++ a[i] :: (b.drop (i + 1) ++ r)) := by
    unfold swR; rw [e3, e4]; simp only [List.append_assoc, List.cons_append, List.nil_append]
  rw [s1, s2]; exact h
/-- A neighbour moved down by one. -/
theorem swap_down (p s1 s2 r : List Pt) (x y : Pt) : swapL (p ++ (s1 ++ [y]) ++ [x] ++ s2 ++ r) (p.length + s1.length) (p.length + s1.length + 1) = p ++ s1 ++ [x] ++ (y :: s2) ++ r := by
  have h := swapL_app (p ++ s1) [] (s2 ++ r) y x
  simp only [List.length_append, List.length_nil, Nat.add_zero, List.nil_append] at h
  simpa using h
/-- The run with one more put in. -/
theorem put_in {s1 s2 : List Pt} {x : Pt} (h : Srt (s1 ++ s2)) (h1 : ∀ y ∈ s1.getLast?, y.lt x) (h2 : ∀ y ∈ s2, x.lt y) : Srt (s1 ++ x :: s2) := by
  refine put_front h ?_ h2
  intro y hy
  rcases List.eq_nil_or_concat s1 with rfl | ⟨a0, z, rfl⟩
  · simp at hy
  · rw [List.concat_eq_append] at hy h h1
    have hz : z.lt x := h1 z (by simp)
    rcases List.mem_append.1 hy with h3 | h3
    · exact Pt.lt_trans (h.left.cross y h3 z (by simp)) hz
    · simp at h3; rw [h3]; exact hz
end Go.Proofs.YtamnccechaooaaaGreat
