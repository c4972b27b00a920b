/- The sort of the parts: the plain law of two runs cut and joined. -/
import Derived.Test.YtamnccechaooaaaGreatSortE
namespace Go.Proofs.YtamnccechaooaaaGreat
open Go.RowKit Go.Sort
set_option linter.unusedSimpArgs false
set_option linter.unusedVariables false

theorem join_put {A1 A2 B1 B2 s1 s2 : List Pt} (hA : Srt (A1 ++ A2)) (hB : Srt (B1 ++ B2)) (h1 : ∀ x ∈ A1.getLast?, ∀ y ∈ B2.head?, x.lt y) (h2 : ∀ x ∈ B1.getLast?, ∀ y ∈ A2.head?, x.lt y)
    (hs1 : Put (A1 ++ B1) s1) (hs2 : Put (A2 ++ B2) s2) : Put ((A1 ++ A2) ++ (B1 ++ B2)) (s1 ++ s2) := by
  refine ⟨?_, hs1.2.app hs2.2 (fun x hx y hy => halves hA hB h1 h2 x (hs1.1.mem_iff.1 hx) y (hs2.1.mem_iff.1 hy))⟩
  refine (hs1.1.append hs2.1).trans ?_
  simp only [List.append_assoc]
  refine List.Perm.append_left A1 ?_
  rw [← List.append_assoc, ← List.append_assoc]
  exact List.perm_append_comm.append_right B2
/-- Where the search stands: i is where it began, or what stands ahead of it goes ahead of its fellow; j is where it ended, or what stands there goes behind its fellow. -/
def Cut (A B : List Pt) (M s0 r0 i j : Nat) : Prop :=
  (i = s0 ∨ ∃ x y, 0 < i ∧ A[i - 1]? = some x ∧ B[M - i]? = some y ∧ x.lt y) ∧ (j = r0 ∨ ∃ x y, j < M ∧ A[j]? = some x ∧ B[M - 1 - j]? = some y ∧ y.lt x)
theorem Cut.ends {A B : List Pt} {M s0 r0 s : Nat} (h : Cut A B M s0 r0 s s) (hs0 : s0 = 0 ∨ s0 + B.length = M) (hr0 : r0 = M ∨ r0 = A.length) (hsA : s ≤ A.length) (hsM : s ≤ M) (hB : M ≤ s + B.length) :
    (∀ x ∈ (A.take s).getLast?, ∀ y ∈ (B.drop (M - s)).head?, x.lt y) ∧ (∀ x ∈ (B.take (M - s)).getLast?, ∀ y ∈ (A.drop s).head?, x.lt y) := by
  have last : ∀ (l : List Pt) (k : Nat) (x : Pt), k ≤ l.length → x ∈ (l.take k).getLast? → 0 < k ∧ l[k - 1]? = some x := by
    intro l k x hk hx
    rw [List.getLast?_eq_getElem?, List.length_take, Nat.min_eq_left hk, List.getElem?_take] at hx
    rcases Nat.eq_zero_or_pos k with rfl | h0
    · simp at hx
    · rw [if_pos (by omega)] at hx
      exact ⟨h0, hx⟩
  have head : ∀ (l : List Pt) (k : Nat) (x : Pt), x ∈ (l.drop k).head? → l[k]? = some x := by
    intro l k x hx
    rw [List.head?_drop] at hx
    exact hx
  refine ⟨fun x hx y hy => ?_, fun x hx y hy => ?_⟩
  · obtain ⟨a1, a2⟩ := last A s x hsA hx
    have b1 := head B _ y hy
    have b2 := (List.getElem?_eq_some_iff.1 b1).1
    rcases h.1 with e | ⟨x', y', _, e1, e2, e3⟩
    · exfalso
      rcases hs0 with h0 | h0 <;> omega
    · rw [a2] at e1
      rw [b1] at e2
      cases e1; cases e2
      exact e3
  · obtain ⟨a1, a2⟩ := last B (M - s) x (by omega) hx
    have b1 := head A _ y hy
    have b2 := (List.getElem?_eq_some_iff.1 b1).1
    rcases h.2 with e | ⟨x', y', _, e1, e2, e3⟩
    · exfalso
      rcases hr0 with h0 | h0 <;> omega
    · rw [show M - s - 1 = M - 1 - s by omega] at a2
      rw [b1] at e1
      rw [a2] at e2
      cases e1; cases e2
      exact e3
end Go.Proofs.YtamnccechaooaaaGreat
