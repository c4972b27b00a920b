/- Postings and accruals: plain law, and how they lie in memory. -/
import Derived.Test.YtamnccechaooaaaGreatMWi
import Derived.Test.YtamnccechaooaaaGreatMCa
namespace Go.Proofs.YtamnccechaooaaaGreat
open Go.RowKit Qd
set_option linter.unusedSimpArgs false
set_option linter.unusedVariables false

structure Po where
  day : Int
  n : Int
  deriving DecidableEq, Inhabited
structure Ac where
  a : Int
  b : Int
  n : Int
  deriving DecidableEq, Inhabited
/-- Postings that lie somewhere; accruals. -/
def Posts (w : World) (v : Value) (l : List Po) : Prop := ∃ ad cap, v = .slice ad l.length cap ∧ ∀ (i : Nat) (x : Po), l[i]? = some x → ∃ g o, ad = some ⟨g, o, none⟩ ∧ g < w.heap.size ∧ w.cell? ⟨g, o + i * 2, none⟩ = some (.int .i64 x.day) ∧ w.cell? ⟨g, o + i * 2 + 1, none⟩ = some (.int .i64 x.n)
def Accs (w : World) (v : Value) (l : List Ac) : Prop := ∃ ad cap, v = .slice ad l.length cap ∧ ∀ (i : Nat) (x : Ac), l[i]? = some x → ∃ g o, ad = some ⟨g, o, none⟩ ∧ g < w.heap.size ∧ w.cell? ⟨g, o + i * 3, none⟩ = some (.int .i64 x.a) ∧ w.cell? ⟨g, o + i * 3 + 1, none⟩ = some (.int .i64 x.b) ∧ w.cell? ⟨g, o + i * 3 + 2, none⟩ = some (.int .i64 x.n)
theorem Posts.call {w w' : World} {v : Value} {l : List Po} (h : Posts w v l) (hb : Below w.heap.size w w') : Posts w' v l := by
  obtain ⟨ad, cap, h1, h2⟩ := h
  refine ⟨ad, cap, h1, fun i x hx => ?_⟩
  obtain ⟨g, o, e, hg, c1, c2⟩ := h2 i x hx
  exact ⟨g, o, e, Nat.lt_of_lt_of_le hg hb.size, (hb.cell (p := ⟨g, _, none⟩) hg).trans c1, (hb.cell (p := ⟨g, _, none⟩) hg).trans c2⟩
theorem Accs.call {w w' : World} {v : Value} {l : List Ac} (h : Accs w v l) (hb : Below w.heap.size w w') : Accs w' v l := by
  obtain ⟨ad, cap, h1, h2⟩ := h
  refine ⟨ad, cap, h1, fun i x hx => ?_⟩
  obtain ⟨g, o, e, hg, c1, c2, c3⟩ := h2 i x hx
  exact ⟨g, o, e, Nat.lt_of_lt_of_le hg hb.size, (hb.cell (p := ⟨g, _, none⟩) hg).trans c1, (hb.cell (p := ⟨g, _, none⟩) hg).trans c2, (hb.cell (p := ⟨g, _, none⟩) hg).trans c3⟩
theorem Posts.at {w : World} {ad : Option Addr} {n cap : Nat} {l : List Po} (h : Posts w (.slice ad n cap) l) {i : Nat} {x : Po} (hx : l[i]? = some x) : ∃ g o, ad = some ⟨g, o, none⟩ ∧ g < w.heap.size ∧ w.cell? ⟨g, o + i * 2, none⟩ = some (.int .i64 x.day) ∧ w.cell? ⟨g, o + i * 2 + 1, none⟩ = some (.int .i64 x.n) := by
  obtain ⟨ad', cap', h1, h2⟩ := h
  cases h1
  exact h2 i x hx
theorem Accs.at {w : World} {ad : Option Addr} {n cap : Nat} {l : List Ac} (h : Accs w (.slice ad n cap) l) {i : Nat} {x : Ac} (hx : l[i]? = some x) : ∃ g o, ad = some ⟨g, o, none⟩ ∧ g < w.heap.size ∧ w.cell? ⟨g, o + i * 3, none⟩ = some (.int .i64 x.a) ∧ w.cell? ⟨g, o + i * 3 + 1, none⟩ = some (.int .i64 x.b) ∧ w.cell? ⟨g, o + i * 3 + 2, none⟩ = some (.int .i64 x.n) := by
  obtain ⟨ad', cap', h1, h2⟩ := h
  cases h1
  exact h2 i x hx
theorem Posts.nil (w : World) : Posts w (.slice none 0 0) [] := ⟨none, 0, rfl, fun i x h => by simp at h⟩
theorem Accs.nil (w : World) : Accs w (.slice none 0 0) [] := ⟨none, 0, rfl, fun i x h => by simp at h⟩
/-- Whether a book may be. -/
def dayB (l : List Po) : Bool := l.all fun p => isB p.day
def accE (a : Ac) : Int := if isB a.a && isB a.b then (if a.b < a.a then 1 else 0) else 4
def accsE : List Ac → Int
  | [] => 0
  | a :: l => if accE a = 0 then accsE l else accE a
def chkE (P : List Po) (A : List Ac) : Int := if 4096 < P.length ∨ 4096 < A.length then 6 else if dayB P then accsE A else 4
theorem dayB_take {P : List Po} {j : Nat} {x : Po} (hx : P[j]? = some x) (h : dayB (P.take j) = true) : dayB (P.take (j + 1)) = isB x.day := by
  rw [List.take_add_one, hx]; unfold dayB at h ⊢; simp [h]
theorem dayB_no {P : List Po} {j : Nat} {x : Po} (hx : P[j]? = some x) (h : isB x.day = false) : dayB P = false := by
  cases hd : dayB P
  · rfl
  · rw [dayB, List.all_eq_true] at hd
    rw [hd x (List.mem_of_getElem? hx)] at h; cases h
theorem accsE_app (l m : List Ac) (h : accsE l = 0) : accsE (l ++ m) = accsE m := by
  induction l with
  | nil => rfl
  | cons a l ih =>
    by_cases ha : accE a = 0
    · simp only [accsE, if_pos ha, List.cons_append] at h ⊢; exact ih h
    · simp only [accsE, if_neg ha] at h; exact absurd h ha
theorem accsE_take {A : List Ac} {j : Nat} {x : Ac} (hx : A[j]? = some x) (h : accsE (A.take j) = 0) (hx0 : accE x = 0) : accsE (A.take (j + 1)) = 0 := by
  rw [List.take_add_one, hx, accsE_app _ _ h]; simp [accsE, hx0]
theorem accsE_no {A : List Ac} {j : Nat} {x : Ac} (hx : A[j]? = some x) (h : accsE (A.take j) = 0) (hx0 : ¬ accE x = 0) : accsE A = accE x := by
  have hj := (List.getElem?_eq_some_iff.1 hx).1
  have e : A = A.take j ++ x :: A.drop (j + 1) := by
    have h2 : A.drop j = x :: A.drop (j + 1) := by rw [List.drop_eq_getElem_cons hj]; congr 1; exact Option.some.inj ((List.getElem?_eq_getElem hj).symm.trans hx)
    rw [← h2, List.take_append_drop]
  rw [e, accsE_app _ _ h]; simp [accsE, hx0]
end Go.Proofs.YtamnccechaooaaaGreat
