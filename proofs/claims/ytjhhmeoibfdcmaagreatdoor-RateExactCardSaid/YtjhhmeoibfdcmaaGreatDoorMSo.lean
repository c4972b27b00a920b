/- The plain law of a stable sort: parts in order of their shares, the first of equal ones first. The sort of the parts: rows exchanged. The sort of the parts: two rows turned, how two parts compare. The sort of the parts: one put in behind the other. The sort of the parts: two runs made one, where the first one is a single part. The sort of the parts: two runs made one, where the second one is a single part. The sort of the parts: the plain law of two runs cut and joined. The sort of the parts: two runs made one. The sort of the parts: blocks put in order, pairs of blocks made one; the parts put in order. The sort of the parts: all of it. -/
import Derived.Test.YtjhhmeoibfdcmaaGreatDoorBase
import Derived.Lib.QuietBelow
import Derived.BigQuiet
import Derived.Deep.DeepCutAuto
namespace Go.Proofs.YtjhhmeoibfdcmaaGreatDoor
open Go.RowKit
set_option linter.unusedSimpArgs false
set_option linter.unusedVariables false

/-- A part: where it stands, and how far its share lies above. -/
structure Pt where
  pos : Int
  ab : Int
  deriving DecidableEq, Inhabited
/-- Which of two parts comes first. -/
def Pt.lt (x y : Pt) : Prop := y.ab < x.ab ∨ (x.ab = y.ab ∧ x.pos < y.pos)
instance (x y : Pt) : Decidable (Pt.lt x y) := by unfold Pt.lt; infer_instance
theorem Pt.lt_trans {x y z : Pt} (h : x.lt y) (k : y.lt z) : x.lt z := by unfold Pt.lt at *; omega
theorem Pt.lt_asymm {x y : Pt} (h : x.lt y) (k : y.lt x) : False := by unfold Pt.lt at *; omega
theorem Pt.total {x y : Pt} (h : x.pos ≠ y.pos) : x.lt y ∨ y.lt x := by unfold Pt.lt; omega
theorem Pt.not_lt {x y : Pt} (h : x.pos ≠ y.pos) (k : ¬ x.lt y) : y.lt x := by unfold Pt.lt at *; omega
/-- What the comparison tells of a part and one that stood ahead of it. -/
theorem Pt.lt_iff {x y : Pt} (h : y.pos < x.pos) : x.lt y ↔ y.ab < x.ab := by unfold Pt.lt; omega
def Srt (l : List Pt) : Prop := l.Pairwise Pt.lt
/-- All of the one list stood ahead of all of the other one. -/
def Ahead (a b : List Pt) : Prop := ∀ x ∈ a, ∀ y ∈ b, x.pos < y.pos
theorem Ahead.perm {a b a' b' : List Pt} (h : Ahead a b) (ha : a'.Perm a) (hb : b'.Perm b) : Ahead a' b' := fun x hx y hy => h x (ha.mem_iff.1 hx) y (hb.mem_iff.1 hy)
theorem Ahead.sub {a b a' b' : List Pt} (h : Ahead a b) (ha : ∀ x ∈ a', x ∈ a) (hb : ∀ x ∈ b', x ∈ b) : Ahead a' b' := fun x hx y hy => h x (ha x hx) y (hb y hy)
/-- A list put in order: the same parts, in the order. -/
def Put (l s : List Pt) : Prop := s.Perm l ∧ Srt s
theorem Put.uniq {l s t : List Pt} (h : Put l s) (k : Put l t) : s = t := by
  have hp : s.Perm t := h.1.trans k.1.symm
  exact hp.eq_of_pairwise (le := Pt.lt) (fun a b _ _ h1 h2 => (Pt.lt_asymm h1 h2).elim) h.2 k.2
theorem Srt.app {a b : List Pt} (ha : Srt a) (hb : Srt b) (h : ∀ x ∈ a, ∀ y ∈ b, x.lt y) : Srt (a ++ b) := List.pairwise_append.2 ⟨ha, hb, h⟩
theorem Srt.left {a b : List Pt} (h : Srt (a ++ b)) : Srt a := (List.pairwise_append.1 h).1
theorem Srt.right {a b : List Pt} (h : Srt (a ++ b)) : Srt b := (List.pairwise_append.1 h).2.1
theorem Srt.cross {a b : List Pt} (h : Srt (a ++ b)) : ∀ x ∈ a, ∀ y ∈ b, x.lt y := (List.pairwise_append.1 h).2.2
/-- Two elements exchanged. -/
def swapL (l : List Pt) (i j : Nat) : List Pt := (l.set i (l[j]?.getD default)).set j (l[i]?.getD default)
theorem swapL_len (l : List Pt) (i j : Nat) : (swapL l i j).length = l.length := by simp [swapL]
theorem swapL_app (p q r : List Pt) (x y : Pt) : swapL (p ++ x :: (q ++ y :: r)) p.length (p.length + 1 + q.length) = p ++ y :: (q ++ x :: r) := by
  unfold swapL
  have e1 : (p ++ x :: (q ++ y :: r))[p.length]? = some x := by simp
  have e2 : (p ++ x :: (q ++ y :: r))[p.length + 1 + q.length]? = some y := by
    rw [List.getElem?_append_right (by omega), show p.length + 1 + q.length - p.length = q.length + 1 by omega, List.getElem?_cons_succ, List.getElem?_append_right (Nat.le_refl _)]; simp
  rw [e1, e2]
  simp only [Option.getD_some]
  rw [List.set_append_right _ _ (Nat.le_refl _), Nat.sub_self, List.set_cons_zero, List.set_append_right _ _ (by omega), show p.length + 1 + q.length - p.length = q.length + 1 by omega, List.set_cons_succ, List.set_append_right _ _ (Nat.le_refl _), Nat.sub_self, List.set_cons_zero]
theorem Put.trans {l s t : List Pt} (h : s.Perm l) (k : Put s t) : Put l t := ⟨k.1.trans h, k.2⟩
/-- The halves behind a rotation are apart: what stands ahead of the cut of the one run, and of the other one, comes first. -/
theorem halves {l1 l2 r1 r2 : List Pt} (hl : Srt (l1 ++ l2)) (hr : Srt (r1 ++ r2))
    (h1 : ∀ x ∈ l1.getLast?, ∀ y ∈ r2.head?, x.lt y) (h2 : ∀ x ∈ r1.getLast?, ∀ y ∈ l2.head?, x.lt y) :
    ∀ x ∈ l1 ++ r1, ∀ y ∈ l2 ++ r2, x.lt y := by
  have last : ∀ {a b : List Pt}, Srt (a ++ b) → ∀ x ∈ a, ∃ z ∈ a.getLast?, x = z ∨ x.lt z := by
    intro a b h x hx
    rcases List.eq_nil_or_concat a with rfl | ⟨a0, z, rfl⟩
    · simp at hx
    · rw [List.concat_eq_append] at hx h ⊢
      refine ⟨z, by simp, ?_⟩
      rcases List.mem_append.1 hx with h3 | h3
      · exact .inr (h.left.cross x h3 z (by simp))
      · simp at h3; exact .inl h3
  have head : ∀ {a b : List Pt}, Srt (a ++ b) → ∀ y ∈ b, ∃ z ∈ b.head?, z = y ∨ z.lt y := by
    intro a b h y hy
    cases b with
    | nil => simp at hy
    | cons z b0 =>
      refine ⟨z, by simp, ?_⟩
      rcases List.mem_cons.1 hy with h3 | h3
      · exact .inl h3.symm
      · exact .inr (List.rel_of_pairwise_cons h.right h3)
  have tr : ∀ {x z z' y : Pt}, (x = z ∨ x.lt z) → z.lt z' → (z' = y ∨ z'.lt y) → x.lt y := by
    intro x z z' y a b c
    rcases a with rfl | a <;> rcases c with rfl | c
    · exact b
    · exact Pt.lt_trans b c
    · exact Pt.lt_trans a b
    · exact Pt.lt_trans (Pt.lt_trans a b) c
  intro x hx y hy
  rcases List.mem_append.1 hx with hx | hx <;> rcases List.mem_append.1 hy with hy | hy
  · exact hl.cross x hx y hy
  · obtain ⟨z, hz, e⟩ := last hl x hx
    obtain ⟨z', hz', e'⟩ := head hr y hy
    exact tr e (h1 z hz z' hz') e'
  · obtain ⟨z, hz, e⟩ := last hr x hx
    obtain ⟨z', hz', e'⟩ := head hl y hy
    exact tr e (h2 z hz z' hz') e'
  · exact hr.cross x hx y hy
/-- One element put into a run behind it. -/
theorem put_front {x : Pt} {r1 r2 : List Pt} (h : Srt (r1 ++ r2)) (h1 : ∀ y ∈ r1, y.lt x) (h2 : ∀ y ∈ r2, x.lt y) : Srt (r1 ++ x :: r2) := by
  refine h.left.app (List.pairwise_cons.2 ⟨h2, h.right⟩) ?_
  intro a ha b hb
  rcases List.mem_cons.1 hb with rfl | hb
  · exact h1 a ha
  · exact h.cross a ha b hb
/-- The first i of two rows of as many exchanged. -/
def swR (p a m b r : List Pt) (i : Nat) : List Pt := p ++ (b.take i ++ a.drop i) ++ m ++ (a.take i ++ b.drop i) ++ r
theorem swR_zero (p a m b r : List Pt) : swR p a m b r 0 = p ++ a ++ m ++ b ++ r := by simp [swR]
theorem swR_full (p a m b r : List Pt) (n : Nat) (ha : a.length = n) (hb : b.length = n) : swR p a m b r n = p ++ b ++ m ++ a ++ r := by
  unfold swR
  rw [List.take_of_length_le (by omega), List.drop_eq_nil_of_le (by omega), List.take_of_length_le (by omega), List.drop_eq_nil_of_le (by omega)]
  simp only [List.append_nil]
theorem swR_step (p a m b r : List Pt) (n i : Nat) (ha : a.length = n) (hb : b.length = n) (hi : i < n) :
    swapL (swR p a m b r i) (p.length + i) (p.length + n + m.length + i) = swR p a m b r (i + 1) := by
  have e1 : a.drop i = a[i] :: a.drop (i + 1) := List.drop_eq_getElem_cons (by omega)
  have e2 : b.drop i = b[i] :: b.drop (i + 1) := List.drop_eq_getElem_cons (by omega)
  have e3 : a.take (i + 1) = a.take i ++ [a[i]] := List.take_succ_eq_append_getElem (by omega)
  have e4 : b.take (i + 1) = b.take i ++ [b[i]] := List.take_succ_eq_append_getElem (by omega)
  have h := swapL_app (p ++ b.take i) (a.drop (i + 1) ++ m ++ a.take i) (b.drop (i + 1) ++ r) a[i] b[i]
  have l1 : (p ++ b.take i).length = p.length + i := by simp; omega
  have l2 : (a.drop (i + 1) ++ m ++ a.take i).length = (n - (i + 1)) + m.length + i := by simp [ha]; omega
  rw [l1, l2, show p.length + i + 1 + (n - (i + 1) + m.length + i) = p.length + n + m.length + i by omega] at h
  have s1 : swR p a m b r i = p ++ b.take i ++ a[i] :: (a.drop (i + 1) ++ m ++ a.take i ++ b[i] :: (b.drop (i + 1) ++ r)) := by
    unfold swR; rw [e1, e2]; simp only [List.append_assoc, List.cons_append, List.nil_append]
  have s2 : swR p a m b r (i + 1) = p ++ b.take i ++ b[i] :: (a.drop (i + 1) ++ m ++ a.take i ++ a[i] :: (b.drop (i + 1) ++ r)) := by
    unfold swR; rw [e3, e4]; simp only [List.append_assoc, List.cons_append, List.nil_append]
  rw [s1, s2]; exact h
/-- A neighbour moved down by one. -/
theorem swap_down (p s1 s2 r : List Pt) (x y : Pt) : swapL (p ++ (s1 ++ [y]) ++ [x] ++ s2 ++ r) (p.length + s1.length) (p.length + s1.length + 1) = p ++ s1 ++ [x] ++ (y :: s2) ++ r := by
  have h := swapL_app (p ++ s1) [] (s2 ++ r) y x
  simp only [List.length_append, List.length_nil, Nat.add_zero, List.nil_append] at h
  simpa using h
/-- The run with one more put in. -/
theorem put_in {s1 s2 : List Pt} {x : Pt} (h : Srt (s1 ++ s2)) (h1 : ∀ y ∈ s1.getLast?, y.lt x) (h2 : ∀ y ∈ s2, x.lt y) : Srt (s1 ++ x :: s2) := by
  refine put_front h ?_ h2
  intro y hy
  rcases List.eq_nil_or_concat s1 with rfl | ⟨a0, z, rfl⟩
  · simp at hy
  · rw [List.concat_eq_append] at hy h h1
    have hz : z.lt x := h1 z (by simp)
    rcases List.mem_append.1 hy with h3 | h3
    · exact Pt.lt_trans (h.left.cross y h3 z (by simp)) hz
    · simp at h3; rw [h3]; exact hz
end Go.Proofs.YtjhhmeoibfdcmaaGreatDoor

namespace Go.Proofs.YtjhhmeoibfdcmaaGreatDoor
open Go.RowKit
set_option linter.unusedSimpArgs false
set_option linter.unusedVariables false

/-- Block g alone may have turned; there may be new blocks. -/
structure Only (g : Nat) (w w' : World) : Prop where
  os : w'.os = w.os
  tape : w'.tape = w.tape
  output : w'.output = w.output
  size : w.heap.size ≤ w'.heap.size
  block : ∀ k, k < w.heap.size → k ≠ g → w'.heap[k]? = w.heap[k]?
theorem Only.refl (g : Nat) (w : World) : Only g w w := ⟨rfl, rfl, rfl, Nat.le_refl _, fun _ _ _ => rfl⟩
theorem Only.trans {g : Nat} {a b c : World} (h : Only g a b) (k : Only g b c) : Only g a c :=
  ⟨k.os.trans h.os, k.tape.trans h.tape, k.output.trans h.output, Nat.le_trans h.size k.size, fun i hi hg => (k.block i (Nat.lt_of_lt_of_le hi h.size) hg).trans (h.block i hi hg)⟩
theorem Only.drew {g : Nat} {a w : World} (h : Only g a w) : Only g a w.drew := ⟨h.os, h.tape, h.output, h.size, h.block⟩
theorem Only.of {K : Nat} {a w : World} (h : Below K a w) (g : Nat) (hK : a.heap.size ≤ K := by exact Nat.le_refl _) : Only g a w := ⟨h.os, h.tape, h.output, h.size, fun k hk _ => h.block k (Nat.lt_of_lt_of_le hk hK)⟩
theorem only_drewN {g : Nat} {a w : World} (h : Only g a w) (n : Nat) : Only g a (w.drewN n) := h.trans (Only.of (below_drewN (Below.refl w.heap.size w) n) g)
theorem Only.setCell {g : Nat} {a w : World} (h : Only g a w) {o : Nat} {b} (hp : g ≤ g) (u : Value) : Only g a (w.setCell ⟨g, o, b⟩ u) :=
  h.trans ⟨rfl, rfl, rfl, by simp [World.setCell], fun k _ hg => Below.heap_setCell _ _ _ _ hg⟩
theorem Only.below {g K : Nat} {a w : World} (h : Only g a w) (hK : K ≤ g) (ha : K ≤ a.heap.size) : Below K a w := ⟨h.os, h.tape, h.output, h.size, fun k hk => h.block k (Nat.lt_of_lt_of_le hk ha) (by omega)⟩
def ptC (p : Pt) : List Value := [.int .i64 p.pos, .int .i64 p.ab]
/-- Parts that lie in a block. -/
def PartsAt (w : World) (g : Nat) (D : List Pt) : Prop := w.heap[g]? = some (.cells (D.flatMap ptC).toArray 101 (0, 0))
theorem PartsAt.lt {w : World} {g : Nat} {D : List Pt} (h : PartsAt w g D) : g < w.heap.size := (Array.getElem?_eq_some_iff.1 h).1
theorem pt_get (D : List Pt) (i : Nat) (p : Pt) (h : D[i]? = some p) : (D.flatMap ptC)[i * 2]? = some (.int .i64 p.pos) ∧ (D.flatMap ptC)[i * 2 + 1]? = some (.int .i64 p.ab) := by
  induction D generalizing i with
  | nil => simp at h
  | cons x l ih =>
    cases i with
    | zero => simp at h; subst h; simp [ptC]
    | succ i =>
      have := ih i (by simpa using h)
      rw [show (i + 1) * 2 = i * 2 + 1 + 1 by omega]
      simpa [ptC] using this
theorem pt_set (D : List Pt) (i : Nat) (p : Pt) (h : i < D.length) : ((D.flatMap ptC).set (i * 2) (.int .i64 p.pos)).set (i * 2 + 1) (.int .i64 p.ab) = (D.set i p).flatMap ptC := by
  induction D generalizing i with
  | nil => simp at h
  | cons x l ih =>
    cases i with
    | zero => simp [ptC]
    | succ i =>
      have := ih i (by simpa using h)
      rw [show (i + 1) * 2 = i * 2 + 1 + 1 by omega]
      simpa [ptC] using this
theorem PartsAt.cell {w : World} {g : Nat} {D : List Pt} (h : PartsAt w g D) {i : Nat} {p : Pt} (hi : D[i]? = some p) : w.cell? ⟨g, i * 2, none⟩ = some (.int .i64 p.pos) ∧ w.cell? ⟨g, i * 2 + 1, none⟩ = some (.int .i64 p.ab) := by
  have := pt_get D i p hi
  simp [World.cell?, show w.heap[g]? = _ from h, this]
theorem PartsAt.frozen {w : World} {g : Nat} {D : List Pt} (h : PartsAt w g D) (k : Nat) : w.frozen? ⟨g, k, none⟩ = false := by simp [World.frozen?, show w.heap[g]? = _ from h]
theorem PartsAt.below {w w' : World} {K g : Nat} {D : List Pt} (h : PartsAt w g D) (hb : Below K w w') (hg : g < K) : PartsAt w' g D := (hb.block g hg).trans h
theorem PartsAt.call {w w' : World} {g : Nat} {D : List Pt} (h : PartsAt w g D) (hb : Below w.heap.size w w') : PartsAt w' g D := h.below hb h.lt
theorem PartsAt.drew {w : World} {g : Nat} {D : List Pt} (h : PartsAt w g D) : PartsAt w.drew g D := h
theorem PartsAt.put {w : World} {g : Nat} {D : List Pt} (h : PartsAt w g D) (i : Nat) (p : Pt) (hi : i < D.length) : PartsAt ((w.setCell ⟨g, i * 2, none⟩ (.int .i64 p.pos)).setCell ⟨g, i * 2 + 1, none⟩ (.int .i64 p.ab)) g (D.set i p) := by
  unfold PartsAt at h ⊢
  rw [← pt_set D i p hi]
  simp [World.setCell, Array.getElem?_modify, h]

set_option maxRecDepth 100000 in
set_option maxHeartbeats 3200000 in
theorem swr_any (g cap L : Nat) (p a m b r : List Pt) (n : Nat) (fv : Value) (w : World) (ha : a.length = n) (hb : b.length = n) (hD : PartsAt w g (p ++ a ++ m ++ b ++ r)) (hL : (p ++ a ++ m ++ b ++ r).length = L) (hl : L ≤ 1000000) :
    Calls Tryz.prog 118 #[.slice (some ⟨g, 0, none⟩) L cap, .int .i64 (p.length : Int), .int .i64 ((p.length + n + m.length : Nat) : Int), .int .i64 (n : Int), fv] w fun e w' => e = .returned (.tuple #[]) ∧ PartsAt w' g (p ++ b ++ m ++ a ++ r) ∧ Only g w w' := by
  have HST := hide (fun i (hi : i < n) => swR_step p a m b r n i ha hb hi)
  have HFU := hide (swR_full p a m b r n ha hb)
  have HAB := hide (And.intro ha hb)
  have hLL : p.length + n + m.length + n + r.length = L := by rw [← hL]; simp; omega
  have HLN := hide (fun i => (show i ≤ n → (swR p a m b r i).length = L from fun hi => by rw [← hL]; simp [swR]; omega))
  have HG := hide (fun i (hi : i < n) => (show (swR p a m b r i)[p.length + i]? = some (a[i]?.getD default) ∧ (swR p a m b r i)[p.length + n + m.length + i]? = some (b[i]?.getD default) from by
    have ea : a[i]? = some a[i] := List.getElem?_eq_getElem (by omega)
    have eb : b[i]? = some b[i] := List.getElem?_eq_getElem (by omega)
    have e1 : a.drop i = a[i] :: a.drop (i + 1) := List.drop_eq_getElem_cons (by omega)
    have e2 : b.drop i = b[i] :: b.drop (i + 1) := List.drop_eq_getElem_cons (by omega)
    have s1 : swR p a m b r i = (p ++ b.take i) ++ a[i] :: (a.drop (i + 1) ++ m ++ a.take i ++ b[i] :: (b.drop (i + 1) ++ r)) := by
      unfold swR; rw [e1, e2]; simp only [List.append_assoc, List.cons_append]
    have s2 : swR p a m b r i = (p ++ b.take i ++ a.drop i ++ m ++ a.take i) ++ b[i] :: (b.drop (i + 1) ++ r) := by
      unfold swR; rw [e2]; simp only [List.append_assoc, List.cons_append]
    constructor
    · rw [s1, List.getElem?_append_right (by simp; omega), ea]
      have : p.length + i - (p ++ b.take i).length = 0 := by simp; omega
      rw [this]; simp
    · rw [s2, List.getElem?_append_right (by simp; omega), eb]
      have : p.length + n + m.length + i - (p ++ b.take i ++ a.drop i ++ m ++ a.take i).length = 0 := by simp; omega
      rw [this]; simp))
  have H0 := hide (show PartsAt w g (swR p a m b r 0) by rw [swR_zero]; exact hD)
  have hg0 := hD.lt
  obtain ⟨A, hA⟩ : ∃ A, p.length = A := ⟨_, rfl⟩
  rw [hA] at hLL HST HG
  rw [hA]
  obtain ⟨B, hB⟩ : ∃ B, A + n + m.length = B := ⟨_, rfl⟩
  rw [hB] at HST HG ⊢
  have hBL : B + n ≤ L := by omega
  have hAL : A + n ≤ B := by omega
  clear hD hL ha hb hA hB hLL
  go_enter Tryz.func118, Tryz.ntmps118
  go_wp2_with fail
  go_loopw [10] (fun s wr => ∃ i : Nat, s = .int .i64 i ∧ i ≤ n ∧ PartsAt wr g (swR p a m b r i) ∧ Only g w wr) (fun s _ => (n - intOf s).toNat)
  case atStart => exact ⟨0, rfl, Nat.zero_le _, H0.out, Only.refl _ _⟩
  case round =>
    obtain ⟨i, rfl, hi, hP, hB⟩ := hrel
    by_cases hlt : i < n
    · obtain ⟨e1, e2⟩ := HG.out i hlt
      obtain ⟨x, hx⟩ : ∃ x, a[i]?.getD default = x := ⟨_, rfl⟩
      obtain ⟨y, hy⟩ : ∃ y, b[i]?.getD default = y := ⟨_, rfl⟩
      rw [hx] at e1
      rw [hy] at e2
      obtain ⟨c1, c2⟩ := hP.cell e1
      obtain ⟨c3, c4⟩ := hP.cell e2
      have f1 := hP.frozen ((A + i) * 2)
      have f2 := hP.frozen ((A + i) * 2 + 1)
      have f3 := hP.frozen ((B + i) * 2)
      have f4 := hP.frozen ((B + i) * 2 + 1)
      have hgr := hP.lt
      have HP := hide hP
      have HB := hide hB
      have HE := hide (And.intro e1 e2)
      have s1 : (0 : Int) ≤ (A : Int) + (i : Int) := by omega
      have s2 : ((A : Int) + (i : Int)).toNat = A + i := by omega
      have s3 : (A : Int) + (i : Int) < (L : Int) := by omega
      have s4 : (0 : Int) ≤ (B : Int) + (i : Int) := by omega
      have s5 : ((B : Int) + (i : Int)).toNat = B + i := by omega
      have s6 : (B : Int) + (i : Int) < (L : Int) := by omega
      have s7 : IntKind.i64.wrap ((A : Int) + (i : Int)) = (A : Int) + (i : Int) := by simp [IntKind.wrap, IntKind.bits, IntKind.signed]; omega
      have s8 : IntKind.i64.wrap ((B : Int) + (i : Int)) = (B : Int) + (i : Int) := by simp [IntKind.wrap, IntKind.bits, IntKind.signed]; omega
      clear hP hB e1 e2
      have HN := hide (show PartsAt ((((wr.setCell ⟨g, (A + i) * 2, none⟩ (.int .i64 y.pos)).setCell ⟨g, (A + i) * 2 + 1, none⟩ (.int .i64 y.ab)).setCell ⟨g, (B + i) * 2, none⟩ (.int .i64 x.pos)).setCell ⟨g, (B + i) * 2 + 1, none⟩ (.int .i64 x.ab)).drew g (swR p a m b r (i + 1)) from by
        have hlen := HLN.out i hi
        have h := ((HP.out.put (A + i) y (by omega)).put (B + i) x (by simp; omega)).drew
        have e := HST.out i hlt
        unfold swapL at e
        rw [HE.out.1, HE.out.2] at e
        simp only [Option.getD_some] at e
        rw [e] at h
        exact h)
      have HBN := hide (show Only g w ((((wr.setCell ⟨g, (A + i) * 2, none⟩ (.int .i64 y.pos)).setCell ⟨g, (A + i) * 2 + 1, none⟩ (.int .i64 y.ab)).setCell ⟨g, (B + i) * 2, none⟩ (.int .i64 x.pos)).setCell ⟨g, (B + i) * 2 + 1, none⟩ (.int .i64 x.ab)).drew from ((((HB.out.setCell (Nat.le_refl _) _).setCell (Nat.le_refl _) _).setCell (Nat.le_refl _) _).setCell (Nat.le_refl _) _).drew)
      go_wp2_with fail
      go_region
      all_goals
        go_simp
        go_wp2
        go_roundw
        case rel => exact ⟨i + 1, by go_num, by omega, HN.out, HBN.out⟩
        case measure => simp [intOf]; omega
    · obtain rfl : i = n := by omega
      have HP := hide (show PartsAt wr g (p ++ b ++ m ++ a ++ r) by rw [← HFU.out]; exact hP)
      have HB := hide hB
      clear hP hB
      go_wp2
      all_goals first
        | (exfalso; omega)
        | (go_end0; exact ⟨rfl, HP.out, HB.out⟩)
end Go.Proofs.YtjhhmeoibfdcmaaGreatDoor

namespace Go.Proofs.YtjhhmeoibfdcmaaGreatDoor
open Go.RowKit
set_option linter.unusedSimpArgs false
set_option linter.unusedVariables false

theorem swr_at (g cap L : Nat) (p a m b r : List Pt) (n : Nat) (u v k : Int) (D : List Pt) (fv : Value) (w : World) (ha : a.length = n) (hb : b.length = n) (hu : u = (p.length : Int)) (hv : v = (p.length : Int) + n + m.length) (hk : k = n)
    (hDD : D = p ++ a ++ m ++ b ++ r) (hD : PartsAt w g D) (hL : D.length = L) (hl : L ≤ 1000000) :
    Calls Tryz.prog 118 #[.slice (some ⟨g, 0, none⟩) L cap, .int .i64 u, .int .i64 v, .int .i64 k, fv] w fun e w' => e = .returned (.tuple #[]) ∧ PartsAt w' g (p ++ b ++ m ++ a ++ r) ∧ Only g w w' := by
  subst hDD hu hk
  have e : v = ((p.length + n + m.length : Nat) : Int) := by omega
  subst e
  exact swr_any g cap L p a m b r n fv w ha hb hD hL hl

/-- What is kept while two rows are turned. -/
def RotSt (g : Nat) (p a b r : List Pt) (M : Nat) (w0 w : World) (i j : Nat) : Prop :=
  ∃ X A B Y : List Pt, A.length = i ∧ B.length = j ∧ p.length + X.length + i = M ∧ X ++ B ++ A ++ Y = b ++ a ∧ PartsAt w g (p ++ X ++ A ++ B ++ Y ++ r) ∧ Only g w0 w

set_option maxRecDepth 100000 in
set_option maxHeartbeats 3200000 in
theorem rot_any (g cap L : Nat) (p a b r : List Pt) (u v z : Int) (D : List Pt) (fv : Value) (w : World) (ha : 0 < a.length) (hb : 0 < b.length) (hu : u = (p.length : Int)) (hv : v = (p.length : Int) + a.length) (hz : z = (p.length : Int) + a.length + b.length)
    (hDD : D = p ++ a ++ b ++ r) (hD : PartsAt w g D) (hL : D.length = L) (hl : L ≤ 1000000) :
    Calls Tryz.prog 105 #[.slice (some ⟨g, 0, none⟩) L cap, .int .i64 u, .int .i64 v, .int .i64 z, fv] w fun e w' => e = .returned (.tuple #[]) ∧ PartsAt w' g (p ++ b ++ a ++ r) ∧ Only g w w' := by
  subst hDD
  have hLL : p.length + a.length + b.length + r.length = L := by rw [← hL]; simp; omega
  obtain ⟨M, hM⟩ : ∃ M, p.length + a.length = M := ⟨_, rfl⟩
  obtain ⟨na, hna⟩ : ∃ n, a.length = n := ⟨_, rfl⟩
  obtain ⟨nb, hnb⟩ : ∃ n, b.length = n := ⟨_, rfl⟩
  obtain ⟨P, hP⟩ : ∃ n, p.length = n := ⟨_, rfl⟩
  have H0 := hide (show RotSt g p a b r M w w na nb from ⟨[], a, b, [], hna, hnb, by simp; omega, by simp, by simpa using hD, Only.refl _ _⟩)
  rw [hna] at ha hv hz hLL hM
  rw [hnb] at hb hz hLL
  rw [hP] at hu hv hz hLL hM
  have hg := hD.lt
  have HNA := hide (And.intro hna (And.intro hnb hP))
  subst hu hv hz
  clear hD hL hna hnb hP
  go_enter Tryz.func105, Tryz.ntmps105
  go_wp2_with fail
  go_loopw [10, 11] (fun s10 s11 wr => ∃ i j : Nat, s10 = .int .i64 i ∧ s11 = .int .i64 j ∧ (0 < i ∧ 0 < j ∧ i + j ≤ L) ∧ RotSt g p a b r M w wr i j) (fun s t _ => (intOf s + intOf t).toNat)
  case atStart => exact ⟨na, nb, by congr 1; omega, by congr 1; omega, ⟨ha, hb, by omega⟩, H0.out⟩
  case round =>
    obtain ⟨i, j, rfl, rfl, ⟨hi0, hj0, hij⟩, X, A, B, Y, hA, hB, hX, hEq, hPt, hBel⟩ := hrel
    have HS := hide (And.intro (And.intro hA hB) (And.intro hEq (And.intro hPt hBel)))
    have hlen : (p ++ X ++ A ++ B ++ Y ++ r).length = L := by
      have h1 := congrArg List.length hEq
      have h2 := HNA.out
      simp only [List.length_append] at h1 ⊢
      omega
    have HLEN := hide hlen
    have HX := hide hX
    have HP3 := HNA.out.2.2
    have hXb : P + X.length + i = M := by rw [← HP3]; exact hX
    have HXL := hide (show (p ++ X).length = P + X.length by simp; omega)
    obtain ⟨x, hx⟩ : ∃ x, X.length = x := ⟨_, rfl⟩
    rw [hx] at hXb HXL
    clear hA hB hX hEq hPt hBel hlen HP3 hx
    have hMI : (M : Int) = (P : Int) + (na : Int) := by omega
    rcases (show i = j ∨ j < i ∨ i < j by omega) with hc | hc | hc
    · subst hc
      have hne : ((i : Int) != (i : Int)) = false := by simp
      go_wp2_with fail
      all_goals first
        | (exfalso; omega)
        | skip
      refine (swr_at g cap L (p ++ X) A [] B (Y ++ r) i _ _ _ (p ++ X ++ A ++ B ++ Y ++ r) fv _ HS.out.1.1 HS.out.1.2 (by rw [HXL.out]; omega) (by rw [HXL.out]; simp; omega) rfl (by simp) HS.out.2.2.1 HLEN.out hl).mono ?_
      rintro e w2 ⟨rfl, hp2, hb2⟩
      have HF := hide (show PartsAt w2 g (p ++ b ++ a ++ r) from by
        have h := HS.out.2.1
        rw [show p ++ b ++ a ++ r = p ++ (b ++ a) ++ r by simp, ← h]
        simpa using hp2)
      have HFB := hide (HS.out.2.2.2.trans hb2)
      clear hp2 hb2
      go_wp2
      all_goals first
        | (exfalso; omega)
        | (go_end0; exact ⟨rfl, HF.out, HFB.out⟩)
    · have hne : ((i : Int) != (j : Int)) = true := by simp; omega
      have hgt : (j : Int) < (i : Int) := by omega
      have hAs : A = A.take j ++ A.drop j := (List.take_append_drop j A).symm
      go_wp2_with fail
      all_goals first
        | (exfalso; omega)
        | skip
      refine (swr_at g cap L (p ++ X) (A.take j) (A.drop j) B (Y ++ r) j _ _ _ (p ++ X ++ A ++ B ++ Y ++ r) fv _ (by have := HS.out.1.1; simp; omega) HS.out.1.2 (by rw [HXL.out]; omega) (by rw [HXL.out]; have := HS.out.1.1; simp; omega) rfl (by rw [show p ++ X ++ A.take j ++ A.drop j ++ B ++ (Y ++ r) = p ++ X ++ (A.take j ++ A.drop j) ++ B ++ Y ++ r by simp, List.take_append_drop]) HS.out.2.2.1 HLEN.out hl).mono ?_
      rintro e w2 ⟨rfl, hp2, hb2⟩
      have HR := hide (show RotSt g p a b r M w w2 (i - j) j from ⟨X ++ B, A.drop j, A.take j, Y, by have := HS.out.1.1; simp; omega, by have := HS.out.1.1; simp; omega, by have h1 := HX.out; have h2 := HS.out.1.2; simp; omega, by
        have h := HS.out.2.1
        rw [← h, show X ++ B ++ A ++ Y = X ++ B ++ (A.take j ++ A.drop j) ++ Y by rw [List.take_append_drop]]
        simp, by simpa using hp2, HS.out.2.2.2.trans hb2⟩)
      clear hp2 hb2 hAs
      go_wp2
      go_roundw
      case rel => exact ⟨i - j, j, by congr 1; omega, rfl, ⟨by omega, by omega, by omega⟩, HR.out⟩
      case measure => simp [intOf]; omega
    · have hne : ((i : Int) != (j : Int)) = true := by simp; omega
      have hgt : (i : Int) ≤ (j : Int) := by omega
      go_wp2_with fail
      all_goals first
        | (exfalso; omega)
        | skip
      refine (swr_at g cap L (p ++ X) A (B.take (j - i)) (B.drop (j - i)) (Y ++ r) i _ _ _ (p ++ X ++ A ++ B ++ Y ++ r) fv _ HS.out.1.1 (by have := HS.out.1.2; simp; omega) (by rw [HXL.out]; omega) (by rw [HXL.out]; have := HS.out.1.2; simp; omega) rfl (by rw [show p ++ X ++ A ++ B.take (j - i) ++ B.drop (j - i) ++ (Y ++ r) = p ++ X ++ A ++ (B.take (j - i) ++ B.drop (j - i)) ++ Y ++ r by simp, List.take_append_drop]) HS.out.2.2.1 HLEN.out hl).mono ?_
      rintro e w2 ⟨rfl, hp2, hb2⟩
      have HR := hide (show RotSt g p a b r M w w2 i (j - i) from ⟨X, B.drop (j - i), B.take (j - i), A ++ Y, by have := HS.out.1.2; simp; omega, by have := HS.out.1.2; simp; omega, by have h1 := HX.out; omega, by
        have h := HS.out.2.1
        rw [← h, show X ++ B ++ A ++ Y = X ++ (B.take (j - i) ++ B.drop (j - i)) ++ A ++ Y by rw [List.take_append_drop]]
        simp, by simpa using hp2, HS.out.2.2.2.trans hb2⟩)
      clear hp2 hb2
      go_wp2
      go_roundw
      case rel => exact ⟨i, j - i, rfl, by congr 1; omega, ⟨by omega, by omega, by omega⟩, HR.out⟩
      case measure => simp [intOf]; omega

/-- How two parts compare. -/
def cmpI (x y : Pt) : Int := if y.ab < x.ab then -1 else if x.ab < y.ab then 1 else 0
theorem cmpI_neg (x y : Pt) : cmpI x y < 0 ↔ y.ab < x.ab := by unfold cmpI; split <;> (try split) <;> omega
set_option maxHeartbeats 800000 in
theorem nan_i64 (a : Int) (w : World) : Calls Tryz.prog 61 #[.int .i64 a] w fun e w' => e = .returned (.bool false) ∧ w = w' := by
  go_enter Tryz.func61, Tryz.ntmps61
  go_wp2
  go_ret
  exact ⟨ret_bool (by simp), rfl⟩
set_option maxHeartbeats 1600000 in
theorem compare_i64 (a b : Int) (w : World) : Calls Tryz.prog 44 #[.int .i64 a, .int .i64 b] w fun e w' => e = .returned (.int .i64 (if a < b then -1 else if b < a then 1 else 0)) ∧ w = w' := by
  rcases (show a < b ∨ (b ≤ a ∧ b < a) ∨ (a = b) by omega) with h | ⟨h1, h⟩ | h
  · have HV := hide (show (if a < b then (-1 : Int) else if b < a then 1 else 0) = -1 by rw [if_pos h])
    go_enter Tryz.func44, Tryz.ntmps44
    go_wp2_with fail
    refine (nan_i64 a _).mono ?_
    rintro e w1 ⟨rfl, rfl⟩
    go_wp2_with fail
    refine (nan_i64 b _).mono ?_
    rintro e w1 ⟨rfl, rfl⟩
    go_wp2
    all_goals first
      | (exfalso; omega)
      | (go_ret; exact ⟨rfl, rfl⟩)
  · have HV := hide (show (if a < b then (-1 : Int) else if b < a then 1 else 0) = 1 by rw [if_neg (by omega), if_pos h])
    go_enter Tryz.func44, Tryz.ntmps44
    go_wp2_with fail
    refine (nan_i64 a _).mono ?_
    rintro e w1 ⟨rfl, rfl⟩
    go_wp2_with fail
    refine (nan_i64 b _).mono ?_
    rintro e w1 ⟨rfl, rfl⟩
    go_wp2
    all_goals first
      | (exfalso; omega)
      | (go_ret; exact ⟨rfl, rfl⟩)
  · subst h
    have HV := hide (show (if a < a then (-1 : Int) else if a < a then 1 else 0) = 0 by simp)
    go_enter Tryz.func44, Tryz.ntmps44
    go_wp2_with fail
    refine (nan_i64 a _).mono ?_
    rintro e w1 ⟨rfl, rfl⟩
    go_wp2_with fail
    refine (nan_i64 a _).mono ?_
    rintro e w1 ⟨rfl, rfl⟩
    go_wp2
    all_goals first
      | (exfalso; omega)
      | (go_ret; exact ⟨rfl, rfl⟩)
set_option maxHeartbeats 1600000 in
theorem cmp_any (x y : Pt) (w : World) : Calls Tryz.prog 43 #[.agg #[.int .i64 x.pos, .int .i64 x.ab], .agg #[.int .i64 y.pos, .int .i64 y.ab]] w fun e w' => e = .returned (.int .i64 (cmpI x y)) ∧ Below w.heap.size w w' := by
  have HV := hide (show (if y.ab < x.ab then (-1 : Int) else if x.ab < y.ab then 1 else 0) = cmpI x y from rfl)
  obtain ⟨C, hC⟩ : ∃ C, (if y.ab < x.ab then (-1 : Int) else if x.ab < y.ab then 1 else 0) = C := ⟨_, rfl⟩
  have HC := hide hC
  rw [hC] at HV
  clear hC
  go_enter Tryz.func43, Tryz.ntmps43
  go_wp2_with fail
  refine (compare_i64 y.ab x.ab _).mono ?_
  rintro e w1 ⟨rfl, rfl⟩
  rw [HC.out]
  go_wp2
  go_ret
  exact ⟨ret_int HV.out, by (repeat' exact bel)⟩
end Go.Proofs.YtjhhmeoibfdcmaaGreatDoor

namespace Go.Proofs.YtjhhmeoibfdcmaaGreatDoor
open Go.RowKit Go.Sort
set_option linter.unusedSimpArgs false
set_option linter.unusedVariables false

/-- The comparison as a value. -/
abbrev cmpF : Value := .func (.func 43) #[] #[]
/-- They stand in order of their places. -/
def Incr (l : List Pt) : Prop := l.Pairwise fun x y => x.pos < y.pos
theorem Incr.ahead {a b : List Pt} (h : Incr (a ++ b)) : Ahead a b := (List.pairwise_append.1 h).2.2
theorem Incr.left {a b : List Pt} (h : Incr (a ++ b)) : Incr a := (List.pairwise_append.1 h).1
theorem Incr.right {a b : List Pt} (h : Incr (a ++ b)) : Incr b := (List.pairwise_append.1 h).2.1
theorem get_at (p q : List Pt) (x : Pt) : (p ++ x :: q)[p.length]? = some x := by simp
/-- One moved down by one. -/
theorem PartsAt.down {w : World} {g : Nat} {p s1 s2 r : List Pt} {x y : Pt} {D : List Pt} (h : PartsAt w g D) (hD : D = p ++ (s1 ++ [y]) ++ [x] ++ s2 ++ r) (k : Nat) (hk : k = p.length + s1.length) :
    PartsAt ((((w.setCell ⟨g, (k + 1) * 2, none⟩ (.int .i64 y.pos)).setCell ⟨g, (k + 1) * 2 + 1, none⟩ (.int .i64 y.ab)).setCell ⟨g, k * 2, none⟩ (.int .i64 x.pos)).setCell ⟨g, k * 2 + 1, none⟩ (.int .i64 x.ab)) g (p ++ s1 ++ [x] ++ (y :: s2) ++ r) := by
  subst hD hk
  have hl : (p ++ (s1 ++ [y]) ++ [x] ++ s2 ++ r).length = p.length + s1.length + 2 + s2.length + r.length := by simp only [List.length_append, List.length_cons, List.length_nil]; omega
  have h2 := (h.put (p.length + s1.length + 1) y (by omega)).put (p.length + s1.length) x (by rw [List.length_set]; omega)
  have e : ((p ++ (s1 ++ [y]) ++ [x] ++ s2 ++ r).set (p.length + s1.length + 1) y).set (p.length + s1.length) x = p ++ s1 ++ [x] ++ (y :: s2) ++ r := by
    rw [show p ++ (s1 ++ [y]) ++ [x] ++ s2 ++ r = (p ++ s1) ++ y :: x :: (s2 ++ r) by simp]
    have hps : (p ++ s1).length = p.length + s1.length := by simp
    rw [← hps, List.set_append_right _ _ (by omega), show (p ++ s1).length + 1 - (p ++ s1).length = 1 by omega, List.set_append_right _ _ (Nat.le_refl _), Nat.sub_self]
    simp
  rw [e] at h2
  exact h2

def InsSt (g : Nat) (p s r : List Pt) (w0 w : World) (i : Nat) : Prop := ∃ s1, Put (s.take i) s1 ∧ PartsAt w g (p ++ s1 ++ s.drop i ++ r) ∧ Only g w0 w
def InsIn (g : Nat) (p s1 q : List Pt) (x : Pt) (w0 w : World) (k : Nat) : Prop := ∃ S1 S2, S1.length = k ∧ S1 ++ S2 = s1 ∧ (∀ y ∈ S2, x.lt y) ∧ PartsAt w g (p ++ S1 ++ [x] ++ S2 ++ q) ∧ Only g w0 w

set_option maxRecDepth 100000 in
set_option maxHeartbeats 6400000 in
theorem ins_any (g cap L : Nat) (p s r : List Pt) (u v : Int) (D : List Pt) (w : World) (hs : Incr s) (hu : u = (p.length : Int)) (hv : v = (p.length : Int) + s.length) (hDD : D = p ++ s ++ r) (hD : PartsAt w g D) (hL : D.length = L) (hl : L ≤ 1000000) :
    Calls Tryz.prog 84 #[.slice (some ⟨g, 0, none⟩) L cap, .int .i64 u, .int .i64 v, cmpF] w fun e w' => e = .returned (.tuple #[]) ∧ (∃ s', Put s s' ∧ PartsAt w' g (p ++ s' ++ r)) ∧ Only g w w' := by
  subst hDD
  have hLL : p.length + s.length + r.length = L := by rw [← hL]; simp; omega
  obtain ⟨P, hP⟩ : ∃ n, p.length = n := ⟨_, rfl⟩
  obtain ⟨n, hn⟩ : ∃ n, s.length = n := ⟨_, rfl⟩
  have H0 := hide (show InsSt g p s r w w 1 from ⟨s.take 1, ⟨List.Perm.refl _, by
    cases s with
    | nil => simp [Srt]
    | cons x l => simp [Srt]⟩, by rw [show p ++ s.take 1 ++ s.drop 1 ++ r = p ++ (s.take 1 ++ s.drop 1) ++ r by simp, List.take_append_drop]; exact hD, Only.refl _ _⟩)
  rw [hP] at hu hv hLL
  rw [hn] at hv hLL
  have HPN := hide (And.intro hP hn)
  have HS := hide hs
  have hg := hD.lt
  subst hu hv
  clear hD hL hP hn hs
  go_enter Tryz.func84, Tryz.ntmps84
  go_wp2_with fail
  go_loopw [8] (fun s8 wr => ∃ i : Nat, s8 = .int .i64 ((P : Int) + (i : Int)) ∧ 1 ≤ i ∧ (i ≤ n ∨ (n = 0 ∧ i = 1)) ∧ InsSt g p s r w wr i) (fun s8 _ => (P + n + 5 - intOf s8).toNat)
  case atStart => exact ⟨1, by first | rfl | (congr 1; omega), by omega, by omega, H0.out⟩
  case round =>
    obtain ⟨i, rfl, hi1, hi2, s1, hPut, hPt, hBel⟩ := hrel
    have HQ := hide (And.intro hPut (And.intro hPt hBel))
    clear hPut hPt hBel
    by_cases hlt : i < n
    · have hin : i < s.length := by rw [HPN.out.2]; exact hlt
      obtain ⟨x, hx⟩ : ∃ x, s[i]? = some x := ⟨_, List.getElem?_eq_getElem hin⟩
      have hdr : s.drop i = x :: s.drop (i + 1) := by rw [List.drop_eq_getElem_cons hin]; congr 1; exact Option.some.inj ((List.getElem?_eq_getElem hin).symm.trans hx)
      have htk : s.take (i + 1) = s.take i ++ [x] := by rw [List.take_add_one, hx]; rfl
      have hs1l : s1.length = i := by rw [HQ.out.1.1.length_eq]; simp; omega
      have HAH := hide (show ∀ y ∈ s1, y.pos < x.pos from fun y hy => by
        have hy2 : y ∈ s.take i := HQ.out.1.1.mem_iff.1 hy
        have h : Incr (s.take i ++ s.drop i) := by rw [List.take_append_drop]; exact HS.out
        exact h.ahead y hy2 x (by rw [hdr]; simp))
      have HN := hide (show InsIn g p s1 (s.drop (i + 1) ++ r) x w wr i from ⟨s1, [], hs1l, by simp, by simp, by have h := HQ.out.2.1; rw [hdr] at h; simpa using h, HQ.out.2.2⟩)
      have HTK := hide htk
      have HSR := hide HQ.out.1
      have HDL := hide (show (s.drop (i + 1)).length = n - (i + 1) by simp; have := HPN.out.2; omega)
      clear hx hdr htk hs1l hin
      obtain ⟨wo, hwo⟩ : ∃ wo : World, wo = wr := ⟨_, rfl⟩
      rw [← hwo] at HN HQ ⊢
      clear hwo
      go_wp2_with fail
      go_loopw [9] (fun s9 wr => ∃ k : Nat, s9 = .int .i64 ((P : Int) + (k : Int)) ∧ k ≤ i ∧ InsIn g p s1 (s.drop (i + 1) ++ r) x w wr k) (fun s9 _ => (intOf s9 - P + 1).toNat)
      case atStart => exact ⟨i, rfl, Nat.le_refl _, HN.out⟩
      case round =>
        obtain ⟨k, rfl, hki, S1, S2, hS1, hS12, hS2, hPt, hB⟩ := hrel
        have HI := hide (And.intro hS12 (And.intro hS2 (And.intro hPt hB)))
        have hgr := hPt.lt
        have hSl : S1.length + S2.length = i := by rw [← List.length_append, hS12]; rw [HSR.out.1.length_eq]; simp; have := HPN.out.2; omega
        rcases List.eq_nil_or_concat S1 with hnil | ⟨T1, y, hcc⟩
        · subst hnil
          obtain rfl : k = 0 := by simpa using hS1.symm
          have HNX := hide (show InsSt g p s r w wr (i + 1) from ⟨x :: S2, ⟨by
            have h1 := HI.out.1
            simp only [List.nil_append] at h1
            rw [HTK.out, h1]
            exact (List.Perm.cons x HSR.out.1).trans (List.perm_append_comm (l₁ := [x]) (l₂ := s.take i)), by
            have h1 := HI.out.1
            simp only [List.nil_append] at h1
            exact List.pairwise_cons.2 ⟨HI.out.2.1, by rw [h1]; exact HSR.out.2⟩⟩, by simpa using HI.out.2.2.1, HI.out.2.2.2⟩)
          clear hS12 hS2 hPt hB hS1
          have hdec : decide ((P : Int) < (P : Int) + ((0 : Nat) : Int)) = false := by simp
          go_wp2_with fail
          go_quiet (fail)
          have HW := hide (show InsSt g p s r w (wr.drewN nq) (i + 1) by
            obtain ⟨s2, k1, k2, k3⟩ := HNX.out
            exact ⟨s2, k1, k2, only_drewN k3 nq⟩)
          go_wp2
          go_roundw
          case rel => exact ⟨i + 1, by go_num, by omega, by omega, HW.out⟩
          case measure => simp [intOf]; omega
        · rw [List.concat_eq_append] at hcc
          subst hcc
          have hk1 : T1.length + 1 = k := by simpa using hS1
          obtain ⟨z, rfl⟩ : ∃ z, k = z + 1 := ⟨T1.length, hk1.symm⟩
          have hz : T1.length = z := by omega
          have hyx := HAH.out y (by rw [← hS12]; simp)
          have hxy : x.pos ≠ y.pos := by omega
          have HK := hide (And.intro hyx hxy)
          have hD1 : (p ++ (T1 ++ [y]) ++ [x] ++ S2 ++ (s.drop (i + 1) ++ r))[P + z]? = some y := by
            have h := get_at (p ++ T1) ([x] ++ S2 ++ (s.drop (i + 1) ++ r)) y
            rw [show (p ++ T1).length = P + z by simp [HPN.out.1, hz]] at h
            simpa using h
          have hD2 : (p ++ (T1 ++ [y]) ++ [x] ++ S2 ++ (s.drop (i + 1) ++ r))[P + z + 1]? = some x := by
            have h := get_at (p ++ T1 ++ [y]) (S2 ++ (s.drop (i + 1) ++ r)) x
            rw [show (p ++ T1 ++ [y]).length = P + z + 1 by simp [HPN.out.1, hz]; omega] at h
            simpa using h
          obtain ⟨q, hq⟩ : ∃ q, P + z = q := ⟨_, rfl⟩
          rw [hq] at hD1 hD2
          have hj : (P : Int) + ((z + 1 : Nat) : Int) = (q : Int) + 1 := by omega
          obtain ⟨c1, c2⟩ := hPt.cell hD1
          obtain ⟨c3, c4⟩ := hPt.cell hD2
          have k1 := cell_regrown c1
          have k2 := cell_regrown c2
          have k3 := cell_regrown c3
          have k4 := cell_regrown c4
          have f1 := hPt.frozen (q * 2)
          have f2 := hPt.frozen (q * 2 + 1)
          have f3 := hPt.frozen ((q + 1) * 2)
          have f4 := hPt.frozen ((q + 1) * 2 + 1)
          have HZ := hide (And.intro hz hq)
          have q1 : (0 : Int) ≤ (q : Int) + 1 := by omega
          have q2 : ((q : Int) + 1).toNat = q + 1 := by omega
          have q3 : (q : Int) + 1 < (L : Int) := by omega
          have q4 : (0 : Int) ≤ (q : Int) := by omega
          have q6 : (q : Int) < (L : Int) := by omega
          have q7 : IntKind.i64.wrap (q : Int) = (q : Int) := by simp [IntKind.wrap, IntKind.bits, IntKind.signed]; omega
          have q8 : IntKind.i64.wrap ((q : Int) + 1 - 1) = (q : Int) := by simp [IntKind.wrap, IntKind.bits, IntKind.signed]; omega
          have q9 : (q : Int) + 1 - 1 = (q : Int) := by omega
          have hdec : decide ((P : Int) < (q : Int) + 1) = true := by simp; omega
          rw [hj]
          clear hS12 hS2 hPt hB hS1 hk1 hz hD1 hD2 hyx hxy hq hj
          go_wp2_with fail
          refine wp_region_quiet_below (by kernel_rfl) (by kernel_rfl) ?_
          repeat (go_big_quiet_step (first | exact Calls.regrown_of (cmp_any x y _) | fail))
          refine wpQuiet_nil ?_
          intro _ hw'
          obtain ⟨⟨dq, osq⟩, hw2⟩ := hw'
          subst hw2
          obtain ⟨wq, hwq⟩ : ∃ wq, grow (redrawn wr dq) osq = wq := ⟨_, rfl⟩
          have HBQ := hide (show Below wr.heap.size wr wq by rw [← hwq]; exact below_regrown wr dq osq)
          have HPQ := hide (HI.out.2.2.1.call HBQ.out)
          have HBG := hide (HI.out.2.2.2.trans (Only.of HBQ.out g))
          have d1 := k1 dq osq
          have d2 := k2 dq osq
          have d3 := k3 dq osq
          have d4 := k4 dq osq
          rw [hwq] at d1 d2 d3 d4 ⊢
          have f1 := HPQ.out.frozen (q * 2)
          have f2 := HPQ.out.frozen (q * 2 + 1)
          have f3 := HPQ.out.frozen ((q + 1) * 2)
          have f4 := HPQ.out.frozen ((q + 1) * 2 + 1)
          have hgq := HPQ.out.lt
          clear k1 k2 k3 k4 c1 c2 c3 c4 hwq
          by_cases hlt2 : cmpI x y < 0
          · have HL := hide ((Pt.lt_iff HK.out.1).2 ((cmpI_neg x y).1 hlt2))
            have HDN := hide (show InsIn g p s1 (s.drop (i + 1) ++ r) x w (((((wq.setCell ⟨g, (q + 1) * 2, none⟩ (.int .i64 y.pos)).setCell ⟨g, (q + 1) * 2 + 1, none⟩ (.int .i64 y.ab)).setCell ⟨g, q * 2, none⟩ (.int .i64 x.pos)).setCell ⟨g, q * 2 + 1, none⟩ (.int .i64 x.ab)).drew) z from
              ⟨T1, y :: S2, HZ.out.1, by simpa using HI.out.1, fun a ha => by
                rcases List.mem_cons.1 ha with rfl | ha
                · exact HL.out
                · exact HI.out.2.1 a ha, by
                have h := HPQ.out.down (D := p ++ (T1 ++ [y]) ++ [x] ++ S2 ++ (s.drop (i + 1) ++ r)) rfl q (by have := HZ.out; have := HPN.out.1; omega)
                exact h.drew, ((((HBG.out.setCell (Nat.le_refl _) _).setCell (Nat.le_refl _) _).setCell (Nat.le_refl _) _).setCell (Nat.le_refl _) _).drew⟩)
            go_wp2_with fail
            go_region
            all_goals
              go_simp
              go_wp2
              go_roundw
              case rel => exact ⟨z, by have := HZ.out.2; congr 1; omega, by omega, HDN.out⟩
              case measure => have hz0 := HZ.out.2; simp [intOf]; omega
          · have HNL := hide (show ¬ x.lt y from fun h => hlt2 ((cmpI_neg x y).2 ((Pt.lt_iff HK.out.1).1 h)))
            have HNX := hide (show InsSt g p s r w wq (i + 1) from ⟨T1 ++ [y] ++ x :: S2, ⟨by
              have h1 := HI.out.1
              rw [HTK.out]
              refine List.Perm.trans ?_ (List.Perm.append_right [x] HSR.out.1)
              rw [← h1]
              simp only [List.append_assoc]
              refine List.Perm.append_left T1 ?_
              refine List.Perm.append_left [y] ?_
              exact List.perm_append_comm (l₁ := [x]) (l₂ := S2), put_in (by rw [HI.out.1]; exact HSR.out.2) (fun a ha => by
                have : a = y := by simpa using ha.symm
                subst this
                exact Pt.not_lt (fun e => HK.out.2 e) HNL.out) HI.out.2.1⟩, by simpa using HPQ.out, HBG.out⟩)
            go_wp2
            go_roundw
            case rel => exact ⟨i + 1, by go_num, by omega, by omega, HNX.out⟩
            case measure => simp [intOf]; omega
    · have HF := hide (show ∃ s', Put s s' ∧ PartsAt wr g (p ++ s' ++ r) from ⟨s1, by
        have h := HQ.out.1
        rwa [List.take_of_length_le (by have := HPN.out.2; omega)] at h, by
        have h := HQ.out.2.1
        rw [List.drop_eq_nil_of_le (by have := HPN.out.2; omega)] at h
        simpa using h⟩)
      have HFB := hide HQ.out.2.2
      go_wp2
      all_goals first
        | (exfalso; omega)
        | (go_end0; exact ⟨rfl, HF.out, HFB.out⟩)
end Go.Proofs.YtjhhmeoibfdcmaaGreatDoor

namespace Go.Proofs.YtjhhmeoibfdcmaaGreatDoor
open Go.RowKit Go.Sort
set_option linter.unusedSimpArgs false
set_option linter.unusedVariables false

/-- A search in a run: what stands ahead of i comes before x, what stands from j on does not. -/
def SrSt (g : Nat) (p B r : List Pt) (x : Pt) (w0 w : World) (i j : Nat) : Prop := (∀ k y, B[k]? = some y → k < i → y.lt x) ∧ (∀ k y, B[k]? = some y → j ≤ k → ¬ y.lt x) ∧ PartsAt w g (p ++ x :: B ++ r) ∧ Only g w0 w
/-- x has been moved behind k of the run. -/
def MvSt (g : Nat) (p B r : List Pt) (x : Pt) (w0 w : World) (k : Nat) : Prop := PartsAt w g (p ++ B.take k ++ [x] ++ B.drop k ++ r) ∧ Only g w0 w
theorem MvSt.step {g : Nat} {p B r : List Pt} {x y : Pt} {w0 w : World} {k : Nat} (h : MvSt g p B r x w0 w k) (hy : B[k]? = some y) (q : Nat) (hq : q = p.length + k) (hg : g < w.heap.size) :
    MvSt g p B r x w0 ((((w.setCell ⟨g, q * 2, none⟩ (.int .i64 y.pos)).setCell ⟨g, q * 2 + 1, none⟩ (.int .i64 y.ab)).setCell ⟨g, (q + 1) * 2, none⟩ (.int .i64 x.pos)).setCell ⟨g, (q + 1) * 2 + 1, none⟩ (.int .i64 x.ab)) (k + 1) := by
  have hk : k < B.length := (List.getElem?_eq_some_iff.1 hy).1
  have hd : B.drop k = y :: B.drop (k + 1) := by rw [List.drop_eq_getElem_cons hk]; congr 1; exact Option.some.inj ((List.getElem?_eq_getElem hk).symm.trans hy)
  have ht : B.take (k + 1) = B.take k ++ [y] := by rw [List.take_add_one, hy]; rfl
  have hl : (B.take k).length = k := by simp; omega
  refine ⟨?_, (((h.2.setCell (Nat.le_refl _) _).setCell (Nat.le_refl _) _).setCell (Nat.le_refl _) _).setCell (Nat.le_refl _) _⟩
  have h1 := h.1
  rw [hd] at h1
  have hpl : (p ++ B.take k).length = q := by rw [List.length_append, hl, hq]
  have h2 := (h1.put q y (by simp only [List.length_append, List.length_cons, List.length_nil, hl]; omega)).put (q + 1) x (by simp only [List.length_set, List.length_append, List.length_cons, List.length_nil, hl]; omega)
  have e : ((p ++ B.take k ++ [x] ++ (y :: B.drop (k + 1)) ++ r).set q y).set (q + 1) x = p ++ B.take (k + 1) ++ [x] ++ B.drop (k + 1) ++ r := by
    rw [ht, show p ++ B.take k ++ [x] ++ (y :: B.drop (k + 1)) ++ r = (p ++ B.take k) ++ x :: y :: (B.drop (k + 1) ++ r) by simp]
    rw [← hpl, List.set_append_right _ _ (Nat.le_refl _), Nat.sub_self, List.set_append_right _ _ (by omega), show (p ++ B.take k).length + 1 - (p ++ B.take k).length = 1 by omega]
    simp
  rw [e] at h2
  exact h2
theorem Srt.get {B : List Pt} (h : Srt B) {k H : Nat} {t y : Pt} (hk : B[k]? = some t) (hH : B[H]? = some y) (hle : k ≤ H) : t = y ∨ t.lt y := by
  rcases Nat.lt_or_ge k H with h1 | h1
  · right
    obtain ⟨a, rfl⟩ := List.getElem?_eq_some_iff.1 hk
    obtain ⟨b, rfl⟩ := List.getElem?_eq_some_iff.1 hH
    exact List.pairwise_iff_getElem.1 h k H a b h1
  · left
    obtain rfl : k = H := by omega
    exact Option.some.inj (hk.symm.trans hH)
/-- The end of the search. -/
theorem SrSt.out {g : Nat} {p B r : List Pt} {x : Pt} {w0 w : World} {i : Nat} (h : SrSt g p B r x w0 w i i) (hs : Srt B) (hx : ∀ y ∈ B, x.pos < y.pos) (hi : i ≤ B.length) : Put (x :: B) (B.take i ++ [x] ++ B.drop i) := by
  have e : B.take i ++ B.drop i = B := List.take_append_drop i B
  refine ⟨?_, ?_⟩
  · conv => rhs; rw [← e]
    simp only [List.append_assoc, List.singleton_append]
    exact List.perm_middle
  · have := put_front (x := x) (r1 := B.take i) (r2 := B.drop i) (by rw [e]; exact hs) (fun y hy => by
      obtain ⟨k, hk⟩ := List.mem_iff_getElem?.1 hy
      rw [List.getElem?_take] at hk
      split at hk
      · exact h.1 k y hk (by omega)
      · cases hk) (fun y hy => by
      obtain ⟨k, hk⟩ := List.mem_iff_getElem?.1 hy
      rw [List.getElem?_drop] at hk
      have hne := hx y (List.mem_of_getElem? hk)
      exact Pt.not_lt (by omega) (h.2.1 (i + k) y hk (by omega)))
    simpa using this

set_option maxRecDepth 100000 in
set_option maxHeartbeats 6400000 in
theorem sym_one (g cap L : Nat) (p B r : List Pt) (x : Pt) (u v z : Int) (D : List Pt) (w : World) (hs : Srt B) (hx : ∀ y ∈ B, x.pos < y.pos) (hb : 0 < B.length) (hu : u = (p.length : Int)) (hv : v = (p.length : Int) + 1) (hz : z = (p.length : Int) + 1 + B.length) (hDD : D = p ++ x :: B ++ r) (hD : PartsAt w g D) (hL : D.length = L) (hl : L ≤ 1000000) :
    Calls Tryz.prog 85 #[.slice (some ⟨g, 0, none⟩) L cap, .int .i64 u, .int .i64 v, .int .i64 z, cmpF] w fun e w' => e = .returned (.tuple #[]) ∧ (∃ s', Put (x :: B) s' ∧ PartsAt w' g (p ++ s' ++ r)) ∧ Only g w w' := by
  subst hDD
  have hLL : p.length + 1 + B.length + r.length = L := by rw [← hL]; simp; omega
  obtain ⟨P, hP⟩ : ∃ n, p.length = n := ⟨_, rfl⟩
  obtain ⟨n, hn⟩ : ∃ n, B.length = n := ⟨_, rfl⟩
  have H0 := hide (show SrSt g p B r x w w 0 n from ⟨fun _ _ _ h => by omega, fun k y hk h => by have := (List.getElem?_eq_some_iff.1 hk).1; omega, hD, Only.refl _ _⟩)
  rw [hP] at hu hv hz hLL
  rw [hn] at hz hLL hb
  have HPN := hide (And.intro hP hn)
  have HS := hide hs
  have HX := hide hx
  have hg := hD.lt
  subst hu hv hz
  clear hD hL hP hn hs hx
  go_enter Tryz.func85, Tryz.ntmps85
  have hone : ((P : Int) + 1 - (P : Int) == 1) = true := by rw [beq_iff_eq]; omega
  go_wp2_with fail
  try rw [hone]
  clear hone
  go_loopw [10, 11] (fun s10 s11 wr => ∃ i j : Nat, s10 = .int .i64 ((P : Int) + 1 + (i : Int)) ∧ s11 = .int .i64 ((P : Int) + 1 + (j : Int)) ∧ i ≤ j ∧ j ≤ n ∧ SrSt g p B r x w wr i j) (fun s t _ => (intOf t - intOf s).toNat)
  case atStart => exact ⟨0, n, by first | rfl | (congr 1; omega), by first | rfl | (congr 1; omega), by omega, by omega, H0.out⟩
  case round =>
    obtain ⟨i, j, rfl, rfl, hij, hjn, hSr⟩ := hrel
    have HR := hide hSr
    clear hSr
    by_cases hlt : i < j
    · obtain ⟨H, hH⟩ : ∃ H : Nat, (i + j) / 2 = H := ⟨_, rfl⟩
      have hmid : ((P : Int) + 1 + (i : Int) + ((P : Int) + 1 + (j : Int))) / 2 = ((P + 1 + H : Nat) : Int) := by omega
      have hH1 : i ≤ H ∧ H < j := by omega
      obtain ⟨q, hq⟩ : ∃ q, P + 1 + H = q := ⟨_, rfl⟩
      rw [hq] at hmid
      obtain ⟨y, hy⟩ : ∃ y, B[H]? = some y := ⟨_, List.getElem?_eq_getElem (by rw [HPN.out.2]; omega)⟩
      have hD1 : (p ++ x :: B ++ r)[q]? = some y := by
        rw [List.append_assoc, List.getElem?_append_right (by rw [HPN.out.1]; omega), HPN.out.1, List.cons_append, show q - P = H + 1 by omega, List.getElem?_cons_succ, List.getElem?_append_left (by rw [HPN.out.2]; omega)]
        exact hy
      have hD2 : (p ++ x :: B ++ r)[P]? = some x := by
        rw [List.append_assoc, List.getElem?_append_right (by rw [HPN.out.1]; omega), HPN.out.1, Nat.sub_self]
        rfl
      obtain ⟨c1, c2⟩ := HR.out.2.2.1.cell hD1
      obtain ⟨c3, c4⟩ := HR.out.2.2.1.cell hD2
      have k1 := cell_regrown c1
      have k2 := cell_regrown c2
      have k3 := cell_regrown c3
      have k4 := cell_regrown c4
      have hyx := HX.out y (List.mem_of_getElem? hy)
      have HK := hide (And.intro hy (And.intro hyx hq))
      have q1 : (q : Int) < (L : Int) := by omega
      have q2 : (P : Int) < (L : Int) := by omega
      have hgr := HR.out.2.2.1.lt
      obtain ⟨hH2, hH3⟩ := hH1
      clear hy hyx hD1 hD2 hH
      go_wp2_with fail
      try rw [hmid]
      refine wp_region_quiet_below (by kernel_rfl) (by kernel_rfl) ?_
      repeat (go_big_quiet_step (first | exact Calls.regrown_of (cmp_any y x _) | fail))
      refine wpQuiet_nil ?_
      intro _ hw'
      obtain ⟨⟨dq, osq⟩, hw2⟩ := hw'
      subst hw2
      obtain ⟨wq, hwq⟩ : ∃ wq, grow (redrawn wr dq) osq = wq := ⟨_, rfl⟩
      have HBQ := hide (show Below wr.heap.size wr wq by rw [← hwq]; exact below_regrown wr dq osq)
      have HPQ := hide (HR.out.2.2.1.call HBQ.out)
      have HBG := hide (HR.out.2.2.2.trans (Only.of HBQ.out g))
      rw [hwq]
      clear k1 k2 k3 k4 c1 c2 c3 c4 hwq
      by_cases hlt2 : cmpI y x < 0
      · have HN := hide (show SrSt g p B r x w wq (H + 1) j from ⟨fun k t hk hkl => by
            rcases Nat.lt_or_ge k i with h | h
            · exact HR.out.1 k t hk h
            · have hl := (Pt.lt_iff HK.out.2.1).2 ((cmpI_neg y x).1 hlt2)
              rcases HS.out.get hk HK.out.1 (by omega) with rfl | e
              · exact hl
              · exact Pt.lt_trans e hl, HR.out.2.1, HPQ.out, HBG.out⟩)
        go_wp2
        go_roundw
        case rel => exact ⟨H + 1, j, by have := HK.out.2.2; congr 1; omega, rfl, by omega, by omega, HN.out⟩
        case measure => have := HK.out.2.2; simp [intOf]; omega
      · have HN := hide (show SrSt g p B r x w wq i H from ⟨HR.out.1, fun k t hk hkl => by
            have hn : ¬ y.lt x := fun e => hlt2 ((cmpI_neg y x).2 ((Pt.lt_iff HK.out.2.1).1 e))
            intro ht
            rcases HS.out.get HK.out.1 hk hkl with rfl | e
            · exact hn ht
            · exact hn (Pt.lt_trans e ht), HPQ.out, HBG.out⟩)
        go_wp2
        go_roundw
        case rel => exact ⟨i, H, rfl, by have := HK.out.2.2; congr 1; omega, by omega, by omega, HN.out⟩
        case measure => have := HK.out.2.2; simp [intOf]; omega
    · obtain rfl : j = i := by omega
      have HPUT := hide (HR.out.out HS.out HX.out (by rw [HPN.out.2]; exact hjn))
      have HM0 := hide (show MvSt g p B r x w wr 0 from ⟨by simpa using HR.out.2.2.1, HR.out.2.2.2⟩)
      have HSR := hide (show ∀ k, k < j → ∃ y, B[k]? = some y from fun k hk => ⟨_, List.getElem?_eq_getElem (by rw [HPN.out.2]; omega)⟩)
      clear HR
      obtain ⟨wo, hwo⟩ : ∃ wo : World, wo = wr := ⟨_, rfl⟩
      rw [← hwo] at HM0 ⊢
      clear hwo
      go_wp2_with fail
      go_loopw [13] (fun s13 wr => ∃ k : Nat, s13 = .int .i64 ((P : Int) + (k : Int)) ∧ k ≤ j ∧ MvSt g p B r x w wr k) (fun s _ => (L + 5 - intOf s).toNat)
      case atStart => exact ⟨0, by first | rfl | (congr 1; omega), by omega, HM0.out⟩
      case round =>
        obtain ⟨k, rfl, hkj, hM⟩ := hrel
        have HM := hide hM
        have hgm := hM.1.lt
        clear hM
        by_cases hkl : k < j
        · obtain ⟨y, hy⟩ := HSR.out k hkl
          obtain ⟨q, hq⟩ : ∃ q, P + k = q := ⟨_, rfl⟩
          have hj : (P : Int) + (k : Int) = (q : Int) := by omega
          have HN := hide (HM.out.step hy q (by rw [HPN.out.1]; exact hq.symm) hgm)
          have hk : k < B.length := (List.getElem?_eq_some_iff.1 hy).1
          have hdd : p ++ B.take k ++ [x] ++ B.drop k ++ r = (p ++ B.take k) ++ x :: y :: (B.drop (k + 1) ++ r) := by
            rw [show B.drop k = y :: B.drop (k + 1) by rw [List.drop_eq_getElem_cons hk]; congr 1; exact Option.some.inj ((List.getElem?_eq_getElem hk).symm.trans hy)]
            simp
          have hpl : (p ++ B.take k).length = q := by rw [List.length_append, HPN.out.1, List.length_take]; omega
          have hPt := HM.out.1
          rw [hdd] at hPt
          obtain ⟨c1, c2⟩ := hPt.cell (i := q) (p := x) (by rw [← hpl]; exact get_at _ _ _)
          obtain ⟨c3, c4⟩ := hPt.cell (i := q + 1) (p := y) (by rw [← hpl, List.getElem?_append_right (by omega), show (p ++ B.take k).length + 1 - (p ++ B.take k).length = 1 by omega]; rfl)
          have f1 := hPt.frozen (q * 2)
          have f2 := hPt.frozen (q * 2 + 1)
          have f3 := hPt.frozen ((q + 1) * 2)
          have f4 := hPt.frozen ((q + 1) * 2 + 1)
          have q1 : (0 : Int) ≤ (q : Int) + 1 := by omega
          have q2 : ((q : Int) + 1).toNat = q + 1 := by omega
          have q3 : (q : Int) + 1 < (L : Int) := by have := HPN.out.2; omega
          have q4 : (0 : Int) ≤ (q : Int) := by omega
          have q6 : (q : Int) < (L : Int) := by omega
          have q8 : IntKind.i64.wrap ((q : Int) + 1) = (q : Int) + 1 := by simp [IntKind.wrap, IntKind.bits, IntKind.signed]; omega
          have HQ := hide hq
          have hguard : (q : Int) < (P : Int) + 1 + (j : Int) - 1 := by omega
          rw [hj]
          clear hy hq hj hk hdd hpl hPt
          go_wp2_with fail
          go_region
          all_goals
            go_simp
            go_wp2
            go_roundw
            case rel =>
              exact ⟨k + 1, by have := HQ.out; congr 1; omega, by omega, HN.out.1.drew, HN.out.2.drew⟩
            case measure => simp [intOf]; omega
        · obtain rfl : k = j := by omega
          have HF := hide (show ∃ s', Put (x :: B) s' ∧ PartsAt wr g (p ++ s' ++ r) from ⟨_, HPUT.out, by simpa using HM.out.1⟩)
          have HFB := hide HM.out.2
          go_wp2
          all_goals first
            | (exfalso; omega)
            | (refine bodyPost_ret (results_none rfl _ _ _) rfl ?_; exact ⟨rfl, HF.out, HFB.out⟩)
end Go.Proofs.YtjhhmeoibfdcmaaGreatDoor

namespace Go.Proofs.YtjhhmeoibfdcmaaGreatDoor
open Go.RowKit Go.Sort
set_option linter.unusedSimpArgs false
set_option linter.unusedVariables false

/-- A search in the first run: what stands ahead of i does not come behind x, what stands from j on does. -/
def SlSt (g : Nat) (p A r : List Pt) (x : Pt) (w0 w : World) (i j : Nat) : Prop := (∀ k y, A[k]? = some y → k < i → ¬ x.lt y) ∧ (∀ k y, A[k]? = some y → j ≤ k → x.lt y) ∧ PartsAt w g (p ++ A ++ x :: r) ∧ Only g w0 w
/-- x has been moved down to place k of the run. -/
def MdSt (g : Nat) (p A r : List Pt) (x : Pt) (w0 w : World) (k : Nat) : Prop := PartsAt w g (p ++ A.take k ++ [x] ++ A.drop k ++ r) ∧ Only g w0 w
theorem MdSt.step {g : Nat} {p A r : List Pt} {x y : Pt} {w0 w : World} {k : Nat} (h : MdSt g p A r x w0 w (k + 1)) (hy : A[k]? = some y) (q : Nat) (hq : q = p.length + k) :
    MdSt g p A r x w0 ((((w.setCell ⟨g, (q + 1) * 2, none⟩ (.int .i64 y.pos)).setCell ⟨g, (q + 1) * 2 + 1, none⟩ (.int .i64 y.ab)).setCell ⟨g, q * 2, none⟩ (.int .i64 x.pos)).setCell ⟨g, q * 2 + 1, none⟩ (.int .i64 x.ab)) k := by
  have hk : k < A.length := (List.getElem?_eq_some_iff.1 hy).1
  have hd : A.drop k = y :: A.drop (k + 1) := by rw [List.drop_eq_getElem_cons hk]; congr 1; exact Option.some.inj ((List.getElem?_eq_getElem hk).symm.trans hy)
  have ht : A.take (k + 1) = A.take k ++ [y] := by rw [List.take_add_one, hy]; rfl
  have hl : (A.take k).length = k := by simp; omega
  refine ⟨?_, (((h.2.setCell (Nat.le_refl _) _).setCell (Nat.le_refl _) _).setCell (Nat.le_refl _) _).setCell (Nat.le_refl _) _⟩
  have h1 := h.1.down (p := p) (s1 := A.take k) (s2 := A.drop (k + 1)) (r := r) (x := x) (y := y) (by rw [ht]) q (by rw [hl]; exact hq)
  rw [hd]
  exact h1
theorem SlSt.out {g : Nat} {p A r : List Pt} {x : Pt} {w0 w : World} {i : Nat} (h : SlSt g p A r x w0 w i i) (hs : Srt A) (hx : ∀ y ∈ A, y.pos < x.pos) : Put (A ++ [x]) (A.take i ++ [x] ++ A.drop i) := by
  have e : A.take i ++ A.drop i = A := List.take_append_drop i A
  refine ⟨?_, ?_⟩
  · conv => rhs; rw [← e]
    simp only [List.append_assoc]
    refine List.Perm.append_left _ ?_
    exact List.perm_append_comm
  · have := put_front (x := x) (r1 := A.take i) (r2 := A.drop i) (by rw [e]; exact hs) (fun y hy => by
      obtain ⟨k, hk⟩ := List.mem_iff_getElem?.1 hy
      rw [List.getElem?_take] at hk
      split at hk
      · have hne := hx y (List.mem_of_getElem? hk)
        exact Pt.not_lt (by omega) (h.1 k y hk (by omega))
      · cases hk) (fun y hy => by
      obtain ⟨k, hk⟩ := List.mem_iff_getElem?.1 hy
      rw [List.getElem?_drop] at hk
      exact h.2.1 (i + k) y hk (by omega))
    simpa using this

set_option maxRecDepth 100000 in
set_option maxHeartbeats 6400000 in
theorem sym_last (g cap L : Nat) (p A r : List Pt) (x : Pt) (u v z : Int) (D : List Pt) (w : World) (hs : Srt A) (hx : ∀ y ∈ A, y.pos < x.pos) (ha : 1 < A.length) (hu : u = (p.length : Int)) (hv : v = (p.length : Int) + A.length) (hz : z = (p.length : Int) + A.length + 1) (hDD : D = p ++ A ++ x :: r) (hD : PartsAt w g D) (hL : D.length = L) (hl : L ≤ 1000000) :
    Calls Tryz.prog 85 #[.slice (some ⟨g, 0, none⟩) L cap, .int .i64 u, .int .i64 v, .int .i64 z, cmpF] w fun e w' => e = .returned (.tuple #[]) ∧ (∃ s', Put (A ++ [x]) s' ∧ PartsAt w' g (p ++ s' ++ r)) ∧ Only g w w' := by
  subst hDD
  have hLL : p.length + A.length + 1 + r.length = L := by rw [← hL]; simp; omega
  obtain ⟨P, hP⟩ : ∃ n, p.length = n := ⟨_, rfl⟩
  obtain ⟨n, hn⟩ : ∃ n, A.length = n := ⟨_, rfl⟩
  have H0 := hide (show SlSt g p A r x w w 0 n from ⟨fun _ _ _ h => by omega, fun k y hk h => by have := (List.getElem?_eq_some_iff.1 hk).1; omega, hD, Only.refl _ _⟩)
  rw [hP] at hu hv hz hLL
  rw [hn] at hv hz hLL ha
  have HPN := hide (And.intro hP hn)
  have HS := hide hs
  have HX := hide hx
  have hg := hD.lt
  subst hu hv hz
  clear hD hL hP hn hs hx
  go_enter Tryz.func85, Tryz.ntmps85
  have hone : ((P : Int) + (n : Int) - (P : Int) == 1) = false := by rw [beq_eq_false_iff_ne]; omega
  have htwo : ((P : Int) + (n : Int) + 1 - ((P : Int) + (n : Int)) == 1) = true := by rw [beq_iff_eq]; omega
  go_wp2_with fail
  try rw [hone]
  try rw [htwo]
  clear hone htwo
  go_loopw [14, 15] (fun s14 s15 wr => ∃ i j : Nat, s14 = .int .i64 ((P : Int) + (i : Int)) ∧ s15 = .int .i64 ((P : Int) + (j : Int)) ∧ i ≤ j ∧ j ≤ n ∧ SlSt g p A r x w wr i j) (fun s t _ => (intOf t - intOf s).toNat)
  case atStart => exact ⟨0, n, by first | rfl | (congr 1; omega), by first | rfl | (congr 1; omega), by omega, by omega, H0.out⟩
  case round =>
    obtain ⟨i, j, rfl, rfl, hij, hjn, hSr⟩ := hrel
    have HR := hide hSr
    clear hSr
    by_cases hlt : i < j
    · obtain ⟨H, hH⟩ : ∃ H : Nat, (i + j) / 2 = H := ⟨_, rfl⟩
      have hmid : ((P : Int) + (i : Int) + ((P : Int) + (j : Int))) / 2 = ((P + H : Nat) : Int) := by omega
      have hH1 : i ≤ H ∧ H < j := by omega
      obtain ⟨q, hq⟩ : ∃ q, P + H = q := ⟨_, rfl⟩
      obtain ⟨t, ht⟩ : ∃ t, P + n = t := ⟨_, rfl⟩
      rw [hq] at hmid
      obtain ⟨y, hy⟩ : ∃ y, A[H]? = some y := ⟨_, List.getElem?_eq_getElem (by rw [HPN.out.2]; omega)⟩
      have hD1 : (p ++ A ++ x :: r)[q]? = some y := by
        rw [List.append_assoc, List.getElem?_append_right (by rw [HPN.out.1]; omega), HPN.out.1, show q - P = H by omega, List.getElem?_append_left (by rw [HPN.out.2]; omega)]
        exact hy
      have hD2 : (p ++ A ++ x :: r)[t]? = some x := by
        have h := get_at (p ++ A) r x
        rw [List.length_append, HPN.out.1, HPN.out.2, ht] at h
        exact h
      obtain ⟨c1, c2⟩ := HR.out.2.2.1.cell hD1
      obtain ⟨c3, c4⟩ := HR.out.2.2.1.cell hD2
      have k1 := cell_regrown c1
      have k2 := cell_regrown c2
      have k3 := cell_regrown c3
      have k4 := cell_regrown c4
      have hyx := HX.out y (List.mem_of_getElem? hy)
      have HK := hide (And.intro hy (And.intro hyx hq))
      have q1 : (q : Int) < (L : Int) := by omega
      have q2 : (P : Int) + (n : Int) < (L : Int) := by omega
      have q3 : ((P : Int) + (n : Int)).toNat = t := by omega
      have q4 : (0 : Int) ≤ (P : Int) + (n : Int) := by omega
      have hgr := HR.out.2.2.1.lt
      obtain ⟨hH2, hH3⟩ := hH1
      clear hy hyx hD1 hD2 hH
      go_wp2_with fail
      try rw [hmid]
      refine wp_region_quiet_below (by kernel_rfl) (by kernel_rfl) ?_
      repeat (go_big_quiet_step (first | exact Calls.regrown_of (cmp_any x y _) | fail))
      refine wpQuiet_nil ?_
      intro _ hw'
      obtain ⟨⟨dq, osq⟩, hw2⟩ := hw'
      subst hw2
      obtain ⟨wq, hwq⟩ : ∃ wq, grow (redrawn wr dq) osq = wq := ⟨_, rfl⟩
      have HBQ := hide (show Below wr.heap.size wr wq by rw [← hwq]; exact below_regrown wr dq osq)
      have HPQ := hide (HR.out.2.2.1.call HBQ.out)
      have HBG := hide (HR.out.2.2.2.trans (Only.of HBQ.out g))
      rw [hwq]
      clear k1 k2 k3 k4 c1 c2 c3 c4 hwq
      by_cases hlt2 : cmpI x y < 0
      · have HN := hide (show SlSt g p A r x w wq i H from ⟨HR.out.1, fun k t hk hkl => by
            have hl := (Pt.lt_iff HK.out.2.1).2 ((cmpI_neg x y).1 hlt2)
            rcases HS.out.get HK.out.1 hk hkl with rfl | e
            · exact hl
            · exact Pt.lt_trans hl e, HPQ.out, HBG.out⟩)
        rw [decide_eq_true hlt2]
        go_wp2
        go_roundw
        case rel => exact ⟨i, H, rfl, by have := HK.out.2.2; congr 1; omega, by omega, by omega, HN.out⟩
        case measure => have := HK.out.2.2; simp [intOf]; omega
      · have HN := hide (show SlSt g p A r x w wq (H + 1) j from ⟨fun k t hk hkl => by
            have hn : ¬ x.lt y := fun e => hlt2 ((cmpI_neg x y).2 ((Pt.lt_iff HK.out.2.1).1 e))
            intro ht
            rcases HS.out.get hk HK.out.1 (by omega) with rfl | e
            · exact hn ht
            · exact hn (Pt.lt_trans ht e), HR.out.2.1, HPQ.out, HBG.out⟩)
        rw [decide_eq_false hlt2]
        go_wp2
        go_roundw
        case rel => exact ⟨H + 1, j, by have := HK.out.2.2; congr 1; omega, rfl, by omega, by omega, HN.out⟩
        case measure => have := HK.out.2.2; simp [intOf]; omega
    · obtain rfl : j = i := by omega
      have HPUT := hide (HR.out.out HS.out HX.out)
      have HM0 := hide (show MdSt g p A r x w wr n from ⟨by
        rw [List.take_of_length_le (by rw [HPN.out.2]; omega), List.drop_eq_nil_of_le (by rw [HPN.out.2]; omega)]
        simpa using HR.out.2.2.1, HR.out.2.2.2⟩)
      have HSR := hide (show ∀ k, k < n → ∃ y, A[k]? = some y from fun k hk => ⟨_, List.getElem?_eq_getElem (by rw [HPN.out.2]; omega)⟩)
      clear HR
      obtain ⟨wo, hwo⟩ : ∃ wo : World, wo = wr := ⟨_, rfl⟩
      rw [← hwo] at HM0 ⊢
      clear hwo
      go_wp2_with fail
      go_loopw [17] (fun s17 wr => ∃ k : Nat, s17 = .int .i64 ((P : Int) + (k : Int)) ∧ j ≤ k ∧ k ≤ n ∧ MdSt g p A r x w wr k) (fun s _ => (intOf s + 5).toNat)
      case atStart => exact ⟨n, by first | rfl | (congr 1; omega), by omega, by omega, HM0.out⟩
      case round =>
        obtain ⟨k0, rfl, hkj, hkn, hM⟩ := hrel
        have HM := hide hM
        have hgm := hM.1.lt
        clear hM
        by_cases hkl : j < k0
        · obtain ⟨k, rfl⟩ : ∃ k, k0 = k + 1 := ⟨k0 - 1, by omega⟩
          obtain ⟨y, hy⟩ := HSR.out k (by omega)
          obtain ⟨q, hq⟩ : ∃ q, P + k = q := ⟨_, rfl⟩
          have hj : (P : Int) + ((k + 1 : Nat) : Int) = (q : Int) + 1 := by omega
          have HN := hide (HM.out.step hy q (by rw [HPN.out.1]; exact hq.symm))
          have hk : k < A.length := (List.getElem?_eq_some_iff.1 hy).1
          have hdd : p ++ A.take (k + 1) ++ [x] ++ A.drop (k + 1) ++ r = (p ++ A.take k) ++ y :: x :: (A.drop (k + 1) ++ r) := by
            rw [show A.take (k + 1) = A.take k ++ [y] by rw [List.take_add_one, hy]; rfl]
            simp
          have hpl : (p ++ A.take k).length = q := by rw [List.length_append, HPN.out.1, List.length_take]; omega
          have hPt := HM.out.1
          rw [hdd] at hPt
          obtain ⟨c1, c2⟩ := hPt.cell (i := q) (p := y) (by rw [← hpl]; exact get_at _ _ _)
          obtain ⟨c3, c4⟩ := hPt.cell (i := q + 1) (p := x) (by rw [← hpl, List.getElem?_append_right (by omega), show (p ++ A.take k).length + 1 - (p ++ A.take k).length = 1 by omega]; rfl)
          have f1 := hPt.frozen (q * 2)
          have f2 := hPt.frozen (q * 2 + 1)
          have f3 := hPt.frozen ((q + 1) * 2)
          have f4 := hPt.frozen ((q + 1) * 2 + 1)
          have q1 : (0 : Int) ≤ (q : Int) + 1 := by omega
          have q2 : ((q : Int) + 1).toNat = q + 1 := by omega
          have q3 : (q : Int) + 1 < (L : Int) := by have := HPN.out.2; omega
          have q4 : (0 : Int) ≤ (q : Int) := by omega
          have q6 : (q : Int) < (L : Int) := by omega
          have q7 : IntKind.i64.wrap (q : Int) = (q : Int) := by simp [IntKind.wrap, IntKind.bits, IntKind.signed]; omega
          have q8 : IntKind.i64.wrap ((q : Int) + 1 - 1) = (q : Int) := by simp [IntKind.wrap, IntKind.bits, IntKind.signed]; omega
          have q9 : (q : Int) + 1 - 1 = (q : Int) := by omega
          have HQ := hide hq
          have hguard : (P : Int) + (j : Int) < (q : Int) + 1 := by omega
          rw [hj]
          clear hy hq hj hk hdd hpl hPt
          go_wp2_with fail
          go_region
          all_goals
            go_simp
            go_wp2
            go_roundw
            case rel => exact ⟨k, by have := HQ.out; congr 1; omega, by omega, by omega, HN.out.1.drew, HN.out.2.drew⟩
            case measure => have := HQ.out; simp [intOf]; omega
        · obtain rfl : k0 = j := by omega
          have HF := hide (show ∃ s', Put (A ++ [x]) s' ∧ PartsAt wr g (p ++ s' ++ r) from ⟨_, HPUT.out, by simpa using HM.out.1⟩)
          have HFB := hide HM.out.2
          go_wp2
          all_goals first
            | (exfalso; omega)
            | (refine bodyPost_ret (results_none rfl _ _ _) rfl ?_; exact ⟨rfl, HF.out, HFB.out⟩)
end Go.Proofs.YtjhhmeoibfdcmaaGreatDoor

namespace Go.Proofs.YtjhhmeoibfdcmaaGreatDoor
open Go.RowKit Go.Sort
set_option linter.unusedSimpArgs false
set_option linter.unusedVariables false

theorem join_put {A1 A2 B1 B2 s1 s2 : List Pt} (hA : Srt (A1 ++ A2)) (hB : Srt (B1 ++ B2)) (h1 : ∀ x ∈ A1.getLast?, ∀ y ∈ B2.head?, x.lt y) (h2 : ∀ x ∈ B1.getLast?, ∀ y ∈ A2.head?, x.lt y)
    (hs1 : Put (A1 ++ B1) s1) (hs2 : Put (A2 ++ B2) s2) : Put ((A1 ++ A2) ++ (B1 ++ B2)) (s1 ++ s2) := by
  refine ⟨?_, hs1.2.app hs2.2 (fun x hx y hy => halves hA hB h1 h2 x (hs1.1.mem_iff.1 hx) y (hs2.1.mem_iff.1 hy))⟩
  refine (hs1.1.append hs2.1).trans ?_
  simp only [List.append_assoc]
  refine List.Perm.append_left A1 ?_
  rw [← List.append_assoc, ← List.append_assoc]
  exact List.perm_append_comm.append_right B2
/-- Where the search stands: i is where it began, or what stands ahead of it goes ahead of its fellow; j is where it ended, or what stands there goes behind its fellow. -/
def Cut (A B : List Pt) (M s0 r0 i j : Nat) : Prop :=
  (i = s0 ∨ ∃ x y, 0 < i ∧ A[i - 1]? = some x ∧ B[M - i]? = some y ∧ x.lt y) ∧ (j = r0 ∨ ∃ x y, j < M ∧ A[j]? = some x ∧ B[M - 1 - j]? = some y ∧ y.lt x)
theorem Cut.ends {A B : List Pt} {M s0 r0 s : Nat} (h : Cut A B M s0 r0 s s) (hs0 : s0 = 0 ∨ s0 + B.length = M) (hr0 : r0 = M ∨ r0 = A.length) (hsA : s ≤ A.length) (hsM : s ≤ M) (hB : M ≤ s + B.length) :
    (∀ x ∈ (A.take s).getLast?, ∀ y ∈ (B.drop (M - s)).head?, x.lt y) ∧ (∀ x ∈ (B.take (M - s)).getLast?, ∀ y ∈ (A.drop s).head?, x.lt y) := by
  have last : ∀ (l : List Pt) (k : Nat) (x : Pt), k ≤ l.length → x ∈ (l.take k).getLast? → 0 < k ∧ l[k - 1]? = some x := by
    intro l k x hk hx
    rw [List.getLast?_eq_getElem?, List.length_take, Nat.min_eq_left hk, List.getElem?_take] at hx
    rcases Nat.eq_zero_or_pos k with rfl | h0
    · simp at hx
    · rw [if_pos (by omega)] at hx
      exact ⟨h0, hx⟩
  have head : ∀ (l : List Pt) (k : Nat) (x : Pt), x ∈ (l.drop k).head? → l[k]? = some x := by
    intro l k x hx
    rw [List.head?_drop] at hx
    exact hx
  refine ⟨fun x hx y hy => ?_, fun x hx y hy => ?_⟩
  · obtain ⟨a1, a2⟩ := last A s x hsA hx
    have b1 := head B _ y hy
    have b2 := (List.getElem?_eq_some_iff.1 b1).1
    rcases h.1 with e | ⟨x', y', _, e1, e2, e3⟩
    · exfalso
      rcases hs0 with h0 | h0 <;> omega
    · rw [a2] at e1
      rw [b1] at e2
      cases e1; cases e2
      exact e3
  · obtain ⟨a1, a2⟩ := last B (M - s) x (by omega) hx
    have b1 := head A _ y hy
    have b2 := (List.getElem?_eq_some_iff.1 b1).1
    rcases h.2 with e | ⟨x', y', _, e1, e2, e3⟩
    · exfalso
      rcases hr0 with h0 | h0 <;> omega
    · rw [show M - s - 1 = M - 1 - s by omega] at a2
      rw [b1] at e1
      rw [a2] at e2
      cases e1; cases e2
      exact e3
end Go.Proofs.YtjhhmeoibfdcmaaGreatDoor

namespace Go.Proofs.YtjhhmeoibfdcmaaGreatDoor
open Go.RowKit Go.Sort
set_option linter.unusedSimpArgs false
set_option linter.unusedVariables false

/-- What symMerge does with runs of at most N parts together. -/
def SymC (N : Nat) : Prop := ∀ (g cap L : Nat) (p A B r : List Pt) (u v z : Int) (D : List Pt) (w : World), 0 < A.length → 0 < B.length → A.length + B.length ≤ N → Srt A → Srt B → Ahead A B →
    u = (p.length : Int) → v = (p.length : Int) + A.length → z = (p.length : Int) + A.length + B.length → D = p ++ A ++ B ++ r → PartsAt w g D → D.length = L → L ≤ 1000000 →
    Calls Tryz.prog 85 #[.slice (some ⟨g, 0, none⟩) L cap, .int .i64 u, .int .i64 v, .int .i64 z, cmpF] w fun e w' => e = .returned (.tuple #[]) ∧ (∃ s', Put (A ++ B) s' ∧ PartsAt w' g (p ++ s' ++ r)) ∧ Only g w w'

def SyA (g : Nat) (p A1 B1 q : List Pt) (w0 w : World) : Prop := ∃ s1, Put (A1 ++ B1) s1 ∧ PartsAt w g (p ++ s1 ++ q) ∧ Only g w0 w
theorem put_self {l : List Pt} (h : Srt l) : Put l l := ⟨List.Perm.refl _, h⟩
theorem srt_one {A B : List Pt} (hA : Srt A) (hB : Srt B) (h : A.length = 0 ∨ B.length = 0) : Srt (A ++ B) := by
  rcases h with h | h
  · obtain rfl : A = [] := List.length_eq_zero_iff.1 h
    simpa using hB
  · obtain rfl : B = [] := List.length_eq_zero_iff.1 h
    simpa using hA
def CtSt (g : Nat) (p A B r : List Pt) (M s0 r0 : Nat) (w0 w : World) (i j : Nat) : Prop := Cut A B M s0 r0 i j ∧ PartsAt w g (p ++ A ++ B ++ r) ∧ Only g w0 w

set_option maxRecDepth 100000 in
set_option maxHeartbeats 6400000 in
theorem sym_gen (N : Nat) (IH : SymC N) (g cap L : Nat) (p A B r : List Pt) (u v z : Int) (D : List Pt) (w : World) (ha : 1 < A.length) (hb : 1 < B.length) (hN : A.length + B.length ≤ N + 1) (hs : Srt A) (ht : Srt B) (hAB : Ahead A B)
    (hu : u = (p.length : Int)) (hv : v = (p.length : Int) + A.length) (hz : z = (p.length : Int) + A.length + B.length) (hDD : D = p ++ A ++ B ++ r) (hD : PartsAt w g D) (hL : D.length = L) (hl : L ≤ 1000000) :
    Calls Tryz.prog 85 #[.slice (some ⟨g, 0, none⟩) L cap, .int .i64 u, .int .i64 v, .int .i64 z, cmpF] w fun e w' => e = .returned (.tuple #[]) ∧ (∃ s', Put (A ++ B) s' ∧ PartsAt w' g (p ++ s' ++ r)) ∧ Only g w w' := by
  subst hDD
  have hLL : p.length + A.length + B.length + r.length = L := by rw [← hL]; simp; omega
  obtain ⟨P, hP⟩ : ∃ n, p.length = n := ⟨_, rfl⟩
  obtain ⟨na, hna⟩ : ∃ n, A.length = n := ⟨_, rfl⟩
  obtain ⟨nb, hnb⟩ : ∃ n, B.length = n := ⟨_, rfl⟩
  rw [hP] at hu hv hz hLL
  rw [hna] at hv hz hLL ha hN
  rw [hnb] at hz hLL hb hN
  have HPN := hide (And.intro hP (And.intro hna hnb))
  have HS := hide (And.intro hs (And.intro ht hAB))
  have HI := hide IH
  have HD := hide hD
  have hg := hD.lt
  obtain ⟨M, hM⟩ : ∃ M, (na + nb) / 2 = M := ⟨_, rfl⟩
  have hmid : ((P : Int) + ((P : Int) + (na : Int) + (nb : Int))) / 2 = (P : Int) + (M : Int) := by omega
  subst hu hv hz
  clear hD hL hP hna hnb hs ht hAB IH
  go_enter Tryz.func85, Tryz.ntmps85
  have hone : ((P : Int) + (na : Int) - (P : Int) == 1) = false := by rw [beq_eq_false_iff_ne]; omega
  have htwo : ((P : Int) + (na : Int) + (nb : Int) - ((P : Int) + (na : Int)) == 1) = false := by rw [beq_eq_false_iff_ne]; omega
  go_upto_if 140 with (fail)
  go_cut [20, 21] (fun s20 s21 wx => ∃ s0 r0 : Nat, s20 = .int .i64 ((P : Int) + (s0 : Int)) ∧ s21 = .int .i64 ((P : Int) + (r0 : Int)) ∧ (s0 ≤ r0 ∧ r0 ≤ na ∧ r0 ≤ M ∧ M ≤ s0 + nb ∧ (s0 = 0 ∨ s0 + nb = M) ∧ (r0 = M ∨ r0 = na)) ∧ w = wx)
  case first =>
    as_aux_lemma =>
      by_cases hc : (P : Int) + (M : Int) < (P : Int) + (na : Int)
      · go_wp2_with fail
        go_meet
        case rel => exact ⟨M - nb, M, by congr 1; omega, rfl, by omega, rfl⟩
      · go_wp2_with fail
        go_meet
        case rel => exact ⟨0, na, by first | rfl | (congr 1; omega), rfl, by omega, rfl⟩
  case rest =>
    obtain ⟨s0, r0, rfl, rfl, ⟨hs1, hs2, hs3, hs4, hs5, hs6⟩, rfl⟩ := hcut
    have H0 := hide (show CtSt g p A B r M s0 r0 w w s0 r0 from ⟨⟨.inl rfl, .inl rfl⟩, HD.out, Only.refl _ _⟩)
    have HSS := hide (And.intro hs5 hs6)
    clear hs5 hs6 hmid
    go_wp2_with fail
    go_loopw [20, 21] (fun s20 s21 wr => ∃ i j : Nat, s20 = .int .i64 ((P : Int) + (i : Int)) ∧ s21 = .int .i64 ((P : Int) + (j : Int)) ∧ s0 ≤ i ∧ i ≤ j ∧ j ≤ r0 ∧ CtSt g p A B r M s0 r0 w wr i j) (fun s t _ => (intOf t - intOf s).toNat)
    case atStart => exact ⟨s0, r0, rfl, rfl, by omega, by omega, by omega, H0.out⟩
    case round =>
      obtain ⟨i, j, rfl, rfl, hi0, hij, hjn, hSr⟩ := hrel
      have HR := hide hSr
      clear hSr
      by_cases hlt : i < j
      · as_aux_lemma =>
          obtain ⟨H, hH⟩ : ∃ H : Nat, (i + j) / 2 = H := ⟨_, rfl⟩
          have hmid : ((P : Int) + (i : Int) + ((P : Int) + (j : Int))) / 2 = ((P + H : Nat) : Int) := by omega
          have hH1 : i ≤ H ∧ H < j := by omega
          obtain ⟨q, hq⟩ : ∃ q, P + H = q := ⟨_, rfl⟩
          obtain ⟨t, ht⟩ : ∃ t, P + na + (M - 1 - H) = t := ⟨_, rfl⟩
          rw [hq] at hmid
          have hsub : (P : Int) + (M : Int) + ((P : Int) + (na : Int)) - 1 - (q : Int) = (t : Int) := by omega
          obtain ⟨x, hx⟩ : ∃ x, A[H]? = some x := ⟨_, List.getElem?_eq_getElem (by rw [HPN.out.2.1]; omega)⟩
          obtain ⟨y, hy⟩ : ∃ y, B[M - 1 - H]? = some y := ⟨_, List.getElem?_eq_getElem (by rw [HPN.out.2.2]; omega)⟩
          have hD1 : (p ++ A ++ B ++ r)[q]? = some x := by
            rw [List.append_assoc, List.append_assoc, List.getElem?_append_right (by rw [HPN.out.1]; omega), HPN.out.1, show q - P = H by omega, List.getElem?_append_left (by rw [HPN.out.2.1]; omega)]
            exact hx
          have hD2 : (p ++ A ++ B ++ r)[t]? = some y := by
            rw [List.append_assoc, List.getElem?_append_right (by rw [List.length_append, HPN.out.1, HPN.out.2.1]; omega), List.length_append, HPN.out.1, HPN.out.2.1, show t - (P + na) = M - 1 - H by omega, List.getElem?_append_left (by rw [HPN.out.2.2]; omega)]
            exact hy
          obtain ⟨c1, c2⟩ := HR.out.2.1.cell hD1
          obtain ⟨c3, c4⟩ := HR.out.2.1.cell hD2
          have k1 := cell_regrown c1
          have k2 := cell_regrown c2
          have k3 := cell_regrown c3
          have k4 := cell_regrown c4
          have hyx := HS.out.2.2 x (List.mem_of_getElem? hx) y (List.mem_of_getElem? hy)
          have HK := hide (And.intro hx (And.intro hy (And.intro hyx hq)))
          have q1 : (q : Int) < (L : Int) := by omega
          have q2 : (t : Int) < (L : Int) := by omega
          have hgr := HR.out.2.1.lt
          obtain ⟨hH2, hH3⟩ := hH1
          clear hx hy hyx hD1 hD2 hH
          go_wp2_with fail
          try rw [hmid]
          refine wp_region_quiet_below (by kernel_rfl) (by kernel_rfl) ?_
          repeat (go_big_quiet_step (first | exact Calls.regrown_of (cmp_any y x _) | fail))
          refine wpQuiet_nil ?_
          intro _ hw'
          obtain ⟨⟨dq, osq⟩, hw2⟩ := hw'
          subst hw2
          obtain ⟨wq, hwq⟩ : ∃ wq, grow (redrawn wr dq) osq = wq := ⟨_, rfl⟩
          have HBQ := hide (show Below wr.heap.size wr wq by rw [← hwq]; exact below_regrown wr dq osq)
          have HPQ := hide (HR.out.2.1.call HBQ.out)
          have HBG := hide (HR.out.2.2.trans (Only.of HBQ.out g))
          rw [hwq]
          clear k1 k2 k3 k4 c1 c2 c3 c4 hwq
          by_cases hlt2 : cmpI y x < 0
          · have HN := hide (show CtSt g p A B r M s0 r0 w wq i H from ⟨⟨HR.out.1.1, .inr ⟨x, y, by omega, HK.out.1, HK.out.2.1, (Pt.lt_iff HK.out.2.2.1).2 ((cmpI_neg y x).1 hlt2)⟩⟩, HPQ.out, HBG.out⟩)
            rw [decide_eq_true hlt2]
            go_wp2
            go_roundw
            case rel => exact ⟨i, H, rfl, by have := HK.out.2.2.2; congr 1; omega, by omega, by omega, by omega, HN.out⟩
            case measure => have := HK.out.2.2.2; simp [intOf]; omega
          · have HN := hide (show CtSt g p A B r M s0 r0 w wq (H + 1) j from ⟨⟨.inr ⟨x, y, by omega, HK.out.1, by rw [show M - (H + 1) = M - 1 - H by omega]; exact HK.out.2.1, Pt.not_lt (by have := HK.out.2.2.1; omega) (fun e => hlt2 ((cmpI_neg y x).2 ((Pt.lt_iff HK.out.2.2.1).1 e)))⟩, HR.out.1.2⟩, HPQ.out, HBG.out⟩)
            rw [decide_eq_false hlt2]
            go_wp2
            go_roundw
            case rel => exact ⟨H + 1, j, by have := HK.out.2.2.2; congr 1; omega, rfl, by omega, by omega, by omega, HN.out⟩
            case measure => have := HK.out.2.2.2; simp [intOf]; omega
      · obtain rfl : j = i := by omega
        have hjA : j ≤ A.length := by rw [HPN.out.2.1]; omega
        obtain ⟨e1, e2⟩ := HR.out.1.ends (by rw [HPN.out.2.2]; exact HSS.out.1) (by rw [HPN.out.2.1]; exact HSS.out.2) hjA (by omega) (by rw [HPN.out.2.2]; omega)
        obtain ⟨A1, hA1⟩ : ∃ l, A.take j = l := ⟨_, rfl⟩
        obtain ⟨A2, hA2⟩ : ∃ l, A.drop j = l := ⟨_, rfl⟩
        obtain ⟨B1, hB1⟩ : ∃ l, B.take (M - j) = l := ⟨_, rfl⟩
        obtain ⟨B2, hB2⟩ : ∃ l, B.drop (M - j) = l := ⟨_, rfl⟩
        have HA := hide (show A = A1 ++ A2 by rw [← hA1, ← hA2, List.take_append_drop])
        have HB := hide (show B = B1 ++ B2 by rw [← hB1, ← hB2, List.take_append_drop])
        have HLA := hide (show A1.length = j ∧ A2.length = na - j by rw [← hA1, ← hA2, List.length_take, List.length_drop, HPN.out.2.1]; omega)
        have HLB := hide (show B1.length = M - j ∧ B2.length = nb - (M - j) by rw [← hB1, ← hB2, List.length_take, List.length_drop, HPN.out.2.2]; omega)
        rw [hA1, hB2] at e1
        rw [hB1, hA2] at e2
        have HE := hide (And.intro e1 e2)
        have HPT := hide (show PartsAt wr g (p ++ (A1 ++ A2) ++ (B1 ++ B2) ++ r) by rw [← HA.out, ← HB.out]; exact HR.out.2.1)
        have HBL := hide HR.out.2.2
        clear e1 e2 hA1 hA2 hB1 hB2 hjA HR
        have hLA := HLA.out
        have hLB := HLB.out
        obtain ⟨E, hE⟩ : ∃ E : Nat, P + M + (na - j) = E := ⟨_, rfl⟩
        have hEE : (P : Int) + (M : Int) + ((P : Int) + (na : Int)) - ((P : Int) + (j : Int)) = (E : Int) := by omega
        have hEn : P + M ≤ E ∧ E ≤ P + na + nb := by omega
        have HEq := hide hE
        have HST := hide (show Srt (A1 ++ A2) ∧ Srt (B1 ++ B2) ∧ Ahead (A1 ++ A2) (B1 ++ B2) by rw [← HA.out, ← HB.out]; exact HS.out)
        have HJ := hide (fun (s1 s2 : List Pt) => join_put (s1 := s1) (s2 := s2) HST.out.1 HST.out.2.1 HE.out.1 HE.out.2)
        have HLG := hide (show (p ++ (A1 ++ B1) ++ (A2 ++ B2) ++ r).length = L by simp only [List.length_append]; have := HPN.out.1; omega)
        have HLAB := hide (And.intro hLA hLB)
        obtain ⟨hEn1, hEn2⟩ := hEn
        clear hLA hLB hE
        go_upto_region 39 with (fail)
        go_cut [185] (fun b wx => b = .bool (decide (j < na ∧ j < M)) ∧ wr = wx)
        case first =>
          as_aux_lemma =>
            by_cases h1 : j < na
            · by_cases h2 : j < M
              · have h3 : P + na < E := by have := HEq.out; omega
                go_wp2_with fail
                go_meet
                case rel => exact ⟨by simp [h1, h2]; omega, rfl⟩
              · have h3 : E ≤ P + na := by have := HEq.out; omega
                go_wp2_with fail
                go_meet
                case rel => exact ⟨by simp [h1, h2]; omega, rfl⟩
            · go_wp2_with fail
              go_meet
              case rel => exact ⟨by simp [h1], rfl⟩
        case rest =>
          obtain ⟨rfl, rfl⟩ := hcut
          go_upto_if 185 with (fail)
          obtain ⟨bb, hbb⟩ : ∃ bb, decide (j < na ∧ j < M) = bb := ⟨_, rfl⟩
          rw [hbb]
          go_cut [] (fun wx => PartsAt wx g (p ++ (A1 ++ B1) ++ (A2 ++ B2) ++ r) ∧ Only g w wx)
          case first =>
            as_aux_lemma =>
              cases bb
              · have h0 := of_decide_eq_false hbb
                have HN := hide (show PartsAt wr g (p ++ (A1 ++ B1) ++ (A2 ++ B2) ++ r) from by
                  have h := HPT.out
                  have hl := HLAB.out
                  rcases (show na ≤ j ∨ M ≤ j by omega) with h9 | h9
                  · obtain rfl : A2 = [] := List.length_eq_zero_iff.1 (by omega)
                    simpa using h
                  · obtain rfl : B1 = [] := List.length_eq_zero_iff.1 (by omega)
                    simpa using h)
                clear hbb h0
                go_wp2_with fail
                go_meet
                case rel => exact ⟨HN.out, HBL.out⟩
              · have h0 := of_decide_eq_true hbb
                have HROT := hide (rot_any g cap L (p ++ A1) A2 B1 (B2 ++ r) ((P : Int) + (j : Int)) ((P : Int) + (na : Int)) (E : Int) (p ++ (A1 ++ A2) ++ (B1 ++ B2) ++ r) cmpF wr (by have := HLAB.out; omega) (by have := HLAB.out; omega)
                  (by simp only [List.length_append]; have := HLAB.out; have := HPN.out.1; omega) (by simp only [List.length_append]; have := HLAB.out; have := HPN.out.1; omega) (by simp only [List.length_append]; have := HLAB.out; have := HPN.out.1; have := HEq.out; omega) (by simp) HPT.out (by have := HLG.out; simp only [List.length_append] at this ⊢; omega) hl)
                clear hbb h0
                go_wp2_with fail
                refine HROT.out.mono ?_
                rintro e w2 ⟨rfl, hp2, hb2⟩
                have HN := hide (show PartsAt w2 g (p ++ (A1 ++ B1) ++ (A2 ++ B2) ++ r) by simpa using hp2)
                have HNB := hide (HBL.out.trans hb2)
                clear hp2 hb2
                go_wp2_with fail
                go_meet
                case rel => exact ⟨HN.out, HNB.out⟩
          case rest =>
            obtain ⟨hP1, hB1⟩ := hcut
            have HP1 := hide (And.intro hP1 hB1)
            clear hP1 hB1 hbb
            obtain ⟨w3, hw3⟩ : ∃ w3, w3 = wc := ⟨_, rfl⟩
            rw [← hw3] at HP1 ⊢
            clear hw3
            go_upto_region 41 with (fail)
            go_cut [199] (fun b wx => b = .bool (decide (0 < j ∧ j < M)) ∧ w3 = wx)
            case first =>
              as_aux_lemma =>
                by_cases h1 : 0 < j
                · by_cases h2 : j < M
                  · go_wp2_with fail
                    all_goals first
                      | (exfalso; omega)
                      | (go_meet; case rel => exact ⟨by simp [h1, h2]; try omega, rfl⟩)
                  · go_wp2_with fail
                    all_goals first
                      | (exfalso; omega)
                      | (go_meet; case rel => exact ⟨by simp [h1, h2]; try omega, rfl⟩)
                · go_wp2_with fail
                  all_goals first
                    | (exfalso; omega)
                    | (go_meet; case rel => exact ⟨by simp [h1]; try omega, rfl⟩)
            case rest =>
              obtain ⟨rfl, rfl⟩ := hcut
              go_upto_if 199 with (fail)
              obtain ⟨bb, hbb⟩ : ∃ bb, decide (0 < j ∧ j < M) = bb := ⟨_, rfl⟩
              rw [hbb]
              go_cut [] (fun wx => SyA g p A1 B1 (A2 ++ B2 ++ r) w wx)
              case first =>
                as_aux_lemma =>
                  cases bb
                  · have h0 := of_decide_eq_false hbb
                    have HN := hide (show SyA g p A1 B1 (A2 ++ B2 ++ r) w w3 from ⟨A1 ++ B1, put_self (srt_one HST.out.1.left HST.out.2.1.left (by have := HLAB.out; omega)), by simpa using HP1.out.1, HP1.out.2⟩)
                    clear hbb h0
                    go_wp2_with fail
                    go_meet
                    case rel => exact HN.out
                  · have h0 := of_decide_eq_true hbb
                    have HSY := hide (HI.out g cap L p A1 B1 (A2 ++ B2 ++ r) (P : Int) ((P : Int) + (j : Int)) ((P : Int) + (M : Int)) (p ++ (A1 ++ B1) ++ (A2 ++ B2) ++ r) w3 (by have := HLAB.out; omega) (by have := HLAB.out; omega) (by have := HLAB.out; omega)
                      HST.out.1.left HST.out.2.1.left (HST.out.2.2.sub (fun x hx => List.mem_append_left _ hx) (fun x hx => List.mem_append_left _ hx)) (by have := HPN.out.1; omega) (by have := HLAB.out; have := HPN.out.1; omega) (by have := HLAB.out; have := HPN.out.1; omega) (by simp) HP1.out.1 HLG.out hl)
                    clear hbb h0
                    go_wp2_with fail
                    refine HSY.out.mono ?_
                    rintro e w4 ⟨rfl, ⟨s1, hs1, hp4⟩, hb4⟩
                    have HN := hide (show SyA g p A1 B1 (A2 ++ B2 ++ r) w w4 from ⟨s1, hs1, hp4, HP1.out.2.trans hb4⟩)
                    clear hs1 hp4 hb4
                    go_wp2_with fail
                    go_meet
                    case rel => exact HN.out
              case rest =>
                obtain ⟨s1, hs1, hp5, hb5⟩ := hcut
                have HP5 := hide (And.intro hs1 (And.intro hp5 hb5))
                have HL5 := hide (show s1.length = M by rw [hs1.1.length_eq, List.length_append]; have := HLAB.out; omega)
                clear hs1 hp5 hb5 hbb HP1
                obtain ⟨w5, hw5⟩ : ∃ w5, w5 = wc := ⟨_, rfl⟩
                rw [← hw5] at HP5 ⊢
                clear hw5
                by_cases h1 : P + M < E ∧ E < P + na + nb
                · have HSY := hide (HI.out g cap L (p ++ s1) A2 B2 r ((P : Int) + (M : Int)) (E : Int) ((P : Int) + (na : Int) + (nb : Int)) (p ++ s1 ++ (A2 ++ B2 ++ r)) w5 (by have := HLAB.out; have := HEq.out; omega) (by have := HLAB.out; have := HEq.out; omega) (by have := HLAB.out; omega)
                    HST.out.1.right HST.out.2.1.right (HST.out.2.2.sub (fun x hx => List.mem_append_right _ hx) (fun x hx => List.mem_append_right _ hx)) (by rw [List.length_append]; have := HPN.out.1; have := HL5.out; omega) (by rw [List.length_append]; have := HLAB.out; have := HPN.out.1; have := HL5.out; have := HEq.out; omega) (by rw [List.length_append]; have := HLAB.out; have := HPN.out.1; have := HL5.out; omega) (by simp) HP5.out.2.1
                    (by have h6 := HLG.out; simp only [List.length_append] at h6 ⊢; have := HL5.out; have := HLAB.out; omega) hl)
                  obtain ⟨h2, h3⟩ := h1
                  go_wp2_with fail
                  all_goals first
                    | (exfalso; omega)
                    | skip
                  refine HSY.out.mono ?_
                  rintro e w6 ⟨rfl, ⟨s2, hs2, hp6⟩, hb6⟩
                  have HF := hide (show ∃ s', Put (A ++ B) s' ∧ PartsAt w6 g (p ++ s' ++ r) from ⟨s1 ++ s2, by rw [HA.out, HB.out]; exact HJ.out s1 s2 HP5.out.1 hs2, by simpa using hp6⟩)
                  have HFB := hide (HP5.out.2.2.trans hb6)
                  clear hs2 hp6 hb6
                  go_wp2
                  all_goals first
                    | (exfalso; omega)
                    | (go_end0; exact ⟨rfl, by first | exact HF.out | simpa only [List.append_assoc] using HF.out, HFB.out⟩)
                · have HF := hide (show ∃ s', Put (A ++ B) s' ∧ PartsAt w5 g (p ++ s' ++ r) from ⟨s1 ++ (A2 ++ B2), by
                    rw [HA.out, HB.out]
                    exact HJ.out s1 (A2 ++ B2) HP5.out.1 (put_self (srt_one HST.out.1.right HST.out.2.1.right (by have := HLAB.out; have := HEq.out; omega))), by simpa using HP5.out.2.1⟩)
                  have HFB := hide HP5.out.2.2
                  rcases (show E ≤ P + M ∨ (P + M < E ∧ P + na + nb ≤ E) by omega) with h2 | ⟨h2, h3⟩
                  all_goals
                    clear h1
                    go_wp2
                    all_goals first
                      | (exfalso; omega)
                      | (go_end0; exact ⟨rfl, by first | exact HF.out | simpa only [List.append_assoc] using HF.out, HFB.out⟩)
end Go.Proofs.YtjhhmeoibfdcmaaGreatDoor

namespace Go.Proofs.YtjhhmeoibfdcmaaGreatDoor
open Go.RowKit
set_option linter.unusedSimpArgs false
set_option linter.unusedVariables false

/-- A block of a list: the c-th of so many. -/
def Ck (b c : Nat) (l : List Pt) : List Pt := (l.drop (c * b)).take b
theorem ck_left {b c m : Nat} {l k : List Pt} (h : l.take m = k.take m) (hm : (c + 1) * b ≤ m) : Ck b c l = Ck b c k := by
  have e : ∀ x : List Pt, Ck b c x = (x.take m |>.drop (c * b)).take b := by
    intro x
    unfold Ck
    rw [List.drop_take, List.take_take]
    congr 1
    have : (c + 1) * b = c * b + b := Nat.succ_mul c b
    omega
  rw [e l, e k, h]
theorem ck_right {b c m : Nat} {l k : List Pt} (h : l.drop m = k.drop m) (hm : m ≤ c * b) : Ck b c l = Ck b c k := by
  have e : ∀ x : List Pt, Ck b c x = ((x.drop m).drop (c * b - m)).take b := by
    intro x
    unfold Ck
    rw [List.drop_drop]
    congr 2
    omega
  rw [e l, e k, h]
theorem ck_two (b i : Nat) (l : List Pt) : Ck (2 * b) i l = Ck b (2 * i) l ++ Ck b (2 * i + 1) l := by
  unfold Ck
  rw [show i * (2 * b) = 2 * i * b by rw [Nat.mul_left_comm, Nat.mul_assoc], show (2 * i + 1) * b = 2 * i * b + b from Nat.succ_mul _ _, ← List.drop_drop]
  rw [show 2 * b = b + b by omega, List.take_add]
theorem ck_nil {b c : Nat} {l : List Pt} (h : l.length ≤ c * b) : Ck b c l = [] := by
  unfold Ck
  rw [List.drop_eq_nil_of_le h, List.take_nil]
theorem ck_all {b : Nat} {l : List Pt} (h : l.length ≤ b) : Ck b 0 l = l := by
  unfold Ck
  rw [Nat.zero_mul, List.drop_zero, List.take_of_length_le h]
theorem ck_len (b c : Nat) (l : List Pt) : (Ck b c l).length = min b (l.length - c * b) := by simp [Ck]
/-- Each block from the k-th on has been put in order. -/
def Bls (b : Nat) (s D : List Pt) : Prop := ∀ c, Put (Ck b c s) (Ck b c D)
theorem put_nil : Put [] [] := ⟨List.Perm.refl _, List.Pairwise.nil⟩
/-- The blocks ahead of the i-th one are in order, the rest is as it was. -/
def InsL (b : Nat) (s D : List Pt) (i : Nat) : Prop := D.length = s.length ∧ (∀ c, c < i → Put (Ck b c s) (Ck b c D)) ∧ D.drop (i * b) = s.drop (i * b)
theorem InsL.step {b i : Nat} {s D s' : List Pt} (h : InsL b s D i) (hs : Put (Ck b i s) s') (hl : s'.length = (Ck b i s).length) : InsL b s (D.take (i * b) ++ s' ++ D.drop ((i + 1) * b)) (i + 1) := by
  obtain ⟨h1, h2, h3⟩ := h
  have hb : (i + 1) * b = i * b + b := Nat.succ_mul _ _
  have hlen : (D.take (i * b)).length = min (i * b) s.length := by rw [List.length_take, h1]
  have hsl : s'.length = min b (s.length - i * b) := by rw [hl, ck_len]
  refine ⟨by simp only [List.length_append, List.length_take, List.length_drop, h1, hsl]; omega, fun c hc => ?_, ?_⟩
  · rcases Nat.lt_or_ge c i with hlt | hge
    · have e : Ck b c (D.take (i * b) ++ s' ++ D.drop ((i + 1) * b)) = Ck b c D := by
        refine ck_left (m := i * b) ?_ (Nat.mul_le_mul_right b hlt)
        rcases Nat.le_total (i * b) s.length with hh | hh
        · rw [List.append_assoc, List.take_append_of_le_length (by rw [hlen]; omega), List.take_take, Nat.min_self]
        · have e1 : s' = [] := List.length_eq_zero_iff.1 (by omega)
          have e2 : D.drop ((i + 1) * b) = [] := List.drop_eq_nil_of_le (by omega)
          rw [e1, e2, List.append_nil, List.append_nil, List.take_take, Nat.min_self]
      rw [e]; exact h2 c hlt
    · obtain rfl : c = i := by omega
      have e : Ck b c (D.take (c * b) ++ s' ++ D.drop ((c + 1) * b)) = s' := by
        unfold Ck
        rcases Nat.le_total (c * b) s.length with hh | hh
        · rw [List.append_assoc, List.drop_append, List.drop_take, Nat.sub_self, List.take_zero, List.nil_append, hlen, show c * b - min (c * b) s.length = 0 by omega, List.drop_zero]
          rcases Nat.le_total b (s.length - c * b) with h5 | h5
          · rw [List.take_append_of_le_length (by omega), List.take_of_length_le (by omega)]
          · rw [List.drop_eq_nil_of_le (by omega), List.append_nil, List.take_of_length_le (by omega)]
        · have e1 : s' = [] := List.length_eq_zero_iff.1 (by omega)
          rw [e1, List.drop_eq_nil_of_le, List.take_nil]
          · simp only [List.length_append, List.length_take, List.length_drop, h1, List.length_nil]; omega
      rw [e]; exact hs
  · have e : (D.take (i * b) ++ s' ++ D.drop ((i + 1) * b)).drop ((i + 1) * b) = D.drop ((i + 1) * b) := by
      rcases Nat.le_total ((i + 1) * b) s.length with hh | hh
      · rw [List.drop_append, List.drop_eq_nil_of_le (by simp only [List.length_append, hlen, hsl]; omega), List.nil_append]
        rw [show (i + 1) * b - (D.take (i * b) ++ s').length = 0 by simp only [List.length_append, hlen, hsl]; omega, List.drop_zero]
      · rw [List.drop_eq_nil_of_le, List.drop_eq_nil_of_le (by omega)]
        simp only [List.length_append, List.length_take, List.length_drop, h1, hsl]; omega
    rw [e, hb, ← List.drop_drop, h3, List.drop_drop]
theorem InsL.fin {b i : Nat} {s D : List Pt} (h : InsL b s D i) (hi : s.length ≤ i * b) : Bls b s D := by
  intro c
  rcases Nat.lt_or_ge c i with hlt | hge
  · exact h.2.1 c hlt
  · have hm : i * b ≤ c * b := Nat.mul_le_mul_right b hge
    rw [ck_nil (by omega), ck_nil (by rw [h.1]; omega)]
    exact put_nil
/-- Pairs of blocks ahead of the i-th pair are one block in order; behind it the blocks are. -/
def SymL (b : Nat) (s D : List Pt) (i : Nat) : Prop := D.length = s.length ∧ (∀ c, c < i → Put (Ck (2 * b) c s) (Ck (2 * b) c D)) ∧ (∀ c, 2 * i ≤ c → Put (Ck b c s) (Ck b c D))
theorem SymL.start {b : Nat} {s D : List Pt} (hl : D.length = s.length) (h : Bls b s D) : SymL b s D 0 := ⟨hl, fun c hc => absurd hc (Nat.not_lt_zero _), fun c _ => h c⟩
/-- The lists at a pair. -/
theorem split_at (b i : Nat) (D : List Pt) : D = D.take (i * (2 * b)) ++ Ck b (2 * i) D ++ Ck b (2 * i + 1) D ++ D.drop ((i + 1) * (2 * b)) := by
  rw [List.append_assoc (D.take _), ← ck_two]
  unfold Ck
  rw [show (i + 1) * (2 * b) = i * (2 * b) + 2 * b from Nat.succ_mul _ _, ← List.drop_drop, List.append_assoc, List.take_append_drop, List.take_append_drop]
theorem SymL.step {b i : Nat} {s D s' : List Pt} (h : SymL b s D i) (hs : Put (Ck b (2 * i) D ++ Ck b (2 * i + 1) D) s') : SymL b s (D.take (i * (2 * b)) ++ s' ++ D.drop ((i + 1) * (2 * b))) (i + 1) := by
  obtain ⟨h1, h2, h3⟩ := h
  have hb : (i + 1) * (2 * b) = i * (2 * b) + 2 * b := Nat.succ_mul _ _
  have hlen : (D.take (i * (2 * b))).length = min (i * (2 * b)) s.length := by rw [List.length_take, h1]
  have hsl : s'.length = min (2 * b) (s.length - i * (2 * b)) := by rw [hs.1.length_eq, ← ck_two, ck_len, h1]
  have hP : Put (Ck (2 * b) i s) s' := by
    refine ⟨hs.1.trans ?_, hs.2⟩
    rw [ck_two]
    exact (h3 (2 * i) (by omega)).1.append (h3 (2 * i + 1) (by omega)).1
  refine ⟨by simp only [List.length_append, List.length_take, List.length_drop, h1, hsl]; omega, fun c hc => ?_, fun c hc => ?_⟩
  · rcases Nat.lt_or_ge c i with hlt | hge
    · have e : Ck (2 * b) c (D.take (i * (2 * b)) ++ s' ++ D.drop ((i + 1) * (2 * b))) = Ck (2 * b) c D := by
        refine ck_left (m := i * (2 * b)) ?_ (Nat.mul_le_mul_right _ hlt)
        rcases Nat.le_total (i * (2 * b)) s.length with hh | hh
        · rw [List.append_assoc, List.take_append_of_le_length (by rw [hlen]; omega), List.take_take, Nat.min_self]
        · have e1 : s' = [] := List.length_eq_zero_iff.1 (by omega)
          have e2 : D.drop ((i + 1) * (2 * b)) = [] := List.drop_eq_nil_of_le (by omega)
          rw [e1, e2, List.append_nil, List.append_nil, List.take_take, Nat.min_self]
      rw [e]; exact h2 c hlt
    · obtain rfl : c = i := by omega
      have e : Ck (2 * b) c (D.take (c * (2 * b)) ++ s' ++ D.drop ((c + 1) * (2 * b))) = s' := by
        unfold Ck
        rcases Nat.le_total (c * (2 * b)) s.length with hh | hh
        · rw [List.append_assoc, List.drop_append, List.drop_take, Nat.sub_self, List.take_zero, List.nil_append, hlen, show c * (2 * b) - min (c * (2 * b)) s.length = 0 by omega, List.drop_zero]
          rcases Nat.le_total (2 * b) (s.length - c * (2 * b)) with h5 | h5
          · rw [List.take_append_of_le_length (by omega), List.take_of_length_le (by omega)]
          · rw [List.drop_eq_nil_of_le (by omega), List.append_nil, List.take_of_length_le (by omega)]
        · have e1 : s' = [] := List.length_eq_zero_iff.1 (by omega)
          rw [e1, List.drop_eq_nil_of_le, List.take_nil]
          · simp only [List.length_append, List.length_take, List.length_drop, h1, List.length_nil]; omega
      rw [e]; exact hP
  · have hcb : (i + 1) * (2 * b) ≤ c * b := by
      have := Nat.mul_le_mul_right b hc
      rw [show (i + 1) * (2 * b) = 2 * (i + 1) * b by rw [Nat.mul_left_comm, Nat.mul_assoc]]
      exact this
    have e : Ck b c (D.take (i * (2 * b)) ++ s' ++ D.drop ((i + 1) * (2 * b))) = Ck b c D := by
      refine ck_right (m := (i + 1) * (2 * b)) ?_ hcb
      rcases Nat.le_total ((i + 1) * (2 * b)) s.length with hh | hh
      · rw [List.drop_append, List.drop_eq_nil_of_le (by simp only [List.length_append, hlen, hsl]; omega), List.nil_append]
        rw [show (i + 1) * (2 * b) - (D.take (i * (2 * b)) ++ s').length = 0 by simp only [List.length_append, hlen, hsl]; omega, List.drop_zero]
      · rw [List.drop_eq_nil_of_le, List.drop_eq_nil_of_le (by omega)]
        simp only [List.length_append, List.length_take, List.length_drop, h1, hsl]; omega
    rw [e]; exact h3 c (by omega)
theorem SymL.fin {b i : Nat} {s D : List Pt} (h : SymL b s D i) (hi : s.length ≤ i * (2 * b) + b) : Bls (2 * b) s D := by
  obtain ⟨h1, h2, h3⟩ := h
  intro c
  rcases Nat.lt_or_ge c i with hlt | hge
  · exact h2 c hlt
  · have hm : i * (2 * b) ≤ c * (2 * b) := Nat.mul_le_mul_right _ hge
    have e2 : (2 * c + 1) * b = c * (2 * b) + b := by rw [Nat.succ_mul]; congr 1; rw [Nat.mul_left_comm, Nat.mul_assoc]
    have z1 : Ck b (2 * c + 1) s = [] := ck_nil (by omega)
    have z2 : Ck b (2 * c + 1) D = [] := ck_nil (by omega)
    rw [ck_two, ck_two, z1, z2, List.append_nil, List.append_nil]
    exact h3 (2 * c) (by omega)
theorem Bls.fin {b : Nat} {s D : List Pt} (h : Bls b s D) (hl : D.length = s.length) (hb : s.length ≤ b) : Put s D := by
  have := h 0
  rwa [ck_all hb, ck_all (by omega)] at this
/-- What two blocks bring along. -/
theorem SymL.runs {b i : Nat} {s D : List Pt} (h : SymL b s D i) (hs : s.Pairwise fun x y => x.pos < y.pos) : Srt (Ck b (2 * i) D) ∧ Srt (Ck b (2 * i + 1) D) ∧ Ahead (Ck b (2 * i) D) (Ck b (2 * i + 1) D) := by
  obtain ⟨h1, h2, h3⟩ := h
  have a := h3 (2 * i) (by omega)
  have c := h3 (2 * i + 1) (by omega)
  refine ⟨a.2, c.2, ?_⟩
  have e : Ahead (Ck b (2 * i) s) (Ck b (2 * i + 1) s) := by
    have hp : (Ck b (2 * i) s ++ Ck b (2 * i + 1) s).Pairwise fun x y => x.pos < y.pos := by
      rw [← ck_two]
      unfold Ck
      exact hs.sublist ((List.take_sublist _ _).trans (List.drop_sublist _ _))
    exact (List.pairwise_append.1 hp).2.2
  exact e.perm a.1 c.1
/-- Parts put in order, one by one. -/
def insP (x : Pt) : List Pt → List Pt
  | [] => [x]
  | y :: l => if x.lt y then x :: y :: l else y :: insP x l
def srtP : List Pt → List Pt
  | [] => []
  | x :: l => insP x (srtP l)
theorem insP_perm (x : Pt) (l : List Pt) : (insP x l).Perm (x :: l) := by
  induction l with
  | nil => exact List.Perm.refl _
  | cons y l ih =>
    unfold insP
    split
    · exact List.Perm.refl _
    · exact (List.Perm.cons y ih).trans (List.Perm.swap x y l)
theorem srtP_perm (l : List Pt) : (srtP l).Perm l := by
  induction l with
  | nil => exact List.Perm.refl _
  | cons x l ih => exact (insP_perm x _).trans (List.Perm.cons x ih)
theorem insP_srt {x : Pt} {l : List Pt} (h : Srt l) (hd : ∀ y ∈ l, x.pos ≠ y.pos) : Srt (insP x l) := by
  induction l with
  | nil => exact List.pairwise_singleton _ _
  | cons y l ih =>
    have h1 := List.pairwise_cons.1 h
    unfold insP
    split
    · rename_i hxy
      refine List.pairwise_cons.2 ⟨fun z hz => ?_, h⟩
      rcases List.mem_cons.1 hz with rfl | hz
      · exact hxy
      · exact Pt.lt_trans hxy (h1.1 z hz)
    · rename_i hxy
      refine List.pairwise_cons.2 ⟨fun z hz => ?_, ih h1.2 (fun z hz => hd z (List.mem_cons_of_mem _ hz))⟩
      rcases List.mem_cons.1 ((insP_perm x l).mem_iff.1 hz) with rfl | hz
      · exact Pt.not_lt (hd y (by simp)) hxy
      · exact h1.1 z hz
theorem srtP_put {l : List Pt} (h : l.Pairwise fun x y => x.pos < y.pos) : Put l (srtP l) := by
  refine ⟨srtP_perm l, ?_⟩
  induction l with
  | nil => exact List.Pairwise.nil
  | cons x l ih =>
    have h1 := List.pairwise_cons.1 h
    exact insP_srt (ih h1.2) (fun y hy => by have := h1.1 y ((srtP_perm l).mem_iff.1 hy); omega)
end Go.Proofs.YtjhhmeoibfdcmaaGreatDoor

namespace Go.Proofs.YtjhhmeoibfdcmaaGreatDoor
open Go.RowKit Go.Sort
set_option linter.unusedSimpArgs false
set_option linter.unusedVariables false

theorem sym_all : ∀ N, SymC N := by
  intro N
  induction N with
  | zero =>
    intro g cap L p A B r u v z D w ha hb hN
    omega
  | succ N ih =>
    intro g cap L p A B r u v z D w ha hb hN hs ht hAB hu hv hz hDD hD hL hl
    by_cases h1 : A.length = 1
    · obtain ⟨x, rfl⟩ := List.length_eq_one_iff.1 h1
      refine (sym_one g cap L p B r x u v z D w ht (fun y hy => hAB x (by simp) y hy) hb hu (by simpa using hv) (by simpa using hz) (by simpa using hDD) hD hL hl).mono ?_
      rintro e w' ⟨h3, h4, h5⟩
      exact ⟨h3, by simpa using h4, h5⟩
    · by_cases h2 : B.length = 1
      · obtain ⟨x, rfl⟩ := List.length_eq_one_iff.1 h2
        exact sym_last g cap L p A r x u v z D w hs (fun y hy => hAB y hy x (by simp)) (by omega) hu hv (by simpa using hz) (by simpa using hDD) hD hL hl
      · exact sym_gen N ih g cap L p A B r u v z D w (by omega) (by omega) hN hs ht hAB hu hv hz hDD hD hL hl
theorem ck_split {b i : Nat} {s D : List Pt} (h : D.drop (i * b) = s.drop (i * b)) : D = D.take (i * b) ++ Ck b i s ++ D.drop ((i + 1) * b) := by
  unfold Ck
  rw [← h, show (i + 1) * b = i * b + b from Nat.succ_mul _ _, ← List.drop_drop, List.append_assoc, List.take_append_drop, List.take_append_drop]
theorem ck_incr (b i : Nat) {s : List Pt} (h : Incr s) : Incr (Ck b i s) := List.Pairwise.sublist ((List.take_sublist _ _).trans (List.drop_sublist _ _)) h
def ISt (g : Nat) (s : List Pt) (w0 w : World) (i : Nat) : Prop := ∃ D, InsL 20 s D i ∧ PartsAt w g D ∧ Only g w0 w
def BSt (g b : Nat) (s : List Pt) (w0 w : World) : Prop := ∃ D, D.length = s.length ∧ Bls b s D ∧ PartsAt w g D ∧ Only g w0 w
def SSt (g b : Nat) (s : List Pt) (w0 w : World) (i : Nat) : Prop := ∃ D, SymL b s D i ∧ PartsAt w g D ∧ Only g w0 w

set_option maxRecDepth 100000 in
set_option maxHeartbeats 6400000 in
theorem stable_any (g cap L : Nat) (s : List Pt) (w : World) (hs : Incr s) (hD : PartsAt w g s) (hL : s.length = L) (hl : L ≤ 100000) :
    Calls Tryz.prog 60 #[.slice (some ⟨g, 0, none⟩) L cap, .int .i64 L, cmpF] w fun e w' => e = .returned (.tuple #[]) ∧ (∃ s', Put s s' ∧ PartsAt w' g s') ∧ Only g w w' := by
  have H0 := hide (show ISt g s w w 0 from ⟨s, ⟨rfl, fun c hc => absurd hc (Nat.not_lt_zero _), rfl⟩, hD, Only.refl _ _⟩)
  have HL := hide hL
  have HS := hide hs
  have HSY := hide sym_all
  clear hD hL hs
  go_enter Tryz.func60, Tryz.ntmps60
  go_wp2_with fail
  go_loopw [7, 8] (fun s7 s8 wr => ∃ i a : Nat, s7 = .int .i64 (a : Int) ∧ s8 = .int .i64 ((a + 20 : Nat) : Int) ∧ Hid (a = i * 20) ∧ a ≤ L ∧ ISt g s w wr i) (fun _ s8 _ => (L + 100 - intOf s8).toNat)
  case atStart => exact ⟨0, 0, rfl, rfl, hide rfl, Nat.zero_le _, H0.out⟩
  case round =>
    obtain ⟨i, a, rfl, rfl, HA, haL, D, hI, hP, hB⟩ := hrel
    have HI := hide (And.intro hI (And.intro hP hB))
    have HDD := hide (ck_split hI.2.2)
    have HDL := hide (show D.length = L by rw [hI.1]; exact HL.out)
    have HCL := hide (show (Ck 20 i s).length = min 20 (L - a) by rw [ck_len, HL.out, HA.out])
    have HTL := hide (show (D.take (i * 20)).length = a by rw [List.length_take, HDL.out, HA.out]; have := HA.out; omega)
    have hgr := hP.lt
    clear hI hP hB
    by_cases hlt : a + 20 ≤ L
    · go_wp2_with fail
      all_goals first
        | (exfalso; omega)
        | skip
      refine (ins_any g cap L (D.take (i * 20)) (Ck 20 i s) (D.drop ((i + 1) * 20)) _ _ D _ (ck_incr 20 i HS.out) (by rw [HTL.out]) (by rw [HTL.out, HCL.out]; omega) HDD.out HI.out.2.1 HDL.out (by omega)).mono ?_
      rintro e w2 ⟨rfl, ⟨s', hs', hp2⟩, hb2⟩
      have HN := hide (show ISt g s w w2 (i + 1) from ⟨_, HI.out.1.step hs' hs'.1.length_eq, hp2, HI.out.2.2.trans hb2⟩)
      clear hs' hp2 hb2
      go_wp2
      go_roundw
      case rel => exact ⟨i + 1, a + 20, by first | rfl | (congr 1; omega), by first | rfl | (congr 1; done) | (congr 1; omega), hide (by have := HA.out; omega), hlt, HN.out⟩
      case measure => simp [intOf]; omega
    · go_wp2_with fail
      all_goals first
        | (exfalso; omega)
        | skip
      refine (ins_any g cap L (D.take (i * 20)) (Ck 20 i s) (D.drop ((i + 1) * 20)) _ _ D _ (ck_incr 20 i HS.out) (by rw [HTL.out]) (by rw [HTL.out, HCL.out]; omega) HDD.out HI.out.2.1 HDL.out (by omega)).mono ?_
      rintro e w2 ⟨rfl, ⟨s', hs', hp2⟩, hb2⟩
      have hst := HI.out.1.step hs' hs'.1.length_eq
      have HN := hide (show BSt g 20 s w w2 from ⟨_, hst.1, hst.fin (by rw [HL.out]; have := HA.out; omega), hp2, HI.out.2.2.trans hb2⟩)
      clear hs' hp2 hb2 hst
      go_wp2_with fail
      go_loopw [6] (fun s6 wr => ∃ b : Nat, s6 = .int .i64 (b : Int) ∧ 20 ≤ b ∧ b ≤ 2 * L + 20 ∧ BSt g b s w wr) (fun s6 _ => (L + 100 - intOf s6).toNat)
      case atStart => exact ⟨20, rfl, by omega, by omega, HN.out⟩
      case round =>
        obtain ⟨b, rfl, hb20, hb2L, D, hDL, hBl, hP, hB⟩ := hrel
        have HB := hide (And.intro hDL (And.intro hBl (And.intro hP hB)))
        have hgr := hP.lt
        by_cases hlt2 : b < L
        · have HN0 := hide (show SSt g b s w wr 0 from ⟨D, SymL.start hDL hBl, hP, hB⟩)
          obtain ⟨B2, hB2⟩ : ∃ n : Nat, 2 * b = n := ⟨_, rfl⟩
          have hm1 : (2 : Int) * (b : Int) = (B2 : Int) := by omega
          have hm2 : (b : Int) * 2 = (B2 : Int) := by omega
          have HB2 := hide hB2
          have hB2b : 40 ≤ B2 ∧ B2 ≤ 4 * L + 40 := by omega
          obtain ⟨hB2c, hB2d⟩ := hB2b
          clear hDL hBl hP hB hB2
          obtain ⟨wo, hwo⟩ : ∃ wo : World, wo = wr := ⟨_, rfl⟩
          rw [← hwo] at HN0 ⊢
          clear hwo
          go_wp2_with fail
          go_loopw [7, 8] (fun s7 s8 wr => ∃ i a : Nat, s7 = .int .i64 (a : Int) ∧ s8 = .int .i64 ((a + B2 : Nat) : Int) ∧ Hid (a = i * (2 * b)) ∧ a ≤ L ∧ SSt g b s w wr i) (fun _ s8 _ => (L + B2 + 100 - intOf s8).toNat)
          case atStart => exact ⟨0, 0, rfl, by first | rfl | (congr 1; omega), hide (by simp), Nat.zero_le _, HN0.out⟩
          case round =>
            obtain ⟨i, a, rfl, rfl, HAi, haL2, D2, hI, hP, hB⟩ := hrel
            have HI2 := hide (And.intro hI (And.intro hP hB))
            have HRN := hide (hI.runs HS.out)
            have HD2 := hide (split_at b i D2)
            have HD2L := hide (show D2.length = L by rw [hI.1]; exact HL.out)
            have HAL := hide (show (Ck b (2 * i) D2).length = min b (L - a) by rw [ck_len, HD2L.out, HAi.out]; congr 2; rw [Nat.mul_left_comm, Nat.mul_assoc])
            have HBL := hide (show (Ck b (2 * i + 1) D2).length = min b (L - (a + b)) by rw [ck_len, HD2L.out, HAi.out]; congr 2; rw [Nat.succ_mul]; congr 1; rw [Nat.mul_left_comm, Nat.mul_assoc])
            have HTL2 := hide (show (D2.take (i * (2 * b))).length = a by rw [List.length_take, HD2L.out, ← HAi.out]; omega)
            have hgr2 := hP.lt
            clear hI hP hB
            by_cases hlt3 : a + B2 ≤ L
            · go_wp2_with fail
              all_goals first
                | (exfalso; omega)
                | skip
              refine (HSY.out (2 * b) g cap L (D2.take (i * (2 * b))) (Ck b (2 * i) D2) (Ck b (2 * i + 1) D2) (D2.drop ((i + 1) * (2 * b))) _ _ _ D2 _ (by rw [HAL.out]; have := HB2.out; omega) (by rw [HBL.out]; have := HB2.out; omega) (by rw [HAL.out, HBL.out]; omega) HRN.out.1 HRN.out.2.1 HRN.out.2.2
                (by rw [HTL2.out]) (by rw [HTL2.out, HAL.out]; have := HB2.out; omega) (by rw [HTL2.out, HAL.out, HBL.out]; have := HB2.out; omega) HD2.out HI2.out.2.1 HD2L.out (by omega)).mono ?_
              rintro e w3 ⟨rfl, ⟨s', hs', hp3⟩, hb3⟩
              have HN3 := hide (show SSt g b s w w3 (i + 1) from ⟨_, HI2.out.1.step hs', hp3, HI2.out.2.2.trans hb3⟩)
              clear hs' hp3 hb3
              go_wp2
              go_roundw
              case rel => exact ⟨i + 1, a + B2, by first | rfl | (congr 1; omega), by first | rfl | (congr 1; done) | (congr 1; omega), hide (by have h1 := HAi.out; have h2 := HB2.out; rw [Nat.succ_mul]; omega), hlt3, HN3.out⟩
              case measure => simp [intOf]; omega
            · by_cases hlt4 : a + b < L
              · go_wp2_with fail
                all_goals first
                  | (exfalso; omega)
                  | skip
                refine (HSY.out (2 * b) g cap L (D2.take (i * (2 * b))) (Ck b (2 * i) D2) (Ck b (2 * i + 1) D2) (D2.drop ((i + 1) * (2 * b))) _ _ _ D2 _ (by rw [HAL.out]; have := HB2.out; omega) (by rw [HBL.out]; have := HB2.out; omega) (by rw [HAL.out, HBL.out]; omega) HRN.out.1 HRN.out.2.1 HRN.out.2.2
                  (by rw [HTL2.out]) (by rw [HTL2.out, HAL.out]; have := HB2.out; omega) (by rw [HTL2.out, HAL.out, HBL.out]; have := HB2.out; omega) HD2.out HI2.out.2.1 HD2L.out (by omega)).mono ?_
                rintro e w3 ⟨rfl, ⟨s', hs', hp3⟩, hb3⟩
                have hst := HI2.out.1.step hs'
                have HN3 := hide (show BSt g B2 s w w3 from ⟨_, hst.1, by rw [← HB2.out]; exact hst.fin (by rw [HL.out, Nat.succ_mul]; have := HAi.out; have := HB2.out; omega), hp3, HI2.out.2.2.trans hb3⟩)
                clear hs' hp3 hb3 hst
                go_wp2
                go_roundw
                case rel => exact ⟨B2, by first | rfl | (congr 1; omega), by omega, by have := HB2.out; omega, HN3.out⟩
                case measure => have := HB2.out; simp [intOf]; omega
              · have HN3 := hide (show BSt g B2 s w wr from ⟨_, HI2.out.1.1, by rw [← HB2.out]; exact HI2.out.1.fin (by rw [HL.out, ← HAi.out]; omega), HI2.out.2.1, HI2.out.2.2⟩)
                go_wp2
                all_goals first
                  | (exfalso; omega)
                  | skip
                go_roundw
                case rel => exact ⟨B2, by first | rfl | (congr 1; omega), by omega, by have := HB2.out; omega, HN3.out⟩
                case measure => have := HB2.out; simp [intOf]; omega
        · have HF := hide (show ∃ s', Put s s' ∧ PartsAt wr g s' from ⟨D, hBl.fin hDL (by rw [HL.out]; omega), hP⟩)
          have HFB := hide hB
          clear hDL hBl hP hB
          go_wp2
          all_goals first
            | (exfalso; omega)
            | (go_end0; exact ⟨rfl, HF.out, HFB.out⟩)
set_option maxHeartbeats 1600000 in
theorem sort_any (g cap L : Nat) (s : List Pt) (w : World) (hs : Incr s) (hD : PartsAt w g s) (hL : s.length = L) (hl : L ≤ 100000) :
    Calls Tryz.prog 42 #[.slice (some ⟨g, 0, none⟩) L cap, cmpF] w fun e w' => e = .returned (.tuple #[]) ∧ PartsAt w' g (srtP s) ∧ Only g w w' := by
  have HC := hide (fun w hD => stable_any g cap L s w hs hD hL hl)
  have HU := hide (fun s' (h : Put s s') => Put.uniq h (srtP_put hs))
  have HD := hide hD
  clear hs hD hL
  go_enter Tryz.func42, Tryz.ntmps42
  go_wp2_with fail
  refine (HC.out _ HD.out).mono ?_
  rintro e w1 ⟨rfl, ⟨s', hs', hp⟩, hb⟩
  have HF := hide (show PartsAt w1 g (srtP s) by rw [← HU.out s' hs']; exact hp)
  have HB := hide hb
  clear hs' hp hb
  go_wp2
  go_end0
  exact ⟨rfl, HF.out, HB.out⟩
end Go.Proofs.YtjhhmeoibfdcmaaGreatDoor
