/- The sort of the parts: rows exchanged. -/
import Derived.Test.YtamnccechaooaaaGreatSortP
namespace Go.Proofs.YtamnccechaooaaaGreat
open Go.RowKit
set_option linter.unusedSimpArgs false
set_option linter.unusedVariables false

/-- Block g alone may have turned; there may be new blocks. -/
structure Only (g : Nat) (w w' : World) : Prop where
  os : w'.os = w.os
  tape : w'.tape = w.tape
  output : w'.output = w.output
  size : w.heap.size ≤ w'.heap.size
  block : ∀ k, k < w.heap.size → k ≠ g → w'.heap[k]? = w.heap[k]?
theorem Only.refl (g : Nat) (w : World) : Only g w w := ⟨rfl, rfl, rfl, Nat.le_refl _, fun _ _ _ => rfl⟩
theorem Only.trans {g : Nat} {a b c : World} (h : Only g a b) (k : Only g b c) : Only g a c :=
  ⟨k.os.trans h.os, k.tape.trans h.tape, k.output.trans h.output, Nat.le_trans h.size k.size, fun i hi hg => (k.block i (Nat.lt_of_lt_of_le hi h.size) hg).trans (h.block i hi hg)⟩
theorem Only.drew {g : Nat} {a w : World} (h : Only g a w) : Only g a w.drew := ⟨h.os, h.tape, h.output, h.size, h.block⟩
theorem Only.of {K : Nat} {a w : World} (h : Below K a w) (g : Nat) (hK : a.heap.size ≤ K := by exact Nat.le_refl _) : Only g a w := ⟨h.os, h.tape, h.output, h.size, fun k hk _ => h.block k (Nat.lt_of_lt_of_le hk hK)⟩
theorem only_drewN {g : Nat} {a w : World} (h : Only g a w) (n : Nat) : Only g a (w.drewN n) := h.trans (Only.of (below_drewN (Below.refl w.heap.size w) n) g)
theorem Only.setCell {g : Nat} {a w : World} (h : Only g a w) {o : Nat} {b} (hp : g ≤ g) (u : Value) : Only g a (w.setCell ⟨g, o, b⟩ u) :=
  h.trans ⟨rfl, rfl, rfl, by simp [World.setCell], fun k _ hg => Below.heap_setCell _ _ _ _ hg⟩
theorem Only.below {g K : Nat} {a w : World} (h : Only g a w) (hK : K ≤ g) (ha : K ≤ a.heap.size) : Below K a w := ⟨h.os, h.tape, h.output, h.size, fun k hk => h.block k (Nat.lt_of_lt_of_le hk ha) (by omega)⟩
def ptC (p : Pt) : List Value := [.int .i64 p.pos, .int .i64 p.ab]
/-- Parts that lie in a block. -/
def PartsAt (w : World) (g : Nat) (D : List Pt) : Prop := w.heap[g]? = some (.cells (D.flatMap ptC).toArray 158 (0, 0))
theorem PartsAt.lt {w : World} {g : Nat} {D : List Pt} (h : PartsAt w g D) : g < w.heap.size := (Array.getElem?_eq_some_iff.1 h).1
theorem pt_get (D : List Pt) (i : Nat) (p : Pt) (h : D[i]? = some p) : (D.flatMap ptC)[i * 2]? = some (.int .i64 p.pos) ∧ (D.flatMap ptC)[i * 2 + 1]? = some (.int .i64 p.ab) := by
  induction D generalizing i with
  | nil => simp at h
  | cons x l ih =>
    cases i with
    | zero => simp at h; subst h; simp [ptC]
    | succ i =>
      have := ih i (by simpa using h)
      rw [show (i + 1) * 2 = i * 2 + 1 + 1 by omega]
      simpa [ptC] using this
theorem pt_set (D : List Pt) (i : Nat) (p : Pt) (h : i < D.length) : ((D.flatMap ptC).set (i * 2) (.int .i64 p.pos)).set (i * 2 + 1) (.int .i64 p.ab) = (D.set i p).flatMap ptC := by
  induction D generalizing i with
  | nil => simp at h
  | cons x l ih =>
    cases i with
    | zero => simp [ptC]
    | succ i =>
      have := ih i (by simpa using h)
      rw [show (i + 1) * 2 = i * 2 + 1 + 1 by omega]
      simpa [ptC] using this
theorem PartsAt.cell {w : World} {g : Nat} {D : List Pt} (h : PartsAt w g D) {i : Nat} {p : Pt} (hi : D[i]? = some p) : w.cell? ⟨g, i * 2, none⟩ = some (.int .i64 p.pos) ∧ w.cell? ⟨g, i * 2 + 1, none⟩ = some (.int .i64 p.ab) := by
  have := pt_get D i p hi
  simp [World.cell?, show w.heap[g]? = _ from h, this]
theorem PartsAt.frozen {w : World} {g : Nat} {D : List Pt} (h : PartsAt w g D) (k : Nat) : w.frozen? ⟨g, k, none⟩ = false := by simp [World.frozen?, show w.heap[g]? = _ from h]
theorem PartsAt.below {w w' : World} {K g : Nat} {D : List Pt} (h : PartsAt w g D) (hb : Below K w w') (hg : g < K) : PartsAt w' g D := (hb.block g hg).trans h
theorem PartsAt.call {w w' : World} {g : Nat} {D : List Pt} (h : PartsAt w g D) (hb : Below w.heap.size w w') : PartsAt w' g D := h.below hb h.lt
theorem PartsAt.drew {w : World} {g : Nat} {D : List Pt} (h : PartsAt w g D) : PartsAt w.drew g D := h
theorem PartsAt.put {w : World} {g : Nat} {D : List Pt} (h : PartsAt w g D) (i : Nat) (p : Pt) (hi : i < D.length) : PartsAt ((w.setCell ⟨g, i * 2, none⟩ (.int .i64 p.pos)).setCell ⟨g, i * 2 + 1, none⟩ (.int .i64 p.ab)) g (D.set i p) := by
  unfold PartsAt at h ⊢
  rw [← pt_set D i p hi]
  simp [World.setCell, Array.getElem?_modify, h]

set_option maxRecDepth 100000 in
set_option maxHeartbeats 3200000 in
theorem swr_any (g cap L : Nat) (p a m b r : List Pt) (n : Nat) (fv : Value) (w : World) (ha : a.length = n) (hb : b.length = n) (hD : PartsAt w g (p ++ a ++ m ++ b ++ r)) (hL : (p ++ a ++ m ++ b ++ r).length = L) (hl : L ≤ 1000000) :
    Calls Tryz.prog 165 #[.slice (some ⟨g, 0, none⟩) L cap, .int .i64 (p.length : Int), .int .i64 ((p.length + n + m.length : Nat) : Int), .int .i64 (n : Int), fv] w fun e w' => e = .returned (.tuple #[]) ∧ PartsAt w' g (p ++ b ++ m ++ a ++ r) ∧ Only g w w' := by
  have HST := hide (fun i (hi : i < n) => swR_step p a m b r n i ha hb hi)
  have HFU := hide (swR_full p a m b r n ha hb)
  have HAB := hide (And.intro ha hb)
  have hLL : p.length + n + m.length + n + r.length = L := by rw [← hL]; simp; omega
  have HLN := hide (fun i => (show i ≤ n → (swR p a m b r i).length = L from fun hi => by rw [← hL]; simp [swR]; omega))
  have HG := hide (fun i (hi : i < n) => (show (swR p a m b r i)[p.length + i]? = some (a[i]?.getD default) ∧ (swR p a m b r i)[p.length + n + m.length + i]? = some (b[i]?.getD default) from by
    have ea : a[i]? = some a[i] := List.getElem?_eq_getElem (by omega)
    have eb : b[i]? = some b[i] := List.getElem?_eq_getElem (by omega)
    have e1 : a.drop i = a[i] :: a.drop (i + 1) := List.drop_eq_getElem_cons (by omega)
    have e2 : b.drop i = b[i] :: b.drop (i + 1) := List.drop_eq_getElem_cons (by omega)
    have s1 : swR p a m b r i = (p ++ b.take i) ++ a[i] :: (a.drop (i + 1) ++ m ++ a.take i ++ b[i] :: (b.drop (i + 1) ++ r)) := by
      unfold swR; rw [e1, e2]; simp only [List.append_assoc, List.cons_append]
    have s2 : swR p a m b r i = (p ++ b.take i ++ a.drop i ++ m ++ a.take i) ++ b[i] :: (b.drop (i + 1) ++ r) := by
      unfold swR; rw [e2]; simp only [List.append_assoc, List.cons_append]
    constructor
    · rw [s1, List.getElem?_append_right (by simp; omega), ea]
      have : p.length + i - (p ++ b.take i).length = 0 := by simp; omega
      rw [this]; simp
    · rw [s2, List.getElem?_append_right (by simp; omega), eb]
      have : p.length + n + m.length + i - (p ++ b.take i ++ a.drop i ++ m ++ a.take i).length = 0 := by simp; omega
      rw [this]; simp))
  have H0 := hide (show PartsAt w g (swR p a m b r 0) by rw [swR_zero]; exact hD)
  have hg0 := hD.lt
  obtain ⟨A, hA⟩ : ∃ A, p.length = A := ⟨_, rfl⟩
  rw [hA] at hLL HST HG
  rw [hA]
  obtain ⟨B, hB⟩ : ∃ B, A + n + m.length = B := ⟨_, rfl⟩
  rw [hB] at HST HG ⊢
  have hBL : B + n ≤ L := by omega
  have hAL : A + n ≤ B := by omega
  clear hD hL ha hb hA hB hLL
  go_enter Tryz.func165, Tryz.ntmps165
  go_wp2_with fail
  go_loopw [10] (fun s wr => ∃ i : Nat, s = .int .i64 i ∧ i ≤ n ∧ PartsAt wr g (swR p a m b r i) ∧ Only g w wr) (fun s _ => (n - intOf s).toNat)
  case atStart => exact ⟨0, rfl, Nat.zero_le _, H0.out, Only.refl _ _⟩
  case round =>
    obtain ⟨i, rfl, hi, hP, hB⟩ := hrel
    by_cases hlt : i < n
    · obtain ⟨e1, e2⟩ := HG.out i hlt
      obtain ⟨x, hx⟩ : ∃ x, a[i]?.getD default = x := ⟨_, rfl⟩
      obtain ⟨y, hy⟩ : ∃ y, b[i]?.getD default = y := ⟨_, rfl⟩
      rw [hx] at e1
      rw [hy] at e2
      obtain ⟨c1, c2⟩ := hP.cell e1
      obtain ⟨c3, c4⟩ := hP.cell e2
      have f1 := hP.frozen ((A + i) * 2)
      have f2 := hP.frozen ((A + i) * 2 + 1)
      have f3 := hP.frozen ((B + i) * 2)
      have f4 := hP.frozen ((B + i) * 2 + 1)
      have hgr := hP.lt
      have HP := hide hP
      have HB := hide hB
      have HE := hide (And.intro e1 e2)
      have s1 : (0 : Int) ≤ (A : Int) + (i : Int) := by omega
      have s2 : ((A : Int) + (i : Int)).toNat = A + i := by omega
      have s3 : (A : Int) + (i : Int) < (L : Int) := by omega
      have s4 : (0 : Int) ≤ (B : Int) + (i : Int) := by omega
      have s5 : ((B : Int) + (i : Int)).toNat = B + i := by omega
      have s6 : (B : Int) + (i : Int) < (L : Int) := by omega
      have s7 : IntKind.i64.wrap ((A : Int) + (i : Int)) = (A : Int) + (i : Int) := by simp [IntKind.wrap, IntKind.bits, IntKind.signed]; omega
      have s8 : IntKind.i64.wrap ((B : Int) + (i : Int)) = (B : Int) + (i : Int) := by simp [IntKind.wrap, IntKind.bits, IntKind.signed]; omega
      clear hP hB e1 e2
      have HN := hide (show PartsAt ((((wr.setCell ⟨g, (A + i) * 2, none⟩ (.int .i64 y.pos)).setCell ⟨g, (A + i) * 2 + 1, none⟩ (.int .i64 y.ab)).setCell ⟨g, (B + i) * 2, none⟩ (.int .i64 x.pos)).setCell ⟨g, (B + i) * 2 + 1, none⟩ (.int .i64 x.ab)).drew g (swR p a m b r (i + 1)) from by
        have hlen := HLN.out i hi
        have h := ((HP.out.put (A + i) y (by omega)).put (B + i) x (by simp; omega)).drew
        have e := HST.out i hlt
        unfold swapL at e
        rw [HE.out.1, HE.out.2] at e
        simp only [Option.getD_some] at e
        rw [e] at h
        exact h)
      have HBN := hide (show Only g w ((((wr.setCell ⟨g, (A + i) * 2, none⟩ (.int .i64 y.pos)).setCell ⟨g, (A + i) * 2 + 1, none⟩ (.int .i64 y.ab)).setCell ⟨g, (B + i) * 2, none⟩ (.int .i64 x.pos)).setCell ⟨g, (B + i) * 2 + 1, none⟩ (.int .i64 x.ab)).drew from ((((HB.out.setCell (Nat.le_refl _) _).setCell (Nat.le_refl _) _).setCell (Nat.le_refl _) _).setCell (Nat.le_refl _) _).drew)
      go_wp2_with fail
      go_region
      all_goals
        go_simp
        go_wp2
        go_roundw
        case rel => exact ⟨i + 1, by go_num, by omega, HN.out, HBN.out⟩
        case measure => simp [intOf]; omega
    · obtain rfl : i = n := by omega
      have HP := hide (show PartsAt wr g (p ++ b ++ m ++ a ++ r) by rw [← HFU.out]; exact hP)
      have HB := hide hB
      clear hP hB
      go_wp2
      all_goals first
        | (exfalso; omega)
        | (go_end0; exact ⟨rfl, HP.out, HB.out⟩)
end Go.Proofs.YtamnccechaooaaaGreat
