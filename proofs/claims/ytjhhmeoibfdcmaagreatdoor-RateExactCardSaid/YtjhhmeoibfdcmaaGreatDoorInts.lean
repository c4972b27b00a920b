/- A list of numbers that lies in a block of its own. -/
import Derived.Test.YtjhhmeoibfdcmaaGreatDoorBase
namespace Go.Proofs.YtjhhmeoibfdcmaaGreatDoor
open Go.RowKit
set_option linter.unusedSimpArgs false
set_option linter.unusedVariables false

def IntsAt (w : World) (g : Nat) (xs : List Int) : Prop := w.heap[g]? = some (.cells (xs.map (Value.int .i64)).toArray 3 (0, 0))
theorem IntsAt.lt {w : World} {g : Nat} {xs : List Int} (h : IntsAt w g xs) : g < w.heap.size := (Array.getElem?_eq_some_iff.1 h).1
theorem IntsAt.cell {w : World} {g : Nat} {xs : List Int} (h : IntsAt w g xs) {k : Nat} (hk : k < xs.length) : w.cell? ⟨g, k, none⟩ = some (.int .i64 (xs[k]?.getD 0)) := by
  rw [cell_of_row w g k _ _ _ h]
  simp [hk]
theorem IntsAt.frozen {w : World} {g : Nat} {xs : List Int} (h : IntsAt w g xs) (k : Nat) : w.frozen? ⟨g, k, none⟩ = false := by
  unfold IntsAt at h
  simp [World.frozen?, h]
theorem IntsAt.below {w w' : World} {K g : Nat} {xs : List Int} (h : IntsAt w g xs) (hb : Below K w w') (hg : g < K) : IntsAt w' g xs := (hb.block g hg).trans h
theorem IntsAt.call {w w' : World} {g : Nat} {xs : List Int} (h : IntsAt w g xs) (hb : Below w.heap.size w w') : IntsAt w' g xs := h.below hb h.lt
theorem IntsAt.alloc {w : World} {g : Nat} {xs : List Int} (h : IntsAt w g xs) (o : Obj) : IntsAt (w.alloc o) g xs := (Below.heap_alloc w o g h.lt).trans h
theorem IntsAt.far {w : World} {g : Nat} {xs : List Int} (h : IntsAt w g xs) {p : Addr} (hp : g ≠ p.block) (u : Value) : IntsAt (w.setCell p u) g xs := (Below.heap_setCell w p u g hp).trans h
theorem IntsAt.set {w : World} {g : Nat} {xs : List Int} (h : IntsAt w g xs) (k : Nat) (v : Int) : IntsAt (w.setCell ⟨g, k, none⟩ (.int .i64 v)) g (xs.set k v) := by
  unfold IntsAt at h ⊢
  simp [World.setCell, Array.getElem?_modify, h, List.map_set]
/-- A new row of zeros. -/
def zeroObj (n : Nat) : Obj := .cells (List.replicate n (Value.int .i64 0)).toArray 3
theorem IntsAt.new (w : World) (n : Nat) : IntsAt (w.alloc (zeroObj n)) w.heap.size (List.replicate n 0) := by
  unfold IntsAt zeroObj
  rw [heap_alloc_new]
  simp
theorem make_ints (n : Nat) (hn : n ≤ 100000) (w : World) : (Instr.makeSlice 65 (.int .i64 (n : Int)) (.int .i64 (n : Int))).run Tryz.prog w = .ok (.slice (some ⟨w.heap.size, 0, none⟩) n n) (w.alloc (zeroObj n)) := by
  have hI : (Tryz.prog.info? 3).map (fun i => (i.zero, i.size, i.bytes)) = some (some (.int .i64 0), 1, 8) := by kernel_rfl
  obtain ⟨i0, hi, hz0, hz1, hz2⟩ := info_parts hI
  have hr := run_make (P := Tryz.prog) w 65 3 i0 (.int .i64 0) Tryz.underlying65 hi hz0 .i64 .i64 n n (by omega) (by omega) (by rw [hz2]; omega) (by omega)
  rw [hr, hz1]
  have e : madeCells (Value.int .i64 0).cells (((n : Int)).toNat * 1) = (List.replicate n (Value.int .i64 0)).toArray := by
    apply Array.ext
    · simp [madeCells]
    · intro i h1 h2
      simp [madeCells, Value.cells, Nat.mod_one]
  rw [e]
  simp [zeroObj]
theorem make_12 (w : World) : (Instr.makeSlice 65 (.int .i64 12) (.int .i64 12)).run Tryz.prog w = .ok (.slice (some ⟨w.heap.size, 0, none⟩) 12 12) (w.alloc (zeroObj 12)) := make_ints 12 (by omega) w
/-- k of n numbers are there. -/
def upTo (n k : Nat) (f : Nat → Int) : List Int := (List.range n).map fun i => if i < k then f i else 0
theorem upTo_len (n k : Nat) (f : Nat → Int) : (upTo n k f).length = n := by simp [upTo]
theorem upTo_zero (n : Nat) (f : Nat → Int) : upTo n 0 f = List.replicate n 0 := by
  apply List.ext_getElem
  · simp [upTo]
  · intro i h1 h2; simp [upTo]
theorem upTo_set (n k : Nat) (f : Nat → Int) : (upTo n k f).set k (f k) = upTo n (k + 1) f := by
  apply List.ext_getElem
  · simp [upTo]
  · intro i h1 h2
    simp [upTo, List.getElem_set]
    by_cases h : k = i
    · subst h; simp
    · rw [if_neg h]
      by_cases h3 : i < k
      · rw [if_pos h3, if_pos (by omega)]
      · rw [if_neg h3, if_neg (by omega)]
theorem upTo_full (n : Nat) (f : Nat → Int) : upTo n n f = (List.range n).map f := by
  unfold upTo
  apply List.map_congr_left
  intro i hi
  rw [if_pos (by simpa using hi)]
theorem upTo_get (n k i : Nat) (f : Nat → Int) (hi : i < k) (hn : i < n) : (upTo n k f)[i]?.getD 0 = f i := by
  simp [upTo, hn, hi]
end Go.Proofs.YtjhhmeoibfdcmaaGreatDoor
