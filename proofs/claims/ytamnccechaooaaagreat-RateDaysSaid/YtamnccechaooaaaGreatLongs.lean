/- Rows of int64 that are made at once. -/
import Derived.Test.YtamnccechaooaaaGreatNums
import Derived.Test.YtamnccechaooaaaGreatInts
namespace Go.Proofs.YtamnccechaooaaaGreat
open Go.RowKit
set_option linter.unusedSimpArgs false
set_option linter.unusedVariables false

def LongsAt (w : World) (g : Nat) (xs : List Int) : Prop := w.heap[g]? = some (.cells (intsC xs).toArray 2 (0, 0))
theorem LongsAt.lt {w : World} {g : Nat} {xs : List Int} (h : LongsAt w g xs) : g < w.heap.size := (Array.getElem?_eq_some_iff.1 h).1
theorem LongsAt.cell {w : World} {g : Nat} {xs : List Int} (h : LongsAt w g xs) {k : Nat} {x : Int} (hk : xs[k]? = some x) : w.cell? ⟨g, k, none⟩ = some (.int .i64 x) := by
  rw [cell_of_row w g k _ _ _ h]
  simp [intsC, hk]
theorem LongsAt.frozen {w : World} {g : Nat} {xs : List Int} (h : LongsAt w g xs) (k : Nat) : w.frozen? ⟨g, k, none⟩ = false := by
  unfold LongsAt at h
  simp [World.frozen?, h]
theorem LongsAt.below {w w' : World} {K g : Nat} {xs : List Int} (h : LongsAt w g xs) (hb : Below K w w') (hg : g < K) : LongsAt w' g xs := (hb.block g hg).trans h
theorem LongsAt.call {w w' : World} {g : Nat} {xs : List Int} (h : LongsAt w g xs) (hb : Below w.heap.size w w') : LongsAt w' g xs := h.below hb h.lt
theorem LongsAt.far {w : World} {g : Nat} {xs : List Int} (h : LongsAt w g xs) {p : Addr} (hp : g ≠ p.block) (u : Value) : LongsAt (w.setCell p u) g xs := (Below.heap_setCell w p u g hp).trans h
theorem LongsAt.set {w : World} {g : Nat} {xs : List Int} (h : LongsAt w g xs) (k : Nat) (v : Int) : LongsAt (w.setCell ⟨g, k, none⟩ (.int .i64 v)) g (xs.set k v) := by
  unfold LongsAt at h ⊢
  simp [World.setCell, Array.getElem?_modify, h, intsC, List.map_set]
theorem LongsAt.numsN {w : World} {g cap : Nat} {xs : List Int} (h : LongsAt w g xs) (h0 : xs ≠ []) : NumsN w (.slice (some ⟨g, 0, none⟩) xs.length cap) xs := .inr ⟨g, cap, h0, rfl, h.lt, fun i x hx => h.cell hx⟩
theorem LongsAt.nums {w : World} {g cap : Nat} {xs : List Int} (h : LongsAt w g xs) : Nums w (.slice (some ⟨g, 0, none⟩) xs.length cap) xs := ⟨_, _, rfl, fun i x hx => ⟨g, 0, rfl, h.lt, by rw [Nat.zero_add]; exact h.cell hx⟩⟩
/-- A new row of zeros. -/
def zeroObj64 (n : Nat) : Obj := .cells (List.replicate n (Value.int .i64 0)).toArray 2
theorem LongsAt.new (w : World) (n : Nat) : LongsAt (w.alloc (zeroObj64 n)) w.heap.size (List.replicate n 0) := by
  unfold LongsAt zeroObj64
  rw [heap_alloc_new]
  simp [intsC]
theorem make_longs (n : Nat) (hn : n ≤ 100000) (w : World) : (Instr.makeSlice 45 (.int .i64 (n : Int)) (.int .i64 (n : Int))).run Tryz.prog w = .ok (.slice (some ⟨w.heap.size, 0, none⟩) n n) (w.alloc (zeroObj64 n)) := by
  obtain ⟨i0, hi, hz0, hz1, hz2⟩ := info_parts i64_info
  have hr := run_make (P := Tryz.prog) w 45 2 i0 (.int .i64 0) Tryz.underlying45 hi hz0 .i64 .i64 n n (by omega) (by omega) (by rw [hz2]; omega) (by omega)
  rw [hr, hz1]
  have e : madeCells (Value.int .i64 0).cells (((n : Int)).toNat * 1) = (List.replicate n (Value.int .i64 0)).toArray := by
    apply Array.ext
    · simp [madeCells]
    · intro i h1 h2
      simp [madeCells, Value.cells, Nat.mod_one]
  rw [e]
  simp [zeroObj64]
end Go.Proofs.YtamnccechaooaaaGreat
