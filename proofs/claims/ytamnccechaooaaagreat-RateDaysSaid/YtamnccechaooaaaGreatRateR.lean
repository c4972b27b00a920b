/- Package rate: rows of pieces, and of shares. -/
import Derived.Test.YtamnccechaooaaaGreatRateQ
import Derived.Test.YtamnccechaooaaaGreatLongs
namespace Go.Proofs.YtamnccechaooaaaGreat
open Go.RowKit Qd
set_option linter.unusedSimpArgs false
set_option linter.unusedVariables false

def pcC (x : Un × Sp) : List Value := [.int .i64 x.1.lv, .int .i64 x.1.yr, .int .i64 x.1.ix, .int .i64 x.2.a, .int .i64 x.2.b]
/-- Pieces that lie in a block. -/
def PcsAt (w : World) (g : Nat) (D : List (Un × Sp)) : Prop := w.heap[g]? = some (.cells (D.flatMap pcC).toArray 112 (0, 0))
theorem PcsAt.lt {w : World} {g : Nat} {D : List (Un × Sp)} (h : PcsAt w g D) : g < w.heap.size := (Array.getElem?_eq_some_iff.1 h).1
theorem pc_get (D : List (Un × Sp)) (i : Nat) (x : Un × Sp) (h : D[i]? = some x) : (D.flatMap pcC)[i * 5]? = some (.int .i64 x.1.lv) ∧ (D.flatMap pcC)[i * 5 + 1]? = some (.int .i64 x.1.yr) ∧ (D.flatMap pcC)[i * 5 + 2]? = some (.int .i64 x.1.ix) ∧ (D.flatMap pcC)[i * 5 + 3]? = some (.int .i64 x.2.a) ∧ (D.flatMap pcC)[i * 5 + 4]? = some (.int .i64 x.2.b) := by
  induction D generalizing i with
  | nil => simp at h
  | cons y l ih =>
    cases i with
    | zero => simp at h; subst h; simp [pcC]
    | succ i =>
      have := ih i (by simpa using h)
      rw [show (i + 1) * 5 = i * 5 + 1 + 1 + 1 + 1 + 1 by omega]
      simpa [pcC] using this
theorem pc_set (D : List (Un × Sp)) (i : Nat) (x : Un × Sp) (h : i < D.length) : (((((D.flatMap pcC).set (i * 5) (.int .i64 x.1.lv)).set (i * 5 + 1) (.int .i64 x.1.yr)).set (i * 5 + 2) (.int .i64 x.1.ix)).set (i * 5 + 3) (.int .i64 x.2.a)).set (i * 5 + 4) (.int .i64 x.2.b) = (D.set i x).flatMap pcC := by
  induction D generalizing i with
  | nil => simp at h
  | cons y l ih =>
    cases i with
    | zero => simp [pcC]
    | succ i =>
      have := ih i (by simpa using h)
      rw [show (i + 1) * 5 = i * 5 + 1 + 1 + 1 + 1 + 1 by omega]
      simpa [pcC] using this
theorem PcsAt.cell {w : World} {g : Nat} {D : List (Un × Sp)} (h : PcsAt w g D) {i : Nat} {x : Un × Sp} (hi : D[i]? = some x) : w.cell? ⟨g, i * 5, none⟩ = some (.int .i64 x.1.lv) ∧ w.cell? ⟨g, i * 5 + 1, none⟩ = some (.int .i64 x.1.yr) ∧ w.cell? ⟨g, i * 5 + 2, none⟩ = some (.int .i64 x.1.ix) ∧ w.cell? ⟨g, i * 5 + 3, none⟩ = some (.int .i64 x.2.a) ∧ w.cell? ⟨g, i * 5 + 4, none⟩ = some (.int .i64 x.2.b) := by
  have := pc_get D i x hi
  simp [World.cell?, show w.heap[g]? = _ from h, this]
theorem PcsAt.frozen {w : World} {g : Nat} {D : List (Un × Sp)} (h : PcsAt w g D) (k : Nat) : w.frozen? ⟨g, k, none⟩ = false := by simp [World.frozen?, show w.heap[g]? = _ from h]
theorem PcsAt.below {w w' : World} {K g : Nat} {D : List (Un × Sp)} (h : PcsAt w g D) (hb : Below K w w') (hg : g < K) : PcsAt w' g D := (hb.block g hg).trans h
theorem PcsAt.call {w w' : World} {g : Nat} {D : List (Un × Sp)} (h : PcsAt w g D) (hb : Below w.heap.size w w') : PcsAt w' g D := h.below hb h.lt
theorem PcsAt.far {D : List (Un × Sp)} {g : Nat} {w : World} (h : PcsAt w g D) {p : Addr} (hp : g ≠ p.block) (u : Value) : PcsAt (w.setCell p u) g D := (Below.heap_setCell w p u g hp).trans h
def pcPut (w : World) (g i : Nat) (x : Un × Sp) : World := ((((w.setCell ⟨g, i * 5, none⟩ (.int .i64 x.1.lv)).setCell ⟨g, i * 5 + 1, none⟩ (.int .i64 x.1.yr)).setCell ⟨g, i * 5 + 2, none⟩ (.int .i64 x.1.ix)).setCell ⟨g, i * 5 + 3, none⟩ (.int .i64 x.2.a)).setCell ⟨g, i * 5 + 4, none⟩ (.int .i64 x.2.b)
theorem PcsAt.put {w : World} {g : Nat} {D : List (Un × Sp)} (h : PcsAt w g D) (i : Nat) (x : Un × Sp) (hi : i < D.length) : PcsAt (pcPut w g i x) g (D.set i x) := by
  unfold PcsAt pcPut at *
  rw [← pc_set D i x hi]
  simp [World.setCell, Array.getElem?_modify, h]
theorem pcPut_far {w : World} {g i b : Nat} {x : Un × Sp} (hb : b ≠ g) : (pcPut w g i x).heap[b]? = w.heap[b]? := by
  unfold pcPut
  simp only [Below.heap_setCell _ _ _ _ (show b ≠ (⟨g, _, none⟩ : Addr).block from hb)]
theorem pcPut_below {w0 w : World} {K g i : Nat} {x : Un × Sp} (h : Below K w0 w) (hg : K ≤ g) : Below K w0 (pcPut w g i x) := (((((h.setCell hg _).setCell hg _).setCell hg _).setCell hg _).setCell hg _)
theorem pcPut_size {w : World} {g i : Nat} {x : Un × Sp} : (pcPut w g i x).heap.size = w.heap.size := by simp [pcPut]
theorem pc_info : (Tryz.prog.info? 112).map (fun i => (i.zero, i.size, i.bytes)) = some (some (.agg #[.int .i64 0, .int .i64 0, .int .i64 0, .int .i64 0, .int .i64 0]), 5, 40) := by kernel_rfl
abbrev pcZ : Un × Sp := (⟨0, 0, 0⟩, ⟨0, 0⟩)
theorem pc_flat (n : Nat) : (List.replicate n pcZ).flatMap pcC = List.replicate (n * 5) (Value.int .i64 0) := by
  induction n with
  | zero => rfl
  | succ n ih =>
    rw [List.replicate_succ, List.flatMap_cons, ih, show (n + 1) * 5 = n * 5 + 1 + 1 + 1 + 1 + 1 by omega, List.replicate_succ, List.replicate_succ, List.replicate_succ, List.replicate_succ, List.replicate_succ]
    rfl
def pcObj (n : Nat) : Obj := .cells ((List.replicate n pcZ).flatMap pcC).toArray 112
theorem PcsAt.new (w : World) (n : Nat) : PcsAt (w.alloc (pcObj n)) w.heap.size (List.replicate n pcZ) := by
  unfold PcsAt pcObj
  rw [heap_alloc_new]
theorem make_pc (n : Nat) (hn : n ≤ 100000) (w : World) : (Instr.makeSlice 107 (.int .i64 (n : Int)) (.int .i64 (n : Int))).run Tryz.prog w = .ok (.slice (some ⟨w.heap.size, 0, none⟩) n n) (w.alloc (pcObj n)) := by
  obtain ⟨i0, hi, hz0, hz1, hz2⟩ := info_parts pc_info
  have hr := run_make (P := Tryz.prog) w 107 112 i0 (.agg #[.int .i64 0, .int .i64 0, .int .i64 0, .int .i64 0, .int .i64 0]) Tryz.underlying107 hi hz0 .i64 .i64 n n (by omega) (by omega) (by rw [hz2]; omega) (by omega)
  rw [hr, hz1]
  have e : madeCells (Value.agg #[.int .i64 0, .int .i64 0, .int .i64 0, .int .i64 0, .int .i64 0]).cells (((n : Int)).toNat * 5) = ((List.replicate n pcZ).flatMap pcC).toArray := by
    rw [pc_flat]
    apply Array.ext
    · simp [madeCells]
    · intro i h1 h2
      rcases (show i % 5 = 0 ∨ i % 5 = 1 ∨ i % 5 = 2 ∨ i % 5 = 3 ∨ i % 5 = 4 by omega) with h | h | h | h | h <;> simp [madeCells, Value.cells, h]
  rw [e]
  simp [pcObj]
def shC (x : Un × Int) : List Value := [.int .i64 x.1.lv, .int .i64 x.1.yr, .int .i64 x.1.ix, .int .i64 x.2]
/-- Shares that lie in a block. -/
def ShrAt (w : World) (g : Nat) (D : List (Un × Int)) : Prop := w.heap[g]? = some (.cells (D.flatMap shC).toArray 39 (0, 0))
theorem ShrAt.lt {w : World} {g : Nat} {D : List (Un × Int)} (h : ShrAt w g D) : g < w.heap.size := (Array.getElem?_eq_some_iff.1 h).1
theorem sh_get (D : List (Un × Int)) (i : Nat) (x : Un × Int) (h : D[i]? = some x) : (D.flatMap shC)[i * 4]? = some (.int .i64 x.1.lv) ∧ (D.flatMap shC)[i * 4 + 1]? = some (.int .i64 x.1.yr) ∧ (D.flatMap shC)[i * 4 + 2]? = some (.int .i64 x.1.ix) ∧ (D.flatMap shC)[i * 4 + 3]? = some (.int .i64 x.2) := by
  induction D generalizing i with
  | nil => simp at h
  | cons y l ih =>
    cases i with
    | zero => simp at h; subst h; simp [shC]
    | succ i =>
      have := ih i (by simpa using h)
      rw [show (i + 1) * 4 = i * 4 + 1 + 1 + 1 + 1 by omega]
      simpa [shC] using this
theorem sh_set (D : List (Un × Int)) (i : Nat) (x : Un × Int) (h : i < D.length) : ((((D.flatMap shC).set (i * 4) (.int .i64 x.1.lv)).set (i * 4 + 1) (.int .i64 x.1.yr)).set (i * 4 + 2) (.int .i64 x.1.ix)).set (i * 4 + 3) (.int .i64 x.2) = (D.set i x).flatMap shC := by
  induction D generalizing i with
  | nil => simp at h
  | cons y l ih =>
    cases i with
    | zero => simp [shC]
    | succ i =>
      have := ih i (by simpa using h)
      rw [show (i + 1) * 4 = i * 4 + 1 + 1 + 1 + 1 by omega]
      simpa [shC] using this
theorem ShrAt.cell {w : World} {g : Nat} {D : List (Un × Int)} (h : ShrAt w g D) {i : Nat} {x : Un × Int} (hi : D[i]? = some x) : w.cell? ⟨g, i * 4, none⟩ = some (.int .i64 x.1.lv) ∧ w.cell? ⟨g, i * 4 + 1, none⟩ = some (.int .i64 x.1.yr) ∧ w.cell? ⟨g, i * 4 + 2, none⟩ = some (.int .i64 x.1.ix) ∧ w.cell? ⟨g, i * 4 + 3, none⟩ = some (.int .i64 x.2) := by
  have := sh_get D i x hi
  simp [World.cell?, show w.heap[g]? = _ from h, this]
theorem ShrAt.frozen {w : World} {g : Nat} {D : List (Un × Int)} (h : ShrAt w g D) (k : Nat) : w.frozen? ⟨g, k, none⟩ = false := by simp [World.frozen?, show w.heap[g]? = _ from h]
theorem ShrAt.below {w w' : World} {K g : Nat} {D : List (Un × Int)} (h : ShrAt w g D) (hb : Below K w w') (hg : g < K) : ShrAt w' g D := (hb.block g hg).trans h
theorem ShrAt.call {w w' : World} {g : Nat} {D : List (Un × Int)} (h : ShrAt w g D) (hb : Below w.heap.size w w') : ShrAt w' g D := h.below hb h.lt
theorem ShrAt.far {D : List (Un × Int)} {g : Nat} {w : World} (h : ShrAt w g D) {p : Addr} (hp : g ≠ p.block) (u : Value) : ShrAt (w.setCell p u) g D := (Below.heap_setCell w p u g hp).trans h
def shPut (w : World) (g i : Nat) (x : Un × Int) : World := (((w.setCell ⟨g, i * 4, none⟩ (.int .i64 x.1.lv)).setCell ⟨g, i * 4 + 1, none⟩ (.int .i64 x.1.yr)).setCell ⟨g, i * 4 + 2, none⟩ (.int .i64 x.1.ix)).setCell ⟨g, i * 4 + 3, none⟩ (.int .i64 x.2)
theorem ShrAt.put {w : World} {g : Nat} {D : List (Un × Int)} (h : ShrAt w g D) (i : Nat) (x : Un × Int) (hi : i < D.length) : ShrAt (shPut w g i x) g (D.set i x) := by
  unfold ShrAt shPut at *
  rw [← sh_set D i x hi]
  simp [World.setCell, Array.getElem?_modify, h]
theorem shPut_far {w : World} {g i b : Nat} {x : Un × Int} (hb : b ≠ g) : (shPut w g i x).heap[b]? = w.heap[b]? := by
  unfold shPut
  simp only [Below.heap_setCell _ _ _ _ (show b ≠ (⟨g, _, none⟩ : Addr).block from hb)]
theorem shPut_below {w0 w : World} {K g i : Nat} {x : Un × Int} (h : Below K w0 w) (hg : K ≤ g) : Below K w0 (shPut w g i x) := ((((h.setCell hg _).setCell hg _).setCell hg _).setCell hg _)
theorem shPut_size {w : World} {g i : Nat} {x : Un × Int} : (shPut w g i x).heap.size = w.heap.size := by simp [shPut]
theorem sh_info : (Tryz.prog.info? 39).map (fun i => (i.zero, i.size, i.bytes)) = some (some (.agg #[.int .i64 0, .int .i64 0, .int .i64 0, .int .i64 0]), 4, 32) := by kernel_rfl
abbrev shZ : Un × Int := (⟨0, 0, 0⟩, 0)
theorem sh_flat (n : Nat) : (List.replicate n shZ).flatMap shC = List.replicate (n * 4) (Value.int .i64 0) := by
  induction n with
  | zero => rfl
  | succ n ih =>
    rw [List.replicate_succ, List.flatMap_cons, ih, show (n + 1) * 4 = n * 4 + 1 + 1 + 1 + 1 by omega, List.replicate_succ, List.replicate_succ, List.replicate_succ, List.replicate_succ]
    rfl
def shObj (n : Nat) : Obj := .cells ((List.replicate n shZ).flatMap shC).toArray 39
theorem ShrAt.new (w : World) (n : Nat) : ShrAt (w.alloc (shObj n)) w.heap.size (List.replicate n shZ) := by
  unfold ShrAt shObj
  rw [heap_alloc_new]
theorem make_sh (n : Nat) (hn : n ≤ 100000) (w : World) : (Instr.makeSlice 31 (.int .i64 (n : Int)) (.int .i64 (n : Int))).run Tryz.prog w = .ok (.slice (some ⟨w.heap.size, 0, none⟩) n n) (w.alloc (shObj n)) := by
  obtain ⟨i0, hi, hz0, hz1, hz2⟩ := info_parts sh_info
  have hr := run_make (P := Tryz.prog) w 31 39 i0 (.agg #[.int .i64 0, .int .i64 0, .int .i64 0, .int .i64 0]) Tryz.underlying31 hi hz0 .i64 .i64 n n (by omega) (by omega) (by rw [hz2]; omega) (by omega)
  rw [hr, hz1]
  have e : madeCells (Value.agg #[.int .i64 0, .int .i64 0, .int .i64 0, .int .i64 0]).cells (((n : Int)).toNat * 4) = ((List.replicate n shZ).flatMap shC).toArray := by
    rw [sh_flat]
    apply Array.ext
    · simp [madeCells]
    · intro i h1 h2
      rcases (show i % 4 = 0 ∨ i % 4 = 1 ∨ i % 4 = 2 ∨ i % 4 = 3 by omega) with h | h | h | h <;> simp [madeCells, Value.cells, h]
  rw [e]
  simp [shObj]
end Go.Proofs.YtamnccechaooaaaGreat
