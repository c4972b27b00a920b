/- Contracts of year: beside, found. Contracts of year: Bounds, Served. Contracts of find.Day. Contracts of stamp.Parse on the text of layer 17's example. Layer 17's example. Contracts of find.Next, find.Back. The walk of FindNext. -/
import Derived.Test.YtojdngkleiokgaaGreatMFr
import Derived.Test.YtojdngkleiokgaaGreatMCa
import Derived.Test.YtojdngkleiokgaaGreatMAn
import Derived.Test.YtojdngkleiokgaaGreatUnitV
import Derived.Test.YtojdngkleiokgaaGreatMUn
import Derived.WalkSmall
namespace Go.Proofs.YtojdngkleiokgaaGreat
open Go.RowKit Qd
set_option linter.unusedSimpArgs false
set_option linter.unusedVariables false

theorem start_b (c : Cal) (y : Int) : 0 ≤ startV c y ∧ startV c y ≤ 3068037 := by
  by_cases h : askE c y 1601 = 0
  · have := year_bd c y h; omega
  · simp [startV, h]
theorem end_b (c : Cal) (y : Int) (h : askE c y 1601 = 0) : 0 ≤ endV c y ∧ endV c y ≤ 3068037 := by
  have := year_bd c y h; omega

end Go.Proofs.YtojdngkleiokgaaGreat

namespace Go.Proofs.YtojdngkleiokgaaGreat
open Go.RowKit Qd
set_option linter.unusedSimpArgs false
set_option linter.unusedVariables false

theorem ok_years {c : Cal} (h : c.okB = true) : askE c c.first 1601 = 0 ∧ askE c c.last 1601 = 0 ∧ 1602 ≤ c.first ∧ c.last ≤ 9996 ∧ c.first ≤ c.last := by
  have hok : c.Ok := by simpa [Cal.okB] using h
  have hs := hok.1
  unfold Cal.served at hs
  exact ⟨ask_2 hok (by omega) (by omega), ask_2 hok (by omega) (by omega), by omega, by omega, by omega⟩

/-- The frame, and the block of the result. -/
def FdSt (c : Cal) (y : Int) (F g1 cap g2 B : Nat) (w : World) : Prop := BlkIs w F #[.int .i64 y, .slice (some ⟨g1, 0, none⟩) (nWk c y) cap, .slice (some ⟨g2, 0, none⟩) (nPer c y) (nPer c y)] 64 ∧ FrameAt w g1 g2 c y ∧ BlkIs w B #[.int .i64 0, .int .i64 0, .int .i64 0] 38
theorem FdSt.call {c : Cal} {y : Int} {F g1 cap g2 B : Nat} {w w' : World} (h : FdSt c y F g1 cap g2 B w) (hb : Below w.heap.size w w') : FdSt c y F g1 cap g2 B w' :=
  ⟨h.1.call hb, h.2.1.call hb, h.2.2.call hb⟩
theorem FdSt.drew {c : Cal} {y : Int} {F g1 cap g2 B : Nat} {w : World} (h : FdSt c y F g1 cap g2 B w) : FdSt c y F g1 cap g2 B w.drew := h
theorem FdSt.load {c : Cal} {y : Int} {F g1 cap g2 B : Nat} {w' : World} (h : FdSt c y F g1 cap g2 B w') : w'.cell? ⟨F, 0, none⟩ = some (.int .i64 y) ∧ w'.cell? ⟨F, 1, none⟩ = some (.slice (some ⟨g1, 0, none⟩) (nWk c y) cap) ∧ w'.cell? ⟨F, 2, none⟩ = some (.slice (some ⟨g2, 0, none⟩) (nPer c y) (nPer c y)) :=
  ⟨h.1.cell 0, h.1.cell 1, h.1.cell 2⟩
theorem FdSt.res {c : Cal} {y : Int} {F g1 cap g2 B : Nat} {w' : World} (h : FdSt c y F g1 cap g2 B w') :
    (w'.cell? ⟨B, 0, none⟩ = some (.int .i64 0) ∧ w'.cell? ⟨B, 1, none⟩ = some (.int .i64 0) ∧ w'.cell? ⟨B, 2, none⟩ = some (.int .i64 0)) ∧
    (w'.frozen? ⟨B, 0, none⟩ = false ∧ w'.frozen? ⟨B, 1, none⟩ = false ∧ w'.frozen? ⟨B, 2, none⟩ = false) :=
  ⟨⟨h.2.2.cell 0, h.2.2.cell 1, h.2.2.cell 2⟩, ⟨h.2.2.frozen 0, h.2.2.frozen 1, h.2.2.frozen 2⟩⟩
end Go.Proofs.YtojdngkleiokgaaGreat

namespace Go.Proofs.YtojdngkleiokgaaGreat
open Go.RowKit Qd
set_option linter.unusedSimpArgs false
set_option linter.unusedVariables false

abbrev frm : ByteArray := ⟨#[35, 35, 35, 35, 45, 35, 35, 45, 35, 35]⟩
/-- The numbers read of k bytes, and whether one is open. -/
def nL : Nat → List Int
  | 1 => [2] | 2 => [20] | 3 => [202] | 4 => [2024] | 5 => [2024] | 6 => [2024, 0] | 7 => [2024, 2] | 8 => [2024, 2] | 9 => [2024, 2, 0] | 10 => [2024, 2, 3] | _ => []
/-- What the loop keeps. -/
def NuSt (w wr : World) (k : Nat) (v : Value) : Prop :=
  wr.ownsRow (w.heap.size + 1) 3 1 v (nL k).length ((nL k).map (Value.int .i64)) ∧ wr.heap[w.heap.size]? = some (.stringIter frm k) ∧ Below w.heap.size w wr
theorem NuSt.step {w wr : World} {k : Nat} {v : Value} (h : NuSt w wr k v) (p : Nat) :
    (wr.iterAt w.heap.size frm p).ownsRow (w.heap.size + 1) 3 1 v (nL k).length ((nL k).map (Value.int .i64)) ∧ (wr.iterAt w.heap.size frm p).heap[w.heap.size]? = some (.stringIter frm p) ∧ Below w.heap.size w (wr.iterAt w.heap.size frm p) ∧ w.heap.size + 1 ≤ (wr.iterAt w.heap.size frm p).heap.size :=
  ⟨ownsRow_iterAt h.1 (Nat.lt_succ_self _) _ _, Lib.iterAt_heap _ _ _ _ _ h.2.1, Lib.below_iterAt h.2.2 (Nat.le_refl _) _ _, by rw [Lib.iterAt_size]; exact (Array.getElem?_eq_some_iff.1 h.2.1).1⟩
theorem owns_pos {w : World} {base n : Nat} {v : Value} {xs : List Value} {e : TypeId} {size : Nat} (h : w.ownsRow base e size v n xs) (hn : 0 < n) : ∃ g cap, v = .slice (some ⟨g, 0, none⟩) n cap ∧ base ≤ g := by
  obtain ⟨g, cap, h1, _, _, h2⟩ := owns_slice h hn
  exact ⟨g, cap, h1, h2⟩

/-- The cells of a unit's block. -/
theorem BlkIs.three {w : World} {B : Nat} {a b c : Value} {t : TypeId} (h : BlkIs w B #[a, b, c] t) :
    (w.cell? ⟨B, 0, none⟩ = some a ∧ w.cell? ⟨B, 1, none⟩ = some b ∧ w.cell? ⟨B, 2, none⟩ = some c) ∧ (w.frozen? ⟨B, 0, none⟩ = false ∧ w.frozen? ⟨B, 1, none⟩ = false ∧ w.frozen? ⟨B, 2, none⟩ = false) :=
  ⟨⟨h.cell 0, h.cell 1, h.cell 2⟩, h.frozen 0, h.frozen 1, h.frozen 2⟩

end Go.Proofs.YtojdngkleiokgaaGreat

namespace Go.Proofs.YtojdngkleiokgaaGreat
open Go.RowKit Qd
set_option linter.unusedSimpArgs false
set_option linter.unusedVariables false

end Go.Proofs.YtojdngkleiokgaaGreat
