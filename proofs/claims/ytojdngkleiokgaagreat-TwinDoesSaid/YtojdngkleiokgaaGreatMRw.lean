/- Contracts of the references: all units of some years (layer 17). Contracts of the references: the units that meet a span (layer 17). -/
import Derived.Test.YtojdngkleiokgaaGreatMRu
import Derived.Test.YtojdngkleiokgaaGreatMFh
import Derived.Maps.AppendAt
namespace Go.Proofs.YtojdngkleiokgaaGreat
open Go.RowKit Qd
set_option linter.unusedSimpArgs false
set_option linter.unusedVariables false

/-- What is kept in the loops: the calendar, and the units so far. -/
def UlSt (c : Cal) (B Bo : Nat) (L : List Un) (v : Value) (w0 w : World) : Prop :=
  CalAt w B c ∧ B < Bo ∧ Bo ≤ w.heap.size ∧ w.ownsRow Bo 38 3 v L.length (flatU L) ∧ Below B w0 w
theorem UlSt.call {c : Cal} {B Bo : Nat} {L : List Un} {v : Value} {w0 w w' : World} (h : UlSt c B Bo L v w0 w) (hb : Below w.heap.size w w') : UlSt c B Bo L v w0 w' := by
  obtain ⟨h1, h2, h3, h4, h6⟩ := h
  exact ⟨calAt_below hb (by omega) h1, h2, Nat.le_trans h3 hb.size, rowns_call h4 hb, h6.trans (hb.mono (by omega))⟩
theorem UlSt.grow {c : Cal} {B Bo : Nat} {L : List Un} {x : Un} {v v' : Value} {w0 W w' : World} (h : UlSt c B Bo L v w0 W) (o : Obj)
    (ho : w'.ownsRow Bo 38 3 v' (L.length + 1) (flatU L ++ [.int .i64 x.lv, .int .i64 x.yr, .int .i64 x.ix])) (hgrow : (W.alloc o).grownBy w' v.ownBlock) : UlSt c B Bo (L ++ [x]) v' w0 w' ∧ Below Bo W w' := by
  obtain ⟨h1, h2, h3, h4, h6⟩ := h
  have hb : Below Bo W w' := ((Below.refl Bo W).alloc h3 o).grown hgrow (by simp; omega) (fun k hk => by have := (h4.lt k hk).1; omega)
  have hs : W.heap.size ≤ w'.heap.size := by have := hgrow.size; simp at this; omega
  refine ⟨⟨calAt_below hb h2 h1, h2, by omega, ?_, h6.trans (hb.mono (by omega))⟩, hb⟩
  rw [flatU_snoc]
  simpa using ho
theorem UlSt.uns {c : Cal} {B Bo : Nat} {L : List Un} {v : Value} {w0 w : World} (h : UlSt c B Bo L v w0 w) (h0 : 0 < L.length) : ∃ g cap, v = .slice (some ⟨g, 0, none⟩) L.length cap ∧ Bo ≤ g ∧ UnsAt w g cap L := by
  obtain ⟨g, cap, rfl, _, _, hg⟩ := owns_slice h.2.2.2.1 h0
  exact ⟨g, cap, rfl, hg, rowns_base h.2.2.2.1 (Nat.zero_le _)⟩

theorem SpansAt.own {w w' : World} {row : Option Nat} {g : Nat} {l : List (Int × Int)} (h : SpansAt w g l) (hg : w.grownBy w' row) (hne : row ≠ some g) : SpansAt w' g l :=
  h.same (hg.block g h.1 (fun e => hne e.symm))
end Go.Proofs.YtojdngkleiokgaaGreat
