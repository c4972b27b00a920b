/- Lists of units that can be read, wherever they begin; when such lists are the same. -/
import Derived.Test.YtjhhmeoibfdcmaaGreatMFe
import Derived.BigQuiet
namespace Go.Proofs.YtjhhmeoibfdcmaaGreat
open Go.RowKit Go.Shelf Qd
set_option linter.unusedSimpArgs false
set_option linter.unusedVariables false

def RdU (w : World) (g o : Nat) (L : List Un) : Prop := g < w.heap.size ∧ ∀ (i : Nat) (u : Un), L[i]? = some u → w.cell? ⟨g, o + i * 3, none⟩ = some (.int .i64 u.lv) ∧ w.cell? ⟨g, o + i * 3 + 1, none⟩ = some (.int .i64 u.yr) ∧ w.cell? ⟨g, o + i * 3 + 2, none⟩ = some (.int .i64 u.ix)
theorem RdU.below {w w' : World} {K g o : Nat} {L : List Un} (h : RdU w g o L) (hb : Below K w w') (hg : g < K) : RdU w' g o L :=
  ⟨block_lt hb hg h.1, fun i u hi => ⟨(hb.cell (p := ⟨g, o + i * 3, none⟩) hg).trans (h.2 i u hi).1, (hb.cell (p := ⟨g, o + i * 3 + 1, none⟩) hg).trans (h.2 i u hi).2.1, (hb.cell (p := ⟨g, o + i * 3 + 2, none⟩) hg).trans (h.2 i u hi).2.2⟩⟩
theorem RdU.call {w w' : World} {g o : Nat} {L : List Un} (h : RdU w g o L) (hb : Below w.heap.size w w') : RdU w' g o L := h.below hb h.1
theorem UnsAt.rdu {w : World} {g cap : Nat} {L : List Un} (h : UnsAt w g cap L) (h0 : 0 < L.length) : RdU w g 0 L := ⟨(h.lt h0).1, fun i u hi => by simpa using h.cell hi⟩
def RU (w : World) (a : Option Addr) (n cap : Nat) (L : List Un) : Prop := (L = [] ∧ a = none ∧ n = 0 ∧ cap = 0) ∨ (0 < L.length ∧ n = L.length ∧ ∃ g o, a = some ⟨g, o, none⟩ ∧ RdU w g o L)
theorem RU.call {w w' : World} {a : Option Addr} {n cap : Nat} {L : List Un} (h : RU w a n cap L) (hb : Below w.heap.size w w') : RU w' a n cap L := by
  rcases h with h | ⟨h0, h1, g, o, h2, h3⟩
  · exact .inl h
  · exact .inr ⟨h0, h1, g, o, h2, h3.call hb⟩
theorem UnsAt.ru {w : World} {g cap : Nat} {L : List Un} (h : UnsAt w g cap L) (h0 : 0 < L.length) : RU w (some ⟨g, 0, none⟩) L.length cap L := .inr ⟨h0, rfl, g, 0, rfl, h.rdu h0⟩

end Go.Proofs.YtjhhmeoibfdcmaaGreat
