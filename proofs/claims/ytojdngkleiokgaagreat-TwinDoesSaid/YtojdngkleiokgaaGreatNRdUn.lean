/- Lists of units that can be read, wherever they begin; when such lists are the same. -/
import Derived.Test.YtojdngkleiokgaaGreatMFe
import Derived.BigQuiet
namespace Go.Proofs.YtojdngkleiokgaaGreat
open Go.RowKit Go.Shelf Qd
set_option linter.unusedSimpArgs false
set_option linter.unusedVariables false

def RdU (w : World) (g o : Nat) (L : List Un) : Prop := g < w.heap.size ∧ ∀ (i : Nat) (u : Un), L[i]? = some u → w.cell? ⟨g, o + i * 3, none⟩ = some (.int .i64 u.lv) ∧ w.cell? ⟨g, o + i * 3 + 1, none⟩ = some (.int .i64 u.yr) ∧ w.cell? ⟨g, o + i * 3 + 2, none⟩ = some (.int .i64 u.ix)
theorem RdU.below {w w' : World} {K g o : Nat} {L : List Un} (h : RdU w g o L) (hb : Below K w w') (hg : g < K) : RdU w' g o L :=
  ⟨block_lt hb hg h.1, fun i u hi => ⟨(hb.cell (p := ⟨g, o + i * 3, none⟩) hg).trans (h.2 i u hi).1, (hb.cell (p := ⟨g, o + i * 3 + 1, none⟩) hg).trans (h.2 i u hi).2.1, (hb.cell (p := ⟨g, o + i * 3 + 2, none⟩) hg).trans (h.2 i u hi).2.2⟩⟩
theorem RdU.call {w w' : World} {g o : Nat} {L : List Un} (h : RdU w g o L) (hb : Below w.heap.size w w') : RdU w' g o L := h.below hb h.1
theorem UnsAt.rdu {w : World} {g cap : Nat} {L : List Un} (h : UnsAt w g cap L) (h0 : 0 < L.length) : RdU w g 0 L := ⟨(h.lt h0).1, fun i u hi => by simpa using h.cell hi⟩
def RU (w : World) (a : Option Addr) (n cap : Nat) (L : List Un) : Prop := (L = [] ∧ a = none ∧ n = 0 ∧ cap = 0) ∨ (0 < L.length ∧ n = L.length ∧ ∃ g o, a = some ⟨g, o, none⟩ ∧ RdU w g o L)
theorem RU.call {w w' : World} {a : Option Addr} {n cap : Nat} {L : List Un} (h : RU w a n cap L) (hb : Below w.heap.size w w') : RU w' a n cap L := by
  rcases h with h | ⟨h0, h1, g, o, h2, h3⟩
  · exact .inl h
  · exact .inr ⟨h0, h1, g, o, h2, h3.call hb⟩
theorem UnsAt.ru {w : World} {g cap : Nat} {L : List Un} (h : UnsAt w g cap L) (h0 : 0 < L.length) : RU w (some ⟨g, 0, none⟩) L.length cap L := .inr ⟨h0, rfl, g, 0, rfl, h.rdu h0⟩

set_option maxRecDepth 100000 in
set_option maxHeartbeats 3200000 in
theorem same17_rnil (w : World) :
    Calls Tryz.prog 15 #[.slice none 0 0, .slice none 0 0] w fun e w' => e = .returned (.bool true) ∧ Below w.heap.size w w' := by
  go_enter Tryz.func15, Tryz.ntmps15
  go_wp2_with fail
  go_loopw [13] (fun s wr => s = .int .i64 0 ∧ Below w.heap.size w wr) (fun s _ => (5 - intOf s).toNat)
  case atStart => exact ⟨rfl, Below.refl _ _⟩
  case round =>
    obtain ⟨rfl, hBel⟩ := hrel
    go_wp2
    go_ret
    exact ⟨rfl, by (repeat' exact bel)⟩

set_option maxRecDepth 100000 in
set_option maxHeartbeats 3200000 in
theorem same17_rd (L : List Un) (g1 o1 c1 g2 o2 c2 : Nat) (w : World) (h1 : RdU w g1 o1 L) (h2 : RdU w g2 o2 L) (h0 : 0 < L.length) (hl : L.length ≤ 1000000) :
    Calls Tryz.prog 15 #[.slice (some ⟨g1, o1, none⟩) L.length c1, .slice (some ⟨g2, o2, none⟩) L.length c2] w fun e w' => e = .returned (.bool true) ∧ Below w.heap.size w w' := by
  have H1 := hide h1
  have H2 := hide h2
  have hg1 := h1.1
  have hg2 := h2.1
  clear h1 h2
  go_enter Tryz.func15, Tryz.ntmps15
  go_wp2_with fail
  go_loopw [13] (fun s wr => ∃ j : Nat, s = .int .i64 j ∧ j ≤ L.length ∧ Below w.heap.size w wr) (fun s _ => (1000001 - intOf s).toNat)
  case atStart => exact ⟨0, rfl, Nat.zero_le _, Below.refl _ _⟩
  case round =>
    obtain ⟨j, rfl, hj, hBel⟩ := hrel
    have hsz := hBel.size
    by_cases hlt : j < L.length
    · obtain ⟨x, hx⟩ : ∃ x, L[j]? = some x := ⟨_, List.getElem?_eq_getElem hlt⟩
      obtain ⟨a0, a1, a2⟩ := (H1.out.call hBel).2 j x hx
      obtain ⟨b0, b1, b2⟩ := (H2.out.call hBel).2 j x hx
      clear hx
      have hi3 : (0 : Int) ≤ (j : Int) := by omega
      have hi4 : (j : Int) < (L.length : Int) := by omega
      have hub := unB_same x.lv x.yr x.ix
      go_wp2_with fail
      go_quiet (fail)
      go_wp2
      all_goals first
        | (exfalso; omega)
        | skip
      go_roundw
      case rel => exact ⟨j + 1, by go_num, by omega, by (repeat' exact bel)⟩
      case measure => simp [intOf]; omega
    · go_wp2
      all_goals first
        | (exfalso; omega)
        | (go_ret; exact ⟨rfl, by (repeat' exact bel)⟩)
theorem same17_ru (L : List Un) (a1 a2 : Option Addr) (n1 c1 n2 c2 : Nat) (w : World) (h1 : RU w a1 n1 c1 L) (h2 : RU w a2 n2 c2 L) (hl : L.length ≤ 1000000) :
    Calls Tryz.prog 15 #[.slice a1 n1 c1, .slice a2 n2 c2] w fun e w' => e = .returned (.bool true) ∧ Below w.heap.size w w' := by
  rcases h1 with ⟨k1, rfl, rfl, rfl⟩ | ⟨k1, rfl, g1, o1, rfl, k2⟩
  · rcases h2 with ⟨_, rfl, rfl, rfl⟩ | ⟨k3, _⟩
    · exact same17_rnil w
    · rw [k1] at k3; simp at k3
  · rcases h2 with ⟨k3, _⟩ | ⟨_, rfl, g2, o2, rfl, k4⟩
    · rw [k3] at k1; simp at k1
    · exact same17_rd L g1 o1 c1 g2 o2 c2 w k2 k4 k1 hl
end Go.Proofs.YtojdngkleiokgaaGreat
