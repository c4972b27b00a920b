/- The contract of the reference's Same over units, at equal lists. -/
import Derived.Test.YtpngdeegdkifnaaTwinC
namespace Go.Proofs.Ytpngdeegdkifnaa
open Go.RowKit Go.Shelf Qd
set_option linter.unusedSimpArgs false
set_option linter.unusedVariables false

set_option maxRecDepth 100000 in
set_option maxHeartbeats 3200000 in
theorem same17_nil (w : World) :
    Calls Try.prog 55 #[.slice none 0 0, .slice none 0 0] w fun e w' => e = .returned (.bool true) ∧ Below w.heap.size w w' := by
  go_enter Try.func55, Try.ntmps55
  go_wp2_with fail
  go_loopw [13] (fun s wr => s = .int .i64 0 ∧ Below w.heap.size w wr) (fun s _ => (5 - intOf s).toNat)
  case atStart => exact ⟨rfl, Below.refl _ _⟩
  case round =>
    obtain ⟨rfl, hBel⟩ := hrel
    go_wp2
    go_ret
    exact ⟨rfl, by (repeat' (first | (with_reducible exact Below.refl _ _) | (with_reducible assumption) | (with_reducible refine Below.alloc ?_ ?_ _) | (with_reducible refine below_drewN ?_ _) | (with_reducible refine Below.drew ?_) | (with_reducible refine Below.setCell ?_ ?_ _) | (with_reducible refine Below.trans ?_ (Below.mono (by assumption) ?_)) | go_size | (simp at *; omega)))⟩

set_option maxRecDepth 100000 in
set_option maxHeartbeats 3200000 in
theorem same17_some (L : List Un) (g1 c1 g2 c2 : Nat) (w : World) (h1 : UnsAt w g1 c1 L) (h2 : UnsAt w g2 c2 L) (h0 : 0 < L.length) (hl : L.length ≤ 1000000) :
    Calls Try.prog 55 #[.slice (some ⟨g1, 0, none⟩) L.length c1, .slice (some ⟨g2, 0, none⟩) L.length c2] w fun e w' => e = .returned (.bool true) ∧ Below w.heap.size w w' := by
  have H1 := hide h1
  have H2 := hide h2
  have hg1 := (h1.lt h0).1
  have hg2 := (h2.lt h0).1
  clear h1 h2
  go_enter Try.func55, Try.ntmps55
  go_wp2_with fail
  go_loopw [13] (fun s wr => ∃ j : Nat, s = .int .i64 j ∧ j ≤ L.length ∧ Below w.heap.size w wr) (fun s _ => (1000001 - intOf s).toNat)
  case atStart => exact ⟨0, rfl, Nat.zero_le _, Below.refl _ _⟩
  case round =>
    obtain ⟨j, rfl, hj, hBel⟩ := hrel
    have hsz := hBel.size
    by_cases hlt : j < L.length
    · obtain ⟨x, hx⟩ : ∃ x, L[j]? = some x := ⟨_, List.getElem?_eq_getElem hlt⟩
      obtain ⟨a0, a1, a2⟩ := UnsAt.cell (H1.out.call hBel) hx
      obtain ⟨b0, b1, b2⟩ := UnsAt.cell (H2.out.call hBel) hx
      clear hx
      have hi3 : (0 : Int) ≤ (j : Int) := by omega
      have hi4 : (j : Int) < (L.length : Int) := by omega
      have hub := unB_same x.lv x.yr x.ix
      go_wp2_with fail
      go_quiet (fail)
      go_wp2
      all_goals first
        | (exfalso; omega)
        | skip
      go_roundw
      case rel => exact ⟨j + 1, by go_num, by omega, by (repeat' (first | (with_reducible exact Below.refl _ _) | (with_reducible assumption) | (with_reducible refine Below.alloc ?_ ?_ _) | (with_reducible refine below_drewN ?_ _) | (with_reducible refine Below.drew ?_) | (with_reducible refine Below.setCell ?_ ?_ _) | (with_reducible refine Below.trans ?_ (Below.mono (by assumption) ?_)) | go_size | (simp at *; omega)))⟩
      case measure => simp [intOf]; omega
    · go_wp2
      all_goals first
        | (exfalso; omega)
        | (go_ret; exact ⟨rfl, by (repeat' (first | (with_reducible exact Below.refl _ _) | (with_reducible assumption) | (with_reducible refine Below.alloc ?_ ?_ _) | (with_reducible refine below_drewN ?_ _) | (with_reducible refine Below.drew ?_) | (with_reducible refine Below.setCell ?_ ?_ _) | (with_reducible refine Below.trans ?_ (Below.mono (by assumption) ?_)) | go_size | (simp at *; omega)))⟩)

set_option maxRecDepth 100000 in
set_option maxHeartbeats 3200000 in
theorem same20_some (L : List Un) (g1 c1 g2 c2 : Nat) (w : World) (h1 : UnsAt w g1 c1 L) (h2 : UnsAt w g2 c2 L) (h0 : 0 < L.length) (hl : L.length ≤ 1000000) :
    Calls Try.prog 32 #[.slice (some ⟨g1, 0, none⟩) L.length c1, .slice (some ⟨g2, 0, none⟩) L.length c2] w fun e w' => e = .returned (.bool true) ∧ Below w.heap.size w w' := by
  have H1 := hide h1
  have H2 := hide h2
  clear h1 h2
  go_enter Try.func32, Try.ntmps32
  go_wp2_with fail
  refine (same17_some L g1 c1 g2 c2 _ H1.out H2.out h0 hl).mono ?_
  rintro e w1 ⟨rfl, hb1⟩
  have hBel := hb1
  go_wp2
  go_ret
  exact ⟨rfl, by (repeat' (first | (with_reducible exact Below.refl _ _) | (with_reducible assumption) | (with_reducible refine Below.alloc ?_ ?_ _) | (with_reducible refine below_drewN ?_ _) | (with_reducible refine Below.drew ?_) | (with_reducible refine Below.setCell ?_ ?_ _) | (with_reducible refine Below.trans ?_ (Below.mono (by assumption) ?_)) | go_size | (simp at *; omega)))⟩
end Go.Proofs.Ytpngdeegdkifnaa
