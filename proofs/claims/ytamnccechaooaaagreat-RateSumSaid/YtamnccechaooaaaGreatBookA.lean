/- Contracts of package book: whether a book may be. -/
import Derived.Test.YtamnccechaooaaaGreatBookP
namespace Go.Proofs.YtamnccechaooaaaGreat
open Go.RowKit Qd
set_option linter.unusedSimpArgs false
set_option linter.unusedVariables false

/-- Why one of some days is none. -/
def daysE (l : List Int) : Int := if l.all isB then 0 else 4
theorem ofday_any (day : Int) (w : World) :
    Calls Tryz.prog 103 #[.int .i64 day] w fun e w' => (∃ a b c : Int, e = .returned (.tuple #[.agg #[.int .i64 a, .int .i64 b, .int .i64 c], .int .i64 (isE day)])) ∧ Below w.heap.size w w' := by
  cases h : isB day
  · refine (of_no day w (by simp [h])).mono ?_
    rintro e w' ⟨rfl, hb⟩
    exact ⟨⟨0, 0, 0, by simp [isE, h]⟩, hb⟩
  · refine (of_yes day w (by simp [h])).mono ?_
    rintro e w' ⟨rfl, hb⟩
    exact ⟨⟨ofY day, ofM day, ofD day, by simp [isE, h]⟩, hb⟩

set_option maxRecDepth 100000 in
set_option maxHeartbeats 1600000 in
theorem bdays_any (g o cap : Nat) (l : List Int) (w : World) (hg : g < w.heap.size) (hc : ∀ (i : Nat) (x : Int), l[i]? = some x → w.cell? ⟨g, o + i, none⟩ = some (.int .i64 x)) (hn : l.length ≤ 1000) :
    Calls Tryz.prog 66 #[.slice (some ⟨g, o, none⟩) l.length cap] w fun e w' => e = .returned (.int .i64 (daysE l)) ∧ Below w.heap.size w w' := by
  have HC := hide hc
  clear hc
  go_enter Tryz.func66, Tryz.ntmps66
  go_wp2_with fail
  go_loopw [9] (fun s wr => ∃ j : Nat, s = .int .i64 j ∧ j ≤ l.length ∧ Hid ((l.take j).all isB = true) ∧ Below w.heap.size w wr) (fun s _ => (l.length + 5 - intOf s).toNat)
  case atStart => exact ⟨0, rfl, Nat.zero_le _, hide (by simp), by (repeat' exact bel)⟩
  case round =>
    obtain ⟨j, rfl, hj, HA, hBel⟩ := hrel
    have HB := hide hBel
    have hsz := hBel.size
    clear hBel
    by_cases hlt : j < l.length
    · obtain ⟨x, hx⟩ : ∃ x, l[j]? = some x := ⟨_, List.getElem?_eq_getElem hlt⟩
      have ha : wr.cell? ⟨g, o + j, none⟩ = some (.int .i64 x) := by
        rw [HB.out.cell (p := ⟨g, o + j, none⟩) hg]; exact HC.out j x hx
      have hi1 : (0 : Int) ≤ (j : Int) := by omega
      have hi3 : (j : Int) < (l.length : Int) := by omega
      cases hb : isB x
      · have HD := hide (show daysE l = 4 by
          unfold daysE
          rw [if_neg]
          rw [List.all_eq_true]
          intro h
          rw [h x (List.mem_of_getElem? hx)] at hb; cases hb)
        have HE := hide (show isE x = 4 by simp [isE, hb])
        have HF := hide (fun w => ofday_any x w)
        clear hx hb
        go_wp2_with fail
        refine (HF.out _).mono ?_
        rintro e w1 ⟨⟨a, b, c, rfl⟩, hb1⟩
        rw [HE.out]
        have HB1 : Hid (Below w.heap.size w w1) := by have hp := HB.out; exact ww hb1
        have hz1 := hb1.size
        clear hb1
        have hBel := HB1.out
        go_wp2
        go_ret
        exact ⟨ret_int HD.out.symm, by (repeat' exact bel)⟩
      · have HE := hide (show isE x = 0 by simp [isE, hb])
        have HT := hide (show (l.take (j + 1)).all isB = true by rw [List.take_add_one, hx]; simpa [hb] using HA.out)
        have HF := hide (fun w => ofday_any x w)
        clear hx hb
        go_wp2_with fail
        refine (HF.out _).mono ?_
        rintro e w1 ⟨⟨a, b, c, rfl⟩, hb1⟩
        rw [HE.out]
        have HB1 : Hid (Below w.heap.size w w1) := by have hp := HB.out; exact ww hb1
        have hz1 := hb1.size
        clear hb1
        have hBel := HB1.out
        go_wp2
        go_roundw
        case rel => exact ⟨j + 1, by go_num, by omega, HT, by (repeat' exact bel)⟩
        case measure => simp [intOf]; omega
    · have HD := hide (show daysE l = 0 by
        unfold daysE
        rw [if_pos]
        have h := HA.out
        rwa [List.take_of_length_le (by omega)] at h)
      have hBel := HB.out
      go_wp2
      go_ret
      exact ⟨ret_int HD.out.symm, by (repeat' exact bel)⟩
end Go.Proofs.YtamnccechaooaaaGreat
