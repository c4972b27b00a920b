/- Package share: weights together. -/
import Derived.Test.YtamnccechaooaaaGreatDivD
import Derived.Test.YtamnccechaooaaaGreatLongs
namespace Go.Proofs.YtamnccechaooaaaGreat
open Go.RowKit Go.Sort
set_option linter.unusedSimpArgs false
set_option linter.unusedVariables false

set_option maxHeartbeats 800000 in
theorem neg_any (a : Int) (w : World) : Calls Tryz.prog 131 #[.int .i64 a] w fun e w' => e = .returned (.bool (decide (a < 0))) ∧ w = w' := by
  go_enter Tryz.func131, Tryz.ntmps131
  go_wp2
  go_ret
  exact ⟨rfl, rfl⟩
abbrev negF : Value := .func (.func 131) #[] #[]
set_option maxRecDepth 100000 in
set_option maxHeartbeats 1600000 in
theorem index_no (v : Value) (l : List Int) (w : World) (hv : Nums w v l) (hl : ∀ x ∈ l, 0 ≤ x) (hn : l.length ≤ 1000000) :
    Calls Tryz.prog 154 #[v, negF] w fun e w' => e = .returned (.int .i64 (-1)) ∧ Below w.heap.size w w' := by
  obtain ⟨ad, cap, rfl, hc⟩ := hv
  have HC := hide hc
  have HL := hide hl
  clear hc hl
  go_enter Tryz.func154, Tryz.ntmps154
  go_wp2_with fail
  go_loopw [8] (fun s wr => ∃ j : Nat, s = .int .i64 j ∧ j ≤ l.length ∧ Below w.heap.size w wr) (fun s _ => (l.length + 5 - intOf s).toNat)
  case atStart => exact ⟨0, rfl, Nat.zero_le _, by (repeat' exact bel)⟩
  case round =>
    obtain ⟨j, rfl, hj, hBel⟩ := hrel
    by_cases hlt : j < l.length
    · obtain ⟨x, hx⟩ : ∃ x, l[j]? = some x := ⟨_, List.getElem?_eq_getElem hlt⟩
      obtain ⟨g, o, rfl, hg, a0⟩ := HC.out j x hx
      have hx0 := HL.out x (List.mem_of_getElem? hx)
      have ha : wr.cell? ⟨g, o + j, none⟩ = some (.int .i64 x) := by
        rw [hBel.cell (p := ⟨g, o + j, none⟩) hg]; exact a0
      have hi1 : (0 : Int) ≤ (j : Int) := by omega
      have hi3 : (j : Int) < (l.length : Int) := by omega
      have hd : decide (x < 0) = false := by simp; omega
      clear hx a0
      go_wp2_with fail
      refine (neg_any x _).mono ?_
      rintro e w2 ⟨rfl, rfl⟩
      rw [hd]
      go_wp2
      go_roundw
      case rel => exact ⟨j + 1, by go_num, by omega, by (repeat' exact bel)⟩
      case measure => simp [intOf]; omega
    · go_wp2
      all_goals first
        | (exfalso; omega)
        | (go_ret; exact ⟨rfl, by (repeat' exact bel)⟩)
set_option maxHeartbeats 1600000 in
theorem contains_no (v : Value) (l : List Int) (w : World) (hv : Nums w v l) (hl : ∀ x ∈ l, 0 ≤ x) (hn : l.length ≤ 1000000) :
    Calls Tryz.prog 130 #[v, negF] w fun e w' => e = .returned (.bool false) ∧ Below w.heap.size w w' := by
  have HC := hide (index_no v l w hv hl hn)
  obtain ⟨ad, cap, rfl, hc⟩ := hv
  clear hc hl
  go_enter Tryz.func130, Tryz.ntmps130
  go_wp2_with fail
  refine HC.out.mono ?_
  rintro e w1 ⟨rfl, hb1⟩
  have HB := hide hb1
  clear hb1
  go_wp2
  go_ret
  exact ⟨rfl, HB.out⟩
set_option maxRecDepth 100000 in
set_option maxHeartbeats 1600000 in
theorem shall_yes (v : Value) (l : List Int) (w : World) (hv : Nums w v l) (hl : ∀ x ∈ l, 0 ≤ x) (hn : l.length ≤ 4096) (h64 : ∀ x ∈ l, in64 x) (hs : in64 l.sum) (hp : 0 < l.sum) :
    Calls Tryz.prog 94 #[v] w fun e w' => e = .returned (.tuple #[.int .i64 l.sum, .int .i64 0]) ∧ Below w.heap.size w w' := by
  have HC := hide (contains_no v l w hv hl (by omega))
  have HS := hide (fun w hv => wsum_any v l w hv h64 (by omega))
  rw [(fit_yes hs).1, (fit_yes hs).2] at HS
  have HV := hide hv
  obtain ⟨ad, cap, rfl, hc⟩ := hv
  obtain ⟨S, hS⟩ : ∃ S, l.sum = S := ⟨_, rfl⟩
  rw [hS] at hp HS ⊢
  have hz : (S == 0) = false := by simp; omega
  clear hc hl h64 hs hS
  go_enter Tryz.func94, Tryz.ntmps94
  go_wp2_with fail
  all_goals first
    | (exfalso; omega)
    | skip
  refine HC.out.mono ?_
  rintro e w1 ⟨rfl, hb1⟩
  have HB1 : Hid (Below w.heap.size w w1) := ww hb1
  have HV1 := hide (HV.out.call hb1)
  have hz1 := hb1.size
  clear hb1
  go_wp2_with fail
  refine (HS.out _ HV1.out).mono ?_
  rintro e w2 ⟨rfl, hb2⟩
  have HB2 : Hid (Below w.heap.size w w2) := by have hp := HB1.out; exact ww hb2
  clear hb2
  go_wp2
  go_ret2
  exact ⟨rfl, HB2.out⟩
end Go.Proofs.YtamnccechaooaaaGreat
