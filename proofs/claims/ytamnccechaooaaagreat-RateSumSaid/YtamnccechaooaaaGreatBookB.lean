/- Contracts of package book: accruals, and a whole book. -/
import Derived.Test.YtamnccechaooaaaGreatBookA
import Derived.Test.YtamnccechaooaaaGreatMSa
namespace Go.Proofs.YtamnccechaooaaaGreat
open Go.RowKit Qd
set_option linter.unusedSimpArgs false
set_option linter.unusedVariables false

set_option maxRecDepth 100000 in
set_option maxHeartbeats 1600000 in
theorem baccr_any (x : Ac) (w : World) : Calls Tryz.prog 67 #[.agg #[.int .i64 x.a, .int .i64 x.b, .int .i64 x.n]] w fun e w' => e = .returned (.int .i64 (accE x)) ∧ Below w.heap.size w w' := by
  have HD := hide (show daysE [x.a, x.b] = if isB x.a && isB x.b then 0 else 4 by simp [daysE])
  go_enter Tryz.func67, Tryz.ntmps67
  go_wp2_with fail
  refine (bdays_any (w.heap.size + 1) 0 2 [x.a, x.b] _ (by simp) (fun i y hy => by
    match i, hy with
    | 0, hy => simp at hy; subst hy; simp
    | 1, hy => simp at hy; subst hy; simp) (by simp)).mono ?_
  rintro e w1 ⟨rfl, hb1⟩
  rw [HD.out]
  have r0 : w1.cell? ⟨w.heap.size, 0, none⟩ = some (.int .i64 x.a) := by rw [hb1.cell (p := ⟨w.heap.size, 0, none⟩) (by simp; omega)]; simp [World.cell?_alloc_at]
  have r1 : w1.cell? ⟨w.heap.size, 1, none⟩ = some (.int .i64 x.b) := by rw [hb1.cell (p := ⟨w.heap.size, 1, none⟩) (by simp; omega)]; simp [World.cell?_alloc_at]
  have HB1 : Hid (Below w.heap.size w w1) := ww hb1
  clear hb1
  have hBel := HB1.out
  cases h : (isB x.a && isB x.b)
  · have HE := hide (show accE x = 4 by simp [accE, h])
    simp only [Bool.false_eq_true, if_false]
    go_wp2
    go_ret
    exact ⟨ret_int HE.out.symm, by (repeat' exact bel)⟩
  · simp only [if_true]
    by_cases h2 : x.b < x.a
    · have HE := hide (show accE x = 1 by simp only [accE, h, if_true, if_pos h2])
      go_wp2
      all_goals first
        | (exfalso; omega)
        | (go_ret; exact ⟨ret_int HE.out.symm, by (repeat' exact bel)⟩)
    · have HE := hide (show accE x = 0 by simp only [accE, h, if_true, if_neg h2])
      go_wp2
      all_goals first
        | (exfalso; omega)
        | (go_ret; exact ⟨ret_int HE.out.symm, by (repeat' exact bel)⟩)

theorem blk_two' {a b : Value} {t : TypeId} {B : Nat} {w : World} (h : BlkIs w B #[a, b] t) : (w.cell? ⟨B, 0, none⟩ = some a ∧ w.cell? ⟨B, 1, none⟩ = some b) ∧ w.frozen? ⟨B, 0, none⟩ = false ∧ w.frozen? ⟨B, 1, none⟩ = false ∧ B < w.heap.size := ⟨⟨h.cell 0, h.cell 1⟩, by simp [World.frozen?, show w.heap[B]? = _ from h], by simp [World.frozen?, show w.heap[B]? = _ from h], h.lt⟩
def BkSt (P : List Po) (A : List Ac) (v1 v2 : Value) (B : Nat) (w0 w : World) : Prop := BlkIs w B #[v1, v2] 60 ∧ B < w.heap.size ∧ Posts w v1 P ∧ Accs w v2 A ∧ Below B w0 w
theorem BkSt.call {P : List Po} {A : List Ac} {v1 v2 : Value} {B : Nat} {w0 w w' : World} (h : BkSt P A v1 v2 B w0 w) (hb : Below w.heap.size w w') : BkSt P A v1 v2 B w0 w' := ⟨h.1.call hb, Nat.lt_of_lt_of_le h.2.1 hb.size, h.2.2.1.call hb, h.2.2.2.1.call hb, h.2.2.2.2.trans (hb.mono (Nat.le_of_lt h.2.1))⟩

set_option maxRecDepth 100000 in
set_option maxHeartbeats 3200000 in
theorem bcheck_any (P : List Po) (A : List Ac) (v1 v2 : Value) (w : World) (h1 : Posts w v1 P) (h2 : Accs w v2 A) (hl : P.length ≤ 100000 ∧ A.length ≤ 100000) : Calls Tryz.prog 31 #[.agg #[v1, v2]] w fun e w' => e = .returned (.int .i64 (chkE P A)) ∧ Below w.heap.size w w' := by
  have H0 := hide (show BkSt P A v1 v2 w.heap.size w (w.alloc (.cells #[v1, v2] 60)) from ⟨BlkIs.new _ _ _, by simp, h1.call (by (repeat' exact bel)), h2.call (by (repeat' exact bel)), by (repeat' exact bel)⟩)
  obtain ⟨ad1, cap1, rfl, hc1⟩ := h1
  obtain ⟨ad2, cap2, rfl, hc2⟩ := h2
  clear hc1 hc2
  go_enter Tryz.func31, Tryz.ntmps31
  by_cases hlong : 4096 < P.length ∨ 4096 < A.length
  · have HE := hide (show chkE P A = 6 by unfold chkE; rw [if_pos hlong])
    go_wp2
    all_goals (go_ret; exact ⟨ret_int HE.out.symm, by (repeat' exact bel)⟩)
  · have hp4 : P.length ≤ 4096 ∧ A.length ≤ 4096 := by omega
    have HCK := hide (show chkE P A = if dayB P then accsE A else 4 by unfold chkE; rw [if_neg hlong])
    clear hlong
    rcases Nat.lt_or_ge P.length A.length with hmx | hmx
    all_goals
      go_wp2_with fail
      go_loopw [20] (fun s wr => ∃ j : Nat, s = .int .i64 j ∧ j ≤ P.length ∧ Hid (dayB (P.take j) = true) ∧ BkSt P A (.slice ad1 P.length cap1) (.slice ad2 A.length cap2) w.heap.size w wr) (fun s _ => (P.length + 5 - intOf s).toNat)
      case atStart => exact ⟨0, rfl, Nat.zero_le _, hide (by simp [dayB]), H0.out⟩
      case round =>
        obtain ⟨j, rfl, hj, HA, hS⟩ := hrel
        have HS := hide hS
        clear hS
        have hBel := HS.out.2.2.2.2
        by_cases hlt : j < P.length
        · obtain ⟨x, hx⟩ : ∃ x, P[j]? = some x := ⟨_, List.getElem?_eq_getElem hlt⟩
          obtain ⟨g, o, rfl, hg, a0, a1⟩ := HS.out.2.2.1.at hx
          have hi1 : (0 : Int) ≤ (j : Int) := by omega
          have hi3 : (j : Int) < (P.length : Int) := by omega
          have HDX := hide (show daysE [x.day] = if isB x.day then 0 else 4 by simp [daysE])
          have HX := hide hx
          clear hx
          go_wp2_with fail
          refine (bdays_any (wr.heap.size + 1) 0 1 [x.day] _ (by simp) (fun i y hy => by
            match i, hy with
            | 0, hy => simp at hy; subst hy; simp) (by simp)).mono ?_
          rintro e w1 ⟨rfl, hb1⟩
          rw [HDX.out]
          have HS1 := hide (HS.out.call (show Below wr.heap.size wr w1 from (ww hb1).out))
          clear hb1 hBel
          have hBel := HS1.out.2.2.2.2
          cases hb : isB x.day
          · have HE := hide (show chkE P A = 4 by rw [HCK.out, dayB_no HX.out hb]; rfl)
            simp only [Bool.false_eq_true, if_false]
            go_wp2
            go_ret
            exact ⟨ret_int HE.out.symm, by (repeat' exact bel)⟩
          · have HT := hide (show dayB (P.take (j + 1)) = true by rw [dayB_take HX.out HA.out, hb])
            simp only [if_true]
            go_wp2
            go_roundw
            case rel => exact ⟨j + 1, by go_num, by omega, HT, HS1.out⟩
            case measure => simp [intOf]; omega
        · have HT := hide (show chkE P A = accsE A by
            have h := HA.out
            rw [List.take_of_length_le (by omega)] at h
            rw [HCK.out, h]; rfl)
          obtain ⟨⟨b0, b1⟩, _⟩ := blk_two' HS.out.1
          obtain ⟨wo, hwo⟩ : ∃ wo : World, wo = wr := ⟨_, rfl⟩
          rw [← hwo] at HS b0 b1 ⊢
          clear hwo hBel
          go_wp2_with fail
          go_loopw [35] (fun s wr => ∃ j : Nat, s = .int .i64 j ∧ j ≤ A.length ∧ Hid (accsE (A.take j) = 0) ∧ BkSt P A (.slice ad1 P.length cap1) (.slice ad2 A.length cap2) w.heap.size w wr) (fun s _ => (A.length + 5 - intOf s).toNat)
          case atStart => exact ⟨0, rfl, Nat.zero_le _, hide rfl, HS.out⟩
          case round =>
            obtain ⟨k, rfl, hk, HA2, hS⟩ := hrel
            have HS2 := hide hS
            clear hS
            have hBel := HS2.out.2.2.2.2
            by_cases hlt2 : k < A.length
            · obtain ⟨x, hx⟩ : ∃ x, A[k]? = some x := ⟨_, List.getElem?_eq_getElem hlt2⟩
              obtain ⟨g, o, rfl, hg, a0, a1, a2⟩ := HS2.out.2.2.2.1.at hx
              have hi1 : (0 : Int) ≤ (k : Int) := by omega
              have hi3 : (k : Int) < (A.length : Int) := by omega
              have HX := hide hx
              clear hx
              go_wp2_with fail
              refine (baccr_any x _).mono ?_
              rintro e w1 ⟨rfl, hb1⟩
              have HS3 := hide (HS2.out.call (show Below wr.heap.size wr w1 from (ww hb1).out))
              clear hb1 hBel
              have hBel := HS3.out.2.2.2.2
              by_cases hb : accE x = 0
              · have HT2 := hide (accsE_take HX.out HA2.out hb)
                have HB0 := hide hb
                rw [HB0.out]
                clear hb
                go_wp2
                go_roundw
                case rel => exact ⟨k + 1, by go_num, by omega, HT2, HS3.out⟩
                case measure => simp [intOf]; omega
              · have HE := hide (show chkE P A = accE x by rw [HT.out, accsE_no HX.out HA2.out hb])
                go_wp2
                go_ret
                exact ⟨ret_int HE.out.symm, by (repeat' exact bel)⟩
            · have HE := hide (show chkE P A = 0 by
                have h := HA2.out
                rw [List.take_of_length_le (by omega)] at h
                rw [HT.out, h])
              go_wp2
              go_ret
              exact ⟨ret_int HE.out.symm, by (repeat' exact bel)⟩
end Go.Proofs.YtamnccechaooaaaGreat
