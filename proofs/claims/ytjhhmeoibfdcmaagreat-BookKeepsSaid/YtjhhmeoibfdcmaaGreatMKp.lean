/- The reference of layer 22: whether a book may be. The reference of layer 22: why one posting more can not be. Package book: why one accrual more can not be. The reference of layer 22: why one accrual more can not be. Package book: one posting more, beside any accruals. The reference of layer 22: a book's own copy. The reference of layer 22: one more, where it may be. Package book: one accrual more. The reference of layer 22: books that are the same. The reference of layer 22: two books of the same rows are the same. BookKeeps: what each of the four calls leaves; a row of one's own whose numbers are counted up. -/
import Derived.Test.YtjhhmeoibfdcmaaGreatMBt
import Derived.Test.YtjhhmeoibfdcmaaGreatBookK
import Derived.Test.YtjhhmeoibfdcmaaGreatMBk
import Derived.Test.YtjhhmeoibfdcmaaGreatBookX
import Derived.Test.YtjhhmeoibfdcmaaGreatRdUn
import Derived.BigQuiet
import Derived.Test.YtjhhmeoibfdcmaaGreatBookH
namespace Go.Proofs.YtjhhmeoibfdcmaaGreat
open Go.RowKit Qd
set_option linter.unusedSimpArgs false
set_option linter.unusedVariables false

set_option maxRecDepth 100000 in
set_option maxHeartbeats 3200000 in
theorem r22check_any (P : List Po) (A : List Ac) (v1 v2 : Value) (w : World) (h1 : Posts w v1 P) (h2 : Accs w v2 A) (hl : P.length ≤ 100000 ∧ A.length ≤ 100000) : Calls Tryz.prog 20 #[.agg #[v1, v2]] w fun e w' => e = .returned (.int .i64 (chkE P A)) ∧ Below w.heap.size w w' := by
  have H0 := hide (show BkSt P A v1 v2 w.heap.size w (w.alloc (.cells #[v1, v2] 30)) from ⟨BlkIs.new _ _ _, by simp, h1.call (by (repeat' exact bel)), h2.call (by (repeat' exact bel)), by (repeat' exact bel)⟩)
  obtain ⟨ad1, cap1, rfl, hc1⟩ := h1
  obtain ⟨ad2, cap2, rfl, hc2⟩ := h2
  clear hc1 hc2
  go_enter Tryz.func20, Tryz.ntmps20
  by_cases hlong : 4096 < P.length ∨ 4096 < A.length
  · have HE := hide (show chkE P A = 6 by unfold chkE; rw [if_pos hlong])
    rcases hlong with hl1 | hl1
    all_goals
      go_wp2
      all_goals first
        | (exfalso; omega)
        | (go_ret; exact ⟨ret_int HE.out.symm, by (repeat' exact bel)⟩)
  · have hp4 : P.length ≤ 4096 ∧ A.length ≤ 4096 := by omega
    have HCK := hide (show chkE P A = if dayB P then accsE A else 4 by unfold chkE; rw [if_neg hlong])
    clear hlong
    go_wp2_with fail
    all_goals first
      | (exfalso; omega)
      | skip
    go_loopw [21] (fun s wr => ∃ j : Nat, s = .int .i64 j ∧ j ≤ P.length ∧ Hid (dayB (P.take j) = true) ∧ BkSt P A (.slice ad1 P.length cap1) (.slice ad2 A.length cap2) w.heap.size w wr) (fun s _ => (P.length + 5 - intOf s).toNat)
    case atStart => exact ⟨0, rfl, Nat.zero_le _, hide (by simp [dayB]), H0.out⟩
    case round =>
      obtain ⟨j, rfl, hj, HA, hS⟩ := hrel
      have HS := hide hS
      clear hS
      have hBel := HS.out.2.2.2.2
      by_cases hlt : j < P.length
      · obtain ⟨x, hx⟩ : ∃ x, P[j]? = some x := ⟨_, List.getElem?_eq_getElem hlt⟩
        obtain ⟨g, o, rfl, hg, a0, a1⟩ := HS.out.2.2.1.at hx
        have hi1 : (0 : Int) ≤ (j : Int) := by omega
        have hi3 : (j : Int) < (P.length : Int) := by omega
        have HX := hide hx
        clear hx
        go_wp2_with fail
        refine (r22is_any x.day _).mono ?_
        rintro e w1 ⟨rfl, rfl⟩
        have HS1 := hide (HS.out.call (show Below wr.heap.size wr (wr.alloc (.cells #[.int .i64 x.day, .int .i64 x.n] 32)) by (repeat' exact bel)))
        clear hBel
        have hBel := HS1.out.2.2.2.2
        cases hb : isB x.day
        · have HE := hide (show chkE P A = 4 by rw [HCK.out, dayB_no HX.out hb]; rfl)
          go_wp2
          go_ret
          exact ⟨ret_int HE.out.symm, by (repeat' exact bel)⟩
        · have HT := hide (show dayB (P.take (j + 1)) = true by rw [dayB_take HX.out HA.out, hb])
          go_wp2
          go_roundw
          case rel => exact ⟨j + 1, by go_num, by omega, HT, HS1.out⟩
          case measure => simp [intOf]; omega
      · have HT := hide (show chkE P A = accsE A by
          have h := HA.out
          rw [List.take_of_length_le (by omega)] at h
          rw [HCK.out, h]; rfl)
        obtain ⟨⟨b0, b1⟩, _⟩ := blk_two' HS.out.1
        obtain ⟨wo, hwo⟩ : ∃ wo : World, wo = wr := ⟨_, rfl⟩
        rw [← hwo] at HS b0 b1 ⊢
        clear hwo hBel
        go_wp2_with fail
        go_loopw [33] (fun s wr => ∃ j : Nat, s = .int .i64 j ∧ j ≤ A.length ∧ Hid (accsE (A.take j) = 0) ∧ BkSt P A (.slice ad1 P.length cap1) (.slice ad2 A.length cap2) w.heap.size w wr) (fun s _ => (A.length + 5 - intOf s).toNat)
        case atStart => exact ⟨0, rfl, Nat.zero_le _, hide rfl, HS.out⟩
        case round =>
          obtain ⟨k, rfl, hk, HA2, hS⟩ := hrel
          have HS2 := hide hS
          clear hS
          have hBel := HS2.out.2.2.2.2
          by_cases hlt2 : k < A.length
          · obtain ⟨x, hx⟩ : ∃ x, A[k]? = some x := ⟨_, List.getElem?_eq_getElem hlt2⟩
            obtain ⟨g, o, rfl, hg, a0, a1, a2⟩ := HS2.out.2.2.2.1.at hx
            have hi1 : (0 : Int) ≤ (k : Int) := by omega
            have hi3 : (k : Int) < (A.length : Int) := by omega
            have HX := hide hx
            clear hx
            go_wp2_with fail
            refine (r22acc_any x _).mono ?_
            rintro e w1 ⟨rfl, hb1⟩
            have HS3 := hide (HS2.out.call (show Below wr.heap.size wr w1 from (ww hb1).out))
            clear hb1 hBel
            have hBel := HS3.out.2.2.2.2
            by_cases hb : accE x = 0
            · have HT2 := hide (accsE_take HX.out HA2.out hb)
              have HB0 := hide hb
              rw [HB0.out]
              clear hb
              go_wp2
              go_roundw
              case rel => exact ⟨k + 1, by go_num, by omega, HT2, HS3.out⟩
              case measure => simp [intOf]; omega
            · have HE := hide (show chkE P A = accE x by rw [HT.out, accsE_no HX.out HA2.out hb])
              go_wp2
              go_ret
              exact ⟨ret_int HE.out.symm, by (repeat' exact bel)⟩
          · have HE := hide (show chkE P A = 0 by
              have h := HA2.out
              rw [List.take_of_length_le (by omega)] at h
              rw [HT.out, h])
            go_wp2
            go_ret
            exact ⟨ret_int HE.out.symm, by (repeat' exact bel)⟩
end Go.Proofs.YtjhhmeoibfdcmaaGreat

namespace Go.Proofs.YtjhhmeoibfdcmaaGreat
open Go.RowKit Qd
set_option linter.unusedSimpArgs false
set_option linter.unusedVariables false

set_option maxRecDepth 100000 in
set_option maxHeartbeats 3200000 in
theorem r22put_no (P : List Po) (A : List Ac) (p : Po) (v1 v2 : Value) (w : World) (h1 : Posts w v1 P) (h2 : Accs w v2 A) (hl : P.length ≤ 100000 ∧ A.length ≤ 100000) (hE : ¬ putE P A p = 0) :
    Calls Tryz.prog 15 #[.agg #[v1, v2], .agg #[.int .i64 p.day, .int .i64 p.n]] w fun e w' => e = .returned (.tuple #[.agg #[.slice none 0 0, .slice none 0 0], .int .i64 (putE P A p)]) ∧ Below w.heap.size w w' := by
  have H1 := hide h1
  have H2 := hide h2
  obtain ⟨ad1, cap1, rfl, _⟩ := h1
  obtain ⟨ad2, cap2, rfl, _⟩ := h2
  obtain ⟨E, hCE⟩ : ∃ E, chkE P A = E := ⟨_, rfl⟩
  have hPE : putE P A p = if E = 0 then (if (P.length : Int) = 4096 then 6 else if isB p.day then 0 else 4) else E := by
    rw [putE, roomE, hCE]
    have hd : daysE [p.day] = if isB p.day then 0 else 4 := by simp [daysE]
    rw [hd]
    by_cases h0 : E = 0
    · rw [if_pos h0, if_pos h0]
      by_cases hm : (P.length : Int) = 4096
      · rw [if_pos hm, if_pos hm]; rfl
      · rw [if_neg hm, if_neg hm]; rfl
    · rw [if_neg h0, if_neg h0, if_neg h0]
  rw [hPE] at hE
  have HCE := hide hCE
  have HPE := hide hPE
  clear hCE hPE
  go_enter Tryz.func15, Tryz.ntmps15
  go_wp2_with fail
  refine (r22check_any P A _ _ (((w.alloc (.cells #[.slice ad1 P.length cap1, .slice ad2 A.length cap2] 30)).alloc (.cells #[.int .i64 p.day, .int .i64 p.n] 32)).alloc (.cells #[.slice none 0 0, .slice none 0 0] 30)) (H1.out.call (by (repeat' exact bel))) (H2.out.call (by (repeat' exact bel))) hl).mono ?_
  rintro e w1 ⟨rfl, hb1⟩
  rw [HCE.out]
  have HS1 := hide (show BlkIs w1 w.heap.size #[.slice ad1 P.length cap1, .slice ad2 A.length cap2] 30 ∧ BlkIs w1 (w.heap.size + 1) #[.int .i64 p.day, .int .i64 p.n] 32 ∧ BlkIs w1 (w.heap.size + 1 + 1) #[.slice none 0 0, .slice none 0 0] 30 by
    refine ⟨BlkIs.call (((BlkIs.new w _ _).alloc _).alloc _) hb1, BlkIs.call (BlkIs.alloc ?_ _) hb1, BlkIs.call ?_ hb1⟩
    · simpa using BlkIs.new (w.alloc (.cells #[.slice ad1 P.length cap1, .slice ad2 A.length cap2] 30)) #[.int .i64 p.day, .int .i64 p.n] 32
    · simpa using BlkIs.new ((w.alloc (.cells #[.slice ad1 P.length cap1, .slice ad2 A.length cap2] 30)).alloc (.cells #[.int .i64 p.day, .int .i64 p.n] 32)) #[.slice none 0 0, .slice none 0 0] 30)
  have HB1 : Hid (Below w.heap.size w w1) := ww hb1
  clear hb1
  obtain ⟨⟨k0, k1⟩, _, _, hz0⟩ := blk_two' HS1.out.1
  obtain ⟨⟨p0, p1⟩, _, _, hz1⟩ := blk_two' HS1.out.2.1
  obtain ⟨⟨r0, r1⟩, f0, f1, hz2⟩ := blk_two' HS1.out.2.2
  have hle := HB1.out.size
  have hBel := HB1.out
  by_cases h0 : E = 0
  · subst h0
    rw [if_pos rfl] at hE
    by_cases hm : (P.length : Int) = 4096
    · have HF := hide (show putE P A p = 6 by rw [HPE.out, if_pos rfl, if_pos hm])
      have hmb : ((P.length : Int) == 4096) = true := by simpa using hm
      clear hE hm
      go_wp2
      refine bodyPost_ret (v := .tuple #[.agg #[.slice none 0 0, .slice none 0 0], .int .i64 6]) (by simp (maxDischargeDepth := 9) [results, Tryz.results15, go_sem, r0, r1, f0, f1, hz2]) rfl ⟨by rw [HF.out], by (repeat' exact bel)⟩
    · rw [if_neg hm] at hE
      have hd : isB p.day = false := by
        cases h : isB p.day
        · rfl
        · rw [h] at hE; exact absurd rfl hE
      have HF := hide (show putE P A p = 4 by rw [HPE.out, if_pos rfl, if_neg hm, hd]; rfl)
      have hmb : ((P.length : Int) == 4096) = false := by simpa using hm
      clear hE hm
      go_wp2_with fail
      refine (r22is_any p.day _).mono ?_
      rintro e w2 ⟨rfl, rfl⟩
      rw [hd]
      go_wp2
      refine bodyPost_ret (v := .tuple #[.agg #[.slice none 0 0, .slice none 0 0], .int .i64 4]) (by simp (maxDischargeDepth := 9) [results, Tryz.results15, go_sem, r0, r1, f0, f1, hz2]) rfl ⟨by rw [HF.out], by (repeat' exact bel)⟩
  · have HF := hide (show putE P A p = E by rw [HPE.out, if_neg h0])
    have hEb : (E != 0) = true := by simpa using h0
    clear hE h0
    go_wp2
    refine bodyPost_ret (v := .tuple #[.agg #[.slice none 0 0, .slice none 0 0], .int .i64 E]) (by simp (maxDischargeDepth := 9) [results, Tryz.results15, go_sem, r0, r1, f0, f1, hz2]) rfl ⟨by rw [HF.out], by (repeat' exact bel)⟩
end Go.Proofs.YtjhhmeoibfdcmaaGreat

namespace Go.Proofs.YtjhhmeoibfdcmaaGreat
open Go.RowKit Qd
set_option linter.unusedSimpArgs false
set_option linter.unusedVariables false

def accrE (P : List Po) (A : List Ac) (p : Ac) : Int := if roomE P A A.length = 0 then accE p else roomE P A A.length
set_option maxRecDepth 100000 in
set_option maxHeartbeats 3200000 in
theorem accr_no (P : List Po) (A : List Ac) (p : Ac) (v1 v2 : Value) (w : World) (h1 : Posts w v1 P) (h2 : Accs w v2 A) (hl : P.length ≤ 100000 ∧ A.length ≤ 100000) (hE : ¬ accrE P A p = 0) :
    Calls Tryz.prog 16 #[.agg #[v1, v2], .agg #[.int .i64 p.a, .int .i64 p.b, .int .i64 p.n]] w fun e w' => e = .returned (.tuple #[.agg #[.slice none 0 0, .slice none 0 0], .int .i64 (accrE P A p)]) ∧ Below w.heap.size w w' := by
  have H1 := hide h1
  have H2 := hide h2
  obtain ⟨ad1, cap1, rfl, _⟩ := h1
  obtain ⟨ad2, cap2, rfl, _⟩ := h2
  obtain ⟨E, hRE⟩ : ∃ E, roomE P A A.length = E := ⟨_, rfl⟩
  obtain ⟨D, hD⟩ : ∃ D, accE p = D := ⟨_, rfl⟩
  have hPE : accrE P A p = if E = 0 then D else E := by rw [accrE, hRE, hD]
  rw [hPE] at hE
  have HRE := hide hRE
  have HD := hide hD
  have HPE := hide hPE
  clear hRE hD hPE
  go_enter Tryz.func16, Tryz.ntmps16
  go_wp2_with fail
  refine (broom_any P A _ _ A.length (((w.alloc (.cells #[.slice ad1 P.length cap1, .slice ad2 A.length cap2] 30)).alloc (.cells #[.int .i64 p.a, .int .i64 p.b, .int .i64 p.n] 47)).alloc (.cells #[.slice none 0 0, .slice none 0 0] 30)) (H1.out.call (by (repeat' exact bel))) (H2.out.call (by (repeat' exact bel))) hl).mono ?_
  rintro e w1 ⟨rfl, hb1⟩
  rw [HRE.out]
  have HS1 := hide (show BlkIs w1 (w.heap.size + 1) #[.int .i64 p.a, .int .i64 p.b, .int .i64 p.n] 47 ∧ BlkIs w1 (w.heap.size + 1 + 1) #[.slice none 0 0, .slice none 0 0] 30 by
    refine ⟨BlkIs.call (BlkIs.alloc ?_ _) hb1, BlkIs.call ?_ hb1⟩
    · simpa using BlkIs.new (w.alloc (.cells #[.slice ad1 P.length cap1, .slice ad2 A.length cap2] 30)) #[.int .i64 p.a, .int .i64 p.b, .int .i64 p.n] 47
    · simpa using BlkIs.new ((w.alloc (.cells #[.slice ad1 P.length cap1, .slice ad2 A.length cap2] 30)).alloc (.cells #[.int .i64 p.a, .int .i64 p.b, .int .i64 p.n] 47)) #[.slice none 0 0, .slice none 0 0] 30)
  have HB1 : Hid (Below w.heap.size w w1) := ww hb1
  clear hb1
  obtain ⟨⟨p0, p1, p2⟩, hz1⟩ := blk_three' HS1.out.1
  obtain ⟨⟨r0, r1⟩, f0, f1, hz2⟩ := blk_two' HS1.out.2
  have hle := HB1.out.size
  have hBel := HB1.out
  by_cases h0 : E = 0
  · subst h0
    rw [if_pos rfl] at hE
    have HF := hide (show accrE P A p = D by rw [HPE.out, if_pos rfl])
    have hDb : (D != 0) = true := by simpa using hE
    clear hE
    go_wp2_with fail
    refine (baccr_any p w1).mono ?_
    rintro e w2 ⟨rfl, hb2⟩
    rw [HD.out]
    have HB2 : Hid (Below w1.heap.size w1 w2) := ww hb2
    clear hb2 p0 p1 p2 r0 r1 f0 f1
    have HBW := hide (HB1.out.trans (HB2.out.mono HB1.out.size))
    obtain ⟨⟨r0, r1⟩, f0, f1, hz3⟩ := blk_two' (HS1.out.2.call HB2.out)
    have hBel2 := HBW.out
    go_wp2
    refine bodyPost_ret (v := .tuple #[.agg #[.slice none 0 0, .slice none 0 0], .int .i64 D]) (by simp (maxDischargeDepth := 9) [results, Tryz.results16, go_sem, r0, r1, f0, f1, hz3]) rfl ⟨by rw [HF.out], by (repeat' exact bel)⟩
  · have HF := hide (show accrE P A p = E by rw [HPE.out, if_neg h0])
    have hEb : (E != 0) = true := by simpa using h0
    clear hE h0
    go_wp2
    refine bodyPost_ret (v := .tuple #[.agg #[.slice none 0 0, .slice none 0 0], .int .i64 E]) (by simp (maxDischargeDepth := 9) [results, Tryz.results16, go_sem, r0, r1, f0, f1, hz2]) rfl ⟨by rw [HF.out], by (repeat' exact bel)⟩
end Go.Proofs.YtjhhmeoibfdcmaaGreat

namespace Go.Proofs.YtjhhmeoibfdcmaaGreat
open Go.RowKit Qd
set_option linter.unusedSimpArgs false
set_option linter.unusedVariables false

set_option maxRecDepth 100000 in
set_option maxHeartbeats 3200000 in
theorem r22accr_no (P : List Po) (A : List Ac) (p : Ac) (v1 v2 : Value) (w : World) (h1 : Posts w v1 P) (h2 : Accs w v2 A) (hl : P.length ≤ 100000 ∧ A.length ≤ 100000) (hE : ¬ accrE P A p = 0) :
    Calls Tryz.prog 17 #[.agg #[v1, v2], .agg #[.int .i64 p.a, .int .i64 p.b, .int .i64 p.n]] w fun e w' => e = .returned (.tuple #[.agg #[.slice none 0 0, .slice none 0 0], .int .i64 (accrE P A p)]) ∧ Below w.heap.size w w' := by
  have H1 := hide h1
  have H2 := hide h2
  obtain ⟨ad1, cap1, rfl, _⟩ := h1
  obtain ⟨ad2, cap2, rfl, _⟩ := h2
  obtain ⟨E, hCE⟩ : ∃ E, chkE P A = E := ⟨_, rfl⟩
  have hPE : accrE P A p = if E = 0 then (if (A.length : Int) = 4096 then 6 else accE p) else E := by
    rw [accrE, roomE, hCE]
    by_cases h0 : E = 0
    · rw [if_pos h0, if_pos h0]
      by_cases hm : (A.length : Int) = 4096
      · rw [if_pos hm, if_pos hm]; rfl
      · rw [if_neg hm, if_neg hm]; rfl
    · rw [if_neg h0, if_neg h0, if_neg h0]
  rw [hPE] at hE
  have HCE := hide hCE
  have HPE := hide hPE
  clear hCE hPE
  go_enter Tryz.func17, Tryz.ntmps17
  go_wp2_with fail
  refine (r22check_any P A _ _ (((w.alloc (.cells #[.slice ad1 P.length cap1, .slice ad2 A.length cap2] 30)).alloc (.cells #[.int .i64 p.a, .int .i64 p.b, .int .i64 p.n] 47)).alloc (.cells #[.slice none 0 0, .slice none 0 0] 30)) (H1.out.call (by (repeat' exact bel))) (H2.out.call (by (repeat' exact bel))) hl).mono ?_
  rintro e w1 ⟨rfl, hb1⟩
  rw [HCE.out]
  have HS1 := hide (show BlkIs w1 w.heap.size #[.slice ad1 P.length cap1, .slice ad2 A.length cap2] 30 ∧ BlkIs w1 (w.heap.size + 1) #[.int .i64 p.a, .int .i64 p.b, .int .i64 p.n] 47 ∧ BlkIs w1 (w.heap.size + 1 + 1) #[.slice none 0 0, .slice none 0 0] 30 by
    refine ⟨BlkIs.call (((BlkIs.new w _ _).alloc _).alloc _) hb1, BlkIs.call (BlkIs.alloc ?_ _) hb1, BlkIs.call ?_ hb1⟩
    · simpa using BlkIs.new (w.alloc (.cells #[.slice ad1 P.length cap1, .slice ad2 A.length cap2] 30)) #[.int .i64 p.a, .int .i64 p.b, .int .i64 p.n] 47
    · simpa using BlkIs.new ((w.alloc (.cells #[.slice ad1 P.length cap1, .slice ad2 A.length cap2] 30)).alloc (.cells #[.int .i64 p.a, .int .i64 p.b, .int .i64 p.n] 47)) #[.slice none 0 0, .slice none 0 0] 30)
  have HB1 : Hid (Below w.heap.size w w1) := ww hb1
  clear hb1
  obtain ⟨⟨k0, k1⟩, _, _, hz0⟩ := blk_two' HS1.out.1
  obtain ⟨⟨p0, p1, p2⟩, hz1⟩ := blk_three' HS1.out.2.1
  obtain ⟨⟨r0, r1⟩, f0, f1, hz2⟩ := blk_two' HS1.out.2.2
  have hle := HB1.out.size
  have hBel := HB1.out
  by_cases h0 : E = 0
  · subst h0
    rw [if_pos rfl] at hE
    by_cases hm : (A.length : Int) = 4096
    · have HF := hide (show accrE P A p = 6 by rw [HPE.out, if_pos rfl, if_pos hm])
      have hmb : ((A.length : Int) == 4096) = true := by simpa using hm
      clear hE hm
      go_wp2
      refine bodyPost_ret (v := .tuple #[.agg #[.slice none 0 0, .slice none 0 0], .int .i64 6]) (by simp (maxDischargeDepth := 9) [results, Tryz.results17, go_sem, r0, r1, f0, f1, hz2]) rfl ⟨by rw [HF.out], by (repeat' exact bel)⟩
    · rw [if_neg hm] at hE
      have HF := hide (show accrE P A p = accE p by rw [HPE.out, if_pos rfl, if_neg hm])
      have hmb : ((A.length : Int) == 4096) = false := by simpa using hm
      obtain ⟨D, hD⟩ : ∃ D, accE p = D := ⟨_, rfl⟩
      rw [hD] at hE HF
      have HD := hide hD
      have hDb : (D != 0) = true := by simpa using hE
      clear hE hm hD
      go_wp2_with fail
      refine (r22acc_any p _).mono ?_
      rintro e w2 ⟨rfl, hb2⟩
      rw [HD.out]
      have HB2 : Hid (Below w1.heap.size w1 w2) := ww hb2
      have HBW := hide (HB1.out.trans (HB2.out.mono HB1.out.size))
      clear hb2 r0 r1 f0 f1 k0 k1 p0 p1 p2
      obtain ⟨⟨r0, r1⟩, f0, f1, hz3⟩ := blk_two' (HS1.out.2.2.call HB2.out)
      have hBel2 := HBW.out
      go_wp2
      refine bodyPost_ret (v := .tuple #[.agg #[.slice none 0 0, .slice none 0 0], .int .i64 D]) (by simp (maxDischargeDepth := 9) [results, Tryz.results17, go_sem, r0, r1, f0, f1, hz3]) rfl ⟨by rw [HF.out], by (repeat' exact bel)⟩
  · have HF := hide (show accrE P A p = E by rw [HPE.out, if_neg h0])
    have hEb : (E != 0) = true := by simpa using h0
    clear hE h0
    go_wp2
    refine bodyPost_ret (v := .tuple #[.agg #[.slice none 0 0, .slice none 0 0], .int .i64 E]) (by simp (maxDischargeDepth := 9) [results, Tryz.results17, go_sem, r0, r1, f0, f1, hz2]) rfl ⟨by rw [HF.out], by (repeat' exact bel)⟩
end Go.Proofs.YtjhhmeoibfdcmaaGreat

namespace Go.Proofs.YtjhhmeoibfdcmaaGreat
open Go.RowKit Qd
set_option linter.unusedSimpArgs false
set_option linter.unusedVariables false

theorem grown_keepP {w w' : World} {b : Nat} {v : Value} {l : List Po} (hown : OwnP w b v l) (hg : w.grownBy w' v.ownBlock) : KeepP w w' := by
  refine ⟨hg.size, fun B cs t ht hB => (hg.block B (Array.getElem?_eq_some_iff.1 hB).1 (fun e => ?_)).trans hB⟩
  rcases hown.2 with ⟨h1, _⟩ | ⟨g', cap', cur, h1, _, h3', _⟩
  · rw [h1] at e; simp [Value.ownBlock] at e
  · rw [h1] at e
    obtain rfl : B = g' := by simpa [Value.ownBlock] using e
    rw [h3'] at hB
    cases hB
    exact ht rfl
theorem ownA_base {w : World} {b b' : Nat} {v : Value} {l : List Ac} (h : OwnA w b v l) (hb : b' ≤ b) : OwnA w b' v l := by
  refine ⟨h.1, ?_⟩
  rcases h.2 with h1 | ⟨g', cap', cur, he, h2, h3⟩
  · exact .inl h1
  · exact .inr ⟨g', cap', cur, he, Nat.le_trans hb h2, h3⟩
theorem blk_low {K : Nat} {w w' : World} {B : Nat} {cs : Array Value} {t : TypeId} (h : BlkIs w B cs t) (hb : Below K w w') (hB : B < K) : BlkIs w' B cs t := (hb.block B hB).trans h
/-- The book as it is when the region is through. -/
def PutF (B m b : Nat) (l : List Po) (A : List Ac) (w wx : World) : Prop := ∃ g cap ad2 cap2, BlkIs wx B #[.slice (some ⟨g, 0, none⟩) l.length cap, .slice ad2 A.length cap2] 30 ∧ OwnP wx m (.slice (some ⟨g, 0, none⟩) l.length cap) l ∧ OwnA wx m (.slice ad2 A.length cap2) A ∧ Below b w wx
theorem put_endF {w w2 w4 : World} {B g cap : Nat} {x y : Value} {l : List Po} {A : List Ac} {p : Po} {ad2 : Option Addr} {cap2 : Nat} (h2 : BlkIs w2 B #[x, y] 30) (hw : Below w.heap.size w w2) (h4 : Below w2.heap.size w2 w4) (hB : w.heap.size ≤ B) (hl : B < w2.heap.size)
    (ho : OwnP w4 w2.heap.size (.slice (some ⟨g, 0, none⟩) (l.length + 1) cap) (l ++ [p])) (ha : OwnA w4 w2.heap.size (.slice ad2 A.length cap2) A) :
    PutF B w2.heap.size w.heap.size (l ++ [p]) A w ((w4.setCell ⟨B, 0, none⟩ (.slice (some ⟨g, 0, none⟩) (l.length + 1) cap)).setCell ⟨B, 1, none⟩ (.slice ad2 A.length cap2)) := by
  have ho' : OwnP w4 w2.heap.size (.slice (some ⟨g, 0, none⟩) (l ++ [p]).length cap) (l ++ [p]) := by
    simpa using ho
  refine ⟨g, cap, ad2, cap2, ?_, ownP_far (ownP_far ho' ⟨B, 0, none⟩ _ hl) ⟨B, 1, none⟩ _ hl, ownA_far (ownA_far ha ⟨B, 0, none⟩ _ hl) ⟨B, 1, none⟩ _ hl, ((hw.trans (h4.mono hw.size)).setCell hB _).setCell hB _⟩
  rw [List.length_append]
  exact blk_s1 (blk_s0 (h2.call h4) _) _
theorem ownP_app {w' : World} {m g cap : Nat} {l : List Po} {p : Po} (h : w'.ownsRow m 32 2 (.slice (some ⟨g, 0, none⟩) (l.length + 1) cap) (l.length + 1) (flatP l ++ [.int .i64 p.day, .int .i64 p.n])) : OwnP w' m (.slice (some ⟨g, 0, none⟩) (l.length + 1) cap) (l ++ [p]) := by
  unfold OwnP
  rw [flatP_snoc]
  simpa using h

set_option maxRecDepth 100000 in
set_option maxHeartbeats 12800000 in
theorem put_any (P : List Po) (A : List Ac) (p : Po) (v1 v2 : Value) (w : World) (h1 : Posts w v1 P) (h2 : Accs w v2 A) (hv : v1 = .slice none 0 0 ∨ ∃ ad cap, v1 = .slice (some ad) P.length cap) (hv2 : v2 = .slice none 0 0 ∨ ∃ ad cap, v2 = .slice (some ad) A.length cap) (hl : P.length < 4096) (hl2 : A.length ≤ 4096) (hc : chkE P A = 0) (hd : isB p.day = true) :
    Calls Tryz.prog 11 #[.agg #[v1, v2], .agg #[.int .i64 p.day, .int .i64 p.n]] w fun e w' => (∃ x y, e = .returned (.tuple #[.agg #[x, y], .int .i64 0]) ∧ OwnP w' w.heap.size x (P ++ [p]) ∧ OwnA w' w.heap.size y A) ∧ Below w.heap.size w w' := by
  have H1 := hide h1
  have H2 := hide h2
  have HC := hide hc
  have HV := hide hv
  have HV2 := hide hv2
  have HDY := hide (show daysE [p.day] = 0 by simp [daysE, hd])
  obtain ⟨ad1, cap1, hv1, _⟩ := h1
  obtain ⟨ad2, cap2, hv12, _⟩ := h2
  obtain ⟨i0, hi, hi0, hi1, hi2⟩ := info_parts post_info
  clear hc hd hv hv2
  subst hv1 hv12
  go_enter Tryz.func11, Tryz.ntmps11
  go_wp2_with fail
  refine (broom_ok P A _ _ _ (((w.alloc (.cells #[.slice ad1 P.length cap1, .slice ad2 A.length cap2] 30)).alloc (.cells #[.int .i64 p.day, .int .i64 p.n] 32)).alloc (.cells #[.slice none 0 0, .slice none 0 0] 30)) (H1.out.call (by (repeat' exact bel))) (H2.out.call (by (repeat' exact bel))) (by omega) HC.out (by omega)).mono ?_
  rintro e w1 ⟨rfl, hb1⟩
  have HS1 := hide (show BlkIs w1 w.heap.size #[.slice ad1 P.length cap1, .slice ad2 A.length cap2] 30 ∧ BlkIs w1 (w.heap.size + 1) #[.int .i64 p.day, .int .i64 p.n] 32 ∧ BlkIs w1 (w.heap.size + 1 + 1) #[.slice none 0 0, .slice none 0 0] 30 by
    refine ⟨BlkIs.call (((BlkIs.new w _ _).alloc _).alloc _) hb1, BlkIs.call (BlkIs.alloc ?_ _) hb1, BlkIs.call ?_ hb1⟩
    · simpa using BlkIs.new (w.alloc (.cells #[.slice ad1 P.length cap1, .slice ad2 A.length cap2] 30)) #[.int .i64 p.day, .int .i64 p.n] 32
    · simpa using BlkIs.new ((w.alloc (.cells #[.slice ad1 P.length cap1, .slice ad2 A.length cap2] 30)).alloc (.cells #[.int .i64 p.day, .int .i64 p.n] 32)) #[.slice none 0 0, .slice none 0 0] 30)
  have HB1 : Hid (Below w.heap.size w w1) := ww hb1
  clear hb1
  obtain ⟨⟨k0, k1⟩, _, _, hz0⟩ := blk_two' HS1.out.1
  obtain ⟨⟨p0, p1⟩, _, _, hz1⟩ := blk_two' HS1.out.2.1
  obtain ⟨⟨r0, r1⟩, f0, f1, hz2⟩ := blk_two' HS1.out.2.2
  go_wp2_with fail
  refine (bdays_any w1.heap.size 0 1 [p.day] (w1.alloc (.cells #[.int .i64 p.day] 3)) (by simp) (fun i y hy => by
    match i, hy with
    | 0, hy => simp at hy; subst hy; simp) (by simp)).mono ?_
  rintro e w2 ⟨rfl, hb2⟩
  rw [HDY.out]
  have HB2 : Hid (Below w1.heap.size w1 w2) := ww hb2
  clear hb2 k0 k1 p0 p1 r0 r1 f0 f1 hz0 hz1 hz2
  have HS2 := hide (And.intro (HS1.out.1.call HB2.out) (And.intro (HS1.out.2.1.call HB2.out) (HS1.out.2.2.call HB2.out)))
  have HBW := hide (HB1.out.trans (HB2.out.mono HB1.out.size))
  obtain ⟨⟨k0, k1⟩, _, _, hz0⟩ := blk_two' HS2.out.1
  obtain ⟨⟨p0, p1⟩, _, _, hz1⟩ := blk_two' HS2.out.2.1
  obtain ⟨⟨r0, r1⟩, f0, f1, hz2⟩ := blk_two' HS2.out.2.2
  have HP2 := hide (H1.out.call HBW.out)
  have HA2 := hide (H2.out.call HBW.out)
  have HL := hide (show P.length ≤ 100000 by omega)
  have HLA := hide (show A.length ≤ 100000 by omega)
  go_upto_region 7 with fail
  have hmx : P.length + 1 ≤ maxLen := by unfold maxLen; omega
  have hbx : (P.length + 1) * 16 ≤ 140737488355328 := by omega
  have k7 := hide trivial
  go_cut [5] (fun s5 wx => s5 = .int .i64 0 ∧ PutF (w.heap.size + 1 + 1) w2.heap.size w.heap.size (P ++ [p]) A w wx)
  case first =>
    go_region_held3 (fun w' => ((w'.cell? ⟨w.heap.size, 0, none⟩ = some (.slice ad1 P.length cap1) ∧ w'.cell? ⟨w.heap.size, 1, none⟩ = some (.slice ad2 A.length cap2)) ∧ (w'.cell? ⟨w.heap.size + 1, 0, none⟩ = some (.int .i64 p.day) ∧ w'.cell? ⟨w.heap.size + 1, 1, none⟩ = some (.int .i64 p.n)))) (exact ⟨(blk_two' (blk_low (K := w.heap.size + 1 + 1) HS2.out.1 (by (repeat' exact bel)) (by omega))).1, (blk_two' (blk_low (K := w.heap.size + 1 + 1) HS2.out.2.1 (by (repeat' exact bel)) (by omega))).1⟩)
      (first
      | (go_at_call 45; refine (clonep_any P _ w2.drew (HP2.out.call (by (repeat' exact bel))) HV.out HL.out).mono ?_; rintro e w3 ⟨⟨vc, rfl, hoc⟩, hb3⟩; have HW3 := hide (show Below w2.heap.size w2 w3 from (ww hb3).out); have hbw3 := HW3.out; have hz3 : w2.heap.size ≤ w3.heap.size := HW3.out.size; have HOC := hide (ownP_base hoc (show w2.heap.size ≤ _ by simp)); clear hoc hb3)
      | (go_at_call 45; refine (clonep_any P _ (w2.alloc (.cells #[.int .i64 p.day, .int .i64 p.n] 32)).drew (HP2.out.call (by (repeat' exact bel))) HV.out HL.out).mono ?_; rintro e w3 ⟨⟨vc, rfl, hoc⟩, hb3⟩; have HW3 := hide (show Below w2.heap.size w2 w3 from (ww hb3).out); have k7 := hide (BlkIs.call (show BlkIs (w2.alloc (.cells #[.int .i64 p.day, .int .i64 p.n] 32)).drew w2.heap.size #[.int .i64 p.day, .int .i64 p.n] 32 from BlkIs.new _ _ _) hb3); have hbw3 := HW3.out; have hz3 : w2.heap.size ≤ w3.heap.size := HW3.out.size; have HOC := hide (ownP_base hoc (show w2.heap.size ≤ _ by simp)); clear hoc hb3)
      | (refine step_append_lies w3 rfl (.tmp 27) (.tmp 29) 27 rfl w2.heap.size 32 i0 (.agg #[.int .i64 0, .int .i64 0]) 2 16 Tryz.underlying27 hi hi0 hi1 hi2 rfl (by decide) vc P.length (flatP P) (by simp [Act.eval, Act.put]) HOC.out ⟨w2.heap.size, 0, none⟩ 1 1 [.int .i64 p.day, .int .i64 p.n] (by simp [Act.eval, Act.put]) rfl (cellsN k7.out) int_one (by decide) hmx hbx sz _ rfl ?_; intro g4 cap4 w4 hown4 hgrow4 _ hlt4; have HW4 := hide (show Below w2.heap.size w2 w4 from (show Below w2.heap.size w2 w3 by have hw3 := HW3.out; exact bel).grown hgrow4 sz (ownP_lt (HOC.out))); have HO4 := hide (ownP_app hown4); have hbw4 := HW4.out; have hz4 : w2.heap.size ≤ w4.heap.size := HW4.out.size; clear hown4 hgrow4)
      | (refine step_append_lies (w3.alloc (.cells #[.int .i64 p.day, .int .i64 p.n] 32)) rfl (.tmp 27) (.tmp 29) 27 rfl w2.heap.size 32 i0 (.agg #[.int .i64 0, .int .i64 0]) 2 16 Tryz.underlying27 hi hi0 hi1 hi2 rfl (by decide) vc P.length (flatP P) (by simp [Act.eval, Act.put]) (ownP_call HOC.out (by (repeat' exact bel))) ⟨w3.heap.size, 0, none⟩ 1 1 [.int .i64 p.day, .int .i64 p.n] (by simp [Act.eval, Act.put]) rfl (cellsN (BlkIs.new w3 _ _)) int_one (by decide) hmx hbx sz _ rfl ?_; intro g4 cap4 w4 hown4 hgrow4 _ hlt4; have HW4 := hide (show Below w2.heap.size w2 w4 from (show Below w2.heap.size w2 (w3.alloc (.cells #[.int .i64 p.day, .int .i64 p.n] 32)) by have hw3 := HW3.out; exact bel).grown hgrow4 sz (ownP_lt (HOC.out))); have HO4 := hide (ownP_app hown4); have hbw4 := HW4.out; have hz4 : w2.heap.size ≤ w4.heap.size := HW4.out.size; clear hown4 hgrow4)
      | (go_at_call 46; refine (clonea_any A _ w4 (HA2.out.call HW4.out) HV2.out HLA.out).mono ?_; rintro e w5 ⟨⟨va, rfl, hoa⟩, hb5⟩; have HW5 := hide (HW4.out.trans (hb5.mono HW4.out.size)); have HO5 := hide (ownP_call HO4.out hb5); have HOA := hide (ownA_base hoa HW4.out.size); obtain ⟨⟨c0, c1⟩, d0, d1, hzc⟩ := blk_two' (HS2.out.2.2.call HW5.out); have hbw5 := HW5.out; have hz5 : w2.heap.size ≤ w5.heap.size := HW5.out.size; obtain ⟨ad5, cap5, rfl, _⟩ := ownA_accs hoa; clear hoa hb5))
    all_goals
      go_wp2_with fail
      go_meet
      exact ⟨rfl, put_endF HS2.out.2.2 HBW.out HW5.out (by omega) hz2 HO5.out HOA.out⟩
  case rest =>
    obtain ⟨rfl, hE⟩ := hcut
    obtain ⟨g, cap, ad3, cap3, hk, ho, ha, hb⟩ := hE
    have hbs := hb.size
    obtain ⟨⟨c0, c1⟩, d0, d1, hzc⟩ := blk_two' hk
    have HO5 := hide ho
    have HA5 := hide ha
    have HB5 := hide hb
    have hle := HBW.out.size
    clear hk ho ha hb
    go_wp2
    refine bodyPost_ret (v := .tuple #[.agg #[.slice (some ⟨g, 0, none⟩) (P ++ [p]).length cap, .slice ad3 A.length cap3], .int .i64 0]) (by simp (maxDischargeDepth := 9) [results, Tryz.results11, go_sem, c0, c1, d0, d1, hzc]) rfl ⟨⟨_, _, rfl, ownP_base HO5.out hle, ownA_base HA5.out hle⟩, HB5.out⟩
end Go.Proofs.YtjhhmeoibfdcmaaGreat

namespace Go.Proofs.YtjhhmeoibfdcmaaGreat
open Go.RowKit Qd
set_option linter.unusedSimpArgs false
set_option linter.unusedVariables false

/-- A row that is there, if it has been made yet. -/
def MayP (b : Bool) (w : World) (m : Nat) (v : Value) (l : List Po) : Prop := b = true → OwnP w m v l
def MayA (b : Bool) (w : World) (m : Nat) (v : Value) (l : List Ac) : Prop := b = true → OwnA w m v l
theorem MayP.call {b : Bool} {w w' : World} {m : Nat} {v : Value} {l : List Po} (h : MayP b w m v l) (hb : Below w.heap.size w w') : MayP b w' m v l := fun e => ownP_call (h e) hb
theorem MayA.call {b : Bool} {w w' : World} {m : Nat} {v : Value} {l : List Ac} (h : MayA b w m v l) (hb : Below w.heap.size w w') : MayA b w' m v l := fun e => ownA_call (h e) hb

set_option maxRecDepth 100000 in
/-- 'append([]T(nil), l...)' at a step of a region. -/
theorem step_copyP {ops : Array Oper} {o : Oper} {a : Act} {K : Act → World → Prop} {Q : Exit → Act → World → Prop} {E : Prop} (hgd : o.guard = none) (x : Operand)
    (ho : o.op = .call { callee := .builtin .append, args := #[.const (.slice none 0 0), x], argTypes := #[27, 27] }) (P : List Po) (v : Value) (w : World)
    (hx : a.eval x = v) (hP : Posts w v P) (hv : v = .slice none 0 0 ∨ ∃ ad cap, v = .slice (some ad) P.length cap) (hl : P.length ≤ 100000)
    (h : ∀ v' w', OwnP w' w.heap.size v' P → Below w.heap.size w w' → K (a.put o.dst v') w') : if Region.wanted o (yielded ops a.tmps) = true then Oper.wp Tryz.prog o a w K Q else E := by
  have hw : Region.wanted o (yielded ops a.tmps) = true := by simp [Region.wanted, hgd]
  rw [if_pos hw]
  obtain ⟨i0, hi, hi0, hi1, hi2⟩ := info_parts post_info
  rcases hv with rfl | ⟨ad, cap, rfl⟩
  · have h0 : P = [] := by
      obtain ⟨ad, cap, h1, _⟩ := hP
      have h0 : P.length = 0 := by injection h1 with _ h2 _; exact h2.symm
      exact List.length_eq_zero_iff.1 h0
    subst h0
    have hr := run_append_owned_none (P := Tryz.prog) w w.heap.size 27 o.type 32 i0 2 Tryz.underlying27 hi (.slice none 0 0) 0 [] (World.ownsRow_nil _ _ _ _)
    have hs : a.eval (.const (.slice none 0 0)) = .slice none 0 0 := rfl
    unfold Oper.wp execOp
    simp only [ho, resolve, invoke, builtin, Sem.run_bind, Sem.run_pure, Result.andThen_ok, List.map_toArray, List.map_cons, List.map_nil, hs, hx, hr]
    exact h _ w (World.ownsRow_nil _ _ _ _) (Below.refl _ _)
  · refine wp_append_own w (.const (.slice none 0 0)) x 27 ho w.heap.size 32 i0 (.agg #[.int .i64 0, .int .i64 0]) 2 16 Tryz.underlying27 hi hi0 hi1 hi2 rfl (by decide) (.slice none 0 0) 0 [] rfl (World.ownsRow_nil _ _ _ _) ad P.length cap (flatP P) hx (flatP_len P) (posts_cells hP) (flatP_one P) (by unfold maxLen; omega) (by omega) (Nat.le_refl _) ?_
    intro v' w' ho' hg _
    exact h v' w' (by simpa using ho') ((Below.refl _ w).grown hg (Nat.le_refl _) (fun k hk => by simp [Value.ownBlock] at hk))
set_option maxRecDepth 100000 in
theorem step_copyA {ops : Array Oper} {o : Oper} {a : Act} {K : Act → World → Prop} {Q : Exit → Act → World → Prop} {E : Prop} (hgd : o.guard = none) (x : Operand)
    (ho : o.op = .call { callee := .builtin .append, args := #[.const (.slice none 0 0), x], argTypes := #[28, 28] }) (P : List Ac) (v : Value) (w : World)
    (hx : a.eval x = v) (hP : Accs w v P) (hv : v = .slice none 0 0 ∨ ∃ ad cap, v = .slice (some ad) P.length cap) (hl : P.length ≤ 100000)
    (h : ∀ v' w', OwnA w' w.heap.size v' P → Below w.heap.size w w' → K (a.put o.dst v') w') : if Region.wanted o (yielded ops a.tmps) = true then Oper.wp Tryz.prog o a w K Q else E := by
  have hw : Region.wanted o (yielded ops a.tmps) = true := by simp [Region.wanted, hgd]
  rw [if_pos hw]
  obtain ⟨i0, hi, hi0, hi1, hi2⟩ := info_parts acc_info
  rcases hv with rfl | ⟨ad, cap, rfl⟩
  · have h0 : P = [] := by
      obtain ⟨ad, cap, h1, _⟩ := hP
      have h0 : P.length = 0 := by injection h1 with _ h2 _; exact h2.symm
      exact List.length_eq_zero_iff.1 h0
    subst h0
    have hr := run_append_owned_none (P := Tryz.prog) w w.heap.size 28 o.type 47 i0 3 Tryz.underlying28 hi (.slice none 0 0) 0 [] (World.ownsRow_nil _ _ _ _)
    have hs : a.eval (.const (.slice none 0 0)) = .slice none 0 0 := rfl
    unfold Oper.wp execOp
    simp only [ho, resolve, invoke, builtin, Sem.run_bind, Sem.run_pure, Result.andThen_ok, List.map_toArray, List.map_cons, List.map_nil, hs, hx, hr]
    exact h _ w (World.ownsRow_nil _ _ _ _) (Below.refl _ _)
  · refine wp_append_own w (.const (.slice none 0 0)) x 28 ho w.heap.size 47 i0 (.agg #[.int .i64 0, .int .i64 0, .int .i64 0]) 3 24 Tryz.underlying28 hi hi0 hi1 hi2 rfl (by decide) (.slice none 0 0) 0 [] rfl (World.ownsRow_nil _ _ _ _) ad P.length cap (flatA P) hx (flatA_len P) (accs_cells hP) (flatA_one P) (by unfold maxLen; omega) (by omega) (Nat.le_refl _) ?_
    intro v' w' ho' hg _
    exact h v' w' (by simpa using ho') ((Below.refl _ w).grown hg (Nat.le_refl _) (fun k hk => by simp [Value.ownBlock] at hk))

set_option maxRecDepth 100000 in
set_option maxHeartbeats 6400000 in
theorem r22copied_any (P : List Po) (A : List Ac) (v1 v2 : Value) (w : World) (h1 : Posts w v1 P) (h2 : Accs w v2 A) (hv : v1 = .slice none 0 0 ∨ ∃ ad cap, v1 = .slice (some ad) P.length cap) (hv2 : v2 = .slice none 0 0 ∨ ∃ ad cap, v2 = .slice (some ad) A.length cap) (hl : P.length ≤ 100000) (hl2 : A.length ≤ 100000) :
    Calls Tryz.prog 59 #[.agg #[v1, v2]] w fun e w' => (∃ x y, e = .returned (.agg #[x, y]) ∧ OwnP w' w.heap.size x P ∧ OwnA w' w.heap.size y A) ∧ Below w.heap.size w w' := by
  have HV := hide hv
  have HV2 := hide hv2
  obtain ⟨ad1, cap1, hv1, _⟩ := id h1
  obtain ⟨ad2, cap2, hv12, _⟩ := id h2
  obtain ⟨W0, hW0⟩ : ∃ W0, (w.alloc (.cells #[v1, v2] 30)).alloc (.cells #[.slice none 0 0, .slice none 0 0] 30) = W0 := ⟨_, rfl⟩
  have HT := hide (show BlkIs W0 w.heap.size #[v1, v2] 30 ∧ BlkIs W0 (w.heap.size + 1) #[.slice none 0 0, .slice none 0 0] 30 by
    rw [← hW0]
    refine ⟨BlkIs.alloc (BlkIs.new w _ _) _, ?_⟩
    simpa using BlkIs.new (w.alloc (.cells #[v1, v2] 30)) #[.slice none 0 0, .slice none 0 0] 30)
  have HBW := hide (show Below w.heap.size w W0 by rw [← hW0]; exact bel)
  have hsz : w.heap.size + 1 < W0.heap.size := by rw [← hW0]; simp
  have HP := hide (h1.call HBW.out)
  have HA := hide (h2.call HBW.out)
  clear h1 h2 hv hv2
  subst hv1 hv12
  go_enter Tryz.func59, Tryz.ntmps59
  go_upto_region 1 with fail
  clear hW0
  obtain ⟨⟨p0, p1⟩, _, _, hz1⟩ := blk_two' HT.out.1
  have HW := hide (Below.refl W0.heap.size W0)
  have HOC : Hid (MayP false W0 W0.heap.size (.slice none 0 0) P) := hide (fun e => by cases e)
  have HOA : Hid (MayA false W0 W0.heap.size (.slice none 0 0) A) := hide (fun e => by cases e)
  go_region_held3 (fun w' => (w'.cell? ⟨w.heap.size, 0, none⟩ = some (.slice ad1 P.length cap1) ∧ w'.cell? ⟨w.heap.size, 1, none⟩ = some (.slice ad2 A.length cap2))) (exact (blk_two' (blk_low (K := w.heap.size + 1) HT.out.1 (by (repeat' exact bel)) (by omega))).1)
    (first
    | (refine step_copyP rfl _ rfl P _ _ (by simp [Act.eval, Act.put]) (HP.out.call (by have hw := HW.out; exact bel)) HV.out hl ?_; intro vp wp ho hb; have HOC : Hid (MayP true wp W0.heap.size vp P) := hide (fun _ => ownP_base ho HW.out.size); have HOA := hide (HOA.out.call (ww hb).out); have HW := hide (show Below W0.heap.size W0 wp by have hw := HW.out; have hs := hw.size; exact (ww hb).out); have hbw := HW.out; have hzw : W0.heap.size ≤ wp.heap.size := HW.out.size; obtain ⟨⟨c0, c1⟩, d0, d1, hzc⟩ := blk_two' (HT.out.2.call HW.out); obtain ⟨adp, capp, rfl, _⟩ := ownP_posts ho; clear ho hb)
    | (refine step_copyA rfl _ rfl A _ _ (by simp [Act.eval, Act.put]) (HA.out.call (by have hw := HW.out; exact bel)) HV2.out hl2 ?_; intro va wa ho hb; have HOA : Hid (MayA true wa W0.heap.size va A) := hide (fun _ => ownA_base ho HW.out.size); have HOC := hide (HOC.out.call (ww hb).out); have HW := hide (show Below W0.heap.size W0 wa by have hw := HW.out; have hs := hw.size; exact (ww hb).out); have hbw := HW.out; have hzw : W0.heap.size ≤ wa.heap.size := HW.out.size; obtain ⟨⟨c0, c1⟩, d0, d1, hzc⟩ := blk_two' (HT.out.2.call HW.out); obtain ⟨ada, capa, rfl, _⟩ := ownA_accs ho; clear ho hb))
  all_goals
    go_wp2_with fail
    refine bodyPost_ret (v := .agg #[.slice adp P.length capp, .slice ada A.length capa]) (by simp (maxDischargeDepth := 9) [results, Tryz.results59, go_sem, c0, c1, d0, d1, hzc]) rfl ⟨⟨_, _, rfl, ownP_base (ownP_far (ownP_far (HOC.out rfl) _ _ (by simp; omega)) _ _ (by simp; omega)) (by omega), ownA_base (ownA_far (ownA_far (HOA.out rfl) _ _ (by simp; omega)) _ _ (by simp; omega)) (by omega)⟩, ?_⟩
    have hK := HBW.out.trans (hbw.mono HBW.out.size)
    exact (hK.setCell (by simp) _).setCell (by simp) _
end Go.Proofs.YtjhhmeoibfdcmaaGreat

namespace Go.Proofs.YtjhhmeoibfdcmaaGreat
open Go.RowKit Qd
set_option linter.unusedSimpArgs false
set_option linter.unusedVariables false
theorem KeepP.blk {w w' : World} {B : Nat} {cs : Array Value} {t : TypeId} (hk : KeepP w w') (h : BlkIs w B cs t) (ht : t ≠ 32 := by decide) : BlkIs w' B cs t := hk.2 B cs t ht h
theorem KeepA.blk {w w' : World} {B : Nat} {cs : Array Value} {t : TypeId} (hk : KeepA w w') (h : BlkIs w B cs t) (ht : t ≠ 47 := by decide) : BlkIs w' B cs t := hk.2 B cs t ht h
/-- A book's rows, both one's own. -/
def OwnB (w : World) (m : Nat) (x y : Value) (P : List Po) (A : List Ac) : Prop := OwnP w m x P ∧ OwnA w m y A
theorem OwnB.call {w w' : World} {m : Nat} {x y : Value} {P : List Po} {A : List Ac} (h : OwnB w m x y P A) (hb : Below w.heap.size w w') : OwnB w' m x y P A := ⟨ownP_call h.1 hb, ownA_call h.2 hb⟩
theorem OwnB.far {w : World} {m : Nat} {x y : Value} {P : List Po} {A : List Ac} (h : OwnB w m x y P A) (p : Addr) (u : Value) (hp : p.block < m) : OwnB (w.setCell p u) m x y P A := ⟨ownP_far h.1 p u hp, ownA_far h.2 p u hp⟩
theorem OwnB.base {w : World} {m m' : Nat} {x y : Value} {P : List Po} {A : List Ac} (h : OwnB w m x y P A) (hm : m' ≤ m) : OwnB w m' x y P A := ⟨ownP_base h.1 hm, ownA_base h.2 hm⟩
theorem OwnB.set {w : World} {m : Nat} {x y : Value} {P : List Po} {A : List Ac} (h : OwnB w m x y P A) {B : Nat} {cs : Array Value} {t : TypeId} (hB : w.heap[B]? = some (.cells cs t (0, 0))) (h1 : t ≠ 32) (h2 : t ≠ 47) (o : Nat) (u : Value) : OwnB (w.setCell ⟨B, o, none⟩ u) m x y P A := by
  refine ⟨⟨h.1.1, ?_⟩, ⟨h.2.1, ?_⟩⟩
  · rcases h.1.2 with k1 | ⟨g', cap', cur, he, k2, hg', k3⟩
    · exact .inl k1
    · refine .inr ⟨g', cap', cur, he, k2, (Below.heap_setCell w ⟨B, o, none⟩ u g' (fun e => ?_)).trans hg', k3⟩
      subst e
      rw [hB] at hg'
      cases hg'
      exact h1 rfl
  · rcases h.2.2 with k1 | ⟨g', cap', cur, he, k2, hg', k3⟩
    · exact .inl k1
    · refine .inr ⟨g', cap', cur, he, k2, (Below.heap_setCell w ⟨B, o, none⟩ u g' (fun e => ?_)).trans hg', k3⟩
      subst e
      rw [hB] at hg'
      cases hg'
      exact h2 rfl

set_option maxRecDepth 100000 in
set_option maxHeartbeats 6400000 in
theorem r22put_yes (P : List Po) (A : List Ac) (p : Po) (v1 v2 : Value) (w : World) (h1 : Posts w v1 P) (h2 : Accs w v2 A) (hv : v1 = .slice none 0 0 ∨ ∃ ad cap, v1 = .slice (some ad) P.length cap) (hv2 : v2 = .slice none 0 0 ∨ ∃ ad cap, v2 = .slice (some ad) A.length cap) (hl : P.length ≤ 4096) (hl2 : A.length ≤ 4096) (hlx : P.length < 4096) (hc : chkE P A = 0) (hd : isB p.day = true) :
    Calls Tryz.prog 15 #[.agg #[v1, v2], .agg #[.int .i64 p.day, .int .i64 p.n]] w fun e w' => (∃ x y, e = .returned (.tuple #[.agg #[x, y], .int .i64 0]) ∧ OwnB w' w.heap.size x y (P ++ [p]) A) ∧ Below w.heap.size w w' := by
  have H1 := hide h1
  have H2 := hide h2
  have HC := hide hc
  have HD := hide hd
  have HV := hide hv
  have HV2 := hide hv2
  obtain ⟨ad1, cap1, rfl, _⟩ := h1
  obtain ⟨ad2, cap2, rfl, _⟩ := h2
  clear hc hd hv hv2
  have hmb : ((P.length : Int) == 4096) = false := by simp; omega
  go_enter Tryz.func15, Tryz.ntmps15
  go_wp2_with fail
  refine (r22check_any P A _ _ (((w.alloc (.cells #[.slice ad1 P.length cap1, .slice ad2 A.length cap2] 30)).alloc (.cells #[.int .i64 p.day, .int .i64 p.n] 32)).alloc (.cells #[.slice none 0 0, .slice none 0 0] 30)) (H1.out.call (by (repeat' exact bel))) (H2.out.call (by (repeat' exact bel))) (by omega)).mono ?_
  rintro e w1 ⟨rfl, hb1⟩
  rw [HC.out]
  have HS1 := hide (show BlkIs w1 w.heap.size #[.slice ad1 P.length cap1, .slice ad2 A.length cap2] 30 ∧ BlkIs w1 (w.heap.size + 1) #[.int .i64 p.day, .int .i64 p.n] 32 ∧ BlkIs w1 (w.heap.size + 1 + 1) #[.slice none 0 0, .slice none 0 0] 30 by
    refine ⟨BlkIs.call (((BlkIs.new w _ _).alloc _).alloc _) hb1, BlkIs.call (BlkIs.alloc ?_ _) hb1, BlkIs.call ?_ hb1⟩
    · simpa using BlkIs.new (w.alloc (.cells #[.slice ad1 P.length cap1, .slice ad2 A.length cap2] 30)) #[.int .i64 p.day, .int .i64 p.n] 32
    · simpa using BlkIs.new ((w.alloc (.cells #[.slice ad1 P.length cap1, .slice ad2 A.length cap2] 30)).alloc (.cells #[.int .i64 p.day, .int .i64 p.n] 32)) #[.slice none 0 0, .slice none 0 0] 30)
  have HB1 : Hid (Below w.heap.size w w1) := ww hb1
  clear hb1
  obtain ⟨⟨k0, k1⟩, _, _, hz0⟩ := blk_two' HS1.out.1
  obtain ⟨⟨p0, p1⟩, _, _, hz1⟩ := blk_two' HS1.out.2.1
  go_wp2_with fail
  refine (r22is_any p.day _).mono ?_
  rintro e w2 ⟨rfl, rfl⟩
  obtain ⟨w2, hw2⟩ : ∃ w2, w1 = w2 := ⟨_, rfl⟩
  have HB2 : Hid (Below w1.heap.size w1 w2) := by rw [← hw2]; exact Below.refl _ _
  rw [HD.out]
  rw [hw2]
  have hz0 : w.heap.size < w2.heap.size := by rw [← hw2]; exact hz0
  have hz1 : w.heap.size + 1 < w2.heap.size := by rw [← hw2]; exact hz1
  have HS2 := hide (And.intro (HS1.out.1.call HB2.out) (And.intro (HS1.out.2.1.call HB2.out) (HS1.out.2.2.call HB2.out)))
  have HBW := hide (HB1.out.trans (HB2.out.mono HB1.out.size))
  have HP2 := hide (H1.out.call HBW.out)
  have HA2 := hide (H2.out.call HBW.out)
  clear k0 k1 p0 p1 hz0 hz1
  obtain ⟨⟨k0, k1⟩, _, _, hz0⟩ := blk_two' HS2.out.1
  go_wp2_with fail
  refine (r22copied_any P A _ _ w2 HP2.out HA2.out HV.out HV2.out (by omega) (by omega)).mono ?_
  rintro e w3 ⟨⟨x, y, rfl, hx, hy⟩, hb3⟩
  have HX := hide hx
  have HY := hide hy
  obtain ⟨ad3, cap3, rfl, _⟩ := ownP_posts hx
  obtain ⟨ad4, cap4, rfl, _⟩ := ownA_accs hy
  have HB3 := hide (HBW.out.trans (hb3.mono HBW.out.size))
  have HS3 := hide (And.intro (HS2.out.2.1.call hb3) (HS2.out.2.2.call hb3))
  have hz3 := hb3.size
  clear hx hy hb3 k0 k1 hz0
  have HK := hide (BlkIs.new w3 #[.slice ad3 P.length cap3, .slice ad4 A.length cap4] 30)
  obtain ⟨⟨p0, p1⟩, _, _, hz1⟩ := blk_two' HS3.out.1
  have hle2 := HBW.out.size
  go_wp2_with ((at_builtin; refine app_post rfl _ _ rfl w2.heap.size _ P p _ rfl (ownP_call HX.out ?hw) rfl (by simp) (by simp) (by omega) ?hz ?_))
  case hw => (repeat' exact bel)
  case hz => simp; omega
  intro v5 w5 ho5 hb5 hk5
  have HK5 := hide (hk5.blk (BlkIs.alloc HK.out (.cells #[.int .i64 p.day, .int .i64 p.n] 32)))
  have HY5 := hide (keepP_ownA hk5 (ownA_call HY.out (show Below w3.heap.size w3 ((w3.alloc (.cells #[.slice ad3 P.length cap3, .slice ad4 A.length cap4] 30)).alloc (.cells #[.int .i64 p.day, .int .i64 p.n] 32)) by (repeat' exact bel))))
  have HX5 := hide ho5
  have HW5 := hide ((show Below w2.heap.size w3 ((w3.alloc (.cells #[.slice ad3 P.length cap3, .slice ad4 A.length cap4] 30)).alloc (.cells #[.int .i64 p.day, .int .i64 p.n] 32)) by (repeat' exact bel)).trans hb5)
  have HR5 := hide (blk_low HS3.out.2 HW5.out (by have := HS2.out.2.2.lt; omega))
  have HB5 := hide (HB3.out.trans (HW5.out.mono hle2))
  have hz5 : w3.heap.size < w5.heap.size := HK5.out.lt
  obtain ⟨ad5, cap5, rfl, _⟩ := ownP_posts ho5
  obtain ⟨⟨b0, b1⟩, g0, g1, hzb⟩ := blk_two' HK5.out
  clear ho5 hb5 hk5
  obtain ⟨⟨c0, c1⟩, d0, d1, hzc⟩ := blk_two' HR5.out
  have hr : w.heap.size + 1 + 1 < w3.heap.size := HS3.out.2.lt
  go_wp2
  refine bodyPost_ret (v := .tuple #[.agg #[.slice ad5 (P ++ [p]).length cap5, .slice ad4 A.length cap4], .int .i64 0]) (by simp (maxDischargeDepth := 9) [results, Tryz.results15, go_sem, c0, c1, d0, d1, hzc, show ¬ w.heap.size + 1 + 1 = w3.heap.size by omega, show ¬ w3.heap.size = w.heap.size + 1 + 1 by omega, b0, b1]) rfl ⟨⟨_, _, rfl, ?_⟩, ?_⟩
  · have hO : OwnB w5 w2.heap.size (.slice ad5 (P ++ [p]).length cap5) (.slice ad4 A.length cap4) (P ++ [p]) A := ⟨by simpa using HX5.out, HY5.out⟩
    have h0 := hO.set (B := w3.heap.size) HK5.out (by decide) (by decide) 0 (.slice ad5 (P.length + 1) cap5)
    have hlt : w.heap.size + 1 + 1 < w2.heap.size := HS2.out.2.2.lt
    exact ((h0.far ⟨w.heap.size + 1 + 1, 0, none⟩ _ hlt).far ⟨w.heap.size + 1 + 1, 1, none⟩ _ hlt).base hle2
  · exact ((HB5.out.setCell (by simp; omega) _).setCell (by simp; omega) _).setCell (by simp; omega) _

set_option maxRecDepth 100000 in
set_option maxHeartbeats 6400000 in
theorem r22accr_yes (P : List Po) (A : List Ac) (p : Ac) (v1 v2 : Value) (w : World) (h1 : Posts w v1 P) (h2 : Accs w v2 A) (hv : v1 = .slice none 0 0 ∨ ∃ ad cap, v1 = .slice (some ad) P.length cap) (hv2 : v2 = .slice none 0 0 ∨ ∃ ad cap, v2 = .slice (some ad) A.length cap) (hl : P.length ≤ 4096) (hl2 : A.length ≤ 4096) (hlx : A.length < 4096) (hc : chkE P A = 0) (hd : accE p = 0) :
    Calls Tryz.prog 17 #[.agg #[v1, v2], .agg #[.int .i64 p.a, .int .i64 p.b, .int .i64 p.n]] w fun e w' => (∃ x y, e = .returned (.tuple #[.agg #[x, y], .int .i64 0]) ∧ OwnB w' w.heap.size x y P (A ++ [p])) ∧ Below w.heap.size w w' := by
  have H1 := hide h1
  have H2 := hide h2
  have HC := hide hc
  have HD := hide hd
  have HV := hide hv
  have HV2 := hide hv2
  obtain ⟨ad1, cap1, rfl, _⟩ := h1
  obtain ⟨ad2, cap2, rfl, _⟩ := h2
  clear hc hd hv hv2
  have hmb : ((A.length : Int) == 4096) = false := by simp; omega
  go_enter Tryz.func17, Tryz.ntmps17
  go_wp2_with fail
  refine (r22check_any P A _ _ (((w.alloc (.cells #[.slice ad1 P.length cap1, .slice ad2 A.length cap2] 30)).alloc (.cells #[.int .i64 p.a, .int .i64 p.b, .int .i64 p.n] 47)).alloc (.cells #[.slice none 0 0, .slice none 0 0] 30)) (H1.out.call (by (repeat' exact bel))) (H2.out.call (by (repeat' exact bel))) (by omega)).mono ?_
  rintro e w1 ⟨rfl, hb1⟩
  rw [HC.out]
  have HS1 := hide (show BlkIs w1 w.heap.size #[.slice ad1 P.length cap1, .slice ad2 A.length cap2] 30 ∧ BlkIs w1 (w.heap.size + 1) #[.int .i64 p.a, .int .i64 p.b, .int .i64 p.n] 47 ∧ BlkIs w1 (w.heap.size + 1 + 1) #[.slice none 0 0, .slice none 0 0] 30 by
    refine ⟨BlkIs.call (((BlkIs.new w _ _).alloc _).alloc _) hb1, BlkIs.call (BlkIs.alloc ?_ _) hb1, BlkIs.call ?_ hb1⟩
    · simpa using BlkIs.new (w.alloc (.cells #[.slice ad1 P.length cap1, .slice ad2 A.length cap2] 30)) #[.int .i64 p.a, .int .i64 p.b, .int .i64 p.n] 47
    · simpa using BlkIs.new ((w.alloc (.cells #[.slice ad1 P.length cap1, .slice ad2 A.length cap2] 30)).alloc (.cells #[.int .i64 p.a, .int .i64 p.b, .int .i64 p.n] 47)) #[.slice none 0 0, .slice none 0 0] 30)
  have HB1 : Hid (Below w.heap.size w w1) := ww hb1
  clear hb1
  obtain ⟨⟨k0, k1⟩, _, _, hz0⟩ := blk_two' HS1.out.1
  obtain ⟨⟨p0, p1, p2⟩, hz1⟩ := blk_three' HS1.out.2.1
  go_wp2_with fail
  refine (r22acc_any p _).mono ?_
  rintro e w2 ⟨rfl, hb2⟩
  rw [HD.out]
  have HB2 : Hid (Below w1.heap.size w1 w2) := ww hb2
  clear hb2
  have HS2 := hide (And.intro (HS1.out.1.call HB2.out) (And.intro (HS1.out.2.1.call HB2.out) (HS1.out.2.2.call HB2.out)))
  have HBW := hide (HB1.out.trans (HB2.out.mono HB1.out.size))
  have HP2 := hide (H1.out.call HBW.out)
  have HA2 := hide (H2.out.call HBW.out)
  clear k0 k1 p0 p1 p2 hz0 hz1
  obtain ⟨⟨k0, k1⟩, _, _, hz0⟩ := blk_two' HS2.out.1
  go_wp2_with fail
  refine (r22copied_any P A _ _ w2 HP2.out HA2.out HV.out HV2.out (by omega) (by omega)).mono ?_
  rintro e w3 ⟨⟨x, y, rfl, hx, hy⟩, hb3⟩
  have HX := hide hx
  have HY := hide hy
  obtain ⟨ad3, cap3, rfl, _⟩ := ownP_posts hx
  obtain ⟨ad4, cap4, rfl, _⟩ := ownA_accs hy
  have HB3 := hide (HBW.out.trans (hb3.mono HBW.out.size))
  have HS3 := hide (And.intro (HS2.out.2.1.call hb3) (HS2.out.2.2.call hb3))
  have hz3 := hb3.size
  clear hx hy hb3 k0 k1 hz0
  have HK := hide (BlkIs.new w3 #[.slice ad3 P.length cap3, .slice ad4 A.length cap4] 30)
  obtain ⟨⟨p0, p1, p2⟩, hz1⟩ := blk_three' HS3.out.1
  have hle2 := HBW.out.size
  go_wp2_with ((at_builtin; refine app_acc rfl _ _ rfl w2.heap.size _ A p _ rfl (ownA_call HY.out ?hw) rfl (by simp) (by simp) (by simp) (by omega) ?hz ?_))
  case hw => (repeat' exact bel)
  case hz => simp; omega
  intro v5 w5 ho5 hb5 hk5
  have HK5 := hide (hk5.blk (BlkIs.alloc HK.out (.cells #[.int .i64 p.a, .int .i64 p.b, .int .i64 p.n] 47)))
  have HY5 := hide (keepA_ownP hk5 (ownP_call HX.out (show Below w3.heap.size w3 ((w3.alloc (.cells #[.slice ad3 P.length cap3, .slice ad4 A.length cap4] 30)).alloc (.cells #[.int .i64 p.a, .int .i64 p.b, .int .i64 p.n] 47)) by (repeat' exact bel))))
  have HX5 := hide ho5
  have HW5 := hide ((show Below w2.heap.size w3 ((w3.alloc (.cells #[.slice ad3 P.length cap3, .slice ad4 A.length cap4] 30)).alloc (.cells #[.int .i64 p.a, .int .i64 p.b, .int .i64 p.n] 47)) by (repeat' exact bel)).trans hb5)
  have HR5 := hide (blk_low HS3.out.2 HW5.out (by have := HS2.out.2.2.lt; omega))
  have HB5 := hide (HB3.out.trans (HW5.out.mono hle2))
  have hz5 : w3.heap.size < w5.heap.size := HK5.out.lt
  obtain ⟨ad5, cap5, rfl, _⟩ := ownA_accs ho5
  obtain ⟨⟨b0, b1⟩, g0, g1, hzb⟩ := blk_two' HK5.out
  clear ho5 hb5 hk5
  obtain ⟨⟨c0, c1⟩, d0, d1, hzc⟩ := blk_two' HR5.out
  have hr : w.heap.size + 1 + 1 < w3.heap.size := HS3.out.2.lt
  go_wp2
  refine bodyPost_ret (v := .tuple #[.agg #[.slice ad3 P.length cap3, .slice ad5 (A ++ [p]).length cap5], .int .i64 0]) (by simp (maxDischargeDepth := 9) [results, Tryz.results17, go_sem, c0, c1, d0, d1, hzc, show ¬ w.heap.size + 1 + 1 = w3.heap.size by omega, show ¬ w3.heap.size = w.heap.size + 1 + 1 by omega, b0, b1]) rfl ⟨⟨_, _, rfl, ?_⟩, ?_⟩
  · have hO : OwnB w5 w2.heap.size (.slice ad3 P.length cap3) (.slice ad5 (A ++ [p]).length cap5) P (A ++ [p]) := ⟨HY5.out, by simpa using HX5.out⟩
    have h0 := hO.set (B := w3.heap.size) HK5.out (by decide) (by decide) 1 (.slice ad5 (A.length + 1) cap5)
    have hlt : w.heap.size + 1 + 1 < w2.heap.size := HS2.out.2.2.lt
    exact ((h0.far ⟨w.heap.size + 1 + 1, 0, none⟩ _ hlt).far ⟨w.heap.size + 1 + 1, 1, none⟩ _ hlt).base hle2
  · exact ((HB5.out.setCell (by simp; omega) _).setCell (by simp; omega) _).setCell (by simp; omega) _
end Go.Proofs.YtjhhmeoibfdcmaaGreat

namespace Go.Proofs.YtjhhmeoibfdcmaaGreat
open Go.RowKit Qd
set_option linter.unusedSimpArgs false
set_option linter.unusedVariables false

theorem grown_keepA {w w' : World} {b : Nat} {v : Value} {l : List Ac} (hown : OwnA w b v l) (hg : w.grownBy w' v.ownBlock) : KeepA w w' := by
  refine ⟨hg.size, fun B cs t ht hB => (hg.block B (Array.getElem?_eq_some_iff.1 hB).1 (fun e => ?_)).trans hB⟩
  rcases hown.2 with ⟨h1, _⟩ | ⟨g', cap', cur, h1, _, h3', _⟩
  · rw [h1] at e; simp [Value.ownBlock] at e
  · rw [h1] at e
    obtain rfl : B = g' := by simpa [Value.ownBlock] using e
    rw [h3'] at hB
    cases hB
    exact ht rfl
theorem ownA_lt {w : World} {b : Nat} {v : Value} {l : List Ac} (h : OwnA w b v l) : ∀ k, v.ownBlock = some k → b ≤ k := fun k hk => (h.lt k hk).1
theorem cellsN3 {w : World} {B : Nat} {a b c : Value} {t : TypeId} (h : BlkIs w B #[a, b, c] t) : ∀ (j : Nat) (u : Value), [a, b, c][j]? = some u → w.cell? ((⟨B, 0, none⟩ : Addr).add j) = some u := by
  intro j u hj
  match j, hj with
  | 0, hj => simp at hj; subst hj; simpa [Addr.add] using h.cell 0
  | 1, hj => simp at hj; subst hj; simpa [Addr.add] using h.cell 1
  | 2, hj => simp at hj; subst hj; simpa [Addr.add] using h.cell 2
theorem int_one3 {a b c : Int} : ∀ u ∈ [Value.int .i64 a, Value.int .i64 b, Value.int .i64 c], u.oneCell' = true := by
  intro u hu; simp at hu; rcases hu with rfl | rfl | rfl <;> rfl
/-- The book as it is when the region is through. -/
def AccF (B m b : Nat) (l : List Po) (A : List Ac) (w wx : World) : Prop := ∃ g cap ad2 cap2, BlkIs wx B #[.slice ad2 l.length cap2, .slice (some ⟨g, 0, none⟩) A.length cap] 30 ∧ OwnP wx m (.slice ad2 l.length cap2) l ∧ OwnA wx m (.slice (some ⟨g, 0, none⟩) A.length cap) A ∧ Below b w wx
theorem acc_endF {w w2 w4 : World} {B g cap : Nat} {x y : Value} {l : List Po} {A : List Ac} {p : Ac} {ad2 : Option Addr} {cap2 : Nat} (h2 : BlkIs w2 B #[x, y] 30) (hw : Below w.heap.size w w2) (h4 : Below w2.heap.size w2 w4) (hB : w.heap.size ≤ B) (hl : B < w2.heap.size)
    (ho : OwnA w4 w2.heap.size (.slice (some ⟨g, 0, none⟩) (A.length + 1) cap) (A ++ [p])) (ha : OwnP w4 w2.heap.size (.slice ad2 l.length cap2) l) :
    AccF B w2.heap.size w.heap.size l (A ++ [p]) w ((w4.setCell ⟨B, 0, none⟩ (.slice ad2 l.length cap2)).setCell ⟨B, 1, none⟩ (.slice (some ⟨g, 0, none⟩) (A.length + 1) cap)) := by
  have ho' : OwnA w4 w2.heap.size (.slice (some ⟨g, 0, none⟩) (A ++ [p]).length cap) (A ++ [p]) := by
    simpa using ho
  refine ⟨g, cap, ad2, cap2, ?_, ownP_far (ownP_far ha ⟨B, 0, none⟩ _ hl) ⟨B, 1, none⟩ _ hl, ownA_far (ownA_far ho' ⟨B, 0, none⟩ _ hl) ⟨B, 1, none⟩ _ hl, ((hw.trans (h4.mono hw.size)).setCell hB _).setCell hB _⟩
  rw [List.length_append]
  exact blk_s1 (blk_s0 (h2.call h4) _) _
theorem ownA_app {w' : World} {m g cap : Nat} {l : List Ac} {p : Ac} (h : w'.ownsRow m 47 3 (.slice (some ⟨g, 0, none⟩) (l.length + 1) cap) (l.length + 1) (flatA l ++ [.int .i64 p.a, .int .i64 p.b, .int .i64 p.n])) : OwnA w' m (.slice (some ⟨g, 0, none⟩) (l.length + 1) cap) (l ++ [p]) := by
  unfold OwnA
  rw [flatA_snoc]
  simpa using h

set_option maxRecDepth 100000 in
set_option maxHeartbeats 12800000 in
theorem accr_any (P : List Po) (A : List Ac) (p : Ac) (v1 v2 : Value) (w : World) (h1 : Posts w v1 P) (h2 : Accs w v2 A) (hv : v1 = .slice none 0 0 ∨ ∃ ad cap, v1 = .slice (some ad) P.length cap) (hv2 : v2 = .slice none 0 0 ∨ ∃ ad cap, v2 = .slice (some ad) A.length cap) (hl : P.length ≤ 4096) (hl2 : A.length < 4096) (hc : chkE P A = 0) (hd : accE p = 0) :
    Calls Tryz.prog 16 #[.agg #[v1, v2], .agg #[.int .i64 p.a, .int .i64 p.b, .int .i64 p.n]] w fun e w' => (∃ x y, e = .returned (.tuple #[.agg #[x, y], .int .i64 0]) ∧ OwnB w' w.heap.size x y P (A ++ [p])) ∧ Below w.heap.size w w' := by
  have H1 := hide h1
  have H2 := hide h2
  have HC := hide hc
  have HV := hide hv
  have HV2 := hide hv2
  have HDY := hide hd
  obtain ⟨ad1, cap1, hv1, _⟩ := h1
  obtain ⟨ad2, cap2, hv12, _⟩ := h2
  obtain ⟨i0, hi, hi0, hi1, hi2⟩ := info_parts acc_info
  clear hc hd hv hv2
  subst hv1 hv12
  go_enter Tryz.func16, Tryz.ntmps16
  go_wp2_with fail
  refine (broom_ok P A _ _ _ (((w.alloc (.cells #[.slice ad1 P.length cap1, .slice ad2 A.length cap2] 30)).alloc (.cells #[.int .i64 p.a, .int .i64 p.b, .int .i64 p.n] 47)).alloc (.cells #[.slice none 0 0, .slice none 0 0] 30)) (H1.out.call (by (repeat' exact bel))) (H2.out.call (by (repeat' exact bel))) (by omega) HC.out (by omega)).mono ?_
  rintro e w1 ⟨rfl, hb1⟩
  have HS1 := hide (show BlkIs w1 w.heap.size #[.slice ad1 P.length cap1, .slice ad2 A.length cap2] 30 ∧ BlkIs w1 (w.heap.size + 1) #[.int .i64 p.a, .int .i64 p.b, .int .i64 p.n] 47 ∧ BlkIs w1 (w.heap.size + 1 + 1) #[.slice none 0 0, .slice none 0 0] 30 by
    refine ⟨BlkIs.call (((BlkIs.new w _ _).alloc _).alloc _) hb1, BlkIs.call (BlkIs.alloc ?_ _) hb1, BlkIs.call ?_ hb1⟩
    · simpa using BlkIs.new (w.alloc (.cells #[.slice ad1 P.length cap1, .slice ad2 A.length cap2] 30)) #[.int .i64 p.a, .int .i64 p.b, .int .i64 p.n] 47
    · simpa using BlkIs.new ((w.alloc (.cells #[.slice ad1 P.length cap1, .slice ad2 A.length cap2] 30)).alloc (.cells #[.int .i64 p.a, .int .i64 p.b, .int .i64 p.n] 47)) #[.slice none 0 0, .slice none 0 0] 30)
  have HB1 : Hid (Below w.heap.size w w1) := ww hb1
  clear hb1
  obtain ⟨⟨k0, k1⟩, _, _, hz0⟩ := blk_two' HS1.out.1
  obtain ⟨⟨p0, p1, p2⟩, hz1⟩ := blk_three' HS1.out.2.1
  obtain ⟨⟨r0, r1⟩, f0, f1, hz2⟩ := blk_two' HS1.out.2.2
  go_wp2_with fail
  refine (baccr_any p w1).mono ?_
  rintro e w2 ⟨rfl, hb2⟩
  rw [HDY.out]
  have HB2 : Hid (Below w1.heap.size w1 w2) := ww hb2
  clear hb2 k0 k1 p0 p1 p2 r0 r1 f0 f1 hz0 hz1 hz2
  have HS2 := hide (And.intro (HS1.out.1.call HB2.out) (And.intro (HS1.out.2.1.call HB2.out) (HS1.out.2.2.call HB2.out)))
  have HBW := hide (HB1.out.trans (HB2.out.mono HB1.out.size))
  obtain ⟨⟨k0, k1⟩, _, _, hz0⟩ := blk_two' HS2.out.1
  obtain ⟨⟨p0, p1, p2⟩, hz1⟩ := blk_three' HS2.out.2.1
  obtain ⟨⟨r0, r1⟩, f0, f1, hz2⟩ := blk_two' HS2.out.2.2
  have HP2 := hide (H1.out.call HBW.out)
  have HA2 := hide (H2.out.call HBW.out)
  have HL := hide (show P.length ≤ 100000 by omega)
  have HLA := hide (show A.length ≤ 100000 by omega)
  go_upto_region 7 with fail
  have hmx : A.length + 1 ≤ maxLen := by unfold maxLen; omega
  have hbx : (A.length + 1) * 24 ≤ 140737488355328 := by omega
  have k7 := hide trivial
  go_cut [5] (fun s5 wx => s5 = .int .i64 0 ∧ AccF (w.heap.size + 1 + 1) w2.heap.size w.heap.size P (A ++ [p]) w wx)
  case first =>
    go_region_held3 (fun w' => ((w'.cell? ⟨w.heap.size, 0, none⟩ = some (.slice ad1 P.length cap1) ∧ w'.cell? ⟨w.heap.size, 1, none⟩ = some (.slice ad2 A.length cap2)) ∧ (w'.cell? ⟨w.heap.size + 1, 0, none⟩ = some (.int .i64 p.a) ∧ w'.cell? ⟨w.heap.size + 1, 1, none⟩ = some (.int .i64 p.b) ∧ w'.cell? ⟨w.heap.size + 1, 2, none⟩ = some (.int .i64 p.n)))) (exact ⟨(blk_two' (blk_low (K := w.heap.size + 1 + 1) HS2.out.1 (by (repeat' exact bel)) (by omega))).1, (blk_three' (blk_low (K := w.heap.size + 1 + 1) HS2.out.2.1 (by (repeat' exact bel)) (by omega))).1⟩)
      (first
      | (go_at_call 45; refine (clonep_any P _ w2.drew (HP2.out.call (by (repeat' exact bel))) HV.out HL.out).mono ?_; rintro e w3 ⟨⟨vc, rfl, hoc⟩, hb3⟩; have HW3 := hide (show Below w2.heap.size w2 w3 from (ww hb3).out); have hbw3 := HW3.out; have hz3 : w2.heap.size ≤ w3.heap.size := HW3.out.size; have HOC := hide (ownP_base hoc (show w2.heap.size ≤ _ by simp)); obtain ⟨ad3, cap3, rfl, _⟩ := ownP_posts hoc; clear hoc hb3)
      | (go_at_call 45; refine (clonep_any P _ (w2.alloc (.cells #[.int .i64 p.a, .int .i64 p.b, .int .i64 p.n] 47)).drew (HP2.out.call (by (repeat' exact bel))) HV.out HL.out).mono ?_; rintro e w3 ⟨⟨vc, rfl, hoc⟩, hb3⟩; have HW3 := hide (show Below w2.heap.size w2 w3 from (ww hb3).out); have k7 := hide (BlkIs.call (show BlkIs (w2.alloc (.cells #[.int .i64 p.a, .int .i64 p.b, .int .i64 p.n] 47)).drew w2.heap.size #[.int .i64 p.a, .int .i64 p.b, .int .i64 p.n] 47 from BlkIs.new _ _ _) hb3); have hbw3 := HW3.out; have hz3 : w2.heap.size ≤ w3.heap.size := HW3.out.size; have HOC := hide (ownP_base hoc (show w2.heap.size ≤ _ by simp)); obtain ⟨ad3, cap3, rfl, _⟩ := ownP_posts hoc; clear hoc hb3)
      | (go_at_call 46; refine (clonea_any A _ w3 (HA2.out.call (by (repeat' exact bel))) HV2.out HLA.out).mono ?_; rintro e w4 ⟨⟨va, rfl, hoa⟩, hb4⟩; have k7 := hide (k7.out.call hb4); have HW4 := hide (show Below w2.heap.size w2 w4 from (ww hb4).out); have HOC4 := hide (ownP_call HOC.out (ww hb4).out); have hbw4 := HW4.out; have hz4 : w2.heap.size ≤ w4.heap.size := HW4.out.size; have HOA := hide (ownA_base hoa (show w2.heap.size ≤ _ by first | omega | (simp; omega))); clear hoa hb4)
      | (go_at_call 46; refine (clonea_any A _ w3 (HA2.out.call (by (repeat' exact bel))) HV2.out HLA.out).mono ?_; rintro e w4 ⟨⟨va, rfl, hoa⟩, hb4⟩; have HW4 := hide (show Below w2.heap.size w2 w4 from (ww hb4).out); have HOC4 := hide (ownP_call HOC.out (ww hb4).out); have hbw4 := HW4.out; have hz4 : w2.heap.size ≤ w4.heap.size := HW4.out.size; have HOA := hide (ownA_base hoa (show w2.heap.size ≤ _ by first | omega | (simp; omega))); clear hoa hb4)
      | (go_at_call 46; refine (clonea_any A _ (w3.alloc (.cells #[.int .i64 p.a, .int .i64 p.b, .int .i64 p.n] 47)) (HA2.out.call (by (repeat' exact bel))) HV2.out HLA.out).mono ?_; rintro e w4 ⟨⟨va, rfl, hoa⟩, hb4⟩; have k7 := hide (BlkIs.call (BlkIs.new w3 _ _) hb4); have HW4 := hide (show Below w2.heap.size w2 w4 from (ww hb4).out); have HOC4 := hide (ownP_call HOC.out (ww hb4).out); have hbw4 := HW4.out; have hz4 : w2.heap.size ≤ w4.heap.size := HW4.out.size; have HOA := hide (ownA_base hoa (show w2.heap.size ≤ _ by first | omega | (simp; omega))); clear hoa hb4)
      | (refine step_append_lies w4 rfl (.tmp 28) (.tmp 30) 28 rfl w2.heap.size 47 i0 (.agg #[.int .i64 0, .int .i64 0, .int .i64 0]) 3 24 Tryz.underlying28 hi hi0 hi1 hi2 rfl (by decide) va A.length (flatA A) (by simp [Act.eval, Act.put]) HOA.out ⟨w2.heap.size, 0, none⟩ 1 1 [.int .i64 p.a, .int .i64 p.b, .int .i64 p.n] (by simp [Act.eval, Act.put]) rfl (cellsN3 k7.out) int_one3 (by decide) hmx hbx sz _ rfl ?_; intro g5 cap5 w5 hown5 hgrow5 _ hlt5; have HW5 := hide (show Below w2.heap.size w2 w5 from (show Below w2.heap.size w2 w4 by have hw4 := HW4.out; exact bel).grown hgrow5 sz (ownA_lt (HOA.out))); have HO5 := hide (ownA_app hown5); have HP5 := hide (keepA_ownP (grown_keepA HOA.out hgrow5) HOC4.out); have hbw5 := HW5.out; have hz5 : w2.heap.size ≤ w5.heap.size := HW5.out.size; obtain ⟨⟨c0, c1⟩, d0, d1, hzc⟩ := blk_two' (HS2.out.2.2.call HW5.out); clear hown5 hgrow5)
      | (refine step_append_lies w4 rfl (.tmp 28) (.tmp 30) 28 rfl w2.heap.size 47 i0 (.agg #[.int .i64 0, .int .i64 0, .int .i64 0]) 3 24 Tryz.underlying28 hi hi0 hi1 hi2 rfl (by decide) va A.length (flatA A) (by simp [Act.eval, Act.put]) HOA.out ⟨w3.heap.size, 0, none⟩ 1 1 [.int .i64 p.a, .int .i64 p.b, .int .i64 p.n] (by simp [Act.eval, Act.put]) rfl (cellsN3 k7.out) int_one3 (by decide) hmx hbx sz _ rfl ?_; intro g5 cap5 w5 hown5 hgrow5 _ hlt5; have HW5 := hide (show Below w2.heap.size w2 w5 from (show Below w2.heap.size w2 w4 by have hw4 := HW4.out; exact bel).grown hgrow5 sz (ownA_lt (HOA.out))); have HO5 := hide (ownA_app hown5); have HP5 := hide (keepA_ownP (grown_keepA HOA.out hgrow5) HOC4.out); have hbw5 := HW5.out; have hz5 : w2.heap.size ≤ w5.heap.size := HW5.out.size; obtain ⟨⟨c0, c1⟩, d0, d1, hzc⟩ := blk_two' (HS2.out.2.2.call HW5.out); clear hown5 hgrow5)
      | (refine step_append_lies (w4.alloc (.cells #[.int .i64 p.a, .int .i64 p.b, .int .i64 p.n] 47)) rfl (.tmp 28) (.tmp 30) 28 rfl w2.heap.size 47 i0 (.agg #[.int .i64 0, .int .i64 0, .int .i64 0]) 3 24 Tryz.underlying28 hi hi0 hi1 hi2 rfl (by decide) va A.length (flatA A) (by simp [Act.eval, Act.put]) (ownA_call HOA.out (by (repeat' exact bel))) ⟨w4.heap.size, 0, none⟩ 1 1 [.int .i64 p.a, .int .i64 p.b, .int .i64 p.n] (by simp [Act.eval, Act.put]) rfl (cellsN3 (BlkIs.new w4 _ _)) int_one3 (by decide) hmx hbx sz _ rfl ?_; intro g5 cap5 w5 hown5 hgrow5 _ hlt5; have HW5 := hide (show Below w2.heap.size w2 w5 from (show Below w2.heap.size w2 (w4.alloc (.cells #[.int .i64 p.a, .int .i64 p.b, .int .i64 p.n] 47)) by have hw4 := HW4.out; exact bel).grown hgrow5 sz (ownA_lt (HOA.out))); have HO5 := hide (ownA_app hown5); have HP5 := hide (keepA_ownP (grown_keepA (ownA_call HOA.out (by (repeat' exact bel))) hgrow5) (ownP_call HOC4.out (by (repeat' exact bel)))); have hbw5 := HW5.out; have hz5 : w2.heap.size ≤ w5.heap.size := HW5.out.size; obtain ⟨⟨c0, c1⟩, d0, d1, hzc⟩ := blk_two' (HS2.out.2.2.call HW5.out); clear hown5 hgrow5)
      | fail)
    all_goals
      go_wp2_with fail
      go_meet
      exact ⟨rfl, acc_endF HS2.out.2.2 HBW.out HW5.out (by omega) hz2 HO5.out HP5.out⟩
  case rest =>
    obtain ⟨rfl, hE⟩ := hcut
    obtain ⟨g, cap, ad3, cap3, hk, ho, ha, hb⟩ := hE
    have hbs := hb.size
    obtain ⟨⟨c0, c1⟩, d0, d1, hzc⟩ := blk_two' hk
    have HO5 := hide ho
    have HA5 := hide ha
    have HB5 := hide hb
    have hle := HBW.out.size
    clear hk ho ha hb
    go_wp2
    refine bodyPost_ret (v := .tuple #[.agg #[.slice ad3 P.length cap3, .slice (some ⟨g, 0, none⟩) (A ++ [p]).length cap], .int .i64 0]) (by simp (maxDischargeDepth := 9) [results, Tryz.results16, go_sem, c0, c1, d0, d1, hzc]) rfl ⟨⟨_, _, rfl, ownP_base HO5.out hle, ownA_base HA5.out hle⟩, HB5.out⟩
end Go.Proofs.YtjhhmeoibfdcmaaGreat

namespace Go.Proofs.YtjhhmeoibfdcmaaGreat
open Go.RowKit Qd
set_option linter.unusedSimpArgs false
set_option linter.unusedVariables false

theorem eqPost (d : Nat) (a b x y : Int) (w : World) : (Op.equalIn (d + 2) 32 (.agg #[.int .i64 a, .int .i64 b]) (.agg #[.int .i64 x, .int .i64 y])).run Tryz.prog w = .ok (a == x && b == y) w := by
  have u3 := Tryz.underlying3
  have a3 := Tryz.isAgg3
  have z3 := Tryz.sizeOf3
  have u4 := Tryz.underlying2
  have a4 := Tryz.isAgg2
  have z4 := Tryz.sizeOf2
  rw [run_equalIn_struct w _ _ _ _ (by simp [Program.fieldsOf, Tryz.underlying32]) (by kernel_rfl)]
  simp only [Program.fieldsOf, Tryz.underlying32]
  go_simp
  by_cases h1 : a = x <;> by_cases h2 : b = y <;> simp [h1, h2]
@[go_sem high] theorem eql_post (a b x y : Int) (w : World) : (binOp .eql 32 (.agg #[.int .i64 a, .int .i64 b]) (.agg #[.int .i64 x, .int .i64 y])).run Tryz.prog w = .ok (.bool (a == x && b == y)) w := by
  rw [run_eql_struct, eqPost 9998]; rfl
@[go_sem high] theorem neq_post (a b x y : Int) (w : World) : (binOp .neq 32 (.agg #[.int .i64 a, .int .i64 b]) (.agg #[.int .i64 x, .int .i64 y])).run Tryz.prog w = .ok (.bool (!(a == x && b == y))) w := by
  rw [run_neq_struct, eqPost 9998]; rfl
def accB (a b c x y z : Int) : Bool := spB a b x y && c == z
theorem eqAcc (n : Nat) (a b c x y z : Int) (w : World) : (Op.equalIn (n + 3) 47 (.agg #[.int .i64 a, .int .i64 b, .int .i64 c]) (.agg #[.int .i64 x, .int .i64 y, .int .i64 z])).run Tryz.prog w = .ok (accB a b c x y z) w := by
  have u3 := Tryz.underlying2
  have a3 := Tryz.isAgg2
  have z3 := Tryz.sizeOf2
  have a5 := Tryz.isAgg45
  have z5 := Tryz.sizeOf45
  have he := eqSpan n a b x y w
  rw [run_equalIn_struct w _ _ _ _ (by simp [Program.fieldsOf, Tryz.underlying47]) (by kernel_rfl)]
  simp only [Program.fieldsOf, Tryz.underlying47]
  go_simp
  simp only [accB, spB]
  repeat' split
  all_goals simp_all
@[go_sem high] theorem neq_acc (a b c x y z : Int) (w : World) : (binOp .neq 47 (.agg #[.int .i64 a, .int .i64 b, .int .i64 c]) (.agg #[.int .i64 x, .int .i64 y, .int .i64 z])).run Tryz.prog w = .ok (.bool (!accB a b c x y z)) w := by
  rw [run_neq_struct, eqAcc 9997]; rfl
theorem accB_same (a b c : Int) : accB a b c a b c = true := by simp [accB, spB]
end Go.Proofs.YtjhhmeoibfdcmaaGreat

namespace Go.Proofs.YtjhhmeoibfdcmaaGreat
open Go.RowKit Qd
set_option linter.unusedSimpArgs false
set_option linter.unusedVariables false

/-- Two books that are compared. -/
def SmB (P : List Po) (A : List Ac) (v1 v2 u1 u2 : Value) (w0 w : World) : Prop := BlkIs w w0.heap.size #[v1, v2] 30 ∧ BlkIs w (w0.heap.size + 1) #[u1, u2] 30 ∧ Posts w v1 P ∧ Accs w v2 A ∧ Posts w u1 P ∧ Accs w u2 A ∧ Below w0.heap.size w0 w
theorem SmB.call {P : List Po} {A : List Ac} {v1 v2 u1 u2 : Value} {w0 w w' : World} (h : SmB P A v1 v2 u1 u2 w0 w) (hb : Below w.heap.size w w') : SmB P A v1 v2 u1 u2 w0 w' :=
  ⟨h.1.call hb, h.2.1.call hb, h.2.2.1.call hb, h.2.2.2.1.call hb, h.2.2.2.2.1.call hb, h.2.2.2.2.2.1.call hb, h.2.2.2.2.2.2.trans (hb.mono h.2.2.2.2.2.2.size)⟩
theorem SmB.drew {P : List Po} {A : List Ac} {v1 v2 u1 u2 : Value} {w0 w : World} {n : Nat} (h : SmB P A v1 v2 u1 u2 w0 w) : SmB P A v1 v2 u1 u2 w0 (w.drewN n) := h.call (below_drewN (Below.refl _ _) n)

set_option maxRecDepth 100000 in
set_option maxHeartbeats 6400000 in
theorem r22same_yes (P : List Po) (A : List Ac) (v1 v2 u1 u2 : Value) (w : World) (h1 : Posts w v1 P) (h2 : Accs w v2 A) (k1 : Posts w u1 P) (k2 : Accs w u2 A) (hl : P.length ≤ 100000) (hl2 : A.length ≤ 100000) :
    Calls Tryz.prog 18 #[.agg #[v1, v2], .agg #[u1, u2]] w fun e w' => e = .returned (.bool true) ∧ Below w.heap.size w w' := by
  have H0 := hide (show SmB P A v1 v2 u1 u2 w ((w.alloc (.cells #[v1, v2] 30)).alloc (.cells #[u1, u2] 30)) by
    refine ⟨(BlkIs.new w _ _).alloc _, ?_, h1.call (by (repeat' exact bel)), h2.call (by (repeat' exact bel)), k1.call (by (repeat' exact bel)), k2.call (by (repeat' exact bel)), by (repeat' exact bel)⟩
    simpa using BlkIs.new (w.alloc (.cells #[v1, v2] 30)) #[u1, u2] 30)
  obtain ⟨ad1, cap1, rfl, _⟩ := h1
  obtain ⟨ad2, cap2, rfl, _⟩ := h2
  obtain ⟨ad3, cap3, rfl, _⟩ := k1
  obtain ⟨ad4, cap4, rfl, _⟩ := k2
  go_enter Tryz.func18, Tryz.ntmps18
  go_wp2_with fail
  go_loopw [26] (fun s wr => ∃ j : Nat, s = .int .i64 j ∧ j ≤ P.length ∧ SmB P A (.slice ad1 P.length cap1) (.slice ad2 A.length cap2) (.slice ad3 P.length cap3) (.slice ad4 A.length cap4) w wr) (fun s _ => (100001 - intOf s).toNat)
  case atStart => exact ⟨0, rfl, Nat.zero_le _, H0.out⟩
  case round =>
    obtain ⟨j, rfl, hj, hS⟩ := hrel
    have HS := hide hS
    obtain ⟨⟨a0, a1⟩, _, _, hza⟩ := blk_two' hS.1
    obtain ⟨⟨b0, b1⟩, _, _, hzb⟩ := blk_two' hS.2.1
    clear hS
    by_cases hlt : j < P.length
    · obtain ⟨x, hx⟩ : ∃ x, P[j]? = some x := ⟨_, List.getElem?_eq_getElem hlt⟩
      obtain ⟨g, o, rfl, hg, c0, c1⟩ := HS.out.2.2.1.at hx
      obtain ⟨g', o', rfl, hg', d0, d1⟩ := HS.out.2.2.2.2.1.at hx
      clear hx
      have hi3 : (0 : Int) ≤ (j : Int) := by omega
      have hi4 : (j : Int) < (P.length : Int) := by omega
      have hub : (!(x.day == x.day && x.n == x.n)) = false := by simp
      go_wp2_with fail
      go_quiet (fail)
      go_wp2
      all_goals first
        | (exfalso; omega)
        | skip
      go_roundw
      case rel => exact ⟨j + 1, by go_num, by omega, HS.out.drew⟩
      case measure => simp [intOf]; omega
    · obtain ⟨wo, hwo⟩ : ∃ wo : World, wo = wr := ⟨_, rfl⟩
      rw [← hwo] at HS a0 a1 b0 b1 hza hzb ⊢
      clear hwo
      go_wp2_with fail
      go_loopw [44] (fun s wr => ∃ k : Nat, s = .int .i64 k ∧ k ≤ A.length ∧ SmB P A (.slice ad1 P.length cap1) (.slice ad2 A.length cap2) (.slice ad3 P.length cap3) (.slice ad4 A.length cap4) w wr) (fun s _ => (100001 - intOf s).toNat)
      case atStart => exact ⟨0, rfl, Nat.zero_le _, HS.out⟩
      case round =>
        obtain ⟨k, rfl, hk, hS⟩ := hrel
        have HS2 := hide hS
        obtain ⟨⟨a0, a1⟩, _, _, hza⟩ := blk_two' hS.1
        obtain ⟨⟨b0, b1⟩, _, _, hzb⟩ := blk_two' hS.2.1
        have hBel := hS.2.2.2.2.2.2
        clear hS
        by_cases hlt2 : k < A.length
        · obtain ⟨x, hx⟩ : ∃ x, A[k]? = some x := ⟨_, List.getElem?_eq_getElem hlt2⟩
          obtain ⟨g, o, rfl, hg, c0, c1, c2⟩ := HS2.out.2.2.2.1.at hx
          obtain ⟨g', o', rfl, hg', d0, d1, d2⟩ := HS2.out.2.2.2.2.2.1.at hx
          clear hx
          have hi3 : (0 : Int) ≤ (k : Int) := by omega
          have hi4 : (k : Int) < (A.length : Int) := by omega
          have hub := accB_same x.a x.b x.n
          go_wp2_with fail
          go_quiet (fail)
          go_wp2
          all_goals first
            | (exfalso; omega)
            | skip
          go_roundw
          case rel => exact ⟨k + 1, by go_num, by omega, HS2.out.drew⟩
          case measure => simp [intOf]; omega
        · go_wp2
          all_goals first
            | (exfalso; omega)
            | (go_ret; exact ⟨rfl, by (repeat' exact bel)⟩)
end Go.Proofs.YtjhhmeoibfdcmaaGreat

namespace Go.Proofs.YtjhhmeoibfdcmaaGreat
open Go.RowKit Qd
set_option linter.unusedSimpArgs false
set_option linter.unusedVariables false

def putPL (P : List Po) (A : List Ac) (p : Po) : List Po := if putE P A p = 0 then P ++ [p] else []
def putAL (P : List Po) (A : List Ac) (p : Po) : List Ac := if putE P A p = 0 then A else []
def accPL (P : List Po) (A : List Ac) (p : Ac) : List Po := if accrE P A p = 0 then P else []
def accAL (P : List Po) (A : List Ac) (p : Ac) : List Ac := if accrE P A p = 0 then A ++ [p] else []
theorem ownB_nil (w : World) (m : Nat) : OwnB w m (.slice none 0 0) (.slice none 0 0) [] [] := ⟨World.ownsRow_nil _ _ _ _, World.ownsRow_nil _ _ _ _⟩
theorem chk_len {P : List Po} {A : List Ac} (h : chkE P A = 0) : P.length ≤ 4096 ∧ A.length ≤ 4096 := by
  obtain ⟨h1, h2, _⟩ := chk_all h
  exact ⟨h1, h2⟩
theorem put_zero {P : List Po} {A : List Ac} {p : Po} (h : putE P A p = 0) : chkE P A = 0 ∧ isB p.day = true ∧ P.length < 4096 := by
  unfold putE roomE at h
  by_cases hC : chkE P A = 0
  · rw [if_pos hC] at h
    have hl := (chk_len hC).1
    by_cases hm : (P.length : Int) = 4096
    · rw [if_pos hm] at h; simp at h
    · rw [if_neg hm, if_pos rfl] at h
      refine ⟨hC, ?_, by omega⟩
      cases hd : isB p.day
      · simp [daysE, hd] at h
      · rfl
  · rw [if_neg hC, if_neg hC] at h; exact absurd h hC
theorem accr_zero {P : List Po} {A : List Ac} {p : Ac} (h : accrE P A p = 0) : chkE P A = 0 ∧ accE p = 0 ∧ A.length < 4096 := by
  unfold accrE roomE at h
  by_cases hC : chkE P A = 0
  · rw [if_pos hC] at h
    have hl := (chk_len hC).2
    by_cases hm : (A.length : Int) = 4096
    · rw [if_pos hm] at h; simp at h
    · rw [if_neg hm, if_pos rfl] at h
      exact ⟨hC, h, by omega⟩
  · rw [if_neg hC, if_neg hC] at h; exact absurd h hC
section
variable (P : List Po) (A : List Ac) (v1 v2 : Value) (w : World) (h1 : Posts w v1 P) (h2 : Accs w v2 A) (hv : v1 = .slice none 0 0 ∨ ∃ ad cap, v1 = .slice (some ad) P.length cap) (hv2 : v2 = .slice none 0 0 ∨ ∃ ad cap, v2 = .slice (some ad) A.length cap) (hl : P.length ≤ 100000 ∧ A.length ≤ 100000)
include h1 h2 hv hv2 hl
theorem put_all (p : Po) : Calls Tryz.prog 11 #[.agg #[v1, v2], .agg #[.int .i64 p.day, .int .i64 p.n]] w fun e w' => (∃ x y, e = .returned (.tuple #[.agg #[x, y], .int .i64 (putE P A p)]) ∧ OwnB w' w.heap.size x y (putPL P A p) (putAL P A p)) ∧ Below w.heap.size w w' := by
  unfold putPL putAL
  by_cases hE : putE P A p = 0
  · obtain ⟨hc, hd, hlt⟩ := put_zero hE
    rw [if_pos hE, if_pos hE, hE]
    refine (put_any P A p v1 v2 w h1 h2 hv hv2 hlt (chk_len hc).2 hc hd).mono ?_
    rintro e w' ⟨⟨x, y, rfl, k1, k2⟩, hb⟩
    exact ⟨⟨x, y, rfl, k1, k2⟩, hb⟩
  · rw [if_neg hE, if_neg hE]
    refine (put_no P A p v1 v2 w h1 h2 hl hE).mono ?_
    rintro e w' ⟨rfl, hb⟩
    exact ⟨⟨_, _, rfl, ownB_nil _ _⟩, hb⟩
theorem r22put_all (p : Po) : Calls Tryz.prog 15 #[.agg #[v1, v2], .agg #[.int .i64 p.day, .int .i64 p.n]] w fun e w' => (∃ x y, e = .returned (.tuple #[.agg #[x, y], .int .i64 (putE P A p)]) ∧ OwnB w' w.heap.size x y (putPL P A p) (putAL P A p)) ∧ Below w.heap.size w w' := by
  unfold putPL putAL
  by_cases hE : putE P A p = 0
  · obtain ⟨hc, hd, hlt⟩ := put_zero hE
    rw [if_pos hE, if_pos hE, hE]
    exact r22put_yes P A p v1 v2 w h1 h2 hv hv2 (chk_len hc).1 (chk_len hc).2 hlt hc hd
  · rw [if_neg hE, if_neg hE]
    refine (r22put_no P A p v1 v2 w h1 h2 hl hE).mono ?_
    rintro e w' ⟨rfl, hb⟩
    exact ⟨⟨_, _, rfl, ownB_nil _ _⟩, hb⟩
theorem accr_all (p : Ac) : Calls Tryz.prog 16 #[.agg #[v1, v2], .agg #[.int .i64 p.a, .int .i64 p.b, .int .i64 p.n]] w fun e w' => (∃ x y, e = .returned (.tuple #[.agg #[x, y], .int .i64 (accrE P A p)]) ∧ OwnB w' w.heap.size x y (accPL P A p) (accAL P A p)) ∧ Below w.heap.size w w' := by
  unfold accPL accAL
  by_cases hE : accrE P A p = 0
  · obtain ⟨hc, hd, hlt⟩ := accr_zero hE
    rw [if_pos hE, if_pos hE, hE]
    exact accr_any P A p v1 v2 w h1 h2 hv hv2 (chk_len hc).1 hlt hc hd
  · rw [if_neg hE, if_neg hE]
    refine (accr_no P A p v1 v2 w h1 h2 hl hE).mono ?_
    rintro e w' ⟨rfl, hb⟩
    exact ⟨⟨_, _, rfl, ownB_nil _ _⟩, hb⟩
theorem r22accr_all (p : Ac) : Calls Tryz.prog 17 #[.agg #[v1, v2], .agg #[.int .i64 p.a, .int .i64 p.b, .int .i64 p.n]] w fun e w' => (∃ x y, e = .returned (.tuple #[.agg #[x, y], .int .i64 (accrE P A p)]) ∧ OwnB w' w.heap.size x y (accPL P A p) (accAL P A p)) ∧ Below w.heap.size w w' := by
  unfold accPL accAL
  by_cases hE : accrE P A p = 0
  · obtain ⟨hc, hd, hlt⟩ := accr_zero hE
    rw [if_pos hE, if_pos hE, hE]
    exact r22accr_yes P A p v1 v2 w h1 h2 hv hv2 (chk_len hc).1 (chk_len hc).2 hlt hc hd
  · rw [if_neg hE, if_neg hE]
    refine (r22accr_no P A p v1 v2 w h1 h2 hl hE).mono ?_
    rintro e w' ⟨rfl, hb⟩
    exact ⟨⟨_, _, rfl, ownB_nil _ _⟩, hb⟩
end
theorem putPL_len {P : List Po} {A : List Ac} {p : Po} (h : P.length ≤ 5000) : (putPL P A p).length ≤ 5001 := by unfold putPL; split <;> first | omega | (simp; done) | (simp; omega)
theorem putAL_len {P : List Po} {A : List Ac} {p : Po} (h : A.length ≤ 5000) : (putAL P A p).length ≤ 5001 := by unfold putAL; split <;> first | omega | (simp; done) | (simp; omega)
theorem accPL_len {P : List Po} {A : List Ac} {p : Ac} (h : P.length ≤ 5000) : (accPL P A p).length ≤ 5001 := by unfold accPL; split <;> first | omega | (simp; done) | (simp; omega)
theorem accAL_len {P : List Po} {A : List Ac} {p : Ac} (h : A.length ≤ 5000) : (accAL P A p).length ≤ 5001 := by unfold accAL; split <;> first | omega | (simp; done) | (simp; omega)

theorem flatP_set (l : List Po) (i : Nat) (x : Po) (n : Int) (h : l[i]? = some x) : (flatP l).set (i * 2 + 1) (.int .i64 n) = flatP (l.set i ⟨x.day, n⟩) := by
  induction l generalizing i with
  | nil => simp at h
  | cons a l ih =>
    cases i with
    | zero => simp at h; subst h; rfl
    | succ i =>
      have := ih i (by simpa using h)
      simp only [flatP, List.flatMap_cons] at this ⊢
      rw [show (i + 1) * 2 + 1 = (i * 2 + 1) + 1 + 1 by omega]
      simpa using this
theorem flatA_set (l : List Ac) (i : Nat) (x : Ac) (n : Int) (h : l[i]? = some x) : (flatA l).set (i * 3 + 2) (.int .i64 n) = flatA (l.set i ⟨x.a, x.b, n⟩) := by
  induction l generalizing i with
  | nil => simp at h
  | cons a l ih =>
    cases i with
    | zero => simp at h; subst h; rfl
    | succ i =>
      have := ih i (by simpa using h)
      simp only [flatA, List.flatMap_cons] at this ⊢
      rw [show (i + 1) * 3 + 2 = (i * 3 + 2) + 1 + 1 + 1 by omega]
      simpa using this
theorem ownP_set {w : World} {b g n cap : Nat} {l : List Po} (h : OwnP w b (.slice (some ⟨g, 0, none⟩) n cap) l) (hn : n = l.length) {i : Nat} {x : Po} (hx : l[i]? = some x) (m : Int) :
    OwnP (w.setCell ⟨g, i * 2 + 1, none⟩ (.int .i64 m)) b (.slice (some ⟨g, 0, none⟩) n cap) (l.set i ⟨x.day, m⟩) := by
  subst hn
  have := World.ownsRow.stored h (i * 2 + 1) (.int .i64 m)
  unfold OwnP
  rw [← flatP_set l i x m hx, List.length_set]
  exact this.1
theorem ownA_set {w : World} {b g n cap : Nat} {l : List Ac} (h : OwnA w b (.slice (some ⟨g, 0, none⟩) n cap) l) (hn : n = l.length) {i : Nat} {x : Ac} (hx : l[i]? = some x) (m : Int) :
    OwnA (w.setCell ⟨g, i * 3 + 2, none⟩ (.int .i64 m)) b (.slice (some ⟨g, 0, none⟩) n cap) (l.set i ⟨x.a, x.b, m⟩) := by
  subst hn
  have := World.ownsRow.stored h (i * 3 + 2) (.int .i64 m)
  unfold OwnA
  rw [← flatA_set l i x m hx, List.length_set]
  exact this.1
theorem keepP_store {w : World} {b g n cap k : Nat} {l : List Po} (h : OwnP w b (.slice (some ⟨g, 0, none⟩) n cap) l) (u : Value) : KeepP w (w.setCell ⟨g, k, none⟩ u) := by
  refine ⟨by simp, fun B cs t ht hB => (Below.heap_setCell w _ u B ?_).trans hB⟩
  rintro rfl
  rcases h.2 with ⟨h1, _⟩ | ⟨g', cap', cur, h1, _, h3', _⟩
  · cases h1
  · cases h1
    rw [h3'] at hB
    cases hB
    exact ht rfl
theorem keepA_store {w : World} {b g n cap k : Nat} {l : List Ac} (h : OwnA w b (.slice (some ⟨g, 0, none⟩) n cap) l) (u : Value) : KeepA w (w.setCell ⟨g, k, none⟩ u) := by
  refine ⟨by simp, fun B cs t ht hB => (Below.heap_setCell w _ u B ?_).trans hB⟩
  rintro rfl
  rcases h.2 with ⟨h1, _⟩ | ⟨g', cap', cur, h1, _, h3', _⟩
  · cases h1
  · cases h1
    rw [h3'] at hB
    cases hB
    exact ht rfl
theorem KeepP.trans {w w' w2 : World} (h : KeepP w w') (k : KeepP w' w2) : KeepP w w2 := ⟨Nat.le_trans h.1 k.1, fun B cs t ht hB => k.2 B cs t ht (h.2 B cs t ht hB)⟩
theorem KeepA.trans {w w' w2 : World} (h : KeepA w w') (k : KeepA w' w2) : KeepA w w2 := ⟨Nat.le_trans h.1 k.1, fun B cs t ht hB => k.2 B cs t ht (h.2 B cs t ht hB)⟩
theorem KeepP.refl (w : World) : KeepP w w := ⟨Nat.le_refl _, fun _ _ _ _ h => h⟩
theorem KeepA.refl (w : World) : KeepA w w := ⟨Nat.le_refl _, fun _ _ _ _ h => h⟩
end Go.Proofs.YtjhhmeoibfdcmaaGreat
