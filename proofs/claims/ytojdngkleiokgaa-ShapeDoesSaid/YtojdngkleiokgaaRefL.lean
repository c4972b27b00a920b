/- Contracts of the references: weeks of periods, the added week, and when lists are the same (layer 15). -/
import Derived.Test.YtojdngkleiokgaaRefK
import Derived.Test.YtojdngkleiokgaaAdded
import Derived.Test.YtojdngkleiokgaaFrameA
namespace Go.Proofs.Ytojdngkleiokgaa
open Go.RowKit Qd
set_option linter.unusedSimpArgs false
set_option linter.unusedVariables false

theorem rows_base {w w' : World} {K base size n g cap : Nat} {e : TypeId} {xs : List Value} (h : w.ownsRow base e size (.slice (some ⟨g, 0, none⟩) n cap) n xs) (hg : g < K) (hb : Below K w w') : w'.ownsRow base e size (.slice (some ⟨g, 0, none⟩) n cap) n xs := by
  refine ⟨h.1, ?_⟩
  rcases h.2 with h1 | ⟨g', cap', cur, he, h2, hg', h3⟩
  · exact .inl h1
  · cases he
    exact .inr ⟨g, cap, cur, rfl, h2, (hb.block g hg).trans hg', h3⟩
/-- Numbers that can be read at a block's head. -/
def RdI (w : World) (g : Nat) (L : List Int) : Prop := g < w.heap.size ∧ ∀ k, k < L.length → w.cell? ⟨g, k, none⟩ = some (.int .i64 (L[k]?.getD 0))
theorem RdI.call {w w' : World} {g : Nat} {L : List Int} (h : RdI w g L) (hb : Below w.heap.size w w') : RdI w' g L :=
  ⟨Nat.lt_of_lt_of_le h.1 hb.size, fun k hk => (hb.cell (p := ⟨g, k, none⟩) h.1).trans (h.2 k hk)⟩
theorem IntsAt.rd {w : World} {g : Nat} {L : List Int} (h : IntsAt w g L) : RdI w g L := ⟨h.lt, fun k hk => h.cell hk⟩
theorem rows_rd {w : World} {base g cap n : Nat} {L : List Int} (h : w.ownsRow base 3 1 (.slice (some ⟨g, 0, none⟩) n cap) n (intsC L)) : RdI w g L := by
  have hc := h.cells (g := g) rfl
  have e : ∀ k : Nat, (⟨g, 0, none⟩ : Addr).add k = ⟨g, k, none⟩ := by intro k; cases k <;> simp [Addr.add]
  refine ⟨?_, fun k hk => ?_⟩
  · rcases h.2 with ⟨h1, _⟩ | ⟨g', cap', cur, he, h2, hg', h3⟩
    · cases h1
    · cases he; exact (Array.getElem?_eq_some_iff.1 hg').1
  · have := hc k (.int .i64 (L[k]?.getD 0)) (by simp [intsC, hk])
    rwa [e] at this

set_option maxHeartbeats 1600000 in
theorem same15_nil (w : World) :
    Calls Try.prog 16 #[.slice none 0 0, .slice none 0 0] w fun e w' => e = .returned (.bool true) ∧ Below w.heap.size w w' := by
  go_enter Try.func16, Try.ntmps16
  go_wp2_with fail
  go_loopw [13] (fun s wr => s = .int .i64 0 ∧ Below w.heap.size w wr) (fun s _ => (5 - intOf s).toNat)
  case atStart => exact ⟨rfl, Below.refl _ _⟩
  case round =>
    obtain ⟨rfl, hBel⟩ := hrel
    go_wp2
    go_ret
    exact ⟨rfl, by (repeat' (first | (with_reducible exact Below.refl _ _) | (with_reducible assumption) | (with_reducible refine Below.alloc ?_ ?_ _) | (with_reducible refine below_drewN ?_ _) | (with_reducible refine Below.drew ?_) | (with_reducible refine Below.setCell ?_ ?_ _) | (with_reducible refine Below.trans ?_ (Below.mono (by assumption) ?_)) | go_size | (simp at *; omega)))⟩

set_option maxHeartbeats 1600000 in
theorem same15_some (L : List Int) (g1 c1 g2 c2 : Nat) (w : World) (h1 : RdI w g1 L) (h2 : RdI w g2 L) (h0 : 0 < L.length) (hl : L.length ≤ 1000000) :
    Calls Try.prog 16 #[.slice (some ⟨g1, 0, none⟩) L.length c1, .slice (some ⟨g2, 0, none⟩) L.length c2] w fun e w' => e = .returned (.bool true) ∧ Below w.heap.size w w' := by
  have H1 := hide h1
  have H2 := hide h2
  have hg1 := h1.1
  have hg2 := h2.1
  clear h1 h2
  go_enter Try.func16, Try.ntmps16
  go_wp2_with fail
  go_loopw [13] (fun s wr => ∃ j : Nat, s = .int .i64 j ∧ j ≤ L.length ∧ Below w.heap.size w wr) (fun s _ => (1000001 - intOf s).toNat)
  case atStart => exact ⟨0, rfl, Nat.zero_le _, Below.refl _ _⟩
  case round =>
    obtain ⟨j, rfl, hj, hBel⟩ := hrel
    have hsz := hBel.size
    by_cases hlt : j < L.length
    · have a0 := (H1.out.call hBel).2 j hlt
      have b0 := (H2.out.call hBel).2 j hlt
      obtain ⟨x, hx⟩ : ∃ x, L[j]?.getD 0 = x := ⟨_, rfl⟩
      rw [hx] at a0 b0
      clear hx
      have hi3 : (0 : Int) ≤ (j : Int) := by omega
      have hi4 : (j : Int) < (L.length : Int) := by omega
      have hxx : (x != x) = false := by simp
      go_wp2_with fail
      go_quiet (fail)
      go_wp2
      all_goals first
        | (exfalso; omega)
        | skip
      go_roundw
      case rel => exact ⟨j + 1, by go_num, by omega, by (repeat' (first | (with_reducible exact Below.refl _ _) | (with_reducible assumption) | (with_reducible refine Below.alloc ?_ ?_ _) | (with_reducible refine below_drewN ?_ _) | (with_reducible refine Below.drew ?_) | (with_reducible refine Below.setCell ?_ ?_ _) | (with_reducible refine Below.trans ?_ (Below.mono (by assumption) ?_)) | go_size | (simp at *; omega)))⟩
      case measure => simp [intOf]; omega
    · go_wp2
      all_goals first
        | (exfalso; omega)
        | (go_ret; exact ⟨rfl, by (repeat' (first | (with_reducible exact Below.refl _ _) | (with_reducible assumption) | (with_reducible refine Below.alloc ?_ ?_ _) | (with_reducible refine below_drewN ?_ _) | (with_reducible refine Below.drew ?_) | (with_reducible refine Below.setCell ?_ ?_ _) | (with_reducible refine Below.trans ?_ (Below.mono (by assumption) ?_)) | go_size | (simp at *; omega)))⟩)

set_option maxHeartbeats 1600000 in
theorem r15weeks_no (c : Cal) (y : Int) (w : World) (hn : c.name.size ≤ 1000) (hE : ¬ askE c y 1601 = 0) :
    Calls Try.prog 11 #[calV c, .int .i64 y] w fun e w' => e = .returned (.tuple #[.slice none 0 0, .int .i64 (askE c y 1601)]) ∧ Below w.heap.size w w' := by
  have HNE := hide hE
  obtain ⟨E, hEE⟩ : ∃ E, askE c y 1601 = E := ⟨_, rfl⟩
  have HE := hide hEE
  rw [hEE] at hE
  have hEb : (E != 0) = true := by simpa using hE
  clear hE hEE
  simp only [calV]
  go_enter Try.func11, Try.ntmps11
  go_wp2_with fail
  refine (r15ends_no c y _ hn HNE.out).mono ?_
  rintro e w1 ⟨rfl, hb1⟩
  rw [HE.out]
  have hz1 : w.heap.size < w1.heap.size := by have := hb1.size; simp at this; omega
  have HB1 := hide (show Below w.heap.size w w1 by refine Below.trans ?_ (hb1.mono (by first | omega | (simp; done) | (simp; omega))); (repeat' (first | (with_reducible exact Below.refl _ _) | (with_reducible assumption) | (with_reducible refine Below.alloc ?_ ?_ _) | (with_reducible refine below_drewN ?_ _) | (with_reducible refine Below.drew ?_) | (with_reducible refine Below.setCell ?_ ?_ _) | (with_reducible refine Below.trans ?_ (Below.mono (by assumption) ?_)) | go_size | (simp at *; omega))))
  have HQ1 := hide (calAt_below hb1 (by simp) (calAt_new w c))
  obtain ⟨q0, q1, q2, q3, q4, q5, q6, q7, q8, q9, q10, q11, q12, q13⟩ := HQ1.out
  clear hb1
  have hBel := HB1.out
  go_wp2
  go_ret2
  exact ⟨by rw [HE.out]; rfl, by (repeat' (first | (with_reducible exact Below.refl _ _) | (with_reducible assumption) | (with_reducible refine Below.alloc ?_ ?_ _) | (with_reducible refine below_drewN ?_ _) | (with_reducible refine Below.drew ?_) | (with_reducible refine Below.setCell ?_ ?_ _) | (with_reducible refine Below.trans ?_ (Below.mono (by assumption) ?_)) | go_size | (simp at *; omega)))⟩

def RWeeksPost (c : Cal) (y : Int) (w : World) (e : Ending) (w' : World) : Prop := ∃ v, e = .returned (.tuple #[v, .int .i64 0]) ∧ IntsV w' v (weeksL c y) ∧ Below w.heap.size w w'
set_option maxRecDepth 100000 in
set_option maxHeartbeats 6400000 in
theorem r15weeks_any (c : Cal) (y : Int) (w : World) (hn : c.name.size ≤ 1000) (hE : askE c y 1601 = 0) :
    Calls Try.prog 11 #[calV c, .int .i64 y] w (RWeeksPost c y w) := by
  have hbd := nPer_bd c y hE
  obtain ⟨N, hN⟩ : ∃ N, (endsL c y).length = N := ⟨_, rfl⟩
  have hbN : 12 ≤ N ∧ N ≤ 52 := by rw [← hN]; exact hbd
  have HL := hide (show weeksL c y = upto (wkAt c y) N by rw [weeksL, hN]; rfl)
  have HP := hide (fun k (h : k < N) => period_1 c y hE k (by omega))
  have HFB := hide (fun k (h : k ≤ N) => from_bd c y hE k (by omega))
  have HFS := hide (fun k => from_succ c y k)
  have HWA := hide (fun k => (show wkAt c y k = (endAt c y k - fromAt c y k) / 7 + 1 from rfl))
  have HEA := hide (fun k => (show (endsL c y)[k]?.getD 0 = endAt c y k from rfl))
  have HF0 := hide (show fromAt c y 0 = startV c y by simp [fromAt])
  have hyb := year_bd c y hE
  have HE := hide hE
  obtain ⟨D, hD⟩ : ∃ D, startV c y = D := ⟨_, rfl⟩
  rw [hD] at HFB HF0 hyb
  have HD := hide hD
  have hDb : 0 ≤ D ∧ D ≤ 3068037 := ⟨hyb.1, hyb.2.1⟩
  have HN := hide hN
  obtain ⟨i0, hi, hi0, hi1, hi2⟩ := info_parts rint_info
  clear hbd hE hyb hD hN
  simp only [calV]
  go_enter Try.func11, Try.ntmps11
  go_wp2_with fail
  refine (r15ends_any c y _ hn HE.out).mono ?_
  rintro e w1 ⟨v, rfl, hv, hb1⟩
  obtain ⟨g, cap, rfl, hrow⟩ := hv
  rw [HN.out] at hrow ⊢
  have hrd := rows_rd hrow
  have HROW1 := hide hrow
  have hg1 := hrd.1
  clear hrow hrd
  have hz1 : w.heap.size < w1.heap.size := by have := hb1.size; simp at this; omega
  have HB1 := hide (show Below w.heap.size w w1 by refine Below.trans ?_ (hb1.mono (by first | omega | (simp; done) | (simp; omega))); (repeat' (first | (with_reducible exact Below.refl _ _) | (with_reducible assumption) | (with_reducible refine Below.alloc ?_ ?_ _) | (with_reducible refine below_drewN ?_ _) | (with_reducible refine Below.drew ?_) | (with_reducible refine Below.setCell ?_ ?_ _) | (with_reducible refine Below.trans ?_ (Below.mono (by assumption) ?_)) | go_size | (simp at *; omega))))
  have HQ1 := hide (calAt_below hb1 (by simp) (calAt_new w c))
  obtain ⟨q0, q1, q2, q3, q4, q5, q6, q7, q8, q9, q10, q11, q12, q13⟩ := HQ1.out
  clear hb1
  go_wp2_with fail
  refine (r13start_any c y _ hn).mono ?_
  rintro e w2 ⟨rfl, hb2⟩
  rw [HE.out, HD.out]
  have HROW2 := hide (rowns_call HROW1.out hb2)
  have hg2 : g < w2.heap.size := Nat.lt_of_lt_of_le hg1 hb2.size
  have hz2 : w.heap.size < w2.heap.size := by have := hb2.size; (try simp at this); omega
  have HB2 := hide (show Below w.heap.size w w2 by have hp := HB1.out; refine Below.trans ?_ (hb2.mono (by first | omega | (simp; done) | (simp; omega))); (repeat' (first | (with_reducible exact Below.refl _ _) | (with_reducible assumption) | (with_reducible refine Below.alloc ?_ ?_ _) | (with_reducible refine below_drewN ?_ _) | (with_reducible refine Below.drew ?_) | (with_reducible refine Below.setCell ?_ ?_ _) | (with_reducible refine Below.trans ?_ (Below.mono (by assumption) ?_)) | go_size | (simp at *; omega))))
  have HQ2 := hide (show CalAt w2 w.heap.size c from calAt_below hb2 (by first | omega | (simp; done) | (simp; omega)) (by first | exact HQ1.out | exact calAt_alloc HQ1.out (by omega) _ | exact calAt_alloc (calAt_alloc HQ1.out (by omega) _) (by simp; omega) _))
  clear q0 q1 q2 q3 q4 q5 q6 q7 q8 q9 q10 q11 q12 q13
  obtain ⟨q0, q1, q2, q3, q4, q5, q6, q7, q8, q9, q10, q11, q12, q13⟩ := HQ2.out
  clear hb2
  have HS1 := hide (show IlSt c w.heap.size w2.heap.size [] (.slice none 0 0) w w2 from ⟨HQ2.out, hz2, Nat.le_refl _, ⟨World.ownsRow_nil _ _ _ _, by simp⟩, HB2.out⟩)
  go_wp2_with fail
  go_loopw [8, 10, 30] (fun s8 s10 s30 wr => ∃ k : Nat, s30 = .int .i64 k ∧ s8 = .int .i64 (fromAt c y k) ∧ k ≤ N ∧ IlSt c w.heap.size w2.heap.size (upto (wkAt c y) k) s10 w wr ∧ wr.ownsRow 0 3 1 (.slice (some ⟨g, 0, none⟩) N cap) N (intsC (endsL c y))) (fun _ _ s _ => (60 - intOf s).toNat)
  case atStart => exact ⟨0, rfl, by rw [HF0.out], by omega, HS1.out, HROW2.out⟩
  case round =>
    obtain ⟨k, rfl, rfl, hk, hS, hR⟩ := hrel
    have HS := hide hS
    have HR := hide hR
    have hBo := hS.2.2.1
    have hBz := hS.2.1
    clear hS hR
    clear q0 q1 q2 q3 q4 q5 q6 q7 q8 q9 q10 q11 q12 q13
    have hfb := HFB.out k hk
    by_cases hlt : k < N
    · have c0 := (rows_rd HR.out).2 k (by have := HN.out; omega)
      rw [HEA.out k] at c0
      have hp := HP.out k hlt
      have hfs := HFS.out k
      have hfb1 := HFB.out (k + 1) hlt
      have hwa := HWA.out k
      have HSN := hide (upto_succ (wkAt c y) k)
      have hul : (upto (wkAt c y) k).length = k := upto_length _ _
      obtain ⟨F1, hF1⟩ : ∃ X, fromAt c y (k + 1) = X := ⟨_, rfl⟩
      obtain ⟨F0, hF0⟩ : ∃ X, fromAt c y k = X := ⟨_, rfl⟩
      obtain ⟨E0, hE0⟩ : ∃ X, endAt c y k = X := ⟨_, rfl⟩
      obtain ⟨A0, hA0⟩ : ∃ X, wkAt c y k = X := ⟨_, rfl⟩
      obtain ⟨U, hU⟩ : ∃ X, upto (wkAt c y) k = X := ⟨_, rfl⟩
      have HF1 := hide hF1
      rw [hF1, hE0] at hfs
      rw [hF1] at hfb1
      rw [hF0, hE0] at hp
      rw [hA0, hF0, hE0] at hwa
      rw [hF0] at hfb
      rw [hF0]
      rw [hE0] at c0
      rw [hU, hA0] at HSN
      rw [hU] at HS hul
      have htd : (E0 - F0 + 7).tdiv 7 = A0 := by rw [Int.tdiv_eq_ediv_of_nonneg (by omega)]; omega
      have hgs : g < wr.heap.size := by omega
      have hi3 : (0 : Int) ≤ (k : Int) := by omega
      have hi4 : (k : Int) < (N : Int) := by omega
      have hA0b : 1 ≤ A0 ∧ A0 ≤ 6 := by omega
      have hp1 : 7 ≤ E0 - F0 + 1 ∧ E0 - F0 + 1 ≤ 42 := ⟨hp.1, hp.2.1⟩
      clear hp hwa hF1 hF0 hE0 hA0 hU
      go_wp2_with ((at_builtin; refine wpList_append_own _ rfl _ _ 30 rfl w2.heap.size 3 i0 (.int .i64 0) 1 8 Try.underlying30 hi hi0 hi1 hi2 rfl (by decide) _ _ _ rfl (HS.out.2.2.2.1.1.alloc _) ⟨wr.heap.size, 0, none⟩ 1 1 [.int .i64 (A0)] rfl rfl ?c1w ?c2w ?c3w ?c4w ?c5w ?_))
      case c1w =>
        intro i u hu
        match i, hu with
        | 0, hu => simp at hu; subst hu; simp [Addr.add]
        | i + 1, hu => simp at hu
      case c2w => intro u hu; simp at hu; subst hu; rfl
      case c3w => unfold maxLen; omega
      case c4w => omega
      case c5w => simp; omega
      · intro v' w' hown' hgrow _
        have HG := hide (HS.out.grow (x := A0) _ (by rw [hul]; exact hown') hgrow)
        have HR2 := hide (rows_base HR.out hg2 (((Below.refl w2.heap.size wr).alloc hBo (.cells #[.int .i64 A0] 3)).grown hgrow (by simp; omega) (fun k hk => by have := (HS.out.2.2.2.1.1.lt k hk).1; omega)))
        clear hown' hgrow
        go_wp2
        go_roundw
        case rel => exact ⟨k + 1, by go_num, by rw [HF1.out]; congr 1; omega, by omega, by rw [HSN.out]; exact HG.out, HR2.out⟩
        case measure => simp [intOf]; omega
    · obtain rfl : k = N := by omega
      have HI := hide (HS.out.ints (by rw [upto_length]; omega))
      have hBel := HS.out.2.2.2.2
      obtain ⟨U, hU⟩ : ∃ U, upto (wkAt c y) k = U := ⟨_, rfl⟩
      have HU := hide hU
      rw [hU] at HI
      obtain ⟨F0, hF0⟩ : ∃ X, fromAt c y k = X := ⟨_, rfl⟩
      rw [hF0]
      clear hU hF0 hfb
      go_wp2
      all_goals first
        | (exfalso; omega)
        | (go_ret2; exact ⟨_, rfl, by rw [HL.out, HU.out]; exact HI.out, by (repeat' (first | (with_reducible exact Below.refl _ _) | (with_reducible assumption) | (with_reducible refine Below.alloc ?_ ?_ _) | (with_reducible refine below_drewN ?_ _) | (with_reducible refine Below.drew ?_) | (with_reducible refine Below.setCell ?_ ?_ _) | (with_reducible refine Below.trans ?_ (Below.mono (by assumption) ?_)) | go_size | (simp at *; omega)))⟩)
end Go.Proofs.Ytojdngkleiokgaa
