/- Contracts of frame.Make: years that are told. -/
import Derived.Test.YtojdngkleiokgaaFrameC
namespace Go.Proofs.Ytojdngkleiokgaa
open Go.RowKit Qd
set_option linter.unusedSimpArgs false
set_option linter.unusedVariables false

theorem spans_info : (Try.prog.info? 43).map (fun i => (i.zero, i.size, i.bytes)) = some (some (.agg #[.int .i64 0, .int .i64 0]), 2, 16) := by kernel_rfl

theorem BlkIs.own {w w' : World} {row : Option Nat} {B : Nat} {cs : Array Value} {t : TypeId} (h : BlkIs w B cs t) (hg : w.grownBy w' row) (hne : row ≠ some B) : BlkIs w' B cs t := (hg.block B h.lt (fun e => hne e.symm)).trans h
theorem IntsAt.own {w w' : World} {row : Option Nat} {B : Nat} {xs : List Int} (h : IntsAt w B xs) (hg : w.grownBy w' row) (hne : row ≠ some B) : IntsAt w' B xs := (hg.block B h.lt (fun e => hne e.symm)).trans h
theorem BlkIs.frozen {w : World} {B : Nat} {cs : Array Value} {t : TypeId} (h : BlkIs w B cs t) (k : Nat) : w.frozen? ⟨B, k, none⟩ = false := by
  unfold BlkIs at h
  simp [World.frozen?, h]
theorem BlkIs.set3 {w : World} {B : Nat} {a b c : Value} {t : TypeId} (h : BlkIs w B #[a, b, c] t) (u : Value) : BlkIs (w.setCell ⟨B, 1, none⟩ u) B #[a, u, c] t := by
  unfold BlkIs at h ⊢
  simp [World.setCell, Array.getElem?_modify, h]
theorem own_ne {w : World} {base : Nat} {e : TypeId} {size n : Nat} {v : Value} {xs : List Value} (h : w.ownsRow base e size v n xs) {B : Nat} (hB : B < base) : v.ownBlock ≠ some B := fun e => by have := h.lt B e; omega

theorem owns_slice {w : World} {base n : Nat} {v : Value} {xs : List Value} {e : TypeId} {size : Nat} (h : w.ownsRow base e size v n xs) (hn : 0 < n) : ∃ g cap, v = .slice (some ⟨g, 0, none⟩) n cap ∧ n ≤ cap ∧ cap ≤ maxLen ∧ base ≤ g := by
  obtain ⟨hl, h1 | ⟨g, cap, cur, rfl, hg, hb, hc, hm, hs, ht⟩⟩ := h
  · exact absurd h1.2 (by omega)
  · exact ⟨g, cap, rfl, hc, hm, hg⟩
theorem SpansAt.same {w w' : World} {g : Nat} {l : List (Int × Int)} (h : SpansAt w g l) (e : w'.heap[g]? = w.heap[g]?) : SpansAt w' g l := by
  refine ⟨?_, fun i hi => ⟨(World.cell?_of_block (a := ⟨g, 2 * i, none⟩) e).trans (h.2 i hi).1, (World.cell?_of_block (a := ⟨g, 2 * i + 1, none⟩) e).trans (h.2 i hi).2⟩⟩
  by_cases h2 : g < w'.heap.size
  · exact h2
  · exfalso
    rw [Array.getElem?_eq_none (by omega), Array.getElem?_eq_getElem h.1] at e
    cases e
theorem FrameAt.far {w : World} {g1 g2 : Nat} {c : Cal} {y : Int} (h : FrameAt w g1 g2 c y) {p : Addr} (h1 : g1 ≠ p.block) (h2 : g2 ≠ p.block) (u : Value) : FrameAt (w.setCell p u) g1 g2 c y :=
  ⟨h.1.same (Below.heap_setCell w p u g1 h1), h.2.far h2 u⟩
/-- The blocks of the loop: what has been made so far. -/
def MkSt (c : Cal) (y : Int) (F g2 base : Nat) (wr : World) (k j : Nat) : Prop :=
  ∃ v, BlkIs wr F #[.int .i64 y, v, .slice (some ⟨g2, 0, none⟩) (nPer c y) (nPer c y)] 64 ∧
    wr.ownsRow base 43 2 v (cumW c y k + j) (flat (spUp c y k ++ upto (spAt c y k) j))

set_option maxRecDepth 100000 in
set_option maxHeartbeats 3200000 in
theorem make_yes (c : Cal) (lv y : Int) (w : World) (hn : c.name.size ≤ 1000) (hE : frameE c lv y = 0) :
    Calls Try.prog 47 #[calV c, .int .i64 lv, .int .i64 y] w (MakePost c y w) := by
  obtain ⟨hok, hok2, hl1, hl5, hy1, hy2, hA⟩ := frame_ok hE
  have hoE : okE c = 0 := by simp [okE, hok2]
  have HA := hide hA
  have HNB := hide (nPer_bd c y hA)
  obtain ⟨n, hnn⟩ : ∃ n, n = nPer c y := ⟨_, rfl⟩
  have hn52 : 12 ≤ n ∧ n ≤ 52 := by have := nPer_bd c y hA; omega
  have HN := hide (show n = (endsL c y).length from hnn)
  have HN2 := hide hnn
  have hmk := fun W => make_ints n (by omega) W
  clear hE hok hok2 hA hnn
  simp only [calV]
  go_enter Try.func47, Try.ntmps47
  go_wp2_with fail
  refine (check_any c _ hn).mono ?_
  rintro e w1 ⟨rfl, hb1⟩
  rw [hoE]
  have hz1 : w.heap.size + 1 < w1.heap.size := by have := hb1.size; simp at this; omega
  have hz0 : w.heap.size < w1.heap.size := by omega
  have HB1 := hide (show Below w.heap.size w w1 by (repeat' (first | (with_reducible exact Below.refl _ _) | (with_reducible assumption) | (with_reducible refine Below.alloc ?_ ?_ _) | (with_reducible refine below_drewN ?_ _) | (with_reducible refine Below.drew ?_) | (with_reducible refine Below.setCell ?_ ?_ _) | (with_reducible refine Below.trans ?_ (Below.mono (by assumption) ?_)) | go_size | (simp at *; omega))))
  have HQ := hide (calAt_below (B := w.heap.size) (c := c) hb1 (by simp; omega) (calAt_alloc (calAt_new w c) (by simp) _))
  have HR := hide (BlkIs.call (BlkIs.new (w.alloc (calObj c)) #[.int .i64 0, .slice none 0 0, .slice none 0 0] 64) hb1)
  obtain ⟨q0, q1, q2, q3, q4, q5, q6, q7, q8, q9, q10, q11, q12, q13⟩ := HQ.out
  clear hb1
  go_wp2_with fail
  all_goals first
    | (exfalso; omega)
    | skip
  refine (start_any c y _ hn).mono ?_
  rintro e w2 ⟨rfl, hb2⟩
  clear q0 q1 q2 q3 q4 q5 q6 q7 q8 q9 q10 q11 q12 q13
  rw [HA.out]
  have hz2 : w.heap.size < w2.heap.size := Nat.lt_of_lt_of_le hz0 hb2.size
  have HQ2 := hide (calAt_below hb2 hz0 HQ.out)
  have HR2 := hide (HR.out.call hb2)
  have HB2 := hide (HB1.out.trans (hb2.mono (Nat.le_of_lt hz0)))
  have hz2' : w.heap.size + 1 < w2.heap.size := Nat.lt_of_lt_of_le hz1 hb2.size
  obtain ⟨q0, q1, q2, q3, q4, q5, q6, q7, q8, q9, q10, q11, q12, q13⟩ := HQ2.out
  clear hb2
  go_wp2_with fail
  refine (ends_any c y _ hn HA.out).mono ?_
  rintro e w3 ⟨g, hg, rfl, hI, hb3⟩
  clear q0 q1 q2 q3 q4 q5 q6 q7 q8 q9 q10 q11 q12 q13
  have HI := hide hI
  have HR3 := hide (HR2.out.call hb3)
  have HB3 := hide (HB2.out.trans (hb3.mono (Nat.le_of_lt hz2)))
  have hz3' : w.heap.size + 1 < w3.heap.size := Nat.lt_of_lt_of_le hz2' hb3.size
  have hglt := hI.lt
  clear hb3 hI
  rw [← HN.out]
  go_wp2_with fail
  obtain ⟨i0, hi, hz0, hz1, hz2⟩ := info_parts spans_info
  obtain ⟨G, hG⟩ : ∃ G, G = w3.heap.size := ⟨_, rfl⟩
  rw [← hG] at hz3' hglt ⊢
  have HG := hide hG
  clear hG
  have HP := hide (fun k hk => nwk_pos c y HA.out k hk)
  have HCW := hide (fun k m (h : k ≤ m) => cumW_le c y h)
  have HNW := hide (nWk_bd c y HA.out)
  have HFB := hide (fun k hk => from_bd c y HA.out k hk)
  have HPB := hide (fun k hk => period_1 c y HA.out k hk)
  have hyb := year_bd c y HA.out
  go_loopw [9, 66] (fun s9 s wr => ∃ k : Nat, s = .int .i64 k ∧ s9 = .int .i64 (fromAt c y k) ∧ k ≤ n ∧ MkSt c y (G + 1) G (G + 2) wr k 0 ∧ IntsAt wr G (upTo n k fun i => (cumW c y (i + 1) : Int)) ∧ Below G w3 wr ∧ G + 2 ≤ wr.heap.size) (fun _ s _ => (60 - intOf s).toNat)
  case atStart =>
    refine ⟨0, rfl, by simp [fromAt], by omega, ⟨.slice none 0 0, ?_, ?_⟩, ?_, ?_, ?_⟩
    · have := BlkIs.new (w3.alloc (zeroObj n)) #[.int .i64 y, .slice none 0 0, .slice (some ⟨G, 0, none⟩) n n] 64
      rw [← HN2.out]
      simpa [HG.out] using this
    · simpa [cumW, spUp, upto, flat] using World.ownsRow_nil _ _ _ _
    · rw [upTo_zero, HG.out]; exact (IntsAt.new w3 n).alloc _
    · rw [HG.out]; exact ((Below.refl _ _).alloc (Nat.le_refl _) _).alloc (by simp) _
    · simp [HG.out]
  case round =>
    obtain ⟨k, rfl, rfl, hk, hS, hJ, hB, hGs⟩ := hrel
    by_cases hlt : k < n
    · have hke : k < (endsL c y).length := by rw [← HN.out]; exact hlt
      have c1 : wr.cell? ⟨g, k, none⟩ = some (.int .i64 (endAt c y k)) := ((HI.out).below hB hglt).cell (k := k) hke
      have hp := HPB.out k hke
      have hf := HFB.out k (Nat.le_of_lt hke)
      have hwk := HP.out k (by rw [← HN2.out]; exact hlt)
      have hnwk : ((nwk c y k : Nat) : Int) = (endAt c y k - fromAt c y k) / 7 + 1 := by unfold nwk wkAt; omega
      obtain ⟨wo, rfl⟩ : ∃ wo : World, wo = wr := ⟨_, rfl⟩
      go_wp2_with fail
      go_loopw [9] (fun s9 wr => ∃ j : Nat, s9 = .int .i64 (fromAt c y k + 7 * (j : Int)) ∧ j ≤ nwk c y k ∧ MkSt c y (G + 1) G (G + 2) wr k j ∧ IntsAt wr G (upTo n k fun i => (cumW c y (i + 1) : Int)) ∧ Below G w3 wr ∧ G + 2 ≤ wr.heap.size) (fun s9 _ => (endAt c y k + 7 - intOf s9).toNat)
      case atStart => exact ⟨0, by simp, Nat.zero_le _, hS, hJ, hB, hGs⟩
      case round =>
        clear hS hJ hB hGs c1
        obtain ⟨j, rfl, hj, ⟨v, hF, hown⟩, hJ, hB, hGs⟩ := hrel
        have kF1 : wr.cell? ⟨G + 1, 1, none⟩ = some v := hF.cell 1
        by_cases hjl : j < nwk c y k
        · have hle : fromAt c y k + 7 * (j : Int) ≤ endAt c y k := by omega
          have hcum : cumW c y k + j + 1 ≤ 100 := by
            have h1 := HCW.out (k + 1) n (by omega)
            have h2 := HNW.out.2
            rw [nWk, ← HN2.out] at h2
            rw [cumW] at h1
            omega
          rcases (show endAt c y k < fromAt c y k + 7 * (j : Int) + 6 ∨ fromAt c y k + 7 * (j : Int) + 6 ≤ endAt c y k by omega) with hmin | hmin
          · have HV := hide (show (spAt c y k j).2 = endAt c y k by simp [spAt]; omega)
            go_wp2_with ((at_builtin; refine wpList_append_own _ rfl _ _ 62 rfl (G + 2) 43 i0 (.agg #[.int .i64 0, .int .i64 0]) 2 16 Try.underlying62 hi hz0 hz1 hz2 rfl (by decide) _ _ _ rfl (hown.alloc _) ⟨wr.heap.size, 0, none⟩ 1 1 [.int .i64 (fromAt c y k + 7 * (j : Int)), .int .i64 (endAt c y k)] rfl rfl ?c1 ?c2 ?c3 ?c4 ?c5 ?_))
            case c1 =>
              intro i u hu
              match i, hu with
              | 0, hu => simp at hu; subst hu; simp [Addr.add]
              | 1, hu => simp at hu; subst hu; simp [Addr.add]
              | i + 2, hu => simp at hu
            case c2 => intro u hu; simp at hu; rcases hu with rfl | rfl <;> rfl
            case c3 => unfold maxLen; omega
            case c4 => omega
            case c5 => have := hGs; simp; omega
            · intro v' w' hown' hgrow _
              have hne := own_ne hown (B := G + 1) (by omega)
              have hne2 := own_ne hown (B := G) (by omega)
              have hF' := (hF.alloc (.cells #[.int .i64 (fromAt c y k + 7 * (j : Int)), .int .i64 (endAt c y k)] 43)).own hgrow hne
              have hJ' := hide ((hJ.alloc (.cells #[.int .i64 (fromAt c y k + 7 * (j : Int)), .int .i64 (endAt c y k)] 43)).own hgrow hne2)
              have hB' := hide ((hB.alloc (by omega) (.cells #[.int .i64 (fromAt c y k + 7 * (j : Int)), .int .i64 (endAt c y k)] 43)).grown hgrow (by simp; omega) (fun k hk => by have := (hown.lt k hk).1; omega))
              have hGs' : G + 2 ≤ w'.heap.size := by have := hgrow.size; simp at this; omega
              have kF1' : w'.cell? ⟨G + 1, 1, none⟩ = some v := hF'.cell 1
              have kFf := hF'.frozen 1
              have hF'' := hide hF'
              have hown'' := hide hown'
              obtain ⟨g1, cap1, rfl, _, _, _⟩ := owns_slice hown' (by omega)
              clear hF hown hJ hB hgrow hown' hF' kF1 hne hne2 hnwk
              go_wp2
              refine ⟨⟨j + 1, by rw [show fromAt c y k + 7 * ((j + 1 : Nat) : Int) = fromAt c y k + 7 * (j : Int) + 7 by omega], by omega, ⟨_, hF''.out.set3 _, ?_⟩, hJ'.out.far (by simp) _, hB'.out.setCell (by simp) _, by simpa using hGs'⟩, by simp [intOf]; omega⟩
              have h1 := ownsRow_setCell_below hown''.out (a := ⟨G + 1, 1, none⟩) (by simp) (.slice (some ⟨g1, 0, none⟩) (cumW c y k + j + 1) cap1)
              rw [upto_succ, ← List.append_assoc, flat_append]
              have e2 : flat [spAt c y k j] = [.int .i64 (fromAt c y k + 7 * (j : Int)), .int .i64 (spAt c y k j).2] := rfl
              rw [e2, HV.out]
              exact h1
          · have HV := hide (show (spAt c y k j).2 = fromAt c y k + 7 * (j : Int) + 6 by simp [spAt]; omega)
            go_wp2_with ((at_builtin; refine wpList_append_own _ rfl _ _ 62 rfl (G + 2) 43 i0 (.agg #[.int .i64 0, .int .i64 0]) 2 16 Try.underlying62 hi hz0 hz1 hz2 rfl (by decide) _ _ _ rfl (hown.alloc _) ⟨wr.heap.size, 0, none⟩ 1 1 [.int .i64 (fromAt c y k + 7 * (j : Int)), .int .i64 (fromAt c y k + 7 * (j : Int) + 6)] rfl rfl ?c1 ?c2 ?c3 ?c4 ?c5 ?_))
            case c1 =>
              intro i u hu
              match i, hu with
              | 0, hu => simp at hu; subst hu; simp [Addr.add]
              | 1, hu => simp at hu; subst hu; simp [Addr.add]
              | i + 2, hu => simp at hu
            case c2 => intro u hu; simp at hu; rcases hu with rfl | rfl <;> rfl
            case c3 => unfold maxLen; omega
            case c4 => omega
            case c5 => have := hGs; simp; omega
            · intro v' w' hown' hgrow _
              have hne := own_ne hown (B := G + 1) (by omega)
              have hne2 := own_ne hown (B := G) (by omega)
              have hF' := (hF.alloc (.cells #[.int .i64 (fromAt c y k + 7 * (j : Int)), .int .i64 (fromAt c y k + 7 * (j : Int) + 6)] 43)).own hgrow hne
              have hJ' := hide ((hJ.alloc (.cells #[.int .i64 (fromAt c y k + 7 * (j : Int)), .int .i64 (fromAt c y k + 7 * (j : Int) + 6)] 43)).own hgrow hne2)
              have hB' := hide ((hB.alloc (by omega) (.cells #[.int .i64 (fromAt c y k + 7 * (j : Int)), .int .i64 (fromAt c y k + 7 * (j : Int) + 6)] 43)).grown hgrow (by simp; omega) (fun k hk => by have := (hown.lt k hk).1; omega))
              have hGs' : G + 2 ≤ w'.heap.size := by have := hgrow.size; simp at this; omega
              have kF1' : w'.cell? ⟨G + 1, 1, none⟩ = some v := hF'.cell 1
              have kFf := hF'.frozen 1
              have hF'' := hide hF'
              have hown'' := hide hown'
              obtain ⟨g1, cap1, rfl, _, _, _⟩ := owns_slice hown' (by omega)
              clear hF hown hJ hB hgrow hown' hF' kF1 hne hne2 hnwk
              go_wp2
              refine ⟨⟨j + 1, by rw [show fromAt c y k + 7 * ((j + 1 : Nat) : Int) = fromAt c y k + 7 * (j : Int) + 7 by omega], by omega, ⟨_, hF''.out.set3 _, ?_⟩, hJ'.out.far (by simp) _, hB'.out.setCell (by simp) _, by simpa using hGs'⟩, by simp [intOf]; omega⟩
              have h1 := ownsRow_setCell_below hown''.out (a := ⟨G + 1, 1, none⟩) (by simp) (.slice (some ⟨g1, 0, none⟩) (cumW c y k + j + 1) cap1)
              rw [upto_succ, ← List.append_assoc, flat_append]
              have e2 : flat [spAt c y k j] = [.int .i64 (fromAt c y k + 7 * (j : Int)), .int .i64 (spAt c y k j).2] := rfl
              rw [e2, HV.out]
              exact h1
        · have hgt : endAt c y k < fromAt c y k + 7 * (j : Int) := by omega
          obtain rfl : j = nwk c y k := by omega
          obtain ⟨g1, cap, rfl, hcap1, hcap2, hg1, hsp⟩ := owns_spans hown (by omega)
          have kF2 : wr.cell? ⟨G + 1, 2, none⟩ = some (.slice (some ⟨G, 0, none⟩) n n) := by rw [HN2.out]; exact hF.cell 2
          have kJ := hJ.cell (k := k) (by rw [upTo_len]; exact hlt)
          have kJf := hJ.frozen k
          have hF' := hide hF
          have hJ' := hide hJ
          have hown' := hide hown
          clear hF hJ hown hsp hnwk
          go_wp2
          refine ⟨⟨k + 1, by go_num, by rw [from_succ], by omega, ⟨_, hF'.out.far (by simp) _, ?_⟩, ?_, hB.setCell (by simp) _, by simpa using hGs⟩, by simp [intOf]; omega⟩
          · have h1 := ownsRow_setCell_below hown'.out (a := ⟨G, k, none⟩) (by simp) (.int .i64 ((cumW c y k + nwk c y k : Nat) : Int))
            simpa [cumW, spUp, upto] using h1
          · rw [← upTo_set]
            exact hJ'.out.set k _
    · obtain rfl : k = n := by omega
      obtain ⟨v, hF, hown⟩ := hS
      have hpos := HNW.out
      rw [nWk, ← HN2.out] at hpos
      obtain ⟨g1, cap, rfl, hcap1, hcap2, hg1, hsp⟩ := owns_spans hown (by omega)
      have k0 : wr.cell? ⟨G + 1, 0, none⟩ = some (.int .i64 y) := hF.cell 0
      have k1 : wr.cell? ⟨G + 1, 1, none⟩ = some (.slice (some ⟨g1, 0, none⟩) (cumW c y k + 0) cap) := hF.cell 1
      have k2 : wr.cell? ⟨G + 1, 2, none⟩ = some (.slice (some ⟨G, 0, none⟩) k k) := by rw [HN2.out]; exact hF.cell 2
      have hR := HR3.out.below hB (by simpa using hz3')
      have r0 : wr.cell? ⟨w.heap.size + 1, 0, none⟩ = some (.int .i64 0) := by have := hR.cell 0; simpa using this
      have r1 : wr.cell? ⟨w.heap.size + 1, 1, none⟩ = some (.slice none 0 0) := by have := hR.cell 1; simpa using this
      have r2 : wr.cell? ⟨w.heap.size + 1, 2, none⟩ = some (.slice none 0 0) := by have := hR.cell 2; simpa using this
      have f0 : wr.frozen? ⟨w.heap.size + 1, 0, none⟩ = false := by have := hR.frozen 0; simpa using this
      have f1 : wr.frozen? ⟨w.heap.size + 1, 1, none⟩ = false := by have := hR.frozen 1; simpa using this
      have f2 : wr.frozen? ⟨w.heap.size + 1, 2, none⟩ = false := by have := hR.frozen 2; simpa using this
      have hsp' := hide hsp
      have hown' := hide hown
      have hJ' := hide hJ
      clear hF hown hsp hR hJ
      have hsz : w.heap.size + 1 < wr.heap.size := by omega
      go_wp2
      have hN : cumW c y k + 0 = nWk c y := by rw [nWk, ← HN2.out]; rfl
      have hN' : cumW c y k = nWk c y := hN
      have hD := hsp'.out
      have hfull : spUp c y k ++ upto (spAt c y k) 0 = spL c y := by simp [spL, upto, ← HN2.out]
      rw [hfull] at hD
      have hJ2 := hJ'.out
      rw [upTo_full] at hJ2
      have hper : (List.range k).map (fun i => (cumW c y (i + 1) : Int)) = perL c y := by rw [perL, upto, ← HN2.out]
      rw [hper] at hJ2
      have hFin : FrameAt wr g1 G c y := ⟨hD, hJ2⟩
      have hFin2 : FrameAt (((wr.setCell ⟨w.heap.size + 1, 0, none⟩ (.int .i64 y)).setCell ⟨w.heap.size + 1, 1, none⟩ (.slice (some ⟨g1, 0, none⟩) (cumW c y k + 0) cap)).setCell ⟨w.heap.size + 1, 2, none⟩ (.slice (some ⟨G, 0, none⟩) k k)) g1 G c y :=
        ((hFin.far (by simp; omega) (by simp; omega) _).far (by simp; omega) (by simp; omega) _).far (by simp; omega) (by simp; omega) _
      refine bodyPost_ret (v := .tuple #[yearV y (nWk c y) cap g1 k G, .int .i64 0]) (by simp [results, Try.results47, go_sem, r0, r1, r2, f0, f1, f2, hsz, hN']) rfl ⟨g1, cap, G, by omega, by omega, by rw [HN2.out], by omega, hcap2, by simpa using hFin2, ?_⟩
      have hb2 : Below w.heap.size w wr := HB3.out.trans (hB.mono (by omega))
      exact ((hb2.setCell (by simp) _).setCell (by simp) _).setCell (by simp) _

end Go.Proofs.Ytojdngkleiokgaa
