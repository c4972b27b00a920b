/- The walk of VaryParts. -/
import Derived.Test.YtamnccechaooaaaGreatVaryF
import Derived.Test.YtamnccechaooaaaGreatLawVDiff
namespace Go.Proofs.YtamnccechaooaaaGreat
open Go.RowKit Qd
set_option linter.unusedSimpArgs false
set_option linter.unusedVariables false

theorem cnt_pos {c : Cal} {lv y : Int} (hf : frameE c lv y = 0) : 0 < cntL c y lv := by
  obtain ⟨hok, hk, h1, h5, hy1, hy2, hA⟩ := frame_ok hf
  have := nWk_bd c y hA
  have h2 := cut_end c y lv h1 h5
  rcases Nat.eq_zero_or_pos (cntL c y lv) with h0 | h0
  · rw [h0, cut_0] at h2; omega
  · exact h0
theorem tab_roll {c : Cal} {lv y k : Int} {P : List Po} {A : List Ac} {Z : Parts} (h : tabE c lv y k P A Z = 0) : rollE c lv y P A Z = 0 ∧ ∀ j : Nat, j < cntL c y lv →
    rwE c ⟨lv, y, (j : Int) + 1⟩ k P A Z = 0 ∧ rwV c ⟨lv, y, (j : Int) + 1⟩ k P A Z = ⟨⟨lv, y, (j : Int) + 1⟩, TV c P A Z ⟨lv, y, (j : Int) + 1⟩, thV c ⟨lv, y, (j : Int) + 1⟩ k P A Z, TV c P A Z ⟨lv, y, (j : Int) + 1⟩ - thV c ⟨lv, y, (j : Int) + 1⟩ k P A Z, !thOk c ⟨lv, y, (j : Int) + 1⟩ k P A Z⟩ := by
  unfold tabE at h
  split at h
  · rename_i hf
    have hall := rowsE_all h
    have hT : ∀ x ∈ yU lv y (cntL c y lv), TE c P A Z x = 0 := fun x hx => (row_facts (hall x hx)).1
    have h0 := T_zero (hT _ (List.mem_of_getElem? (yUg (cnt_pos hf))))
    constructor
    · have ht : totsE c P A Z (yU lv y (cntL c y lv)) = 0 := by
        rcases tots_two (c := c) (P := P) (A := A) (Z := Z) (L := yU lv y (cntL c y lv)) (fun x hx => .inl (hT x hx)) with h1 | h1
        · exact h1.1
        · exfalso
          have : ∀ L : List Un, (∀ x ∈ L, TE c P A Z x = 0) → totsE c P A Z L = 0 := by
            intro L
            induction L with
            | nil => intro _; rfl
            | cons x L ih => intro hx; simp only [totsE]; rw [if_pos (hx x (by simp))]; exact ih fun z hz => hx z (List.mem_cons_of_mem _ hz)
          rw [this _ hT] at h1
          cases h1
      rw [rollE, if_pos hf, if_pos h0.2.1, if_pos h0.2.2.1, ht]
    · intro j hj
      have hr := hall _ (List.mem_of_getElem? (yUg hj))
      exact ⟨hr, by rw [rwV, if_pos hr]⟩
  · rename_i h1; exact absurd h h1

set_option maxRecDepth 100000 in
set_option maxHeartbeats 6400000 in
theorem vpa_walk (c : Cal) (hn : c.name.size ≤ 9223372036854775807) (lv y k : Int) (v1 v2 : Value) (P : List Po) (A : List Ac) (w : World) (hP : Posts w v1 P) (hA : Accs w v2 A) (hp : ∀ x ∈ P, PoWf x) (ha : ∀ x ∈ A, AcWf x) (hl1 : P.length ≤ 9223372036854775807) (hl2 : A.length ≤ 9223372036854775807) :
    Calls Tryz.prog 18 #[calV c, .int .i64 lv, .int .i64 y, .int .i64 k, .agg #[v1, v2]] w fun e w' => e = .returned (.bool true) ∧ Below w.heap.size w w' := by
  have HP := hide hP
  have HA := hide hA
  have HW := hide (And.intro (fun x h => (hp x h).2) (fun x h => (ha x h).2.2))
  have H0 := hide (fwSt_new c v1 v2 w)
  clear hp ha
  obtain ⟨ad1, cap1, rfl, _⟩ := hP
  obtain ⟨ad2, cap2, rfl, _⟩ := hA
  simp only [calV]
  go_enter Tryz.func18, Tryz.ntmps18
  go_wp2_with fail
  refine (live23_any _).mono ?_
  rintro e w1 ⟨rfl, hb1⟩
  have HS1 := hide (H0.out.call hb1)
  clear hb1
  obtain ⟨q0, q1, q2, q3, q4, q5, q6, q7, q8, q9, q10, q11, q12, q13⟩ := HS1.out.1
  obtain ⟨⟨k0, k1⟩, _⟩ := blk_two' HS1.out.2.1
  have hsz := HS1.out.2.2.1
  have hBel := HS1.out.2.2.2
  have hy1 : w.heap.size < w1.heap.size := by omega
  go_wp2_with fail
  refine (few_any c P A _ _ _ (HP.out.call hBel) (HA.out.call hBel) hn hl1 hl2).mono ?_
  rintro e w2 ⟨rfl, hb2⟩
  have HS2 := hide (HS1.out.call hb2)
  clear hb2 k0 k1 hsz hBel hy1
  clear q0 q1 q2 q3 q4 q5 q6 q7 q8 q9 q10 q11 q12 q13
  have hBel := HS2.out.2.2.2
  cases hF : fewB c P A
  · go_wp2
    go_ret
    exact ⟨rfl, hBel⟩
  obtain ⟨hf1, _, _, hf4⟩ := few_out hF
  have HBK := hide (bookF c P A (.slice ad2 A.length cap2) hF HW.out.1 HW.out.2)
  have hnm : c.name.size ≤ 1000 := by omega
  clear hF hf4
  obtain ⟨q0, q1, q2, q3, q4, q5, q6, q7, q8, q9, q10, q11, q12, q13⟩ := HS2.out.1
  obtain ⟨⟨k0, k1⟩, _⟩ := blk_two' HS2.out.2.1
  have hsz := HS2.out.2.2.1
  have hy1 : w.heap.size < w2.heap.size := by omega
  by_cases h2 : 2 < A.length
  · go_wp2
    all_goals first
      | (exfalso; omega)
      | (go_ret; exact ⟨rfl, hBel⟩)
  have HTB := hide (fun W (h1 : Posts W (.slice ad1 P.length cap1) P) (h2 : Accs W (.slice ad2 A.length cap2) A) => vtab_any c lv y k P A (ZA c A) _ _ W hnm h1 h2 HBK.out)
  have HRO := hide (fun W (h1 : Posts W (.slice ad1 P.length cap1) P) (h2 : Accs W (.slice ad2 A.length cap2) A) => broll_any c lv y P A (ZA c A) _ _ W hnm h1 h2 HBK.out)
  have HRW := hide (fun (x : Un) (W : World) (h1 : Posts W (.slice ad1 P.length cap1) P) (h2 : Accs W (.slice ad2 A.length cap2) A) => vrow_any c x k P A (ZA c A) _ _ W hnm h1 h2 HBK.out)
  have HTR := hide (fun h => tab_roll (c := c) (lv := lv) (y := y) (k := k) (P := P) (A := A) (Z := ZA c A) h)
  have HTF := hide (fun (h : tabE c lv y k P A (ZA c A) = 0) => show frameE c lv y = 0 by
    unfold tabE at h; split at h
    · rename_i h1; exact h1
    · rename_i h1; exact absurd h h1)
  simp only [calV, unitV] at HTB HRO HRW
  go_wp2_with fail
  all_goals first
    | (exfalso; omega)
    | skip
  refine (HTB.out _ (HP.out.call hBel) (HA.out.call hBel)).mono ?_
  rintro e w3 ⟨⟨vt, rfl, ht1, ht2⟩, hb3⟩
  have HS3 := hide (HS2.out.call hb3)
  clear hb3 k0 k1 hsz hBel hy1
  clear q0 q1 q2 q3 q4 q5 q6 q7 q8 q9 q10 q11 q12 q13
  have hBel := HS3.out.2.2.2
  by_cases hE : tabE c lv y k P A (ZA c A) = 0
  rotate_left
  · obtain rfl := ht2 hE
    have hEb : (tabE c lv y k P A (ZA c A) != 0) = true := by simpa using hE
    clear hE ht1 ht2
    go_wp2
    go_ret
    exact ⟨ret_bool (by simp), hBel⟩
  obtain ⟨hRE, hrow⟩ := HTR.out hE
  have hcb := cntBd (HTF.out hE)
  have hcp := cnt_pos (HTF.out hE)
  obtain ⟨g1, rfl, hT1, _⟩ := ht1 hE
  have HT1 := hide hT1
  have HROW := hide hrow
  rw [hE]
  rw [hRE] at HRO
  have HRG := hide (fun (j : Nat) h => rollL_get (c := c) (lv := lv) (y := y) (P := P) (A := A) (Z := ZA c A) (j := j) h)
  have HTG := hide (fun (j : Nat) h => tabL_get (c := c) (lv := lv) (y := y) (k := k) (P := P) (A := A) (Z := ZA c A) (j := j) h)
  obtain ⟨n, hnn⟩ : ∃ n, cntL c y lv = n := ⟨_, rfl⟩
  rw [hnn] at HRO HRG HTG HROW hcb hcp ⊢
  clear hE hRE hrow ht1 ht2 hT1 hnn
  obtain ⟨q0, q1, q2, q3, q4, q5, q6, q7, q8, q9, q10, q11, q12, q13⟩ := HS3.out.1
  obtain ⟨⟨k0, k1⟩, _⟩ := blk_two' HS3.out.2.1
  have hsz := HS3.out.2.2.1
  have hy1 : w.heap.size < w3.heap.size := by omega
  go_wp2_with fail
  refine (HRO.out _ (HP.out.call hBel) (HA.out.call hBel)).mono ?_
  rintro e w4 ⟨⟨vl, rfl, hv1, _⟩, hb4⟩
  obtain ⟨g2, rfl, hT2, _⟩ := hv1 (by first | trivial | rfl)
  have HS4 := hide (HS3.out.call hb4)
  have HTT := hide (And.intro (HT1.out.call hb4) hT2)
  clear hb4 hv1 hT2 k0 k1 hsz hBel hy1
  clear q0 q1 q2 q3 q4 q5 q6 q7 q8 q9 q10 q11 q12 q13
  have hBel := HS4.out.2.2.2
  go_wp2_with fail
  go_loopw [64] (fun s64 wr => ∃ j : Nat, s64 = .int .i64 j ∧ j ≤ n ∧ Hid (Below w4.heap.size w4 wr)) (fun s64 _ => (n + 5 - intOf s64).toNat)
  case atStart => exact ⟨0, rfl, Nat.zero_le _, hide (Below.refl _ _)⟩
  case round =>
    obtain ⟨j, rfl, hj, HQ⟩ := hrel
    have hszq := HQ.out.size
    have hBelr := hBel.trans (HQ.out.mono hBel.size)
    by_cases hlt : j < n
    · obtain ⟨hr1, hr2⟩ := HROW.out j hlt
      have hx1 := HTG.out j hlt
      have hx2 := HRG.out j hlt
      have HSr := hide (HS4.out.call HQ.out)
      have HA1 := hide (HTT.out.1.call HQ.out)
      have HA2 := hide (HTT.out.2.call HQ.out)
      have hw1 := fun W h1 h2 => HRW.out ⟨lv, y, (j : Int) + 1⟩ W h1 h2
      rw [hr1, hr2] at hw1
      rw [hr2] at hx1
      obtain ⟨X, hX⟩ : ∃ X, TV c P A (ZA c A) ⟨lv, y, (j : Int) + 1⟩ = X := ⟨_, rfl⟩
      obtain ⟨Y, hY⟩ : ∃ Y, thV c ⟨lv, y, (j : Int) + 1⟩ k P A (ZA c A) = Y := ⟨_, rfl⟩
      obtain ⟨O, hO⟩ : ∃ O, (!thOk c ⟨lv, y, (j : Int) + 1⟩ k P A (ZA c A)) = O := ⟨_, rfl⟩
      obtain ⟨D, hD⟩ : ∃ D, X - Y = D := ⟨_, rfl⟩
      rw [hX, hY, hO, hD] at hx1 hw1
      rw [hX] at hx2
      simp only [rowCs] at hw1
      have HW1 := hide hw1
      obtain ⟨a0, a1, a2, a3, a4, a5, a6⟩ := HA1.out.cell hx1
      simp only at a0 a1 a2 a3 a4 a5 a6
      have HX2 := hide hx2
      have hga := HA1.out.lt
      have hgb := HA2.out.lt
      have hi1 : (0 : Int) ≤ (j : Int) := by omega
      have hi3 : (j : Int) < (n : Int) := by omega
      clear hr1 hr2 hx1 hx2 hX hY hO hD hw1
      obtain ⟨q0, q1, q2, q3, q4, q5, q6, q7, q8, q9, q10, q11, q12, q13⟩ := HSr.out.1
      obtain ⟨⟨k0, k1⟩, _⟩ := blk_two' HSr.out.2.1
      have hsz := HSr.out.2.2.1
      have hy1 : w.heap.size < wr.heap.size := by omega
      have hy2 : w.heap.size + 1 < wr.heap.size := by omega
      go_wp2_with fail
      have hbw : Below w.heap.size w (wr.alloc (.cells #[.int .i64 lv, .int .i64 y, .int .i64 ((j : Int) + 1), .int .i64 X, .int .i64 Y, .int .i64 D, .bool O] 86)) := hBelr.alloc (by omega) _
      refine (HW1.out _ (HP.out.call hbw) (HA.out.call hbw)).mono ?_
      rintro e w5 ⟨rfl, hb5⟩
      have hb0 := (Below.refl wr.heap.size wr).alloc (Nat.le_refl _) (.cells #[.int .i64 lv, .int .i64 y, .int .i64 ((j : Int) + 1), .int .i64 X, .int .i64 Y, .int .i64 D, .bool O] 86)
      have HB5 := hide (HQ.out.trans ((hb0.trans (hb5.mono (by simp))).mono hszq))
      have HA5 := hide ((HA2.out.call hb0).call hb5)
      have K9 := hide (BlkIs.call (BlkIs.new wr #[.int .i64 lv, .int .i64 y, .int .i64 ((j : Int) + 1), .int .i64 X, .int .i64 Y, .int .i64 D, .bool O] 86) hb5)
      clear hb5 hb0 hbw a0 a1 a2 a3 a4 a5 a6 k0 k1 hsz hy1 hy2
      clear q0 q1 q2 q3 q4 q5 q6 q7 q8 q9 q10 q11 q12 q13
      have c0 := K9.out.cell 0
      have c1 := K9.out.cell 1
      have c2 := K9.out.cell 2
      have c3 := K9.out.cell 3
      have c4 := K9.out.cell 4
      have c5 := K9.out.cell 5
      have c6 := K9.out.cell 6
      have hz9 := K9.out.lt
      simp at c0 c1 c2 c3 c4 c5 c6
      obtain ⟨b0, b1, b2, b3⟩ := HA5.out.cell HX2.out
      simp only at b0 b1 b2 b3
      have hgb5 := HA5.out.lt
      have hrb := rwB_same lv y ((j : Int) + 1) X Y D O
      have hub : unB lv y ((j : Int) + 1) lv y ((j : Int) + 1) = true := by simp [unB]
      have hz5 := HB5.out.size
      go_wp2_with fail
      go_quiet (fail)
      go_wp2
      go_roundw
      case rel => exact ⟨j + 1, by go_num, by omega, hide (HB5.out.trans (Below.mono (by first | exact below_drewN ((Below.refl _ _).alloc (Nat.le_refl _) _) _ | (repeat' exact bel)) hz5))⟩
      case measure => simp [intOf]; omega
    · obtain rfl : j = n := by omega
      go_wp2
      all_goals first
        | (exfalso; omega)
        | (go_ret; exact ⟨rfl, hBelr⟩)
end Go.Proofs.YtamnccechaooaaaGreat
