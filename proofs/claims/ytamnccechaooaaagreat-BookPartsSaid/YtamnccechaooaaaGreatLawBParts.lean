/- The walk of BookParts. -/
import Derived.Test.YtamnccechaooaaaGreatPartP
import Derived.Test.YtamnccechaooaaaGreatLawBServed
namespace Go.Proofs.YtamnccechaooaaaGreat
open Go.RowKit Qd
set_option linter.unusedSimpArgs false
set_option linter.unusedVariables false

/-- A calendar and an accrual in two blocks. -/
def PaSt (c : Cal) (a : Ac) (B : Nat) (w0 w : World) : Prop := CalAt w B c ∧ BlkIs w (B + 1) #[.int .i64 a.a, .int .i64 a.b, .int .i64 a.n] 70 ∧ B + 1 < w.heap.size ∧ Below B w0 w
theorem PaSt.call {c : Cal} {a : Ac} {B : Nat} {w0 w w' : World} (h : PaSt c a B w0 w) (hb : Below w.heap.size w w') : PaSt c a B w0 w' := by
  obtain ⟨h1, h3, h4, h5⟩ := h
  exact ⟨calAt_below hb (by omega) h1, h3.call hb, Nat.lt_of_lt_of_le h4 hb.size, h5.trans (hb.mono (by omega))⟩
theorem paSt_new (c : Cal) (a : Ac) (w : World) : PaSt c a w.heap.size w ((w.alloc (calObj c)).alloc (.cells #[.int .i64 a.a, .int .i64 a.b, .int .i64 a.n] 70)) := by
  refine ⟨calAt_alloc (calAt_new w c) (by simp) _, ?_, by simp, by (repeat' exact bel)⟩
  simpa using BlkIs.new (w.alloc (calObj c)) #[.int .i64 a.a, .int .i64 a.b, .int .i64 a.n] 70

set_option maxRecDepth 100000 in
set_option maxHeartbeats 6400000 in
theorem bpa_walk (c : Cal) (hn : c.name.size ≤ 9223372036854775807) (a : Ac) (w : World) (ha : AcWf a) :
    Calls Tryz.prog 14 #[calV c, acV a] w fun e w' => e = .returned (.bool true) ∧ Below w.heap.size w w' := by
  have HA := hide ha
  clear ha
  simp only [calV, acV]
  go_enter Tryz.func14, Tryz.ntmps14
  go_wp2_with fail
  refine (live22_any _).mono ?_
  rintro e w1 ⟨rfl, hb1⟩
  have HS1 := hide ((paSt_new c a w).call hb1)
  clear hb1
  obtain ⟨⟨k0, k1, k2⟩, hz1⟩ := blk_three' HS1.out.2.1
  obtain ⟨q0, q1, q2, q3, q4, q5, q6, q7, q8, q9, q10, q11, q12, q13⟩ := HS1.out.1
  have hy1 : w.heap.size < w1.heap.size := by omega
  go_wp2_with fail
  obtain ⟨W, hW⟩ : ∃ W, (w1.alloc (.cells #[.int .i64 a.a, .int .i64 a.b, .int .i64 a.n] 70)).alloc (.cells #[.slice none 0 0, .slice (some ⟨w1.heap.size, 0, none⟩) 1 1] 60) = W := ⟨_, rfl⟩
  have HB := hide (show Bk1 a w1.heap.size W from by rw [← hW]; exact bk1_new a w1)
  have HS2 := hide (show PaSt c a w.heap.size w W from by rw [← hW]; exact HS1.out.call (by (repeat' exact bel)))
  rw [hW]
  refine (few_any c [] [a] _ _ W (Posts.nil _) HB.out.accs hn (by simp) (by simp)).mono ?_
  rintro e w2 ⟨rfl, hb2⟩
  have HB2 := hide (HB.out.call hb2)
  have HS3 := hide (HS2.out.call hb2)
  clear hb2 k0 k1 k2 hW
  clear q0 q1 q2 q3 q4 q5 q6 q7 q8 q9 q10 q11 q12 q13
  have hBel := HS3.out.2.2.2
  cases hF : fewB c [] [a]
  · go_wp2
    go_ret
    exact ⟨rfl, hBel⟩
  obtain ⟨hf1, _, _, hf4⟩ := few_out hF
  have HF4 := hide hf4
  have HBK := hide (bookF c [] [a] (.slice (some ⟨w1.heap.size, 0, none⟩) 1 1) hF (by simp) (by intro x hx; simp at hx; subst hx; exact HA.out.2.2))
  have hnm : c.name.size ≤ 1000 := by omega
  clear hF hf4
  have HB2A := hide HB2.out.accs
  obtain ⟨⟨b0, b1⟩, _, _, hzb⟩ := blk_two' HB2.out.1
  go_wp2_with fail
  refine (bcheck_any [] [a] _ _ _ (Posts.nil _) HB2A.out (by simp)).mono ?_
  rintro e w3 ⟨rfl, hb3⟩
  have HB3 := hide (HB2.out.call hb3)
  have HS4 := hide (HS3.out.call hb3)
  clear hb3 b0 b1 hzb HB2A
  have hBel := HS4.out.2.2.2
  by_cases hC : chkE [] [a] = 0
  rotate_left
  · have hCb : (chkE [] [a] != 0) = true := by simpa using hC
    clear hC
    go_wp2
    all_goals first
      | (exfalso; omega)
      | (go_ret; exact ⟨rfl, hBel⟩)
  have HC := hide (show accE a = 0 by have := hC; simp [chkE, dayB, accsE] at this; exact Classical.byContradiction fun h => h (this h))
  rw [hC]
  clear hC
  have HSV := hide (fun d w => served_any c d w hnm)
  simp only [calV] at HSV
  obtain ⟨q0, q1, q2, q3, q4, q5, q6, q7, q8, q9, q10, q11, q12, q13⟩ := HS4.out.1
  obtain ⟨⟨k0, k1, k2⟩, hz1⟩ := blk_three' HS4.out.2.1
  have hy4 : w.heap.size < w3.heap.size := by omega
  go_wp2_with fail
  refine (HSV.out _ _).mono ?_
  rintro e w4 ⟨rfl, hb4⟩
  have HB4 := hide (HB3.out.call hb4)
  have HS5 := hide (HS4.out.call hb4)
  clear hb4 k0 k1 k2 hz1 hy4
  clear q0 q1 q2 q3 q4 q5 q6 q7 q8 q9 q10 q11 q12 q13
  obtain ⟨q0, q1, q2, q3, q4, q5, q6, q7, q8, q9, q10, q11, q12, q13⟩ := HS5.out.1
  obtain ⟨⟨k0, k1, k2⟩, hz1⟩ := blk_three' HS5.out.2.1
  have hy4 : w.heap.size < w4.heap.size := by omega
  go_wp2_with fail
  refine (HSV.out _ _).mono ?_
  rintro e w5 ⟨rfl, hb5⟩
  have HB5 := hide (HB4.out.call hb5)
  have HS6 := hide (HS5.out.call hb5)
  clear hb5 k0 k1 k2 hz1 hy4
  clear q0 q1 q2 q3 q4 q5 q6 q7 q8 q9 q10 q11 q12 q13
  have hBel := HS6.out.2.2.2
  by_cases s1 : servE c a.a = 0
  rotate_left
  · have hb : (servE c a.a != 0) = true := by simpa using s1
    clear s1
    go_wp2
    all_goals first
      | (exfalso; omega)
      | (go_ret; exact ⟨rfl, hBel⟩)
  by_cases s2 : servE c a.b = 0
  rotate_left
  · have hb : (servE c a.b != 0) = true := by simpa using s2
    rw [s1]
    clear s2
    go_wp2
    all_goals first
      | (exfalso; omega)
      | (go_ret; exact ⟨rfl, hBel⟩)
  obtain ⟨y, hy⟩ : ∃ y, servY c a.a = y := ⟨_, rfl⟩
  by_cases s3 : servY c a.b = y
  rotate_left
  · have hb : (y != servY c a.b) = true := by simp; omega
    rw [s1, s2, hy]
    clear s3
    go_wp2
    all_goals first
      | (exfalso; omega)
      | (go_ret; exact ⟨rfl, hBel⟩)
  obtain ⟨p1, p2, p3, p4, p5, p6⟩ := part_facts HC.out HA.out.2.2 s1 s2 hy s3
  rw [s1, s2, hy, s3]
  have hml := ac_len p1 (HF4.out a (by simp))
  have HSP := hide (fun w => rsplit_yes c 5 a.n ⟨a.a, a.b⟩ w hnm p1 (by omega) HA.out.2.2)
  have HRO := hide (fun W (h2 : Accs W (.slice (some ⟨w1.heap.size, 0, none⟩) 1 1) [a]) => broll_any c 5 y [] [a] (ZA c [a]) _ _ W hnm (Posts.nil _) h2 HBK.out)
  have HBT := hide (fun W (h2 : Accs W (.slice (some ⟨w1.heap.size, 0, none⟩) 1 1) [a]) => btotal_bk c ⟨1, y, 1⟩ [] [a] (ZA c [a]) _ _ W hnm (Posts.nil _) h2 HBK.out)
  rw [p2] at HRO
  rw [p3, p4] at HBT
  have HRG := hide (fun (j : Nat) h => rollL_get (c := c) (lv := 5) (y := y) (P := []) (A := [a]) (Z := ZA c [a]) (j := j) h)
  have HP6 := hide p6
  have hcb := cntBd (roll_zero p2).1
  rw [← shL_len c 5 a.n] at HSP hml
  obtain ⟨L, hL⟩ : ∃ L, (shL c 5 a.n ⟨a.a, a.b⟩).length = L := ⟨_, rfl⟩
  have HL := hide hL
  rw [hL] at HSP p5 hml
  have HP5 := hide p5
  obtain ⟨n, hnn⟩ : ∃ n, cntL c y 5 = n := ⟨_, rfl⟩
  rw [hnn] at HRO HRG HP6 HP5 hcb
  simp only [calV, unitV, spanV] at HSP HRO HBT
  clear p1 p2 p3 p4 p5 p6 s1 s2 s3 hy hL hnn
  obtain ⟨q0, q1, q2, q3, q4, q5, q6, q7, q8, q9, q10, q11, q12, q13⟩ := HS6.out.1
  obtain ⟨⟨b0, b1⟩, _, _, hzb⟩ := blk_two' HB5.out.1
  have hz1 := HS6.out.2.2.1
  have hy4 : w.heap.size < w5.heap.size := by omega
  go_wp2_with fail
  refine (HRO.out _ HB5.out.accs).mono ?_
  rintro e w6 ⟨⟨vl, rfl, hv1, _⟩, hb6⟩
  obtain ⟨g1, rfl, hr1, _⟩ := hv1 (by first | trivial | rfl)
  have HR1 := hide hr1
  have HB6 := hide (HB5.out.call hb6)
  have HS7 := hide (HS6.out.call hb6)
  clear hb6 hv1 hr1 b0 b1 hzb hz1 hy4
  clear q0 q1 q2 q3 q4 q5 q6 q7 q8 q9 q10 q11 q12 q13
  obtain ⟨q0, q1, q2, q3, q4, q5, q6, q7, q8, q9, q10, q11, q12, q13⟩ := HS7.out.1
  obtain ⟨⟨k0, k1, k2⟩, hz1⟩ := blk_three' HS7.out.2.1
  have hy4 : w.heap.size < w6.heap.size := by omega
  go_wp2_with fail
  refine (HSP.out _).mono ?_
  rintro e w7 ⟨⟨g2, rfl, hr2, _⟩, hb7⟩
  have HR2 := hide (And.intro (HR1.out.call hb7) hr2)
  have HB7 := hide (HB6.out.call hb7)
  have HS8 := hide (HS7.out.call hb7)
  clear hb7 hr2 k0 k1 k2 hz1 hy4
  clear q0 q1 q2 q3 q4 q5 q6 q7 q8 q9 q10 q11 q12 q13
  obtain ⟨q0, q1, q2, q3, q4, q5, q6, q7, q8, q9, q10, q11, q12, q13⟩ := HS8.out.1
  obtain ⟨⟨b0, b1⟩, _, _, hzb⟩ := blk_two' HB7.out.1
  have hz1 := HS8.out.2.2.1
  have hy4 : w.heap.size < w7.heap.size := by omega
  go_wp2_with fail
  refine (HBT.out _ HB7.out.accs).mono ?_
  rintro e w8 ⟨rfl, hb8⟩
  have HR3 := hide (And.intro (HR2.out.1.call hb8) (HR2.out.2.call hb8))
  have HS9 := hide (HS8.out.call hb8)
  clear hb8 b0 b1 hzb hz1 hy4
  clear q0 q1 q2 q3 q4 q5 q6 q7 q8 q9 q10 q11 q12 q13
  obtain ⟨⟨k0, k1, k2⟩, hz1⟩ := blk_three' HS9.out.2.1
  have hBel := HS9.out.2.2.2
  have hz8 := hBel.size
  go_wp2_with fail
  clear k0 k1 k2 hz1
  go_loopw [16, 103] (fun s16 s103 wr => ∃ j : Nat, s103 = .int .i64 j ∧ j ≤ n ∧ s16 = .int .i64 (atU c a y j) ∧ Hid (Below w8.heap.size w8 wr)) (fun _ s103 _ => (n + 5 - intOf s103).toNat)
  case atStart => exact ⟨0, rfl, Nat.zero_le _, rfl, hide (Below.refl _ _)⟩
  case round =>
    obtain ⟨j, rfl, hj, rfl, HQ⟩ := hrel
    have hsz := HQ.out.size
    by_cases hlt : j < n
    · have hx := HRG.out j hlt
      have h6 := HP6.out j hlt
      have HT1 := hide (HR3.out.1.call HQ.out)
      have HT2 := hide (HR3.out.2.call HQ.out)
      have hi1 : (0 : Int) ≤ (j : Int) := by omega
      have hi3 : (j : Int) < (n : Int) := by omega
      have hg1 := HT1.out.lt
      have hg2 := HT2.out.lt
      obtain ⟨q, hq⟩ : ∃ q, atU c a y j = q := ⟨_, rfl⟩
      rw [hq] at h6 ⊢
      clear hq
      have HQ2 := hide (fun (b : World) (h : Below wr.heap.size wr b) => HQ.out.trans (h.mono hsz))
      cases hkp : kpU c a ⟨5, y, (j : Int) + 1⟩
      · obtain ⟨g, hV, hnx⟩ := h6.2 hkp
        rw [hV] at hx
        obtain ⟨a0, a1, a2, a3⟩ := HT1.out.cell hx
        simp only at a0 a1 a2 a3
        have HNX := hide hnx
        clear h6 hkp hx hV hnx
        by_cases hql : q < L
        · obtain ⟨⟨z, v⟩, hz⟩ : ∃ z, (shL c 5 a.n ⟨a.a, a.b⟩)[q]? = some z := ⟨_, List.getElem?_eq_getElem (by rw [HL.out]; exact hql)⟩
          have hne := g _ hz
          obtain ⟨b0, b1, b2, b3⟩ := HT2.out.cell hz
          simp only at b0 b1 b2 b3 hne
          have hq1 : (0 : Int) ≤ (q : Int) := by omega
          have hq3 : (q : Int) < (L : Int) := by omega
          have hub : unB z.lv z.yr z.ix 5 y ((j : Int) + 1) = false := by
            cases hu : unB z.lv z.yr z.ix 5 y ((j : Int) + 1)
            · rfl
            · exfalso
              apply hne
              obtain ⟨l, yy, i⟩ := z
              simp [unB] at hu
              simp only [Un.mk.injEq]
              omega
          clear g hz hne
          go_wp2_with fail
          go_quiet (fail)
          go_wp2
          all_goals first
            | (exfalso; omega)
            | skip
          go_roundw
          case rel => exact ⟨j + 1, by go_num, by omega, by rw [HNX.out]; try rfl, hide (HQ2.out _ (by first | exact below_drewN ((Below.refl _ _).alloc (Nat.le_refl _) _) _ | (repeat' exact bel)))⟩
          case measure => simp [intOf]; omega
        · have hqb : decide ((q : Int) < (L : Int)) = false := by simp; omega
          clear g
          go_wp2_with fail
          go_quiet (fail)
          go_wp2
          all_goals first
            | (exfalso; omega)
            | skip
          go_roundw
          case rel => exact ⟨j + 1, by go_num, by omega, by rw [HNX.out]; try rfl, hide (HQ2.out _ (by first | exact below_drewN ((Below.refl _ _).alloc (Nat.le_refl _) _) _ | (repeat' exact bel)))⟩
          case measure => simp [intOf]; omega
      · obtain ⟨⟨N, g, hV⟩, hnx⟩ := h6.1 hkp
        rw [hV] at hx
        obtain ⟨a0, a1, a2, a3⟩ := HT1.out.cell hx
        simp only at a0 a1 a2 a3
        obtain ⟨b0, b1, b2, b3⟩ := HT2.out.cell g
        simp only at b0 b1 b2 b3
        have hql : q < L := by rw [← HL.out]; exact (List.getElem?_eq_some_iff.1 g).1
        have HNX := hide hnx
        have hq1 : (0 : Int) ≤ (q : Int) := by omega
        have hq3 : (q : Int) < (L : Int) := by omega
        have hub : unB 5 y ((j : Int) + 1) 5 y ((j : Int) + 1) = true := by simp [unB]
        have hqw : IntKind.i64.wrap ((q : Int) + 1) = (q : Int) + 1 := by rw [IntKind.wrap_i64]; omega
        clear h6 hkp hx hV hnx g
        go_wp2_with fail
        go_quiet (fail)
        go_wp2
        all_goals first
          | (exfalso; omega)
          | skip
        go_roundw
        case rel => exact ⟨j + 1, by go_num, by omega, by rw [HNX.out]; first | rfl | go_num, hide (HQ2.out _ (by first | exact below_drewN ((Below.refl _ _).alloc (Nat.le_refl _) _) _ | (repeat' exact bel)))⟩
        case measure => simp [intOf]; omega
    · obtain rfl : j = n := by omega
      rw [← HP5.out]
      have hBel2 := hBel.trans (HQ.out.mono hz8)
      go_wp2
      all_goals first
        | (exfalso; omega)
        | skip
      go_ret
      exact ⟨ret_bool (by simp), hBel2⟩
end Go.Proofs.YtamnccechaooaaaGreat
