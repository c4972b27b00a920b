/- Contracts of the references: the weeks that lie in a unit, and with which weeks a unit is compared by months (layer 20). -/
import Derived.Test.YtojdngkleiokgaaGreatNRdUn
import Derived.Test.YtojdngkleiokgaaGreatMRw
import Derived.Test.YtojdngkleiokgaaGreatMRs
import Derived.Test.YtojdngkleiokgaaGreatMTq
namespace Go.Proofs.YtojdngkleiokgaaGreat
open Go.RowKit Qd
set_option linter.unusedSimpArgs false
set_option linter.unusedVariables false

theorem mnSt_new2 (c : Cal) (u p : Un) (w : World) : MnSt c u p w.heap.size (((w.alloc (.cells (calCs c) 24)).alloc (.cells #[.int .i64 u.lv, .int .i64 u.yr, .int .i64 u.ix] 38)).alloc (.cells #[.int .i64 p.lv, .int .i64 p.yr, .int .i64 p.ix] 38)) := by
  refine ⟨((BlkIs.new w _ _).alloc _).alloc _, ?_, ?_⟩
  · have := (BlkIs.new (w.alloc (.cells (calCs c) 24)) #[.int .i64 u.lv, .int .i64 u.yr, .int .i64 u.ix] 38).alloc (.cells #[.int .i64 p.lv, .int .i64 p.yr, .int .i64 p.ix] 38)
    simpa using this
  · have := BlkIs.new ((w.alloc (.cells (calCs c) 24)).alloc (.cells #[.int .i64 u.lv, .int .i64 u.yr, .int .i64 u.ix] 38)) #[.int .i64 p.lv, .int .i64 p.yr, .int .i64 p.ix] 38
    simpa using this

set_option maxRecDepth 100000 in
set_option maxHeartbeats 6400000 in
theorem r20within_any (c : Cal) (u : Un) (w : World) (hn : c.name.size ≤ 1000) (hU : unitE c u = 0) :
    Calls Tryz.prog 64 #[calV c, unitV u] w fun e w' => ∃ g cap, e = .returned (.slice (some ⟨g, 0, none⟩) (wksL c u).length cap) ∧ UnsAt w' g cap (wksL c u) ∧ (wksL c u).length ≤ cap ∧ 0 < (wksL c u).length ∧ w.heap.size ≤ g ∧ Below w.heap.size w w' := by
  have hd := dn_5 hU
  have hab := cutAB hU
  have hnb := nWk_bd c u.yr (un_lv hU).2.2.2.1
  have hw : wksL c u = wkU ⟨5, u.yr, (cutA c u : Int) + 1⟩ (cutB c u - cutA c u) := rfl
  obtain ⟨A, hA⟩ : ∃ A, cutA c u = A := ⟨_, rfl⟩
  obtain ⟨B, hB⟩ : ∃ B, cutB c u = B := ⟨_, rfl⟩
  rw [hA, hB] at hd hab hw
  rw [hw]
  have hbd : A < B ∧ B ≤ 60 := by omega
  obtain ⟨hAB, hB60⟩ := hbd
  have HD := hide hd
  have HLN := hide (fun j => wkU_len ⟨5, u.yr, (A : Int) + 1⟩ j)
  have HSN := hide (fun j => wkU_succ ⟨5, u.yr, (A : Int) + 1⟩ j)
  obtain ⟨i0, hi, hi0, hi1, hi2⟩ := info_parts unit_info
  clear hd hab hnb hw hU hA hB
  simp only [calV, unitV]
  go_enter Tryz.func64, Tryz.ntmps64
  go_wp2_with fail
  refine (r16down_any c u 5 _ hn).mono ?_
  rintro e w1 ⟨rfl, hb1⟩
  rw [HD.out.1, HD.out.2.1, HD.out.2.2]
  simp only [unitV]
  have hz1 : w.heap.size + 1 < w1.heap.size := by have := hb1.size; simp at this; omega
  have HB1 : Hid (Below w.heap.size w w1) := ww hb1
  have HQ1 := hide (calAt_below hb1 (by simp; omega) (calAt_alloc (calAt_new w c) (by simp) _))
  have HU1 := hide (unAt_below hb1 (by simp) (unAt_new w c u))
  obtain ⟨q0, q1, q2, q3, q4, q5, q6, q7, q8, q9, q10, q11, q12, q13⟩ := HQ1.out
  obtain ⟨u0, u1, u2⟩ := HU1.out
  have hy1 : w.heap.size < w1.heap.size := by omega
  clear hb1
  have HB0 := hide (show Below w.heap.size w ((w1.alloc (.cells #[.int .i64 5, .int .i64 u.yr, .int .i64 ((A : Int) + 1)] 38)).alloc (.cells #[.int .i64 5, .int .i64 u.yr, .int .i64 (B : Int)] 38)) by have hp := HB1.out; (repeat' exact bel))
  have HQ0 := hide (calAt_alloc (calAt_alloc HQ1.out (by omega) (.cells #[.int .i64 5, .int .i64 u.yr, .int .i64 ((A : Int) + 1)] 38)) (by simp; omega) (.cells #[.int .i64 5, .int .i64 u.yr, .int .i64 (B : Int)] 38))
  have HU0 := hide (unAt_alloc (unAt_alloc HU1.out (by omega) (.cells #[.int .i64 5, .int .i64 u.yr, .int .i64 ((A : Int) + 1)] 38)) (by simp; omega) (.cells #[.int .i64 5, .int .i64 u.yr, .int .i64 (B : Int)] 38))
  have HT0 := hide (show UnAt ((w1.alloc (.cells #[.int .i64 5, .int .i64 u.yr, .int .i64 ((A : Int) + 1)] 38)).alloc (.cells #[.int .i64 5, .int .i64 u.yr, .int .i64 (B : Int)] 38)) (w1.heap.size + 1) ⟨5, u.yr, (B : Int)⟩ by simpa using unAt_fresh (w1.alloc (unObj ⟨5, u.yr, (A : Int) + 1⟩)) ⟨5, u.yr, (B : Int)⟩)
  have hs0 : ((w1.alloc (.cells #[.int .i64 5, .int .i64 u.yr, .int .i64 ((A : Int) + 1)] 38)).alloc (.cells #[.int .i64 5, .int .i64 u.yr, .int .i64 (B : Int)] 38)).heap.size = w1.heap.size + 2 := by simp
  clear q0 q1 q2 q3 q4 q5 q6 q7 q8 q9 q10 q11 q12 q13
  clear u0 u1 u2
  go_wp2_with fail
  obtain ⟨W0, hW0⟩ : ∃ W, (w1.alloc (.cells #[.int .i64 5, .int .i64 u.yr, .int .i64 ((A : Int) + 1)] 38)).alloc (.cells #[.int .i64 5, .int .i64 u.yr, .int .i64 (B : Int)] 38) = W := ⟨_, rfl⟩
  rw [hW0] at HB0 HQ0 HU0 HT0 hs0 ⊢
  clear hW0
  obtain ⟨Bo, hBo⟩ : ∃ B, B = W0.heap.size := ⟨_, rfl⟩
  have hBz : w1.heap.size + 1 < Bo := by omega
  have hBy : w.heap.size + 1 < Bo := by omega
  have hBx : w.heap.size < Bo := by omega
  have HS0 := hide (show UlSt c w.heap.size Bo [] (.slice none 0 0) w W0 from ⟨HQ0.out, hBx, by omega, World.ownsRow_nil _ _ _ _, HB0.out⟩)
  have hW0z : w1.heap.size < W0.heap.size := by omega
  clear hBo hs0
  go_loopw [8, 9] (fun s8 s9 wr => ∃ j : Nat, s9 = .int .i64 ((A : Int) + 1 + (j : Int)) ∧ j ≤ B - A ∧ UlSt c w.heap.size Bo (wkU ⟨5, u.yr, (A : Int) + 1⟩ j) s8 w wr ∧ Below Bo W0 wr) (fun _ s _ => (100 - intOf s).toNat)
  case atStart => exact ⟨0, by simp, by omega, by simpa [wkU, upto] using HS0.out, Below.refl _ _⟩
  case round =>
    obtain ⟨j, rfl, hj, hS, hB⟩ := hrel
    have HS := hide hS
    have HBr := hide hB
    have hBs := hS.2.2.1
    obtain ⟨u0, u1, u2⟩ := unAt_below hB hBy HU0.out
    obtain ⟨t0, t1, t2⟩ := unAt_below hB hBz HT0.out
    simp only at t0 t1 t2
    have hw1r : w1.heap.size + 1 < wr.heap.size := by omega
    have hwr : w.heap.size + 1 < wr.heap.size := by omega
    clear hS hB
    by_cases hlt : j < B - A
    · have hul := HLN.out j
      have hle : (A : Int) + 1 + (j : Int) ≤ (B : Int) := by omega
      obtain ⟨U, hU⟩ : ∃ U, wkU ⟨5, u.yr, (A : Int) + 1⟩ j = U := ⟨_, rfl⟩
      have HSS := hide (HSN.out j)
      rw [hU] at HS hul HSS
      have HUL := hide hul
      clear hU hul
      go_wp2_with ((at_builtin; refine wpList_append_own _ rfl _ _ 30 rfl Bo 38 i0 (.agg #[.int .i64 0, .int .i64 0, .int .i64 0]) 3 24 Tryz.underlying30 hi hi0 hi1 hi2 rfl (by decide) _ _ _ rfl (HS.out.2.2.2.1.alloc _) ⟨wr.heap.size, 0, none⟩ 1 1 [.int .i64 5, .int .i64 (u.yr), .int .i64 ((A : Int) + 1 + (j : Int))] rfl rfl ?c1a ?c2a ?c3a ?c4a ?c5a ?_))
      case c1a =>
        intro i u hu
        match i, hu with
        | 0, hu => simp at hu; subst hu; simp [Addr.add]
        | 1, hu => simp at hu; subst hu; simp [Addr.add]
        | 2, hu => simp at hu; subst hu; simp [Addr.add]
        | i + 3, hu => simp at hu
      case c2a => intro u hu; simp at hu; rcases hu with rfl | rfl | rfl <;> rfl
      case c3a => have := HUL.out; unfold maxLen; omega
      case c4a => have := HUL.out; omega
      case c5a => simp; omega
      · intro v' w' hown' hgrow _
        have HG := hide (HS.out.grow (x := ⟨5, u.yr, (A : Int) + 1 + (j : Int)⟩) _ (by exact hown') hgrow)
        have HB' := hide (HBr.out.trans HG.out.2)
        clear hown' hgrow
        go_wp2
        go_roundw
        case rel => exact ⟨j + 1, by first | rfl | (congr 1; omega), by omega, by rw [HSS.out]; exact HG.out.1, HB'.out⟩
        case measure => simp [intOf]; omega
    · obtain rfl : j = B - A := by omega
      obtain ⟨g, cap, rfl, hg, hun⟩ := HS.out.uns (by rw [HLN.out]; omega)
      have hcap := (hun.lt (by rw [HLN.out]; omega)).2
      have HUN := hide hun
      have HCAP := hide hcap
      have hBel := HS.out.2.2.2.2
      have hgt : ¬ (A : Int) + 1 + ((B - A : Nat) : Int) ≤ (B : Int) := by omega
      have hgw : w.heap.size ≤ g := by omega
      clear hun hcap
      go_wp2
      all_goals first
        | (exfalso; omega)
        | (go_ret; exact ⟨g, cap, rfl, HUN.out, HCAP.out, by rw [HLN.out]; omega, hgw, by (repeat' exact bel)⟩)

def MPost (L : List Un) (w : World) (e : Ending) (w' : World) : Prop := ∃ a n cap, e = .returned (.slice a n cap) ∧ RU w' a n cap L ∧ Below w.heap.size w w'
set_option maxRecDepth 100000 in
set_option maxHeartbeats 6400000 in
theorem r20months_n (c : Cal) (u : Un) (t : Int) (w : World) (hn : c.name.size ≤ 1000) (hU : unitE c u = 0) (ht : srv c t) (h5 : ¬ u.lv = 5) :
    Calls Tryz.prog 63 #[calV c, unitV u, .int .i64 t] w (MPost (monthL c u t) w) := by
  have HU2 := hide (mon_same hU ht h5)
  have HW := hide (show monthL c u t = wksL c ⟨u.lv, t, u.ix⟩ by rw [monthL, if_neg h5])
  have h5b : (u.lv != 5) = true := by simpa using h5
  have HM0 := hide ((mnSt_new c u w).year t)
  clear hU ht h5
  simp only [calV, unitV]
  go_enter Tryz.func63, Tryz.ntmps63
  go_wp2_with fail
  refine (r20within_any c ⟨u.lv, t, u.ix⟩ _ hn HU2.out).mono ?_
  rintro e w1 ⟨g, cap, rfl, hun, hc0, hpos, hg, hb1⟩
  have HUN := hide (hun.ru hpos)
  have hBel : Below w.heap.size w w1 := by refine Below.trans ?_ (hb1.mono (by simp; omega)); (repeat' exact bel)
  clear hun hb1 hg hc0
  go_wp2
  go_ret
  exact ⟨_, _, _, rfl, by rw [HW.out]; exact HUN.out, by (repeat' exact bel)⟩

set_option maxRecDepth 100000 in
set_option maxHeartbeats 6400000 in
theorem r20months_w (c : Cal) (u : Un) (t : Int) (w : World) (hn : c.name.size ≤ 1000) (hU : unitE c u = 0) (ht : srv c t) (h5 : u.lv = 5) :
    Calls Tryz.prog 63 #[calV c, unitV u, .int .i64 t] w (MPost (monthL c u t) w) := by
  obtain ⟨i, e1, e0, hg, hgt, e3, e4, e5, e6⟩ := mon_week hU ht h5
  have hab := cutAB hgt
  have hab0 := cutAB hg
  have hb60 := nWk_bd c t (un_lv hgt).2.2.2.1
  have hb61 := nWk_bd c u.yr (un_lv hg).2.2.2.1
  have hd1 := dn_5 hg
  have hwl : monthL c u t = wkU ⟨5, t, (cutA c ⟨4, t, (i : Int) + 1⟩ : Int) + 1 + (u.ix - ((cutA c ⟨4, u.yr, (i : Int) + 1⟩ : Int) + 1))⟩ (min (cutB c ⟨4, t, (i : Int) + 1⟩ : Int) ((cutA c ⟨4, t, (i : Int) + 1⟩ : Int) + 1 + (u.ix - ((cutA c ⟨4, u.yr, (i : Int) + 1⟩ : Int) + 1))) + 1 - ((cutA c ⟨4, t, (i : Int) + 1⟩ : Int) + 1 + (u.ix - ((cutA c ⟨4, u.yr, (i : Int) + 1⟩ : Int) + 1)))).toNat := by rw [monthL, if_pos h5, e1]
  have hwk : wksL c ⟨4, t, (i : Int) + 1⟩ = wkU ⟨5, t, (cutA c ⟨4, t, (i : Int) + 1⟩ : Int) + 1⟩ (cutB c ⟨4, t, (i : Int) + 1⟩ - cutA c ⟨4, t, (i : Int) + 1⟩) := rfl
  simp only at hab hab0 hd1 hwl
  obtain ⟨A0, hA0⟩ : ∃ A, cutA c ⟨4, u.yr, (i : Int) + 1⟩ = A := ⟨_, rfl⟩
  obtain ⟨B0, hB0⟩ : ∃ B, cutB c ⟨4, u.yr, (i : Int) + 1⟩ = B := ⟨_, rfl⟩
  obtain ⟨A, hAA⟩ : ∃ A, cutA c ⟨4, t, (i : Int) + 1⟩ = A := ⟨_, rfl⟩
  obtain ⟨B, hBB⟩ : ∃ B, cutB c ⟨4, t, (i : Int) + 1⟩ = B := ⟨_, rfl⟩
  obtain ⟨K, hK⟩ : ∃ K : Nat, cutA c u = A0 + K := ⟨cutA c u - A0, by omega⟩
  rw [hA0, hB0] at hd1 hab0
  rw [hAA, hBB] at hab hwl hwk
  rw [hA0] at hwl
  have hix : u.ix = (A0 : Int) + 1 + (K : Int) := by omega
  rw [hix] at hwl
  have hbds : A < B ∧ B ≤ 60 ∧ A0 + K ≤ 60 ∧ i ≤ 60 := by
    have h1 := (un_lv hg).2.2.2.2.2
    have h2 := (cnt_bd c u.yr (un_lv hg).2.2.2.1 4).2
    have h3 : uI ⟨4, u.yr, (i : Int) + 1⟩ = i := by simp [uI]
    rw [h3] at h1
    simp only at h1
    omega
  obtain ⟨hAB, hB60, hAK, hi60⟩ := hbds
  obtain ⟨ul, uy, ux⟩ := u
  simp only at *
  subst h5 hix
  have HL1 := hide (fun (h : K < B - A) => (show monthL c ⟨5, uy, (A0 : Int) + 1 + (K : Int)⟩ t = [⟨5, t, (A : Int) + 1 + (K : Int)⟩] from by
    rw [hwl]
    rw [show (min (B : Int) ((A : Int) + 1 + ((A0 : Int) + 1 + (K : Int) - ((A0 : Int) + 1))) + 1 - ((A : Int) + 1 + ((A0 : Int) + 1 + (K : Int) - ((A0 : Int) + 1)))).toNat = 1 by omega]
    simp [wkU, upto]; omega))
  have HL0 := hide (fun (h : ¬ K < B - A) => (show monthL c ⟨5, uy, (A0 : Int) + 1 + (K : Int)⟩ t = [] from by
    rw [hwl]
    rw [show (min (B : Int) ((A : Int) + 1 + ((A0 : Int) + 1 + (K : Int) - ((A0 : Int) + 1))) + 1 - ((A : Int) + 1 + ((A0 : Int) + 1 + (K : Int) - ((A0 : Int) + 1)))).toNat = 0 by omega]
    simp [wkU, upto]))
  have hlen := wkU_len ⟨5, t, (A : Int) + 1⟩ (B - A)
  have HGET := hide (fun (h : K < B - A) => (show (wkU ⟨5, t, (A : Int) + 1⟩ (B - A))[K]? = some ⟨5, t, (A : Int) + 1 + (K : Int)⟩ from upto_get _ _ _ h))
  obtain ⟨M, hM⟩ : ∃ M, B - A = M := ⟨_, rfl⟩
  rw [hM] at hwk hlen HL1 HL0 HGET
  have hM60 : 0 < M ∧ M ≤ 60 := by omega
  have HD1 := hide hd1
  have HE := hide (And.intro e1 e0)
  have HGT := hide hgt
  have HWK := hide hwk
  have HLEN := hide hlen
  have h5b : ((5 : Int) != 5) = false := by simp
  have HM0 := hide (mnSt_new2 c ⟨5, uy, (A0 : Int) + 1 + (K : Int)⟩ ⟨5, t, (A0 : Int) + 1 + (K : Int)⟩ w)
  have HBw := hide (show Below w.heap.size w ((((w.alloc (.cells (calCs c) 24)).alloc (.cells #[.int .i64 5, .int .i64 uy, .int .i64 ((A0 : Int) + 1 + (K : Int))] 38)).alloc (.cells #[.int .i64 5, .int .i64 t, .int .i64 ((A0 : Int) + 1 + (K : Int))] 38))) by (repeat' exact bel))
  obtain ⟨hM1, hM2⟩ := hM60
  have hAK2 : (A0 : Int) + (K : Int) ≤ 60 := by omega
  have hAM : (A : Int) + (M : Int) ≤ 60 := by omega
  clear hab hab0 hb60 hb61 hd1 hwl hwk hU ht hg hgt e1 e0 e3 e4 e5 e6 hA0 hB0 hAA hBB hK hM hlen
  simp only [calV, unitV]
  go_enter Tryz.func63, Tryz.ntmps63
  go_wp2_with fail
  refine (r16up_any c ⟨5, uy, (A0 : Int) + 1 + (K : Int)⟩ 4 _ hn).mono ?_
  rintro e w1 ⟨rfl, hb1⟩
  rw [HE.out.1, HE.out.2]
  simp only [unitV]
  have HM1 := hide (HM0.out.call (by exact hb1))
  have HB1 := hide (HBw.out.trans (Below.mono (by exact hb1) (by simp; omega)))
  clear hb1
  have hz1 : w.heap.size + 2 < w1.heap.size := HM1.out.lt
  have hzA : w.heap.size < w1.heap.size := by omega
  have hzB : w.heap.size + 1 < w1.heap.size := by omega
  have hzC : w.heap.size + 1 + 1 < w1.heap.size := by omega
  obtain ⟨q0, q1, q2, q3, q4, q5, q6, q7, q8, q9, q10, q11, q12, q13⟩ := HM1.out.1.cal
  obtain ⟨u0, u1, u2⟩ := HM1.out.un
  simp only at u0 u1 u2
  go_wp2_with fail
  refine (r16down_any c ⟨4, uy, (i : Int) + 1⟩ 5 _ hn).mono ?_
  rintro e w2 ⟨rfl, hb2⟩
  rw [HD1.out.1, HD1.out.2.1, HD1.out.2.2]
  simp only [unitV]
  have HM2 := hide ((HM1.out.alloc (.cells #[.int .i64 4, .int .i64 uy, .int .i64 ((i : Int) + 1)] 38)).call (by exact hb2))
  have HB2 := hide ((HB1.out.alloc (by omega) (.cells #[.int .i64 4, .int .i64 uy, .int .i64 ((i : Int) + 1)] 38)).trans (Below.mono (by exact hb2) (by simp; omega)))
  have HP2 := hide ((BlkIs.new w1 #[.int .i64 4, .int .i64 uy, .int .i64 ((i : Int) + 1)] 38).call (by exact hb2))
  have hz2 : w1.heap.size < w2.heap.size := HP2.out.lt
  clear hb2
  clear q0 q1 q2 q3 q4 q5 q6 q7 q8 q9 q10 q11 q12 q13
  clear u0 u1 u2 hzA hzB hzC
  have hzA : w.heap.size < w2.heap.size := by omega
  have hzB : w.heap.size + 1 < w2.heap.size := by omega
  obtain ⟨q0, q1, q2, q3, q4, q5, q6, q7, q8, q9, q10, q11, q12, q13⟩ := HM2.out.1.cal
  obtain ⟨u0, u1, u2⟩ := HM2.out.un
  simp only at u0 u1 u2
  obtain ⟨p0, p1, p2⟩ : w2.cell? ⟨w1.heap.size, 0, none⟩ = some (.int .i64 4) ∧ w2.cell? ⟨w1.heap.size, 1, none⟩ = some (.int .i64 uy) ∧ w2.cell? ⟨w1.heap.size, 2, none⟩ = some (.int .i64 ((i : Int) + 1)) := ⟨HP2.out.cell 0, HP2.out.cell 1, HP2.out.cell 2⟩
  have p3 := HP2.out.frozen 1
  have hne1 : w.heap.size ≠ w1.heap.size := by omega
  have hne2 : w.heap.size + 1 ≠ w1.heap.size := by omega
  go_wp2_with fail
  refine (r20within_any c ⟨4, t, (i : Int) + 1⟩ _ hn HGT.out).mono ?_
  rintro e w3 ⟨g, cap, rfl, hun, hcp, hpos, hg, hb3⟩
  have HF3 := hide (show BlkIs w3 w2.heap.size #[.int .i64 5, .int .i64 uy, .int .i64 ((A0 : Int) + 1)] 38 from by
    have h := (((BlkIs.new (w2.setCell ⟨w1.heap.size, 1, none⟩ (.int .i64 t)) #[.int .i64 5, .int .i64 uy, .int .i64 ((A0 : Int) + 1)] 38).alloc (.cells #[.int .i64 5, .int .i64 uy, .int .i64 (B0 : Int)] 38)).call (by exact hb3))
    simpa using h)
  have HU3 := hide ((((HM2.out.2.1.far (p := ⟨w1.heap.size, 1, none⟩) (by simp; omega) (.int .i64 t)).alloc (.cells #[.int .i64 5, .int .i64 uy, .int .i64 ((A0 : Int) + 1)] 38)).alloc (.cells #[.int .i64 5, .int .i64 uy, .int .i64 (B0 : Int)] 38)).call (by exact hb3))
  have hBel : Below w.heap.size w w3 := by
    have hp := HB2.out
    refine Below.trans ?_ (hb3.mono (by simp; omega))
    (repeat' exact bel)
  have hz3 : w2.heap.size < w3.heap.size := HF3.out.lt
  rw [HWK.out] at hun hcp hpos ⊢
  rw [HLEN.out] at hcp hpos ⊢
  have HUN := hide hun
  have hgl := (hun.lt (by rw [HLEN.out]; omega)).1
  clear hun hb3 u0 u1 u2 p0 p1 p2 p3 hg
  clear q0 q1 q2 q3 q4 q5 q6 q7 q8 q9 q10 q11 q12 q13
  obtain ⟨f0, f1, f2⟩ : w3.cell? ⟨w2.heap.size, 0, none⟩ = some (.int .i64 5) ∧ w3.cell? ⟨w2.heap.size, 1, none⟩ = some (.int .i64 uy) ∧ w3.cell? ⟨w2.heap.size, 2, none⟩ = some (.int .i64 ((A0 : Int) + 1)) := ⟨HF3.out.cell 0, HF3.out.cell 1, HF3.out.cell 2⟩
  obtain ⟨u0, u1, u2⟩ : w3.cell? ⟨w.heap.size + 1, 0, none⟩ = some (.int .i64 5) ∧ w3.cell? ⟨w.heap.size + 1, 1, none⟩ = some (.int .i64 uy) ∧ w3.cell? ⟨w.heap.size + 1, 2, none⟩ = some (.int .i64 ((A0 : Int) + 1 + (K : Int))) := ⟨HU3.out.cell 0, HU3.out.cell 1, HU3.out.cell 2⟩
  have hzB3 : w.heap.size + 1 < w3.heap.size := by omega
  have hsub : (A0 : Int) + 1 + (K : Int) - ((A0 : Int) + 1) = (K : Int) := by omega
  have hsum : IntKind.i64.wrap ((A0 : Int) + 1 + (K : Int) - ((A0 : Int) + 1)) = (K : Int) := by rw [hsub]; simp [IntKind.wrap, IntKind.bits, IntKind.signed]; omega
  by_cases hlt : K < M
  · have HLL := hide (HL1.out hlt)
    have HG := hide (show RdU w3 g (K * 3) [⟨5, t, (A : Int) + 1 + (K : Int)⟩] from ⟨hgl, fun j x hx => by
      match j, hx with
      | 0, hx =>
        simp at hx
        subst hx
        have := UnsAt.cell HUN.out (HGET.out hlt)
        simpa using this
      | j + 1, hx => simp at hx⟩)
    have hKI : (K : Int) < (M : Int) := by omega
    have hK0 : (0 : Int) ≤ (K : Int) := by omega
    have hKc : K < cap := by omega
    have hKc2 : K + 1 ≤ cap := by omega
    clear hgl
    go_wp2
    all_goals first
      | (exfalso; omega)
      | (go_ret; exact ⟨_, _, _, rfl, by rw [HLL.out]; exact .inr ⟨by simp, by simp, g, K * 3, by simp [Addr.add], HG.out⟩, hBel⟩)
  · have HLL := hide (HL0.out hlt)
    have hKI : (M : Int) ≤ (K : Int) := by omega
    have hK0 : (0 : Int) ≤ (K : Int) := by omega
    clear hgl
    go_wp2
    all_goals first
      | (exfalso; omega)
      | (go_ret; exact ⟨_, _, _, rfl, by rw [HLL.out]; exact .inl ⟨rfl, rfl, rfl, rfl⟩, hBel⟩)
theorem r20months_any (c : Cal) (u : Un) (t : Int) (w : World) (hn : c.name.size ≤ 1000) (hU : unitE c u = 0) (ht : srv c t) :
    Calls Tryz.prog 63 #[calV c, unitV u, .int .i64 t] w (MPost (monthL c u t) w) := by
  by_cases h5 : u.lv = 5
  · exact r20months_w c u t w hn hU ht h5
  · exact r20months_n c u t w hn hU ht h5
end Go.Proofs.YtojdngkleiokgaaGreat
