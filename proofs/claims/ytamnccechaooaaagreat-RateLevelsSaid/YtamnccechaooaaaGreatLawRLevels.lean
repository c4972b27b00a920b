/- The walk of RateLevels. -/
import Derived.Test.YtamnccechaooaaaGreatMRl
import Derived.Test.YtamnccechaooaaaGreatLawRDays
namespace Go.Proofs.YtamnccechaooaaaGreat
open Go.RowKit Qd
set_option linter.unusedSimpArgs false
set_option linter.unusedVariables false

/-- Some slice, and an error. -/
def SomeSl (E : Int) (w : World) (e : Ending) (w' : World) : Prop := (∃ ad n cap, e = .returned (.tuple #[.slice ad n cap, .int .i64 E])) ∧ Below w.heap.size w w'
theorem rdays_w (c : Cal) (lv : Int) (s : Sp) (w : World) (hn : c.name.size ≤ 1000) (hb : 0 ≤ s.a → s.a ≤ s.b → s.b < 3068037 → s.b - s.a ≤ 1500) : Calls Tryz.prog 26 #[calV c, .int .i64 lv, spanV s] w (SomeSl (meetsE c lv s) w) := by
  by_cases h : meetsE c lv s = 0
  · refine (rdays_yes c lv s w hn h (by have := (brief_len h hb).2; omega)).mono ?_
    rintro e w' ⟨⟨g, rfl, _⟩, hb⟩
    exact ⟨⟨_, _, _, by rw [h]⟩, hb⟩
  · refine (rdays_no c lv s w hn h).mono ?_
    rintro e w' ⟨rfl, hb⟩
    exact ⟨⟨_, _, _, rfl⟩, hb⟩
theorem meets_w (c : Cal) (lv : Int) (s : Sp) (w : World) (hn : c.name.size ≤ 1000) : Calls Tryz.prog 25 #[calV c, .int .i64 lv, spanV s] w (SomeSl (meetsE c lv s) w) := by
  by_cases h : meetsE c lv s = 0
  · refine (meets_yes c lv s w hn h).mono ?_
    rintro e w' ⟨g, cap, rfl, _, _, hb⟩
    exact ⟨⟨_, _, _, by rw [h]⟩, hb⟩
  · refine (meets_any_no c lv s w hn h).mono ?_
    rintro e w' ⟨rfl, hb⟩
    exact ⟨⟨_, _, _, rfl⟩, hb⟩
theorem lv_bd {c : Cal} {s : Sp} {lv fine : Int} (hL : meetsE c lv s = 0) (hM : meetsE c fine s = 0) (hlf : lv ≤ fine) {i a : Nat} {sum : Int} (h : LvI c s lv fine i a sum) : 0 ≤ sum ∧ sum ≤ s.b - s.a + 1 ∧ a < (meetsL c lv s).length := by
  have hc := (meets_chain hL).2.2.2.1
  have hok := meets_ok hL
  rcases h with ⟨_, rfl, rfl⟩ | ⟨p, q, hi, hp, hq, hpq, hsum⟩
  · omega
  · obtain ⟨r1, r2, r3, r4, r5⟩ := clip_meets hM (List.mem_of_getElem? hp)
    obtain ⟨t0, t1, t2, t3, t4⟩ := up_span r1 hok.2.1 (show lv ≤ p.lv by omega)
    rw [hpq] at t3 t4
    have := (List.getElem?_eq_some_iff.1 hq).1
    omega
theorem unB_of_ne {x y : Un} (h : x ≠ y) : unB x.lv x.yr x.ix y.lv y.yr y.ix = false := by
  cases hb : unB x.lv x.yr x.ix y.lv y.yr y.ix
  · rfl
  · exfalso
    obtain ⟨a, b, d⟩ := x
    obtain ⟨a', b', d'⟩ := y
    simp [unB] at hb
    exact h (by rw [hb.1, hb.2.1, hb.2.2])
structure LvSt (c : Cal) (s : Sp) (L M : List Un) (D W : List Int) (g cap g2 h2 hm cm B : Nat) (w0 w : World) : Prop where
  fm : FmB c s B w0 w
  ul : UnsAt w g cap L
  dl : LongsAt w g2 D
  wl : LongsAt w h2 W
  um : UnsAt w hm cm M
theorem LvSt.call {c : Cal} {s : Sp} {L M : List Un} {D W : List Int} {g cap g2 h2 hm cm B : Nat} {w0 w w' : World} (h : LvSt c s L M D W g cap g2 h2 hm cm B w0 w) (hb : Below w.heap.size w w') : LvSt c s L M D W g cap g2 h2 hm cm B w0 w' :=
  ⟨h.fm.call hb, h.ul.call hb, h.dl.call hb, h.wl.call hb, h.um.call hb⟩

set_option maxRecDepth 100000 in
set_option maxHeartbeats 6400000 in
theorem rl_yes (c : Cal) (hn : c.name.size ≤ 9223372036854775807) (lv fine : Int) (s : Sp) (w : World) (hL : meetsE c lv s = 0) (hM : meetsE c fine s = 0) :
    Calls Tryz.prog 7 #[calV c, .int .i64 lv, .int .i64 fine, spanV s] w fun e w' => e = .returned (.bool true) ∧ Below w.heap.size w w' := by
  have HE := hide (And.intro hL hM)
  have hlb : 1 ≤ lv ∧ lv ≤ 5 ∧ 1 ≤ fine ∧ fine ≤ 5 := by have := meets_ok hL; have := meets_ok hM; omega
  obtain ⟨hlv1, hlv5, hf1, hf5⟩ := hlb
  clear hL hM
  simp only [calV, spanV]
  go_enter Tryz.func7, Tryz.ntmps7
  go_wp2_with fail
  refine (live21_any _).mono ?_
  rintro e w1 ⟨rfl, hb1⟩
  have HM1 := hide ((fmB_new c s w).call hb1)
  clear hb1
  obtain ⟨q0, q1, q2, q3, q4, q5, q6, q7, q8, q9, q10, q11, q12, q13⟩ := HM1.out.1
  obtain ⟨p0, p1⟩ := HM1.out.2.1
  have hz1 := HM1.out.2.2.1
  have hy1 : w.heap.size < w1.heap.size := by omega
  go_wp2_with fail
  refine (brief21_any c s _).mono ?_
  rintro e w2 ⟨⟨b, rfl, hsh⟩, hb2⟩
  have HSH := hide hsh
  have HM2 := hide (HM1.out.call hb2)
  clear hsh hb2 p0 p1
  clear q0 q1 q2 q3 q4 q5 q6 q7 q8 q9 q10 q11 q12 q13
  obtain ⟨q0, q1, q2, q3, q4, q5, q6, q7, q8, q9, q10, q11, q12, q13⟩ := HM2.out.1
  obtain ⟨p0, p1⟩ := HM2.out.2.1
  have hz2 := HM2.out.2.2.1
  have hy2 : w.heap.size < w2.heap.size := by omega
  cases b
  · have hBel := HM2.out.2.2.2
    go_wp2
    go_ret
    exact ⟨rfl, by (repeat' exact bel)⟩
  · rcases Int.lt_or_le fine lv with hlf | hlf
    · have hBel := HM2.out.2.2.2
      go_wp2
      all_goals first
        | (exfalso; omega)
        | (go_ret; exact ⟨rfl, by (repeat' exact bel)⟩)
    · obtain ⟨⟨s1, s2, s3, s4⟩, hlen1⟩ := brief_len HE.out.1 (HSH.out rfl).2
      have hlen2 := (brief_len HE.out.2 (HSH.out rfl).2).2
      have hnm : c.name.size ≤ 1000 := by have := (HSH.out rfl).1; omega
      have HDY := hide (fun w => rdays_yes c lv s w hnm HE.out.1 (by omega))
      have HMT := hide (fun w => meets_yes c lv s w hnm HE.out.1)
      have HDF := hide (fun w => rdays_yes c fine s w hnm HE.out.2 (by omega))
      have HMF := hide (fun w => meets_yes c fine s w hnm HE.out.2)
      have hn0 := (meets_chain HE.out.1).2.2.2.1
      have HST := hide (fun (i a : Nat) (sum : Int) (h : LvI c s lv fine i a sum) (u : Un) (hu : (meetsL c fine s)[i]? = some u) => lv_step HE.out.1 HE.out.2 hlf h hu)
      have HEN := hide (fun (a : Nat) (sum : Int) (h : LvI c s lv fine (meetsL c fine s).length a sum) => lv_end HE.out.1 HE.out.2 hlf h)
      have HBD := hide (fun (i a : Nat) (sum : Int) (h : LvI c s lv fine i a sum) => lv_bd HE.out.1 HE.out.2 hlf h)
      have HDS := hide (fun d hd => (dys_facts HE.out.2).2 d hd)
      obtain ⟨n, hnn⟩ : ∃ n, (meetsL c lv s).length = n := ⟨_, rfl⟩
      obtain ⟨m, hmm⟩ : ∃ n, (meetsL c fine s).length = n := ⟨_, rfl⟩
      rw [hnn] at HDY HMT hlen1 hn0 HST HEN HBD
      rw [hmm] at HDF HMF hlen2 HEN
      have HNN := hide (And.intro hnn hmm)
      simp only [calV, spanV] at HDY HMT HDF HMF
      clear hnn hmm
      go_wp2_with fail
      refine (HDY.out _).mono ?_
      rintro e w3 ⟨⟨g2, rfl, hD, hg2⟩, hb3⟩
      have HM3 := hide (HM2.out.call hb3)
      have HD3 := hide hD
      clear hb3 p0 p1 hD
      clear q0 q1 q2 q3 q4 q5 q6 q7 q8 q9 q10 q11 q12 q13
      obtain ⟨q0, q1, q2, q3, q4, q5, q6, q7, q8, q9, q10, q11, q12, q13⟩ := HM3.out.1
      obtain ⟨p0, p1⟩ := HM3.out.2.1
      have hz3 := HM3.out.2.2.1
      have hy3 : w.heap.size < w3.heap.size := by omega
      go_wp2_with fail
      refine (HMT.out _).mono ?_
      rintro e w4 ⟨g, cap, rfl, hU, hg, hb4⟩
      have HM4 := hide (HM3.out.call hb4)
      have HD4 := hide (And.intro (HD3.out.call hb4) hU)
      clear hb4 p0 p1 hU HD3
      clear q0 q1 q2 q3 q4 q5 q6 q7 q8 q9 q10 q11 q12 q13
      obtain ⟨q0, q1, q2, q3, q4, q5, q6, q7, q8, q9, q10, q11, q12, q13⟩ := HM4.out.1
      obtain ⟨p0, p1⟩ := HM4.out.2.1
      have hz4 := HM4.out.2.2.1
      have hy4 : w.heap.size < w4.heap.size := by omega
      go_wp2_with fail
      refine (HDF.out _).mono ?_
      rintro e w5 ⟨⟨h2, rfl, hW, hh2⟩, hb5⟩
      have HM5 := hide (HM4.out.call hb5)
      have HD5 := hide (And.intro (HD4.out.1.call hb5) (And.intro (HD4.out.2.call hb5) hW))
      clear hb5 p0 p1 hW HD4
      clear q0 q1 q2 q3 q4 q5 q6 q7 q8 q9 q10 q11 q12 q13
      obtain ⟨q0, q1, q2, q3, q4, q5, q6, q7, q8, q9, q10, q11, q12, q13⟩ := HM5.out.1
      obtain ⟨p0, p1⟩ := HM5.out.2.1
      have hz5 := HM5.out.2.2.1
      have hy5 : w.heap.size < w5.heap.size := by omega
      go_wp2_with fail
      refine (HMF.out _).mono ?_
      rintro e w6 ⟨hm, cm, rfl, hUM, hhm, hb6⟩
      have HS0 := hide (show LvSt c s (meetsL c lv s) (meetsL c fine s) (dysL c lv s) (dysL c fine s) g cap g2 h2 hm cm w.heap.size w w6 from ⟨HM5.out.call hb6, HD5.out.2.1.call hb6, HD5.out.1.call hb6, HD5.out.2.2.call hb6, hUM⟩)
      clear hb6 p0 p1 hUM HD5
      clear q0 q1 q2 q3 q4 q5 q6 q7 q8 q9 q10 q11 q12 q13
      have hn0b : (n == 0) = false := by simp; omega
      have hnb : ((n : Int) == 0) = false := by simp; omega
      go_wp2_with fail
      all_goals first
        | (exfalso; omega)
        | skip
      go_loopw [17, 18, 103] (fun s17 s18 s103 wr => ∃ (i a : Nat) (sum : Int), s103 = .int .i64 i ∧ i ≤ m ∧ s17 = .int .i64 a ∧ s18 = .int .i64 sum ∧ Hid (LvI c s lv fine i a sum) ∧ Hid (LvSt c s (meetsL c lv s) (meetsL c fine s) (dysL c lv s) (dysL c fine s) g cap g2 h2 hm cm w.heap.size w wr)) (fun _ _ s103 _ => (m + 5 - intOf s103).toNat)
      case atStart => exact ⟨0, 0, 0, rfl, Nat.zero_le _, rfl, rfl, hide (.inl ⟨rfl, rfl, rfl⟩), HS0⟩
      case round =>
        obtain ⟨i, a, sum, rfl, hi, rfl, rfl, HI, HS⟩ := hrel
        obtain ⟨hb1, hb2, hb3⟩ := HBD.out i a sum HI.out
        obtain ⟨q0, q1, q2, q3, q4, q5, q6, q7, q8, q9, q10, q11, q12, q13⟩ := HS.out.fm.1
        have hzr := HS.out.fm.2.2.1
        have hyr : w.heap.size < wr.heap.size := by omega
        by_cases hlt : i < m
        · obtain ⟨u, hu⟩ : ∃ u, (meetsL c fine s)[i]? = some u := ⟨_, List.getElem?_eq_getElem (by rw [HNN.out.2]; exact hlt)⟩
          obtain ⟨e0, q, hq, hcase⟩ := HST.out i a sum HI.out u hu
          have hd := dysL_get hu
          obtain ⟨d, hdd⟩ : ∃ d, clipV s.a s.b (spV c u) = d := ⟨_, rfl⟩
          rw [hdd] at hd hcase
          obtain ⟨hd1, hd2⟩ := HDS.out d (List.mem_of_getElem? hd)
          obtain ⟨v, hv⟩ : ∃ v, upV c u lv = v := ⟨_, rfl⟩
          rw [hv] at hcase
          have HUP := hide (fun w => up_any c u lv w hnm)
          rw [e0, hv] at HUP
          simp only [calV, unitV] at HUP
          have hug := (UnsAt.lt HS.out.um (by rw [HNN.out.2]; omega)).1
          obtain ⟨a0, a1, a2⟩ := UnsAt.cell HS.out.um hu
          have hi1 : (0 : Int) ≤ (i : Int) := by omega
          have hi3 : (i : Int) < (m : Int) := by omega
          have ha1 : (0 : Int) ≤ (a : Int) := by omega
          have ha3 : (a : Int) < (n : Int) := by omega
          have HX := hide (And.intro hq hd)
          have HC := hide hcase
          clear hu hq hd hdd hcase hv e0
          go_wp2_with fail
          refine (HUP.out _).mono ?_
          rintro e w7 ⟨rfl, hb7⟩
          have HS7 := hide (HS.out.call (show Below wr.heap.size wr w7 from (ww hb7).out))
          clear hb7 a0 a1 a2
          clear q0 q1 q2 q3 q4 q5 q6 q7 q8 q9 q10 q11 q12 q13
          have hgl := (UnsAt.lt HS7.out.ul (by rw [HNN.out.1]; omega)).1
          obtain ⟨b0, b1, b2⟩ := UnsAt.cell HS7.out.ul HX.out.1
          have c0 := HS7.out.wl.cell HX.out.2
          have hgw := HS7.out.wl.lt
          have hgd := HS7.out.dl.lt
          have HXD := hide HX.out.2
          rcases HC.out with ⟨hvq, HI2⟩ | ⟨hvq, hla, hsd, hv2, HI2⟩
          · have HI3 := hide HI2
            subst hvq
            have hub := unB_same v.lv v.yr v.ix
            clear HI2
            go_upto_region 21 with (fail)
            go_quiet (fail)
            go_wp2
            all_goals first
              | (exfalso; omega)
              | skip
            go_roundw
            case rel => exact ⟨i + 1, a, sum + d, by go_num, by omega, rfl, rfl, HI3, hide (HS7.out.call (by (repeat' exact bel)))⟩
            case measure => simp [intOf]; omega
          · have HI3 := hide HI2
            have hub := unB_of_ne hvq
            have hub2 := unB_same v.lv v.yr v.ix
            have c1 := HS7.out.dl.cell hsd
            obtain ⟨e0, e1, e2⟩ := UnsAt.cell HS7.out.ul hv2
            have q1 : ((a : Int) + 1 == (n : Int)) = false := by simp; omega
            have q2 : (0 : Int) ≤ (a : Int) + 1 := by omega
            have q3 : ((a : Int) + 1).toNat = a + 1 := by omega
            have q4 : (a : Int) + 1 < (n : Int) := by omega
            have q5 : IntKind.i64.wrap ((a : Int) + 1) = (a : Int) + 1 := by simp [IntKind.wrap, IntKind.bits, IntKind.signed]; omega
            have q6 : (sum != sum) = false := by simp
            clear HI2 hvq hsd hv2
            go_upto_region 21 with (fail)
            go_quiet (fail)
            go_wp2_with fail
            go_quiet (fail)
            go_wp2
            all_goals first
              | (exfalso; omega)
              | skip
            go_roundw
            case rel => exact ⟨i + 1, a + 1, d, by go_num, by omega, by first | rfl | go_num, by first | rfl | (congr 1; omega), HI3, hide (HS7.out.call (by (repeat' exact bel)))⟩
            case measure => simp [intOf]; omega
        · obtain rfl : i = m := by omega
          obtain ⟨f1, f2⟩ := HEN.out a sum HI.out
          have c1 := HS.out.dl.cell f2
          have ha1 : (0 : Int) ≤ (a : Int) := by omega
          have ha3 : (a : Int) < (n : Int) := by omega
          have ha4 : (n : Int) - 1 = (a : Int) := by omega
          have hBel := HS.out.fm.2.2.2
          clear f2
          go_wp2
          all_goals first
            | (exfalso; omega)
            | (go_ret; exact ⟨ret_bool (by simp), by (repeat' exact bel)⟩)
set_option maxRecDepth 100000 in
set_option maxHeartbeats 6400000 in
theorem rl_no (c : Cal) (hn : c.name.size ≤ 9223372036854775807) (lv fine : Int) (s : Sp) (w : World) (hE : ¬ (meetsE c lv s = 0 ∧ meetsE c fine s = 0)) :
    Calls Tryz.prog 7 #[calV c, .int .i64 lv, .int .i64 fine, spanV s] w fun e w' => e = .returned (.bool true) ∧ Below w.heap.size w w' := by
  have HD1 := hide (fun w (h : c.name.size ≤ 1000) hb => rdays_w c lv s w h hb)
  have HM1' := hide (fun w (h : c.name.size ≤ 1000) => meets_w c lv s w h)
  have HD2 := hide (fun w (h : c.name.size ≤ 1000) hb => rdays_w c fine s w h hb)
  have HM2' := hide (fun w (h : c.name.size ≤ 1000) => meets_w c fine s w h)
  obtain ⟨E, hEE⟩ : ∃ E, meetsE c lv s = E := ⟨_, rfl⟩
  obtain ⟨F, hFF⟩ : ∃ E, meetsE c fine s = E := ⟨_, rfl⟩
  rw [hEE] at HD1 HM1' hE
  rw [hFF] at HD2 HM2' hE
  have hcs : (E != 0) = true ∨ ((E != 0) = false ∧ (F != 0) = true) := by simp; omega
  clear hEE hFF hE
  simp only [calV, spanV] at HD1 HM1' HD2 HM2' ⊢
  go_enter Tryz.func7, Tryz.ntmps7
  go_wp2_with fail
  refine (live21_any _).mono ?_
  rintro e w1 ⟨rfl, hb1⟩
  have HM1 := hide ((fmB_new c s w).call hb1)
  clear hb1
  obtain ⟨q0, q1, q2, q3, q4, q5, q6, q7, q8, q9, q10, q11, q12, q13⟩ := HM1.out.1
  obtain ⟨p0, p1⟩ := HM1.out.2.1
  have hz1 := HM1.out.2.2.1
  have hy1 : w.heap.size < w1.heap.size := by omega
  go_wp2_with fail
  refine (brief21_any c s _).mono ?_
  rintro e w2 ⟨⟨b, rfl, hsh⟩, hb2⟩
  have HSH := hide hsh
  have HM2 := hide (HM1.out.call hb2)
  clear hsh hb2 p0 p1
  clear q0 q1 q2 q3 q4 q5 q6 q7 q8 q9 q10 q11 q12 q13
  obtain ⟨q0, q1, q2, q3, q4, q5, q6, q7, q8, q9, q10, q11, q12, q13⟩ := HM2.out.1
  obtain ⟨p0, p1⟩ := HM2.out.2.1
  have hz2 := HM2.out.2.2.1
  have hy2 : w.heap.size < w2.heap.size := by omega
  cases b
  · have hBel := HM2.out.2.2.2
    go_wp2
    go_ret
    exact ⟨rfl, by (repeat' exact bel)⟩
  · rcases Int.lt_or_le fine lv with hlf | hlf
    · have hBel := HM2.out.2.2.2
      go_wp2
      all_goals first
        | (exfalso; omega)
        | (go_ret; exact ⟨rfl, by (repeat' exact bel)⟩)
    · have hnm : c.name.size ≤ 1000 := by have := (HSH.out rfl).1; omega
      have HBB := hide (HSH.out rfl).2
      go_wp2_with fail
      refine (HD1.out _ hnm HBB.out).mono ?_
      rintro e w3 ⟨⟨ad1, n1, cp1, rfl⟩, hb3⟩
      have HM3 := hide (HM2.out.call hb3)
      clear hb3 p0 p1
      clear q0 q1 q2 q3 q4 q5 q6 q7 q8 q9 q10 q11 q12 q13
      obtain ⟨q0, q1, q2, q3, q4, q5, q6, q7, q8, q9, q10, q11, q12, q13⟩ := HM3.out.1
      obtain ⟨p0, p1⟩ := HM3.out.2.1
      have hz3 := HM3.out.2.2.1
      have hy3 : w.heap.size < w3.heap.size := by omega
      go_wp2_with fail
      refine (HM1'.out _ hnm).mono ?_
      rintro e w4 ⟨⟨ad2, n2, cp2, rfl⟩, hb4⟩
      have HM4 := hide (HM3.out.call hb4)
      clear hb4 p0 p1
      clear q0 q1 q2 q3 q4 q5 q6 q7 q8 q9 q10 q11 q12 q13
      obtain ⟨q0, q1, q2, q3, q4, q5, q6, q7, q8, q9, q10, q11, q12, q13⟩ := HM4.out.1
      obtain ⟨p0, p1⟩ := HM4.out.2.1
      have hz4 := HM4.out.2.2.1
      have hy4 : w.heap.size < w4.heap.size := by omega
      go_wp2_with fail
      refine (HD2.out _ hnm HBB.out).mono ?_
      rintro e w5 ⟨⟨ad3, n3, cp3, rfl⟩, hb5⟩
      have HM5 := hide (HM4.out.call hb5)
      clear hb5 p0 p1
      clear q0 q1 q2 q3 q4 q5 q6 q7 q8 q9 q10 q11 q12 q13
      obtain ⟨q0, q1, q2, q3, q4, q5, q6, q7, q8, q9, q10, q11, q12, q13⟩ := HM5.out.1
      obtain ⟨p0, p1⟩ := HM5.out.2.1
      have hz5 := HM5.out.2.2.1
      have hy5 : w.heap.size < w5.heap.size := by omega
      go_wp2_with fail
      refine (HM2'.out _ hnm).mono ?_
      rintro e w6 ⟨⟨ad4, n4, cp4, rfl⟩, hb6⟩
      have HM6 := hide (HM5.out.call hb6)
      clear hb6 p0 p1
      clear q0 q1 q2 q3 q4 q5 q6 q7 q8 q9 q10 q11 q12 q13
      have hBel := HM6.out.2.2.2
      have e1 : (E == E) = true := by simp
      have e2 : (F == F) = true := by simp
      rcases hcs with h1 | ⟨h1, h2⟩
      all_goals
        go_wp2
        all_goals first
          | (exfalso; omega)
          | (go_ret; exact ⟨ret_bool (by simp), hBel⟩)
theorem rl_walk (c : Cal) (hn : c.name.size ≤ 9223372036854775807) (lv fine : Int) (s : Sp) (w : World) :
    Calls Tryz.prog 7 #[calV c, .int .i64 lv, .int .i64 fine, spanV s] w fun e w' => e = .returned (.bool true) ∧ Below w.heap.size w w' := by
  by_cases h : meetsE c lv s = 0 ∧ meetsE c fine s = 0
  · exact rl_yes c hn lv fine s w h.1 h.2
  · exact rl_no c hn lv fine s w h
end Go.Proofs.YtamnccechaooaaaGreat
