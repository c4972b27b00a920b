/- The walk of BookPosts. -/
import Derived.Test.YtamnccechaooaaaGreatBookH
import Derived.Test.YtamnccechaooaaaGreatBookI
import Derived.Test.YtamnccechaooaaaGreatRowP
namespace Go.Proofs.YtamnccechaooaaaGreat
open Go.RowKit Qd
set_option linter.unusedSimpArgs false
set_option linter.unusedVariables false

set_option maxRecDepth 100000 in
set_option maxHeartbeats 3200000 in
theorem bp_triv (c : Cal) (u : Un) (P : List Po) (vp : Value) (w : World) (hP : Posts w vp P) (hm : c.name.size ≤ 9223372036854775807 ∧ P.length ≤ 9223372036854775807) (h : 100 < c.name.size ∨ (c.name.size ≤ 100 ∧ 40 < P.length)) :
    Calls Tryz.prog 8 #[calV c, unitV u, vp] w fun e w' => e = .returned (.bool true) ∧ Below w.heap.size w w' := by
  obtain ⟨ad, cap, rfl, _⟩ := hP
  obtain ⟨hm1, hm2⟩ := hm
  rcases h with h | ⟨h, h2⟩
  all_goals
    simp only [calV, unitV]
    go_enter Tryz.func8, Tryz.ntmps8
    go_wp2_with fail
    refine (live22_any _).mono ?_
    rintro e w1 ⟨rfl, hb1⟩
    have hz1 : w.heap.size + 1 < w1.heap.size := by have := hb1.size; simp at this; omega
    have HB1 : Hid (Below w.heap.size w w1) := ww hb1
    have HQ1 := hide (calAt_below hb1 (by simp; omega) (calAt_alloc (calAt_new w c) (by simp) _))
    have HU1 := hide (unAt_below hb1 (by simp) (unAt_new w c u))
    obtain ⟨q0, q1, q2, q3, q4, q5, q6, q7, q8, q9, q10, q11, q12, q13⟩ := HQ1.out
    obtain ⟨u0, u1, u2⟩ := HU1.out
    have hy1 : w.heap.size < w1.heap.size := by omega
    clear hb1
    have hBel := HB1.out
    go_wp2
    all_goals first
      | (exfalso; omega)
      | (go_ret; exact ⟨rfl, by (repeat' exact bel)⟩)

set_option maxRecDepth 100000 in
set_option maxHeartbeats 3200000 in
theorem bp_chk (c : Cal) (u : Un) (P : List Po) (vp : Value) (w : World) (hP : Posts w vp P) (hn : c.name.size ≤ 100) (hl : P.length ≤ 40) (hC : ¬ chkE P [] = 0) :
    Calls Tryz.prog 8 #[calV c, unitV u, vp] w fun e w' => e = .returned (.bool true) ∧ Below w.heap.size w w' := by
  have HP := hide hP
  obtain ⟨ad, cap, rfl, _⟩ := hP
  have hCb : (chkE P [] != 0) = true := by simpa using hC
  clear hC
  simp only [calV, unitV]
  go_enter Tryz.func8, Tryz.ntmps8
  go_wp2_with fail
  refine (live22_any _).mono ?_
  rintro e w1 ⟨rfl, hb1⟩
  have hz1 : w.heap.size + 1 < w1.heap.size := by have := hb1.size; simp at this; omega
  have HB1 : Hid (Below w.heap.size w w1) := ww hb1
  have HQ1 := hide (calAt_below hb1 (by simp; omega) (calAt_alloc (calAt_new w c) (by simp) _))
  have HU1 := hide (unAt_below hb1 (by simp) (unAt_new w c u))
  obtain ⟨q0, q1, q2, q3, q4, q5, q6, q7, q8, q9, q10, q11, q12, q13⟩ := HQ1.out
  obtain ⟨u0, u1, u2⟩ := HU1.out
  have hy1 : w.heap.size < w1.heap.size := by omega
  clear hb1
  have HP1 := hide (HP.out.call HB1.out)
  go_wp2_with fail
  all_goals first
    | (exfalso; omega)
    | skip
  refine (bcheck_any P [] _ _ _ HP1.out (Accs.nil _) (by simp; omega)).mono ?_
  rintro e w2 ⟨rfl, hb2⟩
  have hz2 : w.heap.size + 1 < w2.heap.size := by have := hb2.size; (try simp at this); omega
  have HB2 : Hid (Below w.heap.size w w2) := by have hp := HB1.out; exact ww hb2
  have HQ2 : Hid (CalAt w2 w.heap.size c) := by have hp := HQ1.out; exact qq hb2
  clear q0 q1 q2 q3 q4 q5 q6 q7 q8 q9 q10 q11 q12 q13
  obtain ⟨q0, q1, q2, q3, q4, q5, q6, q7, q8, q9, q10, q11, q12, q13⟩ := HQ2.out
  have HU2 := hide (show UnAt w2 (w.heap.size + 1) u from unAt_below hb2 sz (by first | exact HU1.out | exact unAt_alloc HU1.out (by omega) _ | exact unAt_alloc (unAt_alloc HU1.out (by omega) _) (by simp; omega) _))
  clear u0 u1 u2
  obtain ⟨u0, u1, u2⟩ := HU2.out
  have hy2 : w.heap.size < w2.heap.size := by omega
  clear hb2
  have hBel := HB2.out
  go_wp2
  all_goals first
    | (exfalso; omega)
    | (go_ret; exact ⟨rfl, by (repeat' exact bel)⟩)

set_option maxRecDepth 100000 in
set_option maxHeartbeats 3200000 in
theorem bp_err (c : Cal) (u : Un) (P : List Po) (vp : Value) (w : World) (hP : Posts w vp P) (h64 : ∀ p ∈ P, in64 p.n) (hn : c.name.size ≤ 100) (hl : P.length ≤ 40) (hC : chkE P [] = 0) (hU : ¬ unitE c u = 0) :
    Calls Tryz.prog 8 #[calV c, unitV u, vp] w fun e w' => e = .returned (.bool true) ∧ Below w.heap.size w w' := by
  have HP := hide hP
  have HBK := hide (book0 c P (by omega) (by omega) h64)
  have HT := hide (T_no (P := P) hU)
  have HC := hide hC
  obtain ⟨ad, cap, rfl, _⟩ := hP
  have hUb : (unitE c u != 0) = true := by simpa using hU
  clear hC hU h64
  simp only [calV, unitV]
  go_enter Tryz.func8, Tryz.ntmps8
  go_wp2_with fail
  refine (live22_any _).mono ?_
  rintro e w1 ⟨rfl, hb1⟩
  have hz1 : w.heap.size + 1 < w1.heap.size := by have := hb1.size; simp at this; omega
  have HB1 : Hid (Below w.heap.size w w1) := ww hb1
  have HQ1 := hide (calAt_below hb1 (by simp; omega) (calAt_alloc (calAt_new w c) (by simp) _))
  have HU1 := hide (unAt_below hb1 (by simp) (unAt_new w c u))
  obtain ⟨q0, q1, q2, q3, q4, q5, q6, q7, q8, q9, q10, q11, q12, q13⟩ := HQ1.out
  obtain ⟨u0, u1, u2⟩ := HU1.out
  have hy1 : w.heap.size < w1.heap.size := by omega
  clear hb1
  have HP1 := hide (HP.out.call HB1.out)
  go_wp2_with fail
  all_goals first
    | (exfalso; omega)
    | skip
  refine (bcheck_any P [] _ _ _ HP1.out (Accs.nil _) (by simp; omega)).mono ?_
  rintro e w2 ⟨rfl, hb2⟩
  rw [HC.out]
  have hz2 : w.heap.size + 1 < w2.heap.size := by have := hb2.size; (try simp at this); omega
  have HB2 : Hid (Below w.heap.size w w2) := by have hp := HB1.out; exact ww hb2
  have HQ2 : Hid (CalAt w2 w.heap.size c) := by have hp := HQ1.out; exact qq hb2
  clear q0 q1 q2 q3 q4 q5 q6 q7 q8 q9 q10 q11 q12 q13
  obtain ⟨q0, q1, q2, q3, q4, q5, q6, q7, q8, q9, q10, q11, q12, q13⟩ := HQ2.out
  have HU2 := hide (show UnAt w2 (w.heap.size + 1) u from unAt_below hb2 sz (by first | exact HU1.out | exact unAt_alloc HU1.out (by omega) _ | exact unAt_alloc (unAt_alloc HU1.out (by omega) _) (by simp; omega) _))
  clear u0 u1 u2
  obtain ⟨u0, u1, u2⟩ := HU2.out
  have hy2 : w.heap.size < w2.heap.size := by omega
  clear hb2
  go_wp2_with fail
  all_goals first
    | (exfalso; omega)
    | skip
  refine (uspan_any c u _ (by omega)).mono ?_
  rintro e w3 ⟨rfl, hb3⟩
  simp only [spanV]
  have hz3 : w.heap.size + 1 < w3.heap.size := by have := hb3.size; (try simp at this); omega
  have HB3 : Hid (Below w.heap.size w w3) := by have hp := HB2.out; exact ww hb3
  have HQ3 : Hid (CalAt w3 w.heap.size c) := by have hp := HQ2.out; exact qq hb3
  clear q0 q1 q2 q3 q4 q5 q6 q7 q8 q9 q10 q11 q12 q13
  obtain ⟨q0, q1, q2, q3, q4, q5, q6, q7, q8, q9, q10, q11, q12, q13⟩ := HQ3.out
  have HU3 := hide (show UnAt w3 (w.heap.size + 1) u from unAt_below hb3 sz (by first | exact HU2.out | exact unAt_alloc HU2.out (by omega) _ | exact unAt_alloc (unAt_alloc HU2.out (by omega) _) (by simp; omega) _))
  clear u0 u1 u2
  obtain ⟨u0, u1, u2⟩ := HU3.out
  have hy3 : w.heap.size < w3.heap.size := by omega
  clear hb3
  have HP3 := hide (HP.out.call HB3.out)
  go_wp2_with fail
  refine (btotal_bk c u P [] Z0 _ _ (w3.alloc (.cells #[.int .i64 (spV c u).a, .int .i64 (spV c u).b] 35)) (by omega) (HP3.out.call (by (repeat' exact bel))) (Accs.nil _) HBK.out).mono ?_
  rintro e w4 ⟨rfl, hb4⟩
  rw [HT.out.1, HT.out.2]
  have HB4 : Hid (Below w.heap.size w w4) := by have hp := HB3.out; exact ww hb4
  clear hb4
  have hBel := HB4.out
  go_wp2
  all_goals first
    | (exfalso; omega)
    | (go_ret; exact ⟨ret_bool (by simp), by (repeat' exact bel)⟩)

set_option maxRecDepth 100000 in
set_option maxHeartbeats 6400000 in
theorem bp_ok (c : Cal) (u : Un) (P : List Po) (vp : Value) (w : World) (hP : Posts w vp P) (h64 : ∀ p ∈ P, in64 p.n) (hn : c.name.size ≤ 100) (hl : P.length ≤ 40) (hC : chkE P [] = 0) (hU : unitE c u = 0) :
    Calls Tryz.prog 8 #[calV c, unitV u, vp] w fun e w' => e = .returned (.bool true) ∧ Below w.heap.size w w' := by
  have HP := hide hP
  have H64 := hide h64
  have HBK := hide (book0 c P (by omega) (by omega) h64)
  have HBR := hide (book0 c P.reverse (by omega) (by simp; omega) (fun p hp => h64 p (List.mem_reverse.1 hp)))
  have HT := hide (T_in hU hC)
  have HTR := hide (rev_T c u P)
  obtain ⟨T, hT⟩ : ∃ x, TV c P [] Z0 u = x := ⟨_, rfl⟩
  obtain ⟨E, hE⟩ : ∃ x, TE c P [] Z0 u = x := ⟨_, rfl⟩
  obtain ⟨S, hS⟩ : ∃ S, spV c u = S := ⟨_, rfl⟩
  rw [hT, hE, hS] at HT
  rw [hT, hE] at HTR
  have HTE := hide (And.intro hT hE)
  have HS := hide hS
  have HC := hide hC
  have HU := hide hU
  obtain ⟨ad, cap, rfl, _⟩ := hP
  clear hC hU h64 hT hE hS
  simp only [calV, unitV]
  go_enter Tryz.func8, Tryz.ntmps8
  go_wp2_with fail
  refine (live22_any _).mono ?_
  rintro e w1 ⟨rfl, hb1⟩
  have hz1 : w.heap.size + 1 < w1.heap.size := by have := hb1.size; simp at this; omega
  have HB1 : Hid (Below w.heap.size w w1) := ww hb1
  have HQ1 := hide (calAt_below hb1 (by simp; omega) (calAt_alloc (calAt_new w c) (by simp) _))
  have HU1 := hide (unAt_below hb1 (by simp) (unAt_new w c u))
  obtain ⟨q0, q1, q2, q3, q4, q5, q6, q7, q8, q9, q10, q11, q12, q13⟩ := HQ1.out
  obtain ⟨u0, u1, u2⟩ := HU1.out
  have hy1 : w.heap.size < w1.heap.size := by omega
  clear hb1
  have HP1 := hide (HP.out.call HB1.out)
  go_wp2_with fail
  all_goals first
    | (exfalso; omega)
    | skip
  refine (bcheck_any P [] _ _ _ HP1.out (Accs.nil _) (by simp; omega)).mono ?_
  rintro e w2 ⟨rfl, hb2⟩
  rw [HC.out]
  have hz2 : w.heap.size + 1 < w2.heap.size := by have := hb2.size; (try simp at this); omega
  have HB2 : Hid (Below w.heap.size w w2) := by have hp := HB1.out; exact ww hb2
  have HQ2 : Hid (CalAt w2 w.heap.size c) := by have hp := HQ1.out; exact qq hb2
  clear q0 q1 q2 q3 q4 q5 q6 q7 q8 q9 q10 q11 q12 q13
  obtain ⟨q0, q1, q2, q3, q4, q5, q6, q7, q8, q9, q10, q11, q12, q13⟩ := HQ2.out
  have HU2 := hide (show UnAt w2 (w.heap.size + 1) u from unAt_below hb2 sz (by first | exact HU1.out | exact unAt_alloc HU1.out (by omega) _ | exact unAt_alloc (unAt_alloc HU1.out (by omega) _) (by simp; omega) _))
  clear u0 u1 u2
  obtain ⟨u0, u1, u2⟩ := HU2.out
  have hy2 : w.heap.size < w2.heap.size := by omega
  clear hb2
  go_wp2_with fail
  all_goals first
    | (exfalso; omega)
    | skip
  refine (uspan_any c u _ (by omega)).mono ?_
  rintro e w3 ⟨rfl, hb3⟩
  rw [HS.out, HU.out]
  simp only [spanV]
  have hz3 : w.heap.size + 1 < w3.heap.size := by have := hb3.size; (try simp at this); omega
  have HB3 : Hid (Below w.heap.size w w3) := by have hp := HB2.out; exact ww hb3
  have HQ3 : Hid (CalAt w3 w.heap.size c) := by have hp := HQ2.out; exact qq hb3
  clear q0 q1 q2 q3 q4 q5 q6 q7 q8 q9 q10 q11 q12 q13
  obtain ⟨q0, q1, q2, q3, q4, q5, q6, q7, q8, q9, q10, q11, q12, q13⟩ := HQ3.out
  have HU3 := hide (show UnAt w3 (w.heap.size + 1) u from unAt_below hb3 sz (by first | exact HU2.out | exact unAt_alloc HU2.out (by omega) _ | exact unAt_alloc (unAt_alloc HU2.out (by omega) _) (by simp; omega) _))
  clear u0 u1 u2
  obtain ⟨u0, u1, u2⟩ := HU3.out
  have hy3 : w.heap.size < w3.heap.size := by omega
  clear hb3
  have HP3 := hide (HP.out.call HB3.out)
  go_wp2_with fail
  refine (btotal_bk c u P [] Z0 _ _ (w3.alloc (.cells #[.int .i64 S.a, .int .i64 S.b] 35)) (by omega) (HP3.out.call (by (repeat' exact bel))) (Accs.nil _) HBK.out).mono ?_
  rintro e w4 ⟨rfl, hb4⟩
  rw [HTE.out.1, HTE.out.2]
  have hz34 : w3.heap.size < w4.heap.size := by have := hb4.size; simp at this; omega
  have HS0 := hide (show BpSt c u S w3.heap.size w4.heap.size [] (.slice none 0 0) [] (.slice none 0 0) w w4 from by
    have hBel := HB3.out
    exact ⟨calAt_below hb4 (by simp; omega) (calAt_alloc HQ3.out (by omega) _), unAt_below hb4 (by simp; omega) (unAt_alloc HU3.out (by omega) _), by omega, BlkIs.call (BlkIs.new _ _ _) hb4, by omega, by simp, World.ownsRow_nil _ _ _ _, World.ownsRow_nil _ _ _ _, ((show Below w.heap.size w (w3.alloc (.cells #[.int .i64 S.a, .int .i64 S.b] 35)) by (repeat' exact bel))).trans (hb4.mono (by simp; omega))⟩)
  clear hb4
  go_wp2_with fail
  all_goals first
    | (exfalso; omega)
    | skip
  clear q0 q1 q2 q3 q4 q5 q6 q7 q8 q9 q10 q11 q12 q13 u0 u1 u2
  go_loopw [11, 12, 61] (fun s11 s12 s61 wr => ∃ j : Nat, s61 = .int .i64 j ∧ j ≤ P.length ∧ BpSt c u S w3.heap.size w4.heap.size (inD S (P.take j)) s11 (P.reverse.take j) s12 w wr) (fun _ _ s61 _ => (500 - intOf s61).toNat)
  case atStart => exact ⟨0, rfl, Nat.zero_le _, by simpa [inD] using HS0.out⟩
  case round =>
    obtain ⟨j, rfl, hj, hS⟩ := hrel
    have HV1 := hide hS
    clear hS
    obtain ⟨⟨b0, b1⟩, _⟩ := blk_two' HV1.out.2.2.2.1
    have hzB := HV1.out.2.2.1
    have hz7 := HV1.out.2.2.2.2.1
    have hzC := HV1.out.2.2.2.2.2.1
    have hBel := HV1.out.2.2.2.2.2.2.2.2
    have hol := inD_len S (P.take j)
    rw [List.length_take] at hol
    have hrl : (P.reverse.take j).length ≤ 40 := by rw [List.length_take, List.length_reverse]; omega
    have HRL := hide (And.intro hol hrl)
    clear hol hrl
    by_cases hlt : j < P.length
    · obtain ⟨x, hx⟩ : ∃ x, P[j]? = some x := ⟨_, List.getElem?_eq_getElem hlt⟩
      obtain ⟨y, hy, hyr⟩ := rev_take hlt
      have HPj := hide (HP.out.call hBel)
      obtain ⟨g, o, rfl, hg, d0, d1⟩ := HPj.out.at hx
      obtain ⟨g', o', e', hg', e0, e1⟩ := HPj.out.at hy
      cases e'
      have hi1 : (0 : Int) ≤ (j : Int) := by omega
      have hi3 : (j : Int) < (P.length : Int) := by omega
      have hk : ((P.length : Int) - 1 - (j : Int)) = ((P.length - 1 - j : Nat) : Int) := by omega
      have hk3 : P.length - 1 - j < P.length := by omega
      obtain ⟨k, hkk⟩ : ∃ k, P.length - 1 - j = k := ⟨_, rfl⟩
      rw [hkk] at hk hk3 e0 e1
      rw [hkk] at hy
      clear hkk
      have HX := hide hx
      have HY := hide hy
      have HYR := hide hyr
      clear hx hy hyr
      by_cases hd : S.a ≤ x.day ∧ x.day ≤ S.b
      · have HI := hide (inD_yes HX.out hd)
        obtain ⟨hd1, hd2⟩ := hd
        go_wp2_with ((at_builtin; refine app_nums rfl _ _ rfl w4.heap.size _ _ _ [x.n] rfl (ownsI_call HV1.out.2.2.2.2.2.2.1 ?hw) rfl (.inr ⟨_, _, by simp, rfl, ?hl, ?hc⟩) (by have := HRL.out.1; simp; omega) ?hz ?_))
        case hw => (repeat' exact bel)
        case hl => simp
        case hc =>
          intro i y hy
          match i, hy with
          | 0, hy => simp at hy; subst hy; simp
        case hz => simp; omega
        intro v' w' hown' hbel hkeep
        have HVA := hide ((HV1.out.call (show Below wr.heap.size wr ((wr.alloc (.cells #[.int .i64 x.day, .int .i64 x.n] 63)).alloc (.cells #[.int .i64 x.n] 2)) by (repeat' exact bel))).appI (l' := inD S (P.take j) ++ [x.n]) (by simpa using hown') hbel hkeep)
        rw [← HI.out] at HVA
        clear hown' hbel hkeep d0 d1 e0 e1 b0 b1
        have HPk := hide ((HP.out.call HVA.out.2.2.2.2.2.2.2.2).at HY.out)
        obtain ⟨g2, o2, e2, hg2, e0, e1⟩ := HPk.out
        cases e2
        have hzC2 := HVA.out.2.2.2.2.2.1
        go_wp2_with ((at_builtin; refine app_post rfl _ _ rfl w4.heap.size _ (P.reverse.take j) y _ rfl (ownP_call HVA.out.2.2.2.2.2.2.2.1 ?hw) rfl (by simp) (by simp) (by have := HRL.out.2; omega) ?hz ?_))
        case hw => (repeat' exact bel)
        case hz => simp; omega
        intro v2 w6 hown2 hbel2 hkeep2
        have HVB := hide ((HVA.out.call (show Below w'.heap.size w' (w'.alloc (.cells #[.int .i64 y.day, .int .i64 y.n] 63)) by (repeat' exact bel))).appP hown2 hbel2 hkeep2)
        rw [← HYR.out] at HVB
        clear hown2 hbel2 hkeep2
        go_wp2
        go_roundw
        case rel => exact ⟨j + 1, by go_num, by omega, HVB.out⟩
        case measure => simp [intOf]; omega
      · have HI := hide (inD_no HX.out hd)
        have HVA := hide (HV1.out.call (show Below wr.heap.size wr (wr.alloc (.cells #[.int .i64 x.day, .int .i64 x.n] 63)) by (repeat' exact bel)))
        rw [← HI.out] at HVA
        clear e0 e1
        rcases (show x.day < S.a ∨ (S.a ≤ x.day ∧ S.b < x.day) by omega) with hlo | ⟨hlo, hhi⟩
        · have hbq : decide (S.a ≤ x.day) = false := by simpa using hlo
          have HPk := hide ((HP.out.call HVA.out.2.2.2.2.2.2.2.2).at HY.out)
          obtain ⟨g2, o2, e2, hg2, e0, e1⟩ := HPk.out
          cases e2
          have hzC2 := HVA.out.2.2.2.2.2.1
          go_wp2_with ((at_builtin; refine app_post rfl _ _ rfl w4.heap.size _ (P.reverse.take j) y _ rfl (ownP_call HVA.out.2.2.2.2.2.2.2.1 ?hw) rfl (by simp) (by simp) (by have := HRL.out.2; omega) ?hz ?_))
          case hw => (repeat' exact bel)
          case hz => simp; omega
          intro v2 w6 hown2 hbel2 hkeep2
          have HVB := hide ((HVA.out.call (show Below (wr.alloc (.cells #[.int .i64 x.day, .int .i64 x.n] 63)).heap.size (wr.alloc (.cells #[.int .i64 x.day, .int .i64 x.n] 63)) ((wr.alloc (.cells #[.int .i64 x.day, .int .i64 x.n] 63)).alloc (.cells #[.int .i64 y.day, .int .i64 y.n] 63)) by (repeat' exact bel))).appP hown2 hbel2 hkeep2)
          rw [← HYR.out] at HVB
          clear hown2 hbel2 hkeep2
          go_wp2
          go_roundw
          case rel => exact ⟨j + 1, by go_num, by omega, HVB.out⟩
          case measure => simp [intOf]; omega
        · have hbp : decide (S.a ≤ x.day) = true := by simpa using hlo
          have hbq : decide (x.day ≤ S.b) = false := by simpa using hhi
          have HPk := hide ((HP.out.call HVA.out.2.2.2.2.2.2.2.2).at HY.out)
          obtain ⟨g2, o2, e2, hg2, e0, e1⟩ := HPk.out
          cases e2
          have hzC2 := HVA.out.2.2.2.2.2.1
          go_wp2_with ((at_builtin; refine app_post rfl _ _ rfl w4.heap.size _ (P.reverse.take j) y _ rfl (ownP_call HVA.out.2.2.2.2.2.2.2.1 ?hw) rfl (by simp) (by simp) (by have := HRL.out.2; omega) ?hz ?_))
          case hw => (repeat' exact bel)
          case hz => simp; omega
          intro v2 w6 hown2 hbel2 hkeep2
          have HVB := hide ((HVA.out.call (show Below (wr.alloc (.cells #[.int .i64 x.day, .int .i64 x.n] 63)).heap.size (wr.alloc (.cells #[.int .i64 x.day, .int .i64 x.n] 63)) ((wr.alloc (.cells #[.int .i64 x.day, .int .i64 x.n] 63)).alloc (.cells #[.int .i64 y.day, .int .i64 y.n] 63)) by (repeat' exact bel))).appP hown2 hbel2 hkeep2)
          rw [← HYR.out] at HVB
          clear hown2 hbel2 hkeep2
          go_wp2
          go_roundw
          case rel => exact ⟨j + 1, by go_num, by omega, HVB.out⟩
          case measure => simp [intOf]; omega
    · have hje : j = P.length := by omega
      subst hje
      have HE := hide (show BpSt c u S w3.heap.size w4.heap.size (inD S P) u11 P.reverse u12 w wr by
        have h := HV1.out
        rwa [List.take_of_length_le (Nat.le_refl _), List.take_of_length_le (by simp)] at h)
      have h64b := hide (show ∀ y ∈ inD S P, in64 y from fun y hy => by
        obtain ⟨p, hp, rfl⟩ := inD_mem hy
        exact H64.out p hp)
      have hln := hide (inD_len S P)
      obtain ⟨R, hR⟩ : ∃ R, P.reverse = R := ⟨_, rfl⟩
      rw [hR] at HE HBR HTR
      clear hR
      obtain ⟨ad2, cap2, rfl, _⟩ := ownP_posts HE.out.2.2.2.2.2.2.2.1
      obtain ⟨X, hX⟩ : ∃ X, inD S P = X := ⟨_, rfl⟩
      rw [hX] at HE HT h64b hln
      clear hX
      go_wp2_with fail
      refine (wsum_any _ X _ (owns_nums HE.out.2.2.2.2.2.2.1) h64b.out (by have := hln.out; omega)).mono ?_
      rintro e w5 ⟨rfl, hb5⟩
      rw [← HT.out.1, ← HT.out.2]
      have HE2 := hide (HE.out.call (show Below wr.heap.size wr w5 from (ww hb5).out))
      clear hb5 b0 b1
      obtain ⟨q0, q1, q2, q3, q4, q5, q6, q7, q8, q9, q10, q11, q12, q13⟩ := HE2.out.1
      obtain ⟨u0, u1, u2⟩ := HE2.out.2.1
      have hz5 := HE2.out.2.2.2.2.2.1
      have hB5 := HE2.out.2.2.2.2.2.2.2.2
      go_wp2_with fail
      refine (btotal_bk c u R [] Z0 _ _ _ (by omega) (ownP_posts HE2.out.2.2.2.2.2.2.2.1) (Accs.nil _) HBR.out).mono ?_
      rintro e w6 ⟨rfl, hb6⟩
      rw [HTR.out.1, HTR.out.2]
      have HB6 := hide (hB5.trans ((show Below w5.heap.size w5 w6 from (ww hb6).out).mono hB5.size))
      clear hb6
      have hBel2 := HB6.out
      go_wp2
      all_goals first
        | (exfalso; omega)
        | (go_ret; exact ⟨ret_bool (by simp), by (repeat' exact bel)⟩)
theorem bp_walk (c : Cal) (hn : c.name.size ≤ 9223372036854775807) (u : Un) (P : List Po) (vp : Value) (w : World) (hP : Posts w vp P) (h64 : ∀ x ∈ P, in64 x.day ∧ in64 x.n) (hl : P.length ≤ 9223372036854775807) :
    Calls Tryz.prog 8 #[calV c, unitV u, vp] w fun e w' => e = .returned (.bool true) ∧ Below w.heap.size w w' := by
  by_cases h1 : c.name.size ≤ 100
  · by_cases h2 : P.length ≤ 40
    · by_cases h3 : chkE P [] = 0
      · by_cases h4 : unitE c u = 0
        · exact bp_ok c u P vp w hP (fun p hp => (h64 p hp).2) h1 h2 h3 h4
        · exact bp_err c u P vp w hP (fun p hp => (h64 p hp).2) h1 h2 h3 h4
      · exact bp_chk c u P vp w hP h1 h2 h3
    · exact bp_triv c u P vp w hP ⟨hn, hl⟩ (.inr ⟨h1, by omega⟩)
  · exact bp_triv c u P vp w hP ⟨hn, hl⟩ (.inl (by omega))
end Go.Proofs.YtamnccechaooaaaGreat
