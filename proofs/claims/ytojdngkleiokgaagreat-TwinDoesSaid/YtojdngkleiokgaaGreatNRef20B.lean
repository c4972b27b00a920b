/- Contracts of the references: with which weeks a unit is compared (layer 20). -/
import Derived.Test.YtojdngkleiokgaaGreatNRef20A
import Derived.Test.YtojdngkleiokgaaGreatMR9
import Derived.Test.YtojdngkleiokgaaGreatMRu
import Derived.Test.YtojdngkleiokgaaGreatNTwinE
namespace Go.Proofs.YtojdngkleiokgaaGreat
open Go.RowKit Qd
set_option linter.unusedSimpArgs false
set_option linter.unusedVariables false

def RWPost (L : List Un) (E : Int) (w : World) (e : Ending) (w' : World) : Prop := ∃ a n cap, e = .returned (.tuple #[.slice a n cap, .int .i64 E]) ∧ RU w' a n cap L ∧ Below w.heap.size w w'
set_option maxRecDepth 100000 in
set_option maxHeartbeats 1600000 in
theorem r20served_any (c : Cal) (y : Int) (w : World) (r : Bool) (hr : r = decide (c.first ≤ y ∧ y ≤ c.last)) : Calls Tryz.prog 62 #[calV c, .int .i64 y] w fun e w' => e = .returned (.bool r) ∧ Below w.heap.size w w' := by
  simp only [calV]
  subst hr
  go_enter Tryz.func62, Tryz.ntmps62
  go_wp2
  all_goals (go_ret; refine ⟨ret_bool ?_, by (repeat' exact bel)⟩; simp; try omega)

set_option maxRecDepth 100000 in
set_option maxHeartbeats 6400000 in
theorem r20weeks_bad (c : Cal) (u : Un) (k : Int) (w : World) (hn : c.name.size ≤ 1000) (hU : ¬ unitE c u = 0) :
    Calls Tryz.prog 29 #[calV c, unitV u, .int .i64 k] w (RWPost (twL c u k) (twE c u k) w) := by
  have he : twE c u k = unitE c u := by unfold twE; rw [if_neg hU]
  have HL := hide (show twL c u k = [] by rw [twL, if_neg (by rw [he]; exact hU)])
  obtain ⟨E, hEE⟩ : ∃ X, unitE c u = X := ⟨_, rfl⟩
  rw [hEE] at hU he
  have HE := hide hEE
  have HT := hide he
  have hEb : (E != 0) = true := by simpa using hU
  rw [he]
  clear hU hEE he
  simp only [calV, unitV]
  go_enter Tryz.func29, Tryz.ntmps29
  go_wp2_with fail
  refine (r16check_any c u _ hn).mono ?_
  rintro e w1 ⟨rfl, hb1⟩
  rw [HE.out]
  have hz1 : w.heap.size + 1 < w1.heap.size := by have := hb1.size; simp at this; omega
  have HB1 : Hid (Below w.heap.size w w1) := ww hb1
  have HQ1 := hide (calAt_below hb1 (by simp; omega) (calAt_alloc (calAt_new w c) (by simp) _))
  have HU1 := hide (unAt_below hb1 (by simp) (unAt_new w c u))
  obtain ⟨q0, q1, q2, q3, q4, q5, q6, q7, q8, q9, q10, q11, q12, q13⟩ := HQ1.out
  obtain ⟨u0, u1, u2⟩ := HU1.out
  have hy1 : w.heap.size < w1.heap.size := by omega
  clear hb1
  have hBel := HB1.out
  go_wp2
  go_ret2
  exact ⟨none, 0, 0, rfl, by rw [HL.out]; exact .inl ⟨rfl, rfl, rfl, rfl⟩, by (repeat' exact bel)⟩

set_option maxRecDepth 100000 in
set_option maxHeartbeats 6400000 in
theorem r20weeks_rng (c : Cal) (u : Un) (k : Int) (w : World) (hn : c.name.size ≤ 1000) (hU : unitE c u = 0) (hr : ¬ (c.first ≤ u.yr + k ∧ u.yr + k ≤ c.last)) :
    Calls Tryz.prog 29 #[calV c, unitV u, .int .i64 k] w (RWPost (twL c u k) (twE c u k) w) := by
  have he : twE c u k = 11 := by unfold twE; rw [if_pos hU, if_neg hr]
  have HL := hide (show twL c u k = [] by rw [twL, if_neg (by rw [he]; decide)])
  have hbd := un_bds hU
  have HU := hide hU
  have HR := hide hr
  rw [he]
  obtain ⟨_, _, b1, b2, _, b3, b4⟩ := hbd
  clear hU he hr
  have h3 : k < -400 ∨ (-400 ≤ k ∧ 400 < k) ∨ (-400 ≤ k ∧ k ≤ 400) := by omega
  rcases h3 with h3 | ⟨h3, h4⟩ | ⟨h3, h4⟩
  · simp only [calV, unitV]
    go_enter Tryz.func29, Tryz.ntmps29
    go_wp2_with fail
    refine (r16check_any c u _ hn).mono ?_
    rintro e w1 ⟨rfl, hb1⟩
    rw [HU.out]
    have hz1 : w.heap.size + 1 < w1.heap.size := by have := hb1.size; simp at this; omega
    have HB1 : Hid (Below w.heap.size w w1) := ww hb1
    have HQ1 := hide (calAt_below hb1 (by simp; omega) (calAt_alloc (calAt_new w c) (by simp) _))
    have HU1 := hide (unAt_below hb1 (by simp) (unAt_new w c u))
    obtain ⟨q0, q1, q2, q3, q4, q5, q6, q7, q8, q9, q10, q11, q12, q13⟩ := HQ1.out
    obtain ⟨u0, u1, u2⟩ := HU1.out
    have hy1 : w.heap.size < w1.heap.size := by omega
    clear hb1
    have hBel := HB1.out
    go_wp2
    all_goals first
      | (exfalso; omega)
      | (go_ret2; exact ⟨none, 0, 0, rfl, by rw [HL.out]; exact .inl ⟨rfl, rfl, rfl, rfl⟩, by (repeat' exact bel)⟩)
  · simp only [calV, unitV]
    go_enter Tryz.func29, Tryz.ntmps29
    go_wp2_with fail
    refine (r16check_any c u _ hn).mono ?_
    rintro e w1 ⟨rfl, hb1⟩
    rw [HU.out]
    have hz1 : w.heap.size + 1 < w1.heap.size := by have := hb1.size; simp at this; omega
    have HB1 : Hid (Below w.heap.size w w1) := ww hb1
    have HQ1 := hide (calAt_below hb1 (by simp; omega) (calAt_alloc (calAt_new w c) (by simp) _))
    have HU1 := hide (unAt_below hb1 (by simp) (unAt_new w c u))
    obtain ⟨q0, q1, q2, q3, q4, q5, q6, q7, q8, q9, q10, q11, q12, q13⟩ := HQ1.out
    obtain ⟨u0, u1, u2⟩ := HU1.out
    have hy1 : w.heap.size < w1.heap.size := by omega
    clear hb1
    have hBel := HB1.out
    go_wp2
    all_goals first
      | (exfalso; omega)
      | (go_ret2; exact ⟨none, 0, 0, rfl, by rw [HL.out]; exact .inl ⟨rfl, rfl, rfl, rfl⟩, by (repeat' exact bel)⟩)
  · simp only [calV, unitV]
    go_enter Tryz.func29, Tryz.ntmps29
    go_wp2_with fail
    refine (r16check_any c u _ hn).mono ?_
    rintro e w1 ⟨rfl, hb1⟩
    rw [HU.out]
    have hz1 : w.heap.size + 1 < w1.heap.size := by have := hb1.size; simp at this; omega
    have HB1 : Hid (Below w.heap.size w w1) := ww hb1
    have HQ1 := hide (calAt_below hb1 (by simp; omega) (calAt_alloc (calAt_new w c) (by simp) _))
    have HU1 := hide (unAt_below hb1 (by simp) (unAt_new w c u))
    obtain ⟨q0, q1, q2, q3, q4, q5, q6, q7, q8, q9, q10, q11, q12, q13⟩ := HQ1.out
    obtain ⟨u0, u1, u2⟩ := HU1.out
    have hy1 : w.heap.size < w1.heap.size := by omega
    clear hb1
    go_wp2_with fail
    all_goals first
      | (exfalso; omega)
      | skip
    refine (r20served_any c (u.yr + k) _ false (by simp; have := HR.out; omega)).mono ?_
    rintro e w2 ⟨rfl, hb2⟩
    have hz2 : w.heap.size + 1 < w2.heap.size := by have := hb2.size; (try simp at this); omega
    have HB2 : Hid (Below w.heap.size w w2) := by have hp := HB1.out; exact ww hb2
    have HQ2 : Hid (CalAt w2 w.heap.size c) := by have hp := HQ1.out; exact qq hb2
    clear q0 q1 q2 q3 q4 q5 q6 q7 q8 q9 q10 q11 q12 q13
    obtain ⟨q0, q1, q2, q3, q4, q5, q6, q7, q8, q9, q10, q11, q12, q13⟩ := HQ2.out
    have HU2 := hide (show UnAt w2 (w.heap.size + 1) u from unAt_below hb2 sz (by first | exact HU1.out | exact unAt_alloc HU1.out (by omega) _ | exact unAt_alloc (unAt_alloc HU1.out (by omega) _) (by simp; omega) _))
    clear u0 u1 u2
    obtain ⟨u0, u1, u2⟩ := HU2.out
    have hy2 : w.heap.size < w2.heap.size := by omega
    clear hb2
    have hBel := HB2.out
    go_wp2
    all_goals first
      | (exfalso; omega)
      | (go_ret2; exact ⟨none, 0, 0, rfl, by rw [HL.out]; exact .inl ⟨rfl, rfl, rfl, rfl⟩, by (repeat' exact bel)⟩)

set_option maxRecDepth 100000 in
set_option maxHeartbeats 6400000 in
theorem r20weeks_m (c : Cal) (u : Un) (k : Int) (w : World) (hn : c.name.size ≤ 1000) (hU : unitE c u = 0) (hr : c.first ≤ u.yr + k ∧ u.yr + k ≤ c.last) (hk6 : c.kind = 6) :
    Calls Tryz.prog 29 #[calV c, unitV u, .int .i64 k] w (RWPost (twL c u k) (twE c u k) w) := by
  have hbd := un_bds hU
  have HU := hide hU
  have HR := hide hr
  have h400 : -400 ≤ k ∧ k ≤ 400 := by
    have := ok_400 (frame_ok (un_lv hU).1).2.1
    omega
  obtain ⟨h401, h402⟩ := h400
  obtain ⟨bi1, bi2, b1, b2, _, b3, b4⟩ := hbd
  have hl60 := tw0_len hU hr
  have H12' := fun (h : twL0 c u k = []) => tw_12 hU hr h
  have H11' := fun (h : ¬ inB c (twL0 c u k) = true) => tw_11 hU hr h
  have H0' := fun (h : inB c (twL0 c u k) = true) (h0 : 0 < (twL0 c u k).length) => tw_0 hU hr h h0
  have hl0 : twL0 c u k = monthL c u (u.yr + k) := by simp [twL0, hk6]
  have HMO := hide (fun (W : World) => r20months_any c u (u.yr + k) W hn hU hr)
  have hkb : (c.kind == 6) = true := by simp [hk6]
  rw [← hl0] at HMO
  obtain ⟨L, hL⟩ : ∃ L, twL0 c u k = L := ⟨_, rfl⟩
  rw [hL] at HMO hl60 H12' H11' H0'
  have H12 := hide H12'
  have H11 := hide H11'
  have H0 := hide H0'
  obtain ⟨hr1, hr2⟩ := hr
  clear hU hk6 hl0 hL H12' H11' H0'
  simp only [calV, unitV]
  go_enter Tryz.func29, Tryz.ntmps29
  go_wp2_with fail
  refine (r16check_any c u _ hn).mono ?_
  rintro e w1 ⟨rfl, hb1⟩
  rw [HU.out]
  have hz1 : w.heap.size + 1 < w1.heap.size := by have := hb1.size; simp at this; omega
  have HB1 : Hid (Below w.heap.size w w1) := ww hb1
  have HQ1 := hide (calAt_below hb1 (by simp; omega) (calAt_alloc (calAt_new w c) (by simp) _))
  have HU1 := hide (unAt_below hb1 (by simp) (unAt_new w c u))
  obtain ⟨q0, q1, q2, q3, q4, q5, q6, q7, q8, q9, q10, q11, q12, q13⟩ := HQ1.out
  obtain ⟨u0, u1, u2⟩ := HU1.out
  have hy1 : w.heap.size < w1.heap.size := by omega
  clear hb1
  go_wp2_with fail
  all_goals first
    | (exfalso; omega)
    | skip
  refine (r20served_any c (u.yr + k) _ true (by simp; omega)).mono ?_
  rintro e w2 ⟨rfl, hb2⟩
  have hz2 : w.heap.size + 1 < w2.heap.size := by have := hb2.size; (try simp at this); omega
  have HB2 : Hid (Below w.heap.size w w2) := by have hp := HB1.out; exact ww hb2
  have HQ2 : Hid (CalAt w2 w.heap.size c) := by have hp := HQ1.out; exact qq hb2
  clear q0 q1 q2 q3 q4 q5 q6 q7 q8 q9 q10 q11 q12 q13
  obtain ⟨q0, q1, q2, q3, q4, q5, q6, q7, q8, q9, q10, q11, q12, q13⟩ := HQ2.out
  have HU2 := hide (show UnAt w2 (w.heap.size + 1) u from unAt_below hb2 sz (by first | exact HU1.out | exact unAt_alloc HU1.out (by omega) _ | exact unAt_alloc (unAt_alloc HU1.out (by omega) _) (by simp; omega) _))
  clear u0 u1 u2
  obtain ⟨u0, u1, u2⟩ := HU2.out
  have hy2 : w.heap.size < w2.heap.size := by omega
  clear hb2
  go_wp2_with fail
  refine (HMO.out _).mono ?_
  rintro e w3 ⟨a, n, cap, rfl, hru, hb3⟩
  have HRU := hide hru
  clear hru
  have hz3 : w.heap.size + 1 < w3.heap.size := by have := hb3.size; (try simp at this); omega
  have HB3 : Hid (Below w.heap.size w w3) := by have hp := HB2.out; exact ww hb3
  have HQ3 : Hid (CalAt w3 w.heap.size c) := by have hp := HQ2.out; exact qq hb3
  clear q0 q1 q2 q3 q4 q5 q6 q7 q8 q9 q10 q11 q12 q13
  obtain ⟨q0, q1, q2, q3, q4, q5, q6, q7, q8, q9, q10, q11, q12, q13⟩ := HQ3.out
  have HU3 := hide (show UnAt w3 (w.heap.size + 1) u from unAt_below hb3 sz (by first | exact HU2.out | exact unAt_alloc HU2.out (by omega) _ | exact unAt_alloc (unAt_alloc HU2.out (by omega) _) (by simp; omega) _))
  clear u0 u1 u2
  obtain ⟨u0, u1, u2⟩ := HU3.out
  have hy3 : w.heap.size < w3.heap.size := by omega
  clear hb3
  clear u0 u1 u2
  rcases HRU.out with ⟨rfl, rfl, rfl, rfl⟩ | ⟨hlp, rfl, g, o, rfl, hrd⟩
  · clear hl60
    have HEQ := hide (H12.out rfl)
    go_wp2_with fail
    go_loopw [112] (fun s wr => s = .int .i64 0 ∧ Below w.heap.size w wr) (fun s _ => (500 - intOf s).toNat)
    case atStart => exact ⟨rfl, HB3.out⟩
    case round =>
      obtain ⟨rfl, hBel⟩ := hrel
      go_wp2
      all_goals first
        | (exfalso; omega)
        | (go_ret2; exact ⟨none, 0, 0, by rw [HEQ.out.1]; rfl, by rw [HEQ.out.2]; exact .inl ⟨rfl, rfl, rfl, rfl⟩, by (repeat' exact bel)⟩)
  · have HRD := hide hrd
    have hg3 := hrd.1
    clear hrd HRU
    clear q0 q1 q2 q3 q4 q5 q6 q7 q8 q9 q10 q11 q12 q13
    obtain ⟨q0, q1, q2, q3, q4, q5, q6, q7, q8, q9, q10, q11, q12, q13⟩ := HQ3.out
    by_cases hin : inB c L = true
    · have HEQ := hide (H0.out hin hlp)
      have HIN := hide hin
      clear hin
      go_wp2_with fail
      go_loopw [112] (fun s wr => ∃ j : Nat, s = .int .i64 j ∧ j ≤ L.length ∧ Below w3.heap.size w3 wr) (fun s _ => (500 - intOf s).toNat)
      case atStart => exact ⟨0, rfl, Nat.zero_le _, Below.refl _ _⟩
      case round =>
        obtain ⟨j, rfl, hj, hB⟩ := hrel
        have HBr := hide hB
        have hsz := hB.size
        by_cases hlt : j < L.length
        · obtain ⟨x, hx⟩ : ∃ x, L[j]? = some x := ⟨_, List.getElem?_eq_getElem hlt⟩
          have hxy := inB_get HIN.out hx
          obtain ⟨a0, a1, a2⟩ := (HRD.out.call hB).2 j x hx
          obtain ⟨q0, q1, q2, q3, q4, q5, q6, q7, q8, q9, q10, q11, q12, q13⟩ := calAt_below hB (by omega) HQ3.out
          have hgr := (HRD.out.call hB).1
          have hwr : w.heap.size < wr.heap.size := by omega
          clear hx hB
          have hi3 : (0 : Int) ≤ (j : Int) := by omega
          have hi4 : (j : Int) < (L.length : Int) := by omega
          go_wp2_with fail
          all_goals first
            | (exfalso; omega)
            | skip
          refine (r20served_any c x.yr _ true (by simp; omega)).mono ?_
          rintro e wz ⟨rfl, hbz⟩
          have HBz := hide (show Below w3.heap.size w3 wz by have hp := HBr.out; refine Below.trans ?_ (hbz.mono (by simp; omega)); (repeat' exact bel))
          clear q0 q1 q2 q3 q4 q5 q6 q7 q8 q9 q10 q11 q12 q13
          clear a0 a1 a2 hbz
          go_wp2
          all_goals first
            | (exfalso; omega)
            | skip
          go_roundw
          case rel => exact ⟨j + 1, by go_num, by omega, HBz.out⟩
          case measure => simp [intOf]; omega
        · obtain rfl : j = L.length := by omega
          have hlb : ((L.length : Int) == 0) = false := by rw [beq_eq_false_iff_ne]; omega
          have HRF := hide (HRD.out.call hB)
          have hBel := HB3.out.trans (hB.mono (by omega))
          have hLp : (0 : Int) < (L.length : Int) := by omega
          clear hB
          go_wp2
          all_goals first
            | (exfalso; omega)
            | (go_ret2; exact ⟨_, _, _, by rw [HEQ.out.1]; rfl, by rw [HEQ.out.2]; exact .inr ⟨hlp, rfl, _, _, rfl, HRF.out⟩, by (repeat' exact bel)⟩)
    · have HEQ := hide (H11.out hin)
      obtain ⟨J, hJ1, xJ, hxJ, hbad⟩ : ∃ J : Nat, J < L.length ∧ ∃ x, L[J]? = some x ∧ ¬ (c.first ≤ x.yr ∧ x.yr ≤ c.last) := by
        apply Classical.byContradiction
        intro hno
        exact hin (inB_all (fun j x hx => Classical.byContradiction fun h => hno ⟨j, (List.getElem?_eq_some_iff.1 hx).1, x, hx, h⟩))
      have HXJ := hide (And.intro hxJ hbad)
      clear hin hxJ hbad
      go_wp2_with fail
      go_loopw [112] (fun s wr => ∃ j : Nat, s = .int .i64 j ∧ j ≤ J ∧ Below w3.heap.size w3 wr) (fun s _ => (500 - intOf s).toNat)
      case atStart => exact ⟨0, rfl, Nat.zero_le _, Below.refl _ _⟩
      case round =>
        obtain ⟨j, rfl, hj, hB⟩ := hrel
        have HBr := hide hB
        have hsz := hB.size
        have hlt : j < L.length := by omega
        obtain ⟨x, hx⟩ : ∃ x, L[j]? = some x := ⟨_, List.getElem?_eq_getElem hlt⟩
        obtain ⟨a0, a1, a2⟩ := (HRD.out.call hB).2 j x hx
        obtain ⟨q0, q1, q2, q3, q4, q5, q6, q7, q8, q9, q10, q11, q12, q13⟩ := calAt_below hB (by omega) HQ3.out
        have hgr := (HRD.out.call hB).1
        have hwr : w.heap.size < wr.heap.size := by omega
        have HX := hide hx
        clear hx hB
        have hi3 : (0 : Int) ≤ (j : Int) := by omega
        have hi4 : (j : Int) < (L.length : Int) := by omega
        by_cases hxy : c.first ≤ x.yr ∧ x.yr ≤ c.last
        · have hjJ : j < J := by
            rcases Nat.lt_or_ge j J with h | h
            · exact h
            · exfalso
              have hjj : j = J := by omega
              have h1 := HX.out
              rw [hjj, HXJ.out.1] at h1
              cases h1
              exact HXJ.out.2 hxy
          obtain ⟨hxy1, hxy2⟩ := hxy
          go_wp2_with fail
          all_goals first
            | (exfalso; omega)
            | skip
          refine (r20served_any c x.yr _ true (by simp; omega)).mono ?_
          rintro e wz ⟨rfl, hbz⟩
          have HBz := hide (show Below w3.heap.size w3 wz by have hp := HBr.out; refine Below.trans ?_ (hbz.mono (by simp; omega)); (repeat' exact bel))
          clear q0 q1 q2 q3 q4 q5 q6 q7 q8 q9 q10 q11 q12 q13
          clear a0 a1 a2 hbz
          go_wp2
          all_goals first
            | (exfalso; omega)
            | skip
          go_roundw
          case rel => exact ⟨j + 1, by go_num, by omega, HBz.out⟩
          case measure => simp [intOf]; omega
        · have HXY := hide hxy
          clear hxy
          go_wp2_with fail
          all_goals first
            | (exfalso; omega)
            | skip
          refine (r20served_any c x.yr _ false (by simp; have := HXY.out; omega)).mono ?_
          rintro e wz ⟨rfl, hbz⟩
          have hBel : Below w.heap.size w wz := by have hp := HB3.out.trans (HBr.out.mono (by omega)); refine Below.trans ?_ (hbz.mono (by simp; omega)); (repeat' exact bel)
          clear q0 q1 q2 q3 q4 q5 q6 q7 q8 q9 q10 q11 q12 q13
          clear a0 a1 a2 hbz
          go_wp2
          all_goals first
            | (exfalso; omega)
            | (go_ret2; exact ⟨none, 0, 0, by rw [HEQ.out.1]; rfl, by rw [HEQ.out.2]; exact .inl ⟨rfl, rfl, rfl, rfl⟩, by (repeat' exact bel)⟩)

set_option maxRecDepth 100000 in
set_option maxHeartbeats 6400000 in
theorem r20weeks_w (c : Cal) (u : Un) (k : Int) (w : World) (hn : c.name.size ≤ 1000) (hU : unitE c u = 0) (hr : c.first ≤ u.yr + k ∧ u.yr + k ≤ c.last) (hk6 : c.kind ≠ 6) :
    Calls Tryz.prog 29 #[calV c, unitV u, .int .i64 k] w (RWPost (twL c u k) (twE c u k) w) := by
  have hbd := un_bds hU
  have HU := hide hU
  have HR := hide hr
  have h400 : -400 ≤ k ∧ k ≤ 400 := by
    have := ok_400 (frame_ok (un_lv hU).1).2.1
    omega
  obtain ⟨h401, h402⟩ := h400
  obtain ⟨bi1, bi2, b1, b2, _, b3, b4⟩ := hbd
  have hl60 := tw0_len hU hr
  have H12' := fun (h : twL0 c u k = []) => tw_12 hU hr h
  have H11' := fun (h : ¬ inB c (twL0 c u k) = true) => tw_11 hU hr h
  have H0' := fun (h : inB c (twL0 c u k) = true) (h0 : 0 < (twL0 c u k).length) => tw_0 hU hr h h0
  have hl0 : twL0 c u k = cmpL c u.yr (u.yr + k) (wksL c u) := by simp [twL0, hk6]
  have hkb : (c.kind == 6) = false := by simpa using hk6
  obtain ⟨hok, hkB, _, _, hy1, hy2, hA⟩ := frame_ok (un_lv hU).1
  have hsy : srv c u.yr := ⟨hy1, hy2⟩
  have hst : srv c (u.yr + k) := hr
  have hab := cutAB hU
  have hnw := nwk_wks hkB hk6 hsy
  have HT1 := hide (wks_beside hkB hk6 hst (u.yr + k) (by omega) (by omega))
  have HT2 := hide (wks_beside hkB hk6 hst (u.yr + k - 1) (by omega) (by omega))
  have HCW := hide (fun x (hx : 1 ≤ x ∧ x ≤ wksV c u.yr) => cw_bd hkB hk6 hsy hst hx)
  have HC2 := hide (fun x (hx : 1 ≤ x ∧ x ≤ wksV c u.yr) => cw_two hkB hk6 hsy hst hx)
  have hwl : wksL c u = wkU ⟨5, u.yr, (cutA c u : Int) + 1⟩ (cutB c u - cutA c u) := rfl
  have HIN := hide (fun (W : World) => r20within_any c u W hn hU)
  have hnb := nWk_bd c u.yr hA
  obtain ⟨ul, uy, ux⟩ := u
  simp only at *
  obtain ⟨t, ht⟩ : ∃ t, uy + k = t := ⟨_, rfl⟩
  rw [ht] at hl0 HT1 HT2 HCW HC2 hr hst
  obtain ⟨A, hAA⟩ : ∃ A, cutA c ⟨ul, uy, ux⟩ = A := ⟨_, rfl⟩
  obtain ⟨B, hBB⟩ : ∃ A, cutB c ⟨ul, uy, ux⟩ = A := ⟨_, rfl⟩
  rw [hAA, hBB] at hwl hab
  have hwlen : (wksL c ⟨ul, uy, ux⟩).length = B - A := by rw [hwl, wkU_len]
  obtain ⟨M, hM⟩ : ∃ M, B - A = M := ⟨_, rfl⟩
  rw [hM] at hwl hwlen
  have hbA : A + M ≤ 60 ∧ 0 < M := by omega
  obtain ⟨hAM, hM0⟩ := hbA
  have hwk1 := HT1.out.2.2.1
  have hwk2 := HT2.out.2.2.1
  obtain ⟨N1, hN1⟩ : ∃ N, wksV c t = N := ⟨_, rfl⟩
  obtain ⟨N2, hN2⟩ : ∃ N, wksV c (t - 1) = N := ⟨_, rfl⟩
  rw [hN1] at hwk1
  rw [hN2] at hwk2
  have HNN := hide (And.intro (And.intro hN1 HT1.out.1) (And.intro hN2 HT2.out.1))
  have HIX := hide (fun j (h : j < M) => (show (wksL c ⟨ul, uy, ux⟩)[j]? = some ⟨5, uy, (A : Int) + 1 + (j : Int)⟩ from by rw [hwl]; exact upto_get _ _ _ h))
  have HXB := hide (fun j (h : j < M) => (show 1 ≤ (A : Int) + 1 + (j : Int) ∧ (A : Int) + 1 + (j : Int) ≤ wksV c uy by omega))
  have HPL := hide (fun n => (show plU c t n = if n < 1 then ⟨5, t - 1, n + wksV c (t - 1)⟩ else if n ≤ wksV c t then ⟨5, t, n⟩ else ⟨5, t + 1, n - wksV c t⟩ from rfl))
  have HTKS := hide (fun j (h : j < M) => (show (wksL c ⟨ul, uy, ux⟩).take (j + 1) = (wksL c ⟨ul, uy, ux⟩).take j ++ [⟨5, uy, (A : Int) + 1 + (j : Int)⟩] from by
    rw [List.take_add_one, hwl, show (wkU ⟨5, uy, (A : Int) + 1⟩ M)[j]? = some ⟨5, uy, (A : Int) + 1 + (j : Int)⟩ from upto_get _ _ _ h]; rfl))
  obtain ⟨L, hL⟩ : ∃ L, twL0 c ⟨ul, uy, ux⟩ k = L := ⟨_, rfl⟩
  rw [hL] at hl60 H12' H11' H0'
  have HLL := hide (show cmpL c uy t (wksL c ⟨ul, uy, ux⟩) = L by rw [← hl0]; exact hL)
  have H12 := hide H12'
  have H11 := hide H11'
  have H0 := hide H0'
  have HTT := hide ht
  have HWLEN := hide hwlen
  obtain ⟨hr1, hr2⟩ := hr
  have htb : 1602 ≤ t ∧ t ≤ 9996 := by have := ok_years hkB; omega
  obtain ⟨htb1, htb2⟩ := htb
  obtain ⟨i0, hi, hi0, hi1, hi2⟩ := info_parts unit_info
  clear hU hk6 hl0 hL H12' H11' H0' hok hkB hA hsy hst hab hnw hwl hnb ht hAA hBB hM hN1 hN2 hwlen HT1 HT2
  simp only [calV, unitV]
  go_enter Tryz.func29, Tryz.ntmps29
  go_wp2_with fail
  refine (r16check_any c ⟨ul, uy, ux⟩ _ hn).mono ?_
  rintro e w1 ⟨rfl, hb1⟩
  rw [HU.out]
  have hz1 : w.heap.size + 1 < w1.heap.size := by have := hb1.size; simp at this; omega
  have hy1 : w.heap.size < w1.heap.size := by omega
  have HB1 := hide (show Below w.heap.size w w1 by refine Below.trans ?_ (hb1.mono (by simp; omega)); (repeat' exact bel))
  have HQ1 := hide (calAt_below hb1 (by simp; omega) (calAt_alloc (calAt_new w c) (by simp) _))
  have HU1 := hide (unAt_below hb1 (by simp) (unAt_new w c ⟨ul, uy, ux⟩))
  obtain ⟨q0, q1, q2, q3, q4, q5, q6, q7, q8, q9, q10, q11, q12, q13⟩ := HQ1.out
  obtain ⟨u0, u1, u2⟩ := HU1.out
  simp only at u0 u1 u2
  clear hb1
  go_wp2_with fail
  all_goals first
    | (exfalso; omega)
    | skip
  refine (r20served_any c (uy + k) _ true (by have := HTT.out; simp; omega)).mono ?_
  rintro e w2 ⟨rfl, hb2⟩
  have hz2 : w.heap.size + 1 < w2.heap.size := Nat.lt_of_lt_of_le hz1 hb2.size
  have hy2 : w.heap.size < w2.heap.size := by omega
  have HB2 := hide (HB1.out.trans (hb2.mono (by omega)))
  have HQ2 := hide (calAt_below hb2 (by omega) HQ1.out)
  have HU2 := hide (unAt_below hb2 (by omega) HU1.out)
  clear q0 q1 q2 q3 q4 q5 q6 q7 q8 q9 q10 q11 q12 q13
  clear u0 u1 u2
  obtain ⟨q0, q1, q2, q3, q4, q5, q6, q7, q8, q9, q10, q11, q12, q13⟩ := HQ2.out
  obtain ⟨u0, u1, u2⟩ := HU2.out
  simp only at u0 u1 u2
  clear hb2
  go_wp2_with fail
  rw [HTT.out]
  refine (r13weeks_any c t _ hn).mono ?_
  rintro e w3 ⟨rfl, hb3⟩
  rw [HNN.out.1.1, HNN.out.1.2]
  have hz3 : w.heap.size + 1 < w3.heap.size := Nat.lt_of_lt_of_le hz2 hb3.size
  have hy3 : w.heap.size < w3.heap.size := by omega
  have HB3 := hide (HB2.out.trans (hb3.mono (by omega)))
  have HQ3 := hide (calAt_below hb3 (by omega) HQ2.out)
  have HU3 := hide (unAt_below hb3 (by omega) HU2.out)
  clear q0 q1 q2 q3 q4 q5 q6 q7 q8 q9 q10 q11 q12 q13
  clear u0 u1 u2
  obtain ⟨q0, q1, q2, q3, q4, q5, q6, q7, q8, q9, q10, q11, q12, q13⟩ := HQ3.out
  obtain ⟨u0, u1, u2⟩ := HU3.out
  simp only at u0 u1 u2
  clear hb3
  go_wp2_with fail
  refine (r13weeks_any c (t - 1) _ hn).mono ?_
  rintro e w4 ⟨rfl, hb4⟩
  rw [HNN.out.2.1, HNN.out.2.2]
  have hz4 : w.heap.size + 1 < w4.heap.size := Nat.lt_of_lt_of_le hz3 hb4.size
  have hy4 : w.heap.size < w4.heap.size := by omega
  have HB4 := hide (HB3.out.trans (hb4.mono (by omega)))
  have HQ4 := hide (calAt_below hb4 (by omega) HQ3.out)
  have HU4 := hide (unAt_below hb4 (by omega) HU3.out)
  clear q0 q1 q2 q3 q4 q5 q6 q7 q8 q9 q10 q11 q12 q13
  clear u0 u1 u2
  obtain ⟨q0, q1, q2, q3, q4, q5, q6, q7, q8, q9, q10, q11, q12, q13⟩ := HQ4.out
  obtain ⟨u0, u1, u2⟩ := HU4.out
  simp only at u0 u1 u2
  clear hb4
  go_wp2_with fail
  refine (HIN.out _).mono ?_
  rintro e w5 ⟨g, cap, rfl, hun, hcp, hpos, hg, hb5⟩
  rw [HWLEN.out]
  have HUN := hide (hun.rdu hpos)
  have hg5 := HUN.out.1
  clear hun hcp hpos
  have hz5 : w.heap.size + 1 < w5.heap.size := Nat.lt_of_lt_of_le hz4 hb5.size
  have hy5 : w.heap.size < w5.heap.size := by omega
  have HB5 := hide (HB4.out.trans (hb5.mono (by omega)))
  have HQ5 := hide (calAt_below hb5 (by omega) HQ4.out)
  have HU5 := hide (unAt_below hb5 (by omega) HU4.out)
  clear q0 q1 q2 q3 q4 q5 q6 q7 q8 q9 q10 q11 q12 q13
  clear u0 u1 u2
  obtain ⟨q0, q1, q2, q3, q4, q5, q6, q7, q8, q9, q10, q11, q12, q13⟩ := HQ5.out
  obtain ⟨u0, u1, u2⟩ := HU5.out
  simp only at u0 u1 u2
  clear hb5
  obtain ⟨Bo, hBo⟩ : ∃ B, B = w5.heap.size := ⟨_, rfl⟩
  have hBx : w.heap.size < Bo := by omega
  have hBy : w.heap.size + 1 < Bo := by omega
  have hBg : g < Bo := by omega
  have HS0 := hide (show UlSt c w.heap.size Bo [] (.slice none 0 0) w w5 from ⟨HQ5.out, hBx, by omega, World.ownsRow_nil _ _ _ _, HB5.out⟩)
  clear q0 q1 q2 q3 q4 q5 q6 q7 q8 q9 q10 q11 q12 q13
  clear u0 u1 u2 hBo
  go_wp2_with fail
  go_loopw [10, 71] (fun s10 s71 wr => ∃ j : Nat, s71 = .int .i64 j ∧ j ≤ M ∧ Below Bo w5 wr ∧ UlSt c w.heap.size Bo (cmpL c uy t ((wksL c ⟨ul, uy, ux⟩).take j)) s10 w wr ∧ (s10 = .slice none 0 0 ↔ (cmpL c uy t ((wksL c ⟨ul, uy, ux⟩).take j)) = [])) (fun _ s _ => (500 - intOf s).toNat)
  case atStart => exact ⟨0, rfl, Nat.zero_le _, Below.refl _ _, by simpa [cmpL] using HS0.out, by simp [cmpL]⟩
  case round =>
    obtain ⟨j, rfl, hj, hB, hS, hiff⟩ := hrel
    have HS := hide hS
    have HBr := hide hB
    have HIFF := hide hiff
    have hBs := hS.2.2.1
    clear hS hB hiff
    have hwr : w.heap.size < wr.heap.size := by omega
    have hwr2 : w.heap.size + 1 < wr.heap.size := by omega
    have hgr : g < wr.heap.size := by omega
    obtain ⟨q0, q1, q2, q3, q4, q5, q6, q7, q8, q9, q10, q11, q12, q13⟩ := HS.out.1
    by_cases hlt : j < M
    · obtain ⟨a0, a1, a2⟩ := (HUN.out.below HBr.out hBg).2 j _ (HIX.out j hlt)
      simp only [Nat.zero_add] at a0 a1 a2
      obtain ⟨u0, u1, u2⟩ := unAt_below HBr.out hBy HU5.out
      simp only at u0 u1 u2
      have hi3 : (0 : Int) ≤ (j : Int) := by omega
      have hi4 : (j : Int) < (M : Int) := by omega
      have hxb := HXB.out j hlt
      have hcb := HCW.out _ hxb
      have hc2 := HC2.out _ hxb
      have HTK := hide (HTKS.out j hlt)
      have hlen : (cmpL c uy t ((wksL c ⟨ul, uy, ux⟩).take j)).length ≤ 60 := by
        have h1 := cmpL_le c uy t ((wksL c ⟨ul, uy, ux⟩).take j)
        have h2 : ((wksL c ⟨ul, uy, ux⟩).take j).length ≤ j := List.length_take_le _ _
        omega
      obtain ⟨x, hx⟩ : ∃ x : Int, (A : Int) + 1 + (j : Int) = x := ⟨_, rfl⟩
      rw [hx] at a2 hcb hc2 HTK hxb
      obtain ⟨V, hV⟩ : ∃ V, cwV c uy t x = V := ⟨_, rfl⟩
      obtain ⟨U, hU⟩ : ∃ U, cmpL c uy t ((wksL c ⟨ul, uy, ux⟩).take j) = U := ⟨_, rfl⟩
      rw [hV] at hcb
      rw [hU] at HS hlen HIFF
      obtain ⟨nU, hnU⟩ : ∃ n, U.length = n := ⟨_, rfl⟩
      rw [hnU] at hlen
      have HUU := hide hU
      have HUL := hide hnU
      have HV := hide hV
      obtain ⟨hV0, hV60⟩ := hcb
      clear hx hV hU hnU hxb
      rcases hc2 with hc2 | hc2
      · have HCE := hide (show cwE c uy t (⟨5, uy, x⟩ : Un).ix = 0 from hc2)
        have HE := hide hc2
        clear hc2
        go_wp2_with fail
        refine (r19week_any c uy t x _ hn).mono ?_
        rintro e w6 ⟨rfl, hb6⟩
        rw [HE.out, HV.out]
        have hs3 : wr.heap.size + 1 ≤ w6.heap.size := by have := hb6.size; simp at this; omega
        have HS3 := hide (HS.out.call (Below.trans ((Below.refl _ _).alloc (Nat.le_refl _) _) (hb6.mono (by simp))))
        have HB3r := hide (HBr.out.trans (Below.trans ((Below.refl _ _).alloc (by omega) _) (hb6.mono (by simp; omega))) : Below Bo w5 w6)
        clear hb6 a0 a1 a2 u0 u1 u2
        clear q0 q1 q2 q3 q4 q5 q6 q7 q8 q9 q10 q11 q12 q13
        have hw3 : w.heap.size + 1 < w6.heap.size := by omega
        rcases (show V = 0 ∨ (1 ≤ V ∧ V ≤ N1) ∨ (1 ≤ V ∧ N1 < V) by omega) with hv | ⟨hv1, hv2⟩ | ⟨hv1, hv2⟩
        · subst hv
          go_wp2_with ((at_builtin; refine wpList_append_own _ rfl _ _ 30 rfl Bo 38 i0 (.agg #[.int .i64 0, .int .i64 0, .int .i64 0]) 3 24 Tryz.underlying30 hi hi0 hi1 hi2 rfl (by decide) _ _ _ rfl (rowns_call HS3.out.2.2.2.1 (by have hz := hs3; (repeat' exact bel))) ⟨w6.heap.size + 1, 0, none⟩ 1 1 [.int .i64 5, .int .i64 ((t - 1)), .int .i64 (N2)] rfl rfl ?c1a ?c2a ?c3a ?c4a ?c5a ?_))
          case c1a =>
            intro i u hu
            match i, hu with
            | 0, hu => simp at hu; subst hu; simp [Addr.add]
            | 1, hu => simp at hu; subst hu; simp [Addr.add]
            | 2, hu => simp at hu; subst hu; simp [Addr.add]
            | i + 3, hu => simp at hu
          case c2a => intro u hu; simp at hu; rcases hu with rfl | rfl | rfl <;> rfl
          case c3a => have := HUL.out; unfold maxLen; omega
          case c4a => have := HUL.out; omega
          case c5a => have := HS3.out.2.2.1; simp; omega
          · intro v' w' hown' hgrow _
            have HG := hide (UlSt.grow (x := ⟨5, (t - 1), N2⟩) (HS3.out.call (by have hz := hs3; (repeat' exact bel))) _ (by exact hown') hgrow)
            have HBq := hide (HB3r.out.trans (Below.trans (by have hz := hs3; (repeat' exact bel)) HG.out.2))
            have HIF := hide (show (v' = .slice none 0 0 ↔ (cmpL c uy t ((wksL c ⟨ul, uy, ux⟩).take (j + 1))) = []) from by
              obtain ⟨g3, cap3, rfl, _⟩ := owns_slice hown' (by omega)
              rw [HTK.out, cmpL_yes _ HCE.out]; simp)
            clear hown' hgrow
            go_wp2
            go_roundw
            case rel => exact ⟨j + 1, by go_num, by omega, HBq.out, by rw [HTK.out, cmpL_yes _ HCE.out, HUU.out, show plU c t (cwV c uy t (⟨5, uy, x⟩ : Un).ix) = ⟨5, t - 1, N2⟩ from by rw [show (⟨5, uy, x⟩ : Un).ix = x from rfl, HV.out, HPL.out, if_pos (by omega), HNN.out.2.1]; simp]; exact HG.out.1, HIF.out⟩
            case measure => simp [intOf]; omega
        · skip
          go_wp2_with ((at_builtin; refine wpList_append_own _ rfl _ _ 30 rfl Bo 38 i0 (.agg #[.int .i64 0, .int .i64 0, .int .i64 0]) 3 24 Tryz.underlying30 hi hi0 hi1 hi2 rfl (by decide) _ _ _ rfl (rowns_call HS3.out.2.2.2.1 (by have hz := hs3; (repeat' exact bel))) ⟨w6.heap.size + 1, 0, none⟩ 1 1 [.int .i64 5, .int .i64 (t), .int .i64 (V)] rfl rfl ?c1b ?c2b ?c3b ?c4b ?c5b ?_))
          case c1b =>
            intro i u hu
            match i, hu with
            | 0, hu => simp at hu; subst hu; simp [Addr.add]
            | 1, hu => simp at hu; subst hu; simp [Addr.add]
            | 2, hu => simp at hu; subst hu; simp [Addr.add]
            | i + 3, hu => simp at hu
          case c2b => intro u hu; simp at hu; rcases hu with rfl | rfl | rfl <;> rfl
          case c3b => have := HUL.out; unfold maxLen; omega
          case c4b => have := HUL.out; omega
          case c5b => have := HS3.out.2.2.1; simp; omega
          · intro v' w' hown' hgrow _
            have HG := hide (UlSt.grow (x := ⟨5, t, V⟩) (HS3.out.call (by have hz := hs3; (repeat' exact bel))) _ (by exact hown') hgrow)
            have HBq := hide (HB3r.out.trans (Below.trans (by have hz := hs3; (repeat' exact bel)) HG.out.2))
            have HIF := hide (show (v' = .slice none 0 0 ↔ (cmpL c uy t ((wksL c ⟨ul, uy, ux⟩).take (j + 1))) = []) from by
              obtain ⟨g3, cap3, rfl, _⟩ := owns_slice hown' (by omega)
              rw [HTK.out, cmpL_yes _ HCE.out]; simp)
            clear hown' hgrow
            go_wp2
            go_roundw
            case rel => exact ⟨j + 1, by go_num, by omega, HBq.out, by rw [HTK.out, cmpL_yes _ HCE.out, HUU.out, show plU c t (cwV c uy t (⟨5, uy, x⟩ : Un).ix) = ⟨5, t, V⟩ from by rw [show (⟨5, uy, x⟩ : Un).ix = x from rfl, HV.out, HPL.out, if_neg (by omega), HNN.out.1.1, if_pos hv2]]; exact HG.out.1, HIF.out⟩
            case measure => simp [intOf]; omega
        · skip
          go_wp2_with ((at_builtin; refine wpList_append_own _ rfl _ _ 30 rfl Bo 38 i0 (.agg #[.int .i64 0, .int .i64 0, .int .i64 0]) 3 24 Tryz.underlying30 hi hi0 hi1 hi2 rfl (by decide) _ _ _ rfl (rowns_call HS3.out.2.2.2.1 (by have hz := hs3; (repeat' exact bel))) ⟨w6.heap.size + 1, 0, none⟩ 1 1 [.int .i64 5, .int .i64 ((t + 1)), .int .i64 (V - N1)] rfl rfl ?c1d ?c2d ?c3d ?c4d ?c5d ?_))
          case c1d =>
            intro i u hu
            match i, hu with
            | 0, hu => simp at hu; subst hu; simp [Addr.add]
            | 1, hu => simp at hu; subst hu; simp [Addr.add]
            | 2, hu => simp at hu; subst hu; simp [Addr.add]
            | i + 3, hu => simp at hu
          case c2d => intro u hu; simp at hu; rcases hu with rfl | rfl | rfl <;> rfl
          case c3d => have := HUL.out; unfold maxLen; omega
          case c4d => have := HUL.out; omega
          case c5d => have := HS3.out.2.2.1; simp; omega
          · intro v' w' hown' hgrow _
            have HG := hide (UlSt.grow (x := ⟨5, (t + 1), V - N1⟩) (HS3.out.call (by have hz := hs3; (repeat' exact bel))) _ (by exact hown') hgrow)
            have HBq := hide (HB3r.out.trans (Below.trans (by have hz := hs3; (repeat' exact bel)) HG.out.2))
            have HIF := hide (show (v' = .slice none 0 0 ↔ (cmpL c uy t ((wksL c ⟨ul, uy, ux⟩).take (j + 1))) = []) from by
              obtain ⟨g3, cap3, rfl, _⟩ := owns_slice hown' (by omega)
              rw [HTK.out, cmpL_yes _ HCE.out]; simp)
            clear hown' hgrow
            go_wp2
            go_roundw
            case rel => exact ⟨j + 1, by go_num, by omega, HBq.out, by rw [HTK.out, cmpL_yes _ HCE.out, HUU.out, show plU c t (cwV c uy t (⟨5, uy, x⟩ : Un).ix) = ⟨5, t + 1, V - N1⟩ from by rw [show (⟨5, uy, x⟩ : Un).ix = x from rfl, HV.out, HPL.out, if_neg (by omega), HNN.out.1.1, if_neg (by omega)]]; exact HG.out.1, HIF.out⟩
            case measure => simp [intOf]; omega
      · have HCE := hide (show ¬ cwE c uy t (⟨5, uy, x⟩ : Un).ix = 0 from by show ¬ cwE c uy t x = 0; omega)
        have HE := hide hc2
        clear hc2
        go_wp2_with fail
        refine (r19week_any c uy t x _ hn).mono ?_
        rintro e w6 ⟨rfl, hb6⟩
        rw [HE.out, HV.out]
        have HS3 := hide (HS.out.call (Below.trans ((Below.refl _ _).alloc (Nat.le_refl _) _) (hb6.mono (by simp))))
        have HB3r := hide (HBr.out.trans (Below.trans ((Below.refl _ _).alloc (by omega) _) (hb6.mono (by simp; omega))) : Below Bo w5 w6)
        clear hb6 a0 a1 a2 u0 u1 u2
        clear q0 q1 q2 q3 q4 q5 q6 q7 q8 q9 q10 q11 q12 q13
        go_wp2
        all_goals first
          | (exfalso; omega)
          | skip
        go_roundw
        case rel => exact ⟨j + 1, by go_num, by omega, HB3r.out, by rw [HTK.out, cmpL_no _ HCE.out, HUU.out]; exact HS3.out, by rw [HTK.out, cmpL_no _ HCE.out, HUU.out]; exact HIFF.out⟩
        case measure => simp [intOf]; omega
    · obtain rfl : j = M := by omega
      have htk : (wksL c ⟨ul, uy, ux⟩).take j = wksL c ⟨ul, uy, ux⟩ := by rw [← HWLEN.out, List.take_length]
      have hSS := HS.out
      have hII := HIFF.out
      rw [htk, HLL.out] at hSS hII
      have HSF := hide hSS
      have HBW := hide hSS.2.2.2.2
      have HQW := hide hSS.1
      have hwo : w.heap.size < wr.heap.size := by omega
      obtain ⟨wo, rfl⟩ : ∃ wo : World, wo = wr := ⟨_, rfl⟩
      by_cases hLn : L = []
      · subst hLn
        obtain rfl := hII.2 rfl
        clear hl60 hSS hII htk
        have HEQ := hide (H12.out rfl)
        go_wp2_with fail
        go_loopw [112] (fun s wr => s = .int .i64 0 ∧ Below w.heap.size w wr) (fun s _ => (500 - intOf s).toNat)
        case atStart => exact ⟨rfl, HBW.out⟩
        case round =>
          obtain ⟨rfl, hBel⟩ := hrel
          go_wp2
          all_goals first
            | (exfalso; omega)
            | (go_ret2; exact ⟨none, 0, 0, by rw [HEQ.out.1]; rfl, by rw [HEQ.out.2]; exact .inl ⟨rfl, rfl, rfl, rfl⟩, by (repeat' exact bel)⟩)
      · have hlp : 0 < L.length := List.length_pos_iff.2 hLn
        obtain ⟨g1, cap1, rfl, hg1, hun⟩ := HSF.out.uns hlp
        have HRD := hide (hun.rdu hlp)
        have hg3 := HRD.out.1
        clear hun hSS hII htk hLn
        by_cases hin : inB c L = true
        · have HEQ := hide (H0.out hin hlp)
          have HIN := hide hin
          clear hin
          go_wp2_with fail
          go_loopw [112] (fun s wr => ∃ j : Nat, s = .int .i64 j ∧ j ≤ L.length ∧ Below wo.heap.size wo wr) (fun s _ => (500 - intOf s).toNat)
          case atStart => exact ⟨0, rfl, Nat.zero_le _, Below.refl _ _⟩
          case round =>
            obtain ⟨j, rfl, hj, hB⟩ := hrel
            have HBr := hide hB
            have hsz := hB.size
            by_cases hlt : j < L.length
            · obtain ⟨x, hx⟩ : ∃ x, L[j]? = some x := ⟨_, List.getElem?_eq_getElem hlt⟩
              have hxy := inB_get HIN.out hx
              obtain ⟨a0, a1, a2⟩ := (HRD.out.call hB).2 j x hx
              simp only [Nat.zero_add] at a0 a1 a2
              obtain ⟨q0, q1, q2, q3, q4, q5, q6, q7, q8, q9, q10, q11, q12, q13⟩ := calAt_below hB (by omega) HQW.out
              have hgr := (HRD.out.call hB).1
              have hwr : w.heap.size < wr.heap.size := by omega
              clear hx hB
              have hi3 : (0 : Int) ≤ (j : Int) := by omega
              have hi4 : (j : Int) < (L.length : Int) := by omega
              go_wp2_with fail
              all_goals first
                | (exfalso; omega)
                | skip
              refine (r20served_any c x.yr _ true (by simp; omega)).mono ?_
              rintro e wz ⟨rfl, hbz⟩
              have HBz := hide (show Below wo.heap.size wo wz by have hp := HBr.out; refine Below.trans ?_ (hbz.mono (by simp; omega)); (repeat' exact bel))
              clear q0 q1 q2 q3 q4 q5 q6 q7 q8 q9 q10 q11 q12 q13
              clear a0 a1 a2 hbz
              go_wp2
              all_goals first
                | (exfalso; omega)
                | skip
              go_roundw
              case rel => exact ⟨j + 1, by go_num, by omega, HBz.out⟩
              case measure => simp [intOf]; omega
            · obtain rfl : j = L.length := by omega
              have hlb : ((L.length : Int) == 0) = false := by rw [beq_eq_false_iff_ne]; omega
              have HRF := hide (HRD.out.call hB)
              have hBel := HBW.out.trans (hB.mono (by omega))
              have hLp : (0 : Int) < (L.length : Int) := by omega
              clear hB
              go_wp2
              all_goals first
                | (exfalso; omega)
                | (go_ret2; exact ⟨_, _, _, by rw [HEQ.out.1]; rfl, by rw [HEQ.out.2]; exact .inr ⟨hlp, rfl, _, _, rfl, HRF.out⟩, by (repeat' exact bel)⟩)
        · have HEQ := hide (H11.out hin)
          obtain ⟨J, hJ1, xJ, hxJ, hbad⟩ : ∃ J : Nat, J < L.length ∧ ∃ x, L[J]? = some x ∧ ¬ (c.first ≤ x.yr ∧ x.yr ≤ c.last) := by
            apply Classical.byContradiction
            intro hno
            exact hin (inB_all (fun j x hx => Classical.byContradiction fun h => hno ⟨j, (List.getElem?_eq_some_iff.1 hx).1, x, hx, h⟩))
          have HXJ := hide (And.intro hxJ hbad)
          clear hin hxJ hbad
          go_wp2_with fail
          go_loopw [112] (fun s wr => ∃ j : Nat, s = .int .i64 j ∧ j ≤ J ∧ Below wo.heap.size wo wr) (fun s _ => (500 - intOf s).toNat)
          case atStart => exact ⟨0, rfl, Nat.zero_le _, Below.refl _ _⟩
          case round =>
            obtain ⟨j, rfl, hj, hB⟩ := hrel
            have HBr := hide hB
            have hsz := hB.size
            have hlt : j < L.length := by omega
            obtain ⟨x, hx⟩ : ∃ x, L[j]? = some x := ⟨_, List.getElem?_eq_getElem hlt⟩
            obtain ⟨a0, a1, a2⟩ := (HRD.out.call hB).2 j x hx
            simp only [Nat.zero_add] at a0 a1 a2
            obtain ⟨q0, q1, q2, q3, q4, q5, q6, q7, q8, q9, q10, q11, q12, q13⟩ := calAt_below hB (by omega) HQW.out
            have hgr := (HRD.out.call hB).1
            have hwr : w.heap.size < wr.heap.size := by omega
            have HX := hide hx
            clear hx hB
            have hi3 : (0 : Int) ≤ (j : Int) := by omega
            have hi4 : (j : Int) < (L.length : Int) := by omega
            by_cases hxy : c.first ≤ x.yr ∧ x.yr ≤ c.last
            · have hjJ : j < J := by
                rcases Nat.lt_or_ge j J with h | h
                · exact h
                · exfalso
                  have hjj : j = J := by omega
                  have h1 := HX.out
                  rw [hjj, HXJ.out.1] at h1
                  cases h1
                  exact HXJ.out.2 hxy
              obtain ⟨hxy1, hxy2⟩ := hxy
              go_wp2_with fail
              all_goals first
                | (exfalso; omega)
                | skip
              refine (r20served_any c x.yr _ true (by simp; omega)).mono ?_
              rintro e wz ⟨rfl, hbz⟩
              have HBz := hide (show Below wo.heap.size wo wz by have hp := HBr.out; refine Below.trans ?_ (hbz.mono (by simp; omega)); (repeat' exact bel))
              clear q0 q1 q2 q3 q4 q5 q6 q7 q8 q9 q10 q11 q12 q13
              clear a0 a1 a2 hbz
              go_wp2
              all_goals first
                | (exfalso; omega)
                | skip
              go_roundw
              case rel => exact ⟨j + 1, by go_num, by omega, HBz.out⟩
              case measure => simp [intOf]; omega
            · have HXY := hide hxy
              clear hxy
              go_wp2_with fail
              all_goals first
                | (exfalso; omega)
                | skip
              refine (r20served_any c x.yr _ false (by simp; have := HXY.out; omega)).mono ?_
              rintro e wz ⟨rfl, hbz⟩
              have hBel : Below w.heap.size w wz := by have hp := HBW.out.trans (HBr.out.mono (by omega)); refine Below.trans ?_ (hbz.mono (by simp; omega)); (repeat' exact bel)
              clear q0 q1 q2 q3 q4 q5 q6 q7 q8 q9 q10 q11 q12 q13
              clear a0 a1 a2 hbz
              go_wp2
              all_goals first
                | (exfalso; omega)
                | (go_ret2; exact ⟨none, 0, 0, by rw [HEQ.out.1]; rfl, by rw [HEQ.out.2]; exact .inl ⟨rfl, rfl, rfl, rfl⟩, by (repeat' exact bel)⟩)

theorem r20weeks_any (c : Cal) (u : Un) (k : Int) (w : World) (hn : c.name.size ≤ 1000) :
    Calls Tryz.prog 29 #[calV c, unitV u, .int .i64 k] w (RWPost (twL c u k) (twE c u k) w) := by
  by_cases hU : unitE c u = 0
  · by_cases hr : c.first ≤ u.yr + k ∧ u.yr + k ≤ c.last
    · by_cases hk6 : c.kind = 6
      · exact r20weeks_m c u k w hn hU hr hk6
      · exact r20weeks_w c u k w hn hU hr hk6
    · exact r20weeks_rng c u k w hn hU hr
  · exact r20weeks_bad c u k w hn hU
end Go.Proofs.YtojdngkleiokgaaGreat
