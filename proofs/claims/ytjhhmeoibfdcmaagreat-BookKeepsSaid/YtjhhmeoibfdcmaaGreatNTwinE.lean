/- Twin, fifth part: the contract of twin.Weeks. -/
import Derived.Test.YtjhhmeoibfdcmaaGreatMNt
import Derived.Test.YtjhhmeoibfdcmaaGreatNTwinM
import Derived.Test.YtjhhmeoibfdcmaaGreatMTq
namespace Go.Proofs.YtjhhmeoibfdcmaaGreat
open Go.RowKit Go.Shelf Qd
set_option linter.unusedSimpArgs false
set_option linter.unusedVariables false

theorem TwV.call {w w' : World} {v : Value} {L : List Un} (h : TwV w v L) (hb : Below w.heap.size w w') : TwV w' v L := by
  rcases h with h | ⟨g, cap, h1, h2, h3⟩
  · exact .inl h
  · exact .inr ⟨g, cap, h1, h2, h3.call hb⟩

set_option maxRecDepth 100000 in
set_option maxHeartbeats 1600000 in
theorem tweeks_bad (c : Cal) (u : Un) (k : Int) (w : World) (hn : c.name.size ≤ 1000) (hU : ¬ unitE c u = 0) :
    Calls Tryz.prog 126 #[calV c, unitV u, .int .i64 k] w fun e w' => e = .returned (.tuple #[.slice none 0 0, .int .i64 (unitE c u)]) ∧ Below w.heap.size w w' := by
  have hU' : (unitE c u != 0) = true := by simpa using hU
  clear hU
  simp only [calV, unitV]
  go_enter Tryz.func126, Tryz.ntmps126
  go_wp2_with fail
  refine (ucheck_any c u _ hn).mono ?_
  rintro e w1 ⟨rfl, hb1⟩
  have hz1 : w.heap.size + 1 < w1.heap.size := by have := hb1.size; simp at this; omega
  have HB1 : Hid (Below w.heap.size w w1) := ww hb1
  have HQ1 := hide (calAt_below hb1 (by simp; omega) (calAt_alloc (calAt_new w c) (by simp) _))
  have HU1 := hide (unAt_below hb1 (by simp) (unAt_new w c u))
  obtain ⟨q0, q1, q2, q3, q4, q5, q6, q7, q8, q9, q10, q11, q12, q13⟩ := HQ1.out
  obtain ⟨u0, u1, u2⟩ := HU1.out
  have hy1 : w.heap.size < w1.heap.size := by omega
  clear hb1
  have hBel := HB1.out
  go_wp2
  go_ret2
  exact ⟨rfl, by (repeat' exact bel)⟩

set_option maxRecDepth 100000 in
set_option maxHeartbeats 1600000 in
theorem tweeks_rng (c : Cal) (u : Un) (k : Int) (w : World) (hn : c.name.size ≤ 1000) (hU : unitE c u = 0) (hk : k < c.first - u.yr ∨ (c.first - u.yr ≤ k ∧ c.last - u.yr < k)) :
    Calls Tryz.prog 126 #[calV c, unitV u, .int .i64 k] w fun e w' => e = .returned (.tuple #[.slice none 0 0, .int .i64 11]) ∧ Below w.heap.size w w' := by
  have hf := (un_lv hU).1
  obtain ⟨hok, hk2, _, _, hy1, hy2, _⟩ := frame_ok hf
  have hyb := ok_years hk2
  have HU := hide hU
  clear hU hf hok hk2
  simp only [calV, unitV]
  go_enter Tryz.func126, Tryz.ntmps126
  go_wp2_with fail
  refine (ucheck_any c u _ hn).mono ?_
  rintro e w1 ⟨rfl, hb1⟩
  rw [HU.out]
  have hz1 : w.heap.size + 1 < w1.heap.size := by have := hb1.size; simp at this; omega
  have HB1 : Hid (Below w.heap.size w w1) := ww hb1
  have HQ1 := hide (calAt_below hb1 (by simp; omega) (calAt_alloc (calAt_new w c) (by simp) _))
  have HU1 := hide (unAt_below hb1 (by simp) (unAt_new w c u))
  obtain ⟨q0, q1, q2, q3, q4, q5, q6, q7, q8, q9, q10, q11, q12, q13⟩ := HQ1.out
  obtain ⟨u0, u1, u2⟩ := HU1.out
  have hy1 : w.heap.size < w1.heap.size := by omega
  clear hb1
  have hBel := HB1.out
  rcases hk with hk | ⟨hk, hk3⟩
  all_goals
    go_wp2
    all_goals first
      | (exfalso; omega)
      | (go_ret2; exact ⟨rfl, by (repeat' exact bel)⟩)
/-- What is kept in the loop over the weeks: the calendar, and they. -/
def TwSt (c : Cal) (L : List Un) (g cap B : Nat) (w0 w : World) : Prop := CalAt w B c ∧ B < w.heap.size ∧ UnsAt w g cap L ∧ g < w.heap.size ∧ Below B w0 w
theorem TwSt.call {c : Cal} {L : List Un} {g cap B : Nat} {w0 w w' : World} (h : TwSt c L g cap B w0 w) (hb : Below w.heap.size w w') : TwSt c L g cap B w0 w' := ⟨calAt_below hb h.2.1 h.1, Nat.lt_of_lt_of_le h.2.1 hb.size, h.2.2.1.call hb, Nat.lt_of_lt_of_le h.2.2.2.1 hb.size, h.2.2.2.2.trans (hb.mono (Nat.le_of_lt h.2.1))⟩
theorem TwSt.alloc {c : Cal} {L : List Un} {g cap B : Nat} {w0 w : World} (h : TwSt c L g cap B w0 w) (o : Obj) : TwSt c L g cap B w0 (w.alloc o) := h.call ((Below.refl _ _).alloc (Nat.le_refl _) _)
theorem inB_get {c : Cal} {L : List Un} (h : inB c L = true) {j : Nat} {x : Un} (hx : L[j]? = some x) : c.first ≤ x.yr ∧ x.yr ≤ c.last := inB_mem h (List.mem_of_getElem? hx)
theorem inB_all {c : Cal} {L : List Un} (h : ∀ (j : Nat) (x : Un), L[j]? = some x → c.first ≤ x.yr ∧ x.yr ≤ c.last) : inB c L = true := by
  refine List.all_eq_true.2 fun x hx => ?_
  obtain ⟨j, hj⟩ := List.mem_iff_getElem?.1 hx
  have := h j x hj
  simpa using this
theorem tw_12 {c : Cal} {u : Un} {k : Int} (hU : unitE c u = 0) (hr : c.first ≤ u.yr + k ∧ u.yr + k ≤ c.last) (h : twL0 c u k = []) : twE c u k = 12 ∧ twL c u k = [] := by
  have e : twE c u k = 12 := by rw [twE, if_pos hU, if_pos hr, h]; rfl
  exact ⟨e, tw_no (by rw [e]; decide)⟩
theorem tw_11 {c : Cal} {u : Un} {k : Int} (hU : unitE c u = 0) (hr : c.first ≤ u.yr + k ∧ u.yr + k ≤ c.last) (h : ¬ inB c (twL0 c u k) = true) : twE c u k = 11 ∧ twL c u k = [] := by
  have e : twE c u k = 11 := by rw [twE, if_pos hU, if_pos hr, if_neg h]
  exact ⟨e, tw_no (by rw [e]; decide)⟩
theorem tw_0 {c : Cal} {u : Un} {k : Int} (hU : unitE c u = 0) (hr : c.first ≤ u.yr + k ∧ u.yr + k ≤ c.last) (h : inB c (twL0 c u k) = true) (h0 : 0 < (twL0 c u k).length) : twE c u k = 0 ∧ twL c u k = twL0 c u k := by
  have e : twE c u k = 0 := by rw [twE, if_pos hU, if_pos hr, if_pos h, if_neg (by omega)]
  exact ⟨e, by rw [twL, if_pos e]⟩

set_option maxRecDepth 100000 in
set_option maxHeartbeats 3200000 in
theorem tweeks_w (c : Cal) (u : Un) (k : Int) (w : World) (hn : c.name.size ≤ 1000) (hU : unitE c u = 0) (hr : c.first ≤ u.yr + k ∧ u.yr + k ≤ c.last) (hk6 : c.kind ≠ 6) :
    Calls Tryz.prog 126 #[calV c, unitV u, .int .i64 k] w fun e w' => (∃ v, e = .returned (.tuple #[v, .int .i64 (twE c u k)]) ∧ TwV w' v (twL c u k)) ∧ Below w.heap.size w w' := by
  have hf := (un_lv hU).1
  have hA := (un_lv hU).2.2.2.1
  obtain ⟨hok, hk2, _, _, hy1, hy2, _⟩ := frame_ok hf
  have hyb := ok_years hk2
  have hl0 : twL0 c u k = cmpL c u.yr (u.yr + k) (wksL c u) := by simp [twL0, hk6]
  have hl60 := tw0_len hU hr
  have HOW := hide (fun (w : World) => compared_any c u (u.yr + k) w hn hU hk6 hr)
  have HU := hide hU
  have hkb : (c.kind == 6) = false := by simpa using hk6
  have H12 := hide (fun (h : twL0 c u k = []) => tw_12 hU hr h)
  have H11 := hide (fun (h : ¬ inB c (twL0 c u k) = true) => tw_11 hU hr h)
  have H0 := hide (fun (h : inB c (twL0 c u k) = true) (h0 : 0 < (twL0 c u k).length) => tw_0 hU hr h h0)
  obtain ⟨L, hL⟩ : ∃ L, twL0 c u k = L := ⟨_, rfl⟩
  rw [← hl0] at HOW
  rw [hL] at HOW hl60 H12 H11 H0
  have hyb2 : 1602 ≤ c.first ∧ c.last ≤ 9996 := ⟨hyb.2.2.1, hyb.2.2.2.1⟩
  clear hU hf hok hk2 hk6 hA hl0 hL hyb
  simp only [calV, unitV]
  go_enter Tryz.func126, Tryz.ntmps126
  go_wp2_with fail
  refine (ucheck_any c u _ hn).mono ?_
  rintro e w1 ⟨rfl, hb1⟩
  rw [HU.out]
  have hz1 : w.heap.size + 1 < w1.heap.size := by have := hb1.size; simp at this; omega
  have HB1 : Hid (Below w.heap.size w w1) := ww hb1
  have HQ1 := hide (calAt_below hb1 (by simp; omega) (calAt_alloc (calAt_new w c) (by simp) _))
  have HU1 := hide (unAt_below hb1 (by simp) (unAt_new w c u))
  obtain ⟨q0, q1, q2, q3, q4, q5, q6, q7, q8, q9, q10, q11, q12, q13⟩ := HQ1.out
  obtain ⟨u0, u1, u2⟩ := HU1.out
  have hy1 : w.heap.size < w1.heap.size := by omega
  clear hb1
  go_wp2_with fail
  all_goals first
    | (exfalso; omega)
    | skip
  refine (HOW.out _).mono ?_
  rintro e w2 ⟨v, rfl, hv, hb2⟩
  have hs2 := hb2.size
  have HQ2 := hide (calAt_below hb2 (by omega) HQ1.out)
  have HB2 := hide (HB1.out.trans (hb2.mono (by omega)))
  clear hb2 u0 u1 u2
  clear q0 q1 q2 q3 q4 q5 q6 q7 q8 q9 q10 q11 q12 q13
  rcases hv with ⟨hLn, rfl⟩ | ⟨g, cap, rfl, hlp, hun⟩
  · have HEQ := hide (H12.out hLn)
    obtain ⟨q0, q1, q2, q3, q4, q5, q6, q7, q8, q9, q10, q11, q12, q13⟩ := HQ2.out
    go_wp2_with fail
    go_loopw [55] (fun s wr => s = .int .i64 0 ∧ Below w.heap.size w wr) (fun s _ => (500 - intOf s).toNat)
    case atStart => exact ⟨rfl, HB2.out⟩
    case round =>
      obtain ⟨rfl, hBel⟩ := hrel
      go_wp2
      go_ret2
      rw [HEQ.out.1, HEQ.out.2]
      exact ⟨⟨_, rfl, .inl ⟨rfl, rfl⟩⟩, by (repeat' exact bel)⟩
  · have hgl := hun.lt hlp
    have HS2 := hide (show TwSt c L g cap w.heap.size w w2 from ⟨HQ2.out, by omega, hun, hgl.1, HB2.out⟩)
    clear hun
    by_cases hin : inB c L = true
    · have HEQ := hide (H0.out hin hlp)
      have HIN := hide hin
      clear hin
      obtain ⟨q0, q1, q2, q3, q4, q5, q6, q7, q8, q9, q10, q11, q12, q13⟩ := HQ2.out
      go_wp2_with fail
      go_loopw [55] (fun s wr => ∃ j : Nat, s = .int .i64 j ∧ j ≤ L.length ∧ TwSt c L g cap w.heap.size w wr) (fun s _ => (500 - intOf s).toNat)
      case atStart => exact ⟨0, rfl, Nat.zero_le _, HS2.out⟩
      case round =>
        obtain ⟨j, rfl, hj, hS⟩ := hrel
        have HS := hide hS
        clear hS
        clear q0 q1 q2 q3 q4 q5 q6 q7 q8 q9 q10 q11 q12 q13
        obtain ⟨q0, q1, q2, q3, q4, q5, q6, q7, q8, q9, q10, q11, q12, q13⟩ := HS.out.1
        have hB2 := HS.out.2.1
        have hG2 := HS.out.2.2.2.1
        have hBel := HS.out.2.2.2.2
        by_cases hlt : j < L.length
        · obtain ⟨x, hx⟩ : ∃ x, L[j]? = some x := ⟨_, List.getElem?_eq_getElem hlt⟩
          have hxy := inB_get HIN.out hx
          obtain ⟨a0, a1, a2⟩ := UnsAt.cell HS.out.2.2.1 hx
          clear hx
          have hi1 : (0 : Int) ≤ (j : Int) := by omega
          have hi3 : (j : Int) < (L.length : Int) := by omega
          go_wp2
          all_goals first
            | (exfalso; omega)
            | skip
          go_roundw
          case rel => exact ⟨j + 1, by go_num, by omega, HS.out.call (by (repeat' exact bel))⟩
          case measure => simp [intOf]; omega
        · go_wp2
          all_goals first
            | (exfalso; omega)
            | (go_ret2; rw [HEQ.out.1, HEQ.out.2]; exact ⟨⟨_, rfl, .inr ⟨g, cap, rfl, hlp, HS.out.2.2.1⟩⟩, by (repeat' exact bel)⟩)
    · have HEQ := hide (H11.out hin)
      have HIN := hide hin
      clear hin
      obtain ⟨q0, q1, q2, q3, q4, q5, q6, q7, q8, q9, q10, q11, q12, q13⟩ := HQ2.out
      go_wp2_with fail
      go_loopw [55] (fun s wr => ∃ j : Nat, s = .int .i64 j ∧ j ≤ L.length ∧ Hid (∀ (i : Nat) (x : Un), i < j → L[i]? = some x → c.first ≤ x.yr ∧ x.yr ≤ c.last) ∧ TwSt c L g cap w.heap.size w wr) (fun s _ => (500 - intOf s).toNat)
      case atStart => exact ⟨0, rfl, Nat.zero_le _, hide (fun i x h => by omega), HS2.out⟩
      case round =>
        obtain ⟨j, rfl, hj, HI, hS⟩ := hrel
        have HS := hide hS
        clear hS
        clear q0 q1 q2 q3 q4 q5 q6 q7 q8 q9 q10 q11 q12 q13
        obtain ⟨q0, q1, q2, q3, q4, q5, q6, q7, q8, q9, q10, q11, q12, q13⟩ := HS.out.1
        have hB2 := HS.out.2.1
        have hG2 := HS.out.2.2.2.1
        have hBel := HS.out.2.2.2.2
        by_cases hlt : j < L.length
        · obtain ⟨x, hx⟩ : ∃ x, L[j]? = some x := ⟨_, List.getElem?_eq_getElem hlt⟩
          obtain ⟨a0, a1, a2⟩ := UnsAt.cell HS.out.2.2.1 hx
          have HX := hide hx
          clear hx
          have hi1 : (0 : Int) ≤ (j : Int) := by omega
          have hi3 : (j : Int) < (L.length : Int) := by omega
          by_cases hxy : c.first ≤ x.yr ∧ x.yr ≤ c.last
          · go_wp2
            all_goals first
              | (exfalso; omega)
              | skip
            go_roundw
            case rel => exact ⟨j + 1, by go_num, by omega, hide (fun i y h1 h2 => by
              rcases Nat.lt_or_ge i j with h | h
              · exact HI.out i y h h2
              · have : i = j := by omega
                subst this
                have h3 := HX.out
                rw [h2] at h3
                cases h3
                exact hxy), HS.out.call (by (repeat' exact bel))⟩
            case measure => simp [intOf]; omega
          · rcases (show x.yr < c.first ∨ (c.first ≤ x.yr ∧ c.last < x.yr) by omega) with h | ⟨h, h2⟩
            all_goals
              go_wp2
              all_goals first
                | (exfalso; omega)
                | (go_ret2; rw [HEQ.out.1, HEQ.out.2]; exact ⟨⟨_, rfl, .inl ⟨rfl, rfl⟩⟩, by (repeat' exact bel)⟩)
        · exact absurd (inB_all (fun i x hx => HI.out i x (by have := (List.getElem?_eq_some_iff.1 hx).1; omega) hx)) HIN.out

set_option maxRecDepth 100000 in
set_option maxHeartbeats 3200000 in
theorem tweeks_m (c : Cal) (u : Un) (k : Int) (w : World) (hn : c.name.size ≤ 1000) (hU : unitE c u = 0) (hr : c.first ≤ u.yr + k ∧ u.yr + k ≤ c.last) (hk6 : c.kind = 6) :
    Calls Tryz.prog 126 #[calV c, unitV u, .int .i64 k] w fun e w' => (∃ v, e = .returned (.tuple #[v, .int .i64 (twE c u k)]) ∧ TwV w' v (twL c u k)) ∧ Below w.heap.size w w' := by
  have hf := (un_lv hU).1
  have hA := (un_lv hU).2.2.2.1
  obtain ⟨hok, hk2, _, _, hy1, hy2, _⟩ := frame_ok hf
  have hyb := ok_years hk2
  have hl0 : twL0 c u k = monthL c u (u.yr + k) := by simp [twL0, hk6]
  have hl60 := tw0_len hU hr
  have HOW := hide (fun (w : World) => monthly_any c u (u.yr + k) w hn hU hr)
  have HU := hide hU
  have hkb : (c.kind == 6) = true := by simp [hk6]
  have H12 := hide (fun (h : twL0 c u k = []) => tw_12 hU hr h)
  have H11 := hide (fun (h : ¬ inB c (twL0 c u k) = true) => tw_11 hU hr h)
  have H0 := hide (fun (h : inB c (twL0 c u k) = true) (h0 : 0 < (twL0 c u k).length) => tw_0 hU hr h h0)
  obtain ⟨L, hL⟩ : ∃ L, twL0 c u k = L := ⟨_, rfl⟩
  rw [← hl0] at HOW
  rw [hL] at HOW hl60 H12 H11 H0
  have hyb2 : 1602 ≤ c.first ∧ c.last ≤ 9996 := ⟨hyb.2.2.1, hyb.2.2.2.1⟩
  clear hU hf hok hk2 hk6 hA hl0 hL hyb
  simp only [calV, unitV]
  go_enter Tryz.func126, Tryz.ntmps126
  go_wp2_with fail
  refine (ucheck_any c u _ hn).mono ?_
  rintro e w1 ⟨rfl, hb1⟩
  rw [HU.out]
  have hz1 : w.heap.size + 1 < w1.heap.size := by have := hb1.size; simp at this; omega
  have HB1 : Hid (Below w.heap.size w w1) := ww hb1
  have HQ1 := hide (calAt_below hb1 (by simp; omega) (calAt_alloc (calAt_new w c) (by simp) _))
  have HU1 := hide (unAt_below hb1 (by simp) (unAt_new w c u))
  obtain ⟨q0, q1, q2, q3, q4, q5, q6, q7, q8, q9, q10, q11, q12, q13⟩ := HQ1.out
  obtain ⟨u0, u1, u2⟩ := HU1.out
  have hy1 : w.heap.size < w1.heap.size := by omega
  clear hb1
  go_wp2_with fail
  all_goals first
    | (exfalso; omega)
    | skip
  refine (HOW.out _).mono ?_
  rintro e w2 ⟨v, rfl, hv, hb2⟩
  have hs2 := hb2.size
  have HQ2 := hide (calAt_below hb2 (by omega) HQ1.out)
  have HB2 := hide (HB1.out.trans (hb2.mono (by omega)))
  clear hb2 u0 u1 u2
  clear q0 q1 q2 q3 q4 q5 q6 q7 q8 q9 q10 q11 q12 q13
  rcases hv with ⟨hLn, rfl⟩ | ⟨g, cap, rfl, hlp, hun⟩
  · have HEQ := hide (H12.out hLn)
    obtain ⟨q0, q1, q2, q3, q4, q5, q6, q7, q8, q9, q10, q11, q12, q13⟩ := HQ2.out
    go_wp2_with fail
    go_loopw [55] (fun s wr => s = .int .i64 0 ∧ Below w.heap.size w wr) (fun s _ => (500 - intOf s).toNat)
    case atStart => exact ⟨rfl, HB2.out⟩
    case round =>
      obtain ⟨rfl, hBel⟩ := hrel
      go_wp2
      go_ret2
      rw [HEQ.out.1, HEQ.out.2]
      exact ⟨⟨_, rfl, .inl ⟨rfl, rfl⟩⟩, by (repeat' exact bel)⟩
  · have hgl := hun.lt hlp
    have HS2 := hide (show TwSt c L g cap w.heap.size w w2 from ⟨HQ2.out, by omega, hun, hgl.1, HB2.out⟩)
    clear hun
    by_cases hin : inB c L = true
    · have HEQ := hide (H0.out hin hlp)
      have HIN := hide hin
      clear hin
      obtain ⟨q0, q1, q2, q3, q4, q5, q6, q7, q8, q9, q10, q11, q12, q13⟩ := HQ2.out
      go_wp2_with fail
      go_loopw [55] (fun s wr => ∃ j : Nat, s = .int .i64 j ∧ j ≤ L.length ∧ TwSt c L g cap w.heap.size w wr) (fun s _ => (500 - intOf s).toNat)
      case atStart => exact ⟨0, rfl, Nat.zero_le _, HS2.out⟩
      case round =>
        obtain ⟨j, rfl, hj, hS⟩ := hrel
        have HS := hide hS
        clear hS
        clear q0 q1 q2 q3 q4 q5 q6 q7 q8 q9 q10 q11 q12 q13
        obtain ⟨q0, q1, q2, q3, q4, q5, q6, q7, q8, q9, q10, q11, q12, q13⟩ := HS.out.1
        have hB2 := HS.out.2.1
        have hG2 := HS.out.2.2.2.1
        have hBel := HS.out.2.2.2.2
        by_cases hlt : j < L.length
        · obtain ⟨x, hx⟩ : ∃ x, L[j]? = some x := ⟨_, List.getElem?_eq_getElem hlt⟩
          have hxy := inB_get HIN.out hx
          obtain ⟨a0, a1, a2⟩ := UnsAt.cell HS.out.2.2.1 hx
          clear hx
          have hi1 : (0 : Int) ≤ (j : Int) := by omega
          have hi3 : (j : Int) < (L.length : Int) := by omega
          go_wp2
          all_goals first
            | (exfalso; omega)
            | skip
          go_roundw
          case rel => exact ⟨j + 1, by go_num, by omega, HS.out.call (by (repeat' exact bel))⟩
          case measure => simp [intOf]; omega
        · go_wp2
          all_goals first
            | (exfalso; omega)
            | (go_ret2; rw [HEQ.out.1, HEQ.out.2]; exact ⟨⟨_, rfl, .inr ⟨g, cap, rfl, hlp, HS.out.2.2.1⟩⟩, by (repeat' exact bel)⟩)
    · have HEQ := hide (H11.out hin)
      have HIN := hide hin
      clear hin
      obtain ⟨q0, q1, q2, q3, q4, q5, q6, q7, q8, q9, q10, q11, q12, q13⟩ := HQ2.out
      go_wp2_with fail
      go_loopw [55] (fun s wr => ∃ j : Nat, s = .int .i64 j ∧ j ≤ L.length ∧ Hid (∀ (i : Nat) (x : Un), i < j → L[i]? = some x → c.first ≤ x.yr ∧ x.yr ≤ c.last) ∧ TwSt c L g cap w.heap.size w wr) (fun s _ => (500 - intOf s).toNat)
      case atStart => exact ⟨0, rfl, Nat.zero_le _, hide (fun i x h => by omega), HS2.out⟩
      case round =>
        obtain ⟨j, rfl, hj, HI, hS⟩ := hrel
        have HS := hide hS
        clear hS
        clear q0 q1 q2 q3 q4 q5 q6 q7 q8 q9 q10 q11 q12 q13
        obtain ⟨q0, q1, q2, q3, q4, q5, q6, q7, q8, q9, q10, q11, q12, q13⟩ := HS.out.1
        have hB2 := HS.out.2.1
        have hG2 := HS.out.2.2.2.1
        have hBel := HS.out.2.2.2.2
        by_cases hlt : j < L.length
        · obtain ⟨x, hx⟩ : ∃ x, L[j]? = some x := ⟨_, List.getElem?_eq_getElem hlt⟩
          obtain ⟨a0, a1, a2⟩ := UnsAt.cell HS.out.2.2.1 hx
          have HX := hide hx
          clear hx
          have hi1 : (0 : Int) ≤ (j : Int) := by omega
          have hi3 : (j : Int) < (L.length : Int) := by omega
          by_cases hxy : c.first ≤ x.yr ∧ x.yr ≤ c.last
          · go_wp2
            all_goals first
              | (exfalso; omega)
              | skip
            go_roundw
            case rel => exact ⟨j + 1, by go_num, by omega, hide (fun i y h1 h2 => by
              rcases Nat.lt_or_ge i j with h | h
              · exact HI.out i y h h2
              · have : i = j := by omega
                subst this
                have h3 := HX.out
                rw [h2] at h3
                cases h3
                exact hxy), HS.out.call (by (repeat' exact bel))⟩
            case measure => simp [intOf]; omega
          · rcases (show x.yr < c.first ∨ (c.first ≤ x.yr ∧ c.last < x.yr) by omega) with h | ⟨h, h2⟩
            all_goals
              go_wp2
              all_goals first
                | (exfalso; omega)
                | (go_ret2; rw [HEQ.out.1, HEQ.out.2]; exact ⟨⟨_, rfl, .inl ⟨rfl, rfl⟩⟩, by (repeat' exact bel)⟩)
        · exact absurd (inB_all (fun i x hx => HI.out i x (by have := (List.getElem?_eq_some_iff.1 hx).1; omega) hx)) HIN.out

theorem tweeks_any (c : Cal) (u : Un) (k : Int) (w : World) (hn : c.name.size ≤ 1000) :
    Calls Tryz.prog 126 #[calV c, unitV u, .int .i64 k] w fun e w' => (∃ v, e = .returned (.tuple #[v, .int .i64 (twE c u k)]) ∧ TwV w' v (twL c u k)) ∧ Below w.heap.size w w' := by
  by_cases hU : unitE c u = 0
  · by_cases hr : c.first ≤ u.yr + k ∧ u.yr + k ≤ c.last
    · by_cases hk6 : c.kind = 6
      · exact tweeks_m c u k w hn hU hr hk6
      · exact tweeks_w c u k w hn hU hr hk6
    · have e : twE c u k = 11 := by rw [twE, if_pos hU, if_neg hr]
      rw [e, tw_no (by rw [e]; decide)]
      refine (tweeks_rng c u k w hn hU (by omega)).mono ?_
      rintro e w' ⟨rfl, hb⟩
      exact ⟨⟨_, rfl, .inl ⟨rfl, rfl⟩⟩, hb⟩
  · have e : twE c u k = unitE c u := by rw [twE, if_neg hU]
    rw [e, tw_no (by rw [e]; exact hU)]
    refine (tweeks_bad c u k w hn hU).mono ?_
    rintro e w' ⟨rfl, hb⟩
    exact ⟨⟨_, rfl, .inl ⟨rfl, rfl⟩⟩, hb⟩
theorem twV_nil {w : World} {v : Value} {L : List Un} (h : L = []) (hv : TwV w v L) : v = .slice none 0 0 := by
  rcases hv with h1 | ⟨g, cap, h1, h2, h3⟩
  · exact h1.2
  · subst h; simp at h2
theorem twV_some {w : World} {v : Value} {L : List Un} (h : 0 < L.length) (hv : TwV w v L) : ∃ g cap, v = .slice (some ⟨g, 0, none⟩) L.length cap ∧ 0 < L.length ∧ UnsAt w g cap L := by
  rcases hv with h1 | h1
  · rw [h1.1] at h; simp at h
  · exact h1
end Go.Proofs.YtjhhmeoibfdcmaaGreat
