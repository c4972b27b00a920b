/- The walk of VaryDays. -/
import Derived.Test.YtamnccechaooaaaGreatVaryE
namespace Go.Proofs.YtamnccechaooaaaGreat
open Go.RowKit Qd
set_option linter.unusedSimpArgs false
set_option linter.unusedVariables false

theorem sp_short {c : Cal} {u : Un} (hU : unitE c u = 0) (hk6 : c.kind ≠ 6) : (spV c u).b - (spV c u).a ≤ 371 := by
  obtain ⟨hf, _, _, hA, _, _⟩ := un_lv hU
  obtain ⟨hok, hk, _, _, hy1, hy2, _⟩ := frame_ok hf
  have hab := cutAB hU
  have hsp := sp_get hU
  rw [dayW_7 c _ hA hk6 _ (by omega), dayW_7 c _ hA hk6 _ hab.2] at hsp
  have h1 := nwk_wks hk hk6 ⟨hy1, hy2⟩
  have h2 := (wks_srv hk hk6 ⟨hy1, hy2⟩).2.2
  rw [hsp]
  simp only
  omega
/-- What is kept in the loops: the calendar, the row, the span, the numbers so far. -/
def VdSt (c : Cal) (r : Rw) (S : Sp) (B B9 B11 Bo : Nat) (l : List Int) (v : Value) (w0 w : World) : Prop :=
  CalAt w B c ∧ B < Bo ∧ BlkIs w B9 (rowCs r) 86 ∧ B9 < Bo ∧ BlkIs w B11 #[.int .i64 S.a, .int .i64 S.b] 35 ∧ B11 < Bo ∧ Bo ≤ w.heap.size ∧ w.ownsRow Bo 2 1 v l.length (intsC l) ∧ w0.heap.size ≤ Bo ∧ Below w0.heap.size w0 w
theorem VdSt.call {c : Cal} {r : Rw} {S : Sp} {B B9 B11 Bo : Nat} {l : List Int} {v : Value} {w0 w w' : World} (h : VdSt c r S B B9 B11 Bo l v w0 w) (hb : Below w.heap.size w w') : VdSt c r S B B9 B11 Bo l v w0 w' := by
  obtain ⟨h1, h2, h3, h4, h5, h6, h7, h8, h9, h10⟩ := h
  exact ⟨calAt_below hb (by omega) h1, h2, h3.call hb, h4, h5.call hb, h6, Nat.le_trans h7 hb.size, ownsI_call h8 hb, h9, h10.trans (hb.mono (by omega))⟩
theorem VdSt.app {c : Cal} {r : Rw} {S : Sp} {B B9 B11 Bo : Nat} {l l' : List Int} {v v' : Value} {w0 w w' : World} (h : VdSt c r S B B9 B11 Bo l v w0 w) (ho : w'.ownsRow Bo 2 1 v' l'.length (intsC l')) (hb : Below Bo w w') : VdSt c r S B B9 B11 Bo l' v' w0 w' := by
  obtain ⟨h1, h2, h3, h4, h5, h6, h7, h8, h9, h10⟩ := h
  exact ⟨calAt_below hb h2 h1, h2, h3.below hb h4, h4, h5.below hb h6, h6, Nat.le_trans h7 hb.size, ho, h9, h10.trans (hb.mono h9)⟩

set_option maxRecDepth 100000 in
set_option maxHeartbeats 3200000 in
theorem vd_triv (c : Cal) (u : Un) (k : Int) (P : List Po) (vp : Value) (w : World) (hP : Posts w vp P) (hm : c.name.size ≤ 9223372036854775807 ∧ P.length ≤ 9223372036854775807) (h : 100 < c.name.size ∨ (c.name.size ≤ 100 ∧ (16 < P.length ∨ (P.length ≤ 16 ∧ (c.kind == 6) = true)))) :
    Calls Tryz.prog 19 #[calV c, unitV u, .int .i64 k, vp] w fun e w' => e = .returned (.bool true) ∧ Below w.heap.size w w' := by
  obtain ⟨ad, cap, rfl, _⟩ := hP
  obtain ⟨hm1, hm2⟩ := hm
  rcases h with h | ⟨h, h2 | ⟨h2, h3⟩⟩
  all_goals
    simp only [calV, unitV]
    go_enter Tryz.func19, Tryz.ntmps19
    go_wp2_with fail
    refine (live23_any _).mono ?_
    rintro e w1 ⟨rfl, hb1⟩
    have hz1 : w.heap.size + 1 < w1.heap.size := by have := hb1.size; simp at this; omega
    have HB1 : Hid (Below w.heap.size w w1) := ww hb1
    have HQ1 := hide (calAt_below hb1 (by simp; omega) (calAt_alloc (calAt_new w c) (by simp) _))
    have HU1 := hide (unAt_below hb1 (by simp) (unAt_new w c u))
    obtain ⟨q0, q1, q2, q3, q4, q5, q6, q7, q8, q9, q10, q11, q12, q13⟩ := HQ1.out
    obtain ⟨u0, u1, u2⟩ := HU1.out
    have hy1 : w.heap.size < w1.heap.size := by omega
    clear hb1
    have hBel := HB1.out
    go_wp2
    all_goals first
      | (exfalso; omega)
      | (go_ret; exact ⟨rfl, by (repeat' exact bel)⟩)

set_option maxRecDepth 100000 in
set_option maxHeartbeats 6400000 in
theorem vd_err (c : Cal) (u : Un) (k : Int) (P : List Po) (vp : Value) (w : World) (hP : Posts w vp P) (h64 : ∀ p ∈ P, in64 p.n) (hn : c.name.size ≤ 100) (hl : P.length ≤ 16) (hk6 : c.kind ≠ 6) (hE : ¬ rwE c u k P [] Z0 = 0) :
    Calls Tryz.prog 19 #[calV c, unitV u, .int .i64 k, vp] w fun e w' => e = .returned (.bool true) ∧ Below w.heap.size w w' := by
  have HP := hide hP
  have HBK := hide (book0 c P (by omega) (by omega) h64)
  obtain ⟨ad, cap, rfl, _⟩ := hP
  have hkb : (c.kind == 6) = false := by simpa using hk6
  have HV := hide (show rwV c u k P [] Z0 = ⟨⟨0, 0, 0⟩, 0, 0, 0, false⟩ by rw [rwV, if_neg hE])
  have hub : (rwE c u k P [] Z0 != 0) = true := by simpa using hE
  have hrb := rwB_same 0 0 0 0 0 0 false
  clear h64 hk6 hE
  simp only [calV, unitV]
  go_enter Tryz.func19, Tryz.ntmps19
  go_wp2_with fail
  refine (live23_any _).mono ?_
  rintro e w1 ⟨rfl, hb1⟩
  have hz1 : w.heap.size + 1 < w1.heap.size := by have := hb1.size; simp at this; omega
  have HB1 : Hid (Below w.heap.size w w1) := ww hb1
  have HQ1 := hide (calAt_below hb1 (by simp; omega) (calAt_alloc (calAt_new w c) (by simp) _))
  have HU1 := hide (unAt_below hb1 (by simp) (unAt_new w c u))
  obtain ⟨q0, q1, q2, q3, q4, q5, q6, q7, q8, q9, q10, q11, q12, q13⟩ := HQ1.out
  obtain ⟨u0, u1, u2⟩ := HU1.out
  have hy1 : w.heap.size < w1.heap.size := by omega
  clear hb1
  have HP1 := hide (HP.out.call HB1.out)
  go_wp2_with fail
  all_goals first
    | (exfalso; omega)
    | skip
  refine (vrow_any c u k P [] Z0 _ _ _ (by omega) HP1.out (Accs.nil _) HBK.out).mono ?_
  rintro e w2 ⟨rfl, hb2⟩
  rw [HV.out]
  simp only [rowCs]
  have hz2 : w.heap.size + 1 < w2.heap.size := by have := hb2.size; (try simp at this); omega
  have HB2 : Hid (Below w.heap.size w w2) := by have hp := HB1.out; exact ww hb2
  have HQ2 : Hid (CalAt w2 w.heap.size c) := by have hp := HQ1.out; exact qq hb2
  clear q0 q1 q2 q3 q4 q5 q6 q7 q8 q9 q10 q11 q12 q13
  obtain ⟨q0, q1, q2, q3, q4, q5, q6, q7, q8, q9, q10, q11, q12, q13⟩ := HQ2.out
  have HU2 := hide (show UnAt w2 (w.heap.size + 1) u from unAt_below hb2 sz (by first | exact HU1.out | exact unAt_alloc HU1.out (by omega) _ | exact unAt_alloc (unAt_alloc HU1.out (by omega) _) (by simp; omega) _))
  clear u0 u1 u2
  obtain ⟨u0, u1, u2⟩ := HU2.out
  have hy2 : w.heap.size < w2.heap.size := by omega
  clear hb2
  go_wp2_with fail
  refine (uspan_any c u _ (by omega)).mono ?_
  rintro e w3 ⟨rfl, hb3⟩
  have K9 := hide (BlkIs.call (BlkIs.new w2 rw0 86) hb3)
  simp only [spanV]
  have hz3 : w.heap.size + 1 < w3.heap.size := by have := hb3.size; (try simp at this); omega
  have HB3 : Hid (Below w.heap.size w w3) := by have hp := HB2.out; exact ww hb3
  have HQ3 : Hid (CalAt w3 w.heap.size c) := by have hp := HQ2.out; exact qq hb3
  clear q0 q1 q2 q3 q4 q5 q6 q7 q8 q9 q10 q11 q12 q13
  obtain ⟨q0, q1, q2, q3, q4, q5, q6, q7, q8, q9, q10, q11, q12, q13⟩ := HQ3.out
  have HU3 := hide (show UnAt w3 (w.heap.size + 1) u from unAt_below hb3 sz (by first | exact HU2.out | exact unAt_alloc HU2.out (by omega) _ | exact unAt_alloc (unAt_alloc HU2.out (by omega) _) (by simp; omega) _))
  clear u0 u1 u2
  obtain ⟨u0, u1, u2⟩ := HU3.out
  have hy3 : w.heap.size < w3.heap.size := by omega
  clear hb3
  have c0 := K9.out.cell 0
  have c1 := K9.out.cell 1
  have c2 := K9.out.cell 2
  have c3 := K9.out.cell 3
  have c4 := K9.out.cell 4
  have c5 := K9.out.cell 5
  have c6 := K9.out.cell 6
  have hz9 := K9.out.lt
  simp at c0 c1 c2 c3 c4 c5 c6
  have hBel := HB3.out
  go_wp2
  go_ret
  exact ⟨ret_bool (by simp), by (repeat' exact bel)⟩

set_option maxRecDepth 100000 in
set_option maxHeartbeats 6400000 in
theorem vd_ok (c : Cal) (u : Un) (k : Int) (P : List Po) (vp : Value) (w : World) (hP : Posts w vp P) (h64 : ∀ p ∈ P, in64 p.n) (hn : c.name.size ≤ 100) (hl : P.length ≤ 16) (hk6 : c.kind ≠ 6) (hE : rwE c u k P [] Z0 = 0) :
    Calls Tryz.prog 19 #[calV c, unitV u, .int .i64 k, vp] w fun e w' => e = .returned (.bool true) ∧ Below w.heap.size w w' := by
  have HP := hide hP
  have H64 := hide h64
  have HBK := hide (book0 c P (by omega) (by omega) h64)
  obtain ⟨hU, hcd, hf1, hf2, hmt⟩ := vd_law hk6 hE
  have hsb := sp_bd2 hU
  have hse := sp_short hU hk6
  obtain ⟨ad, cap, rfl, _⟩ := hP
  have hkb : (c.kind == 6) = false := by simpa using hk6
  have HE := hide hE
  have HU := hide hU
  have HV := hide (show rwV c u k P [] Z0 = ⟨u, TV c P [] Z0 u, thV c u k P [] Z0, TV c P [] Z0 u - thV c u k P [] Z0, !thOk c u k P [] Z0⟩ by rw [rwV, if_pos hE])
  obtain ⟨S, hS⟩ : ∃ S, spV c u = S := ⟨_, rfl⟩
  have HS := hide hS
  rw [hS] at hcd hf1 hf2 hmt hsb hse
  obtain ⟨N, hN⟩ : ∃ N, (S.b + 1 - S.a).toNat = N := ⟨_, rfl⟩
  rw [hN] at hf1 hf2 hmt
  have hN2 : S.a + (N : Int) = S.b + 1 ∧ N ≤ 372 := by omega
  have HCD := hide hcd
  have HF := hide (And.intro hf1 (And.intro hf2 hmt))
  obtain ⟨T, hT⟩ : ∃ x, TV c P [] Z0 u = x := ⟨_, rfl⟩
  obtain ⟨H, hH⟩ : ∃ x, thV c u k P [] Z0 = x := ⟨_, rfl⟩
  obtain ⟨G, hG⟩ : ∃ x, thOk c u k P [] Z0 = x := ⟨_, rfl⟩
  rw [hT, hH, hG] at HV
  rw [hH, hG] at HF
  obtain ⟨r, hr⟩ : ∃ r : Rw, r = ⟨u, T, H, T - H, !G⟩ := ⟨_, rfl⟩
  have HR := hide (show r.that = H ∧ r.gone = !G by rw [hr]; exact ⟨rfl, rfl⟩)
  rw [← hr] at HV
  clear h64 hk6 hE hU hcd hf1 hf2 hmt hS hN hT hH hG hr
  simp only [calV, unitV]
  go_enter Tryz.func19, Tryz.ntmps19
  go_wp2_with fail
  refine (live23_any _).mono ?_
  rintro e w1 ⟨rfl, hb1⟩
  have hz1 : w.heap.size + 1 < w1.heap.size := by have := hb1.size; simp at this; omega
  have HB1 : Hid (Below w.heap.size w w1) := ww hb1
  have HQ1 := hide (calAt_below hb1 (by simp; omega) (calAt_alloc (calAt_new w c) (by simp) _))
  have HU1 := hide (unAt_below hb1 (by simp) (unAt_new w c u))
  obtain ⟨q0, q1, q2, q3, q4, q5, q6, q7, q8, q9, q10, q11, q12, q13⟩ := HQ1.out
  obtain ⟨u0, u1, u2⟩ := HU1.out
  have hy1 : w.heap.size < w1.heap.size := by omega
  clear hb1
  have HP1 := hide (HP.out.call HB1.out)
  go_wp2_with fail
  all_goals first
    | (exfalso; omega)
    | skip
  refine (vrow_any c u k P [] Z0 _ _ _ (by omega) HP1.out (Accs.nil _) HBK.out).mono ?_
  rintro e w2 ⟨rfl, hb2⟩
  rw [HV.out, HE.out]
  simp only [rowCs]
  have hz2 : w.heap.size + 1 < w2.heap.size := by have := hb2.size; (try simp at this); omega
  have HB2 : Hid (Below w.heap.size w w2) := by have hp := HB1.out; exact ww hb2
  have HQ2 : Hid (CalAt w2 w.heap.size c) := by have hp := HQ1.out; exact qq hb2
  clear q0 q1 q2 q3 q4 q5 q6 q7 q8 q9 q10 q11 q12 q13
  obtain ⟨q0, q1, q2, q3, q4, q5, q6, q7, q8, q9, q10, q11, q12, q13⟩ := HQ2.out
  have HU2 := hide (show UnAt w2 (w.heap.size + 1) u from unAt_below hb2 sz (by first | exact HU1.out | exact unAt_alloc HU1.out (by omega) _ | exact unAt_alloc (unAt_alloc HU1.out (by omega) _) (by simp; omega) _))
  clear u0 u1 u2
  obtain ⟨u0, u1, u2⟩ := HU2.out
  have hy2 : w.heap.size < w2.heap.size := by omega
  clear hb2
  go_wp2_with fail
  refine (uspan_any c u _ (by omega)).mono ?_
  rintro e w3 ⟨rfl, hb3⟩
  rw [HS.out, HU.out]
  have K9 := hide (BlkIs.call (BlkIs.new w2 (rowCs r) 86) hb3)
  have hz23 : w2.heap.size < w3.heap.size := K9.out.lt
  simp only [spanV]
  have hz3 : w.heap.size + 1 < w3.heap.size := by have := hb3.size; (try simp at this); omega
  have HB3 : Hid (Below w.heap.size w w3) := by have hp := HB2.out; exact ww hb3
  have HQ3 : Hid (CalAt w3 w.heap.size c) := by have hp := HQ2.out; exact qq hb3
  clear q0 q1 q2 q3 q4 q5 q6 q7 q8 q9 q10 q11 q12 q13
  obtain ⟨q0, q1, q2, q3, q4, q5, q6, q7, q8, q9, q10, q11, q12, q13⟩ := HQ3.out
  have HU3 := hide (show UnAt w3 (w.heap.size + 1) u from unAt_below hb3 sz (by first | exact HU2.out | exact unAt_alloc HU2.out (by omega) _ | exact unAt_alloc (unAt_alloc HU2.out (by omega) _) (by simp; omega) _))
  clear u0 u1 u2
  obtain ⟨u0, u1, u2⟩ := HU3.out
  have hy3 : w.heap.size < w3.heap.size := by omega
  clear hb3
  have HS0 := hide (show VdSt c r S w.heap.size w2.heap.size w3.heap.size (w3.heap.size + 1) [] (.slice none 0 0) w (w3.alloc (.cells #[.int .i64 S.a, .int .i64 S.b] 35)) from by
    have hBel := HB3.out
    exact ⟨calAt_alloc HQ3.out (by omega) _, by omega, K9.out.alloc _, by omega, BlkIs.new _ _ _, by omega, by simp, World.ownsRow_nil _ _ _ _, by omega, by (repeat' exact bel)⟩)
  go_wp2_with fail
  all_goals first
    | (exfalso; omega)
    | skip
  clear q0 q1 q2 q3 q4 q5 q6 q7 q8 q9 q10 q11 q12 q13 u0 u1 u2
  go_loopw [13, 14, 15] (fun s13 s14 s15 wr => ∃ n : Nat, s15 = .int .i64 (S.a + (n : Int)) ∧ s14 = .bool (metD c k S.a n) ∧ n ≤ N ∧ VdSt c r S w.heap.size w2.heap.size w3.heap.size (w3.heap.size + 1) (cmpD c k S.a P n) s13 w wr) (fun _ _ s15 _ => (S.b + 2 - intOf s15).toNat)
  case atStart => exact ⟨0, by simp, rfl, Nat.zero_le _, HS0.out⟩
  case round =>
    obtain ⟨n, rfl, rfl, hnN, hS⟩ := hrel
    have HV1 := hide hS
    clear hS
    obtain ⟨q0, q1, q2, q3, q4, q5, q6, q7, q8, q9, q10, q11, q12, q13⟩ := HV1.out.1
    obtain ⟨⟨b0, b1⟩, _⟩ := blk_two' HV1.out.2.2.2.2.1
    have hlt1 := HV1.out.2.2.2.2.1.lt
    have hz9 := HV1.out.2.2.1.lt
    have hzB := HV1.out.2.1
    have hzC := HV1.out.2.2.2.2.2.2.1
    have hy0 : w.heap.size < wr.heap.size := by omega
    have hBel := HV1.out.2.2.2.2.2.2.2.2.2
    by_cases hlt : n < N
    · have hcd := HCD.out (S.a + n) (by omega) (by omega)
      have hle : S.a + (n : Int) ≤ S.b := by omega
      have HCL := hide (cmpD_len c k S.a P n)
      have HMU := hide (show n * P.length ≤ 372 * 16 from Nat.mul_le_mul (by omega) hl)
      have hnx : S.a + ((n + 1 : Nat) : Int) = S.a + (n : Int) + 1 := by omega
      go_wp2_with fail
      refine (cday_any c (S.a + n) k _ (by omega)).mono ?_
      rintro e w4 ⟨rfl, hb4⟩
      have HV2 := hide (HV1.out.call (show Below wr.heap.size wr w4 from (ww hb4).out))
      clear hb4 q0 q1 q2 q3 q4 q5 q6 q7 q8 q9 q10 q11 q12 q13 b0 b1 hlt1 hz9 hzB hzC hy0 hBel
      obtain ⟨q0, q1, q2, q3, q4, q5, q6, q7, q8, q9, q10, q11, q12, q13⟩ := HV2.out.1
      obtain ⟨⟨b0, b1⟩, _⟩ := blk_two' HV2.out.2.2.2.2.1
      rcases hcd with h0 | h12
      · have HM := hide (show metD c k S.a (n + 1) = true by rw [metD, h0]; simp)
        have HC := hide (show cmpD c k S.a P (n + 1) = cmpD c k S.a P n ++ onD (cdV c (S.a + n) k) P by rw [cmpD, if_pos h0])
        obtain ⟨D, hD⟩ : ∃ D, cdV c (S.a + n) k = D := ⟨_, rfl⟩
        rw [hD] at HC ⊢
        rw [h0]
        clear h0 hD q0 q1 q2 q3 q4 q5 q6 q7 q8 q9 q10 q11 q12 q13 b0 b1
        go_wp2_with fail
        go_loopw [13, 96] (fun s13 s96 wr => ∃ j : Nat, s96 = .int .i64 j ∧ j ≤ P.length ∧ VdSt c r S w.heap.size w2.heap.size w3.heap.size (w3.heap.size + 1) (cmpD c k S.a P n ++ onD D (P.take j)) s13 w wr) (fun _ s96 _ => (500 - intOf s96).toNat)
        case atStart => exact ⟨0, rfl, Nat.zero_le _, by simpa [onD] using HV2.out⟩
        case round =>
          obtain ⟨j, rfl, hj, hS⟩ := hrel
          have HV3 := hide hS
          clear hS
          obtain ⟨⟨b0, b1⟩, _⟩ := blk_two' HV3.out.2.2.2.2.1
          have hzC := HV3.out.2.2.2.2.2.2.1
          have hol := onD_len D (P.take j)
          rw [List.length_take] at hol
          by_cases hlt2 : j < P.length
          · obtain ⟨x, hx⟩ : ∃ x, P[j]? = some x := ⟨_, List.getElem?_eq_getElem hlt2⟩
            obtain ⟨g, o, rfl, hg, d0, d1⟩ := (HP.out.call HV3.out.2.2.2.2.2.2.2.2.2).at hx
            have hi1 : (0 : Int) ≤ (j : Int) := by omega
            have hi3 : (j : Int) < (P.length : Int) := by omega
            have HX := hide hx
            clear hx
            have hcl := HCL.out
            have hmu := HMU.out
            by_cases hd : x.day = D
            · have HI := hide (onD_yes HX.out hd)
              have hdb : (x.day == D) = true := by simpa using hd
              have HD := hide hd
              clear hd
              go_wp2_with ((at_builtin; refine app_nums rfl _ _ rfl (w3.heap.size + 1) _ _ _ [x.n] rfl (ownsI_call HV3.out.2.2.2.2.2.2.2.1 ?hw) rfl (.inr ⟨_, _, by simp, rfl, ?hl, ?hc⟩) (by simp; omega) ?hz ?_))
              case hw => (repeat' exact bel)
              case hl => simp
              case hc =>
                intro i y hy
                match i, hy with
                | 0, hy => simp at hy; subst hy; simp
              case hz => simp; omega
              intro v' w' hown' hbel hkeep
              have HV4 := hide ((HV3.out.call (show Below wr.heap.size wr ((wr.alloc (.cells #[.int .i64 x.day, .int .i64 x.n] 63)).alloc (.cells #[.int .i64 x.n] 2)) by (repeat' exact bel))).app (l' := cmpD c k S.a P n ++ onD D (P.take j) ++ [x.n]) (by simpa using hown') hbel)
              clear hown' hbel hkeep
              go_wp2
              go_roundw
              case rel => exact ⟨j + 1, by go_num, by omega, by rw [HI.out, ← List.append_assoc]; exact HV4.out⟩
              case measure => simp [intOf]; omega
            · have HI := hide (onD_no HX.out hd)
              have hdb : (x.day == D) = false := by simpa using hd
              clear hd
              go_wp2
              go_roundw
              case rel => exact ⟨j + 1, by go_num, by omega, by rw [HI.out]; exact HV3.out.call (by (repeat' exact bel))⟩
              case measure => simp [intOf]; omega
          · have HV5 := hide (show VdSt c r S w.heap.size w2.heap.size w3.heap.size (w3.heap.size + 1) (cmpD c k S.a P (n + 1)) u13 w wr by
              have h := HV3.out
              rw [List.take_of_length_le (by omega), ← HC.out] at h
              exact h)
            go_wp2
            go_roundw
            case rel => exact ⟨n + 1, by rw [hnx], by rw [HM.out], by omega, HV5.out⟩
            case measure => simp [intOf]; omega
      · have HM := hide (show metD c k S.a (n + 1) = metD c k S.a n by rw [metD, h12]; simp)
        have HC := hide (show cmpD c k S.a P (n + 1) = cmpD c k S.a P n by rw [cmpD, if_neg (by omega), List.append_nil])
        rw [h12]
        clear h12
        go_wp2
        go_roundw
        case rel => exact ⟨n + 1, by rw [hnx], by rw [HM.out], by omega, by rw [HC.out]; exact HV2.out⟩
        case measure => simp [intOf]; omega
    · have hnn : n = N := by omega
      subst hnn
      have hgt : S.b < S.a + (n : Int) := by omega
      have HN := hide (owns_nums HV1.out.2.2.2.2.2.2.2.1)
      have hl2 := hide (show (cmpD c k S.a P n).length ≤ 1000000 from Nat.le_trans (cmpD_len c k S.a P n) (Nat.le_trans (Nat.mul_le_mul (show n ≤ 372 by omega) hl) (by omega)))
      have h64b := hide (show ∀ y ∈ cmpD c k S.a P n, in64 y from fun y hy => by
        obtain ⟨p, hp, rfl⟩ := cmpD_mem hy
        exact H64.out p hp)
      have HFF := hide HF.out
      go_wp2_with fail
      refine (wsum_any _ (cmpD c k S.a P n) _ HN.out h64b.out hl2.out).mono ?_
      rintro e w4 ⟨rfl, hb4⟩
      rw [HFF.out.1, HFF.out.2.1, HFF.out.2.2]
      have K9b := hide (BlkIs.call (HV1.out.2.2.1) (show Below wr.heap.size wr w4 from (ww hb4).out))
      have HB4 := hide (hBel.trans (hb4.mono hBel.size))
      clear hb4
      have c4 := K9b.out.cell 4
      have c6 := K9b.out.cell 6
      simp at c4 c6
      rw [HR.out.1] at c4
      rw [HR.out.2] at c6
      have hBel2 := HB4.out
      go_wp2
      all_goals first
        | (exfalso; omega)
        | (go_ret; exact ⟨ret_bool (by simp), by (repeat' exact bel)⟩)
theorem vd_walk (c : Cal) (hn : c.name.size ≤ 9223372036854775807) (u : Un) (k : Int) (P : List Po) (vp : Value) (w : World) (hP : Posts w vp P) (h64 : ∀ x ∈ P, in64 x.day ∧ in64 x.n) (hl : P.length ≤ 9223372036854775807) :
    Calls Tryz.prog 19 #[calV c, unitV u, .int .i64 k, vp] w fun e w' => e = .returned (.bool true) ∧ Below w.heap.size w w' := by
  by_cases h1 : c.name.size ≤ 100
  · by_cases h2 : P.length ≤ 16
    · by_cases h3 : c.kind = 6
      · exact vd_triv c u k P vp w hP ⟨hn, hl⟩ (.inr ⟨h1, .inr ⟨h2, by simp [h3]⟩⟩)
      · by_cases hE : rwE c u k P [] Z0 = 0
        · exact vd_ok c u k P vp w hP (fun p hp => (h64 p hp).2) h1 h2 h3 hE
        · exact vd_err c u k P vp w hP (fun p hp => (h64 p hp).2) h1 h2 h3 hE
    · exact vd_triv c u k P vp w hP ⟨hn, hl⟩ (.inr ⟨h1, .inl (by omega)⟩)
  · exact vd_triv c u k P vp w hP ⟨hn, hl⟩ (.inl (by omega))
end Go.Proofs.YtamnccechaooaaaGreat
