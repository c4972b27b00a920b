/- The walk of RateExact. -/
import Derived.Test.YtjhhmeoibfdcmaaGreatDoorRsB
import Derived.Test.YtjhhmeoibfdcmaaGreatDoorRtG
import Derived.Test.YtjhhmeoibfdcmaaGreatDoorMRl
namespace Go.Proofs.YtjhhmeoibfdcmaaGreatDoor
open Go.RowKit Qd
set_option linter.unusedSimpArgs false
set_option linter.unusedVariables false

def FmB (c : Cal) (s : Sp) (B : Nat) (w0 w : World) : Prop := CalAt w B c ∧ SpAt w (B + 1) s ∧ B + 1 < w.heap.size ∧ Below B w0 w
theorem FmB.call {c : Cal} {s : Sp} {B : Nat} {w0 w w' : World} (h : FmB c s B w0 w) (hb : Below w.heap.size w w') : FmB c s B w0 w' := ⟨calAt_below hb (by have := h.2.2.1; omega) h.1, spAt_below hb h.2.2.1 h.2.1, Nat.lt_of_lt_of_le h.2.2.1 hb.size, h.2.2.2.trans (hb.mono (by have := h.2.2.1; omega))⟩
theorem fmB_new (c : Cal) (s : Sp) (w : World) : FmB c s w.heap.size w ((w.alloc (calObj c)).alloc (spObj s)) := by
  refine ⟨calAt_alloc (calAt_new w c) (by simp) _, ?_, by simp, by (repeat' exact bel)⟩
  have := spAt_fresh (w.alloc (calObj c)) s
  simpa using this
theorem Rts.below {w w' : World} {K : Nat} {v : Value} {D : List (Int × Int)} (h : Rts w v D) (hb : Below w.heap.size w w') : Rts w' v D := h.call hb
@[go_sem high] theorem eql_ratio (a b x y : Int) (w : World) : (binOp .eql 37 (.agg #[.int .i64 a, .int .i64 b]) (.agg #[.int .i64 x, .int .i64 y])).run Tryz.prog w = .ok (.bool (a == x && b == y)) w := by
  rw [run_eql_struct, eqRatio 9998]; rfl
theorem exsR_all {a n : Int} {L : List Int} (h : exsR a n L = 0) : ∀ x ∈ L, fitE (exQ a n x).1 = 0 := by
  induction L with
  | nil => intro x hx; simp at hx
  | cons y l ih =>
    simp only [exsR] at h
    by_cases hy : fitE (exQ a n y).1 = 0
    · rw [if_pos hy] at h
      intro x hx
      rcases List.mem_cons.1 hx with rfl | hx
      · exact hy
      · exact ih h x hx
    · rw [if_neg hy] at h; exact absurd h hy
theorem exsR_two {a n : Int} {L : List Int} (h : ¬ exsR a n L = 0) : exsR a n L = 2 := by
  induction L with
  | nil => exact absurd rfl h
  | cons y l ih =>
    simp only [exsR] at h ⊢
    by_cases hy : fitE (exQ a n y).1 = 0
    · rw [if_pos hy] at h ⊢; exact ih h
    · rw [if_neg hy]
      by_cases hf : in64 (exQ a n y).1
      · exact absurd (fit_yes hf).2 hy
      · exact (fit_no hf).2
theorem fit_zero {n : Int} (h : fitE n = 0) : in64 n := by
  by_cases hf : in64 n
  · exact hf
  · rw [(fit_no hf).2] at h; exact absurd h (by decide)
theorem take_le {L : List Int} (h : ∀ x ∈ L, 0 ≤ x) (j : Nat) : 0 ≤ (L.take j).sum ∧ (L.take j).sum ≤ L.sum := by
  induction L generalizing j with
  | nil => simp
  | cons y l ih =>
    have h1 := h y (by simp)
    have h2 : ∀ x ∈ l, 0 ≤ x := fun x hx => h x (by simp [hx])
    cases j with
    | zero => have := (ih h2 l.length); simp at this ⊢; omega
    | succ j => have := ih h2 j; simp only [List.take_succ_cons, List.sum_cons]; omega

set_option maxRecDepth 100000 in
set_option maxHeartbeats 12800000 in
theorem rex_walk (c : Cal) (hn : c.name.size ≤ 9223372036854775807) (lv a : Int) (s : Sp) (w : World) (ha : in64 a) (hT : TabW w) :
    Calls Tryz.prog 3 #[calV c, .int .i64 lv, .int .i64 a, spanV s] w fun e w' => e = .returned (.bool true) ∧ Below w.heap.size w w' := by
  have HA := hide ha
  have HT := hide hT
  clear ha hT
  simp only [calV, spanV]
  go_enter Tryz.func3, Tryz.ntmps3
  go_wp2_with fail
  refine (live21_any _).mono ?_
  rintro e w1 ⟨rfl, hb1⟩
  have HM1 := hide ((fmB_new c s w).call hb1)
  clear hb1
  obtain ⟨q0, q1, q2, q3, q4, q5, q6, q7, q8, q9, q10, q11, q12, q13⟩ := HM1.out.1
  obtain ⟨p0, p1⟩ := HM1.out.2.1
  have hz1 := HM1.out.2.2.1
  have hy1 : w.heap.size < w1.heap.size := by omega
  go_wp2_with fail
  refine (brief21_any c s _).mono ?_
  rintro e w2 ⟨⟨b, rfl, hsh⟩, hb2⟩
  have HSH := hide hsh
  have HM2 := hide (HM1.out.call hb2)
  clear hsh hb2 p0 p1
  clear q0 q1 q2 q3 q4 q5 q6 q7 q8 q9 q10 q11 q12 q13
  obtain ⟨q0, q1, q2, q3, q4, q5, q6, q7, q8, q9, q10, q11, q12, q13⟩ := HM2.out.1
  obtain ⟨p0, p1⟩ := HM2.out.2.1
  have hz2 := HM2.out.2.2.1
  have hy2 : w.heap.size < w2.heap.size := by omega
  cases b
  · have hBel := HM2.out.2.2.2
    go_wp2
    go_ret
    exact ⟨rfl, by (repeat' exact bel)⟩
  have hnm : c.name.size ≤ 1000 := by have := (HSH.out rfl).1; omega
  have HSR := hide (HSH.out rfl)
  have hthree : ((lv == 5) = true ∧ decide (300 < wrap64 (s.b - s.a)) = true) ∨ ((lv == 5) = true ∧ decide (300 < wrap64 (s.b - s.a)) = false) ∨ (lv == 5) = false := by
    cases (lv == 5) <;> cases decide (300 < wrap64 (s.b - s.a)) <;> simp
  rcases hthree with ⟨h5, h3⟩ | ⟨h5, h3⟩ | h5
  · have hBel := HM2.out.2.2.2
    go_wp2
    go_ret
    exact ⟨rfl, by (repeat' exact bel)⟩
  all_goals
    go_wp2_with fail
    by_cases hE : meetsE c lv s = 0
    rotate_left
    · have HX := hide (fun W => rexact_no c lv a s W hnm hE)
      have HD := hide (fun W => rdays_no c lv s W hnm hE)
      have hEb : (meetsE c lv s != 0) = true := by simpa using hE
      obtain ⟨E, hEE⟩ : ∃ E, meetsE c lv s = E := ⟨_, rfl⟩
      rw [hEE] at HX HD hEb
      simp only [calV, spanV] at HX HD
      clear hE hEE
      refine (HX.out _).mono ?_
      rintro e w3 ⟨rfl, hb3⟩
      have HM3 := hide (HM2.out.call hb3)
      clear hb3 p0 p1
      clear q0 q1 q2 q3 q4 q5 q6 q7 q8 q9 q10 q11 q12 q13
      obtain ⟨q0, q1, q2, q3, q4, q5, q6, q7, q8, q9, q10, q11, q12, q13⟩ := HM3.out.1
      obtain ⟨p0, p1⟩ := HM3.out.2.1
      have hz3 := HM3.out.2.2.1
      have hy3 : w.heap.size < w3.heap.size := by omega
      go_wp2_with fail
      refine (HD.out _).mono ?_
      rintro e w4 ⟨rfl, hb4⟩
      have HM4 := hide (HM3.out.call hb4)
      have hBel := HM4.out.2.2.2
      have hEq : (E == E) = true := by simp
      clear hb4 p0 p1
      clear q0 q1 q2 q3 q4 q5 q6 q7 q8 q9 q10 q11 q12 q13
      go_wp2
      go_ret
      exact ⟨by first | rfl | exact ret_bool (by simp), hBel⟩
    · obtain ⟨⟨s1, s2, s3, s4⟩, hlen⟩ := brief_len hE HSR.out.2
      have hdf := dys_facts hE
      have hdl := dysL_len c lv s
      have HX := hide (fun W => rexact_yes c lv a s W hnm hE (by omega) HA.out)
      have HD := hide (fun W => rdays_yes c lv s W hnm hE (by omega))
      obtain ⟨ws, hws⟩ : ∃ x, dysL c lv s = x := ⟨_, rfl⟩
      rw [hws] at hdf hdl HX HD
      obtain ⟨m, hmm⟩ : ∃ m, (meetsL c lv s).length = m := ⟨_, rfl⟩
      rw [hmm] at hdl HD hlen
      unfold ExPost at HX
      have HLL := hide (exsL_len a ws)
      have HGT := hide (fun (j : Nat) (x : Int) (h : ws[j]? = some x) => show (exsL a ws)[j]? = some (exQ a ws.sum x) by simp [exsL, h])
      have HE2 := hide (fun h => exsR_two (a := a) (n := ws.sum) (L := ws) h)
      have HEA := hide (fun h => exsR_all (a := a) (n := ws.sum) (L := ws) h)
      have HEE := hide (show exsE a ws = exsR a ws.sum ws from rfl)
      obtain ⟨L, hL⟩ : ∃ L, exsL a ws = L := ⟨_, rfl⟩
      rw [hL] at HX HLL HGT
      obtain ⟨EX, hEX⟩ : ∃ E, exsE a ws = E := ⟨_, rfl⟩
      rw [hEX] at HX HEE
      simp only [calV, spanV] at HX HD
      clear hE hws hmm hL hEX
      refine (HX.out _).mono ?_
      rintro e w3 ⟨⟨vx, rfl, hv1, hv2⟩, hb3⟩
      have HM3 := hide (HM2.out.call hb3)
      have hvf : ∃ ad n cap, vx = .slice ad n cap := by
        by_cases h0 : EX = 0
        · obtain ⟨ad, cap, h, _⟩ := hv1 h0
          exact ⟨_, _, _, h⟩
        · exact ⟨_, _, _, hv2 h0⟩
      obtain ⟨adx, nx, capx, rfl⟩ := hvf
      have HVX := hide (And.intro hv1 hv2)
      clear hb3 p0 p1 hv1 hv2
      clear q0 q1 q2 q3 q4 q5 q6 q7 q8 q9 q10 q11 q12 q13
      obtain ⟨q0, q1, q2, q3, q4, q5, q6, q7, q8, q9, q10, q11, q12, q13⟩ := HM3.out.1
      obtain ⟨p0, p1⟩ := HM3.out.2.1
      have hz3 := HM3.out.2.2.1
      have hy3 : w.heap.size < w3.heap.size := by omega
      go_wp2_with fail
      refine (HD.out _).mono ?_
      rintro e w4 ⟨⟨gd, rfl, hlg, _⟩, hb4⟩
      have HM4 := hide (HM3.out.call hb4)
      have HB34 := hide hb4
      have HLG := hide hlg
      clear hb4 p0 p1 hlg
      clear q0 q1 q2 q3 q4 q5 q6 q7 q8 q9 q10 q11 q12 q13
      by_cases hEX : EX = 0
      rotate_left
      · have hn := HVX.out.2 hEX
        have h2 : EX = 2 := by rw [HEE.out]; exact HE2.out (by rw [← HEE.out]; exact hEX)
        subst h2
        cases hn
        have hBel := HM4.out.2.2.2
        go_wp2
        go_ret
        exact ⟨by first | rfl | exact ret_bool (by simp), hBel⟩
      have HRX := hide (HVX.out.1 hEX)
      have HALL := hide (HEA.out (by rw [← HEE.out]; exact hEX))
      subst hEX
      obtain ⟨adx', capx', e0, _⟩ := HRX.out
      cases e0
      obtain ⟨p0, p1⟩ := HM4.out.2.1
      have hz4 := HM4.out.2.2.1
      have hln : (L.length != m) = false := by rw [HLL.out, hdl]; simp
      have hLm : L.length = m := by rw [HLL.out, hdl]
      have HLM := hide hLm
      rw [hLm]
      have hx0 : ∀ x ∈ ws, 0 ≤ x := fun x hx => by have := hdf.2 x hx; omega
      have HX1 := hide (fun x (hx : x ∈ ws) => show 1 ≤ x ∧ x ≤ s.b - s.a + 1 from hdf.2 x hx)
      have HTL := hide (fun (j : Nat) => take_le hx0 j)
      have HSM := hide hdf.1
      have hn0 : 0 < s.b - s.a + 1 := by omega
      have hn1 : s.b - s.a + 1 < 4294967296 := by omega
      rw [hdf.1] at HGT HALL
      have HLOW := hide (fun x h0 h1 => exQ_low (a := a) (x := x) h0 h1 hn0 hn1)
      have HDL := hide (fun x h0 h1 => show exDn a (s.b - s.a + 1) x < 2147483648 from by
        obtain ⟨e1, e2, f1, f2, f3, f4, f5, f6, f7⟩ := ex_facts (n := s.b - s.a + 1) (x := x) h0 h1 hn0 hn1
        refine Nat.lt_of_le_of_lt (exM_le a _) (Nat.lt_of_le_of_lt (Nat.div_le_self _ _) (by omega)))
      have HCK := hide (fun x (hx : x ∈ ws) W => rcheck_yes (exQ a (s.b - s.a + 1) x).1 (exDn a (s.b - s.a + 1) x) W (fit_zero (HALL.out x hx)) (HLOW.out x (hx0 x hx) (HX1.out x hx).2).2.1 (by have := (HLOW.out x (hx0 x hx) (HX1.out x hx).2).2.2.1; omega) (HLOW.out x (hx0 x hx) (HX1.out x hx).2).1)
      have HMK := hide (fun (x : Int) (hx : x ∈ ws) (W : World) => show Calls Tryz.prog 9 #[.int .i64 x, .int .i64 (s.b - s.a + 1)] W fun e w' => e = .returned (.tuple #[ratV ((x.toNat / Nat.gcd x.toNat (s.b - s.a + 1).toNat : Nat) : Int) (((s.b - s.a + 1).toNat / Nat.gcd x.toNat (s.b - s.a + 1).toNat : Nat) : Int), .int .i64 0]) ∧ Below W.heap.size W w' from by
        obtain ⟨e1, e2, f1, f2, f3, f4, f5, f6, f7⟩ := ex_facts (hx0 x hx) (HX1.out x hx).2 hn0 hn1
        have h := rmake_yes x.toNat (s.b - s.a + 1).toNat W f1 (by omega) (by omega)
        rwa [← e1, ← e2] at h)
      have HML := hide (fun (x : Int) (hx : x ∈ ws) (W : World) => show Calls Tryz.prog 10 #[ratV a 1, ratV ((x.toNat / Nat.gcd x.toNat (s.b - s.a + 1).toNat : Nat) : Int) (((s.b - s.a + 1).toNat / Nat.gcd x.toNat (s.b - s.a + 1).toNat : Nat) : Int)] W fun e w' => e = .returned (.tuple #[.agg #[.int .i64 (exQ a (s.b - s.a + 1) x).1, .int .i64 (exDn a (s.b - s.a + 1) x : Int)], .int .i64 0]) ∧ Below W.heap.size W w' from by
        obtain ⟨e1, e2, f1, f2, f3, f4, f5, f6, f7⟩ := ex_facts (hx0 x hx) (HX1.out x hx).2 hn0 hn1
        have h := rmul_any a _ _ W HA.out (by omega) f4 (by omega) f7
        have hz : fitE (exN a (x.toNat / Nat.gcd x.toNat (s.b - s.a + 1).toNat) ((s.b - s.a + 1).toNat / Nat.gcd x.toNat (s.b - s.a + 1).toNat)) = 0 := HALL.out x hx
        rw [exV_get a (s.b - s.a + 1) x (HALL.out x hx), hz] at h
        exact h)
      have HAD := hide (fun (T x : Int) (h0 : 0 ≤ T) (hx : x ∈ ws) (h2 : T + x ≤ s.b - s.a + 1) (h64 : in64 (exQ a (s.b - s.a + 1) T).1) (W : World) (hTW : TabW W) => show Calls Tryz.prog 11 #[ratV (exQ a (s.b - s.a + 1) T).1 (exDn a (s.b - s.a + 1) T : Int), ratV (exQ a (s.b - s.a + 1) x).1 (exDn a (s.b - s.a + 1) x : Int)] W fun e w' => e = .returned (.tuple #[if fitE (exQ a (s.b - s.a + 1) (T + x)).1 = 0 then ratV (exQ a (s.b - s.a + 1) (T + x)).1 (exDn a (s.b - s.a + 1) (T + x) : Int) else ratV 0 0, .int .i64 (fitE (exQ a (s.b - s.a + 1) (T + x)).1)]) ∧ Below W.heap.size W w' from by
        have hxb := HX1.out x hx
        obtain ⟨l1, l2, l3, l4⟩ := HLOW.out T h0 (by omega)
        obtain ⟨k1, k2, k3, k4⟩ := HLOW.out x (by omega) hxb.2
        have h := radd_any (exQ a (s.b - s.a + 1) T).1 (exQ a (s.b - s.a + 1) x).1 (exDn a (s.b - s.a + 1) T) (exDn a (s.b - s.a + 1) x) W h64 (fit_zero (HALL.out x hx)) l2 (HDL.out T h0 (by omega)) k2 (HDL.out x (by omega) hxb.2) l1 k1 hTW
        unfold adV at h
        obtain ⟨q1, q2⟩ := exQ_add (a := a) h0 (show 0 ≤ x by omega) h2 hn0 hn1
        rw [q1, q2] at h
        exact h)
      have HNIL := hide (fun x (hx : x ∈ ws) => show ((exQ a (s.b - s.a + 1) x).1 == 0) = (a == 0) from by
        have h := exQ_nil (a := a) (n := s.b - s.a + 1) (x := x) (by have := (HX1.out x hx).1; omega) (HX1.out x hx).2 hn1
        cases h1 : (a == 0)
        · simp at h1 ⊢; exact fun h2 => h1 (h.1 h2)
        · simp at h1 ⊢; exact h.2 h1)
      have HZ0 := hide (exQ_zero (a := a) hn0)
      have HFU := hide (exQ_full (a := a) hn0)
      have HT4 := hide (HT.out.call HM4.out.2.2.2)
      have HR4 := hide (HRX.out.call HB34.out)
      have HB4 := hide HM4.out.2.2.2
      obtain ⟨n, hnn⟩ : ∃ n, s.b - s.a + 1 = n := ⟨_, rfl⟩
      have hwn : wrap64 (s.b - s.a + 1) = n := by rw [← hnn]; unfold wrap64; omega
      rw [hnn] at HX1 HSM HGT HALL HLOW HDL HCK HMK HML HAD HNIL HZ0 HFU hn0 hn1
      have H14 := hide (show 0 ≤ (0 : Int) ∧ (0 : Int) ≤ (ws.take 0).sum ∧ (true = true → (0 : Int) = (ws.take 0).sum) ∧ in64 (exQ a n 0).1 ∧ BlkIs (w4.alloc (.cells #[.int .i64 0, .int .i64 1] 37)) w4.heap.size #[.int .i64 (exQ a n 0).1, .int .i64 (exDn a n 0 : Int)] 37 ∧ Below w4.heap.size w4 (w4.alloc (.cells #[.int .i64 0, .int .i64 1] 37)) from by
        have e1 : (exQ a n 0).1 = 0 := by rw [HZ0.out]
        have e2 : ((exDn a n 0 : Nat) : Int) = 1 := by have := exQ_two a n 0; rw [HZ0.out] at this; exact this.symm
        rw [e1, e2]
        exact ⟨by omega, by simp, fun _ => by simp, ⟨by decide, by decide⟩, BlkIs.new w4 _ _, by (repeat' exact bel)⟩)
      clear hx0 hdf hn0
      go_wp2_with fail
      go_loopw [15, 93] (fun s15 s93 wr => ∃ (j : Nat) (T : Int) (b : Bool), s15 = .bool b ∧ s93 = .int .i64 j ∧ j ≤ m ∧ Hid (0 ≤ T ∧ T ≤ (ws.take j).sum ∧ (b = true → T = (ws.take j).sum) ∧ in64 (exQ a n T).1 ∧ BlkIs wr w4.heap.size #[.int .i64 (exQ a n T).1, .int .i64 (exDn a n T : Int)] 37 ∧ Below w4.heap.size w4 wr)) (fun _ s93 _ => (m + 5 - intOf s93).toNat)
      case atStart => exact ⟨0, 0, true, rfl, rfl, Nat.zero_le _, hide ⟨H14.out.1, H14.out.2.1, fun _ => H14.out.2.2.1 trivial, H14.out.2.2.2⟩⟩
      case round =>
        obtain ⟨j, T, b, rfl, rfl, hj, HQ⟩ := hrel
        by_cases hlt : j < m
        · obtain ⟨x, hx⟩ : ∃ x, ws[j]? = some x := ⟨_, List.getElem?_eq_getElem (by omega)⟩
          have hxm := List.mem_of_getElem? hx
          have hxb := HX1.out x hxm
          have HST := hide (sum_take ws j x hx)
          have htl := HTL.out (j + 1)
          rw [HSM.out] at htl
          have hTx : T + x ≤ n := by have h1 := HQ.out.2.1; have h2 := HST.out; omega
          have HLr := hide (HLG.out.call HQ.out.2.2.2.2.2)
          have K14r := hide HQ.out.2.2.2.2.1
          have HBr := hide HQ.out.2.2.2.2.2
          obtain ⟨adx'', capx'', e0, hcx⟩ := HR4.out.call HBr.out
          cases e0
          obtain ⟨gx, hgx, hgl, c0, c1⟩ := hcx j _ (HGT.out j x hx)
          subst hgx
          replace c1 : wr.cell? ⟨gx, j * 2 + 1, none⟩ = some (.int .i64 (exDn a n x : Int)) := c1
          have HCKx := hide (HCK.out x hxm)
          have HMKx := hide (HMK.out x hxm)
          have HMLx := hide (HML.out x hxm)
          have HADx := hide (HAD.out T x HQ.out.1 hxm hTx HQ.out.2.2.2.1)
          have hnil := HNIL.out x hxm
          have HXX := hide hx
          have hi1 : (0 : Int) ≤ (j : Int) := by omega
          have hi3 : (j : Int) < (m : Int) := by omega
          have HQ0 := hide (show 0 ≤ T + x ∧ (b = true → T + x = (ws.take (j + 1)).sum) ∧ T + x ≤ (ws.take (j + 1)).sum ∧ T ≤ (ws.take (j + 1)).sum from by
            obtain ⟨q1, q2, q3, _⟩ := HQ.out
            have h2 := HST.out
            exact ⟨by omega, fun h => by have := q3 h; omega, by omega, by omega⟩)
          have HQN := hide (show 0 ≤ T ∧ in64 (exQ a n T).1 from ⟨HQ.out.1, HQ.out.2.2.2.1⟩)
          have HUF := hide (fun h => fit_zero (n := (exQ a n (T + x)).1) h)
          obtain ⟨N, hN⟩ : ∃ N, (exQ a n x).1 = N := ⟨_, rfl⟩
          obtain ⟨Dn, hDn⟩ : ∃ N, exDn a n x = N := ⟨_, rfl⟩
          obtain ⟨Pp, hPp⟩ : ∃ N, (exQ a n T).1 = N := ⟨_, rfl⟩
          obtain ⟨Qq, hQq⟩ : ∃ N, exDn a n T = N := ⟨_, rfl⟩
          have HPQ := hide (And.intro hPp hQq)
          obtain ⟨U, hU⟩ : ∃ N, (exQ a n (T + x)).1 = N := ⟨_, rfl⟩
          obtain ⟨M, hM⟩ : ∃ N, exDn a n (T + x) = N := ⟨_, rfl⟩
          have HUM := hide (And.intro hU hM)
          rw [hN, hDn] at HCKx HMLx HADx
          rw [hN] at hnil c0
          rw [hDn] at c1
          rw [hPp, hQq] at K14r HADx
          rw [hU, hM] at HADx
          rw [hU] at HUF
          obtain ⟨Xv, hXv⟩ : ∃ X, x.toNat / Nat.gcd x.toNat n.toNat = X := ⟨_, rfl⟩
          obtain ⟨Dv, hDv⟩ : ∃ X, n.toNat / Nat.gcd x.toNat n.toNat = X := ⟨_, rfl⟩
          rw [hXv, hDv] at HMKx HMLx
          clear hXv hDv
          simp only [ratV] at HCKx HMKx HMLx HADx
          clear hcx hx hN hDn hPp hQq hU hM HQ htl
          have hnn2 : (!((N == 0) == (a == 0))) = false := by rw [hnil]; simp
          clear hnil
          go_wp2_with fail
          all_goals first
            | (exfalso; omega)
            | skip
          refine (HCKx.out _).mono ?_
          rintro e w5 ⟨rfl, hb5⟩
          have K17 := hide ((BlkIs.new wr #[.int .i64 N, .int .i64 (Dn : Int)] 37).call hb5)
          have HB5 := hide (show Below wr.heap.size wr w5 from (ww hb5).out)
          have K14 := hide (K14r.out.call HB5.out)
          have HL5 := hide (HLr.out.call HB5.out)
          have HW5 := hide (show Below w4.heap.size w4 w5 from HBr.out.trans (HB5.out.mono HBr.out.size))
          clear hb5 c0 c1 hgl
          obtain ⟨⟨e0, e1⟩, _, _, ez⟩ := rat_blk K17.out
          have cd := HL5.out.cell HXX.out
          have hgd := HL5.out.lt
          go_wp2_with fail
          all_goals first
            | (exfalso; omega)
            | skip
          refine (HMKx.out _).mono ?_
          rintro e w6 ⟨rfl, hb6⟩
          have K17b := hide (K17.out.call hb6)
          have K14b := hide (K14.out.call hb6)
          have HW6 := hide (show Below w4.heap.size w4 w6 from HW5.out.trans (hb6.mono HW5.out.size))
          have hl6 := K17b.out.lt
          clear hb6 e0 e1 ez cd hgd
          go_wp2_with fail
          refine (HMLx.out _).mono ?_
          rintro e w7 ⟨rfl, hb7⟩
          have K17c := hide (K17b.out.call (ww hb7).out)
          have K14c := hide (K14b.out.call (ww hb7).out)
          have HW7 := hide (show Below w4.heap.size w4 w7 from HW6.out.trans ((ww (n := w6.heap.size) (w := w6) hb7).out.mono HW6.out.size))
          have hl7 := K17c.out.lt
          clear hb7
          obtain ⟨⟨e0, e1⟩, _, _, ez⟩ := rat_blk K17c.out
          obtain ⟨⟨a0, a1⟩, _, _, az⟩ := rat_blk K14c.out
          have hee : (!(N == N && (Dn : Int) == (Dn : Int))) = false := by simp
          go_wp2_with fail
          have HW7b := hide (show Below w4.heap.size w4 (w7.alloc (.cells #[.int .i64 N, .int .i64 (Dn : Int)] 37)) from HW7.out.alloc HW7.out.size _)
          refine (HADx.out _ (HT4.out.call HW7b.out)).mono ?_
          rintro e w8 ⟨rfl, hb8⟩
          have HB8 := hide (show Below w7.heap.size w7 w8 from (ww hb8).out)
          have K14d := hide (K14c.out.call HB8.out)
          have HW8 := hide (show Below w4.heap.size w4 w8 from HW7.out.trans (HB8.out.mono HW7.out.size))
          clear hb8 e0 e1 ez a0 a1 az hee
          by_cases hU : fitE U = 0
          · obtain ⟨⟨a0, a1⟩, f0, f1, az⟩ := rat_blk K14d.out
            have HN := hide (show 0 ≤ T + x ∧ T + x ≤ (ws.take (j + 1)).sum ∧ (b = true → T + x = (ws.take (j + 1)).sum) ∧ in64 (exQ a n (T + x)).1 ∧ BlkIs (((w8.setCell ⟨w4.heap.size, 0, none⟩ (.int .i64 U)).setCell ⟨w4.heap.size, 1, none⟩ (.int .i64 (M : Int))).alloc (.cells #[.int .i64 U, .int .i64 (M : Int)] 37)) w4.heap.size #[.int .i64 (exQ a n (T + x)).1, .int .i64 (exDn a n (T + x) : Int)] 37 ∧ Below w4.heap.size w4 (((w8.setCell ⟨w4.heap.size, 0, none⟩ (.int .i64 U)).setCell ⟨w4.heap.size, 1, none⟩ (.int .i64 (M : Int))).alloc (.cells #[.int .i64 U, .int .i64 (M : Int)] 37)) from by
              rw [HUM.out.1, HUM.out.2]
              exact ⟨HQ0.out.1, HQ0.out.2.2.1, HQ0.out.2.1, HUF.out hU, (blk2_set1 (blk2_set0 K14d.out _) _).alloc _, ((HW8.out.setCell (Nat.le_refl _) _).setCell (Nat.le_refl _) _).alloc (by have h := HW8.out.size; simp; exact h) _⟩)
            rw [if_pos hU, hU]
            clear hU
            go_wp2
            go_roundw
            case rel => exact ⟨j + 1, T + x, b, rfl, by go_num, by omega, HN⟩
            case measure => simp [intOf]; omega
          · have HN := hide (show 0 ≤ T ∧ T ≤ (ws.take (j + 1)).sum ∧ (false = true → T = (ws.take (j + 1)).sum) ∧ in64 (exQ a n T).1 ∧ BlkIs (w8.alloc (.cells #[.int .i64 0, .int .i64 0] 37)) w4.heap.size #[.int .i64 (exQ a n T).1, .int .i64 (exDn a n T : Int)] 37 ∧ Below w4.heap.size w4 (w8.alloc (.cells #[.int .i64 0, .int .i64 0] 37)) from by
              have hin := HQN.out.2
              rw [HPQ.out.1] at hin
              rw [HPQ.out.1, HPQ.out.2]
              exact ⟨HQN.out.1, HQ0.out.2.2.2, fun h => absurd h (by decide), hin, K14d.out.alloc _, HW8.out.alloc HW8.out.size _⟩)
            have hUb : (fitE U == 0) = false := by simpa using hU
            rw [if_neg hU]
            obtain ⟨E, hEE⟩ : ∃ E, fitE U = E := ⟨_, rfl⟩
            rw [hEE] at hUb ⊢
            clear hU hEE
            go_wp2
            go_roundw
            case rel => exact ⟨j + 1, T, false, rfl, by go_num, by omega, HN⟩
            case measure => simp [intOf]; omega
        · obtain rfl : j = m := by omega
          have hBel := HM4.out.2.2.2.trans (HQ.out.2.2.2.2.2.mono HM4.out.2.2.2.size)
          cases b
          · go_wp2
            all_goals first
              | (exfalso; omega)
              | skip
            go_ret
            exact ⟨by first | rfl | exact ret_bool (by simp), hBel⟩
          · have hTn : T = n := by
              have h1 := HQ.out.2.2.1 rfl
              rw [List.take_of_length_le (by omega), HSM.out] at h1
              exact h1
            have KF := hide (show BlkIs wr w4.heap.size #[.int .i64 a, .int .i64 1] 37 from by
              have h := HQ.out.2.2.2.2.1
              have e1 : (exQ a n T).1 = a := by rw [hTn, HFU.out]
              have e2 : ((exDn a n T : Nat) : Int) = 1 := by
                have := exQ_two a n T
                rw [hTn, HFU.out] at this
                rw [hTn]; exact this.symm
              rwa [e1, e2] at h)
            obtain ⟨⟨a0, a1⟩, _, _, az⟩ := rat_blk KF.out
            have haa : (a == a) = true := by simp
            clear hTn
            go_wp2
            all_goals first
              | (exfalso; omega)
              | skip
            go_ret
            exact ⟨by first | rfl | exact ret_bool (by simp), hBel⟩
end Go.Proofs.YtjhhmeoibfdcmaaGreatDoor
