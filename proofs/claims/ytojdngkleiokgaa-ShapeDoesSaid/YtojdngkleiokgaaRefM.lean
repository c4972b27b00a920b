/- Contracts of the references: the added week (layer 15). -/
import Derived.Test.YtojdngkleiokgaaRefL
namespace Go.Proofs.Ytojdngkleiokgaa
open Go.RowKit Qd
set_option linter.unusedSimpArgs false
set_option linter.unusedVariables false

theorem wk_nwk {c : Cal} {y : Int} (hE : askE c y 1601 = 0) (k : Nat) (hk : k < nPer c y) : wkAt c y k = (nwk c y k : Int) ∧ 1 ≤ wkAt c y k ∧ wkAt c y k ≤ 6 := by
  have h := nwk_pos c y hE k hk
  unfold nwk at h ⊢
  omega
theorem added_cum {c : Cal} {y : Int} (hwE : wksE c y = 0) (h53 : wksV c y = 53) : addedV c y = (cumW c y c.extra.toNat : Int) ∧ 1 ≤ c.extra.toNat ∧ c.extra.toNat ≤ nPer c y := by
  obtain ⟨hok, hokB, hk6, hA, _, _, _⟩ := wks_ok hwE
  obtain ⟨x1, x2⟩ := extra_bd hok hk6
  have hlen := ends_len c y hokB
  have hn : (nPer c y : Int) = perV c := hlen
  obtain ⟨m, hm⟩ : ∃ m : Nat, c.extra.toNat = m + 1 := ⟨c.extra.toNat - 1, by omega⟩
  have hc := cum_7 c y hA hk6 (m + 1) (by omega)
  have hf := from_succ c y m
  have e : (c.extra - 1).toNat = m := by omega
  rw [addedV, if_pos ⟨hwE, h53⟩, e, hm]
  refine ⟨by omega, by omega, by omega⟩

set_option maxRecDepth 100000 in
set_option maxHeartbeats 3200000 in
theorem r15added_any (c : Cal) (y : Int) (w : World) (hn : c.name.size ≤ 1000) :
    Calls Try.prog 15 #[calV c, .int .i64 y] w fun e w' => e = .returned (.tuple #[.int .i64 (addedV c y), .int .i64 (wksE c y)]) ∧ Below w.heap.size w w' := by
  rcases okE_cases c with ⟨_, h1, h2⟩ | ⟨_, h1, h2⟩
  · have HE := hide h1
    by_cases hk : c.kind = 6
    · have hkb : (c.kind == 6) = true := by simp [hk]
      have hw : wksE c y = 1 := by simp [wksE, wksB, hk]
      have H1 := hide (show addedV c y = 0 by rw [addedV, if_neg (by omega)])
      have H2 := hide hw
      clear h1 h2 hk hw
      simp only [calV]
      go_enter Try.func15, Try.ntmps15
      go_wp2_with fail
      refine (r11check_any c _ hn).mono ?_
      rintro e w1 ⟨rfl, hb1⟩
      rw [HE.out]
      have hz1 : w.heap.size < w1.heap.size := by have := hb1.size; simp at this; omega
      have HB1 := hide (show Below w.heap.size w w1 by refine Below.trans ?_ (hb1.mono (by first | omega | (simp; done) | (simp; omega))); (repeat' (first | (with_reducible exact Below.refl _ _) | (with_reducible assumption) | (with_reducible refine Below.alloc ?_ ?_ _) | (with_reducible refine below_drewN ?_ _) | (with_reducible refine Below.drew ?_) | (with_reducible refine Below.setCell ?_ ?_ _) | (with_reducible refine Below.trans ?_ (Below.mono (by assumption) ?_)) | go_size | (simp at *; omega))))
      have HQ1 := hide (calAt_below hb1 (by simp) (calAt_new w c))
      obtain ⟨q0, q1, q2, q3, q4, q5, q6, q7, q8, q9, q10, q11, q12, q13⟩ := HQ1.out
      clear hb1
      have hBel := HB1.out
      go_wp2
      go_ret2
      exact ⟨ret_int2 H1.out.symm H2.out.symm, by (repeat' (first | (with_reducible exact Below.refl _ _) | (with_reducible assumption) | (with_reducible refine Below.alloc ?_ ?_ _) | (with_reducible refine below_drewN ?_ _) | (with_reducible refine Below.drew ?_) | (with_reducible refine Below.setCell ?_ ?_ _) | (with_reducible refine Below.trans ?_ (Below.mono (by assumption) ?_)) | go_size | (simp at *; omega)))⟩
    · have hkb : (c.kind == 6) = false := by simpa using hk
      have hwa : wksE c y = askE c y 1601 := by simp [wksE, wksB, hk, h2]
      by_cases hA : askE c y 1601 = 0
      · have hwE : wksE c y = 0 := by rw [hwa]; exact hA
        have hwv := (wks_ok hwE).2.2.2.2.2.1
        have HA := hide hA
        have HWE := hide hwE
        by_cases h52 : wksV c y = 52
        · have H1 := hide (show addedV c y = 0 by rw [addedV, if_neg (by omega)])
          have HWV := hide h52
          clear h1 h2 hk hwa hA hwE hwv h52
          simp only [calV]
          go_enter Try.func15, Try.ntmps15
          go_wp2_with fail
          refine (r11check_any c _ hn).mono ?_
          rintro e w1 ⟨rfl, hb1⟩
          rw [HE.out]
          have hz1 : w.heap.size < w1.heap.size := by have := hb1.size; simp at this; omega
          have HB1 := hide (show Below w.heap.size w w1 by refine Below.trans ?_ (hb1.mono (by first | omega | (simp; done) | (simp; omega))); (repeat' (first | (with_reducible exact Below.refl _ _) | (with_reducible assumption) | (with_reducible refine Below.alloc ?_ ?_ _) | (with_reducible refine below_drewN ?_ _) | (with_reducible refine Below.drew ?_) | (with_reducible refine Below.setCell ?_ ?_ _) | (with_reducible refine Below.trans ?_ (Below.mono (by assumption) ?_)) | go_size | (simp at *; omega))))
          have HQ1 := hide (calAt_below hb1 (by simp) (calAt_new w c))
          obtain ⟨q0, q1, q2, q3, q4, q5, q6, q7, q8, q9, q10, q11, q12, q13⟩ := HQ1.out
          clear hb1
          go_wp2_with fail
          refine (r15weeks_any c y _ hn HA.out).mono ?_
          rintro e w2 ⟨v, rfl, hv, hb2⟩
          obtain ⟨g, cap, rfl, hrow⟩ := hv
          clear hrow
          have hz2 : w.heap.size < w2.heap.size := by have := hb2.size; (try simp at this); omega
          have HB2 := hide (show Below w.heap.size w w2 by have hp := HB1.out; refine Below.trans ?_ (hb2.mono (by first | omega | (simp; done) | (simp; omega))); (repeat' (first | (with_reducible exact Below.refl _ _) | (with_reducible assumption) | (with_reducible refine Below.alloc ?_ ?_ _) | (with_reducible refine below_drewN ?_ _) | (with_reducible refine Below.drew ?_) | (with_reducible refine Below.setCell ?_ ?_ _) | (with_reducible refine Below.trans ?_ (Below.mono (by assumption) ?_)) | go_size | (simp at *; omega))))
          have HQ2 := hide (show CalAt w2 w.heap.size c from calAt_below hb2 (by first | omega | (simp; done) | (simp; omega)) (by first | exact HQ1.out | exact calAt_alloc HQ1.out (by omega) _ | exact calAt_alloc (calAt_alloc HQ1.out (by omega) _) (by simp; omega) _))
          clear q0 q1 q2 q3 q4 q5 q6 q7 q8 q9 q10 q11 q12 q13
          obtain ⟨q0, q1, q2, q3, q4, q5, q6, q7, q8, q9, q10, q11, q12, q13⟩ := HQ2.out
          clear hb2
          go_wp2_with fail
          refine (r13weeks_any c y _ hn).mono ?_
          rintro e w3 ⟨rfl, hb3⟩
          rw [HWV.out, HWE.out]
          have hz3 : w.heap.size < w3.heap.size := by have := hb3.size; (try simp at this); omega
          have HB3 := hide (show Below w.heap.size w w3 by have hp := HB2.out; refine Below.trans ?_ (hb3.mono (by first | omega | (simp; done) | (simp; omega))); (repeat' (first | (with_reducible exact Below.refl _ _) | (with_reducible assumption) | (with_reducible refine Below.alloc ?_ ?_ _) | (with_reducible refine below_drewN ?_ _) | (with_reducible refine Below.drew ?_) | (with_reducible refine Below.setCell ?_ ?_ _) | (with_reducible refine Below.trans ?_ (Below.mono (by assumption) ?_)) | go_size | (simp at *; omega))))
          have HQ3 := hide (show CalAt w3 w.heap.size c from calAt_below hb3 (by first | omega | (simp; done) | (simp; omega)) (by first | exact HQ2.out | exact calAt_alloc HQ2.out (by omega) _ | exact calAt_alloc (calAt_alloc HQ2.out (by omega) _) (by simp; omega) _))
          clear q0 q1 q2 q3 q4 q5 q6 q7 q8 q9 q10 q11 q12 q13
          obtain ⟨q0, q1, q2, q3, q4, q5, q6, q7, q8, q9, q10, q11, q12, q13⟩ := HQ3.out
          clear hb3
          have hBel := HB3.out
          go_wp2
          all_goals first
            | (exfalso; omega)
            | (go_ret2; exact ⟨ret_int2 H1.out.symm HWE.out.symm, by (repeat' (first | (with_reducible exact Below.refl _ _) | (with_reducible assumption) | (with_reducible refine Below.alloc ?_ ?_ _) | (with_reducible refine below_drewN ?_ _) | (with_reducible refine Below.drew ?_) | (with_reducible refine Below.setCell ?_ ?_ _) | (with_reducible refine Below.trans ?_ (Below.mono (by assumption) ?_)) | go_size | (simp at *; omega)))⟩)
        · have h53 : wksV c y = 53 := by omega
          obtain ⟨a1, a2, a3⟩ := added_cum hwE h53
          have H1 := hide a1
          have HWV := hide h53
          have hbd := nPer_bd c y hA
          have hwl := weeks_len c y
          have HWK := hide (fun k (h : k < nPer c y) => wk_nwk hA k h)
          have HGET := hide (fun k (h : k < nPer c y) => (show (weeksL c y)[k]?.getD 0 = wkAt c y k by simp [weeksL, show k < (endsL c y).length from h]))
          have HCS := hide (fun k => (show cumW c y (k + 1) = cumW c y k + nwk c y k from rfl))
          have HCL := hide (fun k (h : k ≤ nPer c y) => (show cumW c y k ≤ 60 from Nat.le_trans (cumW_le c y h) (nWk_bd c y hA).2))
          obtain ⟨X, hX⟩ : ∃ X : Nat, c.extra = (X : Int) := ⟨c.extra.toNat, by omega⟩
          have hXn : c.extra.toNat = X := by omega
          rw [hXn] at H1 a2 a3
          have HX := hide hX
          obtain ⟨N, hN⟩ : ∃ N, (endsL c y).length = N := ⟨_, rfl⟩
          have hNp : nPer c y = N := hN
          rw [hNp] at hbd a3 HWK HGET HCL
          have HN := hide (And.intro (show (weeksL c y).length = N by rw [hwl, hN]) hN)
          have hex1 : ¬ c.extra < 0 := by omega
          have hex2 : c.extra ≤ (N : Int) := by omega
          clear h1 h2 hk hwa hA hwE hwv h52 h53 a1 hwl hN hNp hXn hX
          simp only [calV]
          go_enter Try.func15, Try.ntmps15
          go_wp2_with fail
          refine (r11check_any c _ hn).mono ?_
          rintro e w1 ⟨rfl, hb1⟩
          rw [HE.out]
          have hz1 : w.heap.size < w1.heap.size := by have := hb1.size; simp at this; omega
          have HB1 := hide (show Below w.heap.size w w1 by refine Below.trans ?_ (hb1.mono (by first | omega | (simp; done) | (simp; omega))); (repeat' (first | (with_reducible exact Below.refl _ _) | (with_reducible assumption) | (with_reducible refine Below.alloc ?_ ?_ _) | (with_reducible refine below_drewN ?_ _) | (with_reducible refine Below.drew ?_) | (with_reducible refine Below.setCell ?_ ?_ _) | (with_reducible refine Below.trans ?_ (Below.mono (by assumption) ?_)) | go_size | (simp at *; omega))))
          have HQ1 := hide (calAt_below hb1 (by simp) (calAt_new w c))
          obtain ⟨q0, q1, q2, q3, q4, q5, q6, q7, q8, q9, q10, q11, q12, q13⟩ := HQ1.out
          clear hb1
          go_wp2_with fail
          refine (r15weeks_any c y _ hn HA.out).mono ?_
          rintro e w2 ⟨v, rfl, hv, hb2⟩
          obtain ⟨g, cap, rfl, hrow⟩ := hv
          rw [HN.out.1] at hrow ⊢
          have hrd := rows_rd hrow
          have hcap : N ≤ cap := by
            rcases hrow.2 with ⟨h, _⟩ | ⟨g', cap', cur, he, _, _, h3, _⟩
            · cases h
            · cases he; exact h3
          have HRD2 := hide hrd
          clear hrow hrd
          have hz2 : w.heap.size < w2.heap.size := by have := hb2.size; (try simp at this); omega
          have HB2 := hide (show Below w.heap.size w w2 by have hp := HB1.out; refine Below.trans ?_ (hb2.mono (by first | omega | (simp; done) | (simp; omega))); (repeat' (first | (with_reducible exact Below.refl _ _) | (with_reducible assumption) | (with_reducible refine Below.alloc ?_ ?_ _) | (with_reducible refine below_drewN ?_ _) | (with_reducible refine Below.drew ?_) | (with_reducible refine Below.setCell ?_ ?_ _) | (with_reducible refine Below.trans ?_ (Below.mono (by assumption) ?_)) | go_size | (simp at *; omega))))
          have HQ2 := hide (show CalAt w2 w.heap.size c from calAt_below hb2 (by first | omega | (simp; done) | (simp; omega)) (by first | exact HQ1.out | exact calAt_alloc HQ1.out (by omega) _ | exact calAt_alloc (calAt_alloc HQ1.out (by omega) _) (by simp; omega) _))
          clear q0 q1 q2 q3 q4 q5 q6 q7 q8 q9 q10 q11 q12 q13
          obtain ⟨q0, q1, q2, q3, q4, q5, q6, q7, q8, q9, q10, q11, q12, q13⟩ := HQ2.out
          clear hb2
          go_wp2_with fail
          refine (r13weeks_any c y _ hn).mono ?_
          rintro e w3 ⟨rfl, hb3⟩
          rw [HWV.out, HWE.out]
          have HRD3 := hide (HRD2.out.call hb3)
          have hz3 : w.heap.size < w3.heap.size := by have := hb3.size; (try simp at this); omega
          have HB3 := hide (show Below w.heap.size w w3 by have hp := HB2.out; refine Below.trans ?_ (hb3.mono (by first | omega | (simp; done) | (simp; omega))); (repeat' (first | (with_reducible exact Below.refl _ _) | (with_reducible assumption) | (with_reducible refine Below.alloc ?_ ?_ _) | (with_reducible refine below_drewN ?_ _) | (with_reducible refine Below.drew ?_) | (with_reducible refine Below.setCell ?_ ?_ _) | (with_reducible refine Below.trans ?_ (Below.mono (by assumption) ?_)) | go_size | (simp at *; omega))))
          have HQ3 := hide (show CalAt w3 w.heap.size c from calAt_below hb3 (by first | omega | (simp; done) | (simp; omega)) (by first | exact HQ2.out | exact calAt_alloc HQ2.out (by omega) _ | exact calAt_alloc (calAt_alloc HQ2.out (by omega) _) (by simp; omega) _))
          clear q0 q1 q2 q3 q4 q5 q6 q7 q8 q9 q10 q11 q12 q13
          obtain ⟨q0, q1, q2, q3, q4, q5, q6, q7, q8, q9, q10, q11, q12, q13⟩ := HQ3.out
          clear hb3
          rw [HX.out] at q10
          go_wp2_with fail
          all_goals first
            | (exfalso; omega)
            | skip
          go_loopw [10, 43] (fun s10 s43 wr => ∃ k : Nat, s43 = .int .i64 k ∧ s10 = .int .i64 (cumW c y k : Int) ∧ k ≤ X ∧ Below w.heap.size w wr ∧ RdI wr g (weeksL c y)) (fun _ s _ => (60 - intOf s).toNat)
          case atStart => exact ⟨0, rfl, rfl, by omega, HB3.out, HRD3.out⟩
          case round =>
            obtain ⟨k, rfl, rfl, hk, hBel, hR⟩ := hrel
            have HR := hide hR
            clear hR
            have hcl := HCL.out k (by omega)
            by_cases hlt : k < X
            · have c0 := HR.out.2 k (by have := HN.out.1; omega)
              rw [HGET.out k (by omega)] at c0
              obtain ⟨w1', w2', w3'⟩ := HWK.out k (by omega)
              have hcs := HCS.out k
              obtain ⟨A, hA⟩ : ∃ A, wkAt c y k = A := ⟨_, rfl⟩
              rw [hA] at c0 w1' w2' w3'
              have hcs2 : (cumW c y (k + 1) : Int) = (cumW c y k : Int) + A := by omega
              have HCS2 := hide hcs2
              obtain ⟨Cw, hC⟩ : ∃ Cw, cumW c y k = Cw := ⟨_, rfl⟩
              rw [hC] at HCS2 hcl
              rw [hC]
              have hgr := HR.out.1
              have hi3 : (0 : Int) ≤ (k : Int) := by omega
              have hi4 : (k : Int) < (X : Int) := by omega
              clear hcs hcs2 hA hC w1'
              go_wp2
              all_goals first
                | (exfalso; omega)
                | skip
              go_roundw
              case rel => exact ⟨k + 1, by go_num, by rw [HCS2.out], by omega, by (repeat' (first | (with_reducible exact Below.refl _ _) | (with_reducible assumption) | (with_reducible refine Below.alloc ?_ ?_ _) | (with_reducible refine below_drewN ?_ _) | (with_reducible refine Below.drew ?_) | (with_reducible refine Below.setCell ?_ ?_ _) | (with_reducible refine Below.trans ?_ (Below.mono (by assumption) ?_)) | go_size | (simp at *; omega))), HR.out.call (by (repeat' (first | (with_reducible exact Below.refl _ _) | (with_reducible assumption) | (with_reducible refine Below.alloc ?_ ?_ _) | (with_reducible refine below_drewN ?_ _) | (with_reducible refine Below.drew ?_) | (with_reducible refine Below.setCell ?_ ?_ _) | (with_reducible refine Below.trans ?_ (Below.mono (by assumption) ?_)) | go_size | (simp at *; omega))))⟩
              case measure => simp [intOf]; omega
            · obtain rfl : k = X := by omega
              obtain ⟨Cw, hC⟩ : ∃ Cw, cumW c y k = Cw := ⟨_, rfl⟩
              rw [hC] at H1
              rw [hC]
              clear hC
              go_wp2
              all_goals first
                | (exfalso; omega)
                | (go_ret2; exact ⟨ret_int2 H1.out.symm HWE.out.symm, by (repeat' (first | (with_reducible exact Below.refl _ _) | (with_reducible assumption) | (with_reducible refine Below.alloc ?_ ?_ _) | (with_reducible refine below_drewN ?_ _) | (with_reducible refine Below.drew ?_) | (with_reducible refine Below.setCell ?_ ?_ _) | (with_reducible refine Below.trans ?_ (Below.mono (by assumption) ?_)) | go_size | (simp at *; omega)))⟩)
      · have H1 := hide (show addedV c y = 0 by rw [addedV, if_neg (by omega)])
        have HNE := hide hA
        obtain ⟨E, hEE⟩ : ∃ E, askE c y 1601 = E := ⟨_, rfl⟩
        have HEE := hide hEE
        have HW := hide hwa
        rw [hEE] at hA
        have hEb : (E != 0) = true := by simpa using hA
        clear h1 h2 hk hwa hA hEE
        simp only [calV]
        go_enter Try.func15, Try.ntmps15
        go_wp2_with fail
        refine (r11check_any c _ hn).mono ?_
        rintro e w1 ⟨rfl, hb1⟩
        rw [HE.out]
        have hz1 : w.heap.size < w1.heap.size := by have := hb1.size; simp at this; omega
        have HB1 := hide (show Below w.heap.size w w1 by refine Below.trans ?_ (hb1.mono (by first | omega | (simp; done) | (simp; omega))); (repeat' (first | (with_reducible exact Below.refl _ _) | (with_reducible assumption) | (with_reducible refine Below.alloc ?_ ?_ _) | (with_reducible refine below_drewN ?_ _) | (with_reducible refine Below.drew ?_) | (with_reducible refine Below.setCell ?_ ?_ _) | (with_reducible refine Below.trans ?_ (Below.mono (by assumption) ?_)) | go_size | (simp at *; omega))))
        have HQ1 := hide (calAt_below hb1 (by simp) (calAt_new w c))
        obtain ⟨q0, q1, q2, q3, q4, q5, q6, q7, q8, q9, q10, q11, q12, q13⟩ := HQ1.out
        clear hb1
        go_wp2_with fail
        refine (r15weeks_no c y _ hn HNE.out).mono ?_
        rintro e w2 ⟨rfl, hb2⟩
        rw [HEE.out]
        have hz2 : w.heap.size < w2.heap.size := by have := hb2.size; (try simp at this); omega
        have HB2 := hide (show Below w.heap.size w w2 by have hp := HB1.out; refine Below.trans ?_ (hb2.mono (by first | omega | (simp; done) | (simp; omega))); (repeat' (first | (with_reducible exact Below.refl _ _) | (with_reducible assumption) | (with_reducible refine Below.alloc ?_ ?_ _) | (with_reducible refine below_drewN ?_ _) | (with_reducible refine Below.drew ?_) | (with_reducible refine Below.setCell ?_ ?_ _) | (with_reducible refine Below.trans ?_ (Below.mono (by assumption) ?_)) | go_size | (simp at *; omega))))
        have HQ2 := hide (show CalAt w2 w.heap.size c from calAt_below hb2 (by first | omega | (simp; done) | (simp; omega)) (by first | exact HQ1.out | exact calAt_alloc HQ1.out (by omega) _ | exact calAt_alloc (calAt_alloc HQ1.out (by omega) _) (by simp; omega) _))
        clear q0 q1 q2 q3 q4 q5 q6 q7 q8 q9 q10 q11 q12 q13
        obtain ⟨q0, q1, q2, q3, q4, q5, q6, q7, q8, q9, q10, q11, q12, q13⟩ := HQ2.out
        clear hb2
        have hBel := HB2.out
        go_wp2
        go_ret2
        exact ⟨ret_int2 H1.out.symm (by rw [HW.out, HEE.out]), by (repeat' (first | (with_reducible exact Below.refl _ _) | (with_reducible assumption) | (with_reducible refine Below.alloc ?_ ?_ _) | (with_reducible refine below_drewN ?_ _) | (with_reducible refine Below.drew ?_) | (with_reducible refine Below.setCell ?_ ?_ _) | (with_reducible refine Below.trans ?_ (Below.mono (by assumption) ?_)) | go_size | (simp at *; omega)))⟩
  · have HE := hide h1
    have hw : wksE c y = 1 := by simp [wksE, wksB, h2]
    have H1 := hide (show addedV c y = 0 by rw [addedV, if_neg (by omega)])
    have H2 := hide hw
    clear h1 h2 hw
    simp only [calV]
    go_enter Try.func15, Try.ntmps15
    go_wp2_with fail
    refine (r11check_any c _ hn).mono ?_
    rintro e w1 ⟨rfl, hb1⟩
    rw [HE.out]
    have hz1 : w.heap.size < w1.heap.size := by have := hb1.size; simp at this; omega
    have HB1 := hide (show Below w.heap.size w w1 by refine Below.trans ?_ (hb1.mono (by first | omega | (simp; done) | (simp; omega))); (repeat' (first | (with_reducible exact Below.refl _ _) | (with_reducible assumption) | (with_reducible refine Below.alloc ?_ ?_ _) | (with_reducible refine below_drewN ?_ _) | (with_reducible refine Below.drew ?_) | (with_reducible refine Below.setCell ?_ ?_ _) | (with_reducible refine Below.trans ?_ (Below.mono (by assumption) ?_)) | go_size | (simp at *; omega))))
    have HQ1 := hide (calAt_below hb1 (by simp) (calAt_new w c))
    obtain ⟨q0, q1, q2, q3, q4, q5, q6, q7, q8, q9, q10, q11, q12, q13⟩ := HQ1.out
    clear hb1
    have hBel := HB1.out
    go_wp2
    go_ret2
    exact ⟨ret_int2 H1.out.symm H2.out.symm, by (repeat' (first | (with_reducible exact Below.refl _ _) | (with_reducible assumption) | (with_reducible refine Below.alloc ?_ ?_ _) | (with_reducible refine below_drewN ?_ _) | (with_reducible refine Below.drew ?_) | (with_reducible refine Below.setCell ?_ ?_ _) | (with_reducible refine Below.trans ?_ (Below.mono (by assumption) ?_)) | go_size | (simp at *; omega)))⟩
end Go.Proofs.Ytojdngkleiokgaa
