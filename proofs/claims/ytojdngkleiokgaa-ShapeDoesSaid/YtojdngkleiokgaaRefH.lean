/- Contracts of the references: Check, Periods, Quarter (layers 11, 15). -/
import Derived.Test.YtojdngkleiokgaaRefG0
import Derived.Test.YtojdngkleiokgaaRefG10
import Derived.Test.YtojdngkleiokgaaRefG11
import Derived.Test.YtojdngkleiokgaaRefG20
import Derived.Test.YtojdngkleiokgaaRefG21
import Derived.Test.YtojdngkleiokgaaRefG5
namespace Go.Proofs.Ytojdngkleiokgaa
open Go.RowKit Qd
set_option linter.unusedSimpArgs false
set_option linter.unusedVariables false

theorem r11check_any (c : Cal) (w : World) (hn : c.name.size ≤ 1000) :
    Calls Try.prog 42 #[calV c] w fun e w' => e = .returned (.int .i64 (okE c)) ∧ Below w.heap.size w w' := by
  by_cases h : c.served ∧ c.polic ∧ nameB c.name = true
  · by_cases h3 : c.kind = 3
    · exact rcheck_3 c w hn h h3
    by_cases h4 : c.kind = 4
    · exact rcheck_4 c w hn h h4
    by_cases h6 : c.kind = 6
    · exact rcheck_6 c w hn h h6
    by_cases hk : 1 ≤ c.kind ∧ c.kind ≤ 6
    · have hE := okE_rule h
      have r12 := fun hk => ruled_12 (c := c) hk
      have r5 := fun hk => ruled_5 (c := c) hk
      obtain ⟨nm, k, d, m, sh, sp, a, b, p, cy, ex, fi, la, po⟩ := c
      simp only at hn h3 h4 h6 hk r12 r5
      by_cases hk5 : k = 5
      · subst hk5
        by_cases g1 : d = 7
        · by_cases g2 : m = 12
          · by_cases g3 : sh = 0
            · subst g1 g2 g3
              by_cases hc : calShaped (Cal.mk nm 5 7 12 0 sp a b p cy ex fi la po)
              · by_cases hx : ex < 1
                · rw [hE, if_neg (fun hr => by have := ((r5 rfl).1 hr).2.2.2.2.1; omega)]
                  exact rc50l nm sp a b p cy ex fi la po w hn h hc hx
                · by_cases hx2 : manyP sp cy < ex
                  · rw [hE, if_neg (fun hr => by have := ((r5 rfl).1 hr).2.2.2.2.2; omega)]
                    exact rc50g nm sp a b p cy ex fi la po w hn h hc (by omega) hx2
                  · rw [hE, if_pos ((r5 rfl).2 ⟨rfl, rfl, rfl, hc, by omega, by omega⟩)]
                    exact rc50y nm sp a b p cy ex fi la po w hn h hc (by omega) (by omega)
              · rw [hE, if_neg (fun hr => hc ((r5 rfl).1 hr).2.2.2.1)]
                exact rc50n nm sp a b p cy ex fi la po w hn h hc
            · rw [hE, if_neg (fun hr => g3 ((r5 rfl).1 hr).2.2.1)]
              exact rn5c nm d m sh sp a b p cy ex fi la po w hn h g1 g2 g3
          · rw [hE, if_neg (fun hr => g2 ((r5 rfl).1 hr).2.1)]
            exact rn5b nm d m sh sp a b p cy ex fi la po w hn h g1 g2
        · rw [hE, if_neg (fun hr => g1 ((r5 rfl).1 hr).1)]
          exact rn5a nm d m sh sp a b p cy ex fi la po w hn h g1
      · have hk12 : k = 1 ∨ k = 2 := by omega
        have r12 := r12 hk12
        by_cases g1 : d < 1
        · rw [hE, if_neg (fun hr => by have := (r12.1 hr).1; omega)]
          rcases hk12 with rfl | rfl
          · exact rn1a nm d m sh sp a b p cy ex fi la po w hn h g1
          · exact rn2a nm d m sh sp a b p cy ex fi la po w hn h g1
        by_cases g2 : 7 < d
        · rw [hE, if_neg (fun hr => by have := (r12.1 hr).1; omega)]
          rcases hk12 with rfl | rfl
          · exact rn1b nm d m sh sp a b p cy ex fi la po w hn h (by omega) g2
          · exact rn2b nm d m sh sp a b p cy ex fi la po w hn h (by omega) g2
        by_cases g3 : m < 1
        · rw [hE, if_neg (fun hr => by have := (r12.1 hr).2.1; omega)]
          rcases hk12 with rfl | rfl
          · exact rn1c nm d m sh sp a b p cy ex fi la po w hn h (by omega) (by omega) g3
          · exact rn2c nm d m sh sp a b p cy ex fi la po w hn h (by omega) (by omega) g3
        by_cases g4 : 12 < m
        · rw [hE, if_neg (fun hr => by have := (r12.1 hr).2.1; omega)]
          rcases hk12 with rfl | rfl
          · exact rn1d nm d m sh sp a b p cy ex fi la po w hn h (by omega) (by omega) (by omega) g4
          · exact rn2d nm d m sh sp a b p cy ex fi la po w hn h (by omega) (by omega) (by omega) g4
        by_cases g5 : sh = 0 ∨ sh = 1
        · have hd : 1 ≤ d ∧ d ≤ 7 := by omega
          have hm : 1 ≤ m ∧ m ≤ 12 := by omega
          by_cases hc : calShaped (Cal.mk nm k d m sh sp a b p cy ex fi la po)
          · by_cases hx : ex < 1
            · rw [hE, if_neg (fun hr => by have := (r12.1 hr).2.2.2.2.1; omega)]
              rcases hk12 with rfl | rfl <;> rcases g5 with rfl | rfl
              · exact rc10l nm d m sp a b p cy ex fi la po w hn h hd hm hc hx
              · exact rc11l nm d m sp a b p cy ex fi la po w hn h hd hm hc hx
              · exact rc20l nm d m sp a b p cy ex fi la po w hn h hd hm hc hx
              · exact rc21l nm d m sp a b p cy ex fi la po w hn h hd hm hc hx
            · by_cases hx2 : manyP sp cy < ex
              · rw [hE, if_neg (fun hr => by have := (r12.1 hr).2.2.2.2.2; omega)]
                rcases hk12 with rfl | rfl <;> rcases g5 with rfl | rfl
                · exact rc10g nm d m sp a b p cy ex fi la po w hn h hd hm hc (by omega) hx2
                · exact rc11g nm d m sp a b p cy ex fi la po w hn h hd hm hc (by omega) hx2
                · exact rc20g nm d m sp a b p cy ex fi la po w hn h hd hm hc (by omega) hx2
                · exact rc21g nm d m sp a b p cy ex fi la po w hn h hd hm hc (by omega) hx2
              · rw [hE, if_pos (r12.2 ⟨hd, hm, g5, hc, by omega, by omega⟩)]
                rcases hk12 with rfl | rfl <;> rcases g5 with rfl | rfl
                · exact rc10y nm d m sp a b p cy ex fi la po w hn h hd hm hc (by omega) (by omega)
                · exact rc11y nm d m sp a b p cy ex fi la po w hn h hd hm hc (by omega) (by omega)
                · exact rc20y nm d m sp a b p cy ex fi la po w hn h hd hm hc (by omega) (by omega)
                · exact rc21y nm d m sp a b p cy ex fi la po w hn h hd hm hc (by omega) (by omega)
          · rw [hE, if_neg (fun hr => hc (r12.1 hr).2.2.2.1)]
            rcases hk12 with rfl | rfl <;> rcases g5 with rfl | rfl
            · exact rc10n nm d m sp a b p cy ex fi la po w hn h hd hm hc
            · exact rc11n nm d m sp a b p cy ex fi la po w hn h hd hm hc
            · exact rc20n nm d m sp a b p cy ex fi la po w hn h hd hm hc
            · exact rc21n nm d m sp a b p cy ex fi la po w hn h hd hm hc
        · rw [hE, if_neg (fun hr => g5 (r12.1 hr).2.2.1)]
          rcases hk12 with rfl | rfl
          · exact rn1e nm d m sh sp a b p cy ex fi la po w hn h (by omega) (by omega) (by omega) (by omega) g5
          · exact rn2e nm d m sh sp a b p cy ex fi la po w hn h (by omega) (by omega) (by omega) (by omega) g5
    · exact rcheck_n c w hn h hk
  · exact rcheck_pre c w hn h
theorem rmany_ok {c : Cal} (h : c.okB = true) : rmanyP c = perV c := by
  have hk : c.Ok := by simpa [Cal.okB] using h
  have hp : perV c = manyP c.shape c.cycle := by simp [perV, h]
  rw [hp, rmanyP, if_neg]
  obtain ⟨_, _, _, hr⟩ := hk
  intro h2
  simp only [Cal.ruled, Cal.weeks, weeksP, Cal.pat0] at hr
  omega

set_option maxHeartbeats 1600000 in
theorem r11per_any (c : Cal) (w : World) (hn : c.name.size ≤ 1000) :
    Calls Try.prog 30 #[calV c] w fun e w' => e = .returned (.tuple #[.int .i64 (perV c), .int .i64 (okE c)]) ∧ Below w.heap.size w w' := by
  rcases okE_cases c with ⟨_, h1, h2⟩ | ⟨_, h1, h2⟩
  · have HM := hide (rmany_ok h2)
    have HE := hide h1
    clear h1 h2
    simp only [calV]
    go_enter Try.func30, Try.ntmps30
    go_wp2_with fail
    refine (r11check_any c _ hn).mono ?_
    rintro e w1 ⟨rfl, hb1⟩
    rw [HE.out]
    have hz1 : w.heap.size < w1.heap.size := by have := hb1.size; simp at this; omega
    have HB1 := hide (show Below w.heap.size w w1 by refine Below.trans ?_ (hb1.mono (by first | omega | (simp; done) | (simp; omega))); (repeat' (first | (with_reducible exact Below.refl _ _) | (with_reducible assumption) | (with_reducible refine Below.alloc ?_ ?_ _) | (with_reducible refine below_drewN ?_ _) | (with_reducible refine Below.drew ?_) | (with_reducible refine Below.setCell ?_ ?_ _) | (with_reducible refine Below.trans ?_ (Below.mono (by assumption) ?_)) | go_size | (simp at *; omega))))
    have HQ1 := hide (calAt_below hb1 (by simp) (calAt_new w c))
    obtain ⟨q0, q1, q2, q3, q4, q5, q6, q7, q8, q9, q10, q11, q12, q13⟩ := HQ1.out
    clear hb1
    go_wp2_with fail
    refine (rmany_any c _).mono ?_
    rintro e w2 ⟨rfl, hb2⟩
    rw [HM.out]
    have hz2 : w.heap.size < w2.heap.size := by have := hb2.size; (try simp at this); omega
    have HB2 := hide (show Below w.heap.size w w2 by have hp := HB1.out; refine Below.trans ?_ (hb2.mono (by first | omega | (simp; done) | (simp; omega))); (repeat' (first | (with_reducible exact Below.refl _ _) | (with_reducible assumption) | (with_reducible refine Below.alloc ?_ ?_ _) | (with_reducible refine below_drewN ?_ _) | (with_reducible refine Below.drew ?_) | (with_reducible refine Below.setCell ?_ ?_ _) | (with_reducible refine Below.trans ?_ (Below.mono (by assumption) ?_)) | go_size | (simp at *; omega))))
    have HQ2 := hide (show CalAt w2 w.heap.size c from calAt_below hb2 (by first | omega | (simp; done) | (simp; omega)) (by first | exact HQ1.out | exact calAt_alloc HQ1.out (by omega) _ | exact calAt_alloc (calAt_alloc HQ1.out (by omega) _) (by simp; omega) _))
    clear q0 q1 q2 q3 q4 q5 q6 q7 q8 q9 q10 q11 q12 q13
    obtain ⟨q0, q1, q2, q3, q4, q5, q6, q7, q8, q9, q10, q11, q12, q13⟩ := HQ2.out
    clear hb2
    have hBel := HB2.out
    go_wp2
    go_ret2
    exact ⟨ret_int2 rfl HE.out.symm, by (repeat' (first | (with_reducible exact Below.refl _ _) | (with_reducible assumption) | (with_reducible refine Below.alloc ?_ ?_ _) | (with_reducible refine below_drewN ?_ _) | (with_reducible refine Below.drew ?_) | (with_reducible refine Below.setCell ?_ ?_ _) | (with_reducible refine Below.trans ?_ (Below.mono (by assumption) ?_)) | go_size | (simp at *; omega)))⟩
  · have HE := hide h1
    have HP := hide (show perV c = 0 by simp [perV, h2])
    clear h1 h2
    simp only [calV]
    go_enter Try.func30, Try.ntmps30
    go_wp2_with fail
    refine (r11check_any c _ hn).mono ?_
    rintro e w1 ⟨rfl, hb1⟩
    rw [HE.out]
    have hz1 : w.heap.size < w1.heap.size := by have := hb1.size; simp at this; omega
    have HB1 := hide (show Below w.heap.size w w1 by refine Below.trans ?_ (hb1.mono (by first | omega | (simp; done) | (simp; omega))); (repeat' (first | (with_reducible exact Below.refl _ _) | (with_reducible assumption) | (with_reducible refine Below.alloc ?_ ?_ _) | (with_reducible refine below_drewN ?_ _) | (with_reducible refine Below.drew ?_) | (with_reducible refine Below.setCell ?_ ?_ _) | (with_reducible refine Below.trans ?_ (Below.mono (by assumption) ?_)) | go_size | (simp at *; omega))))
    have HQ1 := hide (calAt_below hb1 (by simp) (calAt_new w c))
    obtain ⟨q0, q1, q2, q3, q4, q5, q6, q7, q8, q9, q10, q11, q12, q13⟩ := HQ1.out
    clear hb1
    have hBel := HB1.out
    go_wp2
    go_ret2
    exact ⟨ret_int2 HP.out.symm HE.out.symm, by (repeat' (first | (with_reducible exact Below.refl _ _) | (with_reducible assumption) | (with_reducible refine Below.alloc ?_ ?_ _) | (with_reducible refine below_drewN ?_ _) | (with_reducible refine Below.drew ?_) | (with_reducible refine Below.setCell ?_ ?_ _) | (with_reducible refine Below.trans ?_ (Below.mono (by assumption) ?_)) | go_size | (simp at *; omega)))⟩

set_option maxHeartbeats 3200000 in
theorem r15quarter_any (c : Cal) (p : Int) (w : World) (hn : c.name.size ≤ 1000) :
    Calls Try.prog 9 #[calV c, .int .i64 p] w fun e w' => e = .returned (.tuple #[.int .i64 (qV c p), .int .i64 (qE c p)]) ∧ Below w.heap.size w w' := by
  rcases okE_cases c with ⟨_, h1, h2⟩ | ⟨_, h1, h2⟩
  · have HE := hide h1
    have hpv := per_vals c h2
    have hpb := per_bounds c h2
    by_cases hp : 1 ≤ p ∧ p ≤ perV c
    · have H1 := hide (show qV c p = (4 * p + perV c - 1) / perV c by simp [qV, qOkB, h2, hp.1, hp.2])
      have H2 := hide (show qE c p = 0 by simp [qE, qOkB, h2, hp.1, hp.2])
      have hqb := q_bd hpv hp
      have HQS := hide (fun q hq => q_step (q := q) hpv hp hq)
      obtain ⟨n, hnn⟩ : ∃ n, perV c = n := ⟨_, rfl⟩
      have HN := hide hnn
      rw [hnn] at hp H1 hqb HQS hpb
      obtain ⟨Q, hQ⟩ : ∃ Q, (4 * p + n - 1) / n = Q := ⟨_, rfl⟩
      rw [hQ] at H1 hqb HQS
      obtain ⟨hp1, hp2⟩ := hp
      clear h1 h2 hnn hQ hpv
      simp only [calV]
      go_enter Try.func9, Try.ntmps9
      go_wp2_with fail
      refine (r11per_any c _ hn).mono ?_
      rintro e w1 ⟨rfl, hb1⟩
      rw [HE.out, HN.out]
      have hz1 : w.heap.size < w1.heap.size := by have := hb1.size; simp at this; omega
      have HB1 := hide (show Below w.heap.size w w1 by refine Below.trans ?_ (hb1.mono (by first | omega | (simp; done) | (simp; omega))); (repeat' (first | (with_reducible exact Below.refl _ _) | (with_reducible assumption) | (with_reducible refine Below.alloc ?_ ?_ _) | (with_reducible refine below_drewN ?_ _) | (with_reducible refine Below.drew ?_) | (with_reducible refine Below.setCell ?_ ?_ _) | (with_reducible refine Below.trans ?_ (Below.mono (by assumption) ?_)) | go_size | (simp at *; omega))))
      have HQ1 := hide (calAt_below hb1 (by simp) (calAt_new w c))
      obtain ⟨q0, q1, q2, q3, q4, q5, q6, q7, q8, q9, q10, q11, q12, q13⟩ := HQ1.out
      clear hb1
      have hBel := HB1.out
      go_wp2_with fail
      all_goals first
        | (exfalso; omega)
        | skip
      go_loop [8] (fun s => ∃ q : Int, s = .int .i64 q ∧ 1 ≤ q ∧ q ≤ Q) (fun s => (10 - intOf s).toNat)
      case atStart => exact ⟨1, rfl, by omega, by omega⟩
      case round =>
        obtain ⟨q, rfl, hq1, hq2⟩ := hrel
        have hs := HQS.out q ⟨hq1, by omega⟩
        have hnq : 0 ≤ n * q := Int.mul_nonneg (by omega) (by omega)
        have hnq2 : n * q ≤ 52 * 4 := Int.mul_le_mul (by omega) (by omega) (by omega) (by omega)
        have htd : (n * q).tdiv 4 = n * q / 4 := Int.tdiv_eq_ediv_of_nonneg hnq
        obtain ⟨X, hX⟩ : ∃ X, n * q = X := ⟨_, rfl⟩
        by_cases hlt : q < Q
        · have h3 := hs.2 hlt
          rw [hX] at h3 hnq hnq2 htd
          have hXw : IntKind.i64.wrap (n * q) = X := by rw [hX]; simp [IntKind.wrap, IntKind.bits, IntKind.signed]; omega
          clear hs
          go_wp2
          all_goals first
            | (exfalso; omega)
            | skip
          go_round
          case rel => exact ⟨q + 1, rfl, by omega, by omega⟩
          case measure => simp [intOf]; omega
        · obtain rfl : q = Q := by omega
          have h3 : ¬ n * q / 4 < p := fun h => absurd (hs.1 h) (by omega)
          rw [hX] at h3 hnq hnq2 htd
          have hXw : IntKind.i64.wrap (n * q) = X := by rw [hX]; simp [IntKind.wrap, IntKind.bits, IntKind.signed]; omega
          clear hs
          go_wp2
          all_goals first
            | (exfalso; omega)
            | (go_ret2; exact ⟨ret_int2 H1.out.symm H2.out.symm, by (repeat' (first | (with_reducible exact Below.refl _ _) | (with_reducible assumption) | (with_reducible refine Below.alloc ?_ ?_ _) | (with_reducible refine below_drewN ?_ _) | (with_reducible refine Below.drew ?_) | (with_reducible refine Below.setCell ?_ ?_ _) | (with_reducible refine Below.trans ?_ (Below.mono (by assumption) ?_)) | go_size | (simp at *; omega)))⟩)
    · have hq : qOkB c p = false := by simp [qOkB, h2]; omega
      have H1 := hide (show qV c p = 0 by simp [qV, hq])
      have H2 := hide (show qE c p = 1 by simp [qE, hq])
      obtain ⟨n, hnn⟩ : ∃ n, perV c = n := ⟨_, rfl⟩
      have HN := hide hnn
      rw [hnn] at hp
      clear h1 h2 hnn hpv hpb hq
      simp only [calV]
      rcases (show p < 1 ∨ (1 ≤ p ∧ n < p) by omega) with g | ⟨g, g2⟩
      all_goals
        go_enter Try.func9, Try.ntmps9
        go_wp2_with fail
        refine (r11per_any c _ hn).mono ?_
        rintro e w1 ⟨rfl, hb1⟩
        rw [HE.out, HN.out]
        have hz1 : w.heap.size < w1.heap.size := by have := hb1.size; simp at this; omega
        have HB1 := hide (show Below w.heap.size w w1 by refine Below.trans ?_ (hb1.mono (by first | omega | (simp; done) | (simp; omega))); (repeat' (first | (with_reducible exact Below.refl _ _) | (with_reducible assumption) | (with_reducible refine Below.alloc ?_ ?_ _) | (with_reducible refine below_drewN ?_ _) | (with_reducible refine Below.drew ?_) | (with_reducible refine Below.setCell ?_ ?_ _) | (with_reducible refine Below.trans ?_ (Below.mono (by assumption) ?_)) | go_size | (simp at *; omega))))
        have HQ1 := hide (calAt_below hb1 (by simp) (calAt_new w c))
        obtain ⟨q0, q1, q2, q3, q4, q5, q6, q7, q8, q9, q10, q11, q12, q13⟩ := HQ1.out
        clear hb1
        have hBel := HB1.out
        go_wp2
        all_goals first
          | (exfalso; omega)
          | (go_ret2; exact ⟨ret_int2 H1.out.symm H2.out.symm, by (repeat' (first | (with_reducible exact Below.refl _ _) | (with_reducible assumption) | (with_reducible refine Below.alloc ?_ ?_ _) | (with_reducible refine below_drewN ?_ _) | (with_reducible refine Below.drew ?_) | (with_reducible refine Below.setCell ?_ ?_ _) | (with_reducible refine Below.trans ?_ (Below.mono (by assumption) ?_)) | go_size | (simp at *; omega)))⟩)
  · have HE := hide h1
    have hq : qOkB c p = false := by simp [qOkB, h2]
    have H1 := hide (show qV c p = 0 by simp [qV, hq])
    have H2 := hide (show qE c p = 1 by simp [qE, hq])
    have HP := hide (show perV c = 0 by simp [perV, h2])
    clear h1 h2 hq
    simp only [calV]
    go_enter Try.func9, Try.ntmps9
    go_wp2_with fail
    refine (r11per_any c _ hn).mono ?_
    rintro e w1 ⟨rfl, hb1⟩
    rw [HE.out, HP.out]
    have hz1 : w.heap.size < w1.heap.size := by have := hb1.size; simp at this; omega
    have HB1 := hide (show Below w.heap.size w w1 by refine Below.trans ?_ (hb1.mono (by first | omega | (simp; done) | (simp; omega))); (repeat' (first | (with_reducible exact Below.refl _ _) | (with_reducible assumption) | (with_reducible refine Below.alloc ?_ ?_ _) | (with_reducible refine below_drewN ?_ _) | (with_reducible refine Below.drew ?_) | (with_reducible refine Below.setCell ?_ ?_ _) | (with_reducible refine Below.trans ?_ (Below.mono (by assumption) ?_)) | go_size | (simp at *; omega))))
    have HQ1 := hide (calAt_below hb1 (by simp) (calAt_new w c))
    obtain ⟨q0, q1, q2, q3, q4, q5, q6, q7, q8, q9, q10, q11, q12, q13⟩ := HQ1.out
    clear hb1
    have hBel := HB1.out
    go_wp2
    go_ret2
    exact ⟨ret_int2 H1.out.symm H2.out.symm, by (repeat' (first | (with_reducible exact Below.refl _ _) | (with_reducible assumption) | (with_reducible refine Below.alloc ?_ ?_ _) | (with_reducible refine below_drewN ?_ _) | (with_reducible refine Below.drew ?_) | (with_reducible refine Below.setCell ?_ ?_ _) | (with_reducible refine Below.trans ?_ (Below.mono (by assumption) ?_)) | go_size | (simp at *; omega)))⟩
end Go.Proofs.Ytojdngkleiokgaa
