/- Contracts of the references: when years begin and end (layer 13). -/
import Derived.Test.YtojdngkleiokgaaRefH
import Derived.Test.YtojdngkleiokgaaRefE
import Derived.Test.YtojdngkleiokgaaAnchorB
namespace Go.Proofs.Ytojdngkleiokgaa
open Go.RowKit Qd
set_option linter.unusedSimpArgs false
set_option linter.unusedVariables false

theorem ask_val (c : Cal) (y a : Int) : (okE c = 1 ∧ askE c y a = 1) ∨ (okE c = 0 ∧ (y < a ∨ (a ≤ y ∧ 9997 < y)) ∧ askE c y a = 11) ∨ (okE c = 0 ∧ a ≤ y ∧ y ≤ 9997 ∧ askE c y a = 0) := by
  rcases okE_cases c with ⟨_, h1, h2⟩ | ⟨_, h1, h2⟩
  · by_cases hy : a ≤ y ∧ y ≤ 9997
    · exact .inr (.inr ⟨h1, hy.1, hy.2, by rw [askE, if_pos h2, if_pos hy]⟩)
    · exact .inr (.inl ⟨h1, by omega, by rw [askE, if_pos h2, if_neg hy]⟩)
  · exact .inl ⟨h1, by simp [askE, h2]⟩

set_option maxHeartbeats 1600000 in
theorem r13told_any (c : Cal) (y : Int) (w : World) (hn : c.name.size ≤ 1000) :
    Calls Try.prog 55 #[calV c, .int .i64 y] w fun e w' => e = .returned (.int .i64 (askE c y 1601)) ∧ Below w.heap.size w w' := by
  rcases ask_val c y 1601 with ⟨h1, h2⟩ | ⟨h1, h3, h2⟩ | ⟨h1, h3, h4, h2⟩
  · have HE := hide h1
    have HA := hide h2
    clear h1 h2
    simp only [calV]
    go_enter Try.func55, Try.ntmps55
    go_wp2_with fail
    refine (r11check_any c _ hn).mono ?_
    rintro e w1 ⟨rfl, hb1⟩
    rw [HE.out]
    have hz1 : w.heap.size < w1.heap.size := by have := hb1.size; simp at this; omega
    have HB1 := hide (show Below w.heap.size w w1 by refine Below.trans ?_ (hb1.mono (by first | omega | (simp; done) | (simp; omega))); (repeat' (first | (with_reducible exact Below.refl _ _) | (with_reducible assumption) | (with_reducible refine Below.alloc ?_ ?_ _) | (with_reducible refine below_drewN ?_ _) | (with_reducible refine Below.drew ?_) | (with_reducible refine Below.setCell ?_ ?_ _) | (with_reducible refine Below.trans ?_ (Below.mono (by assumption) ?_)) | go_size | (simp at *; omega))))
    have HQ1 := hide (calAt_below hb1 (by simp) (calAt_new w c))
    obtain ⟨q0, q1, q2, q3, q4, q5, q6, q7, q8, q9, q10, q11, q12, q13⟩ := HQ1.out
    clear hb1
    have hBel := HB1.out
    go_wp2
    go_ret
    exact ⟨ret_int HA.out.symm, by (repeat' (first | (with_reducible exact Below.refl _ _) | (with_reducible assumption) | (with_reducible refine Below.alloc ?_ ?_ _) | (with_reducible refine below_drewN ?_ _) | (with_reducible refine Below.drew ?_) | (with_reducible refine Below.setCell ?_ ?_ _) | (with_reducible refine Below.trans ?_ (Below.mono (by assumption) ?_)) | go_size | (simp at *; omega)))⟩
  · have HE := hide h1
    have HA := hide h2
    clear h1 h2
    simp only [calV]
    rcases h3 with h3 | ⟨h3, h4⟩
    all_goals
      go_enter Try.func55, Try.ntmps55
      go_wp2_with fail
      refine (r11check_any c _ hn).mono ?_
      rintro e w1 ⟨rfl, hb1⟩
      rw [HE.out]
      have hz1 : w.heap.size < w1.heap.size := by have := hb1.size; simp at this; omega
      have HB1 := hide (show Below w.heap.size w w1 by refine Below.trans ?_ (hb1.mono (by first | omega | (simp; done) | (simp; omega))); (repeat' (first | (with_reducible exact Below.refl _ _) | (with_reducible assumption) | (with_reducible refine Below.alloc ?_ ?_ _) | (with_reducible refine below_drewN ?_ _) | (with_reducible refine Below.drew ?_) | (with_reducible refine Below.setCell ?_ ?_ _) | (with_reducible refine Below.trans ?_ (Below.mono (by assumption) ?_)) | go_size | (simp at *; omega))))
      have HQ1 := hide (calAt_below hb1 (by simp) (calAt_new w c))
      obtain ⟨q0, q1, q2, q3, q4, q5, q6, q7, q8, q9, q10, q11, q12, q13⟩ := HQ1.out
      clear hb1
      have hBel := HB1.out
      go_wp2
      all_goals first
        | (exfalso; omega)
        | (go_ret; exact ⟨ret_int HA.out.symm, by (repeat' (first | (with_reducible exact Below.refl _ _) | (with_reducible assumption) | (with_reducible refine Below.alloc ?_ ?_ _) | (with_reducible refine below_drewN ?_ _) | (with_reducible refine Below.drew ?_) | (with_reducible refine Below.setCell ?_ ?_ _) | (with_reducible refine Below.trans ?_ (Below.mono (by assumption) ?_)) | go_size | (simp at *; omega)))⟩)
  · have HE := hide h1
    have HA := hide h2
    clear h1 h2
    simp only [calV]
    go_enter Try.func55, Try.ntmps55
    go_wp2_with fail
    refine (r11check_any c _ hn).mono ?_
    rintro e w1 ⟨rfl, hb1⟩
    rw [HE.out]
    have hz1 : w.heap.size < w1.heap.size := by have := hb1.size; simp at this; omega
    have HB1 := hide (show Below w.heap.size w w1 by refine Below.trans ?_ (hb1.mono (by first | omega | (simp; done) | (simp; omega))); (repeat' (first | (with_reducible exact Below.refl _ _) | (with_reducible assumption) | (with_reducible refine Below.alloc ?_ ?_ _) | (with_reducible refine below_drewN ?_ _) | (with_reducible refine Below.drew ?_) | (with_reducible refine Below.setCell ?_ ?_ _) | (with_reducible refine Below.trans ?_ (Below.mono (by assumption) ?_)) | go_size | (simp at *; omega))))
    have HQ1 := hide (calAt_below hb1 (by simp) (calAt_new w c))
    obtain ⟨q0, q1, q2, q3, q4, q5, q6, q7, q8, q9, q10, q11, q12, q13⟩ := HQ1.out
    clear hb1
    have hBel := HB1.out
    go_wp2
    all_goals first
      | (exfalso; omega)
      | (go_ret; exact ⟨ret_int HA.out.symm, by (repeat' (first | (with_reducible exact Below.refl _ _) | (with_reducible assumption) | (with_reducible refine Below.alloc ?_ ?_ _) | (with_reducible refine below_drewN ?_ _) | (with_reducible refine Below.drew ?_) | (with_reducible refine Below.setCell ?_ ?_ _) | (with_reducible refine Below.trans ?_ (Below.mono (by assumption) ?_)) | go_size | (simp at *; omega)))⟩)

set_option maxRecDepth 100000 in
set_option maxHeartbeats 3200000 in
theorem r13end_no (c : Cal) (y : Int) (w : World) (hn : c.name.size ≤ 1000) (hE : ¬ askE c y 1600 = 0) :
    Calls Try.prog 56 #[calV c, .int .i64 y] w fun e w' => e = .returned (.tuple #[.int .i64 (endV c y), .int .i64 (askE c y 1600)]) ∧ Below w.heap.size w w' := by
  have HV := hide (show endV c y = 0 by rw [endV, if_neg hE])
  rcases ask_val c y 1600 with ⟨h1, h2⟩ | ⟨h1, h3, h2⟩ | ⟨h1, h3, h4, h2⟩
  · have HE := hide h1
    have HA := hide h2
    clear h1 h2 hE
    simp only [calV]
    go_enter Try.func56, Try.ntmps56
    go_wp2_with fail
    refine (r11check_any c _ hn).mono ?_
    rintro e w1 ⟨rfl, hb1⟩
    rw [HE.out]
    have hz1 : w.heap.size < w1.heap.size := by have := hb1.size; simp at this; omega
    have HB1 := hide (show Below w.heap.size w w1 by refine Below.trans ?_ (hb1.mono (by first | omega | (simp; done) | (simp; omega))); (repeat' (first | (with_reducible exact Below.refl _ _) | (with_reducible assumption) | (with_reducible refine Below.alloc ?_ ?_ _) | (with_reducible refine below_drewN ?_ _) | (with_reducible refine Below.drew ?_) | (with_reducible refine Below.setCell ?_ ?_ _) | (with_reducible refine Below.trans ?_ (Below.mono (by assumption) ?_)) | go_size | (simp at *; omega))))
    have HQ1 := hide (calAt_below hb1 (by simp) (calAt_new w c))
    obtain ⟨q0, q1, q2, q3, q4, q5, q6, q7, q8, q9, q10, q11, q12, q13⟩ := HQ1.out
    clear hb1
    have hBel := HB1.out
    go_wp2
    go_ret2
    exact ⟨ret_int2 HV.out.symm HA.out.symm, by (repeat' (first | (with_reducible exact Below.refl _ _) | (with_reducible assumption) | (with_reducible refine Below.alloc ?_ ?_ _) | (with_reducible refine below_drewN ?_ _) | (with_reducible refine Below.drew ?_) | (with_reducible refine Below.setCell ?_ ?_ _) | (with_reducible refine Below.trans ?_ (Below.mono (by assumption) ?_)) | go_size | (simp at *; omega)))⟩
  · have HE := hide h1
    have HA := hide h2
    clear h1 h2 hE
    simp only [calV]
    rcases h3 with h3 | ⟨h3, h4⟩
    all_goals
      go_enter Try.func56, Try.ntmps56
      go_wp2_with fail
      refine (r11check_any c _ hn).mono ?_
      rintro e w1 ⟨rfl, hb1⟩
      rw [HE.out]
      have hz1 : w.heap.size < w1.heap.size := by have := hb1.size; simp at this; omega
      have HB1 := hide (show Below w.heap.size w w1 by refine Below.trans ?_ (hb1.mono (by first | omega | (simp; done) | (simp; omega))); (repeat' (first | (with_reducible exact Below.refl _ _) | (with_reducible assumption) | (with_reducible refine Below.alloc ?_ ?_ _) | (with_reducible refine below_drewN ?_ _) | (with_reducible refine Below.drew ?_) | (with_reducible refine Below.setCell ?_ ?_ _) | (with_reducible refine Below.trans ?_ (Below.mono (by assumption) ?_)) | go_size | (simp at *; omega))))
      have HQ1 := hide (calAt_below hb1 (by simp) (calAt_new w c))
      obtain ⟨q0, q1, q2, q3, q4, q5, q6, q7, q8, q9, q10, q11, q12, q13⟩ := HQ1.out
      clear hb1
      have hBel := HB1.out
      go_wp2_with fail
      all_goals first
        | (exfalso; omega)
        | (go_ret2; exact ⟨ret_int2 HV.out.symm HA.out.symm, by (repeat' (first | (with_reducible exact Below.refl _ _) | (with_reducible assumption) | (with_reducible refine Below.alloc ?_ ?_ _) | (with_reducible refine below_drewN ?_ _) | (with_reducible refine Below.drew ?_) | (with_reducible refine Below.setCell ?_ ?_ _) | (with_reducible refine Below.trans ?_ (Below.mono (by assumption) ?_)) | go_size | (simp at *; omega)))⟩)
  · exact absurd h2 hE

set_option maxRecDepth 100000 in
set_option maxHeartbeats 3200000 in
theorem r13end_yes (c : Cal) (y : Int) (w : World) (hn : c.name.size ≤ 1000) (hE : askE c y 1600 = 0) :
    Calls Try.prog 56 #[calV c, .int .i64 y] w fun e w' => e = .returned (.tuple #[.int .i64 (endV c y), .int .i64 (askE c y 1600)]) ∧ Below w.heap.size w w' := by
  obtain ⟨hok, hy1, hy2⟩ := ask_ok hE
  obtain ⟨hm, hs, hk, hd⟩ := ok_rule hok
  have ht : thereB (y + c.shift) c.month = true := by simp [thereB]; omega
  have HE := hide (okE_yes hok)
  have HV := hide (show endV c y = finV c (y + c.shift) by simp [endV, hE])
  have HA := hide hE
  obtain ⟨F, hF⟩ : ∃ F, finV c (y + c.shift) = F := ⟨_, rfl⟩
  rw [hF] at HV
  by_cases k14 : c.kind = 1 ∨ c.kind = 4
  · have hwk : wkE (y + c.shift) c.month c.day = 0 := by simp [wkE, ht]; omega
    have HL := hide (And.intro (show lastV (y + c.shift) c.month c.day = F by rw [← hF]; simp [lastV, hwk, finV, k14]) hwk)
    have hkb : ((c.kind == 1) = true) ∨ ((c.kind == 1) = false ∧ (c.kind == 4) = true) := by rcases k14 with h | h <;> simp [h]
    clear hok hE ht hF hwk k14 hd hm hk
    simp only [calV]
    rcases hkb with k1 | ⟨k1, k2⟩
    all_goals
      go_enter Try.func56, Try.ntmps56
      go_wp2_with fail
      refine (r11check_any c _ hn).mono ?_
      rintro e w1 ⟨rfl, hb1⟩
      rw [HE.out]
      have hz1 : w.heap.size < w1.heap.size := by have := hb1.size; simp at this; omega
      have HB1 := hide (show Below w.heap.size w w1 by refine Below.trans ?_ (hb1.mono (by first | omega | (simp; done) | (simp; omega))); (repeat' (first | (with_reducible exact Below.refl _ _) | (with_reducible assumption) | (with_reducible refine Below.alloc ?_ ?_ _) | (with_reducible refine below_drewN ?_ _) | (with_reducible refine Below.drew ?_) | (with_reducible refine Below.setCell ?_ ?_ _) | (with_reducible refine Below.trans ?_ (Below.mono (by assumption) ?_)) | go_size | (simp at *; omega))))
      have HQ1 := hide (calAt_below hb1 (by simp) (calAt_new w c))
      obtain ⟨q0, q1, q2, q3, q4, q5, q6, q7, q8, q9, q10, q11, q12, q13⟩ := HQ1.out
      clear hb1
      go_wp2_with fail
      all_goals first
        | (exfalso; omega)
        | skip
      refine (r06last_any (y + c.shift) c.month c.day _).mono ?_
      rintro e w2 ⟨rfl, hb2⟩
      rw [HL.out.1, HL.out.2]
      have hz2 : w.heap.size < w2.heap.size := by have := hb2.size; (try simp at this); omega
      have HB2 := hide (show Below w.heap.size w w2 by have hp := HB1.out; refine Below.trans ?_ (hb2.mono (by first | omega | (simp; done) | (simp; omega))); (repeat' (first | (with_reducible exact Below.refl _ _) | (with_reducible assumption) | (with_reducible refine Below.alloc ?_ ?_ _) | (with_reducible refine below_drewN ?_ _) | (with_reducible refine Below.drew ?_) | (with_reducible refine Below.setCell ?_ ?_ _) | (with_reducible refine Below.trans ?_ (Below.mono (by assumption) ?_)) | go_size | (simp at *; omega))))
      have HQ2 := hide (show CalAt w2 w.heap.size c from calAt_below hb2 (by first | omega | (simp; done) | (simp; omega)) (by first | exact HQ1.out | exact calAt_alloc HQ1.out (by omega) _ | exact calAt_alloc (calAt_alloc HQ1.out (by omega) _) (by simp; omega) _))
      clear q0 q1 q2 q3 q4 q5 q6 q7 q8 q9 q10 q11 q12 q13
      obtain ⟨q0, q1, q2, q3, q4, q5, q6, q7, q8, q9, q10, q11, q12, q13⟩ := HQ2.out
      clear hb2
      have hBel := HB2.out
      go_wp2
      go_ret2
      exact ⟨ret_int2 HV.out.symm HA.out.symm, by (repeat' (first | (with_reducible exact Below.refl _ _) | (with_reducible assumption) | (with_reducible refine Below.alloc ?_ ?_ _) | (with_reducible refine below_drewN ?_ _) | (with_reducible refine Below.drew ?_) | (with_reducible refine Below.setCell ?_ ?_ _) | (with_reducible refine Below.trans ?_ (Below.mono (by assumption) ?_)) | go_size | (simp at *; omega)))⟩
  · by_cases k6 : c.kind = 6
    · have hld : dateB (y + c.shift) c.month (lenV (y + c.shift) c.month) = true := end_date _ _ ht
      have HL := hide (And.intro (show dayV (y + c.shift) c.month (lenV (y + c.shift) c.month) = F by rw [← hF, finV, if_neg k14, if_pos k6, dayV, if_pos hld]; rfl) (show dateE (y + c.shift) c.month (lenV (y + c.shift) c.month) = 0 by rw [dateE, if_pos hld]))
      have k1 : (c.kind == 1) = false := by simp; omega
      have k2 : (c.kind == 4) = false := by simp; omega
      have k3 : (c.kind == 6) = true := by simp [k6]
      obtain ⟨L, hL⟩ : ∃ L, lenV (y + c.shift) c.month = L := ⟨_, rfl⟩
      rw [hL] at HL
      have HLL := hide (And.intro hL (show lenE (y + c.shift) c.month = 0 by simp [lenE, ht]))
      clear hok hE ht hF k14 hd hm hk k6 hld hL
      simp only [calV]
      go_enter Try.func56, Try.ntmps56
      go_wp2_with fail
      refine (r11check_any c _ hn).mono ?_
      rintro e w1 ⟨rfl, hb1⟩
      rw [HE.out]
      have hz1 : w.heap.size < w1.heap.size := by have := hb1.size; simp at this; omega
      have HB1 := hide (show Below w.heap.size w w1 by refine Below.trans ?_ (hb1.mono (by first | omega | (simp; done) | (simp; omega))); (repeat' (first | (with_reducible exact Below.refl _ _) | (with_reducible assumption) | (with_reducible refine Below.alloc ?_ ?_ _) | (with_reducible refine below_drewN ?_ _) | (with_reducible refine Below.drew ?_) | (with_reducible refine Below.setCell ?_ ?_ _) | (with_reducible refine Below.trans ?_ (Below.mono (by assumption) ?_)) | go_size | (simp at *; omega))))
      have HQ1 := hide (calAt_below hb1 (by simp) (calAt_new w c))
      obtain ⟨q0, q1, q2, q3, q4, q5, q6, q7, q8, q9, q10, q11, q12, q13⟩ := HQ1.out
      clear hb1
      go_wp2_with fail
      all_goals first
        | (exfalso; omega)
        | skip
      refine (rlength_any (y + c.shift) c.month _).mono ?_
      rintro e w2 ⟨rfl, rfl⟩
      rw [HLL.out.1, HLL.out.2]
      go_wp2_with fail
      refine (rday_any (y + c.shift) c.month L _).mono ?_
      rintro e w2 ⟨rfl, hb2⟩
      rw [HL.out.1, HL.out.2]
      have hz2 : w.heap.size < w2.heap.size := by have := hb2.size; (try simp at this); omega
      have HB2 := hide (show Below w.heap.size w w2 by have hp := HB1.out; refine Below.trans ?_ (hb2.mono (by first | omega | (simp; done) | (simp; omega))); (repeat' (first | (with_reducible exact Below.refl _ _) | (with_reducible assumption) | (with_reducible refine Below.alloc ?_ ?_ _) | (with_reducible refine below_drewN ?_ _) | (with_reducible refine Below.drew ?_) | (with_reducible refine Below.setCell ?_ ?_ _) | (with_reducible refine Below.trans ?_ (Below.mono (by assumption) ?_)) | go_size | (simp at *; omega))))
      have HQ2 := hide (show CalAt w2 w.heap.size c from calAt_below hb2 (by first | omega | (simp; done) | (simp; omega)) (by first | exact HQ1.out | exact calAt_alloc HQ1.out (by omega) _ | exact calAt_alloc (calAt_alloc HQ1.out (by omega) _) (by simp; omega) _))
      clear q0 q1 q2 q3 q4 q5 q6 q7 q8 q9 q10 q11 q12 q13
      obtain ⟨q0, q1, q2, q3, q4, q5, q6, q7, q8, q9, q10, q11, q12, q13⟩ := HQ2.out
      clear hb2
      have hBel := HB2.out
      go_wp2
      go_ret2
      exact ⟨ret_int2 HV.out.symm HA.out.symm, by (repeat' (first | (with_reducible exact Below.refl _ _) | (with_reducible assumption) | (with_reducible refine Below.alloc ?_ ?_ _) | (with_reducible refine below_drewN ?_ _) | (with_reducible refine Below.drew ?_) | (with_reducible refine Below.setCell ?_ ?_ _) | (with_reducible refine Below.trans ?_ (Below.mono (by assumption) ?_)) | go_size | (simp at *; omega)))⟩
    · have hwk : wkE (y + c.shift) c.month c.day = 0 := by simp [wkE, ht]; omega
      have hlo := end_lo _ _ ht
      have hhi := end_hi _ _ ht (by omega)
      have hnd : -3 ≤ nearD (y + c.shift) c.month c.day ∧ nearD (y + c.shift) c.month c.day ≤ 3 := by unfold nearD; omega
      have hadd : addB (endN (y + c.shift) c.month) (nearD (y + c.shift) c.month c.day) = true := by simp [addB, isB]; omega
      have HL := hide (And.intro (show nearV (y + c.shift) c.month c.day = F by rw [← hF, finV, if_neg k14, if_neg k6, nearV, if_pos hwk, addV, if_pos hadd]) (show nearE (y + c.shift) c.month c.day = 0 by rw [nearE, if_pos hwk, addE, if_pos hadd]))
      have k1 : (c.kind == 1) = false := by simp; omega
      have k2 : (c.kind == 4) = false := by simp; omega
      have k3 : (c.kind == 6) = false := by simp; omega
      clear hok hE ht hF k14 hd hm hk k6 hwk hlo hhi hnd hadd
      simp only [calV]
      go_enter Try.func56, Try.ntmps56
      go_wp2_with fail
      refine (r11check_any c _ hn).mono ?_
      rintro e w1 ⟨rfl, hb1⟩
      rw [HE.out]
      have hz1 : w.heap.size < w1.heap.size := by have := hb1.size; simp at this; omega
      have HB1 := hide (show Below w.heap.size w w1 by refine Below.trans ?_ (hb1.mono (by first | omega | (simp; done) | (simp; omega))); (repeat' (first | (with_reducible exact Below.refl _ _) | (with_reducible assumption) | (with_reducible refine Below.alloc ?_ ?_ _) | (with_reducible refine below_drewN ?_ _) | (with_reducible refine Below.drew ?_) | (with_reducible refine Below.setCell ?_ ?_ _) | (with_reducible refine Below.trans ?_ (Below.mono (by assumption) ?_)) | go_size | (simp at *; omega))))
      have HQ1 := hide (calAt_below hb1 (by simp) (calAt_new w c))
      obtain ⟨q0, q1, q2, q3, q4, q5, q6, q7, q8, q9, q10, q11, q12, q13⟩ := HQ1.out
      clear hb1
      go_wp2_with fail
      all_goals first
        | (exfalso; omega)
        | skip
      refine (r06near_any (y + c.shift) c.month c.day _).mono ?_
      rintro e w2 ⟨rfl, hb2⟩
      rw [HL.out.1, HL.out.2]
      have hz2 : w.heap.size < w2.heap.size := by have := hb2.size; (try simp at this); omega
      have HB2 := hide (show Below w.heap.size w w2 by have hp := HB1.out; refine Below.trans ?_ (hb2.mono (by first | omega | (simp; done) | (simp; omega))); (repeat' (first | (with_reducible exact Below.refl _ _) | (with_reducible assumption) | (with_reducible refine Below.alloc ?_ ?_ _) | (with_reducible refine below_drewN ?_ _) | (with_reducible refine Below.drew ?_) | (with_reducible refine Below.setCell ?_ ?_ _) | (with_reducible refine Below.trans ?_ (Below.mono (by assumption) ?_)) | go_size | (simp at *; omega))))
      have HQ2 := hide (show CalAt w2 w.heap.size c from calAt_below hb2 (by first | omega | (simp; done) | (simp; omega)) (by first | exact HQ1.out | exact calAt_alloc HQ1.out (by omega) _ | exact calAt_alloc (calAt_alloc HQ1.out (by omega) _) (by simp; omega) _))
      clear q0 q1 q2 q3 q4 q5 q6 q7 q8 q9 q10 q11 q12 q13
      obtain ⟨q0, q1, q2, q3, q4, q5, q6, q7, q8, q9, q10, q11, q12, q13⟩ := HQ2.out
      clear hb2
      have hBel := HB2.out
      go_wp2
      go_ret2
      exact ⟨ret_int2 HV.out.symm HA.out.symm, by (repeat' (first | (with_reducible exact Below.refl _ _) | (with_reducible assumption) | (with_reducible refine Below.alloc ?_ ?_ _) | (with_reducible refine below_drewN ?_ _) | (with_reducible refine Below.drew ?_) | (with_reducible refine Below.setCell ?_ ?_ _) | (with_reducible refine Below.trans ?_ (Below.mono (by assumption) ?_)) | go_size | (simp at *; omega)))⟩
theorem r13end_any (c : Cal) (y : Int) (w : World) (hn : c.name.size ≤ 1000) :
    Calls Try.prog 56 #[calV c, .int .i64 y] w fun e w' => e = .returned (.tuple #[.int .i64 (endV c y), .int .i64 (askE c y 1600)]) ∧ Below w.heap.size w w' := by
  by_cases hE : askE c y 1600 = 0
  · exact r13end_yes c y w hn hE
  · exact r13end_no c y w hn hE

theorem start_end {c : Cal} {y : Int} (h : askE c y 1601 = 0) : askE c (y - 1) 1600 = 0 ∧ endV c (y - 1) + 1 = startV c y := by
  obtain ⟨hok, h1, h2⟩ := ask_ok h
  have hk : c.okB = true := by simpa [Cal.okB] using hok
  have h0 : askE c (y - 1) 1600 = 0 := by rw [askE, if_pos hk, if_pos ⟨by omega, by omega⟩]
  exact ⟨h0, by rw [endV, if_pos h0, startV, if_pos h]⟩

set_option maxHeartbeats 1600000 in
theorem r13start_any (c : Cal) (y : Int) (w : World) (hn : c.name.size ≤ 1000) :
    Calls Try.prog 32 #[calV c, .int .i64 y] w fun e w' => e = .returned (.tuple #[.int .i64 (startV c y), .int .i64 (askE c y 1601)]) ∧ Below w.heap.size w w' := by
  by_cases hE : askE c y 1601 = 0
  · obtain ⟨_, hy1, hy2⟩ := ask_ok hE
    obtain ⟨s1, s2⟩ := start_end hE
    have hb := year_bd c y hE
    have HA := hide hE
    obtain ⟨S, hS⟩ : ∃ S, startV c y = S := ⟨_, rfl⟩
    rw [hS] at s2 hb
    have HS := hide (And.intro hS (And.intro (show endV c (y - 1) = S - 1 by omega) s1))
    have hb1' : 0 ≤ S ∧ S ≤ 3068037 := ⟨hb.1, hb.2.1⟩
    clear hE hS s1 s2 hb
    simp only [calV]
    go_enter Try.func32, Try.ntmps32
    go_wp2_with fail
    refine (r13told_any c y _ hn).mono ?_
    rintro e w1 ⟨rfl, hb1⟩
    rw [HA.out]
    have hz1 : w.heap.size < w1.heap.size := by have := hb1.size; simp at this; omega
    have HB1 := hide (show Below w.heap.size w w1 by refine Below.trans ?_ (hb1.mono (by first | omega | (simp; done) | (simp; omega))); (repeat' (first | (with_reducible exact Below.refl _ _) | (with_reducible assumption) | (with_reducible refine Below.alloc ?_ ?_ _) | (with_reducible refine below_drewN ?_ _) | (with_reducible refine Below.drew ?_) | (with_reducible refine Below.setCell ?_ ?_ _) | (with_reducible refine Below.trans ?_ (Below.mono (by assumption) ?_)) | go_size | (simp at *; omega))))
    have HQ1 := hide (calAt_below hb1 (by simp) (calAt_new w c))
    obtain ⟨q0, q1, q2, q3, q4, q5, q6, q7, q8, q9, q10, q11, q12, q13⟩ := HQ1.out
    clear hb1
    go_wp2_with fail
    refine (r13end_any c (y - 1) _ hn).mono ?_
    rintro e w2 ⟨rfl, hb2⟩
    rw [HS.out.2.1, HS.out.2.2]
    have hz2 : w.heap.size < w2.heap.size := by have := hb2.size; (try simp at this); omega
    have HB2 := hide (show Below w.heap.size w w2 by have hp := HB1.out; refine Below.trans ?_ (hb2.mono (by first | omega | (simp; done) | (simp; omega))); (repeat' (first | (with_reducible exact Below.refl _ _) | (with_reducible assumption) | (with_reducible refine Below.alloc ?_ ?_ _) | (with_reducible refine below_drewN ?_ _) | (with_reducible refine Below.drew ?_) | (with_reducible refine Below.setCell ?_ ?_ _) | (with_reducible refine Below.trans ?_ (Below.mono (by assumption) ?_)) | go_size | (simp at *; omega))))
    have HQ2 := hide (show CalAt w2 w.heap.size c from calAt_below hb2 (by first | omega | (simp; done) | (simp; omega)) (by first | exact HQ1.out | exact calAt_alloc HQ1.out (by omega) _ | exact calAt_alloc (calAt_alloc HQ1.out (by omega) _) (by simp; omega) _))
    clear q0 q1 q2 q3 q4 q5 q6 q7 q8 q9 q10 q11 q12 q13
    obtain ⟨q0, q1, q2, q3, q4, q5, q6, q7, q8, q9, q10, q11, q12, q13⟩ := HQ2.out
    clear hb2
    have hBel := HB2.out
    go_wp2
    go_ret2
    exact ⟨ret_int2 (by (rw [HS.out.1]) <;> omega) HA.out.symm, by (repeat' (first | (with_reducible exact Below.refl _ _) | (with_reducible assumption) | (with_reducible refine Below.alloc ?_ ?_ _) | (with_reducible refine below_drewN ?_ _) | (with_reducible refine Below.drew ?_) | (with_reducible refine Below.setCell ?_ ?_ _) | (with_reducible refine Below.trans ?_ (Below.mono (by assumption) ?_)) | go_size | (simp at *; omega)))⟩
  · have HA := hide (show (askE c y 1601 != 0) = true by simpa using hE)
    have HV := hide (show startV c y = 0 by rw [startV, if_neg hE])
    obtain ⟨E, hEE⟩ : ∃ E, askE c y 1601 = E := ⟨_, rfl⟩
    have HE := hide hEE
    rw [hEE] at hE
    have hEb : (E != 0) = true := by simpa using hE
    clear hE hEE HA
    simp only [calV]
    go_enter Try.func32, Try.ntmps32
    go_wp2_with fail
    refine (r13told_any c y _ hn).mono ?_
    rintro e w1 ⟨rfl, hb1⟩
    rw [HE.out]
    have hz1 : w.heap.size < w1.heap.size := by have := hb1.size; simp at this; omega
    have HB1 := hide (show Below w.heap.size w w1 by refine Below.trans ?_ (hb1.mono (by first | omega | (simp; done) | (simp; omega))); (repeat' (first | (with_reducible exact Below.refl _ _) | (with_reducible assumption) | (with_reducible refine Below.alloc ?_ ?_ _) | (with_reducible refine below_drewN ?_ _) | (with_reducible refine Below.drew ?_) | (with_reducible refine Below.setCell ?_ ?_ _) | (with_reducible refine Below.trans ?_ (Below.mono (by assumption) ?_)) | go_size | (simp at *; omega))))
    have HQ1 := hide (calAt_below hb1 (by simp) (calAt_new w c))
    obtain ⟨q0, q1, q2, q3, q4, q5, q6, q7, q8, q9, q10, q11, q12, q13⟩ := HQ1.out
    clear hb1
    have hBel := HB1.out
    go_wp2
    go_ret2
    exact ⟨ret_int2 HV.out.symm HE.out.symm, by (repeat' (first | (with_reducible exact Below.refl _ _) | (with_reducible assumption) | (with_reducible refine Below.alloc ?_ ?_ _) | (with_reducible refine below_drewN ?_ _) | (with_reducible refine Below.drew ?_) | (with_reducible refine Below.setCell ?_ ?_ _) | (with_reducible refine Below.trans ?_ (Below.mono (by assumption) ?_)) | go_size | (simp at *; omega)))⟩

set_option maxHeartbeats 1600000 in
theorem r13days_any (c : Cal) (y : Int) (w : World) (hn : c.name.size ≤ 1000) :
    Calls Try.prog 67 #[calV c, .int .i64 y] w fun e w' => e = .returned (.tuple #[.int .i64 (daysV c y), .int .i64 (askE c y 1601)]) ∧ Below w.heap.size w w' := by
  by_cases hE : askE c y 1601 = 0
  · obtain ⟨_, hy1, hy2⟩ := ask_ok hE
    obtain ⟨s1, s2⟩ := start_end hE
    have hb := year_bd c y hE
    have HA := hide hE
    have hm := ask_mono hE
    have hdd : daysV c y = endV c y - startV c y + 1 := by rw [daysV, if_pos hE]
    obtain ⟨S, hS⟩ : ∃ S, startV c y = S := ⟨_, rfl⟩
    obtain ⟨T, hT⟩ : ∃ S, endV c y = S := ⟨_, rfl⟩
    rw [hS] at s2 hb hdd
    rw [hT] at hb hdd
    have HD := hide hdd
    have HS := hide (And.intro (And.intro hT hm) (And.intro (show endV c (y - 1) = S - 1 by omega) s1))
    have hb1' : 0 ≤ S ∧ S ≤ 3068037 ∧ 0 ≤ T ∧ T ≤ 3068037 := ⟨hb.1, hb.2.1, hb.2.2.1, hb.2.2.2.1⟩
    clear hE hS s1 s2 hb hdd hT hm
    simp only [calV]
    go_enter Try.func67, Try.ntmps67
    go_wp2_with fail
    refine (r13told_any c y _ hn).mono ?_
    rintro e w1 ⟨rfl, hb1⟩
    rw [HA.out]
    have hz1 : w.heap.size < w1.heap.size := by have := hb1.size; simp at this; omega
    have HB1 := hide (show Below w.heap.size w w1 by refine Below.trans ?_ (hb1.mono (by first | omega | (simp; done) | (simp; omega))); (repeat' (first | (with_reducible exact Below.refl _ _) | (with_reducible assumption) | (with_reducible refine Below.alloc ?_ ?_ _) | (with_reducible refine below_drewN ?_ _) | (with_reducible refine Below.drew ?_) | (with_reducible refine Below.setCell ?_ ?_ _) | (with_reducible refine Below.trans ?_ (Below.mono (by assumption) ?_)) | go_size | (simp at *; omega))))
    have HQ1 := hide (calAt_below hb1 (by simp) (calAt_new w c))
    obtain ⟨q0, q1, q2, q3, q4, q5, q6, q7, q8, q9, q10, q11, q12, q13⟩ := HQ1.out
    clear hb1
    go_wp2_with fail
    refine (r13end_any c (y - 1) _ hn).mono ?_
    rintro e w2 ⟨rfl, hb2⟩
    rw [HS.out.2.1, HS.out.2.2]
    have hz2 : w.heap.size < w2.heap.size := by have := hb2.size; (try simp at this); omega
    have HB2 := hide (show Below w.heap.size w w2 by have hp := HB1.out; refine Below.trans ?_ (hb2.mono (by first | omega | (simp; done) | (simp; omega))); (repeat' (first | (with_reducible exact Below.refl _ _) | (with_reducible assumption) | (with_reducible refine Below.alloc ?_ ?_ _) | (with_reducible refine below_drewN ?_ _) | (with_reducible refine Below.drew ?_) | (with_reducible refine Below.setCell ?_ ?_ _) | (with_reducible refine Below.trans ?_ (Below.mono (by assumption) ?_)) | go_size | (simp at *; omega))))
    have HQ2 := hide (show CalAt w2 w.heap.size c from calAt_below hb2 (by first | omega | (simp; done) | (simp; omega)) (by first | exact HQ1.out | exact calAt_alloc HQ1.out (by omega) _ | exact calAt_alloc (calAt_alloc HQ1.out (by omega) _) (by simp; omega) _))
    clear q0 q1 q2 q3 q4 q5 q6 q7 q8 q9 q10 q11 q12 q13
    obtain ⟨q0, q1, q2, q3, q4, q5, q6, q7, q8, q9, q10, q11, q12, q13⟩ := HQ2.out
    clear hb2
    go_wp2_with fail
    refine (r13end_any c y _ hn).mono ?_
    rintro e w3 ⟨rfl, hb3⟩
    rw [HS.out.1.1, HS.out.1.2]
    have hz3 : w.heap.size < w3.heap.size := by have := hb3.size; (try simp at this); omega
    have HB3 := hide (show Below w.heap.size w w3 by have hp := HB2.out; refine Below.trans ?_ (hb3.mono (by first | omega | (simp; done) | (simp; omega))); (repeat' (first | (with_reducible exact Below.refl _ _) | (with_reducible assumption) | (with_reducible refine Below.alloc ?_ ?_ _) | (with_reducible refine below_drewN ?_ _) | (with_reducible refine Below.drew ?_) | (with_reducible refine Below.setCell ?_ ?_ _) | (with_reducible refine Below.trans ?_ (Below.mono (by assumption) ?_)) | go_size | (simp at *; omega))))
    have HQ3 := hide (show CalAt w3 w.heap.size c from calAt_below hb3 (by first | omega | (simp; done) | (simp; omega)) (by first | exact HQ2.out | exact calAt_alloc HQ2.out (by omega) _ | exact calAt_alloc (calAt_alloc HQ2.out (by omega) _) (by simp; omega) _))
    clear q0 q1 q2 q3 q4 q5 q6 q7 q8 q9 q10 q11 q12 q13
    obtain ⟨q0, q1, q2, q3, q4, q5, q6, q7, q8, q9, q10, q11, q12, q13⟩ := HQ3.out
    clear hb3
    have hBel := HB3.out
    go_wp2
    go_ret2
    exact ⟨ret_int2 (by (rw [HD.out]) <;> omega) HA.out.symm, by (repeat' (first | (with_reducible exact Below.refl _ _) | (with_reducible assumption) | (with_reducible refine Below.alloc ?_ ?_ _) | (with_reducible refine below_drewN ?_ _) | (with_reducible refine Below.drew ?_) | (with_reducible refine Below.setCell ?_ ?_ _) | (with_reducible refine Below.trans ?_ (Below.mono (by assumption) ?_)) | go_size | (simp at *; omega)))⟩
  · have HV := hide (show daysV c y = 0 by rw [daysV, if_neg hE])
    obtain ⟨E, hEE⟩ : ∃ E, askE c y 1601 = E := ⟨_, rfl⟩
    have HE := hide hEE
    rw [hEE] at hE
    have hEb : (E != 0) = true := by simpa using hE
    clear hE hEE
    simp only [calV]
    go_enter Try.func67, Try.ntmps67
    go_wp2_with fail
    refine (r13told_any c y _ hn).mono ?_
    rintro e w1 ⟨rfl, hb1⟩
    rw [HE.out]
    have hz1 : w.heap.size < w1.heap.size := by have := hb1.size; simp at this; omega
    have HB1 := hide (show Below w.heap.size w w1 by refine Below.trans ?_ (hb1.mono (by first | omega | (simp; done) | (simp; omega))); (repeat' (first | (with_reducible exact Below.refl _ _) | (with_reducible assumption) | (with_reducible refine Below.alloc ?_ ?_ _) | (with_reducible refine below_drewN ?_ _) | (with_reducible refine Below.drew ?_) | (with_reducible refine Below.setCell ?_ ?_ _) | (with_reducible refine Below.trans ?_ (Below.mono (by assumption) ?_)) | go_size | (simp at *; omega))))
    have HQ1 := hide (calAt_below hb1 (by simp) (calAt_new w c))
    obtain ⟨q0, q1, q2, q3, q4, q5, q6, q7, q8, q9, q10, q11, q12, q13⟩ := HQ1.out
    clear hb1
    have hBel := HB1.out
    go_wp2
    go_ret2
    exact ⟨ret_int2 HV.out.symm HE.out.symm, by (repeat' (first | (with_reducible exact Below.refl _ _) | (with_reducible assumption) | (with_reducible refine Below.alloc ?_ ?_ _) | (with_reducible refine below_drewN ?_ _) | (with_reducible refine Below.drew ?_) | (with_reducible refine Below.setCell ?_ ?_ _) | (with_reducible refine Below.trans ?_ (Below.mono (by assumption) ?_)) | go_size | (simp at *; omega)))⟩

set_option maxHeartbeats 1600000 in
theorem r13weeks_any (c : Cal) (y : Int) (w : World) (hn : c.name.size ≤ 1000) :
    Calls Try.prog 41 #[calV c, .int .i64 y] w fun e w' => e = .returned (.tuple #[.int .i64 (wksV c y), .int .i64 (wksE c y)]) ∧ Below w.heap.size w w' := by
  have hnn := days_nn c y
  rcases okE_cases c with ⟨_, h1, h2⟩ | ⟨_, h1, h2⟩
  · have HE := hide h1
    by_cases hk : c.kind = 6
    · have hkb : (c.kind == 6) = true := by simp [hk]
      have H1 := hide (show wksV c y = 0 by simp [wksV, wksB, hk])
      have H2 := hide (show wksE c y = 1 by simp [wksE, wksB, hk])
      clear h1 h2 hk
      simp only [calV]
      go_enter Try.func41, Try.ntmps41
      go_wp2_with fail
      refine (r11check_any c _ hn).mono ?_
      rintro e w1 ⟨rfl, hb1⟩
      rw [HE.out]
      have hz1 : w.heap.size < w1.heap.size := by have := hb1.size; simp at this; omega
      have HB1 := hide (show Below w.heap.size w w1 by refine Below.trans ?_ (hb1.mono (by first | omega | (simp; done) | (simp; omega))); (repeat' (first | (with_reducible exact Below.refl _ _) | (with_reducible assumption) | (with_reducible refine Below.alloc ?_ ?_ _) | (with_reducible refine below_drewN ?_ _) | (with_reducible refine Below.drew ?_) | (with_reducible refine Below.setCell ?_ ?_ _) | (with_reducible refine Below.trans ?_ (Below.mono (by assumption) ?_)) | go_size | (simp at *; omega))))
      have HQ1 := hide (calAt_below hb1 (by simp) (calAt_new w c))
      obtain ⟨q0, q1, q2, q3, q4, q5, q6, q7, q8, q9, q10, q11, q12, q13⟩ := HQ1.out
      clear hb1
      have hBel := HB1.out
      go_wp2
      go_ret2
      exact ⟨ret_int2 H1.out.symm H2.out.symm, by (repeat' (first | (with_reducible exact Below.refl _ _) | (with_reducible assumption) | (with_reducible refine Below.alloc ?_ ?_ _) | (with_reducible refine below_drewN ?_ _) | (with_reducible refine Below.drew ?_) | (with_reducible refine Below.setCell ?_ ?_ _) | (with_reducible refine Below.trans ?_ (Below.mono (by assumption) ?_)) | go_size | (simp at *; omega)))⟩
    · have hkb : (c.kind == 6) = false := by simpa using hk
      have H1 := hide (show wksV c y = daysV c y / 7 by simp [wksV, wksB, hk, h2])
      have H2 := hide (show wksE c y = askE c y 1601 by simp [wksE, wksB, hk, h2])
      obtain ⟨D, hD⟩ : ∃ D, daysV c y = D := ⟨_, rfl⟩
      obtain ⟨E, hEE⟩ : ∃ E, askE c y 1601 = E := ⟨_, rfl⟩
      rw [hD] at H1 hnn
      rw [hEE] at H2
      have HD := hide (And.intro hD hEE)
      have htd : D.tdiv 7 = D / 7 := Int.tdiv_eq_ediv_of_nonneg hnn.1
      clear h1 h2 hk hD hEE
      simp only [calV]
      go_enter Try.func41, Try.ntmps41
      go_wp2_with fail
      refine (r11check_any c _ hn).mono ?_
      rintro e w1 ⟨rfl, hb1⟩
      rw [HE.out]
      have hz1 : w.heap.size < w1.heap.size := by have := hb1.size; simp at this; omega
      have HB1 := hide (show Below w.heap.size w w1 by refine Below.trans ?_ (hb1.mono (by first | omega | (simp; done) | (simp; omega))); (repeat' (first | (with_reducible exact Below.refl _ _) | (with_reducible assumption) | (with_reducible refine Below.alloc ?_ ?_ _) | (with_reducible refine below_drewN ?_ _) | (with_reducible refine Below.drew ?_) | (with_reducible refine Below.setCell ?_ ?_ _) | (with_reducible refine Below.trans ?_ (Below.mono (by assumption) ?_)) | go_size | (simp at *; omega))))
      have HQ1 := hide (calAt_below hb1 (by simp) (calAt_new w c))
      obtain ⟨q0, q1, q2, q3, q4, q5, q6, q7, q8, q9, q10, q11, q12, q13⟩ := HQ1.out
      clear hb1
      go_wp2_with fail
      refine (r13days_any c y _ hn).mono ?_
      rintro e w2 ⟨rfl, hb2⟩
      rw [HD.out.1, HD.out.2]
      have hz2 : w.heap.size < w2.heap.size := by have := hb2.size; (try simp at this); omega
      have HB2 := hide (show Below w.heap.size w w2 by have hp := HB1.out; refine Below.trans ?_ (hb2.mono (by first | omega | (simp; done) | (simp; omega))); (repeat' (first | (with_reducible exact Below.refl _ _) | (with_reducible assumption) | (with_reducible refine Below.alloc ?_ ?_ _) | (with_reducible refine below_drewN ?_ _) | (with_reducible refine Below.drew ?_) | (with_reducible refine Below.setCell ?_ ?_ _) | (with_reducible refine Below.trans ?_ (Below.mono (by assumption) ?_)) | go_size | (simp at *; omega))))
      have HQ2 := hide (show CalAt w2 w.heap.size c from calAt_below hb2 (by first | omega | (simp; done) | (simp; omega)) (by first | exact HQ1.out | exact calAt_alloc HQ1.out (by omega) _ | exact calAt_alloc (calAt_alloc HQ1.out (by omega) _) (by simp; omega) _))
      clear q0 q1 q2 q3 q4 q5 q6 q7 q8 q9 q10 q11 q12 q13
      obtain ⟨q0, q1, q2, q3, q4, q5, q6, q7, q8, q9, q10, q11, q12, q13⟩ := HQ2.out
      clear hb2
      have hBel := HB2.out
      go_wp2
      go_ret2
      exact ⟨ret_int2 (by rw [H1.out]) H2.out.symm, by (repeat' (first | (with_reducible exact Below.refl _ _) | (with_reducible assumption) | (with_reducible refine Below.alloc ?_ ?_ _) | (with_reducible refine below_drewN ?_ _) | (with_reducible refine Below.drew ?_) | (with_reducible refine Below.setCell ?_ ?_ _) | (with_reducible refine Below.trans ?_ (Below.mono (by assumption) ?_)) | go_size | (simp at *; omega)))⟩
  · have HE := hide h1
    have H1 := hide (show wksV c y = 0 by simp [wksV, wksB, h2])
    have H2 := hide (show wksE c y = 1 by simp [wksE, wksB, h2])
    clear h1 h2
    simp only [calV]
    go_enter Try.func41, Try.ntmps41
    go_wp2_with fail
    refine (r11check_any c _ hn).mono ?_
    rintro e w1 ⟨rfl, hb1⟩
    rw [HE.out]
    have hz1 : w.heap.size < w1.heap.size := by have := hb1.size; simp at this; omega
    have HB1 := hide (show Below w.heap.size w w1 by refine Below.trans ?_ (hb1.mono (by first | omega | (simp; done) | (simp; omega))); (repeat' (first | (with_reducible exact Below.refl _ _) | (with_reducible assumption) | (with_reducible refine Below.alloc ?_ ?_ _) | (with_reducible refine below_drewN ?_ _) | (with_reducible refine Below.drew ?_) | (with_reducible refine Below.setCell ?_ ?_ _) | (with_reducible refine Below.trans ?_ (Below.mono (by assumption) ?_)) | go_size | (simp at *; omega))))
    have HQ1 := hide (calAt_below hb1 (by simp) (calAt_new w c))
    obtain ⟨q0, q1, q2, q3, q4, q5, q6, q7, q8, q9, q10, q11, q12, q13⟩ := HQ1.out
    clear hb1
    have hBel := HB1.out
    go_wp2
    go_ret2
    exact ⟨ret_int2 H1.out.symm H2.out.symm, by (repeat' (first | (with_reducible exact Below.refl _ _) | (with_reducible assumption) | (with_reducible refine Below.alloc ?_ ?_ _) | (with_reducible refine below_drewN ?_ _) | (with_reducible refine Below.drew ?_) | (with_reducible refine Below.setCell ?_ ?_ _) | (with_reducible refine Below.trans ?_ (Below.mono (by assumption) ?_)) | go_size | (simp at *; omega)))⟩
end Go.Proofs.Ytojdngkleiokgaa
