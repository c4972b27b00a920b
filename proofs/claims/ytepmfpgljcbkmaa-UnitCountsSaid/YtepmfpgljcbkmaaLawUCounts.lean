/- The walk of UnitCounts. -/
import Derived.Test.YtepmfpgljcbkmaaLawUCover
namespace Go.Proofs.Ytepmfpgljcbkmaa
open Go.RowKit Qd
set_option linter.unusedSimpArgs false
set_option linter.unusedVariables false

theorem ceil_q (n p k : Int) (hn : 0 < n) (h1 : n * k < 4 * p) (h2 : 4 * p ≤ n * (k + 1)) : (4 * p + n - 1) / n = k + 1 := by
  have e : 4 * p + n - 1 = (4 * p - n * k - 1) + n * (k + 1) := by rw [Int.mul_add]; omega
  rw [Int.mul_add] at h2
  rw [e, Int.add_mul_ediv_left _ _ (by omega), Int.ediv_eq_zero_of_lt (by omega) (by omega)]
  omega
/-- The quarter of a period. -/
theorem quarter_ix {c : Cal} {y : Int} (hf : frameE c 4 y = 0) (j : Nat) (hj : j < nPer c y) :
    upE c ⟨4, y, (j : Int) + 1⟩ 3 = 0 ∧ upV c ⟨4, y, (j : Int) + 1⟩ 3 = ⟨3, y, qV c ((j : Int) + 1)⟩ ∧ qE c ((j : Int) + 1) = 0 := by
  obtain ⟨hok, hok2, _, _, hy1, hy2, hA⟩ := frame_ok hf
  have hj4 : j < cntL c y 4 := by rw [cnt_4]; exact hj
  obtain ⟨g0, g1, g2⟩ := un_mk hf j hj4
  obtain ⟨k, d0, d1, d2, d3, d4⟩ := up_facts (c := c) (u := ⟨4, y, (j : Int) + 1⟩) (lv := 3) g0 (by omega) (by simp)
  have hab := cutAB g0
  rw [g1] at d3 hab
  rw [g2] at d4 hab
  simp only at d1 d2 d3 d4 hab
  have hnb := nPer_bd c y hA
  have hlen : ((nPer c y : Nat) : Int) = perV c := ends_len c y hok2
  have c4 : ∀ i, cutN c y 4 i = cumW c y i := fun i => by simp [cutN, pcut]
  have c3 : ∀ i, cutN c y 3 i = cumW c y (nPer c y * i / 4) := fun i => by simp [cutN, pcut]
  have key : ∀ q : Nat, q < 4 → nPer c y * q < 4 * (j + 1) → 4 * (j + 1) ≤ nPer c y * (q + 1) → k = q ∧ qV c ((j : Int) + 1) = (q : Int) + 1 ∧ qE c ((j : Int) + 1) = 0 := by
    intro q hq h1 h2
    refine ⟨?_, ?_, ?_⟩
    · refine ix_uniq hA (by omega) (by omega) hab.1 d2 (show q < cntL c y 3 by simp [cntL]; omega) hab.2 d3 d4 ?_ ?_
      · rw [c3, c4]; exact cumW_le c y (by omega)
      · rw [c3, c4]; exact cumW_le c y (by omega)
    · unfold qV
      rw [if_pos (by simp [qOkB, hok2]; omega), ← hlen]
      refine ceil_q _ _ _ (by omega) ?_ ?_
      · have : ((nPer c y * q : Nat) : Int) < ((4 * (j + 1) : Nat) : Int) := by omega
        simpa using this
      · have : ((4 * (j + 1) : Nat) : Int) ≤ ((nPer c y * (q + 1) : Nat) : Int) := by omega
        simpa using this
    · unfold qE
      rw [if_pos (by simp [qOkB, hok2]; omega)]
  have hall : k = 0 ∧ qV c ((j : Int) + 1) = 0 + 1 ∧ qE c ((j : Int) + 1) = 0 ∨ k = 1 ∧ qV c ((j : Int) + 1) = 1 + 1 ∧ qE c ((j : Int) + 1) = 0 ∨ k = 2 ∧ qV c ((j : Int) + 1) = 2 + 1 ∧ qE c ((j : Int) + 1) = 0 ∨ k = 3 ∧ qV c ((j : Int) + 1) = 3 + 1 ∧ qE c ((j : Int) + 1) = 0 := by
    have hc : 4 * (j + 1) ≤ nPer c y ∨ (nPer c y < 4 * (j + 1) ∧ 4 * (j + 1) ≤ 2 * nPer c y) ∨ (2 * nPer c y < 4 * (j + 1) ∧ 4 * (j + 1) ≤ 3 * nPer c y) ∨ (3 * nPer c y < 4 * (j + 1)) := by omega
    rcases hc with h | h | h | h
    · left; exact key 0 (by omega) (by omega) (by omega)
    · right; left; exact key 1 (by omega) (by omega) (by omega)
    · right; right; left; exact key 2 (by omega) (by omega) (by omega)
    · right; right; right; exact key 3 (by omega) (by omega) (by omega)
  refine ⟨d0, ?_, by rcases hall with h | h | h | h <;> exact h.2.2⟩
  rw [d1]
  rcases hall with h | h | h | h <;> (rw [h.1, h.2.1]; rfl)
theorem wk_nwk {c : Cal} {y : Int} (hA : askE c y 1601 = 0) (k : Nat) (hk : k < nPer c y) : wkAt c y k = (nwk c y k : Int) := by
  have := nwk_pos c y hA k hk
  unfold nwk at this ⊢
  omega

set_option maxRecDepth 100000 in
set_option maxHeartbeats 1600000 in
theorem un_long (c : Cal) (y p : Int) (w : World) (hn : 100 < c.name.size) (hm : c.name.size ≤ 9223372036854775807) :
    Calls Try.prog 8 #[calV c, .int .i64 y, .int .i64 p] w fun e w' => e = .returned (.bool true) ∧ Below w.heap.size w w' := by
  simp only [calV]
  go_enter Try.func8, Try.ntmps8
  go_wp2_with fail
  refine (live16_any _).mono ?_
  rintro e w1 ⟨rfl, hb1⟩
  have hz1 : w.heap.size < w1.heap.size := by have := hb1.size; simp at this; omega
  have HB1 := hide (show Below w.heap.size w w1 by refine Below.trans ?_ (hb1.mono (by first | omega | (simp; done) | (simp; omega))); (repeat' (first | (with_reducible exact Below.refl _ _) | (with_reducible assumption) | (with_reducible refine Below.alloc ?_ ?_ _) | (with_reducible refine below_drewN ?_ _) | (with_reducible refine Below.drew ?_) | (with_reducible refine Below.setCell ?_ ?_ _) | (with_reducible refine Below.trans ?_ (Below.mono (by assumption) ?_)) | go_size | (simp at *; omega))))
  have HQ1 := hide (calAt_below hb1 (by simp) (calAt_new w c))
  obtain ⟨q0, q1, q2, q3, q4, q5, q6, q7, q8, q9, q10, q11, q12, q13⟩ := HQ1.out
  clear hb1
  go_wp2
  all_goals first
    | (exfalso; omega)
    | (go_ret; exact ⟨rfl, HB1.out⟩)

set_option maxRecDepth 100000 in
set_option maxHeartbeats 1600000 in
theorem un_no (c : Cal) (y p : Int) (w : World) (hn : c.name.size ≤ 100) (hE : ¬ frameE c 1 y = 0) :
    Calls Try.prog 8 #[calV c, .int .i64 y, .int .i64 p] w fun e w' => e = .returned (.bool true) ∧ Below w.heap.size w w' := by
  have HC := hide (count_no hE)
  have H2 : ∃ f o : Int, f = frameE c 1 y ∧ o = okE c ∧ ((f = 1 ∧ o = 1) ∨ (f = 11 ∧ o = 0)) := by
    refine ⟨_, _, rfl, rfl, ?_⟩
    unfold frameE at hE ⊢
    cases hk : c.okB
    · left; simp [okE, hk]
    · right
      rw [hk] at hE
      simp only [if_true] at hE ⊢
      split at hE
      · split at hE
        · exact absurd rfl hE
        · rename_i h1 h2
          exact ⟨by rw [if_neg h2, if_pos (by omega)], by simp [okE, hk]⟩
      · rename_i h; exact absurd ⟨by omega, by omega⟩ h
  obtain ⟨f, o, hf, ho, hfo⟩ := H2
  have HF := hide hf
  have HO := hide ho
  clear hE hf ho
  simp only [calV]
  go_enter Try.func8, Try.ntmps8
  go_wp2_with fail
  refine (live16_any _).mono ?_
  rintro e w1 ⟨rfl, hb1⟩
  have hz1 : w.heap.size < w1.heap.size := by have := hb1.size; simp at this; omega
  have HB1 := hide (show Below w.heap.size w w1 by refine Below.trans ?_ (hb1.mono (by first | omega | (simp; done) | (simp; omega))); (repeat' (first | (with_reducible exact Below.refl _ _) | (with_reducible assumption) | (with_reducible refine Below.alloc ?_ ?_ _) | (with_reducible refine below_drewN ?_ _) | (with_reducible refine Below.drew ?_) | (with_reducible refine Below.setCell ?_ ?_ _) | (with_reducible refine Below.trans ?_ (Below.mono (by assumption) ?_)) | go_size | (simp at *; omega))))
  have HQ1 := hide (calAt_below hb1 (by simp) (calAt_new w c))
  obtain ⟨q0, q1, q2, q3, q4, q5, q6, q7, q8, q9, q10, q11, q12, q13⟩ := HQ1.out
  clear hb1
  go_wp2_with fail
  all_goals first
    | (exfalso; omega)
    | skip
  refine (count_any c 1 y _ (by omega)).mono ?_
  rintro e w2 ⟨rfl, hb2⟩
  rw [HC.out, ← HF.out]
  have hz2 : w.heap.size < w2.heap.size := by have := hb2.size; (try simp at this); omega
  have HB2 := hide (show Below w.heap.size w w2 by have hp := HB1.out; refine Below.trans ?_ (hb2.mono (by first | omega | (simp; done) | (simp; omega))); (repeat' (first | (with_reducible exact Below.refl _ _) | (with_reducible assumption) | (with_reducible refine Below.alloc ?_ ?_ _) | (with_reducible refine below_drewN ?_ _) | (with_reducible refine Below.drew ?_) | (with_reducible refine Below.setCell ?_ ?_ _) | (with_reducible refine Below.trans ?_ (Below.mono (by assumption) ?_)) | go_size | (simp at *; omega))))
  have HQ2 := hide (show CalAt w2 w.heap.size c from calAt_below hb2 (by first | omega | (simp; done) | (simp; omega)) (by first | exact HQ1.out | exact calAt_alloc HQ1.out (by omega) _ | exact calAt_alloc (calAt_alloc HQ1.out (by omega) _) (by simp; omega) _))
  clear q0 q1 q2 q3 q4 q5 q6 q7 q8 q9 q10 q11 q12 q13
  obtain ⟨q0, q1, q2, q3, q4, q5, q6, q7, q8, q9, q10, q11, q12, q13⟩ := HQ2.out
  clear hb2
  have hBel := HB2.out
  rcases hfo with ⟨rfl, rfl⟩ | ⟨rfl, rfl⟩
  · go_wp2_with (go_at_call 22; refine (check_any c _ (by omega)).mono ?_; rintro e w3 ⟨rfl, hb3⟩; rw [← HO.out]; have hBel3 := hBel.trans (hb3.mono (by omega)))
    all_goals first
      | (exfalso; omega)
      | (go_ret; exact ⟨ret_bool (by simp), by (repeat' (first | (with_reducible exact Below.refl _ _) | (with_reducible assumption) | (with_reducible refine Below.alloc ?_ ?_ _) | (with_reducible refine below_drewN ?_ _) | (with_reducible refine Below.drew ?_) | (with_reducible refine Below.setCell ?_ ?_ _) | (with_reducible refine Below.trans ?_ (Below.mono (by assumption) ?_)) | go_size | (simp at *; omega)))⟩)
      | skip
  · go_wp2_with (go_at_call 22; refine (check_any c _ (by omega)).mono ?_; rintro e w3 ⟨rfl, hb3⟩; rw [← HO.out]; have hBel3 := hBel.trans (hb3.mono (by omega)))
    all_goals first
      | (exfalso; omega)
      | (go_ret; exact ⟨ret_bool (by simp), by (repeat' (first | (with_reducible exact Below.refl _ _) | (with_reducible assumption) | (with_reducible refine Below.alloc ?_ ?_ _) | (with_reducible refine below_drewN ?_ _) | (with_reducible refine Below.drew ?_) | (with_reducible refine Below.setCell ?_ ?_ _) | (with_reducible refine Below.trans ?_ (Below.mono (by assumption) ?_)) | go_size | (simp at *; omega)))⟩)
      | skip

set_option maxRecDepth 100000 in
set_option maxHeartbeats 3200000 in
theorem un_yes (c : Cal) (y p : Int) (w : World) (hn : c.name.size ≤ 100) (hE : frameE c 1 y = 0) :
    Calls Try.prog 8 #[calV c, .int .i64 y, .int .i64 p] w fun e w' => e = .returned (.bool true) ∧ Below w.heap.size w w' := by
  obtain ⟨hok, hok2, _, _, hy1, hy2, hA⟩ := frame_ok hE
  have f2 := frame_lv hE 2 (by omega) (by omega)
  have f3 := frame_lv hE 3 (by omega) (by omega)
  have f4 := frame_lv hE 4 (by omega) (by omega)
  have f5 := frame_lv hE 5 (by omega) (by omega)
  have HF := hide (And.intro hE (And.intro f2 (And.intro f3 (And.intro f4 f5))))
  have hnb := nPer_bd c y hA
  have hwb := nWk_bd c y hA
  have hlen : ((nPer c y : Nat) : Int) = perV c := ends_len c y hok2
  have HQIX := hide (fun j hj => quarter_ix f4 j hj)
  have HWN := hide (fun k hk => wk_nwk hA k hk)
  have HCW := hide (fun k (h : k ≤ nPer c y) => cumW_le c y h)
  have HNW := hide (fun k hk => nwk_pos c y hA k hk)
  have HC := hide (show countV c 1 y = 1 ∧ countV c 2 y = 2 ∧ countV c 3 y = 4 ∧ countV c 4 y = (nPer c y : Int) ∧ countV c 5 y = (nWk c y : Int) by
    refine ⟨?_, ?_, ?_, ?_, ?_⟩
    · rw [count_yes hE]; simp [cntL]
    · rw [count_yes f2]; simp [cntL]
    · rw [count_yes f3]; simp [cntL]
    · rw [count_yes f4]; simp [cntL]
    · rw [count_yes f5]; simp [cntL])
  have HOK := hide (show okE c = 0 by simp [okE, hok2])
  have HA := hide hA
  have HLW := hide (weeks_len c y)
  have HGET := hide (show ∀ k, k < nPer c y → (weeksL c y)[k]?.getD 0 = wkAt c y k from fun k hk => by simp [weeksL, show k < (endsL c y).length from hk])
  have HPV := hide hlen
  obtain ⟨n, hnn⟩ : ∃ n, n = nPer c y := ⟨_, rfl⟩
  have HN := hide hnn
  obtain ⟨m, hmm⟩ : ∃ m, m = nWk c y := ⟨_, rfl⟩
  have HM := hide hmm
  rw [← hnn] at hnb
  rw [← hmm] at hwb
  clear hE hok hok2 hA f2 f3 f4 f5 hlen hnn hmm hy1 hy2
  simp only [calV]
  go_enter Try.func8, Try.ntmps8
  go_wp2_with fail
  refine (live16_any _).mono ?_
  rintro e w1 ⟨rfl, hb1⟩
  have hz1 : w.heap.size < w1.heap.size := by have := hb1.size; simp at this; omega
  have HB1 := hide (show Below w.heap.size w w1 by refine Below.trans ?_ (hb1.mono (by first | omega | (simp; done) | (simp; omega))); (repeat' (first | (with_reducible exact Below.refl _ _) | (with_reducible assumption) | (with_reducible refine Below.alloc ?_ ?_ _) | (with_reducible refine below_drewN ?_ _) | (with_reducible refine Below.drew ?_) | (with_reducible refine Below.setCell ?_ ?_ _) | (with_reducible refine Below.trans ?_ (Below.mono (by assumption) ?_)) | go_size | (simp at *; omega))))
  have HQ1 := hide (calAt_below hb1 (by simp) (calAt_new w c))
  obtain ⟨q0, q1, q2, q3, q4, q5, q6, q7, q8, q9, q10, q11, q12, q13⟩ := HQ1.out
  clear hb1
  go_wp2_with fail
  all_goals first
    | (exfalso; omega)
    | skip
  refine (count_any c 1 y _ (by omega)).mono ?_
  rintro e w2 ⟨rfl, hb2⟩
  rw [HC.out.1, HF.out.1]
  have hz2 : w.heap.size < w2.heap.size := by have := hb2.size; (try simp at this); omega
  have HB2 := hide (show Below w.heap.size w w2 by have hp := HB1.out; refine Below.trans ?_ (hb2.mono (by first | omega | (simp; done) | (simp; omega))); (repeat' (first | (with_reducible exact Below.refl _ _) | (with_reducible assumption) | (with_reducible refine Below.alloc ?_ ?_ _) | (with_reducible refine below_drewN ?_ _) | (with_reducible refine Below.drew ?_) | (with_reducible refine Below.setCell ?_ ?_ _) | (with_reducible refine Below.trans ?_ (Below.mono (by assumption) ?_)) | go_size | (simp at *; omega))))
  have HQ2 := hide (show CalAt w2 w.heap.size c from calAt_below hb2 (by first | omega | (simp; done) | (simp; omega)) (by first | exact HQ1.out | exact calAt_alloc HQ1.out (by omega) _ | exact calAt_alloc (calAt_alloc HQ1.out (by omega) _) (by simp; omega) _))
  clear q0 q1 q2 q3 q4 q5 q6 q7 q8 q9 q10 q11 q12 q13
  obtain ⟨q0, q1, q2, q3, q4, q5, q6, q7, q8, q9, q10, q11, q12, q13⟩ := HQ2.out
  clear hb2
  go_wp2_with fail
  refine (count_any c 2 y _ (by omega)).mono ?_
  rintro e w3 ⟨rfl, hb3⟩
  rw [HC.out.2.1, HF.out.2.1]
  have hz3 : w.heap.size < w3.heap.size := by have := hb3.size; (try simp at this); omega
  have HB3 := hide (show Below w.heap.size w w3 by have hp := HB2.out; refine Below.trans ?_ (hb3.mono (by first | omega | (simp; done) | (simp; omega))); (repeat' (first | (with_reducible exact Below.refl _ _) | (with_reducible assumption) | (with_reducible refine Below.alloc ?_ ?_ _) | (with_reducible refine below_drewN ?_ _) | (with_reducible refine Below.drew ?_) | (with_reducible refine Below.setCell ?_ ?_ _) | (with_reducible refine Below.trans ?_ (Below.mono (by assumption) ?_)) | go_size | (simp at *; omega))))
  have HQ3 := hide (show CalAt w3 w.heap.size c from calAt_below hb3 (by first | omega | (simp; done) | (simp; omega)) (by first | exact HQ2.out | exact calAt_alloc HQ2.out (by omega) _ | exact calAt_alloc (calAt_alloc HQ2.out (by omega) _) (by simp; omega) _))
  clear q0 q1 q2 q3 q4 q5 q6 q7 q8 q9 q10 q11 q12 q13
  obtain ⟨q0, q1, q2, q3, q4, q5, q6, q7, q8, q9, q10, q11, q12, q13⟩ := HQ3.out
  clear hb3
  go_wp2_with fail
  refine (count_any c 3 y _ (by omega)).mono ?_
  rintro e w4 ⟨rfl, hb4⟩
  rw [HC.out.2.2.1, HF.out.2.2.1]
  have hz4 : w.heap.size < w4.heap.size := by have := hb4.size; (try simp at this); omega
  have HB4 := hide (show Below w.heap.size w w4 by have hp := HB3.out; refine Below.trans ?_ (hb4.mono (by first | omega | (simp; done) | (simp; omega))); (repeat' (first | (with_reducible exact Below.refl _ _) | (with_reducible assumption) | (with_reducible refine Below.alloc ?_ ?_ _) | (with_reducible refine below_drewN ?_ _) | (with_reducible refine Below.drew ?_) | (with_reducible refine Below.setCell ?_ ?_ _) | (with_reducible refine Below.trans ?_ (Below.mono (by assumption) ?_)) | go_size | (simp at *; omega))))
  have HQ4 := hide (show CalAt w4 w.heap.size c from calAt_below hb4 (by first | omega | (simp; done) | (simp; omega)) (by first | exact HQ3.out | exact calAt_alloc HQ3.out (by omega) _ | exact calAt_alloc (calAt_alloc HQ3.out (by omega) _) (by simp; omega) _))
  clear q0 q1 q2 q3 q4 q5 q6 q7 q8 q9 q10 q11 q12 q13
  obtain ⟨q0, q1, q2, q3, q4, q5, q6, q7, q8, q9, q10, q11, q12, q13⟩ := HQ4.out
  clear hb4
  go_wp2_with fail
  refine (count_any c 4 y _ (by omega)).mono ?_
  rintro e w5 ⟨rfl, hb5⟩
  rw [HC.out.2.2.2.1, HF.out.2.2.2.1, ← HN.out]
  have hz5 : w.heap.size < w5.heap.size := by have := hb5.size; (try simp at this); omega
  have HB5 := hide (show Below w.heap.size w w5 by have hp := HB4.out; refine Below.trans ?_ (hb5.mono (by first | omega | (simp; done) | (simp; omega))); (repeat' (first | (with_reducible exact Below.refl _ _) | (with_reducible assumption) | (with_reducible refine Below.alloc ?_ ?_ _) | (with_reducible refine below_drewN ?_ _) | (with_reducible refine Below.drew ?_) | (with_reducible refine Below.setCell ?_ ?_ _) | (with_reducible refine Below.trans ?_ (Below.mono (by assumption) ?_)) | go_size | (simp at *; omega))))
  have HQ5 := hide (show CalAt w5 w.heap.size c from calAt_below hb5 (by first | omega | (simp; done) | (simp; omega)) (by first | exact HQ4.out | exact calAt_alloc HQ4.out (by omega) _ | exact calAt_alloc (calAt_alloc HQ4.out (by omega) _) (by simp; omega) _))
  clear q0 q1 q2 q3 q4 q5 q6 q7 q8 q9 q10 q11 q12 q13
  obtain ⟨q0, q1, q2, q3, q4, q5, q6, q7, q8, q9, q10, q11, q12, q13⟩ := HQ5.out
  clear hb5
  go_wp2_with fail
  refine (count_any c 5 y _ (by omega)).mono ?_
  rintro e w6 ⟨rfl, hb6⟩
  rw [HC.out.2.2.2.2, HF.out.2.2.2.2, ← HM.out]
  have hz6 : w.heap.size < w6.heap.size := by have := hb6.size; (try simp at this); omega
  have HB6 := hide (show Below w.heap.size w w6 by have hp := HB5.out; refine Below.trans ?_ (hb6.mono (by first | omega | (simp; done) | (simp; omega))); (repeat' (first | (with_reducible exact Below.refl _ _) | (with_reducible assumption) | (with_reducible refine Below.alloc ?_ ?_ _) | (with_reducible refine below_drewN ?_ _) | (with_reducible refine Below.drew ?_) | (with_reducible refine Below.setCell ?_ ?_ _) | (with_reducible refine Below.trans ?_ (Below.mono (by assumption) ?_)) | go_size | (simp at *; omega))))
  have HQ6 := hide (show CalAt w6 w.heap.size c from calAt_below hb6 (by first | omega | (simp; done) | (simp; omega)) (by first | exact HQ5.out | exact calAt_alloc HQ5.out (by omega) _ | exact calAt_alloc (calAt_alloc HQ5.out (by omega) _) (by simp; omega) _))
  clear q0 q1 q2 q3 q4 q5 q6 q7 q8 q9 q10 q11 q12 q13
  obtain ⟨q0, q1, q2, q3, q4, q5, q6, q7, q8, q9, q10, q11, q12, q13⟩ := HQ6.out
  clear hb6
  go_wp2_with fail
  refine (periods_any c _ (by omega)).mono ?_
  rintro e w7 ⟨rfl, hb7⟩
  rw [HOK.out, ← HPV.out, ← HN.out]
  have hz7 : w.heap.size < w7.heap.size := by have := hb7.size; (try simp at this); omega
  have HB7 := hide (show Below w.heap.size w w7 by have hp := HB6.out; refine Below.trans ?_ (hb7.mono (by first | omega | (simp; done) | (simp; omega))); (repeat' (first | (with_reducible exact Below.refl _ _) | (with_reducible assumption) | (with_reducible refine Below.alloc ?_ ?_ _) | (with_reducible refine below_drewN ?_ _) | (with_reducible refine Below.drew ?_) | (with_reducible refine Below.setCell ?_ ?_ _) | (with_reducible refine Below.trans ?_ (Below.mono (by assumption) ?_)) | go_size | (simp at *; omega))))
  have HQ7 := hide (show CalAt w7 w.heap.size c from calAt_below hb7 (by first | omega | (simp; done) | (simp; omega)) (by first | exact HQ6.out | exact calAt_alloc HQ6.out (by omega) _ | exact calAt_alloc (calAt_alloc HQ6.out (by omega) _) (by simp; omega) _))
  clear q0 q1 q2 q3 q4 q5 q6 q7 q8 q9 q10 q11 q12 q13
  obtain ⟨q0, q1, q2, q3, q4, q5, q6, q7, q8, q9, q10, q11, q12, q13⟩ := HQ7.out
  clear hb7
  go_wp2_with fail
  refine (sweeks_any c y _ (by omega) HA.out).mono ?_
  rintro e w8 ⟨g, hg, rfl, hI, hb8⟩
  have HI := hide hI
  clear hg
  have hz8 : w.heap.size < w8.heap.size := by have := hb8.size; (try simp at this); omega
  have HB8 := hide (show Below w.heap.size w w8 by have hp := HB7.out; refine Below.trans ?_ (hb8.mono (by first | omega | (simp; done) | (simp; omega))); (repeat' (first | (with_reducible exact Below.refl _ _) | (with_reducible assumption) | (with_reducible refine Below.alloc ?_ ?_ _) | (with_reducible refine below_drewN ?_ _) | (with_reducible refine Below.drew ?_) | (with_reducible refine Below.setCell ?_ ?_ _) | (with_reducible refine Below.trans ?_ (Below.mono (by assumption) ?_)) | go_size | (simp at *; omega))))
  have HQ8 := hide (show CalAt w8 w.heap.size c from calAt_below hb8 (by first | omega | (simp; done) | (simp; omega)) (by first | exact HQ7.out | exact calAt_alloc HQ7.out (by omega) _ | exact calAt_alloc (calAt_alloc HQ7.out (by omega) _) (by simp; omega) _))
  clear q0 q1 q2 q3 q4 q5 q6 q7 q8 q9 q10 q11 q12 q13
  obtain ⟨q0, q1, q2, q3, q4, q5, q6, q7, q8, q9, q10, q11, q12, q13⟩ := HQ8.out
  clear hb8
  rw [show (endsL c y).length = n from HN.out.symm]
  clear q0 q1 q2 q3 q4 q5 q6 q7 q8 q9 q10 q11 q12 q13
  clear hI
  go_wp2_with fail
  go_loopw [21, 111] (fun s21 s wr => ∃ k : Nat, s = .int .i64 k ∧ s21 = .int .i64 (cumW c y k : Int) ∧ k ≤ n ∧ Below w8.heap.size w8 wr) (fun _ s _ => (100 - intOf s).toNat)
  case atStart => exact ⟨0, rfl, rfl, by omega, Below.refl _ _⟩
  case round =>
    obtain ⟨k, rfl, rfl, hk, hB⟩ := hrel
    have hlt := hB.size
    have HBB := hide hB
    by_cases hin : k < n
    · have hkc : k < nPer c y := by rw [← HN.out]; exact hin
      have c1 : wr.cell? ⟨g, k, none⟩ = some (.int .i64 (nwk c y k : Int)) := by
        rw [((HI.out).call hB).cell (k := k) (by rw [HLW.out]; exact hkc), HGET.out k hkc, HWN.out k hkc]
      have hw1 := HNW.out k hkc
      have hw2 : cumW c y (k + 1) ≤ m := by rw [HM.out]; exact HCW.out (k + 1) hkc
      have hw3 : cumW c y (k + 1) = cumW c y k + nwk c y k := by rw [cumW]
      have HW3 := hide hw3
      rw [hw3] at hw2
      clear hw3 hkc hB
      go_wp2
      all_goals first
        | (exfalso; omega)
        | exact ⟨⟨k + 1, by go_num, by rw [HW3.out]; first | rfl | simp, by omega, HBB.out⟩, by simp [intOf]; omega⟩
    · obtain rfl : k = n := by omega
      have hcm : cumW c y k = m := (congrArg (cumW c y) HN.out).trans (Eq.trans (show cumW c y (nPer c y) = nWk c y from rfl) HM.out.symm)
      rw [hcm]
      have HQr := hide (show CalAt wr w.heap.size c from calAt_below hB (by omega) HQ8.out)
      have HBr := hide (HB8.out.trans (hB.mono (by omega)))
      have hyr : w.heap.size < wr.heap.size := by omega
      have hBel := HBr.out
      clear hB hcm
      by_cases hp : 1 ≤ p ∧ p ≤ (k : Int)
      · obtain ⟨hp1, hp2⟩ := hp
        obtain ⟨j, rfl⟩ : ∃ j : Nat, p = (j : Int) + 1 := ⟨(p - 1).toNat, by omega⟩
        have hq := HQIX.out j (by rw [← HN.out]; omega)
        obtain ⟨h1, h2, h3⟩ := hq
        have H1 := hide h1
        have H2 := hide h2
        have H3 := hide h3
        clear h1 h2 h3
        obtain ⟨r, hr⟩ : ∃ r, r = qV c ((j : Int) + 1) := ⟨_, rfl⟩
        have HR := hide hr
        clear hr
        obtain ⟨q0, q1, q2, q3, q4, q5, q6, q7, q8, q9, q10, q11, q12, q13⟩ := HQr.out
        have hub : unB 3 y r 3 y r = true := unB_same _ _ _
        go_wp2_with fail
        all_goals first
          | (exfalso; omega)
          | skip
        refine (up_any c ⟨4, y, (j : Int) + 1⟩ 3 _ (by omega)).mono ?_
        rintro e wa ⟨rfl, hba⟩
        rw [H1.out, H2.out, ← HR.out]
        simp only [unitV]
        have HQa := hide (show CalAt wa w.heap.size c from calAt_below hba hyr HQr.out)
        have HBa := hide (HBr.out.trans (hba.mono (by omega)))
        have hya : w.heap.size < wa.heap.size := Nat.lt_of_lt_of_le hyr hba.size
        clear q0 q1 q2 q3 q4 q5 q6 q7 q8 q9 q10 q11 q12 q13
        clear hba
        obtain ⟨q0, q1, q2, q3, q4, q5, q6, q7, q8, q9, q10, q11, q12, q13⟩ := HQa.out
        go_wp2_with fail
        refine (quarter_any c ((j : Int) + 1) _ (by omega)).mono ?_
        rintro e wb ⟨rfl, hbb⟩
        rw [H3.out, ← HR.out]
        have t0 := (unAt_below hbb (by simp) (unAt_fresh wa ⟨3, y, r⟩)).1
        have t1 := (unAt_below hbb (by simp) (unAt_fresh wa ⟨3, y, r⟩)).2.1
        have t2 := (unAt_below hbb (by simp) (unAt_fresh wa ⟨3, y, r⟩)).2.2
        have hBb : Below w.heap.size w wb := by have hp := HBa.out; refine Below.trans ?_ (hbb.mono (by simp; omega)); (repeat' (first | (with_reducible exact Below.refl _ _) | (with_reducible assumption) | (with_reducible refine Below.alloc ?_ ?_ _) | (with_reducible refine below_drewN ?_ _) | (with_reducible refine Below.drew ?_) | (with_reducible refine Below.setCell ?_ ?_ _) | (with_reducible refine Below.trans ?_ (Below.mono (by assumption) ?_)) | go_size | (simp at *; omega)))
        clear q0 q1 q2 q3 q4 q5 q6 q7 q8 q9 q10 q11 q12 q13
        clear hbb hBel
        go_wp2
        all_goals first
          | (exfalso; omega)
          | (go_ret; exact ⟨ret_bool (by simp), by (repeat' (first | (with_reducible exact Below.refl _ _) | (with_reducible assumption) | (with_reducible refine Below.alloc ?_ ?_ _) | (with_reducible refine below_drewN ?_ _) | (with_reducible refine Below.drew ?_) | (with_reducible refine Below.setCell ?_ ?_ _) | (with_reducible refine Below.trans ?_ (Below.mono (by assumption) ?_)) | go_size | (simp at *; omega)))⟩)
          | skip
      · rcases (show p < 1 ∨ (1 ≤ p ∧ (k : Int) < p) by omega) with hp | ⟨hp1, hp2⟩
        · go_wp2
          all_goals first
            | (exfalso; omega)
            | (go_ret; exact ⟨by simp, by (repeat' (first | (with_reducible exact Below.refl _ _) | (with_reducible assumption) | (with_reducible refine Below.alloc ?_ ?_ _) | (with_reducible refine below_drewN ?_ _) | (with_reducible refine Below.drew ?_) | (with_reducible refine Below.setCell ?_ ?_ _) | (with_reducible refine Below.trans ?_ (Below.mono (by assumption) ?_)) | go_size | (simp at *; omega)))⟩)
            | skip
        · go_wp2
          all_goals first
            | (exfalso; omega)
            | (go_ret; exact ⟨by simp, by (repeat' (first | (with_reducible exact Below.refl _ _) | (with_reducible assumption) | (with_reducible refine Below.alloc ?_ ?_ _) | (with_reducible refine below_drewN ?_ _) | (with_reducible refine Below.drew ?_) | (with_reducible refine Below.setCell ?_ ?_ _) | (with_reducible refine Below.trans ?_ (Below.mono (by assumption) ?_)) | go_size | (simp at *; omega)))⟩)
            | skip

theorem un_walk (c : Cal) (hn : c.name.size ≤ 9223372036854775807) (y p : Int) (w : World) :
    Calls Try.prog 8 #[calV c, .int .i64 y, .int .i64 p] w fun e w' => e = .returned (.bool true) ∧ Below w.heap.size w w' := by
  by_cases h : 100 < c.name.size
  · exact un_long c y p w h hn
  · by_cases hE : frameE c 1 y = 0
    · exact un_yes c y p w (by omega) hE
    · exact un_no c y p w (by omega) hE
end Go.Proofs.Ytepmfpgljcbkmaa
