/- The walk of ShapeEnds. -/
import Derived.Test.YtcmdcgmpdjjgcaaYearD
import Derived.Test.YtcmdcgmpdjjgcaaLive15
namespace Go.Proofs.Ytcmdcgmpdjjgcaa
open Go.RowKit Qd
set_option linter.unusedSimpArgs false
set_option linter.unusedVariables false

set_option maxRecDepth 100000 in
set_option maxHeartbeats 1600000 in
theorem sends_long (c : Cal) (y : Int) (w : World) (hn : 100 < c.name.size) (hm : c.name.size ≤ 9223372036854775807) :
    Calls Try.prog 7 #[calV c, .int .i64 y] w fun e w' => e = .returned (.bool true) ∧ Below w.heap.size w w' := by
  simp only [calV]
  go_enter Try.func7, Try.ntmps7
  go_wp2_with fail
  refine (live15_any _).mono ?_
  rintro e w1 ⟨rfl, hb1⟩
  obtain ⟨hc, hf⟩ := bcell hb1
  go_wp2
  all_goals first
    | (exfalso; omega)
    | (go_ret; refine ⟨rfl, ?_⟩; refine Below.trans ?_ (hb1.mono (by simp)); (repeat' (first | (with_reducible exact Below.refl _ _) | (with_reducible assumption) | (with_reducible refine Below.alloc ?_ ?_ _) | (with_reducible refine below_drewN ?_ _) | (with_reducible refine Below.drew ?_) | (with_reducible refine Below.setCell ?_ ?_ _) | (with_reducible refine Below.trans ?_ (Below.mono (by assumption) ?_)) | go_size | (simp at *; omega))))

set_option maxRecDepth 100000 in
set_option maxHeartbeats 1600000 in
theorem sends_no (c : Cal) (y : Int) (w : World) (hn : c.name.size ≤ 100) (hE : ¬ askE c y 1601 = 0) :
    Calls Try.prog 7 #[calV c, .int .i64 y] w fun e w' => e = .returned (.bool true) ∧ Below w.heap.size w w' := by
  have hE' : (askE c y 1601 != 0) = true := by simpa using hE
  have HE := hide hE
  clear hE
  simp only [calV]
  go_enter Try.func7, Try.ntmps7
  go_wp2_with fail
  refine (live15_any _).mono ?_
  rintro e w1 ⟨rfl, hb1⟩
  have hz1 : w.heap.size < w1.heap.size := by have := hb1.size; simp at this; omega
  have HB1 := hide (Below.trans ((Below.refl _ _).alloc (Nat.le_refl _) _) (hb1.mono (by simp)) : Below w.heap.size w w1)
  have HQ := hide (calAt_below hb1 (by simp) (calAt_new w c))
  obtain ⟨q0, q1, q2, q3, q4, q5, q6, q7, q8, q9, q10, q11, q12, q13⟩ := HQ.out
  clear hb1
  go_wp2_with fail
  all_goals first
    | (exfalso; omega)
    | skip
  refine (ends_no c y _ (by omega) HE.out).mono ?_
  rintro e w2 ⟨rfl, hb2⟩
  clear q0 q1 q2 q3 q4 q5 q6 q7 q8 q9 q10 q11 q12 q13
  have HQ2 := hide (calAt_below hb2 hz1 HQ.out)
  obtain ⟨q0, q1, q2, q3, q4, q5, q6, q7, q8, q9, q10, q11, q12, q13⟩ := HQ2.out
  have hz2 : w.heap.size < w2.heap.size := Nat.lt_of_lt_of_le hz1 hb2.size
  go_wp2_with fail
  refine (sweeks_no c y _ (by omega) HE.out).mono ?_
  rintro e w3 ⟨rfl, hb3⟩
  clear q0 q1 q2 q3 q4 q5 q6 q7 q8 q9 q10 q11 q12 q13
  go_wp2
  go_ret
  exact ⟨rfl, (HB1.out.trans (hb2.mono (Nat.le_of_lt hz1))).trans (hb3.mono (Nat.le_of_lt hz2))⟩
set_option maxRecDepth 100000 in
set_option maxHeartbeats 3200000 in
theorem sends_yes (c : Cal) (y : Int) (w : World) (hn : c.name.size ≤ 100) (hE : askE c y 1601 = 0) :
    Calls Try.prog 7 #[calV c, .int .i64 y] w fun e w' => e = .returned (.bool true) ∧ Below w.heap.size w w' := by
  have HW := hide (weeks_len c y)
  have hle := last_end c y hE
  have HLE := hide hle.1
  have hyb := year_bd c y hE
  have HP := hide (fun k hk => period_1 c y hE k hk)
  have HF := hide (fun k hk => from_bd c y hE k hk)
  have HF0 := hide (show fromAt c y 0 = startV c y by simp [fromAt])
  have HE := hide hE
  have HE2 := hide (ask_mono hE)
  obtain ⟨n, hnn⟩ : ∃ n, n = (endsL c y).length := ⟨_, rfl⟩
  have HN := hide hnn
  have hn52 : 12 ≤ n ∧ n ≤ 52 := by omega
  clear hE hle hnn
  simp only [calV]
  go_enter Try.func7, Try.ntmps7
  go_wp2_with fail
  refine (live15_any _).mono ?_
  rintro e w1 ⟨rfl, hb1⟩
  have hz1 : w.heap.size < w1.heap.size := by have := hb1.size; simp at this; omega
  have HB1 := hide (Below.trans ((Below.refl _ _).alloc (Nat.le_refl _) _) (hb1.mono (by simp)) : Below w.heap.size w w1)
  have HQ := hide (calAt_below hb1 (by simp) (calAt_new w c))
  obtain ⟨q0, q1, q2, q3, q4, q5, q6, q7, q8, q9, q10, q11, q12, q13⟩ := HQ.out
  clear hb1
  go_wp2_with fail
  all_goals first
    | (exfalso; omega)
    | skip
  refine (ends_any c y _ (by omega) HE.out).mono ?_
  rintro e w2 ⟨g, hg, rfl, hI, hb2⟩
  clear q0 q1 q2 q3 q4 q5 q6 q7 q8 q9 q10 q11 q12 q13
  have HQ2 := hide (calAt_below hb2 hz1 HQ.out)
  obtain ⟨q0, q1, q2, q3, q4, q5, q6, q7, q8, q9, q10, q11, q12, q13⟩ := HQ2.out
  have hz2 : w.heap.size < w2.heap.size := Nat.lt_of_lt_of_le hz1 hb2.size
  have HB2 := hide (HB1.out.trans (hb2.mono (Nat.le_of_lt hz1)))
  have HI := hide hI
  clear hI hb2 hg
  rw [← HN.out]
  go_wp2_with fail
  refine (sweeks_any c y _ (by omega) HE.out).mono ?_
  rintro e w3 ⟨g2, hg2, rfl, hJ, hb3⟩
  clear q0 q1 q2 q3 q4 q5 q6 q7 q8 q9 q10 q11 q12 q13
  have hz3 : w.heap.size < w3.heap.size := Nat.lt_of_lt_of_le hz2 hb3.size
  have HQ3 := hide (calAt_below hb3 hz2 HQ2.out)
  obtain ⟨q0, q1, q2, q3, q4, q5, q6, q7, q8, q9, q10, q11, q12, q13⟩ := HQ3.out
  have HB3 := hide (HB2.out.trans (hb3.mono (Nat.le_of_lt hz2)))
  have HI3 := hide (HI.out.call hb3)
  have HJ := hide hJ
  clear hJ hb3 hg2
  rw [← HN.out]
  go_wp2_with fail
  refine (start_any c y _ (by omega)).mono ?_
  rintro e w4 ⟨rfl, hb4⟩
  rw [HE.out]
  clear q0 q1 q2 q3 q4 q5 q6 q7 q8 q9 q10 q11 q12 q13
  have hz4 : w.heap.size < w4.heap.size := Nat.lt_of_lt_of_le hz3 hb4.size
  have HQ4 := hide (calAt_below hb4 hz3 HQ3.out)
  obtain ⟨q0, q1, q2, q3, q4, q5, q6, q7, q8, q9, q10, q11, q12, q13⟩ := HQ4.out
  have HB4 := hide (HB3.out.trans (hb4.mono (Nat.le_of_lt hz3)))
  have HI4 := hide (HI3.out.call hb4)
  have HJ4 := hide (HJ.out.call hb4)
  clear hb4
  go_wp2_with fail
  refine (end_any c y _ (by omega)).mono ?_
  rintro e w5 ⟨rfl, hb5⟩
  rw [HE2.out]
  clear q0 q1 q2 q3 q4 q5 q6 q7 q8 q9 q10 q11 q12 q13
  have hz5 : w.heap.size < w5.heap.size := Nat.lt_of_lt_of_le hz4 hb5.size
  have HQ5 := hide (calAt_below hb5 hz4 HQ4.out)
  have HB5 := hide (HB4.out.trans (hb5.mono (Nat.le_of_lt hz4)))
  have HI5 := hide (HI4.out.call hb5)
  have HJ5 := hide (HJ4.out.call hb5)
  clear hb5
  go_wp2_with fail
  go_loopw [9, 77] (fun s9 s wr => ∃ k : Nat, s = .int .i64 k ∧ s9 = .int .i64 (fromAt c y k) ∧ k ≤ n ∧ Below w5.heap.size w5 wr) (fun _ s _ => (60 - intOf s).toNat)
  case atStart => exact ⟨0, rfl, by rw [HF0.out], by omega, Below.refl _ _⟩
  case round =>
    obtain ⟨k, rfl, rfl, hk, hB⟩ := hrel
    by_cases hlt : k < n
    · have hke : k < (endsL c y).length := by rw [← HN.out]; exact hlt
      have c1 : wr.cell? ⟨g, k, none⟩ = some (.int .i64 (endAt c y k)) := ((HI5.out).call hB).cell (k := k) hke
      have c2 : wr.cell? ⟨g2, k, none⟩ = some (.int .i64 (wkAt c y k)) := by
        have := ((HJ5.out).call hB).cell (k := k) (by rw [HW.out]; exact hke)
        simpa [weeksL, hke] using this
      have c3 : wr.cell? ⟨w.heap.size, 1, none⟩ = some (.int .i64 c.kind) := (calAt_below hB hz5 HQ5.out).2.1
      have hp := HP.out k hke
      have hf1 := HF.out k (Nat.le_of_lt hke)
      have HS := hide (from_succ c y k)
      have hw1 : 1 ≤ wkAt c y k ∧ endAt c y k - fromAt c y k + 1 ≤ 7 * wkAt c y k ∧ 7 * (wkAt c y k - 1) < endAt c y k - fromAt c y k + 1 ∧ wkAt c y k ≤ 7 := by unfold wkAt; omega
      have hw7 : c.kind ≠ 6 → endAt c y k - fromAt c y k + 1 = 7 * wkAt c y k := by intro h; have := hp.2.2 h; unfold wkAt; omega
      have hp1 := hp.1
      have hp2 := hp.2.1
      clear hp hke
      by_cases hk6 : c.kind = 6
      · have b6 : (c.kind != 6) = false := by simp [hk6]
        clear hw7 hk6
        go_wp2
        all_goals first
          | (exfalso; omega)
          | (exact ⟨⟨k + 1, by go_num, by rw [HS.out], by omega, hB⟩, by simp [intOf]; omega⟩)
      · have b6 : (c.kind != 6) = true := by simp [hk6]
        have b7 : (endAt c y k - fromAt c y k + 1 != 7 * wkAt c y k) = false := by rw [hw7 hk6]; simp
        clear hw7 hk6
        go_wp2
        all_goals first
          | (exfalso; omega)
          | (exact ⟨⟨k + 1, by go_num, by rw [HS.out], by omega, hB⟩, by simp [intOf]; omega⟩)
    · obtain rfl : k = n := by omega
      obtain ⟨j, rfl⟩ : ∃ j, k = j + 1 := ⟨k - 1, by omega⟩
      have hj : j < (endsL c y).length := by rw [← HN.out]; omega
      have c1 : wr.cell? ⟨g, j, none⟩ = some (.int .i64 (endAt c y j)) := ((HI5.out).call hB).cell (k := j) hj
      have hEJ : endAt c y j = endV c y := by
        have h1 := HLE.out
        rw [← HN.out, from_succ] at h1
        omega
      rw [hEJ] at c1
      clear hEJ hj
      go_wp2
      go_ret
      exact ⟨by simp, HB5.out.trans (hB.mono (Nat.le_of_lt hz5))⟩

theorem sends_walk (c : Cal) (hn : c.name.size ≤ 9223372036854775807) (y : Int) (w : World) :
    Calls Try.prog 7 #[calV c, .int .i64 y] w fun e w' => e = .returned (.bool true) ∧ Below w.heap.size w w' := by
  by_cases h : 100 < c.name.size
  · exact sends_long c y w h hn
  · by_cases hE : askE c y 1601 = 0
    · exact sends_yes c y w (by omega) hE
    · exact sends_no c y w (by omega) hE
end Go.Proofs.Ytcmdcgmpdjjgcaa
