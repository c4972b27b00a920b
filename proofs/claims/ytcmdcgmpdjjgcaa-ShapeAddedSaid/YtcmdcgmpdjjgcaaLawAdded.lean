/- The walk of ShapeAdded. -/
import Derived.Test.YtcmdcgmpdjjgcaaLawWeeks
namespace Go.Proofs.Ytcmdcgmpdjjgcaa
open Go.RowKit Qd
set_option linter.unusedSimpArgs false
set_option linter.unusedVariables false

set_option maxRecDepth 100000 in
set_option maxHeartbeats 1600000 in
theorem sa_long (c : Cal) (y : Int) (w : World) (hn : 100 < c.name.size) (hm : c.name.size ≤ 9223372036854775807) :
    Calls Try.prog 10 #[calV c, .int .i64 y] w fun e w' => e = .returned (.bool true) ∧ Below w.heap.size w w' := by
  simp only [calV]
  go_enter Try.func10, Try.ntmps10
  go_wp2_with fail
  refine (live15_any _).mono ?_
  rintro e w1 ⟨rfl, hb1⟩
  obtain ⟨hc, hf⟩ := bcell hb1
  go_wp2
  all_goals first
    | (exfalso; omega)
    | (go_ret; refine ⟨rfl, ?_⟩; refine Below.trans ?_ (hb1.mono (by simp)); (repeat' (first | (with_reducible exact Below.refl _ _) | (with_reducible assumption) | (with_reducible refine Below.alloc ?_ ?_ _) | (with_reducible refine below_drewN ?_ _) | (with_reducible refine Below.drew ?_) | (with_reducible refine Below.setCell ?_ ?_ _) | (with_reducible refine Below.trans ?_ (Below.mono (by assumption) ?_)) | go_size | (simp at *; omega))))

set_option maxRecDepth 100000 in
set_option maxHeartbeats 1600000 in
theorem sa_no (c : Cal) (y : Int) (w : World) (hn : c.name.size ≤ 100) (hE : ¬ wksE c y = 0) :
    Calls Try.prog 10 #[calV c, .int .i64 y] w fun e w' => e = .returned (.bool true) ∧ Below w.heap.size w w' := by
  have HA := hide (show addedV c y = 0 by simp [addedV, hE])
  have hE' : (wksE c y != 0) = true := by simpa using hE
  clear hE
  simp only [calV]
  go_enter Try.func10, Try.ntmps10
  go_wp2_with fail
  refine (live15_any _).mono ?_
  rintro e w1 ⟨rfl, hb1⟩
  have hz1 : w.heap.size < w1.heap.size := by have := hb1.size; simp at this; omega
  have HB1 := hide (Below.trans ((Below.refl _ _).alloc (Nat.le_refl _) _) (hb1.mono (by simp)) : Below w.heap.size w w1)
  have HQ := hide (calAt_below hb1 (by simp) (calAt_new w c))
  obtain ⟨q0, q1, q2, q3, q4, q5, q6, q7, q8, q9, q10, q11, q12, q13⟩ := HQ.out
  clear hb1
  go_wp2_with fail
  all_goals first
    | (exfalso; omega)
    | skip
  refine (added_any c y _ (by omega)).mono ?_
  rintro e w2 ⟨rfl, hb2⟩
  rw [HA.out]
  clear q0 q1 q2 q3 q4 q5 q6 q7 q8 q9 q10 q11 q12 q13
  have HQ2 := hide (calAt_below hb2 hz1 HQ.out)
  obtain ⟨q0, q1, q2, q3, q4, q5, q6, q7, q8, q9, q10, q11, q12, q13⟩ := HQ2.out
  have hz2 : w.heap.size < w2.heap.size := Nat.lt_of_lt_of_le hz1 hb2.size
  have HB2 := hide (HB1.out.trans (hb2.mono (Nat.le_of_lt hz1)))
  clear hb2
  go_wp2_with fail
  refine (aweeks_any c y _ (by omega)).mono ?_
  rintro e w3 ⟨rfl, hb3⟩
  clear q0 q1 q2 q3 q4 q5 q6 q7 q8 q9 q10 q11 q12 q13
  go_wp2
  go_ret
  exact ⟨rfl, HB2.out.trans (hb3.mono (Nat.le_of_lt hz2))⟩

set_option maxRecDepth 100000 in
set_option maxHeartbeats 1600000 in
theorem sa_52 (c : Cal) (y : Int) (w : World) (hn : c.name.size ≤ 100) (hE : wksE c y = 0) (h52 : wksV c y = 52) :
    Calls Try.prog 10 #[calV c, .int .i64 y] w fun e w' => e = .returned (.bool true) ∧ Below w.heap.size w w' := by
  have HA := hide (show addedV c y = 0 by simp [addedV, h52])
  have HAE := hide (wks_ok hE).2.2.2.1
  have HE := hide hE
  have H52 := hide h52
  clear hE h52
  obtain ⟨n, hnn⟩ : ∃ n, n = (endsL c y).length := ⟨_, rfl⟩
  have HN := hide hnn
  clear hnn
  simp only [calV]
  go_enter Try.func10, Try.ntmps10
  go_wp2_with fail
  refine (live15_any _).mono ?_
  rintro e w1 ⟨rfl, hb1⟩
  have hz1 : w.heap.size < w1.heap.size := by have := hb1.size; simp at this; omega
  have HB1 := hide (Below.trans ((Below.refl _ _).alloc (Nat.le_refl _) _) (hb1.mono (by simp)) : Below w.heap.size w w1)
  have HQ := hide (calAt_below hb1 (by simp) (calAt_new w c))
  obtain ⟨q0, q1, q2, q3, q4, q5, q6, q7, q8, q9, q10, q11, q12, q13⟩ := HQ.out
  clear hb1
  go_wp2_with fail
  all_goals first
    | (exfalso; omega)
    | skip
  refine (added_any c y _ (by omega)).mono ?_
  rintro e w2 ⟨rfl, hb2⟩
  rw [HA.out, HE.out]
  clear q0 q1 q2 q3 q4 q5 q6 q7 q8 q9 q10 q11 q12 q13
  have HQ2 := hide (calAt_below hb2 hz1 HQ.out)
  obtain ⟨q0, q1, q2, q3, q4, q5, q6, q7, q8, q9, q10, q11, q12, q13⟩ := HQ2.out
  have hz2 : w.heap.size < w2.heap.size := Nat.lt_of_lt_of_le hz1 hb2.size
  have HB2 := hide (HB1.out.trans (hb2.mono (Nat.le_of_lt hz1)))
  clear hb2
  go_wp2_with fail
  refine (aweeks_any c y _ (by omega)).mono ?_
  rintro e w3 ⟨rfl, hb3⟩
  rw [HE.out, H52.out]
  clear q0 q1 q2 q3 q4 q5 q6 q7 q8 q9 q10 q11 q12 q13
  have HQ3 := hide (calAt_below hb3 hz2 HQ2.out)
  obtain ⟨q0, q1, q2, q3, q4, q5, q6, q7, q8, q9, q10, q11, q12, q13⟩ := HQ3.out
  have hz3 : w.heap.size < w3.heap.size := Nat.lt_of_lt_of_le hz2 hb3.size
  have HB3 := hide (HB2.out.trans (hb3.mono (Nat.le_of_lt hz2)))
  clear hb3
  go_wp2_with fail
  refine (sweeks_any c y _ (by omega) HAE.out).mono ?_
  rintro e w4 ⟨g, hg, rfl, hI, hb4⟩
  clear q0 q1 q2 q3 q4 q5 q6 q7 q8 q9 q10 q11 q12 q13
  rw [← HN.out]
  go_wp2
  go_ret
  exact ⟨rfl, HB3.out.trans (hb4.mono (Nat.le_of_lt hz3))⟩

set_option maxRecDepth 100000 in
set_option maxHeartbeats 3200000 in
theorem sa_53 (c : Cal) (y : Int) (w : World) (hn : c.name.size ≤ 100) (hE : wksE c y = 0) (h53 : wksV c y = 53) :
    Calls Try.prog 10 #[calV c, .int .i64 y] w fun e w' => e = .returned (.bool true) ∧ Below w.heap.size w w' := by
  obtain ⟨hok, hok2, hk6, hA, hv, hv2, hd⟩ := wks_ok hE
  obtain ⟨hx1, hx2⟩ := extra_bd hok hk6
  have hlen := ends_len c y hok2
  have hpb := per_bounds c hok2
  obtain ⟨x, hx⟩ : ∃ x : Nat, c.extra = (x : Int) + 1 := ⟨(c.extra - 1).toNat, by omega⟩
  have hxl : x < (endsL c y).length := by omega
  have hAV : addedV c y = (endAt c y x - startV c y + 1) / 7 := by
    have : (c.extra - 1).toNat = x := by omega
    simp [addedV, h53, hE, this]
  have hfb := from_bd c y hA x (by omega)
  have hpx := period_1 c y hA x hxl
  have hapos : 1 ≤ addedV c y := by rw [hAV]; omega
  have HAV := hide hAV
  have HFS := hide (from_succ c y x)
  have HW := hide (weeks_len c y)
  have HK := hide (fun k hk => wk_sum c y hA hk6 k hk)
  have HP := hide (fun k hk => period_1 c y hA k hk)
  have HF0 := hide (show fromAt c y 0 = startV c y by simp [fromAt])
  have HE := hide hE
  have HAE := hide hA
  have H53 := hide h53
  have HX := hide hx
  have hx52 : x < 52 := by omega
  clear hE h53 hv hv2 hd hok hok2 hk6 hA hx1 hx2 hlen hpb hx hAV hfb hpx
  obtain ⟨n, hnn⟩ : ∃ n, n = (endsL c y).length := ⟨_, rfl⟩
  have HN := hide hnn
  have hxn : x < n := by omega
  clear hnn hxl
  simp only [calV]
  go_enter Try.func10, Try.ntmps10
  go_wp2_with fail
  refine (live15_any _).mono ?_
  rintro e w1 ⟨rfl, hb1⟩
  have hz1 : w.heap.size < w1.heap.size := by have := hb1.size; simp at this; omega
  have HB1 := hide (Below.trans ((Below.refl _ _).alloc (Nat.le_refl _) _) (hb1.mono (by simp)) : Below w.heap.size w w1)
  have HQ := hide (calAt_below hb1 (by simp) (calAt_new w c))
  obtain ⟨q0, q1, q2, q3, q4, q5, q6, q7, q8, q9, q10, q11, q12, q13⟩ := HQ.out
  clear hb1
  go_wp2_with fail
  all_goals first
    | (exfalso; omega)
    | skip
  refine (added_any c y _ (by omega)).mono ?_
  rintro e w2 ⟨rfl, hb2⟩
  rw [HE.out]
  clear q0 q1 q2 q3 q4 q5 q6 q7 q8 q9 q10 q11 q12 q13
  have HQ2 := hide (calAt_below hb2 hz1 HQ.out)
  obtain ⟨q0, q1, q2, q3, q4, q5, q6, q7, q8, q9, q10, q11, q12, q13⟩ := HQ2.out
  have hz2 : w.heap.size < w2.heap.size := Nat.lt_of_lt_of_le hz1 hb2.size
  have HB2 := hide (HB1.out.trans (hb2.mono (Nat.le_of_lt hz1)))
  clear hb2
  go_wp2_with fail
  refine (aweeks_any c y _ (by omega)).mono ?_
  rintro e w3 ⟨rfl, hb3⟩
  rw [HE.out, H53.out]
  clear q0 q1 q2 q3 q4 q5 q6 q7 q8 q9 q10 q11 q12 q13
  have HQ3 := hide (calAt_below hb3 hz2 HQ2.out)
  obtain ⟨q0, q1, q2, q3, q4, q5, q6, q7, q8, q9, q10, q11, q12, q13⟩ := HQ3.out
  have hz3 : w.heap.size < w3.heap.size := Nat.lt_of_lt_of_le hz2 hb3.size
  have HB3 := hide (HB2.out.trans (hb3.mono (Nat.le_of_lt hz2)))
  clear hb3
  go_wp2_with fail
  refine (sweeks_any c y _ (by omega) HAE.out).mono ?_
  rintro e w4 ⟨g, hg, rfl, hI, hb4⟩
  clear q0 q1 q2 q3 q4 q5 q6 q7 q8 q9 q10 q11 q12 q13
  have HQ4 := hide (calAt_below hb4 hz3 HQ3.out)
  have hz4 : w.heap.size < w4.heap.size := Nat.lt_of_lt_of_le hz3 hb4.size
  have HB4 := hide (HB3.out.trans (hb4.mono (Nat.le_of_lt hz3)))
  have HI := hide hI
  clear hI hb4 hg
  rw [← HN.out]
  have hap0 : (addedV c y == 0) = false := by simp; omega
  have hap1 : decide (0 < addedV c y) = true := by simp; omega
  go_wp2_with fail
  all_goals first
    | (exfalso; omega)
    | skip
  go_loopw [11, 58] (fun s11 s wr => ∃ k : Nat, ∃ m : Int, s = .int .i64 k ∧ s11 = .int .i64 m ∧ fromAt c y k = startV c y + 7 * m ∧ 0 ≤ m ∧ m ≤ 10 * k ∧ k ≤ x ∧ Below w4.heap.size w4 wr) (fun _ s _ => (60 - intOf s).toNat)
  case atStart => exact ⟨0, 0, rfl, rfl, by rw [HF0.out]; omega, by omega, by omega, by omega, Below.refl _ _⟩
  case round =>
    obtain ⟨k, m, rfl, rfl, hm, hm0, hm1, hk, hB⟩ := hrel
    have HM := hide hm
    clear hm
    have hke : k < (endsL c y).length := by rw [← HN.out]; omega
    have c2 : wr.cell? ⟨g, k, none⟩ = some (.int .i64 (wkAt c y k)) := by
      have := ((HI.out).call hB).cell (k := k) (by rw [HW.out]; exact hke)
      simpa [weeksL, hke] using this
    have HQ5 := hide (calAt_below hB hz4 HQ4.out)
    have q10 : wr.cell? ⟨w.heap.size, 10, none⟩ = some (.int .i64 ((x : Int) + 1)) := by
      have := HQ5.out.2.2.2.2.2.2.2.2.2.2.1
      rw [HX.out] at this
      exact this
    have hp := HP.out k hke
    have hw1 : 1 ≤ wkAt c y k ∧ wkAt c y k ≤ 7 := by unfold wkAt; omega
    have HS : Hid (fromAt c y (k + 1) = startV c y + 7 * (m + wkAt c y k)) := by
      have := HK.out k hke
      have h2 := HM.out
      exact hide (by omega)
    have hkn : k < n := by omega
    clear hp hke
    by_cases hlt : k < x
    · have hne : ((k : Int) + 1 == (x : Int) + 1) = false := by simp; omega
      go_wp2
      exact ⟨⟨k + 1, m + wkAt c y k, by go_num, rfl, HS.out, by omega, by omega, by omega, hB⟩, by simp [intOf]; omega⟩
    · obtain rfl : k = x := by omega
      have hmv : (m + wkAt c y k == addedV c y) = true := by
        have h1 := HS.out
        rw [HFS.out] at h1
        rw [HAV.out, beq_iff_eq]
        omega
      go_wp2
      go_ret
      exact ⟨rfl, HB4.out.trans (hB.mono (Nat.le_of_lt hz4))⟩

theorem sa_walk (c : Cal) (hn : c.name.size ≤ 9223372036854775807) (y : Int) (w : World) :
    Calls Try.prog 10 #[calV c, .int .i64 y] w fun e w' => e = .returned (.bool true) ∧ Below w.heap.size w w' := by
  by_cases h : 100 < c.name.size
  · exact sa_long c y w h hn
  · by_cases hE : wksE c y = 0
    · rcases (wks_ok hE).2.2.2.2.2.1 with h5 | h5
      · exact sa_52 c y w (by omega) hE h5
      · exact sa_53 c y w (by omega) hE h5
    · exact sa_no c y w (by omega) hE
end Go.Proofs.Ytcmdcgmpdjjgcaa
