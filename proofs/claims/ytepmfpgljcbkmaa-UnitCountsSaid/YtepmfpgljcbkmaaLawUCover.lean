/- The walk of UnitCover. -/
import Derived.Test.YtepmfpgljcbkmaaLive16
namespace Go.Proofs.Ytepmfpgljcbkmaa
open Go.RowKit Qd
set_option linter.unusedSimpArgs false
set_option linter.unusedVariables false

/-- The first day of the unit behind i of them. -/
def uD (c : Cal) (lv y : Int) (i : Nat) : Int := dayW c y (cutN c y lv i)
theorem uD_0 (c : Cal) (lv y : Int) : uD c lv y 0 = startV c y := by rw [uD, cut_0, dayW_0]
theorem uD_end {c : Cal} {lv y : Int} (hE : frameE c lv y = 0) : uD c lv y (cntL c y lv) = endV c y + 1 := by
  obtain ⟨hok, hok2, h1, h5, hy1, hy2, hA⟩ := frame_ok hE
  rw [uD, cut_end c y lv h1 h5, dayW_end c y hA]
theorem uD_lt {c : Cal} {lv y : Int} (hE : frameE c lv y = 0) (i j : Nat) (h : i < j) (hj : j ≤ cntL c y lv) : uD c lv y i < uD c lv y j := by
  obtain ⟨hok, hok2, h1, h5, hy1, hy2, hA⟩ := frame_ok hE
  have := dayW_lt c y hA (cut_slt c y hA lv h1 h5 h hj) (cut_le_nWk c y hA lv h1 h5 j hj)
  have h2 := cut_slt c y hA lv h1 h5 h hj
  unfold uD
  omega
theorem uD_bd {c : Cal} {lv y : Int} (hE : frameE c lv y = 0) (i : Nat) (hi : i ≤ cntL c y lv) : 0 ≤ uD c lv y i ∧ uD c lv y i ≤ 3068038 := by
  obtain ⟨hok, hok2, h1, h5, hy1, hy2, hA⟩ := frame_ok hE
  have hcut := cut_le_nWk c y hA lv h1 h5 i hi
  have h3 := dayW_le c y hA (Nat.zero_le (cutN c y lv i)) hcut
  have h4 := dayW_le c y hA hcut (Nat.le_refl _)
  rw [dayW_0] at h3
  rw [dayW_end c y hA] at h4
  have := year_bd c y hA
  unfold uD
  omega
theorem sp_uD {c : Cal} {lv y : Int} (hE : frameE c lv y = 0) (i : Nat) (hi : i < cntL c y lv) : spV c ⟨lv, y, (i : Int) + 1⟩ = ⟨uD c lv y i, uD c lv y (i + 1) - 1⟩ := sp_mk hE i hi

set_option maxRecDepth 100000 in
set_option maxHeartbeats 1600000 in
theorem uc_long (c : Cal) (lv y : Int) (w : World) (hn : 100 < c.name.size) (hm : c.name.size ≤ 9223372036854775807) :
    Calls Try.prog 3 #[calV c, .int .i64 lv, .int .i64 y] w fun e w' => e = .returned (.bool true) ∧ Below w.heap.size w w' := by
  simp only [calV]
  go_enter Try.func3, Try.ntmps3
  go_wp2_with fail
  refine (live16_any _).mono ?_
  rintro e w1 ⟨rfl, hb1⟩
  obtain ⟨hc, hf⟩ := bcell hb1
  go_wp2
  all_goals first
    | (exfalso; omega)
    | (go_ret; refine ⟨rfl, ?_⟩; refine Below.trans ?_ (hb1.mono (by simp)); (repeat' (first | (with_reducible exact Below.refl _ _) | (with_reducible assumption) | (with_reducible refine Below.alloc ?_ ?_ _) | (with_reducible refine below_drewN ?_ _) | (with_reducible refine Below.drew ?_) | (with_reducible refine Below.setCell ?_ ?_ _) | (with_reducible refine Below.trans ?_ (Below.mono (by assumption) ?_)) | go_size | (simp at *; omega))))

set_option maxRecDepth 100000 in
set_option maxHeartbeats 1600000 in
theorem uc_no (c : Cal) (lv y : Int) (w : World) (hn : c.name.size ≤ 100) (hE : ¬ frameE c lv y = 0) :
    Calls Try.prog 3 #[calV c, .int .i64 lv, .int .i64 y] w fun e w' => e = .returned (.bool true) ∧ Below w.heap.size w w' := by
  have hE' : (frameE c lv y != 0) = true := by simpa using hE
  have HC := hide (count_no hE)
  clear hE
  simp only [calV]
  go_enter Try.func3, Try.ntmps3
  go_wp2_with fail
  refine (live16_any _).mono ?_
  rintro e w1 ⟨rfl, hb1⟩
  have hz1 : w.heap.size < w1.heap.size := by have := hb1.size; simp at this; omega
  have HB1 := hide (show Below w.heap.size w w1 by refine Below.trans ?_ (hb1.mono (by first | omega | (simp; done) | (simp; omega))); (repeat' (first | (with_reducible exact Below.refl _ _) | (with_reducible assumption) | (with_reducible refine Below.alloc ?_ ?_ _) | (with_reducible refine below_drewN ?_ _) | (with_reducible refine Below.drew ?_) | (with_reducible refine Below.setCell ?_ ?_ _) | (with_reducible refine Below.trans ?_ (Below.mono (by assumption) ?_)) | go_size | (simp at *; omega))))
  have HQ1 := hide (calAt_below hb1 (by simp) (calAt_new w c))
  obtain ⟨q0, q1, q2, q3, q4, q5, q6, q7, q8, q9, q10, q11, q12, q13⟩ := HQ1.out
  clear hb1
  go_wp2_with fail
  all_goals first
    | (exfalso; omega)
    | skip
  refine (count_any c lv y _ (by omega)).mono ?_
  rintro e w2 ⟨rfl, hb2⟩
  rw [HC.out]
  have hz2 : w.heap.size < w2.heap.size := by have := hb2.size; (try simp at this); omega
  have HB2 := hide (show Below w.heap.size w w2 by have hp := HB1.out; refine Below.trans ?_ (hb2.mono (by first | omega | (simp; done) | (simp; omega))); (repeat' (first | (with_reducible exact Below.refl _ _) | (with_reducible assumption) | (with_reducible refine Below.alloc ?_ ?_ _) | (with_reducible refine below_drewN ?_ _) | (with_reducible refine Below.drew ?_) | (with_reducible refine Below.setCell ?_ ?_ _) | (with_reducible refine Below.trans ?_ (Below.mono (by assumption) ?_)) | go_size | (simp at *; omega))))
  have HQ2 := hide (show CalAt w2 w.heap.size c from calAt_below hb2 (by first | omega | (simp; done) | (simp; omega)) (by first | exact HQ1.out | exact calAt_alloc HQ1.out (by omega) _ | exact calAt_alloc (calAt_alloc HQ1.out (by omega) _) (by simp; omega) _))
  clear q0 q1 q2 q3 q4 q5 q6 q7 q8 q9 q10 q11 q12 q13
  obtain ⟨q0, q1, q2, q3, q4, q5, q6, q7, q8, q9, q10, q11, q12, q13⟩ := HQ2.out
  clear hb2
  clear q0 q1 q2 q3 q4 q5 q6 q7 q8 q9 q10 q11 q12 q13
  go_wp2
  go_ret
  exact ⟨rfl, HB2.out⟩

set_option maxRecDepth 100000 in
set_option maxHeartbeats 3200000 in
theorem uc_yes (c : Cal) (lv y : Int) (w : World) (hn : c.name.size ≤ 100) (hE : frameE c lv y = 0) :
    Calls Try.prog 3 #[calV c, .int .i64 lv, .int .i64 y] w fun e w' => e = .returned (.bool true) ∧ Below w.heap.size w w' := by
  obtain ⟨hok, hok2, h1, h5, hy1, hy2, hA⟩ := frame_ok hE
  have hyb := year_bd c y hA
  have hnb := cnt_bd c y hA lv
  have HC := hide (count_yes hE)
  have HA := hide hA
  have HA0 := hide (ask_mono hA)
  have H0 := hide (uD_0 c lv y)
  have HEND := hide (uD_end hE)
  have HLT := hide (fun i h => uD_lt hE i (i + 1) (Nat.lt_succ_self i) h)
  have HBD := hide (fun i h => uD_bd hE i h)
  have HSP := hide (fun i h => sp_uD hE i h)
  have HUE := hide (fun i h => (un_mk hE i h).1)
  obtain ⟨n, hnn⟩ : ∃ n, n = cntL c y lv := ⟨_, rfl⟩
  have HN := hide hnn
  rw [← hnn] at hnb
  have HE := hide hE
  clear hE hok hok2 hA hnn
  simp only [calV]
  go_enter Try.func3, Try.ntmps3
  go_wp2_with fail
  refine (live16_any _).mono ?_
  rintro e w1 ⟨rfl, hb1⟩
  have hz1 : w.heap.size < w1.heap.size := by have := hb1.size; simp at this; omega
  have HB1 := hide (show Below w.heap.size w w1 by refine Below.trans ?_ (hb1.mono (by first | omega | (simp; done) | (simp; omega))); (repeat' (first | (with_reducible exact Below.refl _ _) | (with_reducible assumption) | (with_reducible refine Below.alloc ?_ ?_ _) | (with_reducible refine below_drewN ?_ _) | (with_reducible refine Below.drew ?_) | (with_reducible refine Below.setCell ?_ ?_ _) | (with_reducible refine Below.trans ?_ (Below.mono (by assumption) ?_)) | go_size | (simp at *; omega))))
  have HQ1 := hide (calAt_below hb1 (by simp) (calAt_new w c))
  obtain ⟨q0, q1, q2, q3, q4, q5, q6, q7, q8, q9, q10, q11, q12, q13⟩ := HQ1.out
  clear hb1
  go_wp2_with fail
  all_goals first
    | (exfalso; omega)
    | skip
  refine (count_any c lv y _ (by omega)).mono ?_
  rintro e w2 ⟨rfl, hb2⟩
  rw [HC.out, HE.out, ← HN.out]
  have hz2 : w.heap.size < w2.heap.size := by have := hb2.size; (try simp at this); omega
  have HB2 := hide (show Below w.heap.size w w2 by have hp := HB1.out; refine Below.trans ?_ (hb2.mono (by first | omega | (simp; done) | (simp; omega))); (repeat' (first | (with_reducible exact Below.refl _ _) | (with_reducible assumption) | (with_reducible refine Below.alloc ?_ ?_ _) | (with_reducible refine below_drewN ?_ _) | (with_reducible refine Below.drew ?_) | (with_reducible refine Below.setCell ?_ ?_ _) | (with_reducible refine Below.trans ?_ (Below.mono (by assumption) ?_)) | go_size | (simp at *; omega))))
  have HQ2 := hide (show CalAt w2 w.heap.size c from calAt_below hb2 (by first | omega | (simp; done) | (simp; omega)) (by first | exact HQ1.out | exact calAt_alloc HQ1.out (by omega) _ | exact calAt_alloc (calAt_alloc HQ1.out (by omega) _) (by simp; omega) _))
  clear q0 q1 q2 q3 q4 q5 q6 q7 q8 q9 q10 q11 q12 q13
  obtain ⟨q0, q1, q2, q3, q4, q5, q6, q7, q8, q9, q10, q11, q12, q13⟩ := HQ2.out
  clear hb2
  go_wp2_with fail
  refine (start_any c y _ (by omega)).mono ?_
  rintro e w3 ⟨rfl, hb3⟩
  rw [HA.out]
  have hz3 : w.heap.size < w3.heap.size := by have := hb3.size; (try simp at this); omega
  have HB3 := hide (show Below w.heap.size w w3 by have hp := HB2.out; refine Below.trans ?_ (hb3.mono (by first | omega | (simp; done) | (simp; omega))); (repeat' (first | (with_reducible exact Below.refl _ _) | (with_reducible assumption) | (with_reducible refine Below.alloc ?_ ?_ _) | (with_reducible refine below_drewN ?_ _) | (with_reducible refine Below.drew ?_) | (with_reducible refine Below.setCell ?_ ?_ _) | (with_reducible refine Below.trans ?_ (Below.mono (by assumption) ?_)) | go_size | (simp at *; omega))))
  have HQ3 := hide (show CalAt w3 w.heap.size c from calAt_below hb3 (by first | omega | (simp; done) | (simp; omega)) (by first | exact HQ2.out | exact calAt_alloc HQ2.out (by omega) _ | exact calAt_alloc (calAt_alloc HQ2.out (by omega) _) (by simp; omega) _))
  clear q0 q1 q2 q3 q4 q5 q6 q7 q8 q9 q10 q11 q12 q13
  obtain ⟨q0, q1, q2, q3, q4, q5, q6, q7, q8, q9, q10, q11, q12, q13⟩ := HQ3.out
  clear hb3
  go_wp2_with fail
  refine (end_any c y _ (by omega)).mono ?_
  rintro e w4 ⟨rfl, hb4⟩
  rw [HA0.out]
  have hz4 : w.heap.size < w4.heap.size := by have := hb4.size; (try simp at this); omega
  have HB4 := hide (show Below w.heap.size w w4 by have hp := HB3.out; refine Below.trans ?_ (hb4.mono (by first | omega | (simp; done) | (simp; omega))); (repeat' (first | (with_reducible exact Below.refl _ _) | (with_reducible assumption) | (with_reducible refine Below.alloc ?_ ?_ _) | (with_reducible refine below_drewN ?_ _) | (with_reducible refine Below.drew ?_) | (with_reducible refine Below.setCell ?_ ?_ _) | (with_reducible refine Below.trans ?_ (Below.mono (by assumption) ?_)) | go_size | (simp at *; omega))))
  have HQ4 := hide (show CalAt w4 w.heap.size c from calAt_below hb4 (by first | omega | (simp; done) | (simp; omega)) (by first | exact HQ3.out | exact calAt_alloc HQ3.out (by omega) _ | exact calAt_alloc (calAt_alloc HQ3.out (by omega) _) (by simp; omega) _))
  clear q0 q1 q2 q3 q4 q5 q6 q7 q8 q9 q10 q11 q12 q13
  obtain ⟨q0, q1, q2, q3, q4, q5, q6, q7, q8, q9, q10, q11, q12, q13⟩ := HQ4.out
  clear hb4
  clear q0 q1 q2 q3 q4 q5 q6 q7 q8 q9 q10 q11 q12 q13
  go_wp2_with fail
  all_goals first
    | (exfalso; omega)
    | skip
  go_loopw [9, 13] (fun s9 s13 wr => ∃ i : Nat, s13 = .int .i64 ((i : Int) + 1) ∧ s9 = .int .i64 (uD c lv y i) ∧ i ≤ n ∧ CalAt wr w.heap.size c ∧ w.heap.size < wr.heap.size ∧ Below w.heap.size w wr) (fun _ s _ => (100 - intOf s).toNat)
  case atStart => exact ⟨0, rfl, by rw [H0.out], by omega, HQ4.out, hz4, HB4.out⟩
  case round =>
    obtain ⟨i, rfl, rfl, hi, hQ, hlt, hB⟩ := hrel
    have HQ := hide hQ
    have HB := hide hB
    clear hB
    by_cases hin : i < n
    · obtain ⟨q0, q1, q2, q3, q4, q5, q6, q7, q8, q9, q10, q11, q12, q13⟩ := hQ
      have hic : i < cntL c y lv := by rw [← HN.out]; exact hin
      have hd1 := HLT.out i hic
      have hd2 := HBD.out i (Nat.le_of_lt hic)
      have hd3 := HBD.out (i + 1) hic
      go_wp2_with fail
      refine (uspan_any c ⟨lv, y, (i : Int) + 1⟩ _ (by omega)).mono ?_
      rintro e w5 ⟨rfl, hb5⟩
      rw [HUE.out i hic, HSP.out i hic]
      simp only [spanV]
      have HQ5 := hide (calAt_below hb5 hlt HQ.out)
      have HB5 := hide (HB.out.trans (hb5.mono (Nat.le_of_lt hlt)))
      have hz5 : w.heap.size < w5.heap.size := Nat.lt_of_lt_of_le hlt hb5.size
      clear q0 q1 q2 q3 q4 q5 q6 q7 q8 q9 q10 q11 q12 q13
      clear hb5
      go_wp2
      all_goals first
        | (exfalso; omega)
        | exact ⟨⟨i + 1, by go_num, by first | rfl | rw [show uD c lv y (i + 1) - 1 + 1 = uD c lv y (i + 1) by omega], by omega, calAt_alloc HQ5.out hz5 _, by simp; omega, by have := HB5.out; (repeat' (first | (with_reducible exact Below.refl _ _) | (with_reducible assumption) | (with_reducible refine Below.alloc ?_ ?_ _) | (with_reducible refine below_drewN ?_ _) | (with_reducible refine Below.drew ?_) | (with_reducible refine Below.setCell ?_ ?_ _) | (with_reducible refine Below.trans ?_ (Below.mono (by assumption) ?_)) | go_size | (simp at *; omega)))⟩, by simp [intOf]; omega⟩
    · obtain rfl : i = n := by omega
      rw [show uD c lv y i = endV c y + 1 by rw [HN.out]; exact HEND.out]
      go_wp2
      go_ret
      exact ⟨by simp, HB.out⟩

theorem uc_walk (c : Cal) (hn : c.name.size ≤ 9223372036854775807) (lv y : Int) (w : World) :
    Calls Try.prog 3 #[calV c, .int .i64 lv, .int .i64 y] w fun e w' => e = .returned (.bool true) ∧ Below w.heap.size w w' := by
  by_cases h : 100 < c.name.size
  · exact uc_long c lv y w h hn
  · by_cases hE : frameE c lv y = 0
    · exact uc_yes c lv y w (by omega) hE
    · exact uc_no c lv y w (by omega) hE
end Go.Proofs.Ytepmfpgljcbkmaa
