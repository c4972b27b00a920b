/- The walk of FindLevels. The walk of FindBack. -/
import Derived.Test.YtepmfpgljcbkmaaFindB
namespace Go.Proofs.Ytepmfpgljcbkmaa
open Go.RowKit Qd
set_option linter.unusedSimpArgs false
set_option linter.unusedVariables false

theorem fd_serv {c : Cal} {d lv : Int} (h1 : 1 ≤ lv) (h5 : lv ≤ 5) : fdE c d lv = servE c d := by
  unfold fdE
  cases hk : c.okB
  · simp [servE, hk]
  · simp [h1, h5]
theorem fd_not {c : Cal} {d lv : Int} (h : ¬ fdE c d lv = 0) : fdU c d lv = ⟨0, 0, 0⟩ := by rw [fdU, if_neg h]
theorem fd_unit {c : Cal} {d lv : Int} (h : fdE c d lv = 0) : ∃ i : Nat, fdU c d lv = ⟨lv, servY c d, (i : Int) + 1⟩ ∧ unitE c (fdU c d lv) = 0 ∧ spV c (fdU c d lv) = ⟨dayW c (servY c d) (cutN c (servY c d) lv i), dayW c (servY c d) (cutN c (servY c d) lv (i + 1)) - 1⟩ ∧ cutA c (fdU c d lv) = cutN c (servY c d) lv i ∧ cutB c (fdU c d lv) = cutN c (servY c d) lv (i + 1) ∧
    dayW c (servY c d) (cutN c (servY c d) lv i) ≤ d ∧ d < dayW c (servY c d) (cutN c (servY c d) lv (i + 1)) := by
  obtain ⟨hk, h1, h5, hs, hd, hy, hf⟩ := fd_ok h
  obtain ⟨i, e, hi, ha, hb⟩ := fd_in h
  obtain ⟨g0, g1, g2⟩ := un_mk hf i hi
  rw [e]
  exact ⟨i, rfl, g0, sp_mk hf i hi, g1, g2, ha, hb⟩
theorem fd_up {c : Cal} {d lv top : Int} (h : fdE c d lv = 0) (h1 : 1 ≤ top) (h2 : top ≤ lv) : fdE c d top = 0 ∧ upE c (fdU c d lv) top = 0 ∧ upV c (fdU c d lv) top = fdU c d top := by
  obtain ⟨hk, l1, l5, hs, hd, hy, hf⟩ := fd_ok h
  obtain ⟨i, e, hu, _, ea, eb, ha, hb⟩ := fd_unit h
  have hlv : (fdU c d lv).lv = lv := by rw [e]
  have hyr : (fdU c d lv).yr = servY c d := by rw [e]
  obtain ⟨k, d0, d1, d2, d3, d4⟩ := up_facts (lv := top) hu h1 (by rw [hlv]; exact h2)
  rw [hyr, ea] at d3
  rw [hyr, eb] at d4
  rw [hyr] at d1 d2
  have hft := frame_lv hf top h1 (by omega)
  have hA := hy.1
  have hc := cut_le_nWk c (servY c d) hA top h1 (by omega) (k + 1) d2
  have b1 := dayW_le c (servY c d) hA d3 (by
    have := cut_le_nWk c (servY c d) hA lv l1 l5 i (by have := (un_lv hu).2.2.2.2.2; have h9 := (un_lv hu).2.2.2.2.1; rw [e] at this h9; simp [uI] at this h9; omega)
    exact this)
  have b2 := dayW_le c (servY c d) hA d4 hc
  have := fd_of hft k d2 (d := d) (by omega) (by omega)
  exact ⟨this.1, d0, by rw [d1, this.2.2.2]⟩

set_option maxRecDepth 100000 in
set_option maxHeartbeats 1600000 in
theorem fl_long (c : Cal) (d lv top : Int) (w : World) (hn : 100 < c.name.size) (hm : c.name.size ≤ 9223372036854775807) :
    Calls Try.prog 10 #[calV c, .int .i64 d, .int .i64 lv, .int .i64 top] w fun e w' => e = .returned (.bool true) ∧ Below w.heap.size w w' := by
  simp only [calV]
  go_enter Try.func10, Try.ntmps10
  go_wp2_with fail
  refine (live17_any _).mono ?_
  rintro e w1 ⟨rfl, hb1⟩
  have hz1 : w.heap.size < w1.heap.size := by have := hb1.size; simp at this; omega
  have HB1 := hide (show Below w.heap.size w w1 by refine Below.trans ?_ (hb1.mono (by first | omega | (simp; done) | (simp; omega))); (repeat' (first | (with_reducible exact Below.refl _ _) | (with_reducible assumption) | (with_reducible refine Below.alloc ?_ ?_ _) | (with_reducible refine below_drewN ?_ _) | (with_reducible refine Below.drew ?_) | (with_reducible refine Below.setCell ?_ ?_ _) | (with_reducible refine Below.trans ?_ (Below.mono (by assumption) ?_)) | go_size | (simp at *; omega))))
  have HQ1 := hide (calAt_below hb1 (by simp) (calAt_new w c))
  obtain ⟨q0, q1, q2, q3, q4, q5, q6, q7, q8, q9, q10, q11, q12, q13⟩ := HQ1.out
  clear hb1
  go_wp2
  all_goals first
    | (exfalso; omega)
    | (go_ret; exact ⟨rfl, HB1.out⟩)

set_option maxRecDepth 100000 in
set_option maxHeartbeats 3200000 in
theorem fl_no (c : Cal) (d lv top : Int) (w : World) (hn : c.name.size ≤ 100) (hE : ¬ fdE c d lv = 0) :
    Calls Try.prog 10 #[calV c, .int .i64 d, .int .i64 lv, .int .i64 top] w fun e w' => e = .returned (.bool true) ∧ Below w.heap.size w w' := by
  have HU := hide (fd_not hE)
  have hE' : (fdE c d lv != 0) = true := by simpa using hE
  obtain ⟨E, hEE⟩ : ∃ E, E = fdE c d lv := ⟨_, rfl⟩
  obtain ⟨S, hSS⟩ : ∃ S, S = servE c d := ⟨_, rfl⟩
  obtain ⟨Y, hYY⟩ : ∃ Y, Y = servY c d := ⟨_, rfl⟩
  have HES := hide (show 1 ≤ lv → lv ≤ 5 → E = S from fun a b => by rw [hEE, hSS]; exact fd_serv a b)
  rw [← hEE] at hE'
  have HE := hide hEE
  have HS := hide hSS
  have HY := hide hYY
  clear hE hEE hSS hYY
  simp only [calV]
  go_enter Try.func10, Try.ntmps10
  go_wp2_with fail
  refine (live17_any _).mono ?_
  rintro e w1 ⟨rfl, hb1⟩
  have hz1 : w.heap.size < w1.heap.size := by have := hb1.size; simp at this; omega
  have HB1 := hide (show Below w.heap.size w w1 by refine Below.trans ?_ (hb1.mono (by first | omega | (simp; done) | (simp; omega))); (repeat' (first | (with_reducible exact Below.refl _ _) | (with_reducible assumption) | (with_reducible refine Below.alloc ?_ ?_ _) | (with_reducible refine below_drewN ?_ _) | (with_reducible refine Below.drew ?_) | (with_reducible refine Below.setCell ?_ ?_ _) | (with_reducible refine Below.trans ?_ (Below.mono (by assumption) ?_)) | go_size | (simp at *; omega))))
  have HQ1 := hide (calAt_below hb1 (by simp) (calAt_new w c))
  obtain ⟨q0, q1, q2, q3, q4, q5, q6, q7, q8, q9, q10, q11, q12, q13⟩ := HQ1.out
  clear hb1
  go_wp2_with fail
  all_goals first
    | (exfalso; omega)
    | skip
  refine (fday_any c d lv _ (by omega)).mono ?_
  rintro e w2 ⟨rfl, hb2⟩
  rw [HU.out, ← HE.out]
  simp only [unitV]
  have hz2 : w.heap.size < w2.heap.size := by have := hb2.size; (try simp at this); omega
  have HB2 := hide (show Below w.heap.size w w2 by have hp := HB1.out; refine Below.trans ?_ (hb2.mono (by first | omega | (simp; done) | (simp; omega))); (repeat' (first | (with_reducible exact Below.refl _ _) | (with_reducible assumption) | (with_reducible refine Below.alloc ?_ ?_ _) | (with_reducible refine below_drewN ?_ _) | (with_reducible refine Below.drew ?_) | (with_reducible refine Below.setCell ?_ ?_ _) | (with_reducible refine Below.trans ?_ (Below.mono (by assumption) ?_)) | go_size | (simp at *; omega))))
  have HQ2 := hide (show CalAt w2 w.heap.size c from calAt_below hb2 (by first | omega | (simp; done) | (simp; omega)) (by first | exact HQ1.out | exact calAt_alloc HQ1.out (by omega) _ | exact calAt_alloc (calAt_alloc HQ1.out (by omega) _) (by simp; omega) _))
  clear q0 q1 q2 q3 q4 q5 q6 q7 q8 q9 q10 q11 q12 q13
  obtain ⟨q0, q1, q2, q3, q4, q5, q6, q7, q8, q9, q10, q11, q12, q13⟩ := HQ2.out
  clear hb2
  go_wp2_with fail
  refine (served_any c d _ (by omega)).mono ?_
  rintro e w3 ⟨rfl, hb3⟩
  rw [← HS.out, ← HY.out]
  have HX3 := hide (show UnAt w3 w2.heap.size ⟨0, 0, 0⟩ from unAt_below hb3 (by simp) (unAt_fresh w2 ⟨0, 0, 0⟩))
  have hz3 : w.heap.size < w3.heap.size := by have := hb3.size; (try simp at this); omega
  have HB3 := hide (show Below w.heap.size w w3 by have hp := HB2.out; refine Below.trans ?_ (hb3.mono (by first | omega | (simp; done) | (simp; omega))); (repeat' (first | (with_reducible exact Below.refl _ _) | (with_reducible assumption) | (with_reducible refine Below.alloc ?_ ?_ _) | (with_reducible refine below_drewN ?_ _) | (with_reducible refine Below.drew ?_) | (with_reducible refine Below.setCell ?_ ?_ _) | (with_reducible refine Below.trans ?_ (Below.mono (by assumption) ?_)) | go_size | (simp at *; omega))))
  have HQ3 := hide (show CalAt w3 w.heap.size c from calAt_below hb3 (by first | omega | (simp; done) | (simp; omega)) (by first | exact HQ2.out | exact calAt_alloc HQ2.out (by omega) _ | exact calAt_alloc (calAt_alloc HQ2.out (by omega) _) (by simp; omega) _))
  clear q0 q1 q2 q3 q4 q5 q6 q7 q8 q9 q10 q11 q12 q13
  obtain ⟨q0, q1, q2, q3, q4, q5, q6, q7, q8, q9, q10, q11, q12, q13⟩ := HQ3.out
  clear hb3
  clear q0 q1 q2 q3 q4 q5 q6 q7 q8 q9 q10 q11 q12 q13
  obtain ⟨x0, x1, x2⟩ := HX3.out
  have hBel := HB3.out
  have hub : unB 0 0 0 0 0 0 = true := unB_same _ _ _
  by_cases hl : 1 ≤ lv ∧ lv ≤ 5
  · obtain ⟨l1, l5⟩ := hl
    obtain rfl : E = S := HES.out l1 l5
    go_wp2
    all_goals first
      | (exfalso; omega)
      | (go_ret; exact ⟨ret_bool (by simp), by (repeat' (first | (with_reducible exact Below.refl _ _) | (with_reducible assumption) | (with_reducible refine Below.alloc ?_ ?_ _) | (with_reducible refine below_drewN ?_ _) | (with_reducible refine Below.drew ?_) | (with_reducible refine Below.setCell ?_ ?_ _) | (with_reducible refine Below.trans ?_ (Below.mono (by assumption) ?_)) | go_size | (simp at *; omega)))⟩)
  · rcases (show lv < 1 ∨ (1 ≤ lv ∧ 5 < lv) by omega) with h | ⟨h, h'⟩
    · go_wp2
      all_goals first
        | (exfalso; omega)
        | (go_ret; exact ⟨ret_bool (by simp), by (repeat' (first | (with_reducible exact Below.refl _ _) | (with_reducible assumption) | (with_reducible refine Below.alloc ?_ ?_ _) | (with_reducible refine below_drewN ?_ _) | (with_reducible refine Below.drew ?_) | (with_reducible refine Below.setCell ?_ ?_ _) | (with_reducible refine Below.trans ?_ (Below.mono (by assumption) ?_)) | go_size | (simp at *; omega)))⟩)
    · go_wp2
      all_goals first
        | (exfalso; omega)
        | (go_ret; exact ⟨ret_bool (by simp), by (repeat' (first | (with_reducible exact Below.refl _ _) | (with_reducible assumption) | (with_reducible refine Below.alloc ?_ ?_ _) | (with_reducible refine below_drewN ?_ _) | (with_reducible refine Below.drew ?_) | (with_reducible refine Below.setCell ?_ ?_ _) | (with_reducible refine Below.trans ?_ (Below.mono (by assumption) ?_)) | go_size | (simp at *; omega)))⟩)

set_option maxRecDepth 100000 in
set_option maxHeartbeats 3200000 in
theorem fl_yes (c : Cal) (d lv top : Int) (w : World) (hn : c.name.size ≤ 100) (hE : fdE c d lv = 0) :
    Calls Try.prog 10 #[calV c, .int .i64 d, .int .i64 lv, .int .i64 top] w fun e w' => e = .returned (.bool true) ∧ Below w.heap.size w w' := by
  obtain ⟨hk, l1, l5, hs, hd, hy, hf⟩ := fd_ok hE
  obtain ⟨i, e, hu, _⟩ := fd_unit hE
  have HUP := hide (fun h1 h2 => fd_up (top := top) hE h1 h2)
  obtain ⟨Y, hYY⟩ : ∃ Y, Y = servY c d := ⟨_, rfl⟩
  rw [← hYY] at e
  have HU := hide e
  have HE := hide hE
  have HS := hide hs
  have HY := hide hYY
  obtain ⟨V, hV⟩ : ∃ V, V = fdU c d top := ⟨_, rfl⟩
  have HV := hide hV
  obtain ⟨V0, V1, V2⟩ := V
  clear hE hs hd hy hf hu e hYY hV hk
  simp only [calV]
  go_enter Try.func10, Try.ntmps10
  go_wp2_with fail
  refine (live17_any _).mono ?_
  rintro e w1 ⟨rfl, hb1⟩
  have hz1 : w.heap.size < w1.heap.size := by have := hb1.size; simp at this; omega
  have HB1 := hide (show Below w.heap.size w w1 by refine Below.trans ?_ (hb1.mono (by first | omega | (simp; done) | (simp; omega))); (repeat' (first | (with_reducible exact Below.refl _ _) | (with_reducible assumption) | (with_reducible refine Below.alloc ?_ ?_ _) | (with_reducible refine below_drewN ?_ _) | (with_reducible refine Below.drew ?_) | (with_reducible refine Below.setCell ?_ ?_ _) | (with_reducible refine Below.trans ?_ (Below.mono (by assumption) ?_)) | go_size | (simp at *; omega))))
  have HQ1 := hide (calAt_below hb1 (by simp) (calAt_new w c))
  obtain ⟨q0, q1, q2, q3, q4, q5, q6, q7, q8, q9, q10, q11, q12, q13⟩ := HQ1.out
  clear hb1
  go_wp2_with fail
  all_goals first
    | (exfalso; omega)
    | skip
  refine (fday_any c d lv _ (by omega)).mono ?_
  rintro e w2 ⟨rfl, hb2⟩
  rw [HU.out, HE.out]
  simp only [unitV]
  have hz2 : w.heap.size < w2.heap.size := by have := hb2.size; (try simp at this); omega
  have HB2 := hide (show Below w.heap.size w w2 by have hp := HB1.out; refine Below.trans ?_ (hb2.mono (by first | omega | (simp; done) | (simp; omega))); (repeat' (first | (with_reducible exact Below.refl _ _) | (with_reducible assumption) | (with_reducible refine Below.alloc ?_ ?_ _) | (with_reducible refine below_drewN ?_ _) | (with_reducible refine Below.drew ?_) | (with_reducible refine Below.setCell ?_ ?_ _) | (with_reducible refine Below.trans ?_ (Below.mono (by assumption) ?_)) | go_size | (simp at *; omega))))
  have HQ2 := hide (show CalAt w2 w.heap.size c from calAt_below hb2 (by first | omega | (simp; done) | (simp; omega)) (by first | exact HQ1.out | exact calAt_alloc HQ1.out (by omega) _ | exact calAt_alloc (calAt_alloc HQ1.out (by omega) _) (by simp; omega) _))
  clear q0 q1 q2 q3 q4 q5 q6 q7 q8 q9 q10 q11 q12 q13
  obtain ⟨q0, q1, q2, q3, q4, q5, q6, q7, q8, q9, q10, q11, q12, q13⟩ := HQ2.out
  clear hb2
  go_wp2_with fail
  refine (served_any c d _ (by omega)).mono ?_
  rintro e w3 ⟨rfl, hb3⟩
  rw [HS.out, ← HY.out]
  have HX3 := hide (show UnAt w3 w2.heap.size ⟨lv, Y, (i : Int) + 1⟩ from unAt_below hb3 (by simp) (unAt_fresh w2 ⟨lv, Y, (i : Int) + 1⟩))
  have hX3 : w2.heap.size < w3.heap.size := by have := hb3.size; (try simp at this); omega
  have hz3 : w.heap.size < w3.heap.size := by have := hb3.size; (try simp at this); omega
  have HB3 := hide (show Below w.heap.size w w3 by have hp := HB2.out; refine Below.trans ?_ (hb3.mono (by first | omega | (simp; done) | (simp; omega))); (repeat' (first | (with_reducible exact Below.refl _ _) | (with_reducible assumption) | (with_reducible refine Below.alloc ?_ ?_ _) | (with_reducible refine below_drewN ?_ _) | (with_reducible refine Below.drew ?_) | (with_reducible refine Below.setCell ?_ ?_ _) | (with_reducible refine Below.trans ?_ (Below.mono (by assumption) ?_)) | go_size | (simp at *; omega))))
  have HQ3 := hide (show CalAt w3 w.heap.size c from calAt_below hb3 (by first | omega | (simp; done) | (simp; omega)) (by first | exact HQ2.out | exact calAt_alloc HQ2.out (by omega) _ | exact calAt_alloc (calAt_alloc HQ2.out (by omega) _) (by simp; omega) _))
  clear q0 q1 q2 q3 q4 q5 q6 q7 q8 q9 q10 q11 q12 q13
  obtain ⟨q0, q1, q2, q3, q4, q5, q6, q7, q8, q9, q10, q11, q12, q13⟩ := HQ3.out
  clear hb3
  obtain ⟨x0, x1, x2⟩ := HX3.out
  have hBel := HB3.out
  by_cases ht : 1 ≤ top ∧ top ≤ lv
  · obtain ⟨t1, t2⟩ := ht
    have hup := HUP.out t1 t2
    rw [HU.out, ← HV.out] at hup
    have HUP2 := hide hup
    clear hup
    have hub : unB V0 V1 V2 V0 V1 V2 = true := unB_same _ _ _
    go_wp2_with fail
    all_goals first
      | (exfalso; omega)
      | skip
    refine (fday_any c d top _ (by omega)).mono ?_
    rintro e w4 ⟨rfl, hb4⟩
    rw [HUP2.out.1, ← HV.out]
    simp only [unitV]
    have HX4 := hide (show UnAt w4 w2.heap.size ⟨lv, Y, (i : Int) + 1⟩ from unAt_below hb4 (by first | omega | (simp; done) | (simp; omega)) (by first | exact HX3.out | exact unAt_alloc HX3.out (by omega) _ | exact unAt_alloc (unAt_alloc HX3.out (by omega) _) (by simp; omega) _))
    have hX4 : w2.heap.size < w4.heap.size := by have := hb4.size; (try simp at this); omega
    clear x0 x1 x2 hBel
    have hz4 : w.heap.size < w4.heap.size := by have := hb4.size; (try simp at this); omega
    have HB4 := hide (show Below w.heap.size w w4 by have hp := HB3.out; refine Below.trans ?_ (hb4.mono (by first | omega | (simp; done) | (simp; omega))); (repeat' (first | (with_reducible exact Below.refl _ _) | (with_reducible assumption) | (with_reducible refine Below.alloc ?_ ?_ _) | (with_reducible refine below_drewN ?_ _) | (with_reducible refine Below.drew ?_) | (with_reducible refine Below.setCell ?_ ?_ _) | (with_reducible refine Below.trans ?_ (Below.mono (by assumption) ?_)) | go_size | (simp at *; omega))))
    have HQ4 := hide (show CalAt w4 w.heap.size c from calAt_below hb4 (by first | omega | (simp; done) | (simp; omega)) (by first | exact HQ3.out | exact calAt_alloc HQ3.out (by omega) _ | exact calAt_alloc (calAt_alloc HQ3.out (by omega) _) (by simp; omega) _))
    clear q0 q1 q2 q3 q4 q5 q6 q7 q8 q9 q10 q11 q12 q13
    obtain ⟨q0, q1, q2, q3, q4, q5, q6, q7, q8, q9, q10, q11, q12, q13⟩ := HQ4.out
    clear hb4
    obtain ⟨x0, x1, x2⟩ := HX4.out
    go_wp2_with fail
    refine (up_any c ⟨lv, Y, (i : Int) + 1⟩ top _ (by omega)).mono ?_
    rintro e w5 ⟨rfl, hb5⟩
    rw [HUP2.out.2.1, HUP2.out.2.2]
    simp only [unitV]
    have HZ5 := hide (show UnAt w5 w4.heap.size ⟨V0, V1, V2⟩ from unAt_below hb5 (by simp) (unAt_fresh w4 ⟨V0, V1, V2⟩))
    have hZ5 : w4.heap.size < w5.heap.size := by have := hb5.size; (try simp at this); omega
    clear x0 x1 x2
    have hz5 : w.heap.size < w5.heap.size := by have := hb5.size; (try simp at this); omega
    have HB5 := hide (show Below w.heap.size w w5 by have hp := HB4.out; refine Below.trans ?_ (hb5.mono (by first | omega | (simp; done) | (simp; omega))); (repeat' (first | (with_reducible exact Below.refl _ _) | (with_reducible assumption) | (with_reducible refine Below.alloc ?_ ?_ _) | (with_reducible refine below_drewN ?_ _) | (with_reducible refine Below.drew ?_) | (with_reducible refine Below.setCell ?_ ?_ _) | (with_reducible refine Below.trans ?_ (Below.mono (by assumption) ?_)) | go_size | (simp at *; omega))))
    have HQ5 := hide (show CalAt w5 w.heap.size c from calAt_below hb5 (by first | omega | (simp; done) | (simp; omega)) (by first | exact HQ4.out | exact calAt_alloc HQ4.out (by omega) _ | exact calAt_alloc (calAt_alloc HQ4.out (by omega) _) (by simp; omega) _))
    clear q0 q1 q2 q3 q4 q5 q6 q7 q8 q9 q10 q11 q12 q13
    obtain ⟨q0, q1, q2, q3, q4, q5, q6, q7, q8, q9, q10, q11, q12, q13⟩ := HQ5.out
    clear hb5
    clear q0 q1 q2 q3 q4 q5 q6 q7 q8 q9 q10 q11 q12 q13
    obtain ⟨x0, x1, x2⟩ := HZ5.out
    have hBel := HB5.out
    go_wp2
    all_goals first
      | (exfalso; omega)
      | (go_ret; exact ⟨ret_bool (by simp), by (repeat' (first | (with_reducible exact Below.refl _ _) | (with_reducible assumption) | (with_reducible refine Below.alloc ?_ ?_ _) | (with_reducible refine below_drewN ?_ _) | (with_reducible refine Below.drew ?_) | (with_reducible refine Below.setCell ?_ ?_ _) | (with_reducible refine Below.trans ?_ (Below.mono (by assumption) ?_)) | go_size | (simp at *; omega)))⟩)
  · rcases (show top < 1 ∨ (1 ≤ top ∧ lv < top) by omega) with h | ⟨h, h'⟩
    · go_wp2
      all_goals first
        | (exfalso; omega)
        | (go_ret; exact ⟨ret_bool (by simp), by (repeat' (first | (with_reducible exact Below.refl _ _) | (with_reducible assumption) | (with_reducible refine Below.alloc ?_ ?_ _) | (with_reducible refine below_drewN ?_ _) | (with_reducible refine Below.drew ?_) | (with_reducible refine Below.setCell ?_ ?_ _) | (with_reducible refine Below.trans ?_ (Below.mono (by assumption) ?_)) | go_size | (simp at *; omega)))⟩)
    · go_wp2
      all_goals first
        | (exfalso; omega)
        | (go_ret; exact ⟨ret_bool (by simp), by (repeat' (first | (with_reducible exact Below.refl _ _) | (with_reducible assumption) | (with_reducible refine Below.alloc ?_ ?_ _) | (with_reducible refine below_drewN ?_ _) | (with_reducible refine Below.drew ?_) | (with_reducible refine Below.setCell ?_ ?_ _) | (with_reducible refine Below.trans ?_ (Below.mono (by assumption) ?_)) | go_size | (simp at *; omega)))⟩)

theorem fl_walk (c : Cal) (hn : c.name.size ≤ 9223372036854775807) (d lv top : Int) (w : World) :
    Calls Try.prog 10 #[calV c, .int .i64 d, .int .i64 lv, .int .i64 top] w fun e w' => e = .returned (.bool true) ∧ Below w.heap.size w w' := by
  by_cases h : 100 < c.name.size
  · exact fl_long c d lv top w h hn
  · by_cases hE : fdE c d lv = 0
    · exact fl_yes c d lv top w (by omega) hE
    · exact fl_no c d lv top w (by omega) hE
end Go.Proofs.Ytepmfpgljcbkmaa

namespace Go.Proofs.Ytepmfpgljcbkmaa
open Go.RowKit Qd
set_option linter.unusedSimpArgs false
set_option linter.unusedVariables false

/-- Any day of a unit is told to lie in it. -/
theorem un_day {c : Cal} {u : Un} (h : unitE c u = 0) (d : Int) (h1 : (spV c u).a ≤ d) (h2 : d ≤ (spV c u).b) : fdE c d u.lv = 0 ∧ fdU c d u.lv = u := by
  obtain ⟨hf, hl1, hl5, hA, hx, hi⟩ := un_lv h
  rw [sp_get h] at h1 h2
  simp only at h1 h2
  have := fd_of hf (uI u) hi (d := d) h1 (show d < dayW c u.yr (cutN c u.yr u.lv (uI u + 1)) by have : cutB c u = cutN c u.yr u.lv (uI u + 1) := rfl; rw [← this]; omega)
  exact ⟨this.1, by rw [this.2.2.2, ← hx]⟩
theorem sp_bd {c : Cal} {u : Un} (h : unitE c u = 0) : 0 ≤ (spV c u).a ∧ (spV c u).a ≤ (spV c u).b ∧ (spV c u).b ≤ 3068037 := by
  obtain ⟨hf, hl1, hl5, hA, hx, hi⟩ := un_lv h
  have hab := cutAB h
  rw [sp_get h]
  have b1 := dayW_le c u.yr hA (Nat.zero_le (cutA c u)) (by omega)
  have b2 := dayW_le c u.yr hA hab.2 (Nat.le_refl _)
  have b3 := dayW_lt c u.yr hA hab.1 hab.2
  rw [dayW_0] at b1
  rw [dayW_end c u.yr hA] at b2
  have := year_bd c u.yr hA
  simp only
  omega

set_option maxRecDepth 100000 in
set_option maxHeartbeats 1600000 in
theorem fb_long (c : Cal) (d lv : Int) (u : Un) (k : Int) (w : World) (hn : 100 < c.name.size) (hm : c.name.size ≤ 9223372036854775807) :
    Calls Try.prog 9 #[calV c, .int .i64 d, .int .i64 lv, unitV u, .int .i64 k] w fun e w' => e = .returned (.bool true) ∧ Below w.heap.size w w' := by
  simp only [calV, unitV]
  go_enter Try.func9, Try.ntmps9
  go_wp2_with fail
  refine (live17_any _).mono ?_
  rintro e w1 ⟨rfl, hb1⟩
  have hz1 : w.heap.size + 1 < w1.heap.size := by have := hb1.size; simp at this; omega
  have HB1 := hide (show Below w.heap.size w w1 by refine Below.trans ?_ (hb1.mono (by first | omega | (simp; done) | (simp; omega))); (repeat' (first | (with_reducible exact Below.refl _ _) | (with_reducible assumption) | (with_reducible refine Below.alloc ?_ ?_ _) | (with_reducible refine below_drewN ?_ _) | (with_reducible refine Below.drew ?_) | (with_reducible refine Below.setCell ?_ ?_ _) | (with_reducible refine Below.trans ?_ (Below.mono (by assumption) ?_)) | go_size | (simp at *; omega))))
  have HQ1 := hide (calAt_below hb1 (by simp; omega) (calAt_alloc (calAt_new w c) (by simp) _))
  have HU1 := hide (unAt_below hb1 (by simp) (unAt_new w c u))
  obtain ⟨q0, q1, q2, q3, q4, q5, q6, q7, q8, q9, q10, q11, q12, q13⟩ := HQ1.out
  obtain ⟨u0, u1, u2⟩ := HU1.out
  have hy1 : w.heap.size < w1.heap.size := by omega
  clear hb1
  go_wp2
  all_goals first
    | (exfalso; omega)
    | (go_ret; exact ⟨rfl, HB1.out⟩)


set_option maxRecDepth 100000 in
set_option maxHeartbeats 3200000 in
theorem fb_000 (c : Cal) (d lv : Int) (u : Un) (k : Int) (w : World) (hn : c.name.size ≤ 100) (hA : ¬ fdE c d lv = 0) (hE : ¬ unitE c u = 0) :
    Calls Try.prog 9 #[calV c, .int .i64 d, .int .i64 lv, unitV u, .int .i64 k] w fun e w' => e = .returned (.bool true) ∧ Below w.heap.size w w' := by
  have HV := hide (fd_not hA)
  have hA' : (fdE c d lv == 0) = false := by simpa using hA
  clear hA
  have HS := hide (show spV c u = ⟨0, 0⟩ by rw [spV, if_neg hE])
  have hE' : (unitE c u != 0) = true := by simpa using hE
  clear hE
  simp only [calV, unitV]
  go_enter Try.func9, Try.ntmps9
  go_wp2_with fail
  refine (live17_any _).mono ?_
  rintro e w1 ⟨rfl, hb1⟩
  have hz1 : w.heap.size + 1 < w1.heap.size := by have := hb1.size; simp at this; omega
  have HB1 := hide (show Below w.heap.size w w1 by refine Below.trans ?_ (hb1.mono (by first | omega | (simp; done) | (simp; omega))); (repeat' (first | (with_reducible exact Below.refl _ _) | (with_reducible assumption) | (with_reducible refine Below.alloc ?_ ?_ _) | (with_reducible refine below_drewN ?_ _) | (with_reducible refine Below.drew ?_) | (with_reducible refine Below.setCell ?_ ?_ _) | (with_reducible refine Below.trans ?_ (Below.mono (by assumption) ?_)) | go_size | (simp at *; omega))))
  have HQ1 := hide (calAt_below hb1 (by simp; omega) (calAt_alloc (calAt_new w c) (by simp) _))
  have HU1 := hide (unAt_below hb1 (by simp) (unAt_new w c u))
  obtain ⟨q0, q1, q2, q3, q4, q5, q6, q7, q8, q9, q10, q11, q12, q13⟩ := HQ1.out
  obtain ⟨u0, u1, u2⟩ := HU1.out
  have hy1 : w.heap.size < w1.heap.size := by omega
  clear hb1
  go_wp2_with fail
  all_goals first
    | (exfalso; omega)
    | skip
  refine (fday_any c d lv _ (by omega)).mono ?_
  rintro e w2 ⟨rfl, hb2⟩
  rw [HV.out]
  simp only [unitV]
  have hz2 : w.heap.size + 1 < w2.heap.size := by have := hb2.size; (try simp at this); omega
  have HB2 := hide (show Below w.heap.size w w2 by have hp := HB1.out; refine Below.trans ?_ (hb2.mono (by first | omega | (simp; done) | (simp; omega))); (repeat' (first | (with_reducible exact Below.refl _ _) | (with_reducible assumption) | (with_reducible refine Below.alloc ?_ ?_ _) | (with_reducible refine below_drewN ?_ _) | (with_reducible refine Below.drew ?_) | (with_reducible refine Below.setCell ?_ ?_ _) | (with_reducible refine Below.trans ?_ (Below.mono (by assumption) ?_)) | go_size | (simp at *; omega))))
  have HQ2 := hide (show CalAt w2 w.heap.size c from calAt_below hb2 (by first | omega | (simp; done) | (simp; omega)) (by first | exact HQ1.out | exact calAt_alloc HQ1.out (by omega) _ | exact calAt_alloc (calAt_alloc HQ1.out (by omega) _) (by simp; omega) _))
  clear q0 q1 q2 q3 q4 q5 q6 q7 q8 q9 q10 q11 q12 q13
  obtain ⟨q0, q1, q2, q3, q4, q5, q6, q7, q8, q9, q10, q11, q12, q13⟩ := HQ2.out
  have HU2 := hide (show UnAt w2 (w.heap.size + 1) u from unAt_below hb2 (by first | omega | (simp; done) | (simp; omega)) (by first | exact HU1.out | exact unAt_alloc HU1.out (by omega) _ | exact unAt_alloc (unAt_alloc HU1.out (by omega) _) (by simp; omega) _))
  clear u0 u1 u2
  obtain ⟨u0, u1, u2⟩ := HU2.out
  have hy2 : w.heap.size < w2.heap.size := by omega
  clear hb2
  go_wp2_with fail
  refine (uspan_any c u _ (by omega)).mono ?_
  rintro e w3 ⟨rfl, hb3⟩
  rw [HS.out]
  simp only [spanV]
  have hz3 : w.heap.size + 1 < w3.heap.size := by have := hb3.size; (try simp at this); omega
  have HB3 := hide (show Below w.heap.size w w3 by have hp := HB2.out; refine Below.trans ?_ (hb3.mono (by first | omega | (simp; done) | (simp; omega))); (repeat' (first | (with_reducible exact Below.refl _ _) | (with_reducible assumption) | (with_reducible refine Below.alloc ?_ ?_ _) | (with_reducible refine below_drewN ?_ _) | (with_reducible refine Below.drew ?_) | (with_reducible refine Below.setCell ?_ ?_ _) | (with_reducible refine Below.trans ?_ (Below.mono (by assumption) ?_)) | go_size | (simp at *; omega))))
  have HQ3 := hide (show CalAt w3 w.heap.size c from calAt_below hb3 (by first | omega | (simp; done) | (simp; omega)) (by first | exact HQ2.out | exact calAt_alloc HQ2.out (by omega) _ | exact calAt_alloc (calAt_alloc HQ2.out (by omega) _) (by simp; omega) _))
  clear q0 q1 q2 q3 q4 q5 q6 q7 q8 q9 q10 q11 q12 q13
  obtain ⟨q0, q1, q2, q3, q4, q5, q6, q7, q8, q9, q10, q11, q12, q13⟩ := HQ3.out
  have HU3 := hide (show UnAt w3 (w.heap.size + 1) u from unAt_below hb3 (by first | omega | (simp; done) | (simp; omega)) (by first | exact HU2.out | exact unAt_alloc HU2.out (by omega) _ | exact unAt_alloc (unAt_alloc HU2.out (by omega) _) (by simp; omega) _))
  clear u0 u1 u2
  obtain ⟨u0, u1, u2⟩ := HU3.out
  have hy3 : w.heap.size < w3.heap.size := by omega
  clear hb3
  clear q0 q1 q2 q3 q4 q5 q6 q7 q8 q9 q10 q11 q12 q13
  have hBel := HB3.out
  go_wp2
  all_goals first
    | (exfalso; omega)
    | (go_ret; exact ⟨ret_bool (by simp [spB]), by (repeat' (first | (with_reducible exact Below.refl _ _) | (with_reducible assumption) | (with_reducible refine Below.alloc ?_ ?_ _) | (with_reducible refine below_drewN ?_ _) | (with_reducible refine Below.drew ?_) | (with_reducible refine Below.setCell ?_ ?_ _) | (with_reducible refine Below.trans ?_ (Below.mono (by assumption) ?_)) | go_size | (simp at *; omega)))⟩)

set_option maxRecDepth 100000 in
set_option maxHeartbeats 3200000 in
theorem fb_010 (c : Cal) (d lv : Int) (u : Un) (k : Int) (w : World) (hn : c.name.size ≤ 100) (hA : ¬ fdE c d lv = 0) (hE : unitE c u = 0) (hk : k < 0 ∨ (0 ≤ k ∧ (spV c u).b - (spV c u).a < k)) :
    Calls Try.prog 9 #[calV c, .int .i64 d, .int .i64 lv, unitV u, .int .i64 k] w fun e w' => e = .returned (.bool true) ∧ Below w.heap.size w w' := by
  have HV := hide (fd_not hA)
  have hA' : (fdE c d lv == 0) = false := by simpa using hA
  clear hA
  have hsb := sp_bd hE
  have HDAY := hide (fun x h1 h2 => un_day hE x h1 h2)
  have HE := hide hE
  obtain ⟨S, hS⟩ : ∃ S, S = spV c u := ⟨_, rfl⟩
  rw [← hS] at hsb HDAY hk
  have HS := hide hS
  obtain ⟨sa, sb⟩ := S
  simp only at hsb HDAY hk
  clear hE hS
  simp only [calV, unitV]
  go_enter Try.func9, Try.ntmps9
  go_wp2_with fail
  refine (live17_any _).mono ?_
  rintro e w1 ⟨rfl, hb1⟩
  have hz1 : w.heap.size + 1 < w1.heap.size := by have := hb1.size; simp at this; omega
  have HB1 := hide (show Below w.heap.size w w1 by refine Below.trans ?_ (hb1.mono (by first | omega | (simp; done) | (simp; omega))); (repeat' (first | (with_reducible exact Below.refl _ _) | (with_reducible assumption) | (with_reducible refine Below.alloc ?_ ?_ _) | (with_reducible refine below_drewN ?_ _) | (with_reducible refine Below.drew ?_) | (with_reducible refine Below.setCell ?_ ?_ _) | (with_reducible refine Below.trans ?_ (Below.mono (by assumption) ?_)) | go_size | (simp at *; omega))))
  have HQ1 := hide (calAt_below hb1 (by simp; omega) (calAt_alloc (calAt_new w c) (by simp) _))
  have HU1 := hide (unAt_below hb1 (by simp) (unAt_new w c u))
  obtain ⟨q0, q1, q2, q3, q4, q5, q6, q7, q8, q9, q10, q11, q12, q13⟩ := HQ1.out
  obtain ⟨u0, u1, u2⟩ := HU1.out
  have hy1 : w.heap.size < w1.heap.size := by omega
  clear hb1
  go_wp2_with fail
  all_goals first
    | (exfalso; omega)
    | skip
  refine (fday_any c d lv _ (by omega)).mono ?_
  rintro e w2 ⟨rfl, hb2⟩
  rw [HV.out]
  simp only [unitV]
  have hz2 : w.heap.size + 1 < w2.heap.size := by have := hb2.size; (try simp at this); omega
  have HB2 := hide (show Below w.heap.size w w2 by have hp := HB1.out; refine Below.trans ?_ (hb2.mono (by first | omega | (simp; done) | (simp; omega))); (repeat' (first | (with_reducible exact Below.refl _ _) | (with_reducible assumption) | (with_reducible refine Below.alloc ?_ ?_ _) | (with_reducible refine below_drewN ?_ _) | (with_reducible refine Below.drew ?_) | (with_reducible refine Below.setCell ?_ ?_ _) | (with_reducible refine Below.trans ?_ (Below.mono (by assumption) ?_)) | go_size | (simp at *; omega))))
  have HQ2 := hide (show CalAt w2 w.heap.size c from calAt_below hb2 (by first | omega | (simp; done) | (simp; omega)) (by first | exact HQ1.out | exact calAt_alloc HQ1.out (by omega) _ | exact calAt_alloc (calAt_alloc HQ1.out (by omega) _) (by simp; omega) _))
  clear q0 q1 q2 q3 q4 q5 q6 q7 q8 q9 q10 q11 q12 q13
  obtain ⟨q0, q1, q2, q3, q4, q5, q6, q7, q8, q9, q10, q11, q12, q13⟩ := HQ2.out
  have HU2 := hide (show UnAt w2 (w.heap.size + 1) u from unAt_below hb2 (by first | omega | (simp; done) | (simp; omega)) (by first | exact HU1.out | exact unAt_alloc HU1.out (by omega) _ | exact unAt_alloc (unAt_alloc HU1.out (by omega) _) (by simp; omega) _))
  clear u0 u1 u2
  obtain ⟨u0, u1, u2⟩ := HU2.out
  have hy2 : w.heap.size < w2.heap.size := by omega
  clear hb2
  go_wp2_with fail
  refine (uspan_any c u _ (by omega)).mono ?_
  rintro e w3 ⟨rfl, hb3⟩
  rw [HE.out, ← HS.out]
  simp only [spanV]
  have hz3 : w.heap.size + 1 < w3.heap.size := by have := hb3.size; (try simp at this); omega
  have HB3 := hide (show Below w.heap.size w w3 by have hp := HB2.out; refine Below.trans ?_ (hb3.mono (by first | omega | (simp; done) | (simp; omega))); (repeat' (first | (with_reducible exact Below.refl _ _) | (with_reducible assumption) | (with_reducible refine Below.alloc ?_ ?_ _) | (with_reducible refine below_drewN ?_ _) | (with_reducible refine Below.drew ?_) | (with_reducible refine Below.setCell ?_ ?_ _) | (with_reducible refine Below.trans ?_ (Below.mono (by assumption) ?_)) | go_size | (simp at *; omega))))
  have HQ3 := hide (show CalAt w3 w.heap.size c from calAt_below hb3 (by first | omega | (simp; done) | (simp; omega)) (by first | exact HQ2.out | exact calAt_alloc HQ2.out (by omega) _ | exact calAt_alloc (calAt_alloc HQ2.out (by omega) _) (by simp; omega) _))
  clear q0 q1 q2 q3 q4 q5 q6 q7 q8 q9 q10 q11 q12 q13
  obtain ⟨q0, q1, q2, q3, q4, q5, q6, q7, q8, q9, q10, q11, q12, q13⟩ := HQ3.out
  have HU3 := hide (show UnAt w3 (w.heap.size + 1) u from unAt_below hb3 (by first | omega | (simp; done) | (simp; omega)) (by first | exact HU2.out | exact unAt_alloc HU2.out (by omega) _ | exact unAt_alloc (unAt_alloc HU2.out (by omega) _) (by simp; omega) _))
  clear u0 u1 u2
  obtain ⟨u0, u1, u2⟩ := HU3.out
  have hy3 : w.heap.size < w3.heap.size := by omega
  clear hb3
  have hBel := HB3.out
  clear q0 q1 q2 q3 q4 q5 q6 q7 q8 q9 q10 q11 q12 q13
  rcases hk with hk | ⟨hk1, hk2⟩
  · go_wp2
    all_goals first
      | (exfalso; omega)
      | (go_ret; exact ⟨ret_bool (by simp), by (repeat' (first | (with_reducible exact Below.refl _ _) | (with_reducible assumption) | (with_reducible refine Below.alloc ?_ ?_ _) | (with_reducible refine below_drewN ?_ _) | (with_reducible refine Below.drew ?_) | (with_reducible refine Below.setCell ?_ ?_ _) | (with_reducible refine Below.trans ?_ (Below.mono (by assumption) ?_)) | go_size | (simp at *; omega)))⟩)
  · go_wp2
    all_goals first
      | (exfalso; omega)
      | (go_ret; exact ⟨ret_bool (by simp), by (repeat' (first | (with_reducible exact Below.refl _ _) | (with_reducible assumption) | (with_reducible refine Below.alloc ?_ ?_ _) | (with_reducible refine below_drewN ?_ _) | (with_reducible refine Below.drew ?_) | (with_reducible refine Below.setCell ?_ ?_ _) | (with_reducible refine Below.trans ?_ (Below.mono (by assumption) ?_)) | go_size | (simp at *; omega)))⟩)

set_option maxRecDepth 100000 in
set_option maxHeartbeats 3200000 in
theorem fb_011 (c : Cal) (d lv : Int) (u : Un) (k : Int) (w : World) (hn : c.name.size ≤ 100) (hA : ¬ fdE c d lv = 0) (hE : unitE c u = 0) (hk : 0 ≤ k ∧ k ≤ (spV c u).b - (spV c u).a) :
    Calls Try.prog 9 #[calV c, .int .i64 d, .int .i64 lv, unitV u, .int .i64 k] w fun e w' => e = .returned (.bool true) ∧ Below w.heap.size w w' := by
  have HV := hide (fd_not hA)
  have hA' : (fdE c d lv == 0) = false := by simpa using hA
  clear hA
  have hsb := sp_bd hE
  have HDAY := hide (fun x h1 h2 => un_day hE x h1 h2)
  have HE := hide hE
  obtain ⟨S, hS⟩ : ∃ S, S = spV c u := ⟨_, rfl⟩
  rw [← hS] at hsb HDAY hk
  have HS := hide hS
  obtain ⟨sa, sb⟩ := S
  simp only at hsb HDAY hk
  clear hE hS
  simp only [calV, unitV]
  go_enter Try.func9, Try.ntmps9
  go_wp2_with fail
  refine (live17_any _).mono ?_
  rintro e w1 ⟨rfl, hb1⟩
  have hz1 : w.heap.size + 1 < w1.heap.size := by have := hb1.size; simp at this; omega
  have HB1 := hide (show Below w.heap.size w w1 by refine Below.trans ?_ (hb1.mono (by first | omega | (simp; done) | (simp; omega))); (repeat' (first | (with_reducible exact Below.refl _ _) | (with_reducible assumption) | (with_reducible refine Below.alloc ?_ ?_ _) | (with_reducible refine below_drewN ?_ _) | (with_reducible refine Below.drew ?_) | (with_reducible refine Below.setCell ?_ ?_ _) | (with_reducible refine Below.trans ?_ (Below.mono (by assumption) ?_)) | go_size | (simp at *; omega))))
  have HQ1 := hide (calAt_below hb1 (by simp; omega) (calAt_alloc (calAt_new w c) (by simp) _))
  have HU1 := hide (unAt_below hb1 (by simp) (unAt_new w c u))
  obtain ⟨q0, q1, q2, q3, q4, q5, q6, q7, q8, q9, q10, q11, q12, q13⟩ := HQ1.out
  obtain ⟨u0, u1, u2⟩ := HU1.out
  have hy1 : w.heap.size < w1.heap.size := by omega
  clear hb1
  go_wp2_with fail
  all_goals first
    | (exfalso; omega)
    | skip
  refine (fday_any c d lv _ (by omega)).mono ?_
  rintro e w2 ⟨rfl, hb2⟩
  rw [HV.out]
  simp only [unitV]
  have hz2 : w.heap.size + 1 < w2.heap.size := by have := hb2.size; (try simp at this); omega
  have HB2 := hide (show Below w.heap.size w w2 by have hp := HB1.out; refine Below.trans ?_ (hb2.mono (by first | omega | (simp; done) | (simp; omega))); (repeat' (first | (with_reducible exact Below.refl _ _) | (with_reducible assumption) | (with_reducible refine Below.alloc ?_ ?_ _) | (with_reducible refine below_drewN ?_ _) | (with_reducible refine Below.drew ?_) | (with_reducible refine Below.setCell ?_ ?_ _) | (with_reducible refine Below.trans ?_ (Below.mono (by assumption) ?_)) | go_size | (simp at *; omega))))
  have HQ2 := hide (show CalAt w2 w.heap.size c from calAt_below hb2 (by first | omega | (simp; done) | (simp; omega)) (by first | exact HQ1.out | exact calAt_alloc HQ1.out (by omega) _ | exact calAt_alloc (calAt_alloc HQ1.out (by omega) _) (by simp; omega) _))
  clear q0 q1 q2 q3 q4 q5 q6 q7 q8 q9 q10 q11 q12 q13
  obtain ⟨q0, q1, q2, q3, q4, q5, q6, q7, q8, q9, q10, q11, q12, q13⟩ := HQ2.out
  have HU2 := hide (show UnAt w2 (w.heap.size + 1) u from unAt_below hb2 (by first | omega | (simp; done) | (simp; omega)) (by first | exact HU1.out | exact unAt_alloc HU1.out (by omega) _ | exact unAt_alloc (unAt_alloc HU1.out (by omega) _) (by simp; omega) _))
  clear u0 u1 u2
  obtain ⟨u0, u1, u2⟩ := HU2.out
  have hy2 : w.heap.size < w2.heap.size := by omega
  clear hb2
  go_wp2_with fail
  refine (uspan_any c u _ (by omega)).mono ?_
  rintro e w3 ⟨rfl, hb3⟩
  rw [HE.out, ← HS.out]
  simp only [spanV]
  have hz3 : w.heap.size + 1 < w3.heap.size := by have := hb3.size; (try simp at this); omega
  have HB3 := hide (show Below w.heap.size w w3 by have hp := HB2.out; refine Below.trans ?_ (hb3.mono (by first | omega | (simp; done) | (simp; omega))); (repeat' (first | (with_reducible exact Below.refl _ _) | (with_reducible assumption) | (with_reducible refine Below.alloc ?_ ?_ _) | (with_reducible refine below_drewN ?_ _) | (with_reducible refine Below.drew ?_) | (with_reducible refine Below.setCell ?_ ?_ _) | (with_reducible refine Below.trans ?_ (Below.mono (by assumption) ?_)) | go_size | (simp at *; omega))))
  have HQ3 := hide (show CalAt w3 w.heap.size c from calAt_below hb3 (by first | omega | (simp; done) | (simp; omega)) (by first | exact HQ2.out | exact calAt_alloc HQ2.out (by omega) _ | exact calAt_alloc (calAt_alloc HQ2.out (by omega) _) (by simp; omega) _))
  clear q0 q1 q2 q3 q4 q5 q6 q7 q8 q9 q10 q11 q12 q13
  obtain ⟨q0, q1, q2, q3, q4, q5, q6, q7, q8, q9, q10, q11, q12, q13⟩ := HQ3.out
  have HU3 := hide (show UnAt w3 (w.heap.size + 1) u from unAt_below hb3 (by first | omega | (simp; done) | (simp; omega)) (by first | exact HU2.out | exact unAt_alloc HU2.out (by omega) _ | exact unAt_alloc (unAt_alloc HU2.out (by omega) _) (by simp; omega) _))
  clear u0 u1 u2
  obtain ⟨u0, u1, u2⟩ := HU3.out
  have hy3 : w.heap.size < w3.heap.size := by omega
  clear hb3
  obtain ⟨hk1, hk2⟩ := hk
  have hday := HDAY.out (sa + k) (by omega) (by omega)
  have HD := hide hday
  clear hday
  go_wp2_with fail
  all_goals first
    | (exfalso; omega)
    | skip
  refine (fday_any c (sa + k) u.lv _ (by omega)).mono ?_
  rintro e w4 ⟨rfl, hb4⟩
  rw [HD.out.1, HD.out.2]
  simp only [unitV]
  have hz4 : w.heap.size + 1 < w4.heap.size := by have := hb4.size; (try simp at this); omega
  have HB4 := hide (show Below w.heap.size w w4 by have hp := HB3.out; refine Below.trans ?_ (hb4.mono (by first | omega | (simp; done) | (simp; omega))); (repeat' (first | (with_reducible exact Below.refl _ _) | (with_reducible assumption) | (with_reducible refine Below.alloc ?_ ?_ _) | (with_reducible refine below_drewN ?_ _) | (with_reducible refine Below.drew ?_) | (with_reducible refine Below.setCell ?_ ?_ _) | (with_reducible refine Below.trans ?_ (Below.mono (by assumption) ?_)) | go_size | (simp at *; omega))))
  have HQ4 := hide (show CalAt w4 w.heap.size c from calAt_below hb4 (by first | omega | (simp; done) | (simp; omega)) (by first | exact HQ3.out | exact calAt_alloc HQ3.out (by omega) _ | exact calAt_alloc (calAt_alloc HQ3.out (by omega) _) (by simp; omega) _))
  clear q0 q1 q2 q3 q4 q5 q6 q7 q8 q9 q10 q11 q12 q13
  obtain ⟨q0, q1, q2, q3, q4, q5, q6, q7, q8, q9, q10, q11, q12, q13⟩ := HQ4.out
  have HU4 := hide (show UnAt w4 (w.heap.size + 1) u from unAt_below hb4 (by first | omega | (simp; done) | (simp; omega)) (by first | exact HU3.out | exact unAt_alloc HU3.out (by omega) _ | exact unAt_alloc (unAt_alloc HU3.out (by omega) _) (by simp; omega) _))
  clear u0 u1 u2
  obtain ⟨u0, u1, u2⟩ := HU4.out
  have hy4 : w.heap.size < w4.heap.size := by omega
  clear hb4
  clear q0 q1 q2 q3 q4 q5 q6 q7 q8 q9 q10 q11 q12 q13
  have hBel := HB4.out
  have hub : unB u.lv u.yr u.ix u.lv u.yr u.ix = true := unB_same _ _ _
  go_wp2
  all_goals first
    | (exfalso; omega)
    | (go_ret; exact ⟨ret_bool (by simp), by (repeat' (first | (with_reducible exact Below.refl _ _) | (with_reducible assumption) | (with_reducible refine Below.alloc ?_ ?_ _) | (with_reducible refine below_drewN ?_ _) | (with_reducible refine Below.drew ?_) | (with_reducible refine Below.setCell ?_ ?_ _) | (with_reducible refine Below.trans ?_ (Below.mono (by assumption) ?_)) | go_size | (simp at *; omega)))⟩)

set_option maxRecDepth 100000 in
set_option maxHeartbeats 3200000 in
theorem fb_100 (c : Cal) (d lv : Int) (u : Un) (k : Int) (w : World) (hn : c.name.size ≤ 100) (hA : fdE c d lv = 0) (hE : ¬ unitE c u = 0) :
    Calls Try.prog 9 #[calV c, .int .i64 d, .int .i64 lv, unitV u, .int .i64 k] w fun e w' => e = .returned (.bool true) ∧ Below w.heap.size w w' := by
  obtain ⟨i, e, hv, hsv, _, _, hd1, hd2⟩ := fd_unit hA
  rw [e] at hv hsv
  obtain ⟨Y, hY⟩ : ∃ Y, Y = servY c d := ⟨_, rfl⟩
  obtain ⟨va, hva⟩ : ∃ x, x = dayW c (servY c d) (cutN c (servY c d) lv i) := ⟨_, rfl⟩
  obtain ⟨vb, hvb⟩ : ∃ x, x = dayW c (servY c d) (cutN c (servY c d) lv (i + 1)) := ⟨_, rfl⟩
  rw [← hva] at hd1 hsv
  rw [← hvb] at hd2 hsv
  rw [← hY] at e hv hsv
  have HV := hide e
  have HVE := hide hv
  have HVS := hide hsv
  have HA := hide hA
  clear hA e hv hsv hY hva hvb
  have HS := hide (show spV c u = ⟨0, 0⟩ by rw [spV, if_neg hE])
  have hE' : (unitE c u != 0) = true := by simpa using hE
  clear hE
  simp only [calV, unitV]
  go_enter Try.func9, Try.ntmps9
  go_wp2_with fail
  refine (live17_any _).mono ?_
  rintro e w1 ⟨rfl, hb1⟩
  have hz1 : w.heap.size + 1 < w1.heap.size := by have := hb1.size; simp at this; omega
  have HB1 := hide (show Below w.heap.size w w1 by refine Below.trans ?_ (hb1.mono (by first | omega | (simp; done) | (simp; omega))); (repeat' (first | (with_reducible exact Below.refl _ _) | (with_reducible assumption) | (with_reducible refine Below.alloc ?_ ?_ _) | (with_reducible refine below_drewN ?_ _) | (with_reducible refine Below.drew ?_) | (with_reducible refine Below.setCell ?_ ?_ _) | (with_reducible refine Below.trans ?_ (Below.mono (by assumption) ?_)) | go_size | (simp at *; omega))))
  have HQ1 := hide (calAt_below hb1 (by simp; omega) (calAt_alloc (calAt_new w c) (by simp) _))
  have HU1 := hide (unAt_below hb1 (by simp) (unAt_new w c u))
  obtain ⟨q0, q1, q2, q3, q4, q5, q6, q7, q8, q9, q10, q11, q12, q13⟩ := HQ1.out
  obtain ⟨u0, u1, u2⟩ := HU1.out
  have hy1 : w.heap.size < w1.heap.size := by omega
  clear hb1
  go_wp2_with fail
  all_goals first
    | (exfalso; omega)
    | skip
  refine (fday_any c d lv _ (by omega)).mono ?_
  rintro e w2 ⟨rfl, hb2⟩
  rw [HV.out, HA.out]
  simp only [unitV]
  have hz2 : w.heap.size + 1 < w2.heap.size := by have := hb2.size; (try simp at this); omega
  have HB2 := hide (show Below w.heap.size w w2 by have hp := HB1.out; refine Below.trans ?_ (hb2.mono (by first | omega | (simp; done) | (simp; omega))); (repeat' (first | (with_reducible exact Below.refl _ _) | (with_reducible assumption) | (with_reducible refine Below.alloc ?_ ?_ _) | (with_reducible refine below_drewN ?_ _) | (with_reducible refine Below.drew ?_) | (with_reducible refine Below.setCell ?_ ?_ _) | (with_reducible refine Below.trans ?_ (Below.mono (by assumption) ?_)) | go_size | (simp at *; omega))))
  have HQ2 := hide (show CalAt w2 w.heap.size c from calAt_below hb2 (by first | omega | (simp; done) | (simp; omega)) (by first | exact HQ1.out | exact calAt_alloc HQ1.out (by omega) _ | exact calAt_alloc (calAt_alloc HQ1.out (by omega) _) (by simp; omega) _))
  clear q0 q1 q2 q3 q4 q5 q6 q7 q8 q9 q10 q11 q12 q13
  obtain ⟨q0, q1, q2, q3, q4, q5, q6, q7, q8, q9, q10, q11, q12, q13⟩ := HQ2.out
  have HU2 := hide (show UnAt w2 (w.heap.size + 1) u from unAt_below hb2 (by first | omega | (simp; done) | (simp; omega)) (by first | exact HU1.out | exact unAt_alloc HU1.out (by omega) _ | exact unAt_alloc (unAt_alloc HU1.out (by omega) _) (by simp; omega) _))
  clear u0 u1 u2
  obtain ⟨u0, u1, u2⟩ := HU2.out
  have hy2 : w.heap.size < w2.heap.size := by omega
  clear hb2
  go_wp2_with fail
  refine (uspan_any c ⟨lv, Y, (i : Int) + 1⟩ _ (by omega)).mono ?_
  rintro e w3 ⟨rfl, hb3⟩
  rw [HVE.out, HVS.out]
  simp only [spanV]
  have HX3 := hide (show UnAt w3 w2.heap.size ⟨lv, Y, (i : Int) + 1⟩ from unAt_below hb3 (by simp) (unAt_fresh w2 ⟨lv, Y, (i : Int) + 1⟩))
  have hX3 : w2.heap.size < w3.heap.size := by have := hb3.size; (try simp at this); omega
  have hz3 : w.heap.size + 1 < w3.heap.size := by have := hb3.size; (try simp at this); omega
  have HB3 := hide (show Below w.heap.size w w3 by have hp := HB2.out; refine Below.trans ?_ (hb3.mono (by first | omega | (simp; done) | (simp; omega))); (repeat' (first | (with_reducible exact Below.refl _ _) | (with_reducible assumption) | (with_reducible refine Below.alloc ?_ ?_ _) | (with_reducible refine below_drewN ?_ _) | (with_reducible refine Below.drew ?_) | (with_reducible refine Below.setCell ?_ ?_ _) | (with_reducible refine Below.trans ?_ (Below.mono (by assumption) ?_)) | go_size | (simp at *; omega))))
  have HQ3 := hide (show CalAt w3 w.heap.size c from calAt_below hb3 (by first | omega | (simp; done) | (simp; omega)) (by first | exact HQ2.out | exact calAt_alloc HQ2.out (by omega) _ | exact calAt_alloc (calAt_alloc HQ2.out (by omega) _) (by simp; omega) _))
  clear q0 q1 q2 q3 q4 q5 q6 q7 q8 q9 q10 q11 q12 q13
  obtain ⟨q0, q1, q2, q3, q4, q5, q6, q7, q8, q9, q10, q11, q12, q13⟩ := HQ3.out
  have HU3 := hide (show UnAt w3 (w.heap.size + 1) u from unAt_below hb3 (by first | omega | (simp; done) | (simp; omega)) (by first | exact HU2.out | exact unAt_alloc HU2.out (by omega) _ | exact unAt_alloc (unAt_alloc HU2.out (by omega) _) (by simp; omega) _))
  clear u0 u1 u2
  obtain ⟨u0, u1, u2⟩ := HU3.out
  have hy3 : w.heap.size < w3.heap.size := by omega
  clear hb3
  obtain ⟨x0, x1, x2⟩ := HX3.out
  go_wp2_with fail
  all_goals first
    | (exfalso; omega)
    | skip
  clear x0 x1 x2
  refine (uspan_any c u _ (by omega)).mono ?_
  rintro e w4 ⟨rfl, hb4⟩
  rw [HS.out]
  simp only [spanV]
  have hz4 : w.heap.size + 1 < w4.heap.size := by have := hb4.size; (try simp at this); omega
  have HB4 := hide (show Below w.heap.size w w4 by have hp := HB3.out; refine Below.trans ?_ (hb4.mono (by first | omega | (simp; done) | (simp; omega))); (repeat' (first | (with_reducible exact Below.refl _ _) | (with_reducible assumption) | (with_reducible refine Below.alloc ?_ ?_ _) | (with_reducible refine below_drewN ?_ _) | (with_reducible refine Below.drew ?_) | (with_reducible refine Below.setCell ?_ ?_ _) | (with_reducible refine Below.trans ?_ (Below.mono (by assumption) ?_)) | go_size | (simp at *; omega))))
  have HQ4 := hide (show CalAt w4 w.heap.size c from calAt_below hb4 (by first | omega | (simp; done) | (simp; omega)) (by first | exact HQ3.out | exact calAt_alloc HQ3.out (by omega) _ | exact calAt_alloc (calAt_alloc HQ3.out (by omega) _) (by simp; omega) _))
  clear q0 q1 q2 q3 q4 q5 q6 q7 q8 q9 q10 q11 q12 q13
  obtain ⟨q0, q1, q2, q3, q4, q5, q6, q7, q8, q9, q10, q11, q12, q13⟩ := HQ4.out
  have HU4 := hide (show UnAt w4 (w.heap.size + 1) u from unAt_below hb4 (by first | omega | (simp; done) | (simp; omega)) (by first | exact HU3.out | exact unAt_alloc HU3.out (by omega) _ | exact unAt_alloc (unAt_alloc HU3.out (by omega) _) (by simp; omega) _))
  clear u0 u1 u2
  obtain ⟨u0, u1, u2⟩ := HU4.out
  have hy4 : w.heap.size < w4.heap.size := by omega
  clear hb4
  clear q0 q1 q2 q3 q4 q5 q6 q7 q8 q9 q10 q11 q12 q13
  have hBel := HB4.out
  go_wp2
  all_goals first
    | (exfalso; omega)
    | (go_ret; exact ⟨ret_bool (by simp [spB]), by (repeat' (first | (with_reducible exact Below.refl _ _) | (with_reducible assumption) | (with_reducible refine Below.alloc ?_ ?_ _) | (with_reducible refine below_drewN ?_ _) | (with_reducible refine Below.drew ?_) | (with_reducible refine Below.setCell ?_ ?_ _) | (with_reducible refine Below.trans ?_ (Below.mono (by assumption) ?_)) | go_size | (simp at *; omega)))⟩)

set_option maxRecDepth 100000 in
set_option maxHeartbeats 3200000 in
theorem fb_110 (c : Cal) (d lv : Int) (u : Un) (k : Int) (w : World) (hn : c.name.size ≤ 100) (hA : fdE c d lv = 0) (hE : unitE c u = 0) (hk : k < 0 ∨ (0 ≤ k ∧ (spV c u).b - (spV c u).a < k)) :
    Calls Try.prog 9 #[calV c, .int .i64 d, .int .i64 lv, unitV u, .int .i64 k] w fun e w' => e = .returned (.bool true) ∧ Below w.heap.size w w' := by
  obtain ⟨i, e, hv, hsv, _, _, hd1, hd2⟩ := fd_unit hA
  rw [e] at hv hsv
  obtain ⟨Y, hY⟩ : ∃ Y, Y = servY c d := ⟨_, rfl⟩
  obtain ⟨va, hva⟩ : ∃ x, x = dayW c (servY c d) (cutN c (servY c d) lv i) := ⟨_, rfl⟩
  obtain ⟨vb, hvb⟩ : ∃ x, x = dayW c (servY c d) (cutN c (servY c d) lv (i + 1)) := ⟨_, rfl⟩
  rw [← hva] at hd1 hsv
  rw [← hvb] at hd2 hsv
  rw [← hY] at e hv hsv
  have HV := hide e
  have HVE := hide hv
  have HVS := hide hsv
  have HA := hide hA
  clear hA e hv hsv hY hva hvb
  have hsb := sp_bd hE
  have HDAY := hide (fun x h1 h2 => un_day hE x h1 h2)
  have HE := hide hE
  obtain ⟨S, hS⟩ : ∃ S, S = spV c u := ⟨_, rfl⟩
  rw [← hS] at hsb HDAY hk
  have HS := hide hS
  obtain ⟨sa, sb⟩ := S
  simp only at hsb HDAY hk
  clear hE hS
  simp only [calV, unitV]
  go_enter Try.func9, Try.ntmps9
  go_wp2_with fail
  refine (live17_any _).mono ?_
  rintro e w1 ⟨rfl, hb1⟩
  have hz1 : w.heap.size + 1 < w1.heap.size := by have := hb1.size; simp at this; omega
  have HB1 := hide (show Below w.heap.size w w1 by refine Below.trans ?_ (hb1.mono (by first | omega | (simp; done) | (simp; omega))); (repeat' (first | (with_reducible exact Below.refl _ _) | (with_reducible assumption) | (with_reducible refine Below.alloc ?_ ?_ _) | (with_reducible refine below_drewN ?_ _) | (with_reducible refine Below.drew ?_) | (with_reducible refine Below.setCell ?_ ?_ _) | (with_reducible refine Below.trans ?_ (Below.mono (by assumption) ?_)) | go_size | (simp at *; omega))))
  have HQ1 := hide (calAt_below hb1 (by simp; omega) (calAt_alloc (calAt_new w c) (by simp) _))
  have HU1 := hide (unAt_below hb1 (by simp) (unAt_new w c u))
  obtain ⟨q0, q1, q2, q3, q4, q5, q6, q7, q8, q9, q10, q11, q12, q13⟩ := HQ1.out
  obtain ⟨u0, u1, u2⟩ := HU1.out
  have hy1 : w.heap.size < w1.heap.size := by omega
  clear hb1
  go_wp2_with fail
  all_goals first
    | (exfalso; omega)
    | skip
  refine (fday_any c d lv _ (by omega)).mono ?_
  rintro e w2 ⟨rfl, hb2⟩
  rw [HV.out, HA.out]
  simp only [unitV]
  have hz2 : w.heap.size + 1 < w2.heap.size := by have := hb2.size; (try simp at this); omega
  have HB2 := hide (show Below w.heap.size w w2 by have hp := HB1.out; refine Below.trans ?_ (hb2.mono (by first | omega | (simp; done) | (simp; omega))); (repeat' (first | (with_reducible exact Below.refl _ _) | (with_reducible assumption) | (with_reducible refine Below.alloc ?_ ?_ _) | (with_reducible refine below_drewN ?_ _) | (with_reducible refine Below.drew ?_) | (with_reducible refine Below.setCell ?_ ?_ _) | (with_reducible refine Below.trans ?_ (Below.mono (by assumption) ?_)) | go_size | (simp at *; omega))))
  have HQ2 := hide (show CalAt w2 w.heap.size c from calAt_below hb2 (by first | omega | (simp; done) | (simp; omega)) (by first | exact HQ1.out | exact calAt_alloc HQ1.out (by omega) _ | exact calAt_alloc (calAt_alloc HQ1.out (by omega) _) (by simp; omega) _))
  clear q0 q1 q2 q3 q4 q5 q6 q7 q8 q9 q10 q11 q12 q13
  obtain ⟨q0, q1, q2, q3, q4, q5, q6, q7, q8, q9, q10, q11, q12, q13⟩ := HQ2.out
  have HU2 := hide (show UnAt w2 (w.heap.size + 1) u from unAt_below hb2 (by first | omega | (simp; done) | (simp; omega)) (by first | exact HU1.out | exact unAt_alloc HU1.out (by omega) _ | exact unAt_alloc (unAt_alloc HU1.out (by omega) _) (by simp; omega) _))
  clear u0 u1 u2
  obtain ⟨u0, u1, u2⟩ := HU2.out
  have hy2 : w.heap.size < w2.heap.size := by omega
  clear hb2
  go_wp2_with fail
  refine (uspan_any c ⟨lv, Y, (i : Int) + 1⟩ _ (by omega)).mono ?_
  rintro e w3 ⟨rfl, hb3⟩
  rw [HVE.out, HVS.out]
  simp only [spanV]
  have HX3 := hide (show UnAt w3 w2.heap.size ⟨lv, Y, (i : Int) + 1⟩ from unAt_below hb3 (by simp) (unAt_fresh w2 ⟨lv, Y, (i : Int) + 1⟩))
  have hX3 : w2.heap.size < w3.heap.size := by have := hb3.size; (try simp at this); omega
  have hz3 : w.heap.size + 1 < w3.heap.size := by have := hb3.size; (try simp at this); omega
  have HB3 := hide (show Below w.heap.size w w3 by have hp := HB2.out; refine Below.trans ?_ (hb3.mono (by first | omega | (simp; done) | (simp; omega))); (repeat' (first | (with_reducible exact Below.refl _ _) | (with_reducible assumption) | (with_reducible refine Below.alloc ?_ ?_ _) | (with_reducible refine below_drewN ?_ _) | (with_reducible refine Below.drew ?_) | (with_reducible refine Below.setCell ?_ ?_ _) | (with_reducible refine Below.trans ?_ (Below.mono (by assumption) ?_)) | go_size | (simp at *; omega))))
  have HQ3 := hide (show CalAt w3 w.heap.size c from calAt_below hb3 (by first | omega | (simp; done) | (simp; omega)) (by first | exact HQ2.out | exact calAt_alloc HQ2.out (by omega) _ | exact calAt_alloc (calAt_alloc HQ2.out (by omega) _) (by simp; omega) _))
  clear q0 q1 q2 q3 q4 q5 q6 q7 q8 q9 q10 q11 q12 q13
  obtain ⟨q0, q1, q2, q3, q4, q5, q6, q7, q8, q9, q10, q11, q12, q13⟩ := HQ3.out
  have HU3 := hide (show UnAt w3 (w.heap.size + 1) u from unAt_below hb3 (by first | omega | (simp; done) | (simp; omega)) (by first | exact HU2.out | exact unAt_alloc HU2.out (by omega) _ | exact unAt_alloc (unAt_alloc HU2.out (by omega) _) (by simp; omega) _))
  clear u0 u1 u2
  obtain ⟨u0, u1, u2⟩ := HU3.out
  have hy3 : w.heap.size < w3.heap.size := by omega
  clear hb3
  obtain ⟨x0, x1, x2⟩ := HX3.out
  go_wp2_with fail
  all_goals first
    | (exfalso; omega)
    | skip
  clear x0 x1 x2
  refine (uspan_any c u _ (by omega)).mono ?_
  rintro e w4 ⟨rfl, hb4⟩
  rw [HE.out, ← HS.out]
  simp only [spanV]
  have hz4 : w.heap.size + 1 < w4.heap.size := by have := hb4.size; (try simp at this); omega
  have HB4 := hide (show Below w.heap.size w w4 by have hp := HB3.out; refine Below.trans ?_ (hb4.mono (by first | omega | (simp; done) | (simp; omega))); (repeat' (first | (with_reducible exact Below.refl _ _) | (with_reducible assumption) | (with_reducible refine Below.alloc ?_ ?_ _) | (with_reducible refine below_drewN ?_ _) | (with_reducible refine Below.drew ?_) | (with_reducible refine Below.setCell ?_ ?_ _) | (with_reducible refine Below.trans ?_ (Below.mono (by assumption) ?_)) | go_size | (simp at *; omega))))
  have HQ4 := hide (show CalAt w4 w.heap.size c from calAt_below hb4 (by first | omega | (simp; done) | (simp; omega)) (by first | exact HQ3.out | exact calAt_alloc HQ3.out (by omega) _ | exact calAt_alloc (calAt_alloc HQ3.out (by omega) _) (by simp; omega) _))
  clear q0 q1 q2 q3 q4 q5 q6 q7 q8 q9 q10 q11 q12 q13
  obtain ⟨q0, q1, q2, q3, q4, q5, q6, q7, q8, q9, q10, q11, q12, q13⟩ := HQ4.out
  have HU4 := hide (show UnAt w4 (w.heap.size + 1) u from unAt_below hb4 (by first | omega | (simp; done) | (simp; omega)) (by first | exact HU3.out | exact unAt_alloc HU3.out (by omega) _ | exact unAt_alloc (unAt_alloc HU3.out (by omega) _) (by simp; omega) _))
  clear u0 u1 u2
  obtain ⟨u0, u1, u2⟩ := HU4.out
  have hy4 : w.heap.size < w4.heap.size := by omega
  clear hb4
  have hBel := HB4.out
  clear q0 q1 q2 q3 q4 q5 q6 q7 q8 q9 q10 q11 q12 q13
  rcases hk with hk | ⟨hk1, hk2⟩
  · go_wp2
    all_goals first
      | (exfalso; omega)
      | (go_ret; exact ⟨ret_bool (by simp), by (repeat' (first | (with_reducible exact Below.refl _ _) | (with_reducible assumption) | (with_reducible refine Below.alloc ?_ ?_ _) | (with_reducible refine below_drewN ?_ _) | (with_reducible refine Below.drew ?_) | (with_reducible refine Below.setCell ?_ ?_ _) | (with_reducible refine Below.trans ?_ (Below.mono (by assumption) ?_)) | go_size | (simp at *; omega)))⟩)
  · go_wp2
    all_goals first
      | (exfalso; omega)
      | (go_ret; exact ⟨ret_bool (by simp), by (repeat' (first | (with_reducible exact Below.refl _ _) | (with_reducible assumption) | (with_reducible refine Below.alloc ?_ ?_ _) | (with_reducible refine below_drewN ?_ _) | (with_reducible refine Below.drew ?_) | (with_reducible refine Below.setCell ?_ ?_ _) | (with_reducible refine Below.trans ?_ (Below.mono (by assumption) ?_)) | go_size | (simp at *; omega)))⟩)

set_option maxRecDepth 100000 in
set_option maxHeartbeats 3200000 in
theorem fb_111 (c : Cal) (d lv : Int) (u : Un) (k : Int) (w : World) (hn : c.name.size ≤ 100) (hA : fdE c d lv = 0) (hE : unitE c u = 0) (hk : 0 ≤ k ∧ k ≤ (spV c u).b - (spV c u).a) :
    Calls Try.prog 9 #[calV c, .int .i64 d, .int .i64 lv, unitV u, .int .i64 k] w fun e w' => e = .returned (.bool true) ∧ Below w.heap.size w w' := by
  obtain ⟨i, e, hv, hsv, _, _, hd1, hd2⟩ := fd_unit hA
  rw [e] at hv hsv
  obtain ⟨Y, hY⟩ : ∃ Y, Y = servY c d := ⟨_, rfl⟩
  obtain ⟨va, hva⟩ : ∃ x, x = dayW c (servY c d) (cutN c (servY c d) lv i) := ⟨_, rfl⟩
  obtain ⟨vb, hvb⟩ : ∃ x, x = dayW c (servY c d) (cutN c (servY c d) lv (i + 1)) := ⟨_, rfl⟩
  rw [← hva] at hd1 hsv
  rw [← hvb] at hd2 hsv
  rw [← hY] at e hv hsv
  have HV := hide e
  have HVE := hide hv
  have HVS := hide hsv
  have HA := hide hA
  clear hA e hv hsv hY hva hvb
  have hsb := sp_bd hE
  have HDAY := hide (fun x h1 h2 => un_day hE x h1 h2)
  have HE := hide hE
  obtain ⟨S, hS⟩ : ∃ S, S = spV c u := ⟨_, rfl⟩
  rw [← hS] at hsb HDAY hk
  have HS := hide hS
  obtain ⟨sa, sb⟩ := S
  simp only at hsb HDAY hk
  clear hE hS
  simp only [calV, unitV]
  go_enter Try.func9, Try.ntmps9
  go_wp2_with fail
  refine (live17_any _).mono ?_
  rintro e w1 ⟨rfl, hb1⟩
  have hz1 : w.heap.size + 1 < w1.heap.size := by have := hb1.size; simp at this; omega
  have HB1 := hide (show Below w.heap.size w w1 by refine Below.trans ?_ (hb1.mono (by first | omega | (simp; done) | (simp; omega))); (repeat' (first | (with_reducible exact Below.refl _ _) | (with_reducible assumption) | (with_reducible refine Below.alloc ?_ ?_ _) | (with_reducible refine below_drewN ?_ _) | (with_reducible refine Below.drew ?_) | (with_reducible refine Below.setCell ?_ ?_ _) | (with_reducible refine Below.trans ?_ (Below.mono (by assumption) ?_)) | go_size | (simp at *; omega))))
  have HQ1 := hide (calAt_below hb1 (by simp; omega) (calAt_alloc (calAt_new w c) (by simp) _))
  have HU1 := hide (unAt_below hb1 (by simp) (unAt_new w c u))
  obtain ⟨q0, q1, q2, q3, q4, q5, q6, q7, q8, q9, q10, q11, q12, q13⟩ := HQ1.out
  obtain ⟨u0, u1, u2⟩ := HU1.out
  have hy1 : w.heap.size < w1.heap.size := by omega
  clear hb1
  go_wp2_with fail
  all_goals first
    | (exfalso; omega)
    | skip
  refine (fday_any c d lv _ (by omega)).mono ?_
  rintro e w2 ⟨rfl, hb2⟩
  rw [HV.out, HA.out]
  simp only [unitV]
  have hz2 : w.heap.size + 1 < w2.heap.size := by have := hb2.size; (try simp at this); omega
  have HB2 := hide (show Below w.heap.size w w2 by have hp := HB1.out; refine Below.trans ?_ (hb2.mono (by first | omega | (simp; done) | (simp; omega))); (repeat' (first | (with_reducible exact Below.refl _ _) | (with_reducible assumption) | (with_reducible refine Below.alloc ?_ ?_ _) | (with_reducible refine below_drewN ?_ _) | (with_reducible refine Below.drew ?_) | (with_reducible refine Below.setCell ?_ ?_ _) | (with_reducible refine Below.trans ?_ (Below.mono (by assumption) ?_)) | go_size | (simp at *; omega))))
  have HQ2 := hide (show CalAt w2 w.heap.size c from calAt_below hb2 (by first | omega | (simp; done) | (simp; omega)) (by first | exact HQ1.out | exact calAt_alloc HQ1.out (by omega) _ | exact calAt_alloc (calAt_alloc HQ1.out (by omega) _) (by simp; omega) _))
  clear q0 q1 q2 q3 q4 q5 q6 q7 q8 q9 q10 q11 q12 q13
  obtain ⟨q0, q1, q2, q3, q4, q5, q6, q7, q8, q9, q10, q11, q12, q13⟩ := HQ2.out
  have HU2 := hide (show UnAt w2 (w.heap.size + 1) u from unAt_below hb2 (by first | omega | (simp; done) | (simp; omega)) (by first | exact HU1.out | exact unAt_alloc HU1.out (by omega) _ | exact unAt_alloc (unAt_alloc HU1.out (by omega) _) (by simp; omega) _))
  clear u0 u1 u2
  obtain ⟨u0, u1, u2⟩ := HU2.out
  have hy2 : w.heap.size < w2.heap.size := by omega
  clear hb2
  go_wp2_with fail
  refine (uspan_any c ⟨lv, Y, (i : Int) + 1⟩ _ (by omega)).mono ?_
  rintro e w3 ⟨rfl, hb3⟩
  rw [HVE.out, HVS.out]
  simp only [spanV]
  have HX3 := hide (show UnAt w3 w2.heap.size ⟨lv, Y, (i : Int) + 1⟩ from unAt_below hb3 (by simp) (unAt_fresh w2 ⟨lv, Y, (i : Int) + 1⟩))
  have hX3 : w2.heap.size < w3.heap.size := by have := hb3.size; (try simp at this); omega
  have hz3 : w.heap.size + 1 < w3.heap.size := by have := hb3.size; (try simp at this); omega
  have HB3 := hide (show Below w.heap.size w w3 by have hp := HB2.out; refine Below.trans ?_ (hb3.mono (by first | omega | (simp; done) | (simp; omega))); (repeat' (first | (with_reducible exact Below.refl _ _) | (with_reducible assumption) | (with_reducible refine Below.alloc ?_ ?_ _) | (with_reducible refine below_drewN ?_ _) | (with_reducible refine Below.drew ?_) | (with_reducible refine Below.setCell ?_ ?_ _) | (with_reducible refine Below.trans ?_ (Below.mono (by assumption) ?_)) | go_size | (simp at *; omega))))
  have HQ3 := hide (show CalAt w3 w.heap.size c from calAt_below hb3 (by first | omega | (simp; done) | (simp; omega)) (by first | exact HQ2.out | exact calAt_alloc HQ2.out (by omega) _ | exact calAt_alloc (calAt_alloc HQ2.out (by omega) _) (by simp; omega) _))
  clear q0 q1 q2 q3 q4 q5 q6 q7 q8 q9 q10 q11 q12 q13
  obtain ⟨q0, q1, q2, q3, q4, q5, q6, q7, q8, q9, q10, q11, q12, q13⟩ := HQ3.out
  have HU3 := hide (show UnAt w3 (w.heap.size + 1) u from unAt_below hb3 (by first | omega | (simp; done) | (simp; omega)) (by first | exact HU2.out | exact unAt_alloc HU2.out (by omega) _ | exact unAt_alloc (unAt_alloc HU2.out (by omega) _) (by simp; omega) _))
  clear u0 u1 u2
  obtain ⟨u0, u1, u2⟩ := HU3.out
  have hy3 : w.heap.size < w3.heap.size := by omega
  clear hb3
  obtain ⟨x0, x1, x2⟩ := HX3.out
  go_wp2_with fail
  all_goals first
    | (exfalso; omega)
    | skip
  clear x0 x1 x2
  refine (uspan_any c u _ (by omega)).mono ?_
  rintro e w4 ⟨rfl, hb4⟩
  rw [HE.out, ← HS.out]
  simp only [spanV]
  have hz4 : w.heap.size + 1 < w4.heap.size := by have := hb4.size; (try simp at this); omega
  have HB4 := hide (show Below w.heap.size w w4 by have hp := HB3.out; refine Below.trans ?_ (hb4.mono (by first | omega | (simp; done) | (simp; omega))); (repeat' (first | (with_reducible exact Below.refl _ _) | (with_reducible assumption) | (with_reducible refine Below.alloc ?_ ?_ _) | (with_reducible refine below_drewN ?_ _) | (with_reducible refine Below.drew ?_) | (with_reducible refine Below.setCell ?_ ?_ _) | (with_reducible refine Below.trans ?_ (Below.mono (by assumption) ?_)) | go_size | (simp at *; omega))))
  have HQ4 := hide (show CalAt w4 w.heap.size c from calAt_below hb4 (by first | omega | (simp; done) | (simp; omega)) (by first | exact HQ3.out | exact calAt_alloc HQ3.out (by omega) _ | exact calAt_alloc (calAt_alloc HQ3.out (by omega) _) (by simp; omega) _))
  clear q0 q1 q2 q3 q4 q5 q6 q7 q8 q9 q10 q11 q12 q13
  obtain ⟨q0, q1, q2, q3, q4, q5, q6, q7, q8, q9, q10, q11, q12, q13⟩ := HQ4.out
  have HU4 := hide (show UnAt w4 (w.heap.size + 1) u from unAt_below hb4 (by first | omega | (simp; done) | (simp; omega)) (by first | exact HU3.out | exact unAt_alloc HU3.out (by omega) _ | exact unAt_alloc (unAt_alloc HU3.out (by omega) _) (by simp; omega) _))
  clear u0 u1 u2
  obtain ⟨u0, u1, u2⟩ := HU4.out
  have hy4 : w.heap.size < w4.heap.size := by omega
  clear hb4
  obtain ⟨hk1, hk2⟩ := hk
  have hday := HDAY.out (sa + k) (by omega) (by omega)
  have HD := hide hday
  clear hday
  go_wp2_with fail
  all_goals first
    | (exfalso; omega)
    | skip
  refine (fday_any c (sa + k) u.lv _ (by omega)).mono ?_
  rintro e w5 ⟨rfl, hb5⟩
  rw [HD.out.1, HD.out.2]
  simp only [unitV]
  have hz5 : w.heap.size + 1 < w5.heap.size := by have := hb5.size; (try simp at this); omega
  have HB5 := hide (show Below w.heap.size w w5 by have hp := HB4.out; refine Below.trans ?_ (hb5.mono (by first | omega | (simp; done) | (simp; omega))); (repeat' (first | (with_reducible exact Below.refl _ _) | (with_reducible assumption) | (with_reducible refine Below.alloc ?_ ?_ _) | (with_reducible refine below_drewN ?_ _) | (with_reducible refine Below.drew ?_) | (with_reducible refine Below.setCell ?_ ?_ _) | (with_reducible refine Below.trans ?_ (Below.mono (by assumption) ?_)) | go_size | (simp at *; omega))))
  have HQ5 := hide (show CalAt w5 w.heap.size c from calAt_below hb5 (by first | omega | (simp; done) | (simp; omega)) (by first | exact HQ4.out | exact calAt_alloc HQ4.out (by omega) _ | exact calAt_alloc (calAt_alloc HQ4.out (by omega) _) (by simp; omega) _))
  clear q0 q1 q2 q3 q4 q5 q6 q7 q8 q9 q10 q11 q12 q13
  obtain ⟨q0, q1, q2, q3, q4, q5, q6, q7, q8, q9, q10, q11, q12, q13⟩ := HQ5.out
  have HU5 := hide (show UnAt w5 (w.heap.size + 1) u from unAt_below hb5 (by first | omega | (simp; done) | (simp; omega)) (by first | exact HU4.out | exact unAt_alloc HU4.out (by omega) _ | exact unAt_alloc (unAt_alloc HU4.out (by omega) _) (by simp; omega) _))
  clear u0 u1 u2
  obtain ⟨u0, u1, u2⟩ := HU5.out
  have hy5 : w.heap.size < w5.heap.size := by omega
  clear hb5
  clear q0 q1 q2 q3 q4 q5 q6 q7 q8 q9 q10 q11 q12 q13
  have hBel := HB5.out
  have hub : unB u.lv u.yr u.ix u.lv u.yr u.ix = true := unB_same _ _ _
  go_wp2
  all_goals first
    | (exfalso; omega)
    | (go_ret; exact ⟨ret_bool (by simp), by (repeat' (first | (with_reducible exact Below.refl _ _) | (with_reducible assumption) | (with_reducible refine Below.alloc ?_ ?_ _) | (with_reducible refine below_drewN ?_ _) | (with_reducible refine Below.drew ?_) | (with_reducible refine Below.setCell ?_ ?_ _) | (with_reducible refine Below.trans ?_ (Below.mono (by assumption) ?_)) | go_size | (simp at *; omega)))⟩)

theorem fb_walk (c : Cal) (hn : c.name.size ≤ 9223372036854775807) (d lv : Int) (u : Un) (k : Int) (w : World) :
    Calls Try.prog 9 #[calV c, .int .i64 d, .int .i64 lv, unitV u, .int .i64 k] w fun e w' => e = .returned (.bool true) ∧ Below w.heap.size w w' := by
  by_cases h : 100 < c.name.size
  · exact fb_long c d lv u k w h hn
  · by_cases hA : fdE c d lv = 0
    · by_cases hE : unitE c u = 0
      · by_cases hk : 0 ≤ k ∧ k ≤ (spV c u).b - (spV c u).a
        · exact fb_111 c d lv u k w (by omega) hA hE hk
        · exact fb_110 c d lv u k w (by omega) hA hE (by omega)
      · exact fb_100 c d lv u k w (by omega) hA hE
    · by_cases hE : unitE c u = 0
      · by_cases hk : 0 ≤ k ∧ k ≤ (spV c u).b - (spV c u).a
        · exact fb_011 c d lv u k w (by omega) hA hE hk
        · exact fb_010 c d lv u k w (by omega) hA hE (by omega)
      · exact fb_000 c d lv u k w (by omega) hA hE
end Go.Proofs.Ytepmfpgljcbkmaa
