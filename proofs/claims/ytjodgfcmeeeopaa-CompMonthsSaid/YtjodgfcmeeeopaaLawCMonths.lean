/- The walk of CompMonths. -/
import Derived.Test.YtjodgfcmeeeopaaCompP
namespace Go.Proofs.Ytjodgfcmeeeopaa
open Go.RowKit Qd
set_option linter.unusedSimpArgs false
set_option linter.unusedVariables false

theorem date_in (t x : Int) (h1 : 19200 ≤ t) (h2 : t + 1 < 120000) (h3 : mFirst t ≤ x) (h4 : x < mFirst (t + 1)) :
    isB x = true ∧ ofY x = t / 12 ∧ ofM x = t % 12 + 1 ∧ ofD x = x - mFirst t + 1 := by
  have ht := mFirst_there t h1 (by omega)
  have e2 := mFirst_succ t h1 h2
  have ed : x = dayN (t / 12) (t % 12 + 1) (x - mFirst t + 1) := by
    unfold mFirst dayN
    omega
  have hd : dateB (t / 12) (t % 12 + 1) (x - mFirst t + 1) = true := by
    unfold dateB
    rw [ht]
    simp
    omega
  have ho := of_dayN hd
  have hb := dayN_bd hd
  rw [← ed] at ho hb
  exact ⟨hb, ho.1, ho.2.1, ho.2.2⟩
/-- What CompMonths says, told plainly. -/
theorem months {c : Cal} {d k : Int} (hs : servE c d = 0) (hk6 : c.kind = 6) (hx : c.first ≤ servY c d + k ∧ servY c d + k ≤ c.last) :
    cdE c d k = 0 ∧ ∃ ya ma da n, isB d = true ∧ ofY d = ya ∧ ofM d = ma ∧ ofD d = da ∧ isB (cdV c d k) = true ∧ ofY (cdV c d k) = ya + k ∧ ofM (cdV c d k) = ma ∧ lenV (ya + k) ma = n ∧ lenE (ya + k) ma = 0 ∧
      ((da < n ∧ ofD (cdV c d k) = da) ∨ (da = n ∧ ofD (cdV c d k) = da) ∨ (n < da ∧ ofD (cdV c d k) = n)) ∧ 1 ≤ da ∧ da ≤ 31 ∧ 1 ≤ n ∧ n ≤ 31 ∧ 1500 ≤ ya ∧ ya ≤ 10000 := by
  have hE : cdE c d k = 0 := by rw [cdE, if_pos hs, if_pos (by omega), if_pos hk6]
  refine ⟨hE, ?_⟩
  obtain ⟨hk, hd, hyr, hy1, hy2⟩ := serv_ok hs
  obtain ⟨_, _, b1, b2, _⟩ := ok_years hk
  obtain ⟨i, e1, e2, e3, e4, e5⟩ := fd_month hs
  have hok : c.Ok := by simpa [Cal.okB] using hk
  obtain ⟨hm, hsh, _, _⟩ := ok_rule hok
  have h5 := (ok_shape hok).2.1.1 hk6
  have hV : cdV c d k = min (fromAt c (servY c d + k) i + (d - fromAt c (servY c d) i)) (endAt c (servY c d + k) i) := by rw [cdV, if_pos hE, if_pos hk6, e1]
  have hA := hyr.1
  generalize servY c d = y at *
  have hA2 : askE c (y + k) 1601 = 0 := ask_2 hok (by omega) (by omega)
  have hn12 : nPer c y = 12 := by
    unfold nPer endsL
    rw [if_neg (by omega), if_pos h5, mon_len]
  have hi : i < 12 := by omega
  rw [month_from c y hA hk6 i hi] at e4 hV
  rw [month_end c y hA hk6 i hi] at e5
  rw [month_from c (y + k) hA2 hk6 i hi, month_end c (y + k) hA2 hk6 i hi] at hV
  have ht1 : mOf c (y + k) + i = mOf c y + i + 12 * k := by unfold mOf; omega
  have hb1 : 19200 ≤ mOf c y + i ∧ mOf c y + i + 1 < 120000 := by unfold mOf; omega
  have hb2 : 19200 ≤ mOf c (y + k) + i ∧ mOf c (y + k) + i + 1 < 120000 := by unfold mOf; omega
  generalize mOf c y + i = t1 at *
  generalize mOf c (y + k) + i = t2 at *
  have hg : t2 / 12 = t1 / 12 + k ∧ t2 % 12 = t1 % 12 := by omega
  obtain ⟨g0, g1, g2, g3⟩ := date_in t1 d hb1.1 hb1.2 e4 (by omega)
  have l1 := mFirst_succ t1 hb1.1 hb1.2
  have l2 := mFirst_succ t2 hb2.1 hb2.2
  have l3 := len_lo _ _ (mFirst_there t2 hb2.1 (by omega))
  have l4 := len_bd (t2 / 12) (t2 % 12 + 1)
  have l5 := len_bd (t1 / 12) (t1 % 12 + 1)
  obtain ⟨q0, q1, q2, q3⟩ := date_in t2 (cdV c d k) hb2.1 hb2.2 (by omega) (by omega)
  have hth := mFirst_there t2 hb2.1 (by omega)
  refine ⟨t1 / 12, t1 % 12 + 1, ofD d, lenV (t2 / 12) (t2 % 12 + 1), g0, g1, g2, rfl, q0, by rw [q1]; omega, by rw [q2]; omega, by rw [hg.1, hg.2], ?_, ?_, by omega, by omega, by omega, by omega, by omega, by omega⟩
  · rw [← hg.1, ← hg.2]
    simp [lenE, hth]
  · rw [q3]
    omega
theorem no_gone {c : Cal} {d k : Int} (hE : ¬ cdE c d k = 0) (hk6 : c.kind = 6) : cdV c d k = 0 ∧ cdE c d k ≠ 12 ∧ cdE c d k ≠ 13 := by
  refine ⟨by rw [cdV, if_neg hE], ?_⟩
  unfold cdE servE foundE
  repeat' split
  all_goals omega
theorem day_bd {c : Cal} {d : Int} (hs : servE c d = 0) : 0 ≤ d ∧ d < 3068037 := by
  obtain ⟨hk, hd, _⟩ := serv_ok hs
  simpa [isB] using hd

set_option maxRecDepth 100000 in
set_option maxHeartbeats 1600000 in
theorem cm_long (c : Cal) (d k : Int) (w : World) (hn : 100 < c.name.size) (hm : c.name.size ≤ 9223372036854775807) :
    Calls Try.prog 7 #[calV c, .int .i64 d, .int .i64 k] w fun e w' => e = .returned (.bool true) ∧ Below w.heap.size w w' := by
  simp only [calV]
  go_enter Try.func7, Try.ntmps7
  go_wp2_with fail
  refine (live19_any _).mono ?_
  rintro e w1 ⟨rfl, hb1⟩
  have hz1 : w.heap.size < w1.heap.size := by have := hb1.size; simp at this; omega
  have HB1 := hide (show Below w.heap.size w w1 by refine Below.trans ?_ (hb1.mono (by first | omega | (simp; done) | (simp; omega))); (repeat' (first | (with_reducible exact Below.refl _ _) | (with_reducible assumption) | (with_reducible refine Below.alloc ?_ ?_ _) | (with_reducible refine below_drewN ?_ _) | (with_reducible refine Below.drew ?_) | (with_reducible refine Below.setCell ?_ ?_ _) | (with_reducible refine Below.trans ?_ (Below.mono (by assumption) ?_)) | go_size | (simp at *; omega))))
  have HQ1 := hide (calAt_below hb1 (by simp) (calAt_new w c))
  obtain ⟨q0, q1, q2, q3, q4, q5, q6, q7, q8, q9, q10, q11, q12, q13⟩ := HQ1.out
  clear hb1
  go_wp2
  all_goals first
    | (exfalso; omega)
    | (go_ret; exact ⟨rfl, HB1.out⟩)


set_option maxRecDepth 100000 in
set_option maxHeartbeats 3200000 in
theorem cm_other (c : Cal) (d k : Int) (w : World) (hn : c.name.size ≤ 100) (h : c.kind ≠ 6) :
    Calls Try.prog 7 #[calV c, .int .i64 d, .int .i64 k] w fun e w' => e = .returned (.bool true) ∧ Below w.heap.size w w' := by
  have hkb : (c.kind != 6) = true := by simpa using h
  clear h
  simp only [calV]
  go_enter Try.func7, Try.ntmps7
  go_wp2_with fail
  refine (live19_any _).mono ?_
  rintro e w1 ⟨rfl, hb1⟩
  have hz1 : w.heap.size < w1.heap.size := by have := hb1.size; simp at this; omega
  have HB1 := hide (show Below w.heap.size w w1 by refine Below.trans ?_ (hb1.mono (by first | omega | (simp; done) | (simp; omega))); (repeat' (first | (with_reducible exact Below.refl _ _) | (with_reducible assumption) | (with_reducible refine Below.alloc ?_ ?_ _) | (with_reducible refine below_drewN ?_ _) | (with_reducible refine Below.drew ?_) | (with_reducible refine Below.setCell ?_ ?_ _) | (with_reducible refine Below.trans ?_ (Below.mono (by assumption) ?_)) | go_size | (simp at *; omega))))
  have HQ1 := hide (calAt_below hb1 (by simp) (calAt_new w c))
  obtain ⟨q0, q1, q2, q3, q4, q5, q6, q7, q8, q9, q10, q11, q12, q13⟩ := HQ1.out
  clear hb1
  have hBel := HB1.out
  go_wp2
  all_goals first
    | (exfalso; omega)
    | (go_ret; exact ⟨ret_bool (by simp), by (repeat' (first | (with_reducible exact Below.refl _ _) | (with_reducible assumption) | (with_reducible refine Below.alloc ?_ ?_ _) | (with_reducible refine below_drewN ?_ _) | (with_reducible refine Below.drew ?_) | (with_reducible refine Below.setCell ?_ ?_ _) | (with_reducible refine Below.trans ?_ (Below.mono (by assumption) ?_)) | go_size | (simp at *; omega)))⟩)
    | (go_ret; exact ⟨ret_bool (by simp; omega), by (repeat' (first | (with_reducible exact Below.refl _ _) | (with_reducible assumption) | (with_reducible refine Below.alloc ?_ ?_ _) | (with_reducible refine below_drewN ?_ _) | (with_reducible refine Below.drew ?_) | (with_reducible refine Below.setCell ?_ ?_ _) | (with_reducible refine Below.trans ?_ (Below.mono (by assumption) ?_)) | go_size | (simp at *; omega)))⟩)

set_option maxRecDepth 100000 in
set_option maxHeartbeats 3200000 in
theorem cm_err (c : Cal) (d k : Int) (w : World) (hn : c.name.size ≤ 100) (hk6 : c.kind = 6) (hE : ¬ cdE c d k = 0) :
    Calls Try.prog 7 #[calV c, .int .i64 d, .int .i64 k] w fun e w' => e = .returned (.bool true) ∧ Below w.heap.size w w' := by
  have hkb : (c.kind != 6) = false := by simp [hk6]
  obtain ⟨hV, h12, h13⟩ := no_gone hE hk6
  have hE' : (cdE c d k != 0) = true := by simpa using hE
  have h12' : (cdE c d k != 12) = true := by simpa using h12
  have h13' : (cdE c d k != 13) = true := by simpa using h13
  have HV := hide hV
  clear hk6 hE hV h12 h13
  simp only [calV]
  go_enter Try.func7, Try.ntmps7
  go_wp2_with fail
  refine (live19_any _).mono ?_
  rintro e w1 ⟨rfl, hb1⟩
  have hz1 : w.heap.size < w1.heap.size := by have := hb1.size; simp at this; omega
  have HB1 := hide (show Below w.heap.size w w1 by refine Below.trans ?_ (hb1.mono (by first | omega | (simp; done) | (simp; omega))); (repeat' (first | (with_reducible exact Below.refl _ _) | (with_reducible assumption) | (with_reducible refine Below.alloc ?_ ?_ _) | (with_reducible refine below_drewN ?_ _) | (with_reducible refine Below.drew ?_) | (with_reducible refine Below.setCell ?_ ?_ _) | (with_reducible refine Below.trans ?_ (Below.mono (by assumption) ?_)) | go_size | (simp at *; omega))))
  have HQ1 := hide (calAt_below hb1 (by simp) (calAt_new w c))
  obtain ⟨q0, q1, q2, q3, q4, q5, q6, q7, q8, q9, q10, q11, q12, q13⟩ := HQ1.out
  clear hb1
  go_wp2_with fail
  all_goals first
    | (exfalso; omega)
    | skip
  refine (cday_any c d k _ (by omega)).mono ?_
  rintro e w2 ⟨rfl, hb2⟩
  rw [HV.out]
  have hz2 : w.heap.size < w2.heap.size := by have := hb2.size; (try simp at this); omega
  have HB2 := hide (show Below w.heap.size w w2 by have hp := HB1.out; refine Below.trans ?_ (hb2.mono (by first | omega | (simp; done) | (simp; omega))); (repeat' (first | (with_reducible exact Below.refl _ _) | (with_reducible assumption) | (with_reducible refine Below.alloc ?_ ?_ _) | (with_reducible refine below_drewN ?_ _) | (with_reducible refine Below.drew ?_) | (with_reducible refine Below.setCell ?_ ?_ _) | (with_reducible refine Below.trans ?_ (Below.mono (by assumption) ?_)) | go_size | (simp at *; omega))))
  have HQ2 := hide (show CalAt w2 w.heap.size c from calAt_below hb2 (by first | omega | (simp; done) | (simp; omega)) (by first | exact HQ1.out | exact calAt_alloc HQ1.out (by omega) _ | exact calAt_alloc (calAt_alloc HQ1.out (by omega) _) (by simp; omega) _))
  clear q0 q1 q2 q3 q4 q5 q6 q7 q8 q9 q10 q11 q12 q13
  obtain ⟨q0, q1, q2, q3, q4, q5, q6, q7, q8, q9, q10, q11, q12, q13⟩ := HQ2.out
  clear hb2
  have hBel := HB2.out
  clear q0 q1 q2 q3 q4 q5 q6 q7 q8 q9 q10 q11 q12 q13
  go_wp2
  all_goals first
    | (exfalso; omega)
    | (go_ret; exact ⟨ret_bool (by simp), by (repeat' (first | (with_reducible exact Below.refl _ _) | (with_reducible assumption) | (with_reducible refine Below.alloc ?_ ?_ _) | (with_reducible refine below_drewN ?_ _) | (with_reducible refine Below.drew ?_) | (with_reducible refine Below.setCell ?_ ?_ _) | (with_reducible refine Below.trans ?_ (Below.mono (by assumption) ?_)) | go_size | (simp at *; omega)))⟩)
    | (go_ret; exact ⟨ret_bool (by simp; omega), by (repeat' (first | (with_reducible exact Below.refl _ _) | (with_reducible assumption) | (with_reducible refine Below.alloc ?_ ?_ _) | (with_reducible refine below_drewN ?_ _) | (with_reducible refine Below.drew ?_) | (with_reducible refine Below.setCell ?_ ?_ _) | (with_reducible refine Below.trans ?_ (Below.mono (by assumption) ?_)) | go_size | (simp at *; omega)))⟩)

set_option maxRecDepth 100000 in
set_option maxHeartbeats 3200000 in
theorem cm_a (c : Cal) (d k : Int) (ya ma da n : Int) (w : World) (hn : c.name.size ≤ 100) (hk6 : c.kind = 6) (hE : cdE c d k = 0) (h1 : isB d = true) (h2 : ofY d = ya) (h3 : ofM d = ma) (h4 : ofD d = da) (h5 : isB (cdV c d k) = true) (h6 : ofY (cdV c d k) = ya + k) (h7 : ofM (cdV c d k) = ma) (h8 : lenV (ya + k) ma = n) (h9 : lenE (ya + k) ma = 0) (hx1 : da < n) (hx2 : ofD (cdV c d k) = da) (hb : 1 ≤ da ∧ da ≤ 31 ∧ 1 ≤ n ∧ n ≤ 31 ∧ 1500 ≤ ya ∧ ya ≤ 10000) (hkk : -10000 ≤ k ∧ k ≤ 10000) :
    Calls Try.prog 7 #[calV c, .int .i64 d, .int .i64 k] w fun e w' => e = .returned (.bool true) ∧ Below w.heap.size w w' := by
  have hkb : (c.kind != 6) = false := by simp [hk6]
  have HE := hide hE
  have H1 := hide h1
  have H5 := hide h5
  have HA := hide (And.intro h2 (And.intro h3 h4))
  have HB := hide (And.intro h6 (And.intro h7 hx2))
  have HL := hide (And.intro h8 h9)
  have HX := hide hx1
  clear hk6 hE h1 h2 h3 h4 h5 h6 h7 h8 h9 hx1 hx2
  simp only [calV]
  go_enter Try.func7, Try.ntmps7
  go_wp2_with fail
  refine (live19_any _).mono ?_
  rintro e w1 ⟨rfl, hb1⟩
  have hz1 : w.heap.size < w1.heap.size := by have := hb1.size; simp at this; omega
  have HB1 := hide (show Below w.heap.size w w1 by refine Below.trans ?_ (hb1.mono (by first | omega | (simp; done) | (simp; omega))); (repeat' (first | (with_reducible exact Below.refl _ _) | (with_reducible assumption) | (with_reducible refine Below.alloc ?_ ?_ _) | (with_reducible refine below_drewN ?_ _) | (with_reducible refine Below.drew ?_) | (with_reducible refine Below.setCell ?_ ?_ _) | (with_reducible refine Below.trans ?_ (Below.mono (by assumption) ?_)) | go_size | (simp at *; omega))))
  have HQ1 := hide (calAt_below hb1 (by simp) (calAt_new w c))
  obtain ⟨q0, q1, q2, q3, q4, q5, q6, q7, q8, q9, q10, q11, q12, q13⟩ := HQ1.out
  clear hb1
  go_wp2_with fail
  all_goals first
    | (exfalso; omega)
    | skip
  refine (cday_any c d k _ (by omega)).mono ?_
  rintro e w2 ⟨rfl, hb2⟩
  rw [HE.out]
  have hz2 : w.heap.size < w2.heap.size := by have := hb2.size; (try simp at this); omega
  have HB2 := hide (show Below w.heap.size w w2 by have hp := HB1.out; refine Below.trans ?_ (hb2.mono (by first | omega | (simp; done) | (simp; omega))); (repeat' (first | (with_reducible exact Below.refl _ _) | (with_reducible assumption) | (with_reducible refine Below.alloc ?_ ?_ _) | (with_reducible refine below_drewN ?_ _) | (with_reducible refine Below.drew ?_) | (with_reducible refine Below.setCell ?_ ?_ _) | (with_reducible refine Below.trans ?_ (Below.mono (by assumption) ?_)) | go_size | (simp at *; omega))))
  have HQ2 := hide (show CalAt w2 w.heap.size c from calAt_below hb2 (by first | omega | (simp; done) | (simp; omega)) (by first | exact HQ1.out | exact calAt_alloc HQ1.out (by omega) _ | exact calAt_alloc (calAt_alloc HQ1.out (by omega) _) (by simp; omega) _))
  clear q0 q1 q2 q3 q4 q5 q6 q7 q8 q9 q10 q11 q12 q13
  obtain ⟨q0, q1, q2, q3, q4, q5, q6, q7, q8, q9, q10, q11, q12, q13⟩ := HQ2.out
  clear hb2
  obtain ⟨V, hV⟩ : ∃ V, V = cdV c d k := ⟨_, rfl⟩
  rw [← hV] at H5 HB ⊢
  clear hV
  go_wp2_with fail
  all_goals first
    | (exfalso; omega)
    | skip
  refine (of_yes d _ H1.out).mono ?_
  rintro e w3 ⟨rfl, hb3⟩
  rw [HA.out.1, HA.out.2.1, HA.out.2.2]
  have hz3 : w.heap.size < w3.heap.size := by have := hb3.size; (try simp at this); omega
  have HB3 := hide (show Below w.heap.size w w3 by have hp := HB2.out; refine Below.trans ?_ (hb3.mono (by first | omega | (simp; done) | (simp; omega))); (repeat' (first | (with_reducible exact Below.refl _ _) | (with_reducible assumption) | (with_reducible refine Below.alloc ?_ ?_ _) | (with_reducible refine below_drewN ?_ _) | (with_reducible refine Below.drew ?_) | (with_reducible refine Below.setCell ?_ ?_ _) | (with_reducible refine Below.trans ?_ (Below.mono (by assumption) ?_)) | go_size | (simp at *; omega))))
  have HQ3 := hide (show CalAt w3 w.heap.size c from calAt_below hb3 (by first | omega | (simp; done) | (simp; omega)) (by first | exact HQ2.out | exact calAt_alloc HQ2.out (by omega) _ | exact calAt_alloc (calAt_alloc HQ2.out (by omega) _) (by simp; omega) _))
  clear q0 q1 q2 q3 q4 q5 q6 q7 q8 q9 q10 q11 q12 q13
  obtain ⟨q0, q1, q2, q3, q4, q5, q6, q7, q8, q9, q10, q11, q12, q13⟩ := HQ3.out
  clear hb3
  go_wp2_with fail
  refine (of_yes V _ H5.out).mono ?_
  rintro e w4 ⟨rfl, hb4⟩
  rw [HB.out.1, HB.out.2.1, HB.out.2.2]
  have A4 := hide ((BlkIs.new w3 #[.int .i64 ya, .int .i64 ma, .int .i64 da] 39).call hb4)
  have hz4 : w.heap.size < w4.heap.size := by have := hb4.size; (try simp at this); omega
  have HB4 := hide (show Below w.heap.size w w4 by have hp := HB3.out; refine Below.trans ?_ (hb4.mono (by first | omega | (simp; done) | (simp; omega))); (repeat' (first | (with_reducible exact Below.refl _ _) | (with_reducible assumption) | (with_reducible refine Below.alloc ?_ ?_ _) | (with_reducible refine below_drewN ?_ _) | (with_reducible refine Below.drew ?_) | (with_reducible refine Below.setCell ?_ ?_ _) | (with_reducible refine Below.trans ?_ (Below.mono (by assumption) ?_)) | go_size | (simp at *; omega))))
  have HQ4 := hide (show CalAt w4 w.heap.size c from calAt_below hb4 (by first | omega | (simp; done) | (simp; omega)) (by first | exact HQ3.out | exact calAt_alloc HQ3.out (by omega) _ | exact calAt_alloc (calAt_alloc HQ3.out (by omega) _) (by simp; omega) _))
  clear q0 q1 q2 q3 q4 q5 q6 q7 q8 q9 q10 q11 q12 q13
  obtain ⟨q0, q1, q2, q3, q4, q5, q6, q7, q8, q9, q10, q11, q12, q13⟩ := HQ4.out
  clear hb4
  go_wp2_with fail
  refine (length_any (ya + k) ma _).mono ?_
  rintro e w5 ⟨rfl, hb5⟩
  rw [HL.out.1, HL.out.2]
  have A5 := hide ((A4.out.alloc _).call hb5)
  have B5 := hide ((BlkIs.new w4 #[.int .i64 (ya + k), .int .i64 ma, .int .i64 da] 39).call hb5)
  have hz5 : w.heap.size < w5.heap.size := by have := hb5.size; (try simp at this); omega
  have HB5 := hide (show Below w.heap.size w w5 by have hp := HB4.out; refine Below.trans ?_ (hb5.mono (by first | omega | (simp; done) | (simp; omega))); (repeat' (first | (with_reducible exact Below.refl _ _) | (with_reducible assumption) | (with_reducible refine Below.alloc ?_ ?_ _) | (with_reducible refine below_drewN ?_ _) | (with_reducible refine Below.drew ?_) | (with_reducible refine Below.setCell ?_ ?_ _) | (with_reducible refine Below.trans ?_ (Below.mono (by assumption) ?_)) | go_size | (simp at *; omega))))
  have HQ5 := hide (show CalAt w5 w.heap.size c from calAt_below hb5 (by first | omega | (simp; done) | (simp; omega)) (by first | exact HQ4.out | exact calAt_alloc HQ4.out (by omega) _ | exact calAt_alloc (calAt_alloc HQ4.out (by omega) _) (by simp; omega) _))
  clear q0 q1 q2 q3 q4 q5 q6 q7 q8 q9 q10 q11 q12 q13
  obtain ⟨q0, q1, q2, q3, q4, q5, q6, q7, q8, q9, q10, q11, q12, q13⟩ := HQ5.out
  clear hb5
  clear q0 q1 q2 q3 q4 q5 q6 q7 q8 q9 q10 q11 q12 q13
  obtain ⟨a0, a1, a2⟩ : w5.cell? ⟨w3.heap.size, 0, none⟩ = some (.int .i64 ya) ∧ w5.cell? ⟨w3.heap.size, 1, none⟩ = some (.int .i64 ma) ∧ w5.cell? ⟨w3.heap.size, 2, none⟩ = some (.int .i64 da) := ⟨A5.out.cell 0, A5.out.cell 1, A5.out.cell 2⟩
  obtain ⟨c0, c1, c2⟩ : w5.cell? ⟨w4.heap.size, 0, none⟩ = some (.int .i64 (ya + k)) ∧ w5.cell? ⟨w4.heap.size, 1, none⟩ = some (.int .i64 ma) ∧ w5.cell? ⟨w4.heap.size, 2, none⟩ = some (.int .i64 da) := ⟨B5.out.cell 0, B5.out.cell 1, B5.out.cell 2⟩
  have hx1 := HX.out
  have hBel := HB5.out
  go_wp2
  all_goals first
    | (exfalso; omega)
    | (go_ret; exact ⟨ret_bool (by simp; try omega), by (repeat' (first | (with_reducible exact Below.refl _ _) | (with_reducible assumption) | (with_reducible refine Below.alloc ?_ ?_ _) | (with_reducible refine below_drewN ?_ _) | (with_reducible refine Below.drew ?_) | (with_reducible refine Below.setCell ?_ ?_ _) | (with_reducible refine Below.trans ?_ (Below.mono (by assumption) ?_)) | go_size | (simp at *; omega)))⟩)
    | (go_ret; exact ⟨ret_bool (by simp), by (repeat' (first | (with_reducible exact Below.refl _ _) | (with_reducible assumption) | (with_reducible refine Below.alloc ?_ ?_ _) | (with_reducible refine below_drewN ?_ _) | (with_reducible refine Below.drew ?_) | (with_reducible refine Below.setCell ?_ ?_ _) | (with_reducible refine Below.trans ?_ (Below.mono (by assumption) ?_)) | go_size | (simp at *; omega)))⟩)

set_option maxRecDepth 100000 in
set_option maxHeartbeats 3200000 in
theorem cm_b (c : Cal) (d k : Int) (ya ma da n : Int) (w : World) (hn : c.name.size ≤ 100) (hk6 : c.kind = 6) (hE : cdE c d k = 0) (h1 : isB d = true) (h2 : ofY d = ya) (h3 : ofM d = ma) (h4 : ofD d = da) (h5 : isB (cdV c d k) = true) (h6 : ofY (cdV c d k) = ya + k) (h7 : ofM (cdV c d k) = ma) (h8 : lenV (ya + k) ma = n) (h9 : lenE (ya + k) ma = 0) (hx1 : da = n) (hx2 : ofD (cdV c d k) = da) (hb : 1 ≤ da ∧ da ≤ 31 ∧ 1 ≤ n ∧ n ≤ 31 ∧ 1500 ≤ ya ∧ ya ≤ 10000) (hkk : -10000 ≤ k ∧ k ≤ 10000) :
    Calls Try.prog 7 #[calV c, .int .i64 d, .int .i64 k] w fun e w' => e = .returned (.bool true) ∧ Below w.heap.size w w' := by
  have hkb : (c.kind != 6) = false := by simp [hk6]
  have HE := hide hE
  have H1 := hide h1
  have H5 := hide h5
  have HA := hide (And.intro h2 (And.intro h3 h4))
  have HB := hide (And.intro h6 (And.intro h7 hx2))
  have HL := hide (And.intro h8 h9)
  have HX := hide hx1
  clear hk6 hE h1 h2 h3 h4 h5 h6 h7 h8 h9 hx1 hx2
  simp only [calV]
  go_enter Try.func7, Try.ntmps7
  go_wp2_with fail
  refine (live19_any _).mono ?_
  rintro e w1 ⟨rfl, hb1⟩
  have hz1 : w.heap.size < w1.heap.size := by have := hb1.size; simp at this; omega
  have HB1 := hide (show Below w.heap.size w w1 by refine Below.trans ?_ (hb1.mono (by first | omega | (simp; done) | (simp; omega))); (repeat' (first | (with_reducible exact Below.refl _ _) | (with_reducible assumption) | (with_reducible refine Below.alloc ?_ ?_ _) | (with_reducible refine below_drewN ?_ _) | (with_reducible refine Below.drew ?_) | (with_reducible refine Below.setCell ?_ ?_ _) | (with_reducible refine Below.trans ?_ (Below.mono (by assumption) ?_)) | go_size | (simp at *; omega))))
  have HQ1 := hide (calAt_below hb1 (by simp) (calAt_new w c))
  obtain ⟨q0, q1, q2, q3, q4, q5, q6, q7, q8, q9, q10, q11, q12, q13⟩ := HQ1.out
  clear hb1
  go_wp2_with fail
  all_goals first
    | (exfalso; omega)
    | skip
  refine (cday_any c d k _ (by omega)).mono ?_
  rintro e w2 ⟨rfl, hb2⟩
  rw [HE.out]
  have hz2 : w.heap.size < w2.heap.size := by have := hb2.size; (try simp at this); omega
  have HB2 := hide (show Below w.heap.size w w2 by have hp := HB1.out; refine Below.trans ?_ (hb2.mono (by first | omega | (simp; done) | (simp; omega))); (repeat' (first | (with_reducible exact Below.refl _ _) | (with_reducible assumption) | (with_reducible refine Below.alloc ?_ ?_ _) | (with_reducible refine below_drewN ?_ _) | (with_reducible refine Below.drew ?_) | (with_reducible refine Below.setCell ?_ ?_ _) | (with_reducible refine Below.trans ?_ (Below.mono (by assumption) ?_)) | go_size | (simp at *; omega))))
  have HQ2 := hide (show CalAt w2 w.heap.size c from calAt_below hb2 (by first | omega | (simp; done) | (simp; omega)) (by first | exact HQ1.out | exact calAt_alloc HQ1.out (by omega) _ | exact calAt_alloc (calAt_alloc HQ1.out (by omega) _) (by simp; omega) _))
  clear q0 q1 q2 q3 q4 q5 q6 q7 q8 q9 q10 q11 q12 q13
  obtain ⟨q0, q1, q2, q3, q4, q5, q6, q7, q8, q9, q10, q11, q12, q13⟩ := HQ2.out
  clear hb2
  obtain ⟨V, hV⟩ : ∃ V, V = cdV c d k := ⟨_, rfl⟩
  rw [← hV] at H5 HB ⊢
  clear hV
  go_wp2_with fail
  all_goals first
    | (exfalso; omega)
    | skip
  refine (of_yes d _ H1.out).mono ?_
  rintro e w3 ⟨rfl, hb3⟩
  rw [HA.out.1, HA.out.2.1, HA.out.2.2]
  have hz3 : w.heap.size < w3.heap.size := by have := hb3.size; (try simp at this); omega
  have HB3 := hide (show Below w.heap.size w w3 by have hp := HB2.out; refine Below.trans ?_ (hb3.mono (by first | omega | (simp; done) | (simp; omega))); (repeat' (first | (with_reducible exact Below.refl _ _) | (with_reducible assumption) | (with_reducible refine Below.alloc ?_ ?_ _) | (with_reducible refine below_drewN ?_ _) | (with_reducible refine Below.drew ?_) | (with_reducible refine Below.setCell ?_ ?_ _) | (with_reducible refine Below.trans ?_ (Below.mono (by assumption) ?_)) | go_size | (simp at *; omega))))
  have HQ3 := hide (show CalAt w3 w.heap.size c from calAt_below hb3 (by first | omega | (simp; done) | (simp; omega)) (by first | exact HQ2.out | exact calAt_alloc HQ2.out (by omega) _ | exact calAt_alloc (calAt_alloc HQ2.out (by omega) _) (by simp; omega) _))
  clear q0 q1 q2 q3 q4 q5 q6 q7 q8 q9 q10 q11 q12 q13
  obtain ⟨q0, q1, q2, q3, q4, q5, q6, q7, q8, q9, q10, q11, q12, q13⟩ := HQ3.out
  clear hb3
  go_wp2_with fail
  refine (of_yes V _ H5.out).mono ?_
  rintro e w4 ⟨rfl, hb4⟩
  rw [HB.out.1, HB.out.2.1, HB.out.2.2]
  have A4 := hide ((BlkIs.new w3 #[.int .i64 ya, .int .i64 ma, .int .i64 da] 39).call hb4)
  have hz4 : w.heap.size < w4.heap.size := by have := hb4.size; (try simp at this); omega
  have HB4 := hide (show Below w.heap.size w w4 by have hp := HB3.out; refine Below.trans ?_ (hb4.mono (by first | omega | (simp; done) | (simp; omega))); (repeat' (first | (with_reducible exact Below.refl _ _) | (with_reducible assumption) | (with_reducible refine Below.alloc ?_ ?_ _) | (with_reducible refine below_drewN ?_ _) | (with_reducible refine Below.drew ?_) | (with_reducible refine Below.setCell ?_ ?_ _) | (with_reducible refine Below.trans ?_ (Below.mono (by assumption) ?_)) | go_size | (simp at *; omega))))
  have HQ4 := hide (show CalAt w4 w.heap.size c from calAt_below hb4 (by first | omega | (simp; done) | (simp; omega)) (by first | exact HQ3.out | exact calAt_alloc HQ3.out (by omega) _ | exact calAt_alloc (calAt_alloc HQ3.out (by omega) _) (by simp; omega) _))
  clear q0 q1 q2 q3 q4 q5 q6 q7 q8 q9 q10 q11 q12 q13
  obtain ⟨q0, q1, q2, q3, q4, q5, q6, q7, q8, q9, q10, q11, q12, q13⟩ := HQ4.out
  clear hb4
  go_wp2_with fail
  refine (length_any (ya + k) ma _).mono ?_
  rintro e w5 ⟨rfl, hb5⟩
  rw [HL.out.1, HL.out.2]
  have A5 := hide ((A4.out.alloc _).call hb5)
  have B5 := hide ((BlkIs.new w4 #[.int .i64 (ya + k), .int .i64 ma, .int .i64 da] 39).call hb5)
  have hz5 : w.heap.size < w5.heap.size := by have := hb5.size; (try simp at this); omega
  have HB5 := hide (show Below w.heap.size w w5 by have hp := HB4.out; refine Below.trans ?_ (hb5.mono (by first | omega | (simp; done) | (simp; omega))); (repeat' (first | (with_reducible exact Below.refl _ _) | (with_reducible assumption) | (with_reducible refine Below.alloc ?_ ?_ _) | (with_reducible refine below_drewN ?_ _) | (with_reducible refine Below.drew ?_) | (with_reducible refine Below.setCell ?_ ?_ _) | (with_reducible refine Below.trans ?_ (Below.mono (by assumption) ?_)) | go_size | (simp at *; omega))))
  have HQ5 := hide (show CalAt w5 w.heap.size c from calAt_below hb5 (by first | omega | (simp; done) | (simp; omega)) (by first | exact HQ4.out | exact calAt_alloc HQ4.out (by omega) _ | exact calAt_alloc (calAt_alloc HQ4.out (by omega) _) (by simp; omega) _))
  clear q0 q1 q2 q3 q4 q5 q6 q7 q8 q9 q10 q11 q12 q13
  obtain ⟨q0, q1, q2, q3, q4, q5, q6, q7, q8, q9, q10, q11, q12, q13⟩ := HQ5.out
  clear hb5
  clear q0 q1 q2 q3 q4 q5 q6 q7 q8 q9 q10 q11 q12 q13
  obtain ⟨a0, a1, a2⟩ : w5.cell? ⟨w3.heap.size, 0, none⟩ = some (.int .i64 ya) ∧ w5.cell? ⟨w3.heap.size, 1, none⟩ = some (.int .i64 ma) ∧ w5.cell? ⟨w3.heap.size, 2, none⟩ = some (.int .i64 da) := ⟨A5.out.cell 0, A5.out.cell 1, A5.out.cell 2⟩
  obtain ⟨c0, c1, c2⟩ : w5.cell? ⟨w4.heap.size, 0, none⟩ = some (.int .i64 (ya + k)) ∧ w5.cell? ⟨w4.heap.size, 1, none⟩ = some (.int .i64 ma) ∧ w5.cell? ⟨w4.heap.size, 2, none⟩ = some (.int .i64 da) := ⟨B5.out.cell 0, B5.out.cell 1, B5.out.cell 2⟩
  have hx1 := HX.out
  have hBel := HB5.out
  go_wp2
  all_goals first
    | (exfalso; omega)
    | (go_ret; exact ⟨ret_bool (by simp; try omega), by (repeat' (first | (with_reducible exact Below.refl _ _) | (with_reducible assumption) | (with_reducible refine Below.alloc ?_ ?_ _) | (with_reducible refine below_drewN ?_ _) | (with_reducible refine Below.drew ?_) | (with_reducible refine Below.setCell ?_ ?_ _) | (with_reducible refine Below.trans ?_ (Below.mono (by assumption) ?_)) | go_size | (simp at *; omega)))⟩)
    | (go_ret; exact ⟨ret_bool (by simp), by (repeat' (first | (with_reducible exact Below.refl _ _) | (with_reducible assumption) | (with_reducible refine Below.alloc ?_ ?_ _) | (with_reducible refine below_drewN ?_ _) | (with_reducible refine Below.drew ?_) | (with_reducible refine Below.setCell ?_ ?_ _) | (with_reducible refine Below.trans ?_ (Below.mono (by assumption) ?_)) | go_size | (simp at *; omega)))⟩)

set_option maxRecDepth 100000 in
set_option maxHeartbeats 3200000 in
theorem cm_c (c : Cal) (d k : Int) (ya ma da n : Int) (w : World) (hn : c.name.size ≤ 100) (hk6 : c.kind = 6) (hE : cdE c d k = 0) (h1 : isB d = true) (h2 : ofY d = ya) (h3 : ofM d = ma) (h4 : ofD d = da) (h5 : isB (cdV c d k) = true) (h6 : ofY (cdV c d k) = ya + k) (h7 : ofM (cdV c d k) = ma) (h8 : lenV (ya + k) ma = n) (h9 : lenE (ya + k) ma = 0) (hx1 : n < da) (hx2 : ofD (cdV c d k) = n) (hb : 1 ≤ da ∧ da ≤ 31 ∧ 1 ≤ n ∧ n ≤ 31 ∧ 1500 ≤ ya ∧ ya ≤ 10000) (hkk : -10000 ≤ k ∧ k ≤ 10000) :
    Calls Try.prog 7 #[calV c, .int .i64 d, .int .i64 k] w fun e w' => e = .returned (.bool true) ∧ Below w.heap.size w w' := by
  have hkb : (c.kind != 6) = false := by simp [hk6]
  have HE := hide hE
  have H1 := hide h1
  have H5 := hide h5
  have HA := hide (And.intro h2 (And.intro h3 h4))
  have HB := hide (And.intro h6 (And.intro h7 hx2))
  have HL := hide (And.intro h8 h9)
  have HX := hide hx1
  clear hk6 hE h1 h2 h3 h4 h5 h6 h7 h8 h9 hx1 hx2
  simp only [calV]
  go_enter Try.func7, Try.ntmps7
  go_wp2_with fail
  refine (live19_any _).mono ?_
  rintro e w1 ⟨rfl, hb1⟩
  have hz1 : w.heap.size < w1.heap.size := by have := hb1.size; simp at this; omega
  have HB1 := hide (show Below w.heap.size w w1 by refine Below.trans ?_ (hb1.mono (by first | omega | (simp; done) | (simp; omega))); (repeat' (first | (with_reducible exact Below.refl _ _) | (with_reducible assumption) | (with_reducible refine Below.alloc ?_ ?_ _) | (with_reducible refine below_drewN ?_ _) | (with_reducible refine Below.drew ?_) | (with_reducible refine Below.setCell ?_ ?_ _) | (with_reducible refine Below.trans ?_ (Below.mono (by assumption) ?_)) | go_size | (simp at *; omega))))
  have HQ1 := hide (calAt_below hb1 (by simp) (calAt_new w c))
  obtain ⟨q0, q1, q2, q3, q4, q5, q6, q7, q8, q9, q10, q11, q12, q13⟩ := HQ1.out
  clear hb1
  go_wp2_with fail
  all_goals first
    | (exfalso; omega)
    | skip
  refine (cday_any c d k _ (by omega)).mono ?_
  rintro e w2 ⟨rfl, hb2⟩
  rw [HE.out]
  have hz2 : w.heap.size < w2.heap.size := by have := hb2.size; (try simp at this); omega
  have HB2 := hide (show Below w.heap.size w w2 by have hp := HB1.out; refine Below.trans ?_ (hb2.mono (by first | omega | (simp; done) | (simp; omega))); (repeat' (first | (with_reducible exact Below.refl _ _) | (with_reducible assumption) | (with_reducible refine Below.alloc ?_ ?_ _) | (with_reducible refine below_drewN ?_ _) | (with_reducible refine Below.drew ?_) | (with_reducible refine Below.setCell ?_ ?_ _) | (with_reducible refine Below.trans ?_ (Below.mono (by assumption) ?_)) | go_size | (simp at *; omega))))
  have HQ2 := hide (show CalAt w2 w.heap.size c from calAt_below hb2 (by first | omega | (simp; done) | (simp; omega)) (by first | exact HQ1.out | exact calAt_alloc HQ1.out (by omega) _ | exact calAt_alloc (calAt_alloc HQ1.out (by omega) _) (by simp; omega) _))
  clear q0 q1 q2 q3 q4 q5 q6 q7 q8 q9 q10 q11 q12 q13
  obtain ⟨q0, q1, q2, q3, q4, q5, q6, q7, q8, q9, q10, q11, q12, q13⟩ := HQ2.out
  clear hb2
  obtain ⟨V, hV⟩ : ∃ V, V = cdV c d k := ⟨_, rfl⟩
  rw [← hV] at H5 HB ⊢
  clear hV
  go_wp2_with fail
  all_goals first
    | (exfalso; omega)
    | skip
  refine (of_yes d _ H1.out).mono ?_
  rintro e w3 ⟨rfl, hb3⟩
  rw [HA.out.1, HA.out.2.1, HA.out.2.2]
  have hz3 : w.heap.size < w3.heap.size := by have := hb3.size; (try simp at this); omega
  have HB3 := hide (show Below w.heap.size w w3 by have hp := HB2.out; refine Below.trans ?_ (hb3.mono (by first | omega | (simp; done) | (simp; omega))); (repeat' (first | (with_reducible exact Below.refl _ _) | (with_reducible assumption) | (with_reducible refine Below.alloc ?_ ?_ _) | (with_reducible refine below_drewN ?_ _) | (with_reducible refine Below.drew ?_) | (with_reducible refine Below.setCell ?_ ?_ _) | (with_reducible refine Below.trans ?_ (Below.mono (by assumption) ?_)) | go_size | (simp at *; omega))))
  have HQ3 := hide (show CalAt w3 w.heap.size c from calAt_below hb3 (by first | omega | (simp; done) | (simp; omega)) (by first | exact HQ2.out | exact calAt_alloc HQ2.out (by omega) _ | exact calAt_alloc (calAt_alloc HQ2.out (by omega) _) (by simp; omega) _))
  clear q0 q1 q2 q3 q4 q5 q6 q7 q8 q9 q10 q11 q12 q13
  obtain ⟨q0, q1, q2, q3, q4, q5, q6, q7, q8, q9, q10, q11, q12, q13⟩ := HQ3.out
  clear hb3
  go_wp2_with fail
  refine (of_yes V _ H5.out).mono ?_
  rintro e w4 ⟨rfl, hb4⟩
  rw [HB.out.1, HB.out.2.1, HB.out.2.2]
  have A4 := hide ((BlkIs.new w3 #[.int .i64 ya, .int .i64 ma, .int .i64 da] 39).call hb4)
  have hz4 : w.heap.size < w4.heap.size := by have := hb4.size; (try simp at this); omega
  have HB4 := hide (show Below w.heap.size w w4 by have hp := HB3.out; refine Below.trans ?_ (hb4.mono (by first | omega | (simp; done) | (simp; omega))); (repeat' (first | (with_reducible exact Below.refl _ _) | (with_reducible assumption) | (with_reducible refine Below.alloc ?_ ?_ _) | (with_reducible refine below_drewN ?_ _) | (with_reducible refine Below.drew ?_) | (with_reducible refine Below.setCell ?_ ?_ _) | (with_reducible refine Below.trans ?_ (Below.mono (by assumption) ?_)) | go_size | (simp at *; omega))))
  have HQ4 := hide (show CalAt w4 w.heap.size c from calAt_below hb4 (by first | omega | (simp; done) | (simp; omega)) (by first | exact HQ3.out | exact calAt_alloc HQ3.out (by omega) _ | exact calAt_alloc (calAt_alloc HQ3.out (by omega) _) (by simp; omega) _))
  clear q0 q1 q2 q3 q4 q5 q6 q7 q8 q9 q10 q11 q12 q13
  obtain ⟨q0, q1, q2, q3, q4, q5, q6, q7, q8, q9, q10, q11, q12, q13⟩ := HQ4.out
  clear hb4
  go_wp2_with fail
  refine (length_any (ya + k) ma _).mono ?_
  rintro e w5 ⟨rfl, hb5⟩
  rw [HL.out.1, HL.out.2]
  have A5 := hide ((A4.out.alloc _).call hb5)
  have B5 := hide ((BlkIs.new w4 #[.int .i64 (ya + k), .int .i64 ma, .int .i64 n] 39).call hb5)
  have hz5 : w.heap.size < w5.heap.size := by have := hb5.size; (try simp at this); omega
  have HB5 := hide (show Below w.heap.size w w5 by have hp := HB4.out; refine Below.trans ?_ (hb5.mono (by first | omega | (simp; done) | (simp; omega))); (repeat' (first | (with_reducible exact Below.refl _ _) | (with_reducible assumption) | (with_reducible refine Below.alloc ?_ ?_ _) | (with_reducible refine below_drewN ?_ _) | (with_reducible refine Below.drew ?_) | (with_reducible refine Below.setCell ?_ ?_ _) | (with_reducible refine Below.trans ?_ (Below.mono (by assumption) ?_)) | go_size | (simp at *; omega))))
  have HQ5 := hide (show CalAt w5 w.heap.size c from calAt_below hb5 (by first | omega | (simp; done) | (simp; omega)) (by first | exact HQ4.out | exact calAt_alloc HQ4.out (by omega) _ | exact calAt_alloc (calAt_alloc HQ4.out (by omega) _) (by simp; omega) _))
  clear q0 q1 q2 q3 q4 q5 q6 q7 q8 q9 q10 q11 q12 q13
  obtain ⟨q0, q1, q2, q3, q4, q5, q6, q7, q8, q9, q10, q11, q12, q13⟩ := HQ5.out
  clear hb5
  clear q0 q1 q2 q3 q4 q5 q6 q7 q8 q9 q10 q11 q12 q13
  obtain ⟨a0, a1, a2⟩ : w5.cell? ⟨w3.heap.size, 0, none⟩ = some (.int .i64 ya) ∧ w5.cell? ⟨w3.heap.size, 1, none⟩ = some (.int .i64 ma) ∧ w5.cell? ⟨w3.heap.size, 2, none⟩ = some (.int .i64 da) := ⟨A5.out.cell 0, A5.out.cell 1, A5.out.cell 2⟩
  obtain ⟨c0, c1, c2⟩ : w5.cell? ⟨w4.heap.size, 0, none⟩ = some (.int .i64 (ya + k)) ∧ w5.cell? ⟨w4.heap.size, 1, none⟩ = some (.int .i64 ma) ∧ w5.cell? ⟨w4.heap.size, 2, none⟩ = some (.int .i64 n) := ⟨B5.out.cell 0, B5.out.cell 1, B5.out.cell 2⟩
  have hx1 := HX.out
  have hBel := HB5.out
  go_wp2
  all_goals first
    | (exfalso; omega)
    | (go_ret; exact ⟨ret_bool (by simp; try omega), by (repeat' (first | (with_reducible exact Below.refl _ _) | (with_reducible assumption) | (with_reducible refine Below.alloc ?_ ?_ _) | (with_reducible refine below_drewN ?_ _) | (with_reducible refine Below.drew ?_) | (with_reducible refine Below.setCell ?_ ?_ _) | (with_reducible refine Below.trans ?_ (Below.mono (by assumption) ?_)) | go_size | (simp at *; omega)))⟩)
    | (go_ret; exact ⟨ret_bool (by simp), by (repeat' (first | (with_reducible exact Below.refl _ _) | (with_reducible assumption) | (with_reducible refine Below.alloc ?_ ?_ _) | (with_reducible refine below_drewN ?_ _) | (with_reducible refine Below.drew ?_) | (with_reducible refine Below.setCell ?_ ?_ _) | (with_reducible refine Below.trans ?_ (Below.mono (by assumption) ?_)) | go_size | (simp at *; omega)))⟩)

theorem cm_walk (c : Cal) (hn : c.name.size ≤ 9223372036854775807) (d k : Int) (w : World) :
    Calls Try.prog 7 #[calV c, .int .i64 d, .int .i64 k] w fun e w' => e = .returned (.bool true) ∧ Below w.heap.size w w' := by
  by_cases h : 100 < c.name.size
  · exact cm_long c d k w h hn
  · have h' : c.name.size ≤ 100 := by omega
    by_cases hk6 : c.kind = 6
    · by_cases hE : cdE c d k = 0
      · have hs : servE c d = 0 := by
          by_cases h9 : servE c d = 0
          · exact h9
          · rw [cdE, if_neg h9] at hE; exact absurd hE h9
        have hx : c.first ≤ servY c d + k ∧ servY c d + k ≤ c.last := by
          by_cases h9 : c.first ≤ servY c d + k ∧ servY c d + k ≤ c.last
          · exact h9
          · rw [cdE, if_pos hs, if_neg (by omega)] at hE; omega
        obtain ⟨hk, _, _, hy1, hy2⟩ := serv_ok hs
        obtain ⟨_, _, b1, b2, _⟩ := ok_years hk
        obtain ⟨_, ya, ma, da, n, h1, h2, h3, h4, h5, h6, h7, h8, h9, h10, h11⟩ := months hs hk6 hx
        rcases h10 with g | g | g
        · exact cm_a c d k ya ma da n w h' hk6 hE h1 h2 h3 h4 h5 h6 h7 h8 h9 g.1 g.2 h11 (by omega)
        · exact cm_b c d k ya ma da n w h' hk6 hE h1 h2 h3 h4 h5 h6 h7 h8 h9 g.1 g.2 h11 (by omega)
        · exact cm_c c d k ya ma da n w h' hk6 hE h1 h2 h3 h4 h5 h6 h7 h8 h9 g.1 g.2 h11 (by omega)
      · exact cm_err c d k w h' hk6 hE
    · exact cm_other c d k w h' hk6
end Go.Proofs.Ytjodgfcmeeeopaa
