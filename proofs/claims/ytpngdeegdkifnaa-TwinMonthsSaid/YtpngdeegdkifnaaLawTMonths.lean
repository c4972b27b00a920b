/- The walk of TwinMonths. -/
import Derived.Test.YtpngdeegdkifnaaTwinC
import Derived.Test.YtpngdeegdkifnaaTwinB
namespace Go.Proofs.Ytpngdeegdkifnaa
open Go.RowKit Qd
set_option linter.unusedSimpArgs false
set_option linter.unusedVariables false

theorem sps_base {w w' : World} {K g cap : Nat} {L : List Sp} (h : SpsAt w g cap L) (hg : g < K) (hb : Below K w w') : SpsAt w' g cap L := by
  refine ⟨h.1, ?_⟩
  rcases h.2 with h1 | ⟨g', cap', cur, he, h2, hg', h3⟩
  · exact .inl h1
  · cases he
    exact .inr ⟨g, cap, cur, rfl, h2, (hb.block g hg).trans hg', h3⟩

set_option maxRecDepth 100000 in
set_option maxHeartbeats 1600000 in
theorem tm_long (c : Cal) (u : Un) (k : Int) (w : World) (hn : 100 < c.name.size) (hm : c.name.size ≤ 9223372036854775807) :
    Calls Try.prog 6 #[calV c, unitV u, .int .i64 k] w fun e w' => e = .returned (.bool true) ∧ Below w.heap.size w w' := by
  simp only [calV, unitV]
  go_enter Try.func6, Try.ntmps6
  go_wp2_with fail
  refine (live20_any _).mono ?_
  rintro e w1 ⟨rfl, hb1⟩
  have hz1 : w.heap.size + 1 < w1.heap.size := by have := hb1.size; simp at this; omega
  have HB1 := hide (show Below w.heap.size w w1 by refine Below.trans ?_ (hb1.mono (by first | omega | (simp; done) | (simp; omega))); (repeat' (first | (with_reducible exact Below.refl _ _) | (with_reducible assumption) | (with_reducible refine Below.alloc ?_ ?_ _) | (with_reducible refine below_drewN ?_ _) | (with_reducible refine Below.drew ?_) | (with_reducible refine Below.setCell ?_ ?_ _) | (with_reducible refine Below.trans ?_ (Below.mono (by assumption) ?_)) | go_size | (simp at *; omega))))
  have HQ1 := hide (calAt_below hb1 (by simp; omega) (calAt_alloc (calAt_new w c) (by simp) _))
  have HU1 := hide (unAt_below hb1 (by simp) (unAt_new w c u))
  obtain ⟨q0, q1, q2, q3, q4, q5, q6, q7, q8, q9, q10, q11, q12, q13⟩ := HQ1.out
  obtain ⟨u0, u1, u2⟩ := HU1.out
  have hy1 : w.heap.size < w1.heap.size := by omega
  clear hb1
  go_wp2
  all_goals first
    | (exfalso; omega)
    | (go_ret; exact ⟨rfl, HB1.out⟩)


set_option maxRecDepth 100000 in
set_option maxHeartbeats 3200000 in
theorem tm_triv (c : Cal) (u : Un) (k : Int) (w : World) (hn : c.name.size ≤ 100) (h : c.kind ≠ 6 ∨ (c.kind = 6 ∧ k < -400) ∨ (c.kind = 6 ∧ -400 ≤ k ∧ 400 < k)) :
    Calls Try.prog 6 #[calV c, unitV u, .int .i64 k] w fun e w' => e = .returned (.bool true) ∧ Below w.heap.size w w' := by
  rcases h with h | ⟨h, h2⟩ | ⟨h, h2, h3⟩
  all_goals
    first
      | have hkb : (c.kind == 6) = false := by simpa using h
      | have hkb : (c.kind == 6) = true := by simp [h]
    first
      | have hkc : (c.kind != 6) = true := by simpa using h
      | have hkc : (c.kind != 6) = false := by simp [h]
    clear h
    simp only [calV, unitV]
    go_enter Try.func6, Try.ntmps6
    go_wp2_with fail
    refine (live20_any _).mono ?_
    rintro e w1 ⟨rfl, hb1⟩
    have hz1 : w.heap.size + 1 < w1.heap.size := by have := hb1.size; simp at this; omega
    have HB1 := hide (show Below w.heap.size w w1 by refine Below.trans ?_ (hb1.mono (by first | omega | (simp; done) | (simp; omega))); (repeat' (first | (with_reducible exact Below.refl _ _) | (with_reducible assumption) | (with_reducible refine Below.alloc ?_ ?_ _) | (with_reducible refine below_drewN ?_ _) | (with_reducible refine Below.drew ?_) | (with_reducible refine Below.setCell ?_ ?_ _) | (with_reducible refine Below.trans ?_ (Below.mono (by assumption) ?_)) | go_size | (simp at *; omega))))
    have HQ1 := hide (calAt_below hb1 (by simp; omega) (calAt_alloc (calAt_new w c) (by simp) _))
    have HU1 := hide (unAt_below hb1 (by simp) (unAt_new w c u))
    obtain ⟨q0, q1, q2, q3, q4, q5, q6, q7, q8, q9, q10, q11, q12, q13⟩ := HQ1.out
    obtain ⟨u0, u1, u2⟩ := HU1.out
    have hy1 : w.heap.size < w1.heap.size := by omega
    clear hb1
    have hBel := HB1.out
    go_wp2
    all_goals first
      | (exfalso; omega)
      | (go_ret; exact ⟨rfl, by (repeat' (first | (with_reducible exact Below.refl _ _) | (with_reducible assumption) | (with_reducible refine Below.alloc ?_ ?_ _) | (with_reducible refine below_drewN ?_ _) | (with_reducible refine Below.drew ?_) | (with_reducible refine Below.setCell ?_ ?_ _) | (with_reducible refine Below.trans ?_ (Below.mono (by assumption) ?_)) | go_size | (simp at *; omega)))⟩)

set_option maxRecDepth 100000 in
set_option maxHeartbeats 3200000 in
theorem tm_no12 (c : Cal) (u : Un) (k : Int) (w : World) (hn : c.name.size ≤ 100) (h6 : c.kind = 6) (k1 : -400 ≤ k) (k2 : k ≤ 400) (hE : ¬ twE c u k = 0) (h12 : twE c u k = 12) :
    Calls Try.prog 6 #[calV c, unitV u, .int .i64 k] w fun e w' => e = .returned (.bool true) ∧ Below w.heap.size w w' := by
  have hkb : (c.kind == 6) = true := by simp [h6]
  have hkc : (c.kind != 6) = false := by simp [h6]
  have hEb : (twE c u k != 0) = true := by simpa using hE
  have HL := hide (tw_no hE)
  have HE := hide hE
  have h5b : (u.lv == 5) = true := by simp [mon_gone h6 h12]
  obtain ⟨E, hEE⟩ : ∃ E, twE c u k = E := ⟨_, rfl⟩
  have HEE := hide hEE
  rw [hEE] at hEb h12
  subst h12
  clear hE h6 hEE
  simp only [calV, unitV]
  go_enter Try.func6, Try.ntmps6
  go_wp2_with fail
  refine (live20_any _).mono ?_
  rintro e w1 ⟨rfl, hb1⟩
  have hz1 : w.heap.size + 1 < w1.heap.size := by have := hb1.size; simp at this; omega
  have HB1 := hide (show Below w.heap.size w w1 by refine Below.trans ?_ (hb1.mono (by first | omega | (simp; done) | (simp; omega))); (repeat' (first | (with_reducible exact Below.refl _ _) | (with_reducible assumption) | (with_reducible refine Below.alloc ?_ ?_ _) | (with_reducible refine below_drewN ?_ _) | (with_reducible refine Below.drew ?_) | (with_reducible refine Below.setCell ?_ ?_ _) | (with_reducible refine Below.trans ?_ (Below.mono (by assumption) ?_)) | go_size | (simp at *; omega))))
  have HQ1 := hide (calAt_below hb1 (by simp; omega) (calAt_alloc (calAt_new w c) (by simp) _))
  have HU1 := hide (unAt_below hb1 (by simp) (unAt_new w c u))
  obtain ⟨q0, q1, q2, q3, q4, q5, q6, q7, q8, q9, q10, q11, q12, q13⟩ := HQ1.out
  obtain ⟨u0, u1, u2⟩ := HU1.out
  have hy1 : w.heap.size < w1.heap.size := by omega
  clear hb1
  go_wp2_with fail
  all_goals first
    | (exfalso; omega)
    | skip
  refine (runs_no c u k _ (by omega) HE.out).mono ?_
  rintro e w2 ⟨rfl, hb2⟩
  rw [HEE.out]
  have hz2 : w.heap.size + 1 < w2.heap.size := by have := hb2.size; (try simp at this); omega
  have HB2 := hide (show Below w.heap.size w w2 by have hp := HB1.out; refine Below.trans ?_ (hb2.mono (by first | omega | (simp; done) | (simp; omega))); (repeat' (first | (with_reducible exact Below.refl _ _) | (with_reducible assumption) | (with_reducible refine Below.alloc ?_ ?_ _) | (with_reducible refine below_drewN ?_ _) | (with_reducible refine Below.drew ?_) | (with_reducible refine Below.setCell ?_ ?_ _) | (with_reducible refine Below.trans ?_ (Below.mono (by assumption) ?_)) | go_size | (simp at *; omega))))
  have HQ2 := hide (show CalAt w2 w.heap.size c from calAt_below hb2 (by first | omega | (simp; done) | (simp; omega)) (by first | exact HQ1.out | exact calAt_alloc HQ1.out (by omega) _ | exact calAt_alloc (calAt_alloc HQ1.out (by omega) _) (by simp; omega) _))
  clear q0 q1 q2 q3 q4 q5 q6 q7 q8 q9 q10 q11 q12 q13
  obtain ⟨q0, q1, q2, q3, q4, q5, q6, q7, q8, q9, q10, q11, q12, q13⟩ := HQ2.out
  have HU2 := hide (show UnAt w2 (w.heap.size + 1) u from unAt_below hb2 (by first | omega | (simp; done) | (simp; omega)) (by first | exact HU1.out | exact unAt_alloc HU1.out (by omega) _ | exact unAt_alloc (unAt_alloc HU1.out (by omega) _) (by simp; omega) _))
  clear u0 u1 u2
  obtain ⟨u0, u1, u2⟩ := HU2.out
  have hy2 : w.heap.size < w2.heap.size := by omega
  clear hb2
  go_wp2_with fail
  all_goals first
    | (exfalso; omega)
    | skip
  refine (tweeks_any c u k _ (by omega)).mono ?_
  rintro e w3 ⟨⟨v, rfl, hv⟩, hb3⟩
  obtain rfl := twV_nil HL.out hv
  rw [HEE.out]
  clear hv
  have hz3 : w.heap.size + 1 < w3.heap.size := by have := hb3.size; (try simp at this); omega
  have HB3 := hide (show Below w.heap.size w w3 by have hp := HB2.out; refine Below.trans ?_ (hb3.mono (by first | omega | (simp; done) | (simp; omega))); (repeat' (first | (with_reducible exact Below.refl _ _) | (with_reducible assumption) | (with_reducible refine Below.alloc ?_ ?_ _) | (with_reducible refine below_drewN ?_ _) | (with_reducible refine Below.drew ?_) | (with_reducible refine Below.setCell ?_ ?_ _) | (with_reducible refine Below.trans ?_ (Below.mono (by assumption) ?_)) | go_size | (simp at *; omega))))
  have HQ3 := hide (show CalAt w3 w.heap.size c from calAt_below hb3 (by first | omega | (simp; done) | (simp; omega)) (by first | exact HQ2.out | exact calAt_alloc HQ2.out (by omega) _ | exact calAt_alloc (calAt_alloc HQ2.out (by omega) _) (by simp; omega) _))
  clear q0 q1 q2 q3 q4 q5 q6 q7 q8 q9 q10 q11 q12 q13
  obtain ⟨q0, q1, q2, q3, q4, q5, q6, q7, q8, q9, q10, q11, q12, q13⟩ := HQ3.out
  have HU3 := hide (show UnAt w3 (w.heap.size + 1) u from unAt_below hb3 (by first | omega | (simp; done) | (simp; omega)) (by first | exact HU2.out | exact unAt_alloc HU2.out (by omega) _ | exact unAt_alloc (unAt_alloc HU2.out (by omega) _) (by simp; omega) _))
  clear u0 u1 u2
  obtain ⟨u0, u1, u2⟩ := HU3.out
  have hy3 : w.heap.size < w3.heap.size := by omega
  clear hb3
  have hBel := HB3.out
  go_wp2
  all_goals first
    | (exfalso; omega)
    | (go_ret; exact ⟨ret_bool (by simp), by (repeat' (first | (with_reducible exact Below.refl _ _) | (with_reducible assumption) | (with_reducible refine Below.alloc ?_ ?_ _) | (with_reducible refine below_drewN ?_ _) | (with_reducible refine Below.drew ?_) | (with_reducible refine Below.setCell ?_ ?_ _) | (with_reducible refine Below.trans ?_ (Below.mono (by assumption) ?_)) | go_size | (simp at *; omega)))⟩)
    | (go_ret; exact ⟨ret_bool (by simp; omega), by (repeat' (first | (with_reducible exact Below.refl _ _) | (with_reducible assumption) | (with_reducible refine Below.alloc ?_ ?_ _) | (with_reducible refine below_drewN ?_ _) | (with_reducible refine Below.drew ?_) | (with_reducible refine Below.setCell ?_ ?_ _) | (with_reducible refine Below.trans ?_ (Below.mono (by assumption) ?_)) | go_size | (simp at *; omega)))⟩)
    | (go_ret; exact ⟨rfl, by (repeat' (first | (with_reducible exact Below.refl _ _) | (with_reducible assumption) | (with_reducible refine Below.alloc ?_ ?_ _) | (with_reducible refine below_drewN ?_ _) | (with_reducible refine Below.drew ?_) | (with_reducible refine Below.setCell ?_ ?_ _) | (with_reducible refine Below.trans ?_ (Below.mono (by assumption) ?_)) | go_size | (simp at *; omega)))⟩)

set_option maxRecDepth 100000 in
set_option maxHeartbeats 3200000 in
theorem tm_nox (c : Cal) (u : Un) (k : Int) (w : World) (hn : c.name.size ≤ 100) (h6 : c.kind = 6) (k1 : -400 ≤ k) (k2 : k ≤ 400) (hE : ¬ twE c u k = 0) (h12 : ¬ twE c u k = 12) :
    Calls Try.prog 6 #[calV c, unitV u, .int .i64 k] w fun e w' => e = .returned (.bool true) ∧ Below w.heap.size w w' := by
  have hkb : (c.kind == 6) = true := by simp [h6]
  have hkc : (c.kind != 6) = false := by simp [h6]
  have hEb : (twE c u k != 0) = true := by simpa using hE
  have HL := hide (tw_no hE)
  have HE := hide hE
  have h12b : (twE c u k != 12) = true := by simpa using h12
  obtain ⟨E, hEE⟩ : ∃ E, twE c u k = E := ⟨_, rfl⟩
  have HEE := hide hEE
  rw [hEE] at hEb h12b
  clear hE h6 hEE h12
  simp only [calV, unitV]
  go_enter Try.func6, Try.ntmps6
  go_wp2_with fail
  refine (live20_any _).mono ?_
  rintro e w1 ⟨rfl, hb1⟩
  have hz1 : w.heap.size + 1 < w1.heap.size := by have := hb1.size; simp at this; omega
  have HB1 := hide (show Below w.heap.size w w1 by refine Below.trans ?_ (hb1.mono (by first | omega | (simp; done) | (simp; omega))); (repeat' (first | (with_reducible exact Below.refl _ _) | (with_reducible assumption) | (with_reducible refine Below.alloc ?_ ?_ _) | (with_reducible refine below_drewN ?_ _) | (with_reducible refine Below.drew ?_) | (with_reducible refine Below.setCell ?_ ?_ _) | (with_reducible refine Below.trans ?_ (Below.mono (by assumption) ?_)) | go_size | (simp at *; omega))))
  have HQ1 := hide (calAt_below hb1 (by simp; omega) (calAt_alloc (calAt_new w c) (by simp) _))
  have HU1 := hide (unAt_below hb1 (by simp) (unAt_new w c u))
  obtain ⟨q0, q1, q2, q3, q4, q5, q6, q7, q8, q9, q10, q11, q12, q13⟩ := HQ1.out
  obtain ⟨u0, u1, u2⟩ := HU1.out
  have hy1 : w.heap.size < w1.heap.size := by omega
  clear hb1
  go_wp2_with fail
  all_goals first
    | (exfalso; omega)
    | skip
  refine (runs_no c u k _ (by omega) HE.out).mono ?_
  rintro e w2 ⟨rfl, hb2⟩
  rw [HEE.out]
  have hz2 : w.heap.size + 1 < w2.heap.size := by have := hb2.size; (try simp at this); omega
  have HB2 := hide (show Below w.heap.size w w2 by have hp := HB1.out; refine Below.trans ?_ (hb2.mono (by first | omega | (simp; done) | (simp; omega))); (repeat' (first | (with_reducible exact Below.refl _ _) | (with_reducible assumption) | (with_reducible refine Below.alloc ?_ ?_ _) | (with_reducible refine below_drewN ?_ _) | (with_reducible refine Below.drew ?_) | (with_reducible refine Below.setCell ?_ ?_ _) | (with_reducible refine Below.trans ?_ (Below.mono (by assumption) ?_)) | go_size | (simp at *; omega))))
  have HQ2 := hide (show CalAt w2 w.heap.size c from calAt_below hb2 (by first | omega | (simp; done) | (simp; omega)) (by first | exact HQ1.out | exact calAt_alloc HQ1.out (by omega) _ | exact calAt_alloc (calAt_alloc HQ1.out (by omega) _) (by simp; omega) _))
  clear q0 q1 q2 q3 q4 q5 q6 q7 q8 q9 q10 q11 q12 q13
  obtain ⟨q0, q1, q2, q3, q4, q5, q6, q7, q8, q9, q10, q11, q12, q13⟩ := HQ2.out
  have HU2 := hide (show UnAt w2 (w.heap.size + 1) u from unAt_below hb2 (by first | omega | (simp; done) | (simp; omega)) (by first | exact HU1.out | exact unAt_alloc HU1.out (by omega) _ | exact unAt_alloc (unAt_alloc HU1.out (by omega) _) (by simp; omega) _))
  clear u0 u1 u2
  obtain ⟨u0, u1, u2⟩ := HU2.out
  have hy2 : w.heap.size < w2.heap.size := by omega
  clear hb2
  go_wp2_with fail
  all_goals first
    | (exfalso; omega)
    | skip
  refine (tweeks_any c u k _ (by omega)).mono ?_
  rintro e w3 ⟨⟨v, rfl, hv⟩, hb3⟩
  obtain rfl := twV_nil HL.out hv
  rw [HEE.out]
  clear hv
  have hz3 : w.heap.size + 1 < w3.heap.size := by have := hb3.size; (try simp at this); omega
  have HB3 := hide (show Below w.heap.size w w3 by have hp := HB2.out; refine Below.trans ?_ (hb3.mono (by first | omega | (simp; done) | (simp; omega))); (repeat' (first | (with_reducible exact Below.refl _ _) | (with_reducible assumption) | (with_reducible refine Below.alloc ?_ ?_ _) | (with_reducible refine below_drewN ?_ _) | (with_reducible refine Below.drew ?_) | (with_reducible refine Below.setCell ?_ ?_ _) | (with_reducible refine Below.trans ?_ (Below.mono (by assumption) ?_)) | go_size | (simp at *; omega))))
  have HQ3 := hide (show CalAt w3 w.heap.size c from calAt_below hb3 (by first | omega | (simp; done) | (simp; omega)) (by first | exact HQ2.out | exact calAt_alloc HQ2.out (by omega) _ | exact calAt_alloc (calAt_alloc HQ2.out (by omega) _) (by simp; omega) _))
  clear q0 q1 q2 q3 q4 q5 q6 q7 q8 q9 q10 q11 q12 q13
  obtain ⟨q0, q1, q2, q3, q4, q5, q6, q7, q8, q9, q10, q11, q12, q13⟩ := HQ3.out
  have HU3 := hide (show UnAt w3 (w.heap.size + 1) u from unAt_below hb3 (by first | omega | (simp; done) | (simp; omega)) (by first | exact HU2.out | exact unAt_alloc HU2.out (by omega) _ | exact unAt_alloc (unAt_alloc HU2.out (by omega) _) (by simp; omega) _))
  clear u0 u1 u2
  obtain ⟨u0, u1, u2⟩ := HU3.out
  have hy3 : w.heap.size < w3.heap.size := by omega
  clear hb3
  have hBel := HB3.out
  go_wp2
  all_goals first
    | (exfalso; omega)
    | (go_ret; exact ⟨ret_bool (by simp), by (repeat' (first | (with_reducible exact Below.refl _ _) | (with_reducible assumption) | (with_reducible refine Below.alloc ?_ ?_ _) | (with_reducible refine below_drewN ?_ _) | (with_reducible refine Below.drew ?_) | (with_reducible refine Below.setCell ?_ ?_ _) | (with_reducible refine Below.trans ?_ (Below.mono (by assumption) ?_)) | go_size | (simp at *; omega)))⟩)
    | (go_ret; exact ⟨ret_bool (by simp; omega), by (repeat' (first | (with_reducible exact Below.refl _ _) | (with_reducible assumption) | (with_reducible refine Below.alloc ?_ ?_ _) | (with_reducible refine below_drewN ?_ _) | (with_reducible refine Below.drew ?_) | (with_reducible refine Below.setCell ?_ ?_ _) | (with_reducible refine Below.trans ?_ (Below.mono (by assumption) ?_)) | go_size | (simp at *; omega)))⟩)
    | (go_ret; exact ⟨rfl, by (repeat' (first | (with_reducible exact Below.refl _ _) | (with_reducible assumption) | (with_reducible refine Below.alloc ?_ ?_ _) | (with_reducible refine below_drewN ?_ _) | (with_reducible refine Below.drew ?_) | (with_reducible refine Below.setCell ?_ ?_ _) | (with_reducible refine Below.trans ?_ (Below.mono (by assumption) ?_)) | go_size | (simp at *; omega)))⟩)

set_option maxRecDepth 100000 in
set_option maxHeartbeats 3200000 in
theorem tm_yesn (c : Cal) (u : Un) (k : Int) (w : World) (hn : c.name.size ≤ 100) (h6 : c.kind = 6) (k1 : -400 ≤ k) (k2 : k ≤ 400) (hE : twE c u k = 0) (h5 : ¬ u.lv = 5) (hV : unitE c ⟨u.lv, u.yr + k, u.ix⟩ = 0) (hR : rnL c u k = [spV c ⟨u.lv, u.yr + k, u.ix⟩]) :
    Calls Try.prog 6 #[calV c, unitV u, .int .i64 k] w fun e w' => e = .returned (.bool true) ∧ Below w.heap.size w w' := by
  have hkb : (c.kind == 6) = true := by simp [h6]
  have hkc : (c.kind != 6) = false := by simp [h6]
  obtain ⟨hU, ht, _, _, _⟩ := tw_ok hE
  have hf := (un_lv hU).1
  obtain ⟨hok, hk, _, _, hy1, hy2, _⟩ := frame_ok hf
  have hyb := ok_years hk
  have hyb2 : 1602 ≤ c.first ∧ c.last ≤ 9996 := ⟨hyb.2.2.1, hyb.2.2.2.1⟩
  have HE := hide hE
  have h5b : (u.lv == 5) = false := by simpa using h5
  obtain ⟨S, hS⟩ : ∃ S, spV c ⟨u.lv, u.yr + k, u.ix⟩ = S := ⟨_, rfl⟩
  rw [hS] at hR
  have HR := hide hR
  have HV := hide (And.intro hV hS)
  clear hE h5 hR hV hS hU hf hok hk h6 hyb
  simp only [calV, unitV]
  go_enter Try.func6, Try.ntmps6
  go_wp2_with fail
  refine (live20_any _).mono ?_
  rintro e w1 ⟨rfl, hb1⟩
  have hz1 : w.heap.size + 1 < w1.heap.size := by have := hb1.size; simp at this; omega
  have HB1 := hide (show Below w.heap.size w w1 by refine Below.trans ?_ (hb1.mono (by first | omega | (simp; done) | (simp; omega))); (repeat' (first | (with_reducible exact Below.refl _ _) | (with_reducible assumption) | (with_reducible refine Below.alloc ?_ ?_ _) | (with_reducible refine below_drewN ?_ _) | (with_reducible refine Below.drew ?_) | (with_reducible refine Below.setCell ?_ ?_ _) | (with_reducible refine Below.trans ?_ (Below.mono (by assumption) ?_)) | go_size | (simp at *; omega))))
  have HQ1 := hide (calAt_below hb1 (by simp; omega) (calAt_alloc (calAt_new w c) (by simp) _))
  have HU1 := hide (unAt_below hb1 (by simp) (unAt_new w c u))
  obtain ⟨q0, q1, q2, q3, q4, q5, q6, q7, q8, q9, q10, q11, q12, q13⟩ := HQ1.out
  obtain ⟨u0, u1, u2⟩ := HU1.out
  have hy1 : w.heap.size < w1.heap.size := by omega
  clear hb1
  go_wp2_with fail
  all_goals first
    | (exfalso; omega)
    | skip
  refine (runs_yes c u k _ (by omega) HE.out).mono ?_
  rintro e w2 ⟨⟨g, cap, rfl, hsp⟩, hb2⟩
  rw [HR.out] at hsp ⊢
  have HSP2 := hide hsp
  have hgl := spsLt hsp (by simp)
  simp only [List.length_cons, List.length_nil, Nat.zero_add]
  clear hsp
  have hz2 : w.heap.size + 1 < w2.heap.size := by have := hb2.size; (try simp at this); omega
  have HB2 := hide (show Below w.heap.size w w2 by have hp := HB1.out; refine Below.trans ?_ (hb2.mono (by first | omega | (simp; done) | (simp; omega))); (repeat' (first | (with_reducible exact Below.refl _ _) | (with_reducible assumption) | (with_reducible refine Below.alloc ?_ ?_ _) | (with_reducible refine below_drewN ?_ _) | (with_reducible refine Below.drew ?_) | (with_reducible refine Below.setCell ?_ ?_ _) | (with_reducible refine Below.trans ?_ (Below.mono (by assumption) ?_)) | go_size | (simp at *; omega))))
  have HQ2 := hide (show CalAt w2 w.heap.size c from calAt_below hb2 (by first | omega | (simp; done) | (simp; omega)) (by first | exact HQ1.out | exact calAt_alloc HQ1.out (by omega) _ | exact calAt_alloc (calAt_alloc HQ1.out (by omega) _) (by simp; omega) _))
  clear q0 q1 q2 q3 q4 q5 q6 q7 q8 q9 q10 q11 q12 q13
  obtain ⟨q0, q1, q2, q3, q4, q5, q6, q7, q8, q9, q10, q11, q12, q13⟩ := HQ2.out
  have HU2 := hide (show UnAt w2 (w.heap.size + 1) u from unAt_below hb2 (by first | omega | (simp; done) | (simp; omega)) (by first | exact HU1.out | exact unAt_alloc HU1.out (by omega) _ | exact unAt_alloc (unAt_alloc HU1.out (by omega) _) (by simp; omega) _))
  clear u0 u1 u2
  obtain ⟨u0, u1, u2⟩ := HU2.out
  have hy2 : w.heap.size < w2.heap.size := by omega
  clear hb2
  go_wp2_with fail
  all_goals first
    | (exfalso; omega)
    | skip
  refine (uspan_any c ⟨u.lv, u.yr + k, u.ix⟩ _ (by omega)).mono ?_
  rintro e w3 ⟨rfl, hb3⟩
  rw [HV.out.1, HV.out.2]
  simp only [spanV]
  have hsp3 := (HSP2.out.call ((Below.refl _ _).alloc (Nat.le_refl _) _)).call hb3
  have hg3 : g < w3.heap.size := by have := hb3.size; simp at this; omega
  obtain ⟨s0, s1⟩ := SpsAt.cell hsp3 (i := 0) (s := S) rfl
  simp only [Nat.zero_mul, Nat.zero_add] at s0 s1
  clear hsp3
  have hz3 : w.heap.size + 1 < w3.heap.size := by have := hb3.size; (try simp at this); omega
  have HB3 := hide (show Below w.heap.size w w3 by have hp := HB2.out; refine Below.trans ?_ (hb3.mono (by first | omega | (simp; done) | (simp; omega))); (repeat' (first | (with_reducible exact Below.refl _ _) | (with_reducible assumption) | (with_reducible refine Below.alloc ?_ ?_ _) | (with_reducible refine below_drewN ?_ _) | (with_reducible refine Below.drew ?_) | (with_reducible refine Below.setCell ?_ ?_ _) | (with_reducible refine Below.trans ?_ (Below.mono (by assumption) ?_)) | go_size | (simp at *; omega))))
  have HQ3 := hide (show CalAt w3 w.heap.size c from calAt_below hb3 (by first | omega | (simp; done) | (simp; omega)) (by first | exact HQ2.out | exact calAt_alloc HQ2.out (by omega) _ | exact calAt_alloc (calAt_alloc HQ2.out (by omega) _) (by simp; omega) _))
  clear q0 q1 q2 q3 q4 q5 q6 q7 q8 q9 q10 q11 q12 q13
  obtain ⟨q0, q1, q2, q3, q4, q5, q6, q7, q8, q9, q10, q11, q12, q13⟩ := HQ3.out
  have HU3 := hide (show UnAt w3 (w.heap.size + 1) u from unAt_below hb3 (by first | omega | (simp; done) | (simp; omega)) (by first | exact HU2.out | exact unAt_alloc HU2.out (by omega) _ | exact unAt_alloc (unAt_alloc HU2.out (by omega) _) (by simp; omega) _))
  clear u0 u1 u2
  obtain ⟨u0, u1, u2⟩ := HU3.out
  have hy3 : w.heap.size < w3.heap.size := by omega
  clear hb3
  have hBel := HB3.out
  have hi0 : (0 : Int) < (1 : Int) := by decide
  have hsb := spB_same S.a S.b
  go_wp2_with fail
  go_quiet (fail)
  go_wp2
  go_ret
  exact ⟨rfl, by (repeat' (first | (with_reducible exact Below.refl _ _) | (with_reducible assumption) | (with_reducible refine Below.alloc ?_ ?_ _) | (with_reducible refine below_drewN ?_ _) | (with_reducible refine Below.drew ?_) | (with_reducible refine Below.setCell ?_ ?_ _) | (with_reducible refine Below.trans ?_ (Below.mono (by assumption) ?_)) | go_size | (simp at *; omega)))⟩

set_option maxRecDepth 100000 in
set_option maxHeartbeats 3200000 in
theorem tm_yesw (c : Cal) (u : Un) (k : Int) (w : World) (hn : c.name.size ≤ 100) (h6 : c.kind = 6) (k1 : -400 ≤ k) (k2 : k ≤ 400) (hE : twE c u k = 0) (h5 : u.lv = 5) (i : Nat) (hup : upV c u 4 = ⟨4, u.yr, (i : Int) + 1⟩) (hue : upE c u 4 = 0) (hP : unitE c ⟨4, u.yr, (i : Int) + 1⟩ = 0) (hQ : unitE c ⟨4, u.yr + k, (i : Int) + 1⟩ = 0) (hV : unitE c ⟨5, u.yr + k, u.ix - ((cutA c ⟨4, u.yr, (i : Int) + 1⟩ : Int) + 1) + ((cutA c ⟨4, u.yr + k, (i : Int) + 1⟩ : Int) + 1)⟩ = 0) (hR : rnL c u k = [spV c ⟨5, u.yr + k, u.ix - ((cutA c ⟨4, u.yr, (i : Int) + 1⟩ : Int) + 1) + ((cutA c ⟨4, u.yr + k, (i : Int) + 1⟩ : Int) + 1)⟩]) :
    Calls Try.prog 6 #[calV c, unitV u, .int .i64 k] w fun e w' => e = .returned (.bool true) ∧ Below w.heap.size w w' := by
  have hkb : (c.kind == 6) = true := by simp [h6]
  have hkc : (c.kind != 6) = false := by simp [h6]
  obtain ⟨hU, ht, _, _, _⟩ := tw_ok hE
  have hf := (un_lv hU).1
  obtain ⟨hok, hk, _, _, hy1, hy2, _⟩ := frame_ok hf
  have hyb := ok_years hk
  have hyb2 : 1602 ≤ c.first ∧ c.last ≤ 9996 := ⟨hyb.2.2.1, hyb.2.2.2.1⟩
  have HE := hide hE
  have h5b : (u.lv == 5) = true := by simp [h5]
  have hd1 := dn_5 hP
  have hd2 := dn_5 hQ
  have hab0 := cutAB hP
  have hab := cutAB hQ
  have hb60 := nWk_bd c u.yr (un_lv hP).2.2.2.1
  have hb61 := nWk_bd c (u.yr + k) (un_lv hQ).2.2.2.1
  simp only at hd1 hd2 hab0 hab
  have hixb : 1 ≤ u.ix ∧ u.ix ≤ 60 := by
    obtain ⟨_, _, _, hA, hx, hi⟩ := un_lv hU
    have := (cnt_bd c u.yr hA u.lv).2
    omega
  obtain ⟨A0, hA0⟩ : ∃ A, cutA c ⟨4, u.yr, (i : Int) + 1⟩ = A := ⟨_, rfl⟩
  obtain ⟨B0, hB0⟩ : ∃ A, cutB c ⟨4, u.yr, (i : Int) + 1⟩ = A := ⟨_, rfl⟩
  obtain ⟨A, hA⟩ : ∃ A, cutA c ⟨4, u.yr + k, (i : Int) + 1⟩ = A := ⟨_, rfl⟩
  obtain ⟨B, hB⟩ : ∃ A, cutB c ⟨4, u.yr + k, (i : Int) + 1⟩ = A := ⟨_, rfl⟩
  rw [hA0, hB0] at hd1 hab0
  rw [hA, hB] at hd2 hab
  rw [hA0, hA] at hV hR
  obtain ⟨S, hS⟩ : ∃ S, spV c ⟨5, u.yr + k, u.ix - ((A0 : Int) + 1) + ((A : Int) + 1)⟩ = S := ⟨_, rfl⟩
  rw [hS] at hR
  have HR := hide hR
  have HV := hide (show unitE c ⟨u.lv, u.yr + k, u.ix - ((A0 : Int) + 1) + ((A : Int) + 1)⟩ = 0 ∧ spV c ⟨u.lv, u.yr + k, u.ix - ((A0 : Int) + 1) + ((A : Int) + 1)⟩ = S by rw [h5]; exact And.intro hV hS)
  have HUP := hide (And.intro hue hup)
  have HD1 := hide hd1
  have HD2 := hide hd2
  clear h5 hE hR hV hS hU hf hok hk h6 hyb hup hue hP hQ hd1 hd2 hA0 hB0 hA hB
  simp only [calV, unitV]
  go_enter Try.func6, Try.ntmps6
  go_wp2_with fail
  refine (live20_any _).mono ?_
  rintro e w1 ⟨rfl, hb1⟩
  have hz1 : w.heap.size + 1 < w1.heap.size := by have := hb1.size; simp at this; omega
  have HB1 := hide (show Below w.heap.size w w1 by refine Below.trans ?_ (hb1.mono (by first | omega | (simp; done) | (simp; omega))); (repeat' (first | (with_reducible exact Below.refl _ _) | (with_reducible assumption) | (with_reducible refine Below.alloc ?_ ?_ _) | (with_reducible refine below_drewN ?_ _) | (with_reducible refine Below.drew ?_) | (with_reducible refine Below.setCell ?_ ?_ _) | (with_reducible refine Below.trans ?_ (Below.mono (by assumption) ?_)) | go_size | (simp at *; omega))))
  have HQ1 := hide (calAt_below hb1 (by simp; omega) (calAt_alloc (calAt_new w c) (by simp) _))
  have HU1 := hide (unAt_below hb1 (by simp) (unAt_new w c u))
  obtain ⟨q0, q1, q2, q3, q4, q5, q6, q7, q8, q9, q10, q11, q12, q13⟩ := HQ1.out
  obtain ⟨u0, u1, u2⟩ := HU1.out
  have hy1 : w.heap.size < w1.heap.size := by omega
  clear hb1
  go_wp2_with fail
  all_goals first
    | (exfalso; omega)
    | skip
  refine (runs_yes c u k _ (by omega) HE.out).mono ?_
  rintro e w2 ⟨⟨g, cap, rfl, hsp⟩, hb2⟩
  rw [HR.out] at hsp ⊢
  have HSP2 := hide hsp
  have hgl := spsLt hsp (by simp)
  simp only [List.length_cons, List.length_nil, Nat.zero_add]
  clear hsp
  have hz2 : w.heap.size + 1 < w2.heap.size := by have := hb2.size; (try simp at this); omega
  have HB2 := hide (show Below w.heap.size w w2 by have hp := HB1.out; refine Below.trans ?_ (hb2.mono (by first | omega | (simp; done) | (simp; omega))); (repeat' (first | (with_reducible exact Below.refl _ _) | (with_reducible assumption) | (with_reducible refine Below.alloc ?_ ?_ _) | (with_reducible refine below_drewN ?_ _) | (with_reducible refine Below.drew ?_) | (with_reducible refine Below.setCell ?_ ?_ _) | (with_reducible refine Below.trans ?_ (Below.mono (by assumption) ?_)) | go_size | (simp at *; omega))))
  have HQ2 := hide (show CalAt w2 w.heap.size c from calAt_below hb2 (by first | omega | (simp; done) | (simp; omega)) (by first | exact HQ1.out | exact calAt_alloc HQ1.out (by omega) _ | exact calAt_alloc (calAt_alloc HQ1.out (by omega) _) (by simp; omega) _))
  clear q0 q1 q2 q3 q4 q5 q6 q7 q8 q9 q10 q11 q12 q13
  obtain ⟨q0, q1, q2, q3, q4, q5, q6, q7, q8, q9, q10, q11, q12, q13⟩ := HQ2.out
  have HU2 := hide (show UnAt w2 (w.heap.size + 1) u from unAt_below hb2 (by first | omega | (simp; done) | (simp; omega)) (by first | exact HU1.out | exact unAt_alloc HU1.out (by omega) _ | exact unAt_alloc (unAt_alloc HU1.out (by omega) _) (by simp; omega) _))
  clear u0 u1 u2
  obtain ⟨u0, u1, u2⟩ := HU2.out
  have hy2 : w.heap.size < w2.heap.size := by omega
  clear hb2
  go_wp2_with fail
  all_goals first
    | (exfalso; omega)
    | skip
  refine (up_any c u 4 _ (by omega)).mono ?_
  rintro e w3 ⟨rfl, hb3⟩
  rw [HUP.out.1, HUP.out.2]
  simp only [unitV]
  have HSP3 := hide ((HSP2.out.call ((Below.refl _ _).alloc (Nat.le_refl _) _)).call hb3)
  have hg3 : g < w3.heap.size := by have := hb3.size; simp at this; omega
  have GV3 := hide ((BlkIs.new w2 #[.int .i64 u.lv, .int .i64 (u.yr + k), .int .i64 u.ix] 31).call hb3)
  have h23 : w2.heap.size < w3.heap.size := by have := hb3.size; simp at this; omega
  have hz3 : w.heap.size + 1 < w3.heap.size := by have := hb3.size; (try simp at this); omega
  have HB3 := hide (show Below w.heap.size w w3 by have hp := HB2.out; refine Below.trans ?_ (hb3.mono (by first | omega | (simp; done) | (simp; omega))); (repeat' (first | (with_reducible exact Below.refl _ _) | (with_reducible assumption) | (with_reducible refine Below.alloc ?_ ?_ _) | (with_reducible refine below_drewN ?_ _) | (with_reducible refine Below.drew ?_) | (with_reducible refine Below.setCell ?_ ?_ _) | (with_reducible refine Below.trans ?_ (Below.mono (by assumption) ?_)) | go_size | (simp at *; omega))))
  have HQ3 := hide (show CalAt w3 w.heap.size c from calAt_below hb3 (by first | omega | (simp; done) | (simp; omega)) (by first | exact HQ2.out | exact calAt_alloc HQ2.out (by omega) _ | exact calAt_alloc (calAt_alloc HQ2.out (by omega) _) (by simp; omega) _))
  clear q0 q1 q2 q3 q4 q5 q6 q7 q8 q9 q10 q11 q12 q13
  obtain ⟨q0, q1, q2, q3, q4, q5, q6, q7, q8, q9, q10, q11, q12, q13⟩ := HQ3.out
  have HU3 := hide (show UnAt w3 (w.heap.size + 1) u from unAt_below hb3 (by first | omega | (simp; done) | (simp; omega)) (by first | exact HU2.out | exact unAt_alloc HU2.out (by omega) _ | exact unAt_alloc (unAt_alloc HU2.out (by omega) _) (by simp; omega) _))
  clear u0 u1 u2
  obtain ⟨u0, u1, u2⟩ := HU3.out
  have hy3 : w.heap.size < w3.heap.size := by omega
  clear hb3
  go_wp2_with fail
  all_goals first
    | (exfalso; omega)
    | skip
  refine (down_any c ⟨4, u.yr, (i : Int) + 1⟩ 5 _ (by omega)).mono ?_
  rintro e w4 ⟨rfl, hb4⟩
  rw [HD1.out.1, HD1.out.2.1, HD1.out.2.2]
  simp only [unitV]
  have HSP4 := hide ((HSP3.out.call ((Below.refl _ _).alloc (Nat.le_refl _) _)).call hb4)
  have hg4 : g < w4.heap.size := by have := hb4.size; simp at this; omega
  have GV4 := hide ((GV3.out.alloc _).call hb4)
  have GP4 := hide ((BlkIs.new w3 #[.int .i64 4, .int .i64 u.yr, .int .i64 ((i : Int) + 1)] 31).call hb4)
  have h24 : w2.heap.size < w4.heap.size := by have := hb4.size; simp at this; omega
  have h34 : w3.heap.size < w4.heap.size := by have := hb4.size; simp at this; omega
  have hz4 : w.heap.size + 1 < w4.heap.size := by have := hb4.size; (try simp at this); omega
  have HB4 := hide (show Below w.heap.size w w4 by have hp := HB3.out; refine Below.trans ?_ (hb4.mono (by first | omega | (simp; done) | (simp; omega))); (repeat' (first | (with_reducible exact Below.refl _ _) | (with_reducible assumption) | (with_reducible refine Below.alloc ?_ ?_ _) | (with_reducible refine below_drewN ?_ _) | (with_reducible refine Below.drew ?_) | (with_reducible refine Below.setCell ?_ ?_ _) | (with_reducible refine Below.trans ?_ (Below.mono (by assumption) ?_)) | go_size | (simp at *; omega))))
  have HQ4 := hide (show CalAt w4 w.heap.size c from calAt_below hb4 (by first | omega | (simp; done) | (simp; omega)) (by first | exact HQ3.out | exact calAt_alloc HQ3.out (by omega) _ | exact calAt_alloc (calAt_alloc HQ3.out (by omega) _) (by simp; omega) _))
  clear q0 q1 q2 q3 q4 q5 q6 q7 q8 q9 q10 q11 q12 q13
  obtain ⟨q0, q1, q2, q3, q4, q5, q6, q7, q8, q9, q10, q11, q12, q13⟩ := HQ4.out
  have HU4 := hide (show UnAt w4 (w.heap.size + 1) u from unAt_below hb4 (by first | omega | (simp; done) | (simp; omega)) (by first | exact HU3.out | exact unAt_alloc HU3.out (by omega) _ | exact unAt_alloc (unAt_alloc HU3.out (by omega) _) (by simp; omega) _))
  clear u0 u1 u2
  obtain ⟨u0, u1, u2⟩ := HU4.out
  have hy4 : w.heap.size < w4.heap.size := by omega
  clear hb4
  obtain ⟨⟨p0, p1, p2⟩, p3, p4, p5⟩ := blk_three GP4.out
  go_wp2_with fail
  all_goals first
    | (exfalso; omega)
    | skip
  refine (down_any c ⟨4, u.yr + k, (i : Int) + 1⟩ 5 _ (by omega)).mono ?_
  rintro e w5 ⟨rfl, hb5⟩
  rw [HD2.out.1, HD2.out.2.1, HD2.out.2.2]
  simp only [unitV]
  have hbe : Below w3.heap.size w4 w5 := by
    refine Below.trans ?_ (hb5.mono (by simp; omega))
    exact ((Below.setCell (Below.refl _ _) (by simp) _).alloc (by simp; omega) _).alloc (by simp; omega) _
  have h45 : w4.heap.size < w5.heap.size := by have := hb5.size; simp at this; omega
  have HQ5 := hide (calAt_below hbe (by omega) HQ4.out)
  have HU5 := hide (unAt_below hbe (by omega) HU4.out)
  have HB5 := hide (HB4.out.trans (hbe.mono (by omega)))
  have HSP5 := hide (sps_base HSP4.out hg3 hbe)
  have GV5 := hide (GV4.out.below hbe h23)
  have GA5 := hide (((BlkIs.new (w4.setCell ⟨w3.heap.size, 1, none⟩ (.int .i64 (u.yr + k))) #[.int .i64 5, .int .i64 u.yr, .int .i64 ((A0 : Int) + 1)] 31).alloc (.cells #[.int .i64 5, .int .i64 u.yr, .int .i64 (B0 : Int)] 31)).call (by exact hb5))
  have x2 : w5.cell? ⟨w4.heap.size, 2, none⟩ = some (.int .i64 ((A0 : Int) + 1)) := by simpa using GA5.out.cell 2
  clear hb5 u0 u1 u2 p0 p1 p2 p3 p4 p5 hbe
  clear q0 q1 q2 q3 q4 q5 q6 q7 q8 q9 q10 q11 q12 q13
  obtain ⟨q0, q1, q2, q3, q4, q5, q6, q7, q8, q9, q10, q11, q12, q13⟩ := HQ5.out
  obtain ⟨u0, u1, u2⟩ := HU5.out
  obtain ⟨⟨v0, v1, v2⟩, f0, f1, f2⟩ := blk_three GV5.out
  have hz5 : w.heap.size + 1 < w5.heap.size := by omega
  have hy5 : w.heap.size < w5.heap.size := by omega
  have h25 : w2.heap.size < w5.heap.size := by omega
  go_wp2_with fail
  all_goals first
    | (exfalso; omega)
    | skip
  refine (uspan_any c ⟨u.lv, u.yr + k, u.ix - ((A0 : Int) + 1) + ((A : Int) + 1)⟩ _ (by omega)).mono ?_
  rintro e w6 ⟨rfl, hb6⟩
  rw [HV.out.1, HV.out.2]
  simp only [spanV]
  have hbe6 : Below w2.heap.size w5 w6 := by
    refine Below.trans ?_ (hb6.mono (by simp; omega))
    (repeat' (first | (with_reducible exact Below.refl _ _) | (with_reducible assumption) | (with_reducible refine Below.alloc ?_ ?_ _) | (with_reducible refine below_drewN ?_ _) | (with_reducible refine Below.drew ?_) | (with_reducible refine Below.setCell ?_ ?_ _) | (with_reducible refine Below.trans ?_ (Below.mono (by assumption) ?_)) | go_size | (simp at *; omega)))
  have HB6 := hide (HB5.out.trans (hbe6.mono (by omega)))
  have hsp6 := sps_base HSP5.out hgl.1 hbe6
  have hg6 : g < w6.heap.size := by have := hbe6.size; omega
  obtain ⟨s0, s1⟩ := SpsAt.cell hsp6 (i := 0) (s := S) rfl
  simp only [Nat.zero_mul, Nat.zero_add] at s0 s1
  clear hsp6 hbe6 hb6 u0 u1 u2 v0 v1 v2 f0 f1 f2 x2
  clear q0 q1 q2 q3 q4 q5 q6 q7 q8 q9 q10 q11 q12 q13
  have hBel := HB6.out
  have hwz : w.heap.size ≤ w6.heap.size := hBel.size
  have hi0 : (0 : Int) < (1 : Int) := by decide
  have hsb := spB_same S.a S.b
  go_wp2_with fail
  go_quiet (fail)
  go_wp2
  go_ret
  exact ⟨rfl, by (repeat' (first | (with_reducible exact Below.refl _ _) | (with_reducible assumption) | (with_reducible refine Below.alloc ?_ ?_ _) | (with_reducible refine below_drewN ?_ _) | (with_reducible refine Below.drew ?_) | (with_reducible refine Below.setCell ?_ ?_ _) | (with_reducible refine Below.trans ?_ (Below.mono (by assumption) ?_)) | go_size | (simp at *; omega)))⟩

theorem tm_walk (c : Cal) (hn : c.name.size ≤ 9223372036854775807) (u : Un) (k : Int) (w : World) :
    Calls Try.prog 6 #[calV c, unitV u, .int .i64 k] w fun e w' => e = .returned (.bool true) ∧ Below w.heap.size w w' := by
  by_cases h : 100 < c.name.size
  · exact tm_long c u k w h hn
  · have h' : c.name.size ≤ 100 := by omega
    by_cases h6 : c.kind = 6
    · by_cases hk : -400 ≤ k ∧ k ≤ 400
      · by_cases hE : twE c u k = 0
        · rcases mon_run hE h6 with ⟨h5, hV, hR⟩ | ⟨h5, i, a1, a2, a3, a4, a5, a6⟩
          · exact tm_yesn c u k w h' h6 hk.1 hk.2 hE h5 hV hR
          · exact tm_yesw c u k w h' h6 hk.1 hk.2 hE h5 i a1 a2 a3 a4 a5 a6
        · by_cases h12 : twE c u k = 12
          · exact tm_no12 c u k w h' h6 hk.1 hk.2 hE h12
          · exact tm_nox c u k w h' h6 hk.1 hk.2 hE h12
      · refine tm_triv c u k w h' ?_
        rcases Int.lt_or_le k (-400) with h1 | h1
        · exact .inr (.inl ⟨h6, h1⟩)
        · exact .inr (.inr ⟨h6, h1, by omega⟩)
    · exact tm_triv c u k w h' (.inl h6)
end Go.Proofs.Ytpngdeegdkifnaa
