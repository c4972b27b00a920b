/- The walk of UnitWeeks. -/
import Derived.Test.YtepmfpgljcbkmaaLawUCover
namespace Go.Proofs.Ytepmfpgljcbkmaa
open Go.RowKit Qd
set_option linter.unusedSimpArgs false
set_option linter.unusedVariables false

/-- The weekday of a year's first day. -/
theorem start_wd (c : Cal) (y : Int) (hA : askE c y 1601 = 0) (hk6 : c.kind ≠ 6) : (startV c y + 5) % 7 + 1 = c.day % 7 + 1 ∧ 1 ≤ c.day ∧ c.day ≤ 7 := by
  obtain ⟨hok, _, _⟩ := ask_ok hA
  obtain ⟨_, _, _, hd⟩ := ok_rule hok
  have hf := fin_day c (y - 1 + c.shift) hok hk6
  have : startV c y = finV c (y - 1 + c.shift) + 1 := by simp [startV, hA]
  have := hd hk6
  omega
theorem isB_dayW {c : Cal} {y lv : Int} (hf : frameE c lv y = 0) (i : Nat) (hi : i < nWk c y) : isB (dayW c y i) = true := by
  obtain ⟨hok, hok2, h1, h5, hy1, hy2, hA⟩ := frame_ok hf
  obtain ⟨hs1, hs2, hs3⟩ := hok.1
  have hA2 : askE c (y + 1) 1601 = 0 := ask_2 hok (by omega) (by omega)
  have e1 := dayW_lt c y hA hi (Nat.le_refl _)
  rw [dayW_end c y hA] at e1
  have e2 := start_next c y hA2
  have e3 := year_bd c (y + 1) hA2
  have e4 : daysV c (y + 1) = endV c (y + 1) - startV c (y + 1) + 1 := by simp [daysV, hA2]
  have e5 := dayW_le c y hA (Nat.zero_le i) (Nat.le_of_lt hi)
  rw [dayW_0] at e5
  have := year_bd c y hA
  simp [isB]
  omega
/-- A week of a period: the next one begins seven days behind it, or it is the last one. -/
theorem week_in {c : Cal} {y : Int} (hA : askE c y 1601 = 0) (i : Nat) (k : Nat) (hk : k < nPer c y) (h1 : cumW c y k ≤ i) (h2 : i < cumW c y (k + 1)) :
    (dayW c y i - dayW c y (cumW c y k)) % 7 = 0 ∧ (dayW c y (i + 1) = dayW c y i + 7 ∨ dayW c y (i + 1) = dayW c y (cumW c y (k + 1))) := by
  obtain ⟨j, rfl⟩ : ∃ j, i = cumW c y k + j := ⟨i - cumW c y k, by omega⟩
  have hj : j < nwk c y k := by rw [cumW] at h2; omega
  have e1 := dayW_at c y hA k j hk hj
  have e0 := dayW_cum c y hA k (Nat.le_of_lt hk)
  refine ⟨by rw [e1, e0]; omega, ?_⟩
  by_cases hj2 : j + 1 < nwk c y k
  · left
    have e2 := dayW_at c y hA k (j + 1) hk hj2
    rw [Nat.add_assoc, e2, e1]
    omega
  · right
    have : cumW c y k + j + 1 = cumW c y (k + 1) := by rw [cumW]; omega
    rw [this]

set_option maxRecDepth 100000 in
set_option maxHeartbeats 1600000 in
theorem uw_long (c : Cal) (u : Un) (w : World) (hn : 100 < c.name.size) (hm : c.name.size ≤ 9223372036854775807) :
    Calls Try.prog 6 #[calV c, unitV u] w fun e w' => e = .returned (.bool true) ∧ Below w.heap.size w w' := by
  simp only [calV, unitV]
  go_enter Try.func6, Try.ntmps6
  go_wp2_with fail
  refine (live16_any _).mono ?_
  rintro e w1 ⟨rfl, hb1⟩
  have hz1 : w.heap.size + 1 < w1.heap.size := by have := hb1.size; simp at this; omega
  have HB1 := hide (show Below w.heap.size w w1 by refine Below.trans ?_ (hb1.mono (by first | omega | (simp; done) | (simp; omega))); (repeat' (first | (with_reducible exact Below.refl _ _) | (with_reducible assumption) | (with_reducible refine Below.alloc ?_ ?_ _) | (with_reducible refine below_drewN ?_ _) | (with_reducible refine Below.drew ?_) | (with_reducible refine Below.setCell ?_ ?_ _) | (with_reducible refine Below.trans ?_ (Below.mono (by assumption) ?_)) | go_size | (simp at *; omega))))
  have HQ1 := hide (calAt_below hb1 (by simp; omega) (calAt_alloc (calAt_new w c) (by simp) _))
  have HU1 := hide (unAt_below hb1 (by simp) (unAt_new w c u))
  obtain ⟨q0, q1, q2, q3, q4, q5, q6, q7, q8, q9, q10, q11, q12, q13⟩ := HQ1.out
  obtain ⟨u0, u1, u2⟩ := HU1.out
  have hy1 : w.heap.size < w1.heap.size := by omega
  clear hb1
  go_wp2
  all_goals first
    | (exfalso; omega)
    | (go_ret; exact ⟨rfl, HB1.out⟩)


set_option maxRecDepth 100000 in
set_option maxHeartbeats 1600000 in
theorem uw_other (c : Cal) (u : Un) (w : World) (hn : c.name.size ≤ 100) (hl : u.lv ≠ 5) :
    Calls Try.prog 6 #[calV c, unitV u] w fun e w' => e = .returned (.bool true) ∧ Below w.heap.size w w' := by
  have hl' : (u.lv != 5) = true := by simpa using hl
  clear hl
  simp only [calV, unitV]
  go_enter Try.func6, Try.ntmps6
  go_wp2_with fail
  refine (live16_any _).mono ?_
  rintro e w1 ⟨rfl, hb1⟩
  have hz1 : w.heap.size + 1 < w1.heap.size := by have := hb1.size; simp at this; omega
  have HB1 := hide (show Below w.heap.size w w1 by refine Below.trans ?_ (hb1.mono (by first | omega | (simp; done) | (simp; omega))); (repeat' (first | (with_reducible exact Below.refl _ _) | (with_reducible assumption) | (with_reducible refine Below.alloc ?_ ?_ _) | (with_reducible refine below_drewN ?_ _) | (with_reducible refine Below.drew ?_) | (with_reducible refine Below.setCell ?_ ?_ _) | (with_reducible refine Below.trans ?_ (Below.mono (by assumption) ?_)) | go_size | (simp at *; omega))))
  have HQ1 := hide (calAt_below hb1 (by simp; omega) (calAt_alloc (calAt_new w c) (by simp) _))
  have HU1 := hide (unAt_below hb1 (by simp) (unAt_new w c u))
  obtain ⟨q0, q1, q2, q3, q4, q5, q6, q7, q8, q9, q10, q11, q12, q13⟩ := HQ1.out
  obtain ⟨u0, u1, u2⟩ := HU1.out
  have hy1 : w.heap.size < w1.heap.size := by omega
  clear hb1
  have hBel := HB1.out
  go_wp2
  all_goals first
    | (exfalso; omega)
    | (go_ret; exact ⟨rfl, by (repeat' (first | (with_reducible exact Below.refl _ _) | (with_reducible assumption) | (with_reducible refine Below.alloc ?_ ?_ _) | (with_reducible refine below_drewN ?_ _) | (with_reducible refine Below.drew ?_) | (with_reducible refine Below.setCell ?_ ?_ _) | (with_reducible refine Below.trans ?_ (Below.mono (by assumption) ?_)) | go_size | (simp at *; omega)))⟩)

set_option maxRecDepth 100000 in
set_option maxHeartbeats 1600000 in
theorem uw_no (c : Cal) (u : Un) (w : World) (hn : c.name.size ≤ 100) (hl : u.lv = 5) (hE : ¬ unitE c u = 0) :
    Calls Try.prog 6 #[calV c, unitV u] w fun e w' => e = .returned (.bool true) ∧ Below w.heap.size w w' := by
  have hE' : (unitE c u != 0) = true := by simpa using hE
  have HS := hide (show spV c u = ⟨0, 0⟩ by rw [spV, if_neg hE])
  have hl' : (u.lv != 5) = false := by simpa using hl
  clear hE hl
  simp only [calV, unitV]
  go_enter Try.func6, Try.ntmps6
  go_wp2_with fail
  refine (live16_any _).mono ?_
  rintro e w1 ⟨rfl, hb1⟩
  have hz1 : w.heap.size + 1 < w1.heap.size := by have := hb1.size; simp at this; omega
  have HB1 := hide (show Below w.heap.size w w1 by refine Below.trans ?_ (hb1.mono (by first | omega | (simp; done) | (simp; omega))); (repeat' (first | (with_reducible exact Below.refl _ _) | (with_reducible assumption) | (with_reducible refine Below.alloc ?_ ?_ _) | (with_reducible refine below_drewN ?_ _) | (with_reducible refine Below.drew ?_) | (with_reducible refine Below.setCell ?_ ?_ _) | (with_reducible refine Below.trans ?_ (Below.mono (by assumption) ?_)) | go_size | (simp at *; omega))))
  have HQ1 := hide (calAt_below hb1 (by simp; omega) (calAt_alloc (calAt_new w c) (by simp) _))
  have HU1 := hide (unAt_below hb1 (by simp) (unAt_new w c u))
  obtain ⟨q0, q1, q2, q3, q4, q5, q6, q7, q8, q9, q10, q11, q12, q13⟩ := HQ1.out
  obtain ⟨u0, u1, u2⟩ := HU1.out
  have hy1 : w.heap.size < w1.heap.size := by omega
  clear hb1
  go_wp2_with fail
  all_goals first
    | (exfalso; omega)
    | skip
  refine (uspan_any c u _ (by omega)).mono ?_
  rintro e w2 ⟨rfl, hb2⟩
  rw [HS.out]
  simp only [spanV]
  have hz2 : w.heap.size + 1 < w2.heap.size := by have := hb2.size; (try simp at this); omega
  have HB2 := hide (show Below w.heap.size w w2 by have hp := HB1.out; refine Below.trans ?_ (hb2.mono (by first | omega | (simp; done) | (simp; omega))); (repeat' (first | (with_reducible exact Below.refl _ _) | (with_reducible assumption) | (with_reducible refine Below.alloc ?_ ?_ _) | (with_reducible refine below_drewN ?_ _) | (with_reducible refine Below.drew ?_) | (with_reducible refine Below.setCell ?_ ?_ _) | (with_reducible refine Below.trans ?_ (Below.mono (by assumption) ?_)) | go_size | (simp at *; omega))))
  have HQ2 := hide (show CalAt w2 w.heap.size c from calAt_below hb2 (by first | omega | (simp; done) | (simp; omega)) (by first | exact HQ1.out | exact calAt_alloc HQ1.out (by omega) _ | exact calAt_alloc (calAt_alloc HQ1.out (by omega) _) (by simp; omega) _))
  clear q0 q1 q2 q3 q4 q5 q6 q7 q8 q9 q10 q11 q12 q13
  obtain ⟨q0, q1, q2, q3, q4, q5, q6, q7, q8, q9, q10, q11, q12, q13⟩ := HQ2.out
  have HU2 := hide (show UnAt w2 (w.heap.size + 1) u from unAt_below hb2 (by first | omega | (simp; done) | (simp; omega)) (by first | exact HU1.out | exact unAt_alloc HU1.out (by omega) _ | exact unAt_alloc (unAt_alloc HU1.out (by omega) _) (by simp; omega) _))
  clear u0 u1 u2
  obtain ⟨u0, u1, u2⟩ := HU2.out
  have hy2 : w.heap.size < w2.heap.size := by omega
  clear hb2
  clear q0 q1 q2 q3 q4 q5 q6 q7 q8 q9 q10 q11 q12 q13
  have hBel := HB2.out
  go_wp2
  all_goals first
    | (exfalso; omega)
    | (go_ret; exact ⟨ret_bool (by simp [spB]), by (repeat' (first | (with_reducible exact Below.refl _ _) | (with_reducible assumption) | (with_reducible refine Below.alloc ?_ ?_ _) | (with_reducible refine below_drewN ?_ _) | (with_reducible refine Below.drew ?_) | (with_reducible refine Below.setCell ?_ ?_ _) | (with_reducible refine Below.trans ?_ (Below.mono (by assumption) ?_)) | go_size | (simp at *; omega)))⟩)

set_option maxRecDepth 100000 in
set_option maxHeartbeats 3200000 in
theorem uw_weeks (c : Cal) (u : Un) (w : World) (hn : c.name.size ≤ 100) (hl : u.lv = 5) (hE : unitE c u = 0) (hk6 : c.kind ≠ 6) :
    Calls Try.prog 6 #[calV c, unitV u] w fun e w' => e = .returned (.bool true) ∧ Below w.heap.size w w' := by
  obtain ⟨hf, hul1, hul5, hA, hx, hi⟩ := un_lv hE
  have hS := sp_get hE
  have hcA : cutA c u = uI u := by simp [cutA, cutN, hl]
  have hcB : cutB c u = uI u + 1 := by simp [cutB, cutN, hl]
  have hin : uI u < nWk c u.yr := by rw [hl, cnt_5] at hi; exact hi
  have hn60 := nWk_bd c u.yr hA
  have d1 := dayW_7 c u.yr hA hk6 (uI u) (Nat.le_of_lt hin)
  have d2 := dayW_7 c u.yr hA hk6 (uI u + 1) hin
  have hwd := start_wd c u.yr hA hk6
  have hyb := year_bd c u.yr hA
  have hisB := isB_dayW hf (uI u) hin
  rw [hcA, hcB, d1, d2] at hS
  rw [d1] at hisB
  obtain ⟨i, hiu⟩ : ∃ i, i = uI u := ⟨_, rfl⟩
  rw [← hiu] at hS hisB hin hx
  have HWD := hide (show wdV (startV c u.yr + 7 * (i : Int)) = c.day % 7 + 1 by unfold wdV; rw [if_pos hisB]; omega)
  have HWE := hide (show isE (startV c u.yr + 7 * (i : Int)) = 0 by simp [isE, hisB])
  have HS := hide hS
  have HE := hide hE
  have HA := hide hA
  have hl' : (u.lv != 5) = false := by simpa using hl
  have hk6' : (c.kind != 6) = true := by simpa using hk6
  have hdd := hwd.2
  clear hE hS hA hcA hcB d1 d2 hwd hisB hl hk6 hf hi hiu
  have HX := hide hx
  clear hx
  simp only [calV, unitV]
  go_enter Try.func6, Try.ntmps6
  go_wp2_with fail
  refine (live16_any _).mono ?_
  rintro e w1 ⟨rfl, hb1⟩
  have hz1 : w.heap.size + 1 < w1.heap.size := by have := hb1.size; simp at this; omega
  have HB1 := hide (show Below w.heap.size w w1 by refine Below.trans ?_ (hb1.mono (by first | omega | (simp; done) | (simp; omega))); (repeat' (first | (with_reducible exact Below.refl _ _) | (with_reducible assumption) | (with_reducible refine Below.alloc ?_ ?_ _) | (with_reducible refine below_drewN ?_ _) | (with_reducible refine Below.drew ?_) | (with_reducible refine Below.setCell ?_ ?_ _) | (with_reducible refine Below.trans ?_ (Below.mono (by assumption) ?_)) | go_size | (simp at *; omega))))
  have HQ1 := hide (calAt_below hb1 (by simp; omega) (calAt_alloc (calAt_new w c) (by simp) _))
  have HU1 := hide (unAt_below hb1 (by simp) (unAt_new w c u))
  obtain ⟨q0, q1, q2, q3, q4, q5, q6, q7, q8, q9, q10, q11, q12, q13⟩ := HQ1.out
  obtain ⟨u0, u1, u2⟩ := HU1.out
  have hy1 : w.heap.size < w1.heap.size := by omega
  clear hb1
  go_wp2_with fail
  all_goals first
    | (exfalso; omega)
    | skip
  refine (uspan_any c u _ (by omega)).mono ?_
  rintro e w2 ⟨rfl, hb2⟩
  rw [HE.out, HS.out]
  simp only [spanV]
  have hz2 : w.heap.size + 1 < w2.heap.size := by have := hb2.size; (try simp at this); omega
  have HB2 := hide (show Below w.heap.size w w2 by have hp := HB1.out; refine Below.trans ?_ (hb2.mono (by first | omega | (simp; done) | (simp; omega))); (repeat' (first | (with_reducible exact Below.refl _ _) | (with_reducible assumption) | (with_reducible refine Below.alloc ?_ ?_ _) | (with_reducible refine below_drewN ?_ _) | (with_reducible refine Below.drew ?_) | (with_reducible refine Below.setCell ?_ ?_ _) | (with_reducible refine Below.trans ?_ (Below.mono (by assumption) ?_)) | go_size | (simp at *; omega))))
  have HQ2 := hide (show CalAt w2 w.heap.size c from calAt_below hb2 (by first | omega | (simp; done) | (simp; omega)) (by first | exact HQ1.out | exact calAt_alloc HQ1.out (by omega) _ | exact calAt_alloc (calAt_alloc HQ1.out (by omega) _) (by simp; omega) _))
  clear q0 q1 q2 q3 q4 q5 q6 q7 q8 q9 q10 q11 q12 q13
  obtain ⟨q0, q1, q2, q3, q4, q5, q6, q7, q8, q9, q10, q11, q12, q13⟩ := HQ2.out
  have HU2 := hide (show UnAt w2 (w.heap.size + 1) u from unAt_below hb2 (by first | omega | (simp; done) | (simp; omega)) (by first | exact HU1.out | exact unAt_alloc HU1.out (by omega) _ | exact unAt_alloc (unAt_alloc HU1.out (by omega) _) (by simp; omega) _))
  clear u0 u1 u2
  obtain ⟨u0, u1, u2⟩ := HU2.out
  have hy2 : w.heap.size < w2.heap.size := by omega
  clear hb2
  go_wp2_with fail
  all_goals first
    | (exfalso; omega)
    | skip
  refine (start_any c u.yr _ (by omega)).mono ?_
  rintro e w3 ⟨rfl, hb3⟩
  rw [HA.out]
  have HS3 := hide (show SpAt w3 w2.heap.size ⟨startV c u.yr + 7 * (i : Int), startV c u.yr + 7 * ((i + 1 : Nat) : Int) - 1⟩ from spAt_below hb3 (by simp) (spAt_fresh w2 ⟨startV c u.yr + 7 * (i : Int), startV c u.yr + 7 * ((i + 1 : Nat) : Int) - 1⟩))
  have hS3 : w2.heap.size < w3.heap.size := by have := hb3.size; (try simp at this); omega
  have hz3 : w.heap.size + 1 < w3.heap.size := by have := hb3.size; (try simp at this); omega
  have HB3 := hide (show Below w.heap.size w w3 by have hp := HB2.out; refine Below.trans ?_ (hb3.mono (by first | omega | (simp; done) | (simp; omega))); (repeat' (first | (with_reducible exact Below.refl _ _) | (with_reducible assumption) | (with_reducible refine Below.alloc ?_ ?_ _) | (with_reducible refine below_drewN ?_ _) | (with_reducible refine Below.drew ?_) | (with_reducible refine Below.setCell ?_ ?_ _) | (with_reducible refine Below.trans ?_ (Below.mono (by assumption) ?_)) | go_size | (simp at *; omega))))
  have HQ3 := hide (show CalAt w3 w.heap.size c from calAt_below hb3 (by first | omega | (simp; done) | (simp; omega)) (by first | exact HQ2.out | exact calAt_alloc HQ2.out (by omega) _ | exact calAt_alloc (calAt_alloc HQ2.out (by omega) _) (by simp; omega) _))
  clear q0 q1 q2 q3 q4 q5 q6 q7 q8 q9 q10 q11 q12 q13
  obtain ⟨q0, q1, q2, q3, q4, q5, q6, q7, q8, q9, q10, q11, q12, q13⟩ := HQ3.out
  have HU3 := hide (show UnAt w3 (w.heap.size + 1) u from unAt_below hb3 (by first | omega | (simp; done) | (simp; omega)) (by first | exact HU2.out | exact unAt_alloc HU2.out (by omega) _ | exact unAt_alloc (unAt_alloc HU2.out (by omega) _) (by simp; omega) _))
  clear u0 u1 u2
  obtain ⟨u0, u1, u2⟩ := HU3.out
  have hy3 : w.heap.size < w3.heap.size := by omega
  clear hb3
  obtain ⟨t0, t1⟩ := HS3.out
  go_wp2_with fail
  refine (weekday_any _ _).mono ?_
  rintro e w' ⟨rfl, rfl⟩
  rw [HWD.out, HWE.out]
  have hBel := HB3.out
  have hx := HX.out
  go_wp2
  all_goals first
    | (exfalso; omega)
    | (go_ret; exact ⟨ret_bool (by simp; try omega), by (repeat' (first | (with_reducible exact Below.refl _ _) | (with_reducible assumption) | (with_reducible refine Below.alloc ?_ ?_ _) | (with_reducible refine below_drewN ?_ _) | (with_reducible refine Below.drew ?_) | (with_reducible refine Below.setCell ?_ ?_ _) | (with_reducible refine Below.trans ?_ (Below.mono (by assumption) ?_)) | go_size | (simp at *; omega)))⟩)
    | skip

set_option maxRecDepth 100000 in
set_option maxHeartbeats 3200000 in
theorem uw_months (c : Cal) (u : Un) (w : World) (hn : c.name.size ≤ 100) (hl : u.lv = 5) (hE : unitE c u = 0) (hk6 : c.kind = 6) :
    Calls Try.prog 6 #[calV c, unitV u] w fun e w' => e = .returned (.bool true) ∧ Below w.heap.size w w' := by
  obtain ⟨hf, hul1, hul5, hA, hx, hi⟩ := un_lv hE
  obtain ⟨k, e0, e1, e2, e3, e4⟩ := up_facts (lv := 4) hE (by omega) (by omega)
  have hf4 := frame_lv hf 4 (by omega) (by omega)
  have hS := sp_get hE
  have hcA : cutA c u = uI u := by simp [cutA, cutN, hl]
  have hcB : cutB c u = uI u + 1 := by simp [cutB, cutN, hl]
  have hin : uI u < nWk c u.yr := by rw [hl, cnt_5] at hi; exact hi
  have c4 : ∀ j, cutN c u.yr 4 j = cumW c u.yr j := fun j => by simp [cutN, pcut]
  have hk : k < nPer c u.yr := by rw [cnt_4] at e2; exact e2
  rw [hcA, c4] at e3
  rw [hcB, c4] at e4
  have hwk := week_in hA (uI u) k hk e3 (by omega)
  have hT := sp_mk hf4 k e2
  have hUE := (un_mk hf4 k e2).1
  have hg := (dayW_get c u.yr hA (uI u) hin).2
  rw [c4, c4] at hT
  rw [hcA, hcB] at hS
  have hb1 := dayW_le c u.yr hA (Nat.zero_le (uI u)) (Nat.le_of_lt hin)
  have hb2 := dayW_le c u.yr hA (show uI u + 1 ≤ nWk c u.yr from hin) (Nat.le_refl _)
  have hb3 := dayW_le c u.yr hA (Nat.zero_le (cumW c u.yr k)) (by omega)
  have hb4 := dayW_le c u.yr hA e3 (Nat.le_of_lt hin)
  rw [dayW_0] at hb1 hb3
  rw [dayW_end c u.yr hA] at hb2
  have hyb := year_bd c u.yr hA
  have HUP := hide (And.intro e0 e1)
  obtain ⟨sa, hsa⟩ : ∃ x, x = dayW c u.yr (uI u) := ⟨_, rfl⟩
  obtain ⟨sb, hsb⟩ : ∃ x, x = dayW c u.yr (uI u + 1) := ⟨_, rfl⟩
  obtain ⟨ta, hta⟩ : ∃ x, x = dayW c u.yr (cumW c u.yr k) := ⟨_, rfl⟩
  obtain ⟨tb, htb⟩ : ∃ x, x = dayW c u.yr (cumW c u.yr (k + 1)) := ⟨_, rfl⟩
  rw [← hsa, ← hsb] at hS hwk hg
  rw [← hta, ← htb] at hT hwk
  rw [← hsa] at hb1 hb4
  rw [← hsb] at hb2
  rw [← hta] at hb3 hb4
  have htb2 : 0 ≤ tb ∧ tb ≤ 3068038 := by
    have h1 := dayW_le c u.yr hA (Nat.zero_le (cumW c u.yr (k + 1))) (cumW_le c u.yr (show k + 1 ≤ nPer c u.yr from hk))
    have h2 := dayW_le c u.yr hA (cumW_le c u.yr (show k + 1 ≤ nPer c u.yr from hk)) (show cumW c u.yr (nPer c u.yr) ≤ nWk c u.yr from Nat.le_refl _)
    rw [dayW_0] at h1
    rw [show cumW c u.yr (nPer c u.yr) = nWk c u.yr from rfl, dayW_end c u.yr hA] at h2
    omega
  have HS := hide hS
  have HT := hide hT
  have HUE := hide hUE
  have HE := hide hE
  have HWK := hide hwk
  have hm7 := hwk.1
  have hl' : (u.lv != 5) = false := by simpa using hl
  have hk6' : (c.kind != 6) = false := by simp [hk6]
  have hbnd : 0 ≤ sa ∧ sa < sb ∧ sb ≤ sa + 7 ∧ sb ≤ 3068038 ∧ 0 ≤ ta ∧ ta ≤ sa := by omega
  clear hE hS hT hUE hA hcA hcB hl hk6 hf hi e0 e1 e2 e3 e4 hf4 c4 hin hk hwk hg hb1 hb2 hb3 hb4 hsa hsb hta htb hx hul1 hul5 hyb
  simp only [calV, unitV]
  go_enter Try.func6, Try.ntmps6
  go_wp2_with fail
  refine (live16_any _).mono ?_
  rintro e w1 ⟨rfl, hb1⟩
  have hz1 : w.heap.size + 1 < w1.heap.size := by have := hb1.size; simp at this; omega
  have HB1 := hide (show Below w.heap.size w w1 by refine Below.trans ?_ (hb1.mono (by first | omega | (simp; done) | (simp; omega))); (repeat' (first | (with_reducible exact Below.refl _ _) | (with_reducible assumption) | (with_reducible refine Below.alloc ?_ ?_ _) | (with_reducible refine below_drewN ?_ _) | (with_reducible refine Below.drew ?_) | (with_reducible refine Below.setCell ?_ ?_ _) | (with_reducible refine Below.trans ?_ (Below.mono (by assumption) ?_)) | go_size | (simp at *; omega))))
  have HQ1 := hide (calAt_below hb1 (by simp; omega) (calAt_alloc (calAt_new w c) (by simp) _))
  have HU1 := hide (unAt_below hb1 (by simp) (unAt_new w c u))
  obtain ⟨q0, q1, q2, q3, q4, q5, q6, q7, q8, q9, q10, q11, q12, q13⟩ := HQ1.out
  obtain ⟨u0, u1, u2⟩ := HU1.out
  have hy1 : w.heap.size < w1.heap.size := by omega
  clear hb1
  go_wp2_with fail
  all_goals first
    | (exfalso; omega)
    | skip
  refine (uspan_any c u _ (by omega)).mono ?_
  rintro e w2 ⟨rfl, hb2⟩
  rw [HE.out, HS.out]
  simp only [spanV]
  have hz2 : w.heap.size + 1 < w2.heap.size := by have := hb2.size; (try simp at this); omega
  have HB2 := hide (show Below w.heap.size w w2 by have hp := HB1.out; refine Below.trans ?_ (hb2.mono (by first | omega | (simp; done) | (simp; omega))); (repeat' (first | (with_reducible exact Below.refl _ _) | (with_reducible assumption) | (with_reducible refine Below.alloc ?_ ?_ _) | (with_reducible refine below_drewN ?_ _) | (with_reducible refine Below.drew ?_) | (with_reducible refine Below.setCell ?_ ?_ _) | (with_reducible refine Below.trans ?_ (Below.mono (by assumption) ?_)) | go_size | (simp at *; omega))))
  have HQ2 := hide (show CalAt w2 w.heap.size c from calAt_below hb2 (by first | omega | (simp; done) | (simp; omega)) (by first | exact HQ1.out | exact calAt_alloc HQ1.out (by omega) _ | exact calAt_alloc (calAt_alloc HQ1.out (by omega) _) (by simp; omega) _))
  clear q0 q1 q2 q3 q4 q5 q6 q7 q8 q9 q10 q11 q12 q13
  obtain ⟨q0, q1, q2, q3, q4, q5, q6, q7, q8, q9, q10, q11, q12, q13⟩ := HQ2.out
  have HU2 := hide (show UnAt w2 (w.heap.size + 1) u from unAt_below hb2 (by first | omega | (simp; done) | (simp; omega)) (by first | exact HU1.out | exact unAt_alloc HU1.out (by omega) _ | exact unAt_alloc (unAt_alloc HU1.out (by omega) _) (by simp; omega) _))
  clear u0 u1 u2
  obtain ⟨u0, u1, u2⟩ := HU2.out
  have hy2 : w.heap.size < w2.heap.size := by omega
  clear hb2
  go_wp2_with fail
  all_goals first
    | (exfalso; omega)
    | skip
  refine (up_any c u 4 _ (by omega)).mono ?_
  rintro e w3 ⟨rfl, hb3⟩
  rw [HUP.out.1, HUP.out.2]
  simp only [unitV]
  have HS3 := hide (show SpAt w3 w2.heap.size ⟨sa, sb - 1⟩ from spAt_below hb3 (by simp) (spAt_fresh w2 ⟨sa, sb - 1⟩))
  have hS3 : w2.heap.size < w3.heap.size := by have := hb3.size; (try simp at this); omega
  have hz3 : w.heap.size + 1 < w3.heap.size := by have := hb3.size; (try simp at this); omega
  have HB3 := hide (show Below w.heap.size w w3 by have hp := HB2.out; refine Below.trans ?_ (hb3.mono (by first | omega | (simp; done) | (simp; omega))); (repeat' (first | (with_reducible exact Below.refl _ _) | (with_reducible assumption) | (with_reducible refine Below.alloc ?_ ?_ _) | (with_reducible refine below_drewN ?_ _) | (with_reducible refine Below.drew ?_) | (with_reducible refine Below.setCell ?_ ?_ _) | (with_reducible refine Below.trans ?_ (Below.mono (by assumption) ?_)) | go_size | (simp at *; omega))))
  have HQ3 := hide (show CalAt w3 w.heap.size c from calAt_below hb3 (by first | omega | (simp; done) | (simp; omega)) (by first | exact HQ2.out | exact calAt_alloc HQ2.out (by omega) _ | exact calAt_alloc (calAt_alloc HQ2.out (by omega) _) (by simp; omega) _))
  clear q0 q1 q2 q3 q4 q5 q6 q7 q8 q9 q10 q11 q12 q13
  obtain ⟨q0, q1, q2, q3, q4, q5, q6, q7, q8, q9, q10, q11, q12, q13⟩ := HQ3.out
  have HU3 := hide (show UnAt w3 (w.heap.size + 1) u from unAt_below hb3 (by first | omega | (simp; done) | (simp; omega)) (by first | exact HU2.out | exact unAt_alloc HU2.out (by omega) _ | exact unAt_alloc (unAt_alloc HU2.out (by omega) _) (by simp; omega) _))
  clear u0 u1 u2
  obtain ⟨u0, u1, u2⟩ := HU3.out
  have hy3 : w.heap.size < w3.heap.size := by omega
  clear hb3
  go_wp2_with fail
  refine (uspan_any c ⟨4, u.yr, (k : Int) + 1⟩ _ (by omega)).mono ?_
  rintro e w4 ⟨rfl, hb4⟩
  rw [HUE.out, HT.out]
  simp only [spanV]
  have HS4 := hide (show SpAt w4 w2.heap.size ⟨sa, sb - 1⟩ from spAt_below hb4 (by first | omega | (simp; done) | (simp; omega)) (by first | exact HS3.out | exact spAt_alloc HS3.out (by omega) _ | exact spAt_alloc (spAt_alloc HS3.out (by omega) _) (by simp; omega) _))
  have hS4 : w2.heap.size < w4.heap.size := by have := hb4.size; (try simp at this); omega
  have hz4 : w.heap.size + 1 < w4.heap.size := by have := hb4.size; (try simp at this); omega
  have HB4 := hide (show Below w.heap.size w w4 by have hp := HB3.out; refine Below.trans ?_ (hb4.mono (by first | omega | (simp; done) | (simp; omega))); (repeat' (first | (with_reducible exact Below.refl _ _) | (with_reducible assumption) | (with_reducible refine Below.alloc ?_ ?_ _) | (with_reducible refine below_drewN ?_ _) | (with_reducible refine Below.drew ?_) | (with_reducible refine Below.setCell ?_ ?_ _) | (with_reducible refine Below.trans ?_ (Below.mono (by assumption) ?_)) | go_size | (simp at *; omega))))
  have HQ4 := hide (show CalAt w4 w.heap.size c from calAt_below hb4 (by first | omega | (simp; done) | (simp; omega)) (by first | exact HQ3.out | exact calAt_alloc HQ3.out (by omega) _ | exact calAt_alloc (calAt_alloc HQ3.out (by omega) _) (by simp; omega) _))
  clear q0 q1 q2 q3 q4 q5 q6 q7 q8 q9 q10 q11 q12 q13
  obtain ⟨q0, q1, q2, q3, q4, q5, q6, q7, q8, q9, q10, q11, q12, q13⟩ := HQ4.out
  have HU4 := hide (show UnAt w4 (w.heap.size + 1) u from unAt_below hb4 (by first | omega | (simp; done) | (simp; omega)) (by first | exact HU3.out | exact unAt_alloc HU3.out (by omega) _ | exact unAt_alloc (unAt_alloc HU3.out (by omega) _) (by simp; omega) _))
  clear u0 u1 u2
  obtain ⟨u0, u1, u2⟩ := HU4.out
  have hy4 : w.heap.size < w4.heap.size := by omega
  clear hb4
  obtain ⟨t0, t1⟩ := HS4.out
  have hBel := HB4.out
  rcases HWK.out.2 with h7 | h7
  · subst h7
    go_wp2
    all_goals first
      | (exfalso; omega)
      | (go_ret; exact ⟨ret_bool (by simp; try omega), by (repeat' (first | (with_reducible exact Below.refl _ _) | (with_reducible assumption) | (with_reducible refine Below.alloc ?_ ?_ _) | (with_reducible refine below_drewN ?_ _) | (with_reducible refine Below.drew ?_) | (with_reducible refine Below.setCell ?_ ?_ _) | (with_reducible refine Below.trans ?_ (Below.mono (by assumption) ?_)) | go_size | (simp at *; omega)))⟩)
      | skip
  · subst h7
    go_wp2
    all_goals first
      | (exfalso; omega)
      | (go_ret; exact ⟨ret_bool (by simp; try omega), by (repeat' (first | (with_reducible exact Below.refl _ _) | (with_reducible assumption) | (with_reducible refine Below.alloc ?_ ?_ _) | (with_reducible refine below_drewN ?_ _) | (with_reducible refine Below.drew ?_) | (with_reducible refine Below.setCell ?_ ?_ _) | (with_reducible refine Below.trans ?_ (Below.mono (by assumption) ?_)) | go_size | (simp at *; omega)))⟩)
      | skip

theorem uw_walk (c : Cal) (hn : c.name.size ≤ 9223372036854775807) (u : Un) (w : World) :
    Calls Try.prog 6 #[calV c, unitV u] w fun e w' => e = .returned (.bool true) ∧ Below w.heap.size w w' := by
  by_cases h : 100 < c.name.size
  · exact uw_long c u w h hn
  · by_cases hl : u.lv = 5
    · by_cases hE : unitE c u = 0
      · by_cases hk6 : c.kind = 6
        · exact uw_months c u w (by omega) hl hE hk6
        · exact uw_weeks c u w (by omega) hl hE hk6
      · exact uw_no c u w (by omega) hl hE
    · exact uw_other c u w (by omega) hl
end Go.Proofs.Ytepmfpgljcbkmaa
