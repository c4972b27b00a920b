/- The walk of ShapeWeeks. -/
import Derived.Test.YtcmdcgmpdjjgcaaAdded
import Derived.Test.YtcmdcgmpdjjgcaaLive15
namespace Go.Proofs.Ytcmdcgmpdjjgcaa
open Go.RowKit Qd
set_option linter.unusedSimpArgs false
set_option linter.unusedVariables false

set_option maxRecDepth 100000 in
set_option maxHeartbeats 1600000 in
theorem sw_long (c : Cal) (y : Int) (w : World) (hn : 100 < c.name.size) (hm : c.name.size ≤ 9223372036854775807) :
    Calls Try.prog 6 #[calV c, .int .i64 y] w fun e w' => e = .returned (.bool true) ∧ Below w.heap.size w w' := by
  simp only [calV]
  go_enter Try.func6, Try.ntmps6
  go_wp2_with fail
  refine (live15_any _).mono ?_
  rintro e w1 ⟨rfl, hb1⟩
  obtain ⟨hc, hf⟩ := bcell hb1
  go_wp2
  all_goals first
    | (exfalso; omega)
    | (go_ret; refine ⟨rfl, ?_⟩; refine Below.trans ?_ (hb1.mono (by simp)); (repeat' (first | (with_reducible exact Below.refl _ _) | (with_reducible assumption) | (with_reducible refine Below.alloc ?_ ?_ _) | (with_reducible refine below_drewN ?_ _) | (with_reducible refine Below.drew ?_) | (with_reducible refine Below.setCell ?_ ?_ _) | (with_reducible refine Below.trans ?_ (Below.mono (by assumption) ?_)) | go_size | (simp at *; omega))))

set_option maxRecDepth 100000 in
set_option maxHeartbeats 1600000 in
theorem sw_month (c : Cal) (y : Int) (w : World) (hn : c.name.size ≤ 100) (hk : c.kind = 6) :
    Calls Try.prog 6 #[calV c, .int .i64 y] w fun e w' => e = .returned (.bool true) ∧ Below w.heap.size w w' := by
  have hk' : (c.kind == 6) = true := by simp [hk]
  clear hk
  simp only [calV]
  go_enter Try.func6, Try.ntmps6
  go_wp2_with fail
  refine (live15_any _).mono ?_
  rintro e w1 ⟨rfl, hb1⟩
  obtain ⟨hc, hf⟩ := bcell hb1
  go_wp2
  all_goals first
    | (exfalso; omega)
    | (go_ret; refine ⟨rfl, ?_⟩; refine Below.trans ?_ (hb1.mono (by simp)); (repeat' (first | (with_reducible exact Below.refl _ _) | (with_reducible assumption) | (with_reducible refine Below.alloc ?_ ?_ _) | (with_reducible refine below_drewN ?_ _) | (with_reducible refine Below.drew ?_) | (with_reducible refine Below.setCell ?_ ?_ _) | (with_reducible refine Below.trans ?_ (Below.mono (by assumption) ?_)) | go_size | (simp at *; omega))))

set_option maxRecDepth 100000 in
set_option maxHeartbeats 1600000 in
theorem sw_no (c : Cal) (y : Int) (w : World) (hn : c.name.size ≤ 100) (hk : c.kind ≠ 6) (hE : ¬ askE c y 1601 = 0) :
    Calls Try.prog 6 #[calV c, .int .i64 y] w fun e w' => e = .returned (.bool true) ∧ Below w.heap.size w w' := by
  have hE' : (askE c y 1601 != 0) = true := by simpa using hE
  have hk' : (c.kind == 6) = false := by simp [hk]
  have hw : wksE c y = askE c y 1601 := by
    unfold wksE askE wksB
    cases h : c.okB <;> simp [hk]
  have HE := hide hE
  have HWE := hide hw
  clear hE hk hw
  simp only [calV]
  go_enter Try.func6, Try.ntmps6
  go_wp2_with fail
  refine (live15_any _).mono ?_
  rintro e w1 ⟨rfl, hb1⟩
  have hz1 : w.heap.size < w1.heap.size := by have := hb1.size; simp at this; omega
  have HB1 := hide (Below.trans ((Below.refl _ _).alloc (Nat.le_refl _) _) (hb1.mono (by simp)) : Below w.heap.size w w1)
  have HQ := hide (calAt_below hb1 (by simp) (calAt_new w c))
  obtain ⟨q0, q1, q2, q3, q4, q5, q6, q7, q8, q9, q10, q11, q12, q13⟩ := HQ.out
  clear hb1
  go_wp2_with fail
  all_goals first
    | (exfalso; omega)
    | skip
  refine (sweeks_no c y _ (by omega) HE.out).mono ?_
  rintro e w2 ⟨rfl, hb2⟩
  clear q0 q1 q2 q3 q4 q5 q6 q7 q8 q9 q10 q11 q12 q13
  have HQ2 := hide (calAt_below hb2 hz1 HQ.out)
  obtain ⟨q0, q1, q2, q3, q4, q5, q6, q7, q8, q9, q10, q11, q12, q13⟩ := HQ2.out
  have hz2 : w.heap.size < w2.heap.size := Nat.lt_of_lt_of_le hz1 hb2.size
  have HB2 := hide (HB1.out.trans (hb2.mono (Nat.le_of_lt hz1)))
  clear hb2
  go_wp2_with fail
  refine (aweeks_any c y _ (by omega)).mono ?_
  rintro e w3 ⟨rfl, hb3⟩
  rw [HWE.out]
  clear q0 q1 q2 q3 q4 q5 q6 q7 q8 q9 q10 q11 q12 q13
  have HQ3 := hide (calAt_below hb3 hz2 HQ2.out)
  obtain ⟨q0, q1, q2, q3, q4, q5, q6, q7, q8, q9, q10, q11, q12, q13⟩ := HQ3.out
  have hz3 : w.heap.size < w3.heap.size := Nat.lt_of_lt_of_le hz2 hb3.size
  have HB3 := hide (HB2.out.trans (hb3.mono (Nat.le_of_lt hz2)))
  clear hb3
  go_wp2_with fail
  refine (periods_any c _ (by omega)).mono ?_
  rintro e w4 ⟨rfl, hb4⟩
  clear q0 q1 q2 q3 q4 q5 q6 q7 q8 q9 q10 q11 q12 q13
  go_wp2
  go_ret
  exact ⟨rfl, HB3.out.trans (hb4.mono (Nat.le_of_lt hz3))⟩

/-- The weeks of broadcast months. -/
theorem broad_wk (c : Cal) (y : Int) (hE : askE c y 1601 = 0) (h4 : c.shape = 4) (k : Nat) (hk : k < 12) : wkAt c y k = 4 ∨ wkAt c y k = 5 := by
  obtain ⟨hok, hy1, hy2⟩ := ask_ok hE
  obtain ⟨s4, s6, _, _⟩ := ok_shape hok
  have hk4 : c.kind = 4 := s4.2 h4
  have eL : endsL c y = sunL y := by simp [endsL, h4]
  have eA : endAt c y k = lastV y ((k : Int) + 1) 7 := by unfold endAt; rw [eL]; simp [sunL, sunF, hk]
  have eF : fromAt c y k = (if k = 0 then lastV (y - 1) 12 7 else lastV y (k : Int) 7) + 1 := by
    unfold fromAt
    split
    · obtain ⟨_, _, _, hr⟩ := hok
      unfold Cal.ruled Cal.weeks weeksP Cal.pat0 at hr
      have hm : c.month = 12 ∧ c.day = 7 ∧ c.shift = 0 := by omega
      have ht : thereB (y - 1) 12 = true := by simp [thereB]; omega
      have e1 : y - 1 + c.shift = y - 1 := by omega
      rw [last_eq (y - 1) 12 ht]
      simp [startV, hE, finV, hk4, e1, hm.1, hm.2.1]
    · rename_i h0
      rw [eL]
      have e1 : ((k - 1 : Nat) : Int) + 1 = k := by omega
      simp [sunL, sunF, show k - 1 < 12 by omega, e1]
  unfold wkAt
  rw [eA, eF]
  split
  · rename_i h0
    subst h0
    have := last_year (y - 1) (by omega) (by omega)
    have e1 : y - 1 + 1 = y := by omega
    rw [e1] at this
    simp
    omega
  · have := last_next y k (by omega) (by omega) (by omega) (by omega)
    omega
/-- The weeks of a year of weeks but broadcast ones. -/
theorem week_wk (c : Cal) (y : Int) (hE : askE c y 1601 = 0) (h4 : ¬ c.shape = 4) (h5 : ¬ c.shape = 5) (k : Nat) (hk : k < (endsL c y).length) :
    wkAt c y k = lenAt c (wksV c y) k := by
  obtain ⟨hok, hy1, hy2⟩ := ask_ok hE
  have eL : endsL c y = (List.range (perV c).toNat).map fun i => wkDay c y (i + 1) - 1 := by simp [endsL, h4, h5]
  rw [eL] at hk
  simp at hk
  have eA : ∀ j : Nat, (j : Int) < perV c → endAt c y j = wkDay c y (j + 1) - 1 := by
    intro j hj
    unfold endAt
    rw [eL]
    simp [hj]
  have eF : fromAt c y k = wkDay c y k := by
    cases k with
    | zero => simp [fromAt, wkDay]
    | succ k => rw [from_succ, eA k (by omega)]; omega
  have hst : wkDay c y (k + 1) = wkDay c y k + 7 * lenAt c (wksV c y) k := rfl
  unfold wkAt
  rw [eA k hk, eF, hst]
  omega
theorem wk_sum (c : Cal) (y : Int) (hE : askE c y 1601 = 0) (hk6 : c.kind ≠ 6) (k : Nat) (hk : k < (endsL c y).length) : fromAt c y (k + 1) = fromAt c y k + 7 * wkAt c y k := by
  have := (period_1 c y hE k hk).2.2 hk6
  rw [from_succ]
  unfold wkAt
  omega

set_option maxRecDepth 100000 in
set_option maxHeartbeats 6400000 in
theorem sw_yes (c : Cal) (y : Int) (w : World) (hn : c.name.size ≤ 100) (hk6 : c.kind ≠ 6) (hE : askE c y 1601 = 0) :
    Calls Try.prog 6 #[calV c, .int .i64 y] w fun e w' => e = .returned (.bool true) ∧ Below w.heap.size w w' := by
  have HW := hide (weeks_len c y)
  have hle := last_end c y hE
  have HLE := hide hle.1
  have hok := (ask_ok hE).1
  have hok2 : c.okB = true := by simpa [Cal.okB] using hok
  have hk' : (c.kind == 6) = false := by simp [hk6]
  have hdw := days_weeks c y hE hk6
  have hwv : wksV c y = daysV c y / 7 := by simp [wksV, wksB, hok2, hk6]
  have hwE : wksE c y = 0 := by simp [wksE, wksB, hok2, hk6, hE]
  have hD : daysV c y = endV c y - startV c y + 1 := by simp [daysV, hE]
  have hoE : okE c = 0 := by simp [okE, hok2]
  have hsum : fromAt c y (endsL c y).length = startV c y + 7 * wksV c y := by omega
  have HSUM := hide hsum
  have HWE := hide hwE
  have HOE := hide hoE
  have hn53 : wksV c y = 52 ∨ wksV c y = 53 := by omega
  have H53 := hide hn53
  have HPN := hide (ends_len c y hok2)
  have HK := hide (fun k hk => wk_sum c y hE hk6 k hk)
  have HP := hide (fun k hk => period_1 c y hE k hk)
  have HBR := hide (fun h4 k hk => broad_wk c y hE h4 k hk)
  obtain ⟨s4, s6, hs1, hs5⟩ := ok_shape hok
  have hs5' : ¬ c.shape = 5 := fun h => hk6 (s6.2 h)
  have HWW := hide (fun h4 k hk => week_wk c y hE h4 hs5' k hk)
  have H4N := hide (show c.shape = 4 → (endsL c y).length = 12 by intro h4; simp [endsL, h4, sun_len])
  have hsh : c.shape = 1 ∨ c.shape = 2 ∨ c.shape = 3 ∨ c.shape = 4 := by omega
  have HSH := hide hsh
  have HF0 := hide (show fromAt c y 0 = startV c y by simp [fromAt])
  have HE := hide hE
  obtain ⟨n, hnn⟩ : ∃ n, n = (endsL c y).length := ⟨_, rfl⟩
  have HN := hide hnn
  have hn52 : 12 ≤ n ∧ n ≤ 52 := by omega
  clear hE hle hnn hok hok2 hk6 hdw hwv hwE hD hoE hsum hn53 s4 s6 hs1 hs5 hs5' hsh
  simp only [calV]
  go_enter Try.func6, Try.ntmps6
  go_wp2_with fail
  refine (live15_any _).mono ?_
  rintro e w1 ⟨rfl, hb1⟩
  have hz1 : w.heap.size < w1.heap.size := by have := hb1.size; simp at this; omega
  have HB1 := hide (Below.trans ((Below.refl _ _).alloc (Nat.le_refl _) _) (hb1.mono (by simp)) : Below w.heap.size w w1)
  have HQ := hide (calAt_below hb1 (by simp) (calAt_new w c))
  obtain ⟨q0, q1, q2, q3, q4, q5, q6, q7, q8, q9, q10, q11, q12, q13⟩ := HQ.out
  clear hb1
  go_wp2_with fail
  all_goals first
    | (exfalso; omega)
    | skip
  refine (sweeks_any c y _ (by omega) HE.out).mono ?_
  rintro e w2 ⟨g, hg, rfl, hI, hb2⟩
  clear q0 q1 q2 q3 q4 q5 q6 q7 q8 q9 q10 q11 q12 q13
  have HQ2 := hide (calAt_below hb2 hz1 HQ.out)
  obtain ⟨q0, q1, q2, q3, q4, q5, q6, q7, q8, q9, q10, q11, q12, q13⟩ := HQ2.out
  have hz2 : w.heap.size < w2.heap.size := Nat.lt_of_lt_of_le hz1 hb2.size
  have HB2 := hide (HB1.out.trans (hb2.mono (Nat.le_of_lt hz1)))
  have HI := hide hI
  clear hI hb2 hg
  rw [← HN.out]
  go_wp2_with fail
  refine (aweeks_any c y _ (by omega)).mono ?_
  rintro e w3 ⟨rfl, hb3⟩
  rw [HWE.out]
  clear q0 q1 q2 q3 q4 q5 q6 q7 q8 q9 q10 q11 q12 q13
  have HQ3 := hide (calAt_below hb3 hz2 HQ2.out)
  obtain ⟨q0, q1, q2, q3, q4, q5, q6, q7, q8, q9, q10, q11, q12, q13⟩ := HQ3.out
  have hz3 : w.heap.size < w3.heap.size := Nat.lt_of_lt_of_le hz2 hb3.size
  have HB3 := hide (HB2.out.trans (hb3.mono (Nat.le_of_lt hz2)))
  have HI3 := hide (HI.out.call hb3)
  clear hb3
  go_wp2_with fail
  refine (periods_any c _ (by omega)).mono ?_
  rintro e w4 ⟨rfl, hb4⟩
  rw [HOE.out, ← HPN.out, ← HN.out]
  clear q0 q1 q2 q3 q4 q5 q6 q7 q8 q9 q10 q11 q12 q13
  have HQ4 := hide (calAt_below hb4 hz3 HQ3.out)
  have hz4 : w.heap.size < w4.heap.size := Nat.lt_of_lt_of_le hz3 hb4.size
  have HB4 := hide (HB3.out.trans (hb4.mono (Nat.le_of_lt hz3)))
  have HI4 := hide (HI3.out.call hb4)
  clear hb4
  go_wp2_with fail
  go_loopw [11, 71] (fun s11 s wr => ∃ k : Nat, ∃ m : Int, s = .int .i64 k ∧ s11 = .int .i64 m ∧ fromAt c y k = startV c y + 7 * m ∧ 0 ≤ m ∧ m ≤ 10 * k ∧ k ≤ n ∧ Below w4.heap.size w4 wr) (fun _ s _ => (60 - intOf s).toNat)
  case atStart => exact ⟨0, 0, rfl, rfl, by rw [HF0.out]; omega, by omega, by omega, by omega, Below.refl _ _⟩
  case round =>
    obtain ⟨k, m, rfl, rfl, hm, hm0, hm1, hk, hB⟩ := hrel
    have HM := hide hm
    clear hm
    by_cases hlt : k < n
    · have hke : k < (endsL c y).length := by rw [← HN.out]; exact hlt
      have c2 : wr.cell? ⟨g, k, none⟩ = some (.int .i64 (wkAt c y k)) := by
        have := ((HI4.out).call hB).cell (k := k) (by rw [HW.out]; exact hke)
        simpa [weeksL, hke] using this
      have HQ5 := hide (calAt_below hB hz4 HQ4.out)
      have hp := HP.out k hke
      have hw1 : 1 ≤ wkAt c y k ∧ wkAt c y k ≤ 7 := by unfold wkAt; omega
      have HS : Hid (fromAt c y (k + 1) = startV c y + 7 * (m + wkAt c y k)) := by
        have := HK.out k hke
        have h2 := HM.out
        exact hide (by omega)
      clear hp
      rcases HSH.out with hs | hs | hs | hs
      · have e1 : (c.shape == 1) = true := by simp [hs]
        have e3 : (c.shape == 3) = false := by simp [hs]
        have e4 : (c.shape == 4) = false := by simp [hs]
        have hww := HWW.out (by omega) k hke
        unfold lenAt at hww
        have hpat : wr.cell? ⟨w.heap.size, 6 + k % 3, none⟩ = some (.int .i64 (patN c k)) := by
          obtain ⟨_, _, _, _, _, _, p0, p1, p2, _, _, _, _, _⟩ := HQ5.out
          have h3 : k % 3 = 0 ∨ k % 3 = 1 ∨ k % 3 = 2 := by omega
          rcases h3 with h3 | h3 | h3 <;> simp [h3, patN, pat0, pat1, pat2, hs] <;> assumption
        have hmod : ((k : Int) % 3).toNat = k % 3 := by omega
        have hmod1 : 0 ≤ (k : Int) % 3 := by omega
        have hmod2 : (k : Int) % 3 < 3 := by omega
        obtain ⟨q0, q1, q2, q3, q4, q5, q6, q7, q8, q9, q10, q11, q12, q13⟩ := HQ5.out
        have h53 := H53.out
        have hwb : wksV c y = 52 ∨ wksV c y = 53 := h53
        clear h53
        by_cases hx : (k : Int) + 1 = c.extra
        · have hxb : ((k : Int) + 1 == c.extra) = true := by simp [hx]
          rw [if_pos hx] at hww
          clear hx hs hke
          rcases hwb with h52 | h53
          · have h53b : (wksV c y == 53) = false := by simp [h52]
            have hwv : wkAt c y k = patN c k := by omega
            rw [hwv] at c2 hw1
            have HS2 : Hid (fromAt c y (k + 1) = startV c y + 7 * (m + (patN c k))) := hide (by rw [← hwv]; exact HS.out)
            clear hwv hww h52
            go_wp2
            exact ⟨⟨k + 1, m + (patN c k), by go_num, rfl, HS2.out, by omega, by omega, by omega, hB⟩, by simp [intOf]; omega⟩
          · have h53b : (wksV c y == 53) = true := by simp [h53]
            have hwv : wkAt c y k = patN c k + 1 := by omega
            rw [hwv] at c2 hw1
            have HS2 : Hid (fromAt c y (k + 1) = startV c y + 7 * (m + (patN c k + 1))) := hide (by rw [← hwv]; exact HS.out)
            clear hwv hww h53
            go_wp2
            exact ⟨⟨k + 1, m + (patN c k + 1), by go_num, rfl, HS2.out, by omega, by omega, by omega, hB⟩, by simp [intOf]; omega⟩
        · have hxb : ((k : Int) + 1 == c.extra) = false := by simp [hx]
          rw [if_neg hx] at hww
          have hwv : wkAt c y k = patN c k := by omega
          rw [hwv] at c2 hw1
          have HS2 : Hid (fromAt c y (k + 1) = startV c y + 7 * (m + (patN c k))) := hide (by rw [← hwv]; exact HS.out)
          clear hwv hww hx hs hke hwb
          go_wp2
          exact ⟨⟨k + 1, m + (patN c k), by go_num, rfl, HS2.out, by omega, by omega, by omega, hB⟩, by simp [intOf]; omega⟩
      · have e1 : (c.shape == 1) = false := by simp [hs]
        have e3 : (c.shape == 3) = false := by simp [hs]
        have e4 : (c.shape == 4) = false := by simp [hs]
        have hww := HWW.out (by omega) k hke
        unfold lenAt at hww
        have hpn : patN c k = 4 := by simp [patN, pat0, pat1, pat2, hs]
        rw [hpn] at hww
        clear hpn
        obtain ⟨q0, q1, q2, q3, q4, q5, q6, q7, q8, q9, q10, q11, q12, q13⟩ := HQ5.out
        have h53 := H53.out
        have hwb : wksV c y = 52 ∨ wksV c y = 53 := h53
        clear h53
        by_cases hx : (k : Int) + 1 = c.extra
        · have hxb : ((k : Int) + 1 == c.extra) = true := by simp [hx]
          rw [if_pos hx] at hww
          clear hx hs hke
          rcases hwb with h52 | h53
          · have h53b : (wksV c y == 53) = false := by simp [h52]
            have hwv : wkAt c y k = 4 := by omega
            rw [hwv] at c2 hw1
            have HS2 : Hid (fromAt c y (k + 1) = startV c y + 7 * (m + (4))) := hide (by rw [← hwv]; exact HS.out)
            clear hwv hww h52
            go_wp2
            exact ⟨⟨k + 1, m + (4), by go_num, rfl, HS2.out, by omega, by omega, by omega, hB⟩, by simp [intOf]; omega⟩
          · have h53b : (wksV c y == 53) = true := by simp [h53]
            have hwv : wkAt c y k = 4 + 1 := by omega
            rw [hwv] at c2 hw1
            have HS2 : Hid (fromAt c y (k + 1) = startV c y + 7 * (m + (4 + 1))) := hide (by rw [← hwv]; exact HS.out)
            clear hwv hww h53
            go_wp2
            exact ⟨⟨k + 1, m + (4 + 1), by go_num, rfl, HS2.out, by omega, by omega, by omega, hB⟩, by simp [intOf]; omega⟩
        · have hxb : ((k : Int) + 1 == c.extra) = false := by simp [hx]
          rw [if_neg hx] at hww
          have hwv : wkAt c y k = 4 := by omega
          rw [hwv] at c2 hw1
          have HS2 : Hid (fromAt c y (k + 1) = startV c y + 7 * (m + (4))) := hide (by rw [← hwv]; exact HS.out)
          clear hwv hww hx hs hke hwb
          go_wp2
          exact ⟨⟨k + 1, m + (4), by go_num, rfl, HS2.out, by omega, by omega, by omega, hB⟩, by simp [intOf]; omega⟩
      · have e1 : (c.shape == 1) = false := by simp [hs]
        have e3 : (c.shape == 3) = true := by simp [hs]
        have e4 : (c.shape == 4) = false := by simp [hs]
        have hww := HWW.out (by omega) k hke
        unfold lenAt at hww
        have hpn : patN c k = c.cycle := by simp [patN, pat0, pat1, pat2, hs]
        rw [hpn] at hww
        clear hpn
        obtain ⟨q0, q1, q2, q3, q4, q5, q6, q7, q8, q9, q10, q11, q12, q13⟩ := HQ5.out
        have h53 := H53.out
        have hwb : wksV c y = 52 ∨ wksV c y = 53 := h53
        clear h53
        by_cases hx : (k : Int) + 1 = c.extra
        · have hxb : ((k : Int) + 1 == c.extra) = true := by simp [hx]
          rw [if_pos hx] at hww
          clear hx hs hke
          rcases hwb with h52 | h53
          · have h53b : (wksV c y == 53) = false := by simp [h52]
            have hwv : wkAt c y k = c.cycle := by omega
            rw [hwv] at c2 hw1
            have HS2 : Hid (fromAt c y (k + 1) = startV c y + 7 * (m + (c.cycle))) := hide (by rw [← hwv]; exact HS.out)
            clear hwv hww h52
            go_wp2
            exact ⟨⟨k + 1, m + (c.cycle), by go_num, rfl, HS2.out, by omega, by omega, by omega, hB⟩, by simp [intOf]; omega⟩
          · have h53b : (wksV c y == 53) = true := by simp [h53]
            have hwv : wkAt c y k = c.cycle + 1 := by omega
            rw [hwv] at c2 hw1
            have HS2 : Hid (fromAt c y (k + 1) = startV c y + 7 * (m + (c.cycle + 1))) := hide (by rw [← hwv]; exact HS.out)
            clear hwv hww h53
            go_wp2
            exact ⟨⟨k + 1, m + (c.cycle + 1), by go_num, rfl, HS2.out, by omega, by omega, by omega, hB⟩, by simp [intOf]; omega⟩
        · have hxb : ((k : Int) + 1 == c.extra) = false := by simp [hx]
          rw [if_neg hx] at hww
          have hwv : wkAt c y k = c.cycle := by omega
          rw [hwv] at c2 hw1
          have HS2 : Hid (fromAt c y (k + 1) = startV c y + 7 * (m + (c.cycle))) := hide (by rw [← hwv]; exact HS.out)
          clear hwv hww hx hs hke hwb
          go_wp2
          exact ⟨⟨k + 1, m + (c.cycle), by go_num, rfl, HS2.out, by omega, by omega, by omega, hB⟩, by simp [intOf]; omega⟩
      · have e4 : (c.shape == 4) = true := by simp [hs]
        obtain ⟨q0, q1, q2, q3, q4, q5, q6, q7, q8, q9, q10, q11, q12, q13⟩ := HQ5.out
        have hb := HBR.out hs k (by have := H4N.out hs; omega)
        clear hs hke
        rcases hb with hb | hb
        · rw [hb] at c2 hw1
          have HS2 : Hid (fromAt c y (k + 1) = startV c y + 7 * (m + 4)) := hide (by rw [← hb]; exact HS.out)
          clear hb
          go_wp2
          exact ⟨⟨k + 1, m + 4, by go_num, rfl, HS2.out, by omega, by omega, by omega, hB⟩, by simp [intOf]; omega⟩
        · rw [hb] at c2 hw1
          have HS2 : Hid (fromAt c y (k + 1) = startV c y + 7 * (m + 5)) := hide (by rw [← hb]; exact HS.out)
          clear hb
          go_wp2
          exact ⟨⟨k + 1, m + 5, by go_num, rfl, HS2.out, by omega, by omega, by omega, hB⟩, by simp [intOf]; omega⟩
    · obtain rfl : k = n := by omega
      have hmv : m = wksV c y := by
        have h1 := HM.out
        have h2 := HSUM.out
        rw [← HN.out] at h2
        omega
      have HMV := hide hmv
      clear hmv
      go_wp2
      go_ret
      exact ⟨by rw [HMV.out]; simp, HB4.out.trans (hB.mono (Nat.le_of_lt hz4))⟩

theorem sw_walk (c : Cal) (hn : c.name.size ≤ 9223372036854775807) (y : Int) (w : World) :
    Calls Try.prog 6 #[calV c, .int .i64 y] w fun e w' => e = .returned (.bool true) ∧ Below w.heap.size w w' := by
  by_cases h : 100 < c.name.size
  · exact sw_long c y w h hn
  · by_cases hk : c.kind = 6
    · exact sw_month c y w (by omega) hk
    · by_cases hE : askE c y 1601 = 0
      · exact sw_yes c y w (by omega) hk hE
      · exact sw_no c y w (by omega) hk hE
end Go.Proofs.Ytcmdcgmpdjjgcaa
