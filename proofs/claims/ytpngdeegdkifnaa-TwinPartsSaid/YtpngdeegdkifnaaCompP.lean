/- The plain law of comparable days; layer 19's example. The plain law of comparable days: weeks that are dropped; there and back; rising. -/
import Derived.Test.YtpngdeegdkifnaaCompC
namespace Go.Proofs.Ytpngdeegdkifnaa
open Go.RowKit Qd
set_option linter.unusedSimpArgs false
set_option linter.unusedVariables false

theorem wkDay_same (c : Cal) (y t : Int) (h : wksV c y = wksV c t) (k : Nat) : wkDay c y k - startV c y = wkDay c t k - startV c t := by
  induction k with
  | zero => simp [wkDay]
  | succ k ih =>
    have e1 : wkDay c y (k + 1) = wkDay c y k + 7 * lenAt c (wksV c y) k := rfl
    have e2 : wkDay c t (k + 1) = wkDay c t k + 7 * lenAt c (wksV c t) k := rfl
    rw [e1, e2, h]
    omega
/-- Each year of 53 weeks has the added one at the same place. -/
theorem added_const {c : Cal} {y t : Int} (hk : c.okB = true) (hk6 : c.kind ≠ 6) (hy : srv c y) (ht : srv c t) (h1 : wksV c y = 53) (h2 : wksV c t = 53) : addedV c y = addedV c t := by
  obtain ⟨ey, ay, _⟩ := wks_srv hk hk6 hy
  obtain ⟨et, at', _⟩ := wks_srv hk hk6 ht
  have hok : c.Ok := by simpa [Cal.okB] using hk
  obtain ⟨x1, x2⟩ := extra_bd hok hk6
  obtain ⟨s4, s6, _, _⟩ := ok_shape hok
  have h5 : ¬ c.shape = 5 := fun h => hk6 (s6.2 h)
  unfold addedV
  rw [if_pos ⟨ey, h1⟩, if_pos ⟨et, h2⟩]
  by_cases h4 : c.shape = 4
  · have hx : c.extra = 12 := by
      obtain ⟨_, _, _, hr⟩ := hok
      unfold Cal.ruled Cal.weeks weeksP Cal.pat0 at hr
      omega
    have hly := last_end c y ay
    have hlt := last_end c t at'
    have hny : (endsL c y).length = 12 := by simp [endsL, h4, sun_len]
    have hnt : (endsL c t).length = 12 := by simp [endsL, h4, sun_len]
    rw [hny] at hly
    rw [hnt] at hlt
    have e1 : fromAt c y 12 = endAt c y 11 + 1 := from_succ c y 11
    have e2 : fromAt c t 12 = endAt c t 11 + 1 := from_succ c t 11
    have w1 := (wks_ok ey).2.2.2.2
    have w2 := (wks_ok et).2.2.2.2
    have d1 : daysV c y = endV c y - startV c y + 1 := by simp [daysV, ay]
    have d2 : daysV c t = endV c t - startV c t + 1 := by simp [daysV, at']
    rw [hx]
    rw [show ((12 : Int) - 1).toNat = 11 from rfl]
    omega
  · have eA : ∀ z, ∀ j : Nat, (j : Int) < perV c → endAt c z j = wkDay c z (j + 1) - 1 := by
      intro z j hj
      have eL : endsL c z = (List.range (perV c).toNat).map fun i => wkDay c z (i + 1) - 1 := by simp [endsL, h4, h5]
      unfold endAt
      rw [eL]
      simp [hj]
    rw [eA y _ (by omega), eA t _ (by omega)]
    have := wkDay_same c y t (by omega) ((c.extra - 1).toNat + 1)
    congr 1
    omega
/-- A served day of a year of weeks, and its comparable one. -/
theorem cd_week {c : Cal} {d k : Int} (hs : servE c d = 0) (hk6 : c.kind ≠ 6) (hx : c.first ≤ servY c d + k ∧ servY c d + k ≤ c.last) :
    cdE c d k = cwE c (servY c d) (servY c d + k) ((d - startV c (servY c d)) / 7 + 1) ∧
    (cdE c d k = 0 → cdV c d k = startV c (servY c d + k) + (d - startV c (servY c d)) + 7 * (cwV c (servY c d) (servY c d + k) ((d - startV c (servY c d)) / 7 + 1) - ((d - startV c (servY c d)) / 7 + 1))) := by
  have hE : cdE c d k = cwE c (servY c d) (servY c d + k) ((d - startV c (servY c d)) / 7 + 1) := by rw [cdE, if_pos hs, if_pos (by omega), if_neg hk6]
  refine ⟨hE, fun h => ?_⟩
  rw [cdV, if_pos h, if_neg hk6]
  omega
/-- What the three policies do. -/
theorem cw_cases {c : Cal} {y t x : Int} (hk : c.okB = true) (hk6 : c.kind ≠ 6) (hy : srv c y) (ht : srv c t) (hx : 1 ≤ x ∧ x ≤ wksV c y) :
    (c.policy = 1 ∧ cwE c y t x = 0 ∧ cwV c y t x = x) ∨ (c.policy = 2 ∧ cwE c y t x = 0 ∧ cwV c y t x = x + wksV c t - wksV c y) ∨
    (c.policy = 3 ∧ ((x = addedV c y ∧ addedV c t = 0 ∧ cwE c y t x = 12 ∧ cwV c y t x = 0) ∨ (¬ (x = addedV c y ∧ addedV c t = 0) ∧ cwE c y t x = 0 ∧ cwV c y t x = dropV (addedV c y) (addedV c t) x))) := by
  have hE := cw_in hk hk6 hy ht hx
  rcases ok_pol hk hk6 with hp | hp | hp
  · left
    have hE0 : cwE c y t x = 0 := by rw [hE, if_neg (by omega)]
    exact ⟨hp, hE0, by rw [cwV, if_pos hE0, if_pos hp]⟩
  · right; left
    have hE0 : cwE c y t x = 0 := by rw [hE, if_neg (by omega)]
    exact ⟨hp, hE0, by rw [cwV, if_pos hE0, if_neg (by omega), if_pos hp]⟩
  · right; right
    rw [if_pos hp] at hE
    refine ⟨hp, ?_⟩
    by_cases hd : x = addedV c y ∧ addedV c t = 0
    · left
      have hE2 : cwE c y t x = 12 := by rw [hE, dropE, if_pos hd]
      exact ⟨hd.1, hd.2, hE2, by rw [cwV, if_neg (by omega)]⟩
    · right
      have hE2 : cwE c y t x = 0 := by rw [hE, dropE, if_neg hd]
      exact ⟨hd, hE2, by rw [cwV, if_pos hE2, if_neg (by omega), if_neg (by omega)]⟩
theorem cd_out {c : Cal} {d k : Int} (hs : servE c d = 0) (hx : ¬ (c.first ≤ servY c d + k ∧ servY c d + k ≤ c.last)) : cdE c d k = 11 ∧ cdV c d k = 0 := by
  have hE : cdE c d k = 11 := by rw [cdE, if_pos hs, if_neg (by omega)]
  exact ⟨hE, by rw [cdV, if_neg (by omega)]⟩
theorem cd_no {c : Cal} {d k : Int} (hs : ¬ servE c d = 0) : cdE c d k = servE c d ∧ cdV c d k = 0 := by
  have hE : cdE c d k = servE c d := by rw [cdE, if_neg hs]
  exact ⟨hE, by rw [cdV, if_neg (by rw [hE]; exact hs)]⟩
/-- In its own year a day is compared with itself. -/
theorem cd_same {c : Cal} {d : Int} (hs : servE c d = 0) : cdE c d 0 = 0 ∧ cdV c d 0 = d := by
  obtain ⟨hk, hd, hyr, hy1, hy2⟩ := serv_ok hs
  by_cases hk6 : c.kind = 6
  · have hE : cdE c d 0 = 0 := by rw [cdE, if_pos hs, if_pos (by omega), if_pos hk6]
    refine ⟨hE, ?_⟩
    rw [cdV, if_pos hE, if_pos hk6]
    obtain ⟨i, e1, e2, e3, e4, e5⟩ := fd_month hs
    rw [e1, show servY c d + 0 = servY c d by omega]
    omega
  · obtain ⟨hE, hV⟩ := cd_week (k := 0) hs hk6 (by omega)
    rw [show servY c d + 0 = servY c d by omega] at hE hV
    have hsy : srv c (servY c d) := ⟨hy1, hy2⟩
    obtain ⟨f1, f2, f3, f4, f5, f6⟩ := fd_week hs hk6
    have hab := added_bd hk hk6 hsy
    rcases cw_cases hk hk6 hsy hsy ⟨f4, f5⟩ with ⟨_, h1, h2⟩ | ⟨_, h1, h2⟩ | ⟨_, ⟨h0, h3, h1, h2⟩ | ⟨h0, h1, h2⟩⟩
    · have h0 : cdE c d 0 = 0 := by rw [hE, h1]
      exact ⟨h0, by rw [hV h0, h2]; omega⟩
    · have h0 : cdE c d 0 = 0 := by rw [hE, h1]
      exact ⟨h0, by rw [hV h0, h2]; omega⟩
    · omega
    · have h0 : cdE c d 0 = 0 := by rw [hE, h1]
      refine ⟨h0, ?_⟩
      rw [hV h0, h2]
      have : dropV (addedV c (servY c d)) (addedV c (servY c d)) ((d - startV c (servY c d)) / 7 + 1) = (d - startV c (servY c d)) / 7 + 1 := by
        unfold dropV
        repeat' split
        all_goals omega
      omega

def nrf19 : Cal := ⟨⟨#[120]⟩, 3, 6, 1, 1, 1, 4, 5, 4, 0, 12, 2000, 2030, 2⟩
theorem n19_week : cwE nrf19 2024 2023 1 = 0 ∧ cwV nrf19 2024 2023 1 = 2 := by decide +kernel
theorem n19_ask : askE nrf19 2024 1601 = 0 ∧ askE nrf19 2023 1601 = 0 := by decide +kernel
theorem n19_bd : startV nrf19 2024 ≤ endV nrf19 2024 := by decide +kernel
theorem n19_day : cdE nrf19 (startV nrf19 2024) (-1) = 0 ∧ cdV nrf19 (startV nrf19 2024) (-1) = startV nrf19 2023 + 7 := by
  have hs := serv_yes (c := nrf19) (day := startV nrf19 2024) (y := 2024) (by decide +kernel) ⟨n19_ask.1, Int.le_refl _, n19_bd⟩ (by decide) (by decide)
  obtain ⟨hE, hV⟩ := cd_week (k := -1) hs.1 (by decide) (by rw [hs.2]; decide)
  rw [hs.2] at hE hV
  have e : startV nrf19 2024 - startV nrf19 2024 = 0 := by omega
  rw [e] at hE hV
  have e2 : (0 : Int) / 7 + 1 = 1 := by decide
  rw [e2, show (2024 : Int) + -1 = 2023 from rfl] at hE hV
  rw [n19_week.1] at hE
  refine ⟨hE, ?_⟩
  rw [hV hE, n19_week.2]
  omega

set_option maxRecDepth 100000 in
set_option maxHeartbeats 1600000 in
theorem live19_any (w : World) :
    Calls Try.prog 12 #[] w fun e w' => e = .returned (.bool true) ∧ Below w.heap.size w w' := by
  have ha := year_bd nrf19 2024 n19_ask.1
  have hb := year_bd nrf19 2023 n19_ask.2
  have HA := hide n19_ask
  have HD := hide n19_day
  obtain ⟨a, haa⟩ : ∃ a, a = startV nrf19 2024 := ⟨_, rfl⟩
  obtain ⟨b, hbb⟩ : ∃ a, a = startV nrf19 2023 := ⟨_, rfl⟩
  rw [← haa] at ha HD
  rw [← hbb] at hb HD
  have HAA := hide haa
  have HBB := hide hbb
  clear haa hbb
  go_enter Try.func12, Try.ntmps12
  go_wp2_with fail
  refine (week_any nrf19 2024 2023 1 _ (by decide)).mono ?_
  rintro e w1 ⟨rfl, hb1⟩
  rw [n19_week.1, n19_week.2]
  have hz1 : w.heap.size < w1.heap.size := by have := hb1.size; simp at this; omega
  have HB1 := hide (show Below w.heap.size w w1 by refine Below.trans ?_ (hb1.mono (by simp)); (repeat' (first | (with_reducible exact Below.refl _ _) | (with_reducible assumption) | (with_reducible refine Below.alloc ?_ ?_ _) | (with_reducible refine below_drewN ?_ _) | (with_reducible refine Below.drew ?_) | (with_reducible refine Below.setCell ?_ ?_ _) | (with_reducible refine Below.trans ?_ (Below.mono (by assumption) ?_)) | go_size | (simp at *; omega))))
  have HQ1 := hide (calAt_below hb1 (by simp) (calAt_new w nrf19))
  obtain ⟨q0, q1, q2, q3, q4, q5, q6, q7, q8, q9, q10, q11, q12, q13⟩ := HQ1.out
  clear hb1
  simp only [nrf19] at q0 q1 q2 q3 q4 q5 q6 q7 q8 q9 q10 q11 q12 q13
  go_wp2_with fail
  refine (start_any nrf19 2024 _ (by decide)).mono ?_
  rintro e w2 ⟨rfl, hb2⟩
  rw [HA.out.1, ← HAA.out]
  have hz2 : w.heap.size < w2.heap.size := Nat.lt_of_lt_of_le hz1 hb2.size
  have HB2 := hide (HB1.out.trans (hb2.mono (Nat.le_of_lt hz1)))
  have HQ2 := hide (calAt_below hb2 hz1 HQ1.out)
  clear q0 q1 q2 q3 q4 q5 q6 q7 q8 q9 q10 q11 q12 q13
  obtain ⟨q0, q1, q2, q3, q4, q5, q6, q7, q8, q9, q10, q11, q12, q13⟩ := HQ2.out
  clear hb2
  simp only [nrf19] at q0 q1 q2 q3 q4 q5 q6 q7 q8 q9 q10 q11 q12 q13
  go_wp2_with fail
  refine (start_any nrf19 2023 _ (by decide)).mono ?_
  rintro e w3 ⟨rfl, hb3⟩
  rw [HA.out.2, ← HBB.out]
  have hz3 : w.heap.size < w3.heap.size := Nat.lt_of_lt_of_le hz2 hb3.size
  have HB3 := hide (HB2.out.trans (hb3.mono (Nat.le_of_lt hz2)))
  have HQ3 := hide (calAt_below hb3 hz2 HQ2.out)
  clear q0 q1 q2 q3 q4 q5 q6 q7 q8 q9 q10 q11 q12 q13
  obtain ⟨q0, q1, q2, q3, q4, q5, q6, q7, q8, q9, q10, q11, q12, q13⟩ := HQ3.out
  clear hb3
  simp only [nrf19] at q0 q1 q2 q3 q4 q5 q6 q7 q8 q9 q10 q11 q12 q13
  go_wp2_with fail
  refine (cday_any nrf19 a (-1) _ (by decide)).mono ?_
  rintro e w4 ⟨rfl, hb4⟩
  rw [HD.out.1, HD.out.2]
  have HB4 := hide (HB3.out.trans (hb4.mono (Nat.le_of_lt hz3)))
  clear q0 q1 q2 q3 q4 q5 q6 q7 q8 q9 q10 q11 q12 q13
  clear hb4
  go_wp2
  all_goals first
    | (exfalso; omega)
    | (go_ret; exact ⟨ret_bool (by simp), HB4.out⟩)
end Go.Proofs.Ytpngdeegdkifnaa

namespace Go.Proofs.Ytpngdeegdkifnaa
open Go.RowKit Qd
set_option linter.unusedSimpArgs false
set_option linter.unusedVariables false

theorem drop_same (a x : Int) (hx : 1 ≤ x) : dropV a a x = x := by
  unfold dropV
  repeat' split
  all_goals omega
theorem drop_l (b x : Int) (hx : 1 ≤ x) : dropV 0 b x = if 0 < b ∧ b ≤ x then x + 1 else x := by
  unfold dropV
  repeat' split
  all_goals omega
theorem drop_r (a x : Int) (h : x ≠ a) : dropV a 0 x = if 0 < a ∧ a < x then x - 1 else x := by
  unfold dropV
  repeat' split
  all_goals omega
/-- The added weeks of two years. -/
theorem added_two {c : Cal} {y t : Int} (hk : c.okB = true) (hk6 : c.kind ≠ 6) (hy : srv c y) (ht : srv c t) :
    (addedV c y = addedV c t ∧ wksV c y = wksV c t) ∨ (addedV c y = 0 ∧ 0 < addedV c t ∧ addedV c t ≤ 53 ∧ wksV c y = 52 ∧ wksV c t = 53) ∨ (0 < addedV c y ∧ addedV c t = 0 ∧ addedV c y ≤ 53 ∧ wksV c y = 53 ∧ wksV c t = 52) := by
  have h1 := added_bd hk hk6 hy
  have h2 := added_bd hk hk6 ht
  have w1 := (wks_srv hk hk6 hy).2.2
  have w2 := (wks_srv hk hk6 ht).2.2
  rcases w1 with w1 | w1 <;> rcases w2 with w2 | w2
  · left; omega
  · right; left; omega
  · right; right; omega
  · left
    exact ⟨added_const hk hk6 hy ht w1 w2, by omega⟩
/-- What a week of a year is compared with, told as what is added to its number. -/
theorem cw_shift {c : Cal} {y t x : Int} (hk : c.okB = true) (hk6 : c.kind ≠ 6) (hy : srv c y) (ht : srv c t) (hx : 1 ≤ x ∧ x ≤ wksV c y) :
    (cwE c y t x = 12 ∧ cwV c y t x = 0 ∧ c.policy = 3 ∧ wksV c y = 53 ∧ wksV c t = 52 ∧ x = addedV c y) ∨
    (cwE c y t x = 0 ∧ c.policy = 1 ∧ cwV c y t x = x) ∨
    (cwE c y t x = 0 ∧ c.policy = 2 ∧ cwV c y t x = x + wksV c t - wksV c y) ∨
    (cwE c y t x = 0 ∧ c.policy = 3 ∧ wksV c y = wksV c t ∧ cwV c y t x = x) ∨
    (cwE c y t x = 0 ∧ c.policy = 3 ∧ wksV c y = 52 ∧ wksV c t = 53 ∧ addedV c y = 0 ∧ 0 < addedV c t ∧ addedV c t ≤ 53 ∧ ((x < addedV c t ∧ cwV c y t x = x) ∨ (addedV c t ≤ x ∧ cwV c y t x = x + 1))) ∨
    (cwE c y t x = 0 ∧ c.policy = 3 ∧ wksV c y = 53 ∧ wksV c t = 52 ∧ 0 < addedV c y ∧ addedV c t = 0 ∧ addedV c y ≤ 53 ∧ ((x < addedV c y ∧ cwV c y t x = x) ∨ (addedV c y < x ∧ cwV c y t x = x - 1))) := by
  have h2 := added_two hk hk6 hy ht
  rcases cw_cases hk hk6 hy ht hx with ⟨p, e, v⟩ | ⟨p, e, v⟩ | ⟨p, ⟨h0, h3, e, v⟩ | ⟨h0, e, v⟩⟩
  · right; left; exact ⟨e, p, v⟩
  · right; right; left; exact ⟨e, p, v⟩
  · left
    rcases h2 with h2 | h2 | h2
    · omega
    · omega
    · exact ⟨e, v, p, h2.2.2.2.1, h2.2.2.2.2, h0⟩
  · rcases h2 with h2 | h2 | h2
    · right; right; right; left
      refine ⟨e, p, h2.2, ?_⟩
      rw [v, ← h2.1, drop_same _ _ hx.1]
    · right; right; right; right; left
      refine ⟨e, p, h2.2.2.2.1, h2.2.2.2.2, h2.1, h2.2.1, h2.2.2.1, ?_⟩
      rw [h2.1, drop_l _ _ hx.1] at v
      by_cases h : addedV c t ≤ x
      · right; rw [if_pos ⟨h2.2.1, h⟩] at v; exact ⟨h, v⟩
      · left; rw [if_neg (by omega)] at v; exact ⟨by omega, v⟩
    · right; right; right; right; right
      refine ⟨e, p, h2.2.2.2.1, h2.2.2.2.2, h2.1, h2.2.1, h2.2.2.1, ?_⟩
      have hne : x ≠ addedV c y := fun h => h0 ⟨h, h2.2.1⟩
      rw [h2.2.1, drop_r _ _ hne] at v
      by_cases h : addedV c y < x
      · right; rw [if_pos ⟨h2.1, h⟩] at v; exact ⟨h, v⟩
      · left; rw [if_neg (by omega)] at v; exact ⟨by omega, v⟩
/-- A served day of a year of weeks: what there is to know of its year. -/
theorem sv_week {c : Cal} {d : Int} (hs : servE c d = 0) (hk6 : c.kind ≠ 6) : c.okB = true ∧ isB d = true ∧ srv c (servY c d) ∧ 0 ≤ d - startV c (servY c d) ∧ d - startV c (servY c d) < 7 * wksV c (servY c d) ∧ 1 ≤ (d - startV c (servY c d)) / 7 + 1 ∧ (d - startV c (servY c d)) / 7 + 1 ≤ wksV c (servY c d) := by
  obtain ⟨hk, hd, hyr, hy1, hy2⟩ := serv_ok hs
  obtain ⟨f1, f2, f3, f4, f5, f6⟩ := fd_week hs hk6
  exact ⟨hk, hd, ⟨hy1, hy2⟩, by have := hyr.2.1; omega, by omega, f4, f5⟩
/-- Year of weeks: its days. -/
theorem yr_week {c : Cal} {y : Int} (hk : c.okB = true) (hk6 : c.kind ≠ 6) (hy : srv c y) : endV c y = startV c y + 7 * wksV c y - 1 ∧ askE c y 1601 = 0 ∧ 52 ≤ wksV c y ∧ wksV c y ≤ 53 ∧ 358 ≤ startV c y ∧ endV c y + 358 ≤ 3068037 := by
  obtain ⟨hE, hA, h5⟩ := wks_srv hk hk6 hy
  have hw := (wks_ok hE).2.2.2.2.2.2
  have hdv : daysV c y = endV c y - startV c y + 1 := by simp [daysV, hA]
  have hok : c.Ok := by simpa [Cal.okB] using hk
  obtain ⟨_, _, b1, b2, _⟩ := ok_years hk
  obtain ⟨h1, h2⟩ := hy
  have e1 : endV c 1600 + 358 ≤ endV c 1601 := by simpa using end_mono c 1600 hok (by omega) 1 (by omega)
  have e0 : 0 ≤ endV c 1600 := by
    have := start_next c 1600 (ask_2 hok (by omega) (by omega))
    have h3 := start_b c (1600 + 1)
    by_cases h : 0 ≤ endV c 1600
    · exact h
    · have hA2 : askE c 1600 1600 = 0 := ask_2 hok (by omega) (by omega)
      have ht := ask_there hA2 (by omega)
      have := fin_bd c (1600 + c.shift) hok ht (by obtain ⟨_, hs, _⟩ := ok_rule hok; omega)
      have : endV c 1600 = finV c (1600 + c.shift) := by simp [endV, hA2]
      omega
  have e2 : endV c 1601 ≤ endV c (y - 1) := end_le c hok (by omega) (by omega) (by omega)
  have e3 := start_next c (y - 1) (by rw [show y - 1 + 1 = y by omega]; exact hA)
  rw [show y - 1 + 1 = y by omega] at e3
  have e4 : endV c y + 358 ≤ endV c (y + 1) := by simpa using end_mono c y hok (by omega) 1 (by omega)
  have hA3 : askE c (y + 1) 1601 = 0 := ask_2 hok (by omega) (by omega)
  have e5 := end_b c _ hA3
  refine ⟨by omega, hA, by omega, by omega, by omega, by omega⟩
theorem start_mod {c : Cal} {y : Int} (hk6 : c.kind ≠ 6) (hA : askE c y 1601 = 0) : (startV c y + 5) % 7 + 1 = c.day % 7 + 1 := by
  obtain ⟨hok, _, _⟩ := ask_ok hA
  obtain ⟨_, _, _, hd⟩ := ok_rule hok
  have hf := fin_day c (y - 1 + c.shift) hok hk6
  have : startV c y = finV c (y - 1 + c.shift) + 1 := by simp [startV, hA]
  have := hd hk6
  omega
/-- CompRises, told plainly. -/
theorem rises {c : Cal} {d n k : Int} (hs : servE c d = 0) (hs2 : servE c (d + n) = 0) (hyy : servY c d = servY c (d + n)) (hk6 : c.kind ≠ 6) (hn : 1 ≤ n) :
    (cdE c d k = 11 ∧ cdE c (d + n) k = 11) ∨ cdE c d k = 12 ∨ cdE c (d + n) k = 12 ∨
    (cdE c d k = 0 ∧ cdE c (d + n) k = 0 ∧ cdV c d k < cdV c (d + n) k ∧ (cdV c (d + n) k - cdV c d k - n = 0 ∨ (c.policy = 3 ∧ (cdV c (d + n) k - cdV c d k - n = 7 ∨ cdV c (d + n) k - cdV c d k - n = -7)))) := by
  by_cases hx : c.first ≤ servY c d + k ∧ servY c d + k ≤ c.last
  · obtain ⟨hk, hd, hsy, o1, o2, x1, x2⟩ := sv_week hs hk6
    obtain ⟨_, _, _, p1, p2, z1, z2⟩ := sv_week hs2 hk6
    obtain ⟨hE, hV⟩ := cd_week hs hk6 hx
    obtain ⟨hE2, hV2⟩ := cd_week hs2 hk6 (by rw [← hyy]; exact hx)
    rw [← hyy] at p1 p2 z1 z2 hE2 hV2
    have hst : srv c (servY c d + k) := hx
    generalize servY c d = y at *
    generalize startV c y = s at *
    generalize startV c (y + k) = s2 at *
    generalize hx1 : (d - s) / 7 + 1 = X1 at *
    generalize hx2 : (d + n - s) / 7 + 1 = X2 at *
    have c1 := cw_shift hk hk6 hsy hst ⟨x1, x2⟩
    have c2 := cw_shift hk hk6 hsy hst ⟨z1, z2⟩
    rcases c1 with c1 | c1 | c1 | c1 | c1 | c1
    · right; left; rw [hE]; exact c1.1
    all_goals
      rcases c2 with c2 | c2 | c2 | c2 | c2 | c2
      · right; right; left; rw [hE2]; exact c2.1
      all_goals
        have e1 : cdE c d k = 0 := by rw [hE]; exact c1.1
        have e2 : cdE c (d + n) k = 0 := by rw [hE2]; exact c2.1
        have v1 := hV e1
        have v2 := hV2 e2
        right; right; right
        refine ⟨e1, e2, ?_, ?_⟩ <;> omega
  · left
    exact ⟨(cd_out hs hx).1, (cd_out hs2 (by rw [← hyy]; exact hx)).1⟩
/-- CompBack, told plainly. -/
theorem there_back {c : Cal} {d k : Int} (hs : servE c d = 0) (hk6 : c.kind ≠ 6) (hE0 : cdE c d k = 0) (hno : ¬ (wksV c (servY c d) ≠ wksV c (servY c d + k) ∧ c.policy ≠ 3 ∧ wksV c (servY c d + k) < wksV c (servY c d))) :
    cdE c (cdV c d k) (-k) = 0 ∧ cdV c (cdV c d k) (-k) = d := by
  have hx : c.first ≤ servY c d + k ∧ servY c d + k ≤ c.last := by
    by_cases h : c.first ≤ servY c d + k ∧ servY c d + k ≤ c.last
    · exact h
    · have := (cd_out hs h).1; omega
  obtain ⟨hk, hd, hsy, o1, o2, x1, x2⟩ := sv_week hs hk6
  obtain ⟨hE, hV⟩ := cd_week hs hk6 hx
  have hst : srv c (servY c d + k) := hx
  have v1 := hV hE0
  obtain ⟨ey, ay, wy1, wy2, _, _⟩ := yr_week hk hk6 hsy
  obtain ⟨et, at', wt1, wt2, _, _⟩ := yr_week hk hk6 hst
  have c1 := cw_shift hk hk6 hsy hst ⟨x1, x2⟩
  generalize hyy : servY c d = y at *
  generalize hD : cdV c d k = D at *
  -- the day lies in the other year
  have hin : startV c (y + k) ≤ D ∧ D ≤ endV c (y + k) := by
    generalize hX1 : (d - startV c y) / 7 + 1 = X1 at *
    rcases c1 with c1 | c1 | c1 | c1 | c1 | c1 <;> omega
  have hs2 := serv_yes (c := c) (day := D) (y := y + k) hk ⟨at', hin.1, hin.2⟩ hx.1 hx.2
  have hyk : y + k + -k = y := by omega
  obtain ⟨hE2, hV2⟩ := cd_week (k := -k) hs2.1 hk6 (by rw [hs2.2, hyk]; exact hsy)
  obtain ⟨_, _, _, p1, p2, z1, z2⟩ := sv_week hs2.1 hk6
  rw [hs2.2] at hE2 hV2 p1 p2 z1 z2
  rw [hyk] at hE2 hV2
  have c2 := cw_shift hk hk6 hst hsy ⟨z1, z2⟩
  generalize startV c y = s at *
  generalize startV c (y + k) = s2 at *
  generalize hX1 : (d - s) / 7 + 1 = X1 at *
  generalize hX2 : (D - s2) / 7 + 1 = X2 at *
  have hX : X2 = cwV c y (y + k) X1 := by omega
  have key : cwE c (y + k) y X2 = 0 ∧ cwV c (y + k) y X2 = X1 := by
    rcases c1 with c1 | c1 | c1 | c1 | c1 | c1
    · rw [hE] at hE0; omega
    all_goals
      rcases c2 with c2 | c2 | c2 | c2 | c2 | c2
      all_goals first
        | (exfalso; omega)
        | exact ⟨c2.1, by omega⟩
  have e2 : cdE c D (-k) = 0 := by rw [hE2]; exact key.1
  refine ⟨e2, ?_⟩
  rw [hV2 e2, key.2]
  omega
end Go.Proofs.Ytpngdeegdkifnaa
