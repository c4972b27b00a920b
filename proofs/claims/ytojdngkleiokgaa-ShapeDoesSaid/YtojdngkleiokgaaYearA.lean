/- How a year's periods lie: the plain law behind shape.Ends. How the months of a year lie: the plain law behind shape.Ends. -/
import Derived.Test.YtojdngkleiokgaaEndsA
namespace Go.Proofs.Ytojdngkleiokgaa
open Go.RowKit Qd
set_option linter.unusedSimpArgs false
set_option linter.unusedVariables false

/-- The first day of the period behind k of them. -/
def fromAt (c : Cal) (y : Int) (k : Nat) : Int := if k = 0 then startV c y else (endsL c y)[k - 1]?.getD 0 + 1
def endAt (c : Cal) (y : Int) (k : Nat) : Int := (endsL c y)[k]?.getD 0

theorem patN_sum (c : Cal) (wk : Int) (y0 : Int) (hx : 1 ≤ c.extra) (f : Nat → Int) (h0 : f 0 = y0) (hs : ∀ k, f (k + 1) = f k + 7 * lenAt c wk k) (k : Nat) :
    f k = y0 + 7 * (((k / 3 : Nat) : Int) * (pat0 c + pat1 c + pat2 c) + (if 1 ≤ k % 3 then pat0 c else 0) + (if 2 ≤ k % 3 then pat1 c else 0)) + 7 * (if c.extra ≤ (k : Int) then wk - 52 else 0) := by
  induction k with
  | zero =>
    rw [h0]
    rw [if_neg (by omega), if_neg (by omega), if_neg (by omega)]
    simp
  | succ k ih =>
    rw [hs, ih]
    have h3 : k % 3 = 0 ∨ k % 3 = 1 ∨ k % 3 = 2 := by omega
    unfold lenAt patN
    have hex : (if c.extra ≤ ((k + 1 : Nat) : Int) then wk - 52 else 0) = (if c.extra ≤ (k : Int) then wk - 52 else 0) + (if (k : Int) + 1 = c.extra then wk - 52 else 0) := by
      split <;> split <;> split <;> omega
    rw [hex]
    rcases h3 with h3 | h3 | h3
    · have e1 : (k + 1) % 3 = 1 := by omega
      have e2 : (k + 1) / 3 = k / 3 := by omega
      simp only [h3, e1, e2]
      simp
      omega
    · have e1 : (k + 1) % 3 = 2 := by omega
      have e2 : (k + 1) / 3 = k / 3 := by omega
      simp only [h3, e1, e2]
      simp
      omega
    · have e1 : (k + 1) % 3 = 0 := by omega
      have e2 : (k + 1) / 3 = k / 3 + 1 := by omega
      simp only [h3, e1, e2]
      simp
      rw [Int.add_mul]
      omega
/-- A year of weeks ends with its last period. -/
theorem wkDay_end (c : Cal) (y : Int) (hE : askE c y 1601 = 0) (h4 : ¬ c.shape = 4) (h5 : ¬ c.shape = 5) : wkDay c y (perV c).toNat = endV c y + 1 := by
  obtain ⟨hok, hy1, hy2⟩ := ask_ok hE
  have hok2 : c.okB = true := by simpa [Cal.okB] using hok
  have hk6 : c.kind ≠ 6 := fun e => h5 ((ok_shape hok).2.1.1 e)
  have hdw := days_weeks c y hE hk6
  have hwb : wksB c = true := by simp [wksB, hok2, hk6]
  have hwv : wksV c y = daysV c y / 7 := by simp [wksV, hwb]
  have hD : daysV c y = endV c y - startV c y + 1 := by simp [daysV, hE]
  have hper : perV c = manyP c.shape c.cycle := by simp [perV, hok2]
  obtain ⟨_, _, _, hr⟩ := hok
  unfold Cal.ruled Cal.weeks weeksP Cal.pat0 at hr
  have hx : 1 ≤ c.extra ∧ c.extra ≤ manyP c.shape c.cycle ∧ ((c.shape = 1 ∧ c.p0 + c.p1 + c.p2 = 13) ∨ c.shape = 2 ∨ (c.shape = 3 ∧ (c.cycle = 1 ∨ c.cycle = 2 ∨ c.cycle = 4))) := by
    have m1 : c.shape = 1 → manyP c.shape c.cycle = 12 := by intro h; simp [manyP, h]
    omega
  obtain ⟨hx1, hx2, hx3⟩ := hx
  have hs := patN_sum c (wksV c y) (startV c y) hx1 (wkDay c y) rfl (fun _ => rfl) (perV c).toNat
  rw [hs, hper]
  rcases hx3 with ⟨hsh, hp⟩ | hsh | ⟨hsh, hcy | hcy | hcy⟩
  · have em : manyP c.shape c.cycle = 12 := by simp [manyP, hsh]
    rw [em] at hx2 ⊢
    rw [if_pos (show c.extra ≤ ((12 : Int).toNat : Int) by simpa using hx2)]
    simp [pat0, pat1, pat2, hsh]
    omega
  · have em : manyP c.shape c.cycle = 13 := by simp [manyP, hsh]
    rw [em] at hx2 ⊢
    rw [if_pos (show c.extra ≤ ((13 : Int).toNat : Int) by simpa using hx2)]
    simp [pat0, pat1, pat2, hsh]
    omega
  · have em : manyP c.shape c.cycle = 52 := by simp [manyP, hsh, hcy]
    rw [em] at hx2 ⊢
    rw [if_pos (show c.extra ≤ ((52 : Int).toNat : Int) by simpa using hx2)]
    simp [pat0, pat1, pat2, hsh, hcy]
    omega
  · have em : manyP c.shape c.cycle = 26 := by simp [manyP, hsh, hcy]
    rw [em] at hx2 ⊢
    rw [if_pos (show c.extra ≤ ((26 : Int).toNat : Int) by simpa using hx2)]
    simp [pat0, pat1, pat2, hsh, hcy]
    omega
  · have em : manyP c.shape c.cycle = 13 := by simp [manyP, hsh, hcy]
    rw [em] at hx2 ⊢
    rw [if_pos (show c.extra ≤ ((13 : Int).toNat : Int) by simpa using hx2)]
    simp [pat0, pat1, pat2, hsh, hcy]
    omega
end Go.Proofs.Ytojdngkleiokgaa

namespace Go.Proofs.Ytojdngkleiokgaa
open Go.RowKit Qd
set_option linter.unusedSimpArgs false
set_option linter.unusedVariables false

/-- The first day of the t-th month, counted from the year 0. -/
def mFirst (t : Int) : Int := dayN (t / 12) (t % 12 + 1) 1
theorem mFirst_there (t : Int) (h1 : 19200 ≤ t) (h2 : t < 120000) : thereB (t / 12) (t % 12 + 1) = true := by
  simp [thereB]; omega
theorem mFirst_date (t : Int) (h1 : 19200 ≤ t) (h2 : t < 120000) : dateB (t / 12) (t % 12 + 1) 1 = true := by
  have ht := mFirst_there t h1 h2
  have := len_lo _ _ ht
  simp [dateB, ht]
  omega
theorem mFirst_succ (t : Int) (h1 : 19200 ≤ t) (h2 : t + 1 < 120000) : mFirst t + lenV (t / 12) (t % 12 + 1) = mFirst (t + 1) := by
  have ht := mFirst_there t h1 (by omega)
  have hl : lenV (t / 12) (t % 12 + 1) = aheadV (t / 12) (t % 12 + 1 + 1) - aheadV (t / 12) (t % 12 + 1) := by unfold lenV; rw [if_pos ht]
  unfold mFirst dayN
  rw [hl]
  by_cases h : t % 12 = 11
  · have e1 : (t + 1) / 12 = t / 12 + 1 := by omega
    have e2 : (t + 1) % 12 = 0 := by omega
    rw [e1, e2, h]
    have hs := years_succ (t / 12) (by omega) (by omega)
    have h13 := ahead_13 (t / 12)
    have ha := ahead_1 (t / 12 + 1)
    have e3 : (11 : Int) + 1 + 1 = 13 := by decide
    have e4 : (0 : Int) + 1 = 1 := by decide
    rw [e3, e4, h13, ha]
    omega
  · have e1 : (t + 1) / 12 = t / 12 := by omega
    have e2 : (t + 1) % 12 = t % 12 + 1 := by omega
    rw [e1, e2]
    omega
theorem endN_mFirst (t : Int) (h1 : 19200 ≤ t) (h2 : t + 1 < 120000) : endN (t / 12) (t % 12 + 1) + 1 = mFirst (t + 1) := by
  rw [← mFirst_succ t h1 h2]
  unfold endN mFirst dayN
  omega
theorem of_mFirst (t : Int) (h1 : 19200 ≤ t) (h2 : t < 120000) : ofY (mFirst t) = t / 12 ∧ ofM (mFirst t) = t % 12 + 1 := by
  have := of_dayN (mFirst_date t h1 h2)
  exact ⟨this.1, this.2.1⟩
theorem monS_mFirst (t : Int) (h1 : 19200 ≤ t) (k : Nat) (h2 : t + k < 120000) : monS (mFirst t) k = mFirst (t + k) := by
  induction k with
  | zero => simp [monS]
  | succ k ih =>
    have := of_mFirst (t + k) (by omega) (by omega)
    unfold monS
    rw [ih (by omega), this.1, this.2, mFirst_succ (t + k) (by omega) (by omega)]
    congr 1
    omega
/-- The month behind which a year by months begins, counted from the year 0. -/
def mOf (c : Cal) (y : Int) : Int := (y - 1 + c.shift) * 12 + c.month
theorem start_mFirst (c : Cal) (y : Int) (hE : askE c y 1601 = 0) (hk6 : c.kind = 6) : startV c y = mFirst (mOf c y) := by
  obtain ⟨hok, hy1, hy2⟩ := ask_ok hE
  obtain ⟨hm, hs, hk, hd⟩ := ok_rule hok
  have e : startV c y = endN (y - 1 + c.shift) c.month + 1 := by simp [startV, hE, finV, hk6]
  have e2 := endN_mFirst (mOf c y - 1) (by unfold mOf; omega) (by unfold mOf; omega)
  have d1 : (mOf c y - 1) / 12 = y - 1 + c.shift := by unfold mOf; omega
  have d2 : (mOf c y - 1) % 12 + 1 = c.month := by unfold mOf; omega
  rw [d1, d2] at e2
  rw [e, e2]
  congr 1
  omega
theorem end_mFirst (c : Cal) (y : Int) (hE : askE c y 1600 = 0) (hk6 : c.kind = 6) : endV c y = mFirst (mOf c y + 12) - 1 := by
  obtain ⟨hok, hy1, hy2⟩ := ask_ok hE
  obtain ⟨hm, hs, hk, hd⟩ := ok_rule hok
  have e : endV c y = endN (y + c.shift) c.month := by simp [endV, hE, finV, hk6]
  have e2 := endN_mFirst (mOf c y + 11) (by unfold mOf; omega) (by unfold mOf; omega)
  have d1 : (mOf c y + 11) / 12 = y + c.shift := by unfold mOf; omega
  have d2 : (mOf c y + 11) % 12 + 1 = c.month := by unfold mOf; omega
  rw [d1, d2] at e2
  have e3 : mOf c y + 11 + 1 = mOf c y + 12 := by omega
  rw [e3] at e2
  omega

/-- The last Sunday of a month, as a day. -/
theorem last_eq (y m : Int) (h : thereB y m = true) : lastV y m 7 = endN y m - endW y m % 7 := by
  have hw : wkE y m 7 = 0 := by simp [wkE, h]
  simp [lastV, hw]
theorem last_next (y m : Int) (h1 : 1600 ≤ y) (h2 : y ≤ 9999) (h3 : 1 ≤ m) (h4 : m ≤ 11) :
    (lastV y (m + 1) 7 - lastV y m 7) % 7 = 0 ∧ 28 ≤ lastV y (m + 1) 7 - lastV y m 7 ∧ lastV y (m + 1) 7 - lastV y m 7 ≤ 35 := by
  have t1 : thereB y m = true := by simp [thereB]; omega
  have t2 : thereB y (m + 1) = true := by simp [thereB]; omega
  rw [last_eq y m t1, last_eq y (m + 1) t2]
  have l2 := len_lo y (m + 1) t2
  have l3 := len_bd y (m + 1)
  have hl : lenV y (m + 1) = aheadV y (m + 1 + 1) - aheadV y (m + 1) := by unfold lenV; rw [if_pos t2]
  have e1 := endN_eq y m t1
  have e2 := endN_eq y (m + 1) t2
  unfold endW
  omega
theorem last_year (y : Int) (h1 : 1600 ≤ y) (h2 : y ≤ 9998) :
    (lastV (y + 1) 1 7 - lastV y 12 7) % 7 = 0 ∧ 28 ≤ lastV (y + 1) 1 7 - lastV y 12 7 ∧ lastV (y + 1) 1 7 - lastV y 12 7 ≤ 35 := by
  have t1 : thereB y 12 = true := by simp [thereB]; omega
  have t2 : thereB (y + 1) 1 = true := by simp [thereB]; omega
  rw [last_eq y 12 t1, last_eq (y + 1) 1 t2]
  have e1 := endN_eq y 12 t1
  have e2 := endN_eq (y + 1) 1 t2
  have hs := years_succ y (by omega) (by omega)
  have h13 := ahead_13 y
  have a2 : aheadV (y + 1) (1 + 1) = 31 := by simp [aheadV, tabV]
  have e3 : (12 : Int) + 1 = 13 := by decide
  rw [e3, h13] at e1
  rw [a2] at e2
  unfold endW
  omega

theorem sun_len (y : Int) : (sunL y).length = 12 := by simp [sunL]
theorem mon_len (d : Int) : (monL d).length = 12 := by simp [monL]
theorem ends_len (c : Cal) (y : Int) (hok : c.okB = true) : ((endsL c y).length : Int) = perV c := by
  have hper : perV c = manyP c.shape c.cycle := by simp [perV, hok]
  unfold endsL
  split
  · rename_i h; rw [sun_len, hper]; simp [manyP, h]
  · split
    · rename_i h; rw [mon_len, hper]; simp [manyP, h]
    · have := per_bounds c hok
      simp
      omega
theorem from_succ (c : Cal) (y : Int) (k : Nat) : fromAt c y (k + 1) = endAt c y k + 1 := by
  unfold fromAt endAt
  rw [if_neg (by omega)]
  simp
theorem period_1 (c : Cal) (y : Int) (hE : askE c y 1601 = 0) (k : Nat) (hk : k < (endsL c y).length) :
    7 ≤ endAt c y k - fromAt c y k + 1 ∧ endAt c y k - fromAt c y k + 1 ≤ 42 ∧ (c.kind ≠ 6 → (endAt c y k - fromAt c y k + 1) % 7 = 0) := by
  obtain ⟨hok, hy1, hy2⟩ := ask_ok hE
  have hok2 : c.okB = true := by simpa [Cal.okB] using hok
  have hlen := ends_len c y hok2
  obtain ⟨s4, s6, _, _⟩ := ok_shape hok
  by_cases h4 : c.shape = 4
  · have hk4 : c.kind = 4 := s4.2 h4
    have eL : endsL c y = sunL y := by simp [endsL, h4]
    rw [eL, sun_len] at hk
    have eA : endAt c y k = lastV y ((k : Int) + 1) 7 := by unfold endAt; rw [eL]; simp [sunL, sunF, hk]
    have eF : fromAt c y k = (if k = 0 then lastV (y - 1) 12 7 else lastV y (k : Int) 7) + 1 := by
      unfold fromAt
      split
      · obtain ⟨_, _, _, hr⟩ := hok
        unfold Cal.ruled Cal.weeks weeksP Cal.pat0 at hr
        have hm : c.month = 12 ∧ c.day = 7 ∧ c.shift = 0 := by omega
        have ht : thereB (y - 1) 12 = true := by simp [thereB]; omega
        have e1 : y - 1 + c.shift = y - 1 := by omega
        rw [last_eq (y - 1) 12 ht]
        simp [startV, hE, finV, hk4, e1, hm.1, hm.2.1]
      · rename_i h0
        rw [eL]
        have e1 : ((k - 1 : Nat) : Int) + 1 = k := by omega
        simp [sunL, sunF, show k - 1 < 12 by omega, e1]
    rw [eA, eF]
    split
    · rename_i h0
      subst h0
      have := last_year (y - 1) (by omega) (by omega)
      have e1 : y - 1 + 1 = y := by omega
      rw [e1] at this
      simp
      omega
    · have := last_next y k (by omega) (by omega) (by omega) (by omega)
      omega
  · by_cases h5 : c.shape = 5
    · have hk6 : c.kind = 6 := s6.2 h5
      obtain ⟨hm, hs, _, _⟩ := ok_rule hok
      have eL : endsL c y = monL (startV c y) := by simp [endsL, h5]
      rw [eL, mon_len] at hk
      have b1 : 19200 ≤ mOf c y ∧ mOf c y + 12 < 120000 := by unfold mOf; omega
      have eA : ∀ j : Nat, j < 12 → endAt c y j = mFirst (mOf c y + j + 1) - 1 := by
        intro j hj
        unfold endAt
        rw [eL, start_mFirst c y hE hk6]
        have := monS_mFirst (mOf c y) b1.1 (j + 1) (by omega)
        simp [monL, monF, hj, this]
        congr 1
        omega
      have eF : fromAt c y k = mFirst (mOf c y + k) := by
        cases k with
        | zero => simp [fromAt, start_mFirst c y hE hk6]
        | succ k =>
          rw [from_succ, eA k (by omega)]
          have e1 : mOf c y + ((k + 1 : Nat) : Int) = mOf c y + k + 1 := by omega
          rw [e1]
          omega
      have hs2 := mFirst_succ (mOf c y + k) (by omega) (by omega)
      have ht := mFirst_there (mOf c y + k) (by omega) (by omega)
      have l1 := len_lo _ _ ht
      have l2 := len_bd ((mOf c y + k) / 12) ((mOf c y + k) % 12 + 1)
      rw [eA k hk, eF, ← hs2]
      exact ⟨by omega, by omega, fun h => absurd hk6 h⟩
    · have hk6 : c.kind ≠ 6 := fun e => h5 (s6.1 e)
      have eL : endsL c y = (List.range (perV c).toNat).map fun i => wkDay c y (i + 1) - 1 := by simp [endsL, h4, h5]
      have hwc := week_cal hok h4 h5
      have hdw := days_weeks c y hE hk6
      have hwv : wksV c y = daysV c y / 7 := by simp [wksV, wksB, hok2, hk6]
      have hwk : wksV c y = 52 ∨ wksV c y = 53 := by omega
      have hlb := lenAt_bd c (wksV c y) k hwc hwk
      rw [eL] at hk
      simp at hk
      have eA : ∀ j : Nat, (j : Int) < perV c → endAt c y j = wkDay c y (j + 1) - 1 := by
        intro j hj
        unfold endAt
        rw [eL]
        simp [hj]
      have eF : fromAt c y k = wkDay c y k := by
        cases k with
        | zero => simp [fromAt, wkDay]
        | succ k => rw [from_succ, eA k (by omega)]; omega
      have hst : wkDay c y (k + 1) = wkDay c y k + 7 * lenAt c (wksV c y) k := rfl
      rw [eA k hk, eF, hst]
      exact ⟨by omega, by omega, fun _ => by omega⟩
theorem from_bd (c : Cal) (y : Int) (hE : askE c y 1601 = 0) (k : Nat) (hk : k ≤ (endsL c y).length) : startV c y ≤ fromAt c y k ∧ fromAt c y k ≤ startV c y + 42 * k := by
  induction k with
  | zero => simp [fromAt]
  | succ k ih =>
    have h1 := ih (by omega)
    have h2 := period_1 c y hE k (by omega)
    rw [from_succ]
    omega
end Go.Proofs.Ytojdngkleiokgaa
