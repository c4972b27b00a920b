/- How a year's periods lie: the plain law behind shape.Ends. -/
import Derived.Test.YtepmfpgljcbkmaaEndsB
namespace Go.Proofs.Ytepmfpgljcbkmaa
open Go.RowKit Qd
set_option linter.unusedSimpArgs false
set_option linter.unusedVariables false

/-- The first day of the period behind k of them. -/
def fromAt (c : Cal) (y : Int) (k : Nat) : Int := if k = 0 then startV c y else (endsL c y)[k - 1]?.getD 0 + 1
def endAt (c : Cal) (y : Int) (k : Nat) : Int := (endsL c y)[k]?.getD 0

theorem patN_sum (c : Cal) (wk : Int) (y0 : Int) (hx : 1 ≤ c.extra) (f : Nat → Int) (h0 : f 0 = y0) (hs : ∀ k, f (k + 1) = f k + 7 * lenAt c wk k) (k : Nat) :
    f k = y0 + 7 * (((k / 3 : Nat) : Int) * (pat0 c + pat1 c + pat2 c) + (if 1 ≤ k % 3 then pat0 c else 0) + (if 2 ≤ k % 3 then pat1 c else 0)) + 7 * (if c.extra ≤ (k : Int) then wk - 52 else 0) := by
  induction k with
  | zero =>
    rw [h0]
    rw [if_neg (by omega), if_neg (by omega), if_neg (by omega)]
    simp
  | succ k ih =>
    rw [hs, ih]
    have h3 : k % 3 = 0 ∨ k % 3 = 1 ∨ k % 3 = 2 := by omega
    unfold lenAt patN
    have hex : (if c.extra ≤ ((k + 1 : Nat) : Int) then wk - 52 else 0) = (if c.extra ≤ (k : Int) then wk - 52 else 0) + (if (k : Int) + 1 = c.extra then wk - 52 else 0) := by
      split <;> split <;> split <;> omega
    rw [hex]
    rcases h3 with h3 | h3 | h3
    · have e1 : (k + 1) % 3 = 1 := by omega
      have e2 : (k + 1) / 3 = k / 3 := by omega
      simp only [h3, e1, e2]
      simp
      omega
    · have e1 : (k + 1) % 3 = 2 := by omega
      have e2 : (k + 1) / 3 = k / 3 := by omega
      simp only [h3, e1, e2]
      simp
      omega
    · have e1 : (k + 1) % 3 = 0 := by omega
      have e2 : (k + 1) / 3 = k / 3 + 1 := by omega
      simp only [h3, e1, e2]
      simp
      rw [Int.add_mul]
      omega
/-- A year of weeks ends with its last period. -/
theorem wkDay_end (c : Cal) (y : Int) (hE : askE c y 1601 = 0) (h4 : ¬ c.shape = 4) (h5 : ¬ c.shape = 5) : wkDay c y (perV c).toNat = endV c y + 1 := by
  obtain ⟨hok, hy1, hy2⟩ := ask_ok hE
  have hok2 : c.okB = true := by simpa [Cal.okB] using hok
  have hk6 : c.kind ≠ 6 := fun e => h5 ((ok_shape hok).2.1.1 e)
  have hdw := days_weeks c y hE hk6
  have hwb : wksB c = true := by simp [wksB, hok2, hk6]
  have hwv : wksV c y = daysV c y / 7 := by simp [wksV, hwb]
  have hD : daysV c y = endV c y - startV c y + 1 := by simp [daysV, hE]
  have hper : perV c = manyP c.shape c.cycle := by simp [perV, hok2]
  obtain ⟨_, _, _, hr⟩ := hok
  unfold Cal.ruled Cal.weeks weeksP Cal.pat0 at hr
  have hx : 1 ≤ c.extra ∧ c.extra ≤ manyP c.shape c.cycle ∧ ((c.shape = 1 ∧ c.p0 + c.p1 + c.p2 = 13) ∨ c.shape = 2 ∨ (c.shape = 3 ∧ (c.cycle = 1 ∨ c.cycle = 2 ∨ c.cycle = 4))) := by
    have m1 : c.shape = 1 → manyP c.shape c.cycle = 12 := by intro h; simp [manyP, h]
    omega
  obtain ⟨hx1, hx2, hx3⟩ := hx
  have hs := patN_sum c (wksV c y) (startV c y) hx1 (wkDay c y) rfl (fun _ => rfl) (perV c).toNat
  rw [hs, hper]
  rcases hx3 with ⟨hsh, hp⟩ | hsh | ⟨hsh, hcy | hcy | hcy⟩
  · have em : manyP c.shape c.cycle = 12 := by simp [manyP, hsh]
    rw [em] at hx2 ⊢
    rw [if_pos (show c.extra ≤ ((12 : Int).toNat : Int) by simpa using hx2)]
    simp [pat0, pat1, pat2, hsh]
    omega
  · have em : manyP c.shape c.cycle = 13 := by simp [manyP, hsh]
    rw [em] at hx2 ⊢
    rw [if_pos (show c.extra ≤ ((13 : Int).toNat : Int) by simpa using hx2)]
    simp [pat0, pat1, pat2, hsh]
    omega
  · have em : manyP c.shape c.cycle = 52 := by simp [manyP, hsh, hcy]
    rw [em] at hx2 ⊢
    rw [if_pos (show c.extra ≤ ((52 : Int).toNat : Int) by simpa using hx2)]
    simp [pat0, pat1, pat2, hsh, hcy]
    omega
  · have em : manyP c.shape c.cycle = 26 := by simp [manyP, hsh, hcy]
    rw [em] at hx2 ⊢
    rw [if_pos (show c.extra ≤ ((26 : Int).toNat : Int) by simpa using hx2)]
    simp [pat0, pat1, pat2, hsh, hcy]
    omega
  · have em : manyP c.shape c.cycle = 13 := by simp [manyP, hsh, hcy]
    rw [em] at hx2 ⊢
    rw [if_pos (show c.extra ≤ ((13 : Int).toNat : Int) by simpa using hx2)]
    simp [pat0, pat1, pat2, hsh, hcy]
    omega
end Go.Proofs.Ytepmfpgljcbkmaa
