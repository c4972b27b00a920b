/- The day's year and month, found: no program in sight. -/
import Derived.Test.YtepmfpgljcbkmaaPlainC
set_option linter.unusedSimpArgs false
set_option linter.unusedVariables false
namespace Qd
theorem guess_ok (day : Int) (h0 : 0 ≤ day) (h1 : day < 3068037) :
    1600 ≤ guess day ∧ guess day ≤ 9999 ∧ day < yearsV (guess day + 1) ∧ (yearsV (guess day) ≤ day ∨ (1601 ≤ guess day ∧ yearsV (guess day - 1) ≤ day)) := by
  obtain ⟨a, ha⟩ : ∃ a, a = day / 146097 := ⟨_, rfl⟩
  obtain ⟨r1, hr1⟩ : ∃ r, r = day % 146097 := ⟨_, rfl⟩
  obtain ⟨b, hb⟩ : ∃ b, b = r1 / 36524 := ⟨_, rfl⟩
  obtain ⟨r2, hr2⟩ : ∃ r, r = r1 % 36524 := ⟨_, rfl⟩
  obtain ⟨c, hc⟩ : ∃ c, c = r2 / 1461 := ⟨_, rfl⟩
  obtain ⟨r3, hr3⟩ : ∃ r, r = r2 % 1461 := ⟨_, rfl⟩
  obtain ⟨e, he⟩ : ∃ e, e = r3 / 365 := ⟨_, rfl⟩
  have hg : guess day = min (1600 + a * 400 + b * 100 + c * 4 + e) 9999 := by
    unfold guess
    rw [he, hr3, hc, hr2, hb, hr1, ha]
  have b1 : 0 ≤ a ∧ a ≤ 20 := by omega
  have b2 : 0 ≤ r1 ∧ r1 < 146097 ∧ day = 146097 * a + r1 := by omega
  have b3 : 0 ≤ b ∧ b ≤ 4 ∧ 0 ≤ r2 ∧ r2 < 36524 ∧ r1 = 36524 * b + r2 := by omega
  have b4 : 0 ≤ c ∧ c ≤ 24 ∧ 0 ≤ r3 ∧ r3 < 1461 ∧ r2 = 1461 * c + r3 := by omega
  have b5 : 0 ≤ e ∧ e ≤ 4 ∧ 365 * e ≤ r3 ∧ r3 < 365 * e + 365 := by omega
  clear ha hr1 hb hr2 hc hr3 he
  have Y : ∀ k, yearsV (1600 + k) = k * 365 + ((k + 3) / 4 - (k + 99) / 100 + (k + 399) / 400) := by
    intro k; unfold yearsV; congr 2 <;> omega
  have hcase : 400 * a + 100 * b + 4 * c + e ≤ 8399 ∨ 400 * a + 100 * b + 4 * c + e = 8400 := by omega
  rcases hcase with hn1 | hn1
  · have hg3 : guess day = 1600 + (400 * a + 100 * b + 4 * c + e) := by rw [hg]; omega
    rw [hg3]
    have e1 : (1600 : Int) + (400 * a + 100 * b + 4 * c + e) + 1 = 1600 + (400 * a + 100 * b + 4 * c + e + 1) := by omega
    have e2 : (1600 : Int) + (400 * a + 100 * b + 4 * c + e) - 1 = 1600 + (400 * a + 100 * b + 4 * c + e - 1) := by omega
    rw [e1, e2, Y, Y, Y]
    clear hg hg3 e1 e2 Y h0 h1
    have he5 : e = 0 ∨ e = 1 ∨ e = 2 ∨ e = 3 ∨ e = 4 := by omega
    have hb5 : b = 0 ∨ b = 1 ∨ b = 2 ∨ b = 3 ∨ b = 4 := by omega
    have hc2 : c = 0 ∨ (1 ≤ c ∧ c ≤ 23) ∨ c = 24 := by omega
    rcases he5 with rfl | rfl | rfl | rfl | rfl <;> rcases hb5 with rfl | rfl | rfl | rfl | rfl <;> rcases hc2 with rfl | hc2 | rfl <;> omega
  · have hg3 : guess day = 9999 := by rw [hg]; omega
    rw [hg3]
    have e0 : yearsV 9999 = 3067672 := by decide
    have e1 : yearsV (9999 + 1) = 3068037 := by decide
    have e2 : yearsV (9999 - 1) = 3067307 := by decide
    rw [e0, e1, e2]
    omega

theorem ofY_ok (day : Int) (h0 : 0 ≤ day) (h1 : day < 3068037) : 1600 ≤ ofY day ∧ ofY day ≤ 9999 ∧ yearsV (ofY day) ≤ day ∧ day < yearsV (ofY day + 1) := by
  obtain ⟨g1, g2, g3, g4⟩ := guess_ok day h0 h1
  unfold ofY
  split
  · rename_i h
    have e : guess day - 1 + 1 = guess day := by omega
    rw [e]
    omega
  · omega

theorem mDown_ok (y left : Int) (h0 : 0 ≤ left) : ∀ k : Nat, 1 ≤ k → k ≤ 12 → left < aheadV y (k + 1) →
    1 ≤ mDown y left k ∧ mDown y left k ≤ k ∧ aheadV y (mDown y left k) ≤ left ∧ left < aheadV y (mDown y left k + 1)
  | 0, h, _, _ => by omega
  | k + 1, _, h2, h3 => by
    unfold mDown
    split
    · rename_i h
      exact ⟨by omega, by omega, h, by simpa using h3⟩
    · rename_i h
      have hk : 1 ≤ k := by
        rcases Nat.eq_zero_or_pos k with h5 | h5
        · exfalso
          subst h5
          have h6 := ahead_1 y
          simp at h
          omega
        · exact h5
      have := mDown_ok y left h0 k hk (by omega) (by omega)
      omega

theorem of_ok (day : Int) (h : isB day = true) :
    dateB (ofY day) (ofM day) (ofD day) = true ∧ dayN (ofY day) (ofM day) (ofD day) = day := by
  have hd : 0 ≤ day ∧ day < 3068037 := by simpa [isB] using h
  obtain ⟨y1, y2, y3, y4⟩ := ofY_ok day hd.1 hd.2
  have hs := years_succ (ofY day) y1 y2
  have h13 := ahead_13 (ofY day)
  obtain ⟨m1, m2, m3, m4⟩ := mDown_ok (ofY day) (day - yearsV (ofY day)) (by omega) 12 (by omega) (by omega) (by have : ((12 : Nat) : Int) + 1 = 13 := rfl; rw [this, h13]; omega)
  have ht : thereB (ofY day) (ofM day) = true := by
    unfold ofM
    simp only [thereB, decide_eq_true_eq]
    omega
  refine ⟨?_, ?_⟩
  · unfold dateB
    rw [ht]
    have hl : lenV (ofY day) (ofM day) = aheadV (ofY day) (ofM day + 1) - aheadV (ofY day) (ofM day) := by unfold lenV; rw [if_pos ht]
    rw [hl]
    unfold ofD ofM
    simp only [Bool.true_and, decide_eq_true_eq]
    omega
  · unfold dayN ofD
    omega
theorem ahead_le (y a b : Int) (h1 : 1 ≤ a) (h : a < b) (h2 : b ≤ 13) : aheadV y a + 28 ≤ aheadV y b := by
  have h12 : ∀ n : Nat, ∀ a : Int, 1 ≤ a → a + n + 1 ≤ 13 → aheadV y a + 28 ≤ aheadV y (a + n + 1) := by
    intro n
    induction n with
    | zero => intro a ha hb; simpa using ahead_mono y a ha (by omega)
    | succ n ih =>
      intro a ha hb
      have h3 := ih a ha (by omega)
      have h4 := ahead_mono y (a + n + 1) (by omega) (by omega)
      have e : a + ((n + 1 : Nat) : Int) + 1 = a + n + 1 + 1 := by omega
      rw [e]
      omega
  have := h12 (b - a - 1).toNat a h1 (by omega)
  have e : a + ((b - a - 1).toNat : Int) + 1 = b := by omega
  rwa [e] at this
/-- A day has one date. -/
theorem dayN_inj {y m d y' m' d' : Int} (h : dateB y m d = true) (h' : dateB y' m' d' = true) (e : dayN y m d = dayN y' m' d') : y = y' ∧ m = m' ∧ d = d' := by
  have key : ∀ {y m d : Int}, dateB y m d = true → 1600 ≤ y ∧ y ≤ 9999 ∧ 1 ≤ m ∧ m ≤ 12 ∧ 1 ≤ d ∧ aheadV y m + d ≤ aheadV y (m + 1) ∧ aheadV y (m + 1) ≤ aheadV y 13 ∧ 0 ≤ aheadV y m ∧ yearsV y + aheadV y 13 = yearsV (y + 1) := by
    intro y m d h
    simp only [dateB, Bool.and_eq_true, decide_eq_true_eq] at h
    obtain ⟨ht, hd1, hd2⟩ := h
    have hl : lenV y m = aheadV y (m + 1) - aheadV y m := by unfold lenV; rw [if_pos ht]
    have ht2 : 1600 ≤ y ∧ y ≤ 9999 ∧ 1 ≤ m ∧ m ≤ 12 := by simpa [thereB] using ht
    have h13 := ahead_13 y
    have hs := years_succ y ht2.1 ht2.2.1
    have hb := ahead_bd y m
    have hm : aheadV y (m + 1) ≤ aheadV y 13 := by
      rcases Int.lt_or_eq_of_le (show m + 1 ≤ 13 by omega) with h5 | h5
      · have := ahead_le y (m + 1) 13 (by omega) h5 (by omega); omega
      · rw [h5]; omega
    omega
  have k := key h
  have k' := key h'
  unfold dayN at e
  have hy : y = y' := by
    rcases Int.lt_trichotomy y y' with h5 | h5 | h5
    · have := years_mono (y + 1) y' (by omega) (by omega); omega
    · exact h5
    · have := years_mono (y' + 1) y (by omega) (by omega); omega
  subst hy
  have hm : m = m' := by
    rcases Int.lt_trichotomy m m' with h5 | h5 | h5
    · rcases Int.lt_or_eq_of_le (show m + 1 ≤ m' by omega) with h6 | h6
      · have := ahead_le y (m + 1) m' (by omega) h6 (by omega); omega
      · subst h6; omega
    · exact h5
    · rcases Int.lt_or_eq_of_le (show m' + 1 ≤ m by omega) with h6 | h6
      · have := ahead_le y (m' + 1) m (by omega) h6 (by omega); omega
      · subst h6; omega
  subst hm
  exact ⟨rfl, rfl, by omega⟩
theorem dayN_bd {y m d : Int} (h : dateB y m d = true) : isB (dayN y m d) = true := by
  simp only [dateB, Bool.and_eq_true, decide_eq_true_eq] at h
  obtain ⟨ht, hd1, hd2⟩ := h
  have hl : lenV y m = aheadV y (m + 1) - aheadV y m := by unfold lenV; rw [if_pos ht]
  have ht2 : 1600 ≤ y ∧ y ≤ 9999 ∧ 1 ≤ m ∧ m ≤ 12 := by simpa [thereB] using ht
  have h13 := ahead_13 y
  have hs := years_succ y ht2.1 ht2.2.1
  have hb := ahead_bd y m
  have hy := years_bd y ht2.1 (by omega)
  have hy2 := years_bd (y + 1) (by omega) (by omega)
  have hm : aheadV y (m + 1) ≤ aheadV y 13 := by
    rcases Int.lt_or_eq_of_le (show m + 1 ≤ 13 by omega) with h5 | h5
    · have := ahead_le y (m + 1) 13 (by omega) h5 (by omega); omega
    · rw [h5]; omega
  unfold isB dayN
  rw [decide_eq_true_eq]
  omega
/-- The date of a day that was made of a date. -/
theorem of_dayN {y m d : Int} (h : dateB y m d = true) : ofY (dayN y m d) = y ∧ ofM (dayN y m d) = m ∧ ofD (dayN y m d) = d := by
  obtain ⟨h1, h2⟩ := of_ok _ (dayN_bd h)
  exact dayN_inj h1 h h2
end Qd
