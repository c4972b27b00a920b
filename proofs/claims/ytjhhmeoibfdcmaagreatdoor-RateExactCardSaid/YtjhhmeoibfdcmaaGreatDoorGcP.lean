/- The plain law of the binary common divisor. -/
import Derived.Test.YtjhhmeoibfdcmaaGreatDoorBase
import Derived.Lib.TrailingZeros
namespace Go.Proofs.YtjhhmeoibfdcmaaGreatDoor
open Go.RowKit
set_option linter.unusedSimpArgs false
set_option linter.unusedVariables false

theorem ctz_spec {x : Nat} (h0 : 0 < x) (h : x < 18446744073709551616) : ∃ m, x = 2 ^ Lib.ctz 64 x * (2 * m + 1) ∧ Lib.ctz 64 x < 64 := by
  obtain ⟨m, hm, hk⟩ := Lib.ctzFrom_spec 64 x h0 (by simpa using h)
  have e : Lib.ctz 64 x = Lib.ctzFrom 64 x := by simp [Lib.ctz]; omega
  rw [e]
  exact ⟨m, hm, hk⟩
/-- Without its twos. -/
def odd (x : Nat) : Nat := x / 2 ^ Lib.ctz 64 x
theorem odd_spec {x : Nat} (h0 : 0 < x) (h : x < 18446744073709551616) : x = 2 ^ Lib.ctz 64 x * odd x ∧ odd x % 2 = 1 ∧ Lib.ctz 64 x < 64 ∧ odd x ≤ x ∧ 0 < odd x := by
  obtain ⟨m, hm, hk⟩ := ctz_spec h0 h
  have hp : 0 < 2 ^ Lib.ctz 64 x := Nat.pow_pos (by decide)
  have e : odd x = 2 * m + 1 := by
    unfold odd
    exact Nat.div_eq_of_eq_mul_right hp hm
  exact ⟨by rw [e]; exact hm, by omega, hk, Nat.div_le_self _ _, by omega⟩
theorem cop_two {x : Nat} (h : x % 2 = 1) (k : Nat) : Nat.Coprime (2 ^ k) x := by
  refine Nat.Coprime.pow_left k ?_
  rw [Nat.coprime_comm]
  unfold Nat.Coprime
  have h1 := Nat.gcd_dvd_right x 2
  have h2 := Nat.gcd_dvd_left x 2
  have h3 : Nat.gcd x 2 ≤ 2 := Nat.le_of_dvd (by decide) h1
  have h4 : 0 < Nat.gcd x 2 := Nat.gcd_pos_of_pos_right _ (by decide)
  rcases (show Nat.gcd x 2 = 1 ∨ Nat.gcd x 2 = 2 by omega) with h5 | h5
  · exact h5
  · rw [h5] at h2
    omega
theorem gcd_odd {x y : Nat} (hx : x % 2 = 1) (h0 : 0 < y) (h : y < 18446744073709551616) : Nat.gcd x (odd y) = Nat.gcd x y := by
  obtain ⟨e, _⟩ := odd_spec h0 h
  conv => rhs; rw [e]
  rw [Nat.gcd_comm x, Nat.gcd_comm x, Nat.Coprime.gcd_mul_left_cancel _ (cop_two hx _)]
theorem gcd_min {x y : Nat} : Nat.gcd (min x y) (max x y - min x y) = Nat.gcd x y := by
  rcases Nat.le_total x y with h | h
  · rw [Nat.min_eq_left h, Nat.max_eq_right h]
    conv => rhs; rw [show y = (y - x) + x by omega]
    simp
  · rw [Nat.min_eq_right h, Nat.max_eq_left h, Nat.gcd_comm x]
    conv => rhs; rw [show x = (x - y) + y by omega]
    simp
theorem or_dvd (x y k : Nat) : (2 ^ k ∣ (x ||| y)) ↔ (2 ^ k ∣ x ∧ 2 ^ k ∣ y) := by
  rw [Nat.dvd_iff_mod_eq_zero, Nat.dvd_iff_mod_eq_zero, Nat.dvd_iff_mod_eq_zero, Nat.or_mod_two_pow, Nat.or_eq_zero_iff]
theorem gcd_twos {x y : Nat} (hx : 0 < x) (hx2 : x < 18446744073709551616) (hy : 0 < y) (hy2 : y < 18446744073709551616) : Nat.gcd (odd x) y * 2 ^ Lib.ctz 64 (x ||| y) = Nat.gcd x y ∧ 0 < x ||| y ∧ x ||| y < 18446744073709551616 := by
  have ho : x ||| y < 2 ^ 64 := Nat.or_lt_two_pow (by simpa using hx2) (by simpa using hy2)
  have h0 : 0 < x ||| y := by
    rcases Nat.eq_zero_or_pos (x ||| y) with h | h
    · rw [Nat.or_eq_zero_iff] at h; omega
    · exact h
  refine ⟨?_, h0, by simpa using ho⟩
  obtain ⟨m, hm, _⟩ := ctz_spec h0 (by simpa using ho)
  obtain ⟨ex, ox, _, _, px⟩ := odd_spec hx hx2
  generalize Lib.ctz 64 (x ||| y) = t at *
  have hd : 2 ^ t ∣ (x ||| y) := ⟨_, hm⟩
  have hnd : ¬ 2 ^ (t + 1) ∣ (x ||| y) := by
    rintro ⟨q, hq⟩
    rw [hm, Nat.pow_succ, Nat.mul_assoc] at hq
    have := Nat.eq_of_mul_eq_mul_left (Nat.pow_pos (by decide : 0 < 2)) hq
    omega
  rw [or_dvd] at hd hnd
  obtain ⟨⟨x1, h1⟩, ⟨y1, h2⟩⟩ := hd
  have hp : 0 < 2 ^ t := Nat.pow_pos (by decide)
  -- not both are even
  have hodd : x1 % 2 = 1 ∨ y1 % 2 = 1 := by
    rcases Nat.mod_two_eq_zero_or_one x1 with h3 | h3
    · rcases Nat.mod_two_eq_zero_or_one y1 with h4 | h4
      · exact absurd ⟨⟨x1 / 2, by rw [h1, Nat.pow_succ, Nat.mul_assoc]; congr 1; omega⟩, ⟨y1 / 2, by rw [h2, Nat.pow_succ, Nat.mul_assoc]; congr 1; omega⟩⟩ hnd
      · exact .inr h4
    · exact .inl h3
  have e1 : Nat.gcd (odd x) y = Nat.gcd (odd x) y1 := by
    rw [h2, Nat.gcd_comm, Nat.gcd_comm (odd x), Nat.Coprime.gcd_mul_left_cancel _ (cop_two ox t)]
  have e2 : Nat.gcd x y = 2 ^ t * Nat.gcd x1 y1 := by
    conv => lhs; rw [h1, h2]
    exact Nat.gcd_mul_left _ _ _
  -- x1 is the odd part of x times some power of 2
  have hle : t ≤ Lib.ctz 64 x := by
    rcases Nat.lt_or_ge (Lib.ctz 64 x) t with h3 | h3
    · exfalso
      obtain ⟨d, hdd⟩ : ∃ d, t = Lib.ctz 64 x + (d + 1) := ⟨t - Lib.ctz 64 x - 1, by omega⟩
      rw [hdd, Nat.pow_add, Nat.mul_assoc] at h1
      have h4 := Nat.eq_of_mul_eq_mul_left (Nat.pow_pos (by decide : 0 < 2)) (ex.symm.trans h1)
      rw [Nat.pow_succ] at h4
      have : odd x % 2 = 0 := by rw [h4, Nat.mul_comm (2 ^ d), Nat.mul_assoc]; omega
      omega
    · exact h3
  obtain ⟨d, hdd⟩ : ∃ d, Lib.ctz 64 x = t + d := ⟨Lib.ctz 64 x - t, by omega⟩
  have e3 : x1 = 2 ^ d * odd x := by
    rw [hdd, Nat.pow_add, Nat.mul_assoc] at ex
    exact Nat.eq_of_mul_eq_mul_left hp (h1.symm.trans ex)
  have e4 : Nat.gcd x1 y1 = Nat.gcd (odd x) y1 := by
    rcases hodd with h3 | h3
    · have hd0 : d = 0 := by
        rcases Nat.eq_zero_or_pos d with h5 | h5
        · exact h5
        · obtain ⟨d', rfl⟩ : ∃ d', d = d' + 1 := ⟨d - 1, by omega⟩
          rw [Nat.pow_succ, Nat.mul_comm (2 ^ d'), Nat.mul_assoc] at e3
          omega
      rw [e3, hd0]; simp
    · rw [e3, Nat.Coprime.gcd_mul_left_cancel _ (cop_two h3 d)]
  rw [e1, e2, e4, Nat.mul_comm]
end Go.Proofs.YtjhhmeoibfdcmaaGreatDoor
