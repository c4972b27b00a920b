/- The plain law of sums of ratios in lowest terms: the sum of two exact shares is the exact share of both. -/
import Derived.Test.YtjhhmeoibfdcmaaGreatDoorRtF
namespace Go.Proofs.YtjhhmeoibfdcmaaGreatDoor
open Go.RowKit Qd
set_option linter.unusedSimpArgs false
set_option linter.unusedVariables false

/-- Lowest terms are one. -/
theorem low_uniq {P P' : Int} {Q Q' : Nat} (hQ : 0 < Q) (hQ' : 0 < Q') (h : Nat.gcd P.natAbs Q = 1) (h' : Nat.gcd P'.natAbs Q' = 1) (e : P * Q' = P' * Q) : P = P' ∧ Q = Q' := by
  have e2 : P.natAbs * Q' = P'.natAbs * Q := by
    have := congrArg Int.natAbs e
    simpa [Int.natAbs_mul] using this
  have d1 : Q ∣ Q' := by
    have hc : Nat.Coprime Q P.natAbs := by rw [Nat.coprime_comm]; exact h
    exact hc.dvd_of_dvd_mul_left (by rw [e2]; exact Nat.dvd_mul_left _ _)
  have d2 : Q' ∣ Q := by
    have hc : Nat.Coprime Q' P'.natAbs := by rw [Nat.coprime_comm]; exact h'
    exact hc.dvd_of_dvd_mul_left (by rw [← e2]; exact Nat.dvd_mul_left _ _)
  have eq := Nat.dvd_antisymm d1 d2
  subst eq
  exact ⟨Int.eq_of_mul_eq_mul_right (by omega) e, rfl⟩
/-- What a sum of two ratios comes to. -/
def adG (Q D : Nat) : Nat := Nat.gcd Q D
def adT (P N : Int) (Q D : Nat) : Int := P * ((D / adG Q D : Nat) : Int) + N * ((Q / adG Q D : Nat) : Int)
def adK (P N : Int) (Q D : Nat) : Nat := Nat.gcd (adT P N Q D).natAbs (adG Q D)
def adN (P N : Int) (Q D : Nat) : Int := adT P N Q D / (adK P N Q D : Int)
def adM (P N : Int) (Q D : Nat) : Nat := Q / adG Q D * (D / adK P N Q D)
theorem cop_part {P N : Int} {q d g : Nat} (hP : Nat.gcd P.natAbs (g * q) = 1) (hqd : Nat.gcd q d = 1) : Nat.Coprime (P * (d : Int) + N * (q : Int)).natAbs q := by
  have e1 := Nat.gcd_dvd_left (P * (d : Int) + N * (q : Int)).natAbs q
  have e2 := Nat.gcd_dvd_right (P * (d : Int) + N * (q : Int)).natAbs q
  unfold Nat.Coprime
  generalize Nat.gcd (P * (d : Int) + N * (q : Int)).natAbs q = e at *
  have a1 : (e : Int) ∣ P * (d : Int) + N * (q : Int) := Int.ofNat_dvd_left.2 e1
  have a2 : (e : Int) ∣ N * (q : Int) := Int.dvd_mul_of_dvd_right (Int.natCast_dvd_natCast.2 e2)
  have a3 : (e : Int) ∣ P * (d : Int) := by
    have h := Int.dvd_sub a1 a2
    rwa [show P * (d : Int) + N * (q : Int) - N * (q : Int) = P * (d : Int) by omega] at h
  have a4 : e ∣ P.natAbs * d := by
    have h := Int.ofNat_dvd_left.1 a3
    rwa [Int.natAbs_mul, Int.natAbs_natCast] at h
  have hc : Nat.Coprime e P.natAbs := by
    have h1 : Nat.Coprime P.natAbs q := Nat.Coprime.coprime_mul_left_right (k := g) hP
    exact Nat.Coprime.coprime_dvd_left e2 h1.symm
  have a5 : e ∣ d := hc.dvd_of_dvd_mul_left a4
  have a6 : e ∣ Nat.gcd q d := Nat.dvd_gcd e2 a5
  rw [hqd] at a6
  exact Nat.dvd_one.1 a6
theorem ad_law {P N : Int} {Q D : Nat} (hQ : 0 < Q) (hD : 0 < D) (h1 : Nat.gcd P.natAbs Q = 1) (h2 : Nat.gcd N.natAbs D = 1) :
    0 < adM P N Q D ∧ Nat.gcd (adN P N Q D).natAbs (adM P N Q D) = 1 ∧ adN P N Q D * ((Q : Int) * D) = (P * D + N * Q) * (adM P N Q D : Int) := by
  have hg : 0 < adG Q D := Nat.gcd_pos_of_pos_left _ hQ
  obtain ⟨q, hQe⟩ : ∃ q, Q = adG Q D * q := Nat.gcd_dvd_left Q D
  obtain ⟨d, hDe⟩ : ∃ d, D = adG Q D * d := Nat.gcd_dvd_right Q D
  have hcop : Nat.gcd (Q / adG Q D) (D / adG Q D) = 1 := Nat.coprime_div_gcd_div_gcd hg
  have hqe : Q / adG Q D = q := Nat.div_eq_of_eq_mul_right hg hQe
  have hde : D / adG Q D = d := Nat.div_eq_of_eq_mul_right hg hDe
  unfold adN adM adK adT
  rw [hqe, hde] at hcop ⊢
  clear hqe hde
  generalize adG Q D = g at *
  subst hQe
  subst hDe
  have c1 := cop_part (N := N) h1 hcop
  have c2 : Nat.Coprime (P * (d : Int) + N * (q : Int)).natAbs d := by
    have h := cop_part (P := N) (N := P) (g := g) h2 (by rw [Nat.gcd_comm]; exact hcop)
    rwa [Int.add_comm] at h
  have hT : P * (d : Int) + N * (q : Int) = P * (d : Int) + N * (q : Int) := rfl
  have hTe : P * ((g * d : Nat) : Int) + N * ((g * q : Nat) : Int) = (g : Int) * (P * (d : Int) + N * (q : Int)) := by
    rw [Int.natCast_mul, Int.natCast_mul, Int.mul_add, ← Int.mul_assoc, ← Int.mul_assoc, ← Int.mul_assoc, ← Int.mul_assoc, Int.mul_comm P, Int.mul_comm N]
  rw [hTe]
  generalize P * (d : Int) + N * (q : Int) = t at *
  have hk0 : 0 < Nat.gcd t.natAbs g := Nat.gcd_pos_of_pos_right _ hg
  have c3 : Nat.gcd (t.natAbs / Nat.gcd t.natAbs g) (g / Nat.gcd t.natAbs g) = 1 := Nat.coprime_div_gcd_div_gcd hk0
  obtain ⟨u', hu'⟩ := Nat.gcd_dvd_left t.natAbs g
  obtain ⟨h, hh⟩ := Nat.gcd_dvd_right t.natAbs g
  obtain ⟨u, hu⟩ : ∃ u : Int, t = (Nat.gcd t.natAbs g : Int) * u := Int.ofNat_dvd_left.2 (Nat.gcd_dvd_left t.natAbs g)
  generalize hk : Nat.gcd t.natAbs g = k at *
  have hua : t.natAbs / k = u.natAbs := by rw [hu, Int.natAbs_mul, Int.natAbs_natCast, Nat.mul_div_cancel_left _ hk0]
  have hga : g / k = h := by rw [hh, Nat.mul_div_cancel_left _ hk0]
  rw [hua, hga] at c3
  have hn : t / (k : Int) = u := by rw [hu, Int.mul_ediv_cancel_left _ (by omega)]
  have hdk : g * d / k = h * d := by rw [hh, Nat.mul_assoc, Nat.mul_div_cancel_left _ hk0]
  rw [hn, hdk]
  have hut : u.natAbs ∣ t.natAbs := by rw [hu, Int.natAbs_mul]; exact Nat.dvd_mul_left _ _
  have c1' := Nat.Coprime.coprime_dvd_left hut c1
  have c2' := Nat.Coprime.coprime_dvd_left hut c2
  have hq0 : 0 < q := Nat.pos_of_ne_zero fun h0 => by simp [h0] at hQ
  have hd0 : 0 < d := Nat.pos_of_ne_zero fun h0 => by simp [h0] at hD
  have hh0 : 0 < h := Nat.pos_of_ne_zero fun h0 => by rw [h0, Nat.mul_zero] at hh; omega
  refine ⟨Nat.mul_pos hq0 (Nat.mul_pos hh0 hd0), ?_, ?_⟩
  · exact Nat.Coprime.mul_right c1' (Nat.Coprime.mul_right c3 c2')
  · rw [hu, hh]
    simp only [Int.natCast_mul]
    generalize (k : Int) = K
    generalize (h : Int) = H
    generalize (q : Int) = A
    generalize (d : Int) = B
    simp only [Int.mul_assoc, Int.mul_comm, Int.mul_left_comm]
theorem ex_low {a : Int} {X D : Nat} (hD : 0 < D) (hg : Nat.gcd X D = 1) : Nat.gcd (exN a X D).natAbs (exM a D) = 1 ∧ 0 < exM a D ∧ exN a X D * D = a * X * exM a D := by
  have hg0 : 0 < Nat.gcd a.natAbs D := Nat.gcd_pos_of_pos_right _ hD
  have c1 : Nat.gcd (a.natAbs / Nat.gcd a.natAbs D) (D / Nat.gcd a.natAbs D) = 1 := Nat.coprime_div_gcd_div_gcd hg0
  obtain ⟨q, hq⟩ : ∃ q, a.natAbs = Nat.gcd a.natAbs D * q := Nat.gcd_dvd_left _ _
  obtain ⟨m, hm⟩ : ∃ m, D = Nat.gcd a.natAbs D * m := Nat.gcd_dvd_right _ _
  have hqe : a.natAbs / Nat.gcd a.natAbs D = q := Nat.div_eq_of_eq_mul_right hg0 hq
  have hme : D / Nat.gcd a.natAbs D = m := Nat.div_eq_of_eq_mul_right hg0 hm
  unfold exN exP exM
  rw [hqe, hme] at c1 ⊢
  clear hqe hme
  generalize Nat.gcd a.natAbs D = g at *
  have c2 : Nat.Coprime X m := by
    have h : Nat.Coprime X (g * m) := by rw [← hm]; exact hg
    exact Nat.Coprime.coprime_mul_left_right h
  have c3 : Nat.gcd (q * X) m = 1 := Nat.Coprime.mul_left c1 c2
  have hm0 : 0 < m := Nat.pos_of_ne_zero fun h => by rw [h, Nat.mul_zero] at hm; omega
  refine ⟨?_, hm0, ?_⟩
  · split
    · rw [Int.natAbs_neg, Int.natAbs_natCast]; exact c3
    · rw [Int.natAbs_natCast]; exact c3
  · have hDc : (D : Int) = (g : Int) * (m : Int) := by rw [hm, Int.natCast_mul]
    rw [hDc]
    split
    · rename_i ha
      have e : a = -((g : Int) * (q : Int)) := by rw [← Int.natCast_mul, ← hq]; omega
      conv => rhs; rw [e]
      rw [Int.natCast_mul]
      generalize (g : Int) = G
      generalize (q : Int) = A
      generalize (m : Int) = M
      generalize (X : Int) = Y
      simp only [Int.neg_mul]
      congr 1
      simp only [Int.mul_assoc, Int.mul_comm, Int.mul_left_comm]
    · rename_i ha
      have e : a = (g : Int) * (q : Int) := by rw [← Int.natCast_mul, ← hq]; omega
      conv => rhs; rw [e]
      rw [Int.natCast_mul]
      generalize (g : Int) = G
      generalize (q : Int) = A
      generalize (m : Int) = M
      generalize (X : Int) = Y
      simp only [Int.mul_assoc, Int.mul_comm, Int.mul_left_comm]
/-- The lower part of an exact share. -/
def exDn (a n x : Int) : Nat := exM a (n.toNat / Nat.gcd x.toNat n.toNat)
theorem exQ_two (a n x : Int) : (exQ a n x).2 = (exDn a n x : Int) := rfl
theorem exQ_low {a n x : Int} (h0 : 0 ≤ x) (h1 : x ≤ n) (hn : 0 < n) (hn2 : n < 4294967296) :
    Nat.gcd (exQ a n x).1.natAbs (exDn a n x) = 1 ∧ 0 < exDn a n x ∧ exDn a n x < 4294967296 ∧ (exQ a n x).1 * n = a * x * (exDn a n x : Int) := by
  obtain ⟨e1, e2, f1, f2, f3, f4, f5, f6, f7⟩ := ex_facts h0 h1 hn hn2
  obtain ⟨g1, g2, g3⟩ := ex_low (a := a) (show 0 < n.toNat / Nat.gcd x.toNat n.toNat by omega) f7
  refine ⟨g1, g2, Nat.lt_of_le_of_lt (exM_le _ _) f5, ?_⟩
  show exN a (x.toNat / Nat.gcd x.toNat n.toNat) (n.toNat / Nat.gcd x.toNat n.toNat) * n = _
  unfold exDn
  obtain ⟨X, hX⟩ : ∃ X, x.toNat = Nat.gcd x.toNat n.toNat * X := Nat.gcd_dvd_left _ _
  obtain ⟨D, hD⟩ : ∃ D, n.toNat = Nat.gcd x.toNat n.toNat * D := Nat.gcd_dvd_right _ _
  have hg0 : 0 < Nat.gcd x.toNat n.toNat := Nat.gcd_pos_of_pos_right _ (by omega)
  have hXe : x.toNat / Nat.gcd x.toNat n.toNat = X := Nat.div_eq_of_eq_mul_right hg0 hX
  have hDe : n.toNat / Nat.gcd x.toNat n.toNat = D := Nat.div_eq_of_eq_mul_right hg0 hD
  rw [hXe, hDe] at g3 ⊢
  generalize Nat.gcd x.toNat n.toNat = g at *
  have ex : x = (g : Int) * (X : Int) := by rw [← Int.natCast_mul, ← hX]; exact e1
  have en : n = (g : Int) * (D : Int) := by rw [← Int.natCast_mul, ← hD]; exact e2
  conv => lhs; rw [en]
  conv => rhs; rw [ex]
  have g4 : (g : Int) * (exN a X D * (D : Int)) = (g : Int) * (a * (X : Int) * (exM a D : Int)) := by rw [g3]
  generalize exN a X D = N at *
  generalize (exM a D : Int) = M at *
  calc N * ((g : Int) * (D : Int)) = (g : Int) * (N * (D : Int)) := by simp only [Int.mul_assoc, Int.mul_comm, Int.mul_left_comm]
    _ = (g : Int) * (a * (X : Int) * M) := g4
    _ = a * ((g : Int) * (X : Int)) * M := by simp only [Int.mul_assoc, Int.mul_comm, Int.mul_left_comm]
theorem exQ_add {a n S x : Int} (h0 : 0 ≤ S) (h1 : 0 ≤ x) (h2 : S + x ≤ n) (hn : 0 < n) (hn2 : n < 4294967296) :
    adN (exQ a n S).1 (exQ a n x).1 (exDn a n S) (exDn a n x) = (exQ a n (S + x)).1 ∧ adM (exQ a n S).1 (exQ a n x).1 (exDn a n S) (exDn a n x) = exDn a n (S + x) := by
  obtain ⟨a1, a2, a3, a4⟩ := exQ_low (a := a) h0 (show S ≤ n by omega) hn hn2
  obtain ⟨b1, b2, b3, b4⟩ := exQ_low (a := a) h1 (show x ≤ n by omega) hn hn2
  obtain ⟨c1, c2, c3, c4⟩ := exQ_low (a := a) (show 0 ≤ S + x by omega) h2 hn hn2
  obtain ⟨d1, d2, d3⟩ := ad_law a2 b2 a1 b1
  refine low_uniq d1 c2 d2 c1 ?_
  generalize (exQ a n S).1 = P at *
  generalize (exQ a n x).1 = N at *
  generalize exDn a n S = Q at *
  generalize exDn a n x = D at *
  generalize adN P N Q D = U at *
  generalize adM P N Q D = V at *
  generalize (exQ a n (S + x)).1 = N' at *
  generalize exDn a n (S + x) = M' at *
  -- both, times n * Q * D
  have hne : (n * ((Q : Int) * (D : Int))) ≠ 0 := Int.mul_ne_zero (by omega) (Int.mul_ne_zero (by omega) (by omega))
  refine Int.eq_of_mul_eq_mul_right hne ?_
  have l1 : U * (M' : Int) * (n * ((Q : Int) * D)) = (U * ((Q : Int) * D)) * (n * M') := by simp only [Int.mul_assoc, Int.mul_comm, Int.mul_left_comm]
  have l2 : N' * (V : Int) * (n * ((Q : Int) * D)) = (N' * n) * ((V : Int) * ((Q : Int) * D)) := by simp only [Int.mul_assoc, Int.mul_comm, Int.mul_left_comm]
  rw [l1, l2, d3, c4]
  have l3 : (P * D + N * Q) * (V : Int) * (n * M') = ((P * n) * D + (N * n) * Q) * ((V : Int) * M') := by
    rw [show (P * n) * D + (N * n) * Q = (P * D + N * Q) * n by rw [Int.add_mul]; simp only [Int.mul_assoc, Int.mul_comm, Int.mul_left_comm]]
    simp only [Int.mul_assoc, Int.mul_comm, Int.mul_left_comm]
  rw [l3, a4, b4]
  have l4 : a * S * (Q : Int) * D + a * x * (D : Int) * Q = (a * (S + x)) * ((Q : Int) * D) := by
    rw [Int.mul_add, Int.add_mul]
    simp only [Int.mul_assoc, Int.mul_comm, Int.mul_left_comm]
  rw [l4]
  simp only [Int.mul_assoc, Int.mul_comm, Int.mul_left_comm]
theorem exQ_zero {a n : Int} (hn : 0 < n) : exQ a n 0 = (0, 1) := by
  unfold exQ exN exP exM
  have h : Nat.gcd (0 : Int).toNat n.toNat = n.toNat := by simp
  rw [h]
  simp only [Int.toNat_zero, Nat.zero_div, Nat.mul_zero]
  rw [Nat.div_self (by omega), Nat.gcd_one_right]
  simp
theorem exQ_full {a n : Int} (hn : 0 < n) : exQ a n n = (a, 1) := by
  unfold exQ exN exP exM
  rw [Nat.gcd_self, Nat.div_self (by omega), Nat.gcd_one_right, Nat.div_one, Nat.mul_one]
  split
  · rw [show -(a.natAbs : Int) = a by omega]; rfl
  · rw [show (a.natAbs : Int) = a by omega]; rfl
theorem exQ_nil {a n x : Int} (h0 : 0 < x) (h1 : x ≤ n) (hn2 : n < 4294967296) : ((exQ a n x).1 = 0 ↔ a = 0) := by
  obtain ⟨a1, a2, a3, a4⟩ := exQ_low (a := a) (show 0 ≤ x by omega) h1 (show 0 < n by omega) hn2
  constructor
  · intro h
    rw [h, Int.zero_mul] at a4
    rcases Int.mul_eq_zero.1 a4.symm with h2 | h2
    · rcases Int.mul_eq_zero.1 h2 with h3 | h3
      · exact h3
      · omega
    · omega
  · intro h
    have a5 : (exQ a n x).1 * n = 0 := by rw [a4]; simp [h]
    rcases Int.mul_eq_zero.1 a5 with h2 | h2
    · exact h2
    · omega
end Go.Proofs.YtjhhmeoibfdcmaaGreatDoor
