/- Numbers of two words: plain law. Bits of signed numbers. -/
import Derived.Test.YtamnccechaooaaaGreatBase
import Derived.Laws.Bits64
namespace Go.Proofs.YtamnccechaooaaaGreat
open Go.RowKit
set_option linter.unusedSimpArgs false
set_option linter.unusedVariables false

/-- A number of 64 bits. -/
def in64 (x : Int) : Prop := -9223372036854775808 ≤ x ∧ x ≤ 9223372036854775807
theorem bits_i64 (op : BinOp) (f : BitVec 64 → BitVec 64 → BitVec 64) (a b : Int) (h : bits op .i64 a b = IntKind.i64.wrap ((f (BitVec.ofInt 64 a) (BitVec.ofInt 64 b)).toNat : Int)) : bits op .i64 a b = (f (BitVec.ofInt 64 a) (BitVec.ofInt 64 b)).toInt := by
  rw [h, IntKind.wrap_i64, BitVec.toInt_eq_toNat_cond]
  have := (f (BitVec.ofInt 64 a) (BitVec.ofInt 64 b)).isLt
  split <;> omega
theorem xor_i64 (a b : Int) : bits .xor .i64 a b = (BitVec.ofInt 64 a ^^^ BitVec.ofInt 64 b).toInt := bits_i64 _ (· ^^^ ·) _ _ rfl
theorem and_i64 (a b : Int) : bits .and .i64 a b = (BitVec.ofInt 64 a &&& BitVec.ofInt 64 b).toInt := bits_i64 _ (· &&& ·) _ _ rfl
theorem msb_of {a : Int} (h : in64 a) : (BitVec.ofInt 64 a).msb = decide (a < 0) := by
  rw [BitVec.msb_eq_toInt, BitVec.toInt_ofInt_eq_self (by decide) (by simpa using h.1) (by have := h.2; simp; omega)]
theorem bits_bd (A : BitVec 64) : in64 A.toInt := by
  have h1 := BitVec.le_two_mul_toInt (x := A); have h2 := BitVec.two_mul_toInt_lt (x := A); unfold in64; omega
theorem xor_neg {a b : Int} (ha : in64 a) (hb : in64 b) : (bits .xor .i64 a b < 0) ↔ ¬ (a < 0 ↔ b < 0) := by
  have h : (BitVec.ofInt 64 a ^^^ BitVec.ofInt 64 b).msb = (decide (a < 0) ^^ decide (b < 0)) := by rw [BitVec.msb_xor, msb_of ha, msb_of hb]
  rw [BitVec.msb_eq_toInt] at h
  rw [xor_i64]
  have h' : ((BitVec.ofInt 64 a ^^^ BitVec.ofInt 64 b).toInt < 0) ↔ (decide (a < 0) ^^ decide (b < 0)) = true := by rw [← h]; simp
  rw [h']
  by_cases h1 : a < 0 <;> by_cases h2 : b < 0 <;> simp [h1, h2]
theorem xor_bd (a b : Int) : in64 (bits .xor .i64 a b) := by rw [xor_i64]; exact bits_bd _
theorem and_neg {a b : Int} (ha : in64 a) (hb : in64 b) : (bits .and .i64 a b < 0) ↔ (a < 0 ∧ b < 0) := by
  have h : (BitVec.ofInt 64 a &&& BitVec.ofInt 64 b).msb = (decide (a < 0) && decide (b < 0)) := by rw [BitVec.msb_and, msb_of ha, msb_of hb]
  rw [BitVec.msb_eq_toInt] at h
  rw [and_i64]
  have h' : ((BitVec.ofInt 64 a &&& BitVec.ofInt 64 b).toInt < 0) ↔ (decide (a < 0) && decide (b < 0)) = true := by rw [← h]; simp
  rw [h']
  by_cases h1 : a < 0 <;> by_cases h2 : b < 0 <;> simp [h1, h2]
/-- What tells that a sum went around. -/
theorem around {a b n : Int} (ha : in64 a) (hb : in64 b) (hn : in64 n) : (bits .and .i64 (bits .xor .i64 a n) (bits .xor .i64 b n) < 0) ↔ ((a < 0 ↔ b < 0) ∧ ¬ (a < 0 ↔ n < 0)) := by
  rw [and_neg (xor_bd _ _) (xor_bd _ _), xor_neg ha hn, xor_neg hb hn]
  by_cases h1 : a < 0 <;> by_cases h2 : b < 0 <;> by_cases h3 : n < 0 <;> simp [h1, h2, h3]
/-- What tells that a difference went around. -/
theorem around2 {a b n : Int} (ha : in64 a) (hb : in64 b) (hn : in64 n) : (bits .and .i64 (bits .xor .i64 a b) (bits .xor .i64 a n) < 0) ↔ (¬ (a < 0 ↔ b < 0) ∧ ¬ (a < 0 ↔ n < 0)) := by
  rw [and_neg (xor_bd _ _) (xor_bd _ _), xor_neg ha hn, xor_neg ha hb]
theorem not_u64 {b : Int} (h0 : 0 ≤ b) (h1 : b < 18446744073709551616) : bits .xor .u64 IntKind.u64.max b = 18446744073709551615 - b := by
  have h : bits .xor .u64 IntKind.u64.max b = IntKind.u64.wrap ((BitVec.ofInt 64 IntKind.u64.max ^^^ BitVec.ofInt 64 b).toNat : Int) := rfl
  rw [h, show BitVec.ofInt 64 IntKind.u64.max = BitVec.allOnes 64 by decide, BitVec.allOnes_xor, BitVec.toNat_not, BitVec.toNat_ofInt, IntKind.wrap_u64]
  omega
theorem not_i64 {a : Int} (h : in64 a) : bits .xor .i64 (-1) a = -1 - a := by
  obtain ⟨h0, h1⟩ := h
  rw [xor_i64, show BitVec.ofInt 64 (-1) = BitVec.allOnes 64 by decide, BitVec.allOnes_xor, BitVec.toInt_not, BitVec.toNat_ofInt]
  simp only [Int.bmod_def]
  omega
/-- A number of two words. -/
abbrev wideV (n : Int) : Value := .agg #[.int .i64 (n / 18446744073709551616), .int .u64 (n % 18446744073709551616)]
def wideOk (n : Int) : Prop := -170141183460469231731687303715884105728 ≤ n ∧ n < 170141183460469231731687303715884105728
def fitB (n : Int) : Bool := decide (-9223372036854775808 ≤ n) && decide (n ≤ 9223372036854775807)
def fitV (n : Int) : Int := if fitB n then n else 0
def fitE (n : Int) : Int := if fitB n then 0 else 2
theorem fit_yes {n : Int} (h : in64 n) : fitV n = n ∧ fitE n = 0 := by
  have : fitB n = true := by simp [fitB]; exact h
  simp [fitV, fitE, this]
theorem fit_no {n : Int} (h : ¬ in64 n) : fitV n = 0 ∧ fitE n = 2 := by
  have : fitB n = false := by
    cases hb : fitB n
    · rfl
    · exact absurd (show -9223372036854775808 ≤ n ∧ n ≤ 9223372036854775807 by simpa [fitB] using hb) h
  simp [fitV, fitE, this]
theorem fit_in (n : Int) : in64 (fitV n) := by
  by_cases h : in64 n
  · rw [(fit_yes h).1]; exact h
  · rw [(fit_no h).1]; exact ⟨by decide, by decide⟩
theorem in_wd {n : Int} (h : in64 n) : wideOk n := by unfold wideOk; unfold in64 at h; omega
theorem wd_hi {n : Int} (h : wideOk n) : in64 (n / 18446744073709551616) := by unfold wideOk at h; unfold in64; omega
theorem ret_wd {a b n : Int} (h1 : a = n / 18446744073709551616) (h2 : b = n % 18446744073709551616) : Ending.returned (.agg #[.int .i64 a, .int .u64 b]) = .returned (wideV n) := by rw [h1, h2]
/-- A row of numbers that lies somewhere. -/
def Nums (w : World) (v : Value) (l : List Int) : Prop := ∃ ad cap, v = .slice ad l.length cap ∧ ∀ (i : Nat) (x : Int), l[i]? = some x → ∃ g o, ad = some ⟨g, o, none⟩ ∧ g < w.heap.size ∧ w.cell? ⟨g, o + i, none⟩ = some (.int .i64 x)
theorem Nums.call {w w' : World} {v : Value} {l : List Int} (h : Nums w v l) (hb : Below w.heap.size w w') : Nums w' v l := by
  obtain ⟨ad, cap, h1, h2⟩ := h
  refine ⟨ad, cap, h1, fun i x hx => ?_⟩
  obtain ⟨g, o, e, hg, hc⟩ := h2 i x hx
  exact ⟨g, o, e, Nat.lt_of_lt_of_le hg hb.size, (hb.cell (p := ⟨g, o + i, none⟩) hg).trans hc⟩
theorem sum_bd {l : List Int} (h : ∀ x ∈ l, in64 x) : -(9223372036854775808 * (l.length : Int)) ≤ l.sum ∧ l.sum ≤ 9223372036854775808 * (l.length : Int) := by
  induction l with
  | nil => simp
  | cons x l ih =>
    have h1 := ih fun y hy => h y (List.mem_cons_of_mem _ hy)
    have h2 := h x (by simp)
    unfold in64 at h2
    simp only [List.sum_cons, List.length_cons, Int.natCast_add, Int.mul_add]
    omega
theorem sum_wd {l : List Int} (h : ∀ x ∈ l, in64 x) (hl : l.length ≤ 1000000000) : wideOk l.sum := by
  have := sum_bd h
  unfold wideOk; omega
theorem sum_snoc (l : List Int) (x : Int) : (l ++ [x]).sum = l.sum + x := by simp
theorem mul_lt_of {a b k : Nat} (h : a < b) : a * k + k ≤ b * k := by
  have := Nat.mul_le_mul_right k (Nat.succ_le_of_lt h)
  rwa [Nat.succ_mul] at this
/-- A division of two words by a small one: the school method on halves of words, the lower half of the divisor 0. -/
theorem div_small {A hi lo y P Q K Y un32 un10 yn1 q1 un21 q0 : Nat} (hA : 0 < A) (hhi : hi < y) (hlo : lo < A * A) (hP : P * Q = A * A) (hQ : 0 < Q) (h2 : y * P < A * A) (hK : P = A * K)
    (dY : Y = y * P) (d32 : un32 = hi * P + lo / Q) (d10 : un10 = lo * P % (A * A)) (dyn : yn1 = Y / A) (dq1 : q1 = un32 / yn1) (d21 : un21 = (un32 - q1 * yn1) * A + un10 / A) (dq0 : q0 = un21 / yn1) :
    Y % A = 0 ∧ hi * P < A * A ∧ un32 < Y ∧ 0 < yn1 ∧ q1 < A ∧ q1 * yn1 ≤ un32 ∧ un32 - q1 * yn1 < yn1 ∧ un21 < Y ∧ q0 < A ∧ q0 * yn1 ≤ un21 ∧ un21 - q0 * yn1 < yn1 ∧ Y = yn1 * A ∧
    q1 * A + q0 = (hi * (A * A) + lo) / y ∧ ((un21 - q0 * yn1) * A + un10 % A) / P = (hi * (A * A) + lo) % y := by
  have hP0 : 0 < P := by
    rcases Nat.eq_zero_or_pos P with h | h
    · rw [h, Nat.zero_mul] at hP
      have := Nat.mul_pos hA hA; omega
    · exact h
  have hy0 : 0 < y := by omega
  have hK0 : 0 < K := by
    rcases Nat.eq_zero_or_pos K with h | h
    · rw [h] at hK; omega
    · exact h
  have hY : Y = y * K * A := by rw [dY, hK, Nat.mul_comm A K, Nat.mul_assoc]
  have e1 : Y % A = 0 := by rw [hY]; exact Nat.mul_mod_left _ _
  have e4 : yn1 = y * K := by rw [dyn, hY, Nat.mul_div_cancel _ hA]
  have hyn : 0 < yn1 := by rw [e4]; exact Nat.mul_pos hy0 hK0
  have hYn : Y = yn1 * A := by rw [hY, e4]
  have hloQ : lo / Q < P := by rw [Nat.div_lt_iff_lt_mul hQ, hP]; exact hlo
  have hhiP := mul_lt_of (k := P) hhi
  have e3 : un32 < Y := by omega
  have e2 : hi * P < A * A := by omega
  have e5 : q1 < A := by rw [dq1, Nat.div_lt_iff_lt_mul hyn, Nat.mul_comm, ← hYn]; exact e3
  have f1 : q1 * yn1 ≤ un32 := by rw [dq1]; exact Nat.div_mul_le_self _ _
  have m1 : un32 - q1 * yn1 = un32 % yn1 := by have := Nat.div_add_mod un32 yn1; rw [Nat.mul_comm, ← dq1] at this; omega
  have e6 : un32 - q1 * yn1 < yn1 := by rw [m1]; exact Nat.mod_lt _ hyn
  have hun1 : un10 < A * A := by rw [d10]; exact Nat.mod_lt _ (Nat.mul_pos hA hA)
  have hu1 : un10 / A < A := by rw [Nat.div_lt_iff_lt_mul hA]; exact hun1
  have e7 : un21 < Y := by
    have := mul_lt_of (k := A) e6
    omega
  have e8 : q0 < A := by rw [dq0, Nat.div_lt_iff_lt_mul hyn, Nat.mul_comm, ← hYn]; exact e7
  have f2 : q0 * yn1 ≤ un21 := by rw [dq0]; exact Nat.div_mul_le_self _ _
  have m2 : un21 - q0 * yn1 = un21 % yn1 := by have := Nat.div_add_mod un21 yn1; rw [Nat.mul_comm, ← dq0] at this; omega
  have e9 : un21 - q0 * yn1 < yn1 := by rw [m2]; exact Nat.mod_lt _ hyn
  have hsp : lo * P = lo / Q * (A * A) + un10 := by
    have h := Nat.div_add_mod (lo * P) (A * A)
    have hd : lo * P / (A * A) = lo / Q := by rw [← hP, Nat.mul_comm lo P, Nat.mul_div_mul_left _ _ hP0]
    rw [hd, ← d10, Nat.mul_comm] at h
    exact h.symm
  have hN : (hi * (A * A) + lo) * P = un32 * (A * A) + un10 := by
    rw [Nat.add_mul, hsp, Nat.mul_right_comm, d32, Nat.add_mul, Nat.add_assoc]
  have hR : un32 * (A * A) + un10 = (q1 * A + q0) * Y + ((un21 - q0 * yn1) * A + un10 % A) := by
    generalize hr1 : un32 - q1 * yn1 = r1 at *
    generalize hr0 : un21 - q0 * yn1 = r0 at *
    have hu : un32 = q1 * yn1 + r1 := by omega
    have hu2 : q0 * yn1 + r0 = r1 * A + un10 / A := by omega
    have hu3 : un10 = A * (un10 / A) + un10 % A := (Nat.div_add_mod un10 A).symm
    have k : (q0 * yn1 + r0) * A = (r1 * A + un10 / A) * A := by rw [hu2]
    rw [Nat.add_mul, Nat.add_mul, Nat.mul_comm (un10 / A) A, Nat.mul_assoc r1 A A] at k
    rw [hu, hYn, Nat.add_mul, Nat.add_mul (q1 * A), Nat.mul_mul_mul_comm q1 A yn1 A, ← Nat.mul_assoc q0 yn1 A]
    omega
  have hrem : (un21 - q0 * yn1) * A + un10 % A < Y := by
    have := mul_lt_of (k := A) e9
    have := Nat.mod_lt un10 hA
    omega
  generalize hr : (un21 - q0 * yn1) * A + un10 % A = R at *
  have hNq : (hi * (A * A) + lo) * P = (q1 * A + q0) * (y * P) + R := by rw [hN, hR, dY]
  have hRP : R % P = 0 := by
    have h3 : ((hi * (A * A) + lo) * P) % P = 0 := Nat.mul_mod_left _ _
    rw [hNq, ← Nat.mul_assoc, Nat.mul_add_mod_self_right] at h3
    exact h3
  have hRd : R = R / P * P := by have := Nat.div_add_mod R P; rw [Nat.mul_comm] at this; omega
  have hNN : hi * (A * A) + lo = (q1 * A + q0) * y + R / P := by
    refine Nat.eq_of_mul_eq_mul_right hP0 ?_
    rw [hNq, Nat.add_mul _ (R / P), ← hRd, Nat.mul_assoc]
  have hlt : R / P < y := by rw [Nat.div_lt_iff_lt_mul hP0, ← dY]; exact hrem
  refine ⟨e1, e2, e3, hyn, e5, f1, e6, e7, e8, f2, e9, hYn, ?_, ?_⟩
  · rw [hNN, Nat.mul_comm _ y, Nat.mul_add_div hy0, Nat.div_eq_of_lt hlt]; rfl
  · rw [hNN, Nat.mul_comm _ y, Nat.mul_add_mod, Nat.mod_eq_of_lt hlt]
end Go.Proofs.YtamnccechaooaaaGreat
