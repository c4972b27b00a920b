/- Numbers of two words: plain law. Bits of signed numbers. Numbers of two words: contracts of package wide. Numbers of two words: the contract of wide.Sum. Rows of numbers that are appended to. Rows of int64 that are made at once. -/
import Derived.Test.YtjhhmeoibfdcmaaGreatDoorBase
import Derived.Laws.Bits64
import Derived.Laws.Externs
import Derived.Lib.QuietBelow
import Derived.BigQuiet
import Derived.Test.YtjhhmeoibfdcmaaGreatDoorMSa
import Derived.Laws.OwnMore
import Derived.Test.YtjhhmeoibfdcmaaGreatDoorInts
namespace Go.Proofs.YtjhhmeoibfdcmaaGreatDoor
open Go.RowKit
set_option linter.unusedSimpArgs false
set_option linter.unusedVariables false

/-- A number of 64 bits. -/
def in64 (x : Int) : Prop := -9223372036854775808 ≤ x ∧ x ≤ 9223372036854775807
theorem bits_i64 (op : BinOp) (f : BitVec 64 → BitVec 64 → BitVec 64) (a b : Int) (h : bits op .i64 a b = IntKind.i64.wrap ((f (BitVec.ofInt 64 a) (BitVec.ofInt 64 b)).toNat : Int)) : bits op .i64 a b = (f (BitVec.ofInt 64 a) (BitVec.ofInt 64 b)).toInt := by
  rw [h, IntKind.wrap_i64, BitVec.toInt_eq_toNat_cond]
  have := (f (BitVec.ofInt 64 a) (BitVec.ofInt 64 b)).isLt
  split <;> omega
theorem xor_i64 (a b : Int) : bits .xor .i64 a b = (BitVec.ofInt 64 a ^^^ BitVec.ofInt 64 b).toInt := bits_i64 _ (· ^^^ ·) _ _ rfl
theorem and_i64 (a b : Int) : bits .and .i64 a b = (BitVec.ofInt 64 a &&& BitVec.ofInt 64 b).toInt := bits_i64 _ (· &&& ·) _ _ rfl
theorem msb_of {a : Int} (h : in64 a) : (BitVec.ofInt 64 a).msb = decide (a < 0) := by
  rw [BitVec.msb_eq_toInt, BitVec.toInt_ofInt_eq_self (by decide) (by simpa using h.1) (by have := h.2; simp; omega)]
theorem bits_bd (A : BitVec 64) : in64 A.toInt := by
  have h1 := BitVec.le_two_mul_toInt (x := A); have h2 := BitVec.two_mul_toInt_lt (x := A); unfold in64; omega
theorem xor_neg {a b : Int} (ha : in64 a) (hb : in64 b) : (bits .xor .i64 a b < 0) ↔ ¬ (a < 0 ↔ b < 0) := by
  have h : (BitVec.ofInt 64 a ^^^ BitVec.ofInt 64 b).msb = (decide (a < 0) ^^ decide (b < 0)) := by rw [BitVec.msb_xor, msb_of ha, msb_of hb]
  rw [BitVec.msb_eq_toInt] at h
  rw [xor_i64]
  have h' : ((BitVec.ofInt 64 a ^^^ BitVec.ofInt 64 b).toInt < 0) ↔ (decide (a < 0) ^^ decide (b < 0)) = true := by rw [← h]; simp
  rw [h']
  by_cases h1 : a < 0 <;> by_cases h2 : b < 0 <;> simp [h1, h2]
theorem xor_bd (a b : Int) : in64 (bits .xor .i64 a b) := by rw [xor_i64]; exact bits_bd _
theorem and_neg {a b : Int} (ha : in64 a) (hb : in64 b) : (bits .and .i64 a b < 0) ↔ (a < 0 ∧ b < 0) := by
  have h : (BitVec.ofInt 64 a &&& BitVec.ofInt 64 b).msb = (decide (a < 0) && decide (b < 0)) := by rw [BitVec.msb_and, msb_of ha, msb_of hb]
  rw [BitVec.msb_eq_toInt] at h
  rw [and_i64]
  have h' : ((BitVec.ofInt 64 a &&& BitVec.ofInt 64 b).toInt < 0) ↔ (decide (a < 0) && decide (b < 0)) = true := by rw [← h]; simp
  rw [h']
  by_cases h1 : a < 0 <;> by_cases h2 : b < 0 <;> simp [h1, h2]
/-- What tells that a sum went around. -/
theorem around {a b n : Int} (ha : in64 a) (hb : in64 b) (hn : in64 n) : (bits .and .i64 (bits .xor .i64 a n) (bits .xor .i64 b n) < 0) ↔ ((a < 0 ↔ b < 0) ∧ ¬ (a < 0 ↔ n < 0)) := by
  rw [and_neg (xor_bd _ _) (xor_bd _ _), xor_neg ha hn, xor_neg hb hn]
  by_cases h1 : a < 0 <;> by_cases h2 : b < 0 <;> by_cases h3 : n < 0 <;> simp [h1, h2, h3]
/-- What tells that a difference went around. -/
theorem around2 {a b n : Int} (ha : in64 a) (hb : in64 b) (hn : in64 n) : (bits .and .i64 (bits .xor .i64 a b) (bits .xor .i64 a n) < 0) ↔ (¬ (a < 0 ↔ b < 0) ∧ ¬ (a < 0 ↔ n < 0)) := by
  rw [and_neg (xor_bd _ _) (xor_bd _ _), xor_neg ha hn, xor_neg ha hb]
theorem not_u64 {b : Int} (h0 : 0 ≤ b) (h1 : b < 18446744073709551616) : bits .xor .u64 IntKind.u64.max b = 18446744073709551615 - b := by
  have h : bits .xor .u64 IntKind.u64.max b = IntKind.u64.wrap ((BitVec.ofInt 64 IntKind.u64.max ^^^ BitVec.ofInt 64 b).toNat : Int) := rfl
  rw [h, show BitVec.ofInt 64 IntKind.u64.max = BitVec.allOnes 64 by decide, BitVec.allOnes_xor, BitVec.toNat_not, BitVec.toNat_ofInt, IntKind.wrap_u64]
  omega
theorem not_i64 {a : Int} (h : in64 a) : bits .xor .i64 (-1) a = -1 - a := by
  obtain ⟨h0, h1⟩ := h
  rw [xor_i64, show BitVec.ofInt 64 (-1) = BitVec.allOnes 64 by decide, BitVec.allOnes_xor, BitVec.toInt_not, BitVec.toNat_ofInt]
  simp only [Int.bmod_def]
  omega
/-- A number of two words. -/
abbrev wideV (n : Int) : Value := .agg #[.int .i64 (n / 18446744073709551616), .int .u64 (n % 18446744073709551616)]
def wideOk (n : Int) : Prop := -170141183460469231731687303715884105728 ≤ n ∧ n < 170141183460469231731687303715884105728
def fitB (n : Int) : Bool := decide (-9223372036854775808 ≤ n) && decide (n ≤ 9223372036854775807)
def fitV (n : Int) : Int := if fitB n then n else 0
def fitE (n : Int) : Int := if fitB n then 0 else 2
theorem fit_yes {n : Int} (h : in64 n) : fitV n = n ∧ fitE n = 0 := by
  have : fitB n = true := by simp [fitB]; exact h
  simp [fitV, fitE, this]
theorem fit_no {n : Int} (h : ¬ in64 n) : fitV n = 0 ∧ fitE n = 2 := by
  have : fitB n = false := by
    cases hb : fitB n
    · rfl
    · exact absurd (show -9223372036854775808 ≤ n ∧ n ≤ 9223372036854775807 by simpa [fitB] using hb) h
  simp [fitV, fitE, this]
theorem fit_in (n : Int) : in64 (fitV n) := by
  by_cases h : in64 n
  · rw [(fit_yes h).1]; exact h
  · rw [(fit_no h).1]; exact ⟨by decide, by decide⟩
theorem in_wd {n : Int} (h : in64 n) : wideOk n := by unfold wideOk; unfold in64 at h; omega
theorem wd_hi {n : Int} (h : wideOk n) : in64 (n / 18446744073709551616) := by unfold wideOk at h; unfold in64; omega
theorem ret_wd {a b n : Int} (h1 : a = n / 18446744073709551616) (h2 : b = n % 18446744073709551616) : Ending.returned (.agg #[.int .i64 a, .int .u64 b]) = .returned (wideV n) := by rw [h1, h2]
/-- A row of numbers that lies somewhere. -/
def Nums (w : World) (v : Value) (l : List Int) : Prop := ∃ ad cap, v = .slice ad l.length cap ∧ ∀ (i : Nat) (x : Int), l[i]? = some x → ∃ g o, ad = some ⟨g, o, none⟩ ∧ g < w.heap.size ∧ w.cell? ⟨g, o + i, none⟩ = some (.int .i64 x)
theorem Nums.call {w w' : World} {v : Value} {l : List Int} (h : Nums w v l) (hb : Below w.heap.size w w') : Nums w' v l := by
  obtain ⟨ad, cap, h1, h2⟩ := h
  refine ⟨ad, cap, h1, fun i x hx => ?_⟩
  obtain ⟨g, o, e, hg, hc⟩ := h2 i x hx
  exact ⟨g, o, e, Nat.lt_of_lt_of_le hg hb.size, (hb.cell (p := ⟨g, o + i, none⟩) hg).trans hc⟩
theorem sum_bd {l : List Int} (h : ∀ x ∈ l, in64 x) : -(9223372036854775808 * (l.length : Int)) ≤ l.sum ∧ l.sum ≤ 9223372036854775808 * (l.length : Int) := by
  induction l with
  | nil => simp
  | cons x l ih =>
    have h1 := ih fun y hy => h y (List.mem_cons_of_mem _ hy)
    have h2 := h x (by simp)
    unfold in64 at h2
    simp only [List.sum_cons, List.length_cons, Int.natCast_add, Int.mul_add]
    omega
theorem sum_wd {l : List Int} (h : ∀ x ∈ l, in64 x) (hl : l.length ≤ 1000000000) : wideOk l.sum := by
  have := sum_bd h
  unfold wideOk; omega
theorem sum_snoc (l : List Int) (x : Int) : (l ++ [x]).sum = l.sum + x := by simp
theorem mul_lt_of {a b k : Nat} (h : a < b) : a * k + k ≤ b * k := by
  have := Nat.mul_le_mul_right k (Nat.succ_le_of_lt h)
  rwa [Nat.succ_mul] at this
/-- A division of two words by a small one: the school method on halves of words, the lower half of the divisor 0. -/
theorem div_small {A hi lo y P Q K Y un32 un10 yn1 q1 un21 q0 : Nat} (hA : 0 < A) (hhi : hi < y) (hlo : lo < A * A) (hP : P * Q = A * A) (hQ : 0 < Q) (h2 : y * P < A * A) (hK : P = A * K)
    (dY : Y = y * P) (d32 : un32 = hi * P + lo / Q) (d10 : un10 = lo * P % (A * A)) (dyn : yn1 = Y / A) (dq1 : q1 = un32 / yn1) (d21 : un21 = (un32 - q1 * yn1) * A + un10 / A) (dq0 : q0 = un21 / yn1) :
    Y % A = 0 ∧ hi * P < A * A ∧ un32 < Y ∧ 0 < yn1 ∧ q1 < A ∧ q1 * yn1 ≤ un32 ∧ un32 - q1 * yn1 < yn1 ∧ un21 < Y ∧ q0 < A ∧ q0 * yn1 ≤ un21 ∧ un21 - q0 * yn1 < yn1 ∧ Y = yn1 * A ∧
    q1 * A + q0 = (hi * (A * A) + lo) / y ∧ ((un21 - q0 * yn1) * A + un10 % A) / P = (hi * (A * A) + lo) % y := by
  have hP0 : 0 < P := by
    rcases Nat.eq_zero_or_pos P with h | h
    · rw [h, Nat.zero_mul] at hP
      have := Nat.mul_pos hA hA; omega
    · exact h
  have hy0 : 0 < y := by omega
  have hK0 : 0 < K := by
    rcases Nat.eq_zero_or_pos K with h | h
    · rw [h] at hK; omega
    · exact h
  have hY : Y = y * K * A := by rw [dY, hK, Nat.mul_comm A K, Nat.mul_assoc]
  have e1 : Y % A = 0 := by rw [hY]; exact Nat.mul_mod_left _ _
  have e4 : yn1 = y * K := by rw [dyn, hY, Nat.mul_div_cancel _ hA]
  have hyn : 0 < yn1 := by rw [e4]; exact Nat.mul_pos hy0 hK0
  have hYn : Y = yn1 * A := by rw [hY, e4]
  have hloQ : lo / Q < P := by rw [Nat.div_lt_iff_lt_mul hQ, hP]; exact hlo
  have hhiP := mul_lt_of (k := P) hhi
  have e3 : un32 < Y := by omega
  have e2 : hi * P < A * A := by omega
  have e5 : q1 < A := by rw [dq1, Nat.div_lt_iff_lt_mul hyn, Nat.mul_comm, ← hYn]; exact e3
  have f1 : q1 * yn1 ≤ un32 := by rw [dq1]; exact Nat.div_mul_le_self _ _
  have m1 : un32 - q1 * yn1 = un32 % yn1 := by have := Nat.div_add_mod un32 yn1; rw [Nat.mul_comm, ← dq1] at this; omega
  have e6 : un32 - q1 * yn1 < yn1 := by rw [m1]; exact Nat.mod_lt _ hyn
  have hun1 : un10 < A * A := by rw [d10]; exact Nat.mod_lt _ (Nat.mul_pos hA hA)
  have hu1 : un10 / A < A := by rw [Nat.div_lt_iff_lt_mul hA]; exact hun1
  have e7 : un21 < Y := by
    have := mul_lt_of (k := A) e6
    omega
  have e8 : q0 < A := by rw [dq0, Nat.div_lt_iff_lt_mul hyn, Nat.mul_comm, ← hYn]; exact e7
  have f2 : q0 * yn1 ≤ un21 := by rw [dq0]; exact Nat.div_mul_le_self _ _
  have m2 : un21 - q0 * yn1 = un21 % yn1 := by have := Nat.div_add_mod un21 yn1; rw [Nat.mul_comm, ← dq0] at this; omega
  have e9 : un21 - q0 * yn1 < yn1 := by rw [m2]; exact Nat.mod_lt _ hyn
  have hsp : lo * P = lo / Q * (A * A) + un10 := by
    have h := Nat.div_add_mod (lo * P) (A * A)
    have hd : lo * P / (A * A) = lo / Q := by rw [← hP, Nat.mul_comm lo P, Nat.mul_div_mul_left _ _ hP0]
    rw [hd, ← d10, Nat.mul_comm] at h
    exact h.symm
  have hN : (hi * (A * A) + lo) * P = un32 * (A * A) + un10 := by
    rw [Nat.add_mul, hsp, Nat.mul_right_comm, d32, Nat.add_mul, Nat.add_assoc]
  have hR : un32 * (A * A) + un10 = (q1 * A + q0) * Y + ((un21 - q0 * yn1) * A + un10 % A) := by
    generalize hr1 : un32 - q1 * yn1 = r1 at *
    generalize hr0 : un21 - q0 * yn1 = r0 at *
    have hu : un32 = q1 * yn1 + r1 := by omega
    have hu2 : q0 * yn1 + r0 = r1 * A + un10 / A := by omega
    have hu3 : un10 = A * (un10 / A) + un10 % A := (Nat.div_add_mod un10 A).symm
    have k : (q0 * yn1 + r0) * A = (r1 * A + un10 / A) * A := by rw [hu2]
    rw [Nat.add_mul, Nat.add_mul, Nat.mul_comm (un10 / A) A, Nat.mul_assoc r1 A A] at k
    rw [hu, hYn, Nat.add_mul, Nat.add_mul (q1 * A), Nat.mul_mul_mul_comm q1 A yn1 A, ← Nat.mul_assoc q0 yn1 A]
    omega
  have hrem : (un21 - q0 * yn1) * A + un10 % A < Y := by
    have := mul_lt_of (k := A) e9
    have := Nat.mod_lt un10 hA
    omega
  generalize hr : (un21 - q0 * yn1) * A + un10 % A = R at *
  have hNq : (hi * (A * A) + lo) * P = (q1 * A + q0) * (y * P) + R := by rw [hN, hR, dY]
  have hRP : R % P = 0 := by
    have h3 : ((hi * (A * A) + lo) * P) % P = 0 := Nat.mul_mod_left _ _
    rw [hNq, ← Nat.mul_assoc, Nat.mul_add_mod_self_right] at h3
    exact h3
  have hRd : R = R / P * P := by have := Nat.div_add_mod R P; rw [Nat.mul_comm] at this; omega
  have hNN : hi * (A * A) + lo = (q1 * A + q0) * y + R / P := by
    refine Nat.eq_of_mul_eq_mul_right hP0 ?_
    rw [hNq, Nat.add_mul _ (R / P), ← hRd, Nat.mul_assoc]
  have hlt : R / P < y := by rw [Nat.div_lt_iff_lt_mul hP0, ← dY]; exact hrem
  refine ⟨e1, e2, e3, hyn, e5, f1, e6, e7, e8, f2, e9, hYn, ?_, ?_⟩
  · rw [hNN, Nat.mul_comm _ y, Nat.mul_add_div hy0, Nat.div_eq_of_lt hlt]; rfl
  · rw [hNN, Nat.mul_comm _ y, Nat.mul_add_mod, Nat.mod_eq_of_lt hlt]
end Go.Proofs.YtjhhmeoibfdcmaaGreatDoor

namespace Go.Proofs.YtjhhmeoibfdcmaaGreatDoor
open Go.RowKit Go.Sort
set_option linter.unusedSimpArgs false
set_option linter.unusedVariables false

theorem eqWide (d : Nat) (a b x y : Int) (w : World) : (Op.equalIn (d + 2) 88 (.agg #[.int .i64 a, .int .u64 b]) (.agg #[.int .i64 x, .int .u64 y])).run Tryz.prog w = .ok (a == x && b == y) w := by
  have u3 := Tryz.underlying2
  have a3 := Tryz.isAgg2
  have z3 := Tryz.sizeOf2
  have u4 := Tryz.underlying56
  have a4 := Tryz.isAgg56
  have z4 := Tryz.sizeOf56
  rw [run_equalIn_struct w _ _ _ _ (by simp [Program.fieldsOf, Tryz.underlying88]) (by kernel_rfl)]
  simp only [Program.fieldsOf, Tryz.underlying88]
  go_simp
  by_cases h1 : a = x <;> by_cases h2 : b = y <;> simp [h1, h2]
@[go_sem high] theorem eql_wide (a b x y : Int) (w : World) : (binOp .eql 88 (.agg #[.int .i64 a, .int .u64 b]) (.agg #[.int .i64 x, .int .u64 y])).run Tryz.prog w = .ok (.bool (a == x && b == y)) w := by
  rw [run_eql_struct, eqWide 9998]; rfl
theorem add64_run (x y c : Int) (h : 0 ≤ x ∧ 0 ≤ y ∧ 0 ≤ c ∧ c ≤ 1) (w : World) :
    (callFunc 58 #[.int .u64 x, .int .u64 y, .int .u64 c]).run Tryz.prog w = .ok (.value (.tuple #[.int .u64 ((x + y + c) % 18446744073709551616), .int .u64 ((x + y + c) / 18446744073709551616)])) w := by
  obtain ⟨h1, h2, h3, h4⟩ := h
  obtain ⟨a, rfl⟩ := Int.eq_ofNat_of_zero_le h1
  obtain ⟨b, rfl⟩ := Int.eq_ofNat_of_zero_le h2
  obtain ⟨d, rfl⟩ := Int.eq_ofNat_of_zero_le h3
  rw [run_callFunc_extern Tryz.func58 (by kernel_rfl) (by kernel_rfl) (by kernel_rfl) (e := add64Entry) (by kernel_rfl), run_add64 a b d (by omega) (by omega) (by omega) (by omega)]
  simp only [Result.andThen]

set_option maxHeartbeats 800000 in
theorem wof_any (a : Int) (w : World) (h : in64 a) : Calls Tryz.prog 40 #[.int .i64 a] w fun e w' => e = .returned (wideV a) ∧ Below w.heap.size w w' := by
  unfold in64 at h
  go_enter Tryz.func40, Tryz.ntmps40
  go_wp2
  exact bodyPost_ret (v := .agg #[.int .i64 (a / 9223372036854775808), .int .u64 (a % 18446744073709551616)]) (by simp [results, Tryz.results40, go_sem, IntKind.wrap_u64]) rfl ⟨ret_wd (by omega) rfl, by (repeat' exact bel)⟩

set_option maxRecDepth 100000 in
set_option maxHeartbeats 1600000 in
theorem wadd_ok (M N : Int) (w : World) (hM : wideOk M) (hN : wideOk N) (hS : wideOk (M + N)) : Calls Tryz.prog 36 #[wideV M, wideV N] w fun e w' => e = .returned (.tuple #[wideV (M + N), .int .i64 0]) ∧ Below w.heap.size w w' := by
  have ha := wd_hi hM
  have hb := wd_hi hN
  have hs := wd_hi hS
  obtain ⟨ah, hah⟩ : ∃ x, M / 18446744073709551616 = x := ⟨_, rfl⟩
  obtain ⟨al, hal⟩ : ∃ x, M % 18446744073709551616 = x := ⟨_, rfl⟩
  obtain ⟨bh, hbh⟩ : ∃ x, N / 18446744073709551616 = x := ⟨_, rfl⟩
  obtain ⟨bl, hbl⟩ : ∃ x, N % 18446744073709551616 = x := ⟨_, rfl⟩
  obtain ⟨sh, hsh⟩ : ∃ x, (M + N) / 18446744073709551616 = x := ⟨_, rfl⟩
  obtain ⟨sl, hsl⟩ : ∃ x, (M + N) % 18446744073709551616 = x := ⟨_, rfl⟩
  have k1 : 0 ≤ al ∧ al < 18446744073709551616 ∧ 0 ≤ bl ∧ bl < 18446744073709551616 := by omega
  obtain ⟨cr, hcr⟩ : ∃ x, (al + bl + 0) / 18446744073709551616 = x := ⟨_, rfl⟩
  have hlo : (al + bl + 0) % 18446744073709551616 = sl := by omega
  have k2 : 0 ≤ cr ∧ cr ≤ 1 := by omega
  have k3 : sh = ah + bh + cr := by omega
  rw [hah] at ha; rw [hbh] at hb; rw [hsh] at hs
  have e1 := fun w => add64_run al bl 0 (by omega) w
  rw [hlo, hcr] at e1
  have e2 := fun w => add64_run (IntKind.u64.wrap ah) (IntKind.u64.wrap bh) cr (by simp only [IntKind.wrap_u64]; omega) w
  obtain ⟨hu, hhu⟩ : ∃ x, (IntKind.u64.wrap ah + IntKind.u64.wrap bh + cr) % 18446744073709551616 = x := ⟨_, rfl⟩
  rw [hhu] at e2
  have hsw : IntKind.i64.wrap hu = sh := by unfold in64 at hs; rw [IntKind.wrap_i64]; simp only [IntKind.wrap_u64] at hhu; omega
  have HSG := hide (show ¬ (bits .and .i64 (bits .xor .i64 ah sh) (bits .xor .i64 bh sh) < 0) by rw [around ha hb hs]; omega)
  simp only [wideV, hah, hal, hbh, hbl, hsh, hsl]
  clear hhu hM hN hS hah hal hbh hbl hsh hsl k3
  go_enter Tryz.func36, Tryz.ntmps36
  go_wp2
  exact bodyPost_ret (v := .tuple #[.agg #[.int .i64 sh, .int .u64 sl], .int .i64 0]) (by simp [results, Tryz.results36, go_sem]) rfl ⟨rfl, by (repeat' exact bel)⟩

set_option maxRecDepth 100000 in
set_option maxHeartbeats 1600000 in
theorem wneg_ok (N : Int) (w : World) (hN : wideOk N) (h : wideOk (-N)) : Calls Tryz.prog 35 #[wideV N] w fun e w' => e = .returned (.tuple #[wideV (-N), .int .i64 0]) ∧ Below w.heap.size w w' := by
  have hh := wd_hi hN
  have e1 := not_i64 hh
  have e2 := not_u64 (b := N % 18446744073709551616) (by omega) (by omega)
  have k1 : -1 - N / 18446744073709551616 = (-N - 1) / 18446744073709551616 := by omega
  have k2 : 18446744073709551615 - N % 18446744073709551616 = (-N - 1) % 18446744073709551616 := by omega
  rw [k1] at e1
  rw [k2] at e2
  have HC := hide (fun w => wadd_ok (-N - 1) 1 w (by unfold wideOk at *; omega) (by unfold wideOk; omega) (by unfold wideOk at *; omega))
  have e3 : -N - 1 + 1 = -N := by omega
  rw [e3] at HC
  simp only [wideV] at HC ⊢
  simp only [show (1 : Int) / 18446744073709551616 = 0 by decide, show (1 : Int) % 18446744073709551616 = 1 by decide] at HC
  clear hh k1 k2 e3 hN h
  go_enter Tryz.func35, Tryz.ntmps35
  go_wp2_with fail
  refine (HC.out _).mono ?_
  rintro e w1 ⟨rfl, hb1⟩
  have r0 : w1.cell? ⟨w.heap.size + 1, 0, none⟩ = some (.int .i64 0) := by rw [hb1.cell (p := ⟨w.heap.size + 1, 0, none⟩) (by simp)]; simp
  have r1 : w1.cell? ⟨w.heap.size + 1, 1, none⟩ = some (.int .u64 0) := by rw [hb1.cell (p := ⟨w.heap.size + 1, 1, none⟩) (by simp)]; simp
  have f0 : w1.frozen? ⟨w.heap.size + 1, 0, none⟩ = false := by rw [hb1.frozen (p := ⟨w.heap.size + 1, 0, none⟩) (by simp)]; simp
  have f1 : w1.frozen? ⟨w.heap.size + 1, 1, none⟩ = false := by rw [hb1.frozen (p := ⟨w.heap.size + 1, 1, none⟩) (by simp)]; simp
  have hz1 : w.heap.size + 1 < w1.heap.size := by have := hb1.size; simp at this; omega
  have HB1 : Hid (Below w.heap.size w w1) := ww hb1
  clear hb1
  go_wp2
  exact bodyPost_ret (v := .tuple #[.agg #[.int .i64 (-N / 18446744073709551616), .int .u64 (-N % 18446744073709551616)], .int .i64 0]) (by simp (maxDischargeDepth := 9) [results, Tryz.results35, go_sem, r0, r1, f0, f1, hz1]) rfl ⟨rfl, (HB1.out.setCell (by simp) _).setCell (by simp) _⟩

set_option maxRecDepth 100000 in
set_option maxHeartbeats 1600000 in
theorem wfit_any (n : Int) (w : World) (h : wideOk n) : Calls Tryz.prog 38 #[wideV n] w fun e w' => e = .returned (.tuple #[.int .i64 (fitV n), .int .i64 (fitE n)]) ∧ Below w.heap.size w w' := by
  obtain ⟨m, hm⟩ : ∃ m, IntKind.i64.wrap (n % 18446744073709551616) = m := ⟨_, rfl⟩
  have hm2 := hm
  rw [IntKind.wrap_i64] at hm2
  have hmi : in64 m := by unfold in64; omega
  have HB := hide (show (m / 18446744073709551616 == n / 18446744073709551616 && m % 18446744073709551616 == n % 18446744073709551616) = fitB n by
    unfold fitB
    unfold wideOk at h
    rw [Bool.eq_iff_iff]
    simp only [Bool.and_eq_true, beq_iff_eq, decide_eq_true_eq]
    constructor <;> intro hh <;> omega)
  have HM := hide (show fitB n = true → m = n by unfold fitB; simp; omega)
  obtain ⟨nh, hnh⟩ : ∃ x, n / 18446744073709551616 = x := ⟨_, rfl⟩
  obtain ⟨nl, hnl⟩ : ∃ x, n % 18446744073709551616 = x := ⟨_, rfl⟩
  simp only [wideV]
  rw [hnl] at hm
  rw [hnh, hnl] at HB ⊢
  have HI := hide hmi
  clear hm2 hmi hnh hnl h
  go_enter Tryz.func38, Tryz.ntmps38
  go_wp2_with fail
  generalize hW : w.alloc (.cells #[.int .i64 nh, .int .u64 nl] 88) = W
  have c0 : W.cell? ⟨w.heap.size, 0, none⟩ = some (.int .i64 nh) := by rw [← hW]; simp
  have c1 : W.cell? ⟨w.heap.size, 1, none⟩ = some (.int .u64 nl) := by rw [← hW]; simp
  have HW := hide (show Below w.heap.size w W by rw [← hW]; (repeat' exact bel))
  clear hW
  have k0 := cell_regrown c0
  have k1 := cell_regrown c1
  have cS := fun dd os => Calls.regrown_of (d := dd) (os := os) (w := W) (wof_any m (grow (redrawn W dd) os) HI.out)
  simp only [wideV] at cS
  refine wp_region_quiet_below (by kernel_rfl) (by kernel_rfl) ?_
  repeat (go_big_quiet_step (first | exact cS _ _ | fail))
  refine wpQuiet_nil ?_
  intro _ hw'
  obtain ⟨⟨dq, osq⟩, hw2⟩ := hw'
  subst hw2
  have HBQ := hide (show Below w.heap.size w (grow (redrawn W dq) osq) from HW.out.trans ((below_regrown W dq osq).mono HW.out.size))
  clear k0 k1 cS
  generalize grow (redrawn W dq) osq = wq at *
  have HBB := HB.out
  cases hf : fitB n
  · rw [hf] at HBB
    go_wp2
    all_goals first
      | (exfalso; simp_all; done)
      | (go_ret2; exact ⟨ret_int2 (by simp [fitV, hf]) (by simp [fitE, hf]), HBQ.out⟩)
  · rw [hf] at HBB
    have hmn := HM.out hf
    have HMN := hide hmn
    clear hmn
    go_wp2
    all_goals first
      | (exfalso; simp_all; done)
      | (go_ret2; exact ⟨ret_int2 (by simp [fitV, hf, HMN.out]) (by simp [fitE, hf]), HBQ.out⟩)
end Go.Proofs.YtjhhmeoibfdcmaaGreatDoor

namespace Go.Proofs.YtjhhmeoibfdcmaaGreatDoor
open Go.RowKit Go.Sort
set_option linter.unusedSimpArgs false
set_option linter.unusedVariables false

abbrev wideCs (n : Int) : Array Value := #[.int .i64 (n / 18446744073709551616), .int .u64 (n % 18446744073709551616)]
def SmSt (n : Int) (B : Nat) (w0 w : World) : Prop := BlkIs w B (wideCs n) 88 ∧ B < w.heap.size ∧ Below B w0 w
theorem SmSt.call {n : Int} {B : Nat} {w0 w w' : World} (h : SmSt n B w0 w) (hb : Below w.heap.size w w') : SmSt n B w0 w' := ⟨h.1.call hb, Nat.lt_of_lt_of_le h.2.1 hb.size, h.2.2.trans (hb.mono (Nat.le_of_lt h.2.1))⟩
theorem SmSt.drew {n : Int} {B : Nat} {w0 w : World} (h : SmSt n B w0 w) : SmSt n B w0 w.drew := ⟨h.1, h.2.1, h.2.2.drew⟩
theorem SmSt.via {n : Int} {B m : Nat} {w0 w W w' : World} (h : SmSt n B w0 w) (hb : Below m W w') (h1 : Below w.heap.size w W := by exact bel) (h2 : w.heap.size ≤ m := by exact sz) : SmSt n B w0 w' := h.call (h1.trans (hb.mono h2))
theorem SmSt.far {n : Int} {B : Nat} {w0 w : World} (h : SmSt n B w0 w) (p : Addr) (u : Value) (hp : B < p.block) : SmSt n B w0 (w.setCell p u) := ⟨(Below.heap_setCell w p u B (by omega)).trans h.1, by simpa using h.2.1, h.2.2.setCell (Nat.le_of_lt hp) _⟩
/-- Two cells of a block that a call leaves. -/
theorem blk_via {cs : Array Value} {t : TypeId} {B m : Nat} {w W w' : World} (h : BlkIs w B cs t) (hb : Below m W w') (h1 : Below w.heap.size w W := by exact bel) (h2 : w.heap.size ≤ m := by exact sz) : BlkIs w' B cs t := h.call (h1.trans (hb.mono h2))
theorem blk_two {a b : Value} {t : TypeId} {B : Nat} {w : World} (h : BlkIs w B #[a, b] t) : (w.cell? ⟨B, 0, none⟩ = some a ∧ w.cell? ⟨B, 1, none⟩ = some b) ∧ w.frozen? ⟨B, 0, none⟩ = false ∧ w.frozen? ⟨B, 1, none⟩ = false ∧ B < w.heap.size := ⟨⟨h.cell 0, h.cell 1⟩, by simp [World.frozen?, show w.heap[B]? = _ from h], by simp [World.frozen?, show w.heap[B]? = _ from h], h.lt⟩
theorem SmSt.set {n m : Int} {B : Nat} {w0 w : World} (h : SmSt n B w0 w) : SmSt m B w0 ((w.setCell ⟨B, 0, none⟩ (.int .i64 (m / 18446744073709551616))).setCell ⟨B, 1, none⟩ (.int .u64 (m % 18446744073709551616))) := by
  obtain ⟨h1, h2, h3⟩ := h
  refine ⟨?_, by simpa using h2, (h3.setCell (Nat.le_refl _) _).setCell (Nat.le_refl _) _⟩
  unfold BlkIs at h1 ⊢
  simp [World.setCell, Array.getElem?_modify, h1]
theorem SmSt.cells {n : Int} {B : Nat} {w0 w : World} (h : SmSt n B w0 w) : (w.cell? ⟨B, 0, none⟩ = some (.int .i64 (n / 18446744073709551616)) ∧ w.cell? ⟨B, 1, none⟩ = some (.int .u64 (n % 18446744073709551616))) ∧ w.frozen? ⟨B, 0, none⟩ = false ∧ w.frozen? ⟨B, 1, none⟩ = false := ⟨⟨h.1.cell 0, h.1.cell 1⟩, by simp [World.frozen?, show w.heap[B]? = _ from h.1], by simp [World.frozen?, show w.heap[B]? = _ from h.1]⟩

set_option maxRecDepth 100000 in
set_option maxHeartbeats 3200000 in
theorem wsum_any (v : Value) (l : List Int) (w : World) (hv : Nums w v l) (hl : ∀ x ∈ l, in64 x) (hn : l.length ≤ 1000000) : Calls Tryz.prog 54 #[v] w fun e w' => e = .returned (.tuple #[.int .i64 (fitV l.sum), .int .i64 (fitE l.sum)]) ∧ Below w.heap.size w w' := by
  obtain ⟨ad, cap, rfl, hc⟩ := hv
  have HC := hide hc
  have HL := hide hl
  clear hc hl
  go_enter Tryz.func54, Tryz.ntmps54
  go_wp2_with fail
  have H0 := hide (show SmSt ([] : List Int).sum w.heap.size w (w.alloc (.cells #[.int .i64 0, .int .u64 0] 88)) from ⟨by simpa [wideCs] using BlkIs.new w #[.int .i64 0, .int .u64 0] 88, by simp, by (repeat' exact bel)⟩)
  go_loopw [11] (fun s wr => ∃ j : Nat, s = .int .i64 j ∧ j ≤ l.length ∧ SmSt (l.take j).sum w.heap.size w wr) (fun s _ => (l.length + 5 - intOf s).toNat)
  case atStart => exact ⟨0, rfl, Nat.zero_le _, by simpa using H0.out⟩
  case round =>
    obtain ⟨j, rfl, hj, hS⟩ := hrel
    have HS := hide hS
    clear hS
    have hB2 := HS.out.2.1
    by_cases hlt : j < l.length
    · obtain ⟨x, hx⟩ : ∃ x, l[j]? = some x := ⟨_, List.getElem?_eq_getElem hlt⟩
      obtain ⟨g, o, rfl, hg, a0⟩ := HC.out j x hx
      have hx64 := HL.out x (List.mem_of_getElem? hx)
      have HTK := hide (show (l.take (j + 1)).sum = (l.take j).sum + x by rw [List.take_add_one, hx]; simp)
      have hw1 := sum_wd (l := l.take j) (fun y hy => HL.out y (List.mem_of_mem_take hy)) (by rw [List.length_take]; omega)
      have hw2 := sum_wd (l := l.take (j + 1)) (fun y hy => HL.out y (List.mem_of_mem_take hy)) (by rw [List.length_take]; omega)
      rw [HTK.out] at hw2
      have ha : wr.cell? ⟨g, o + j, none⟩ = some (.int .i64 x) := by
        rw [HS.out.2.2.cell (p := ⟨g, o + j, none⟩) hg]; exact a0
      obtain ⟨S, hSS⟩ : ∃ S, (l.take j).sum = S := ⟨_, rfl⟩
      rw [hSS] at hw1 hw2 HTK HS
      have hi1 : (0 : Int) ≤ (j : Int) := by omega
      have hi3 : (j : Int) < (l.length : Int) := by omega
      have HOF := hide (fun w => wof_any x w hx64)
      have HAD := hide (fun w => wadd_ok S x w hw1 (in_wd hx64) hw2)
      simp only [wideV] at HOF HAD
      obtain ⟨⟨b0, b1⟩, f0, f1⟩ := HS.out.cells
      clear hx hx64 hw1 hw2 hSS a0
      go_wp2_with fail
      go_region_held3 (fun w' => w'.cell? ⟨w.heap.size, 0, none⟩ = some (.int .i64 (S / 18446744073709551616)) ∧ w'.cell? ⟨w.heap.size, 1, none⟩ = some (.int .u64 (S % 18446744073709551616))) (exact (HS.out.call (by (repeat' exact bel))).cells.1)
        (first
        | (go_at_call 40; refine (HOF.out wr.drew).mono ?_; rintro e w1 ⟨rfl, hb1⟩; have k7 := hide trivial; have hs1 : wr.heap.size ≤ w1.heap.size := hb1.size)
        | (go_at_call 40; refine (HOF.out (wr.alloc (.cells #[.int .i64 0, .int .u64 0] 88)).drew).mono ?_; rintro e w1 ⟨rfl, hb1⟩; have k7 := hide (BlkIs.call (show BlkIs (wr.alloc (.cells #[.int .i64 0, .int .u64 0] 88)).drew wr.heap.size #[.int .i64 0, .int .u64 0] 88 from BlkIs.new wr _ _) hb1); have hs1 : wr.heap.size ≤ w1.heap.size := Nat.le_of_lt k7.out.lt)
        | (go_at_call 36; refine (HAD.out w1).mono ?_; rintro e w2 ⟨rfl, hb2⟩; have k8 := blk_via k7.out hb2; obtain ⟨⟨z0, z1⟩, z2, z3, z4⟩ := blk_two k8; have hs2 : w1.heap.size ≤ w2.heap.size := hb2.size)
        | (go_at_call 36; refine (HAD.out w1).mono ?_; rintro e w2 ⟨rfl, hb2⟩; have hs2 : w1.heap.size ≤ w2.heap.size := hb2.size)
        | (go_at_call 36; refine (HAD.out (w1.alloc (.cells #[.int .i64 0, .int .u64 0] 88))).mono ?_; rintro e w2 ⟨rfl, hb2⟩; have k7 := hide (BlkIs.call (show BlkIs (w1.alloc (.cells #[.int .i64 0, .int .u64 0] 88)) w1.heap.size #[.int .i64 0, .int .u64 0] 88 from BlkIs.new w1 _ _) hb2); obtain ⟨⟨z0, z1⟩, z2, z3, z4⟩ := blk_two k7.out; have hs2 : w1.heap.size ≤ w2.heap.size := Nat.le_of_lt z4))
      all_goals
        have HS2 := hide (HS.out.call (show Below wr.heap.size wr w2 by (repeat' exact bel)))
        obtain ⟨⟨y0, y1⟩, y2, y3⟩ := HS2.out.cells
        have hB3 := HS2.out.2.1
        go_simp
        go_wp2
        go_roundw
        case rel => exact ⟨j + 1, by go_num, by omega, by rw [HTK.out]; first | exact ((HS2.out.far _ _ sz).far _ _ sz).set | exact HS2.out.set.call ((Below.refl _ _).alloc (Nat.le_refl _) _)⟩
        case measure => simp [intOf]; omega
    · have hjl : j = l.length := by omega
      have HSL := hide (show SmSt l.sum w.heap.size w wr by have h := HS.out; rwa [List.take_of_length_le (by omega)] at h)
      have hFI := hide (fun w => wfit_any l.sum w (sum_wd HL.out (by omega)))
      simp only [wideV] at hFI
      obtain ⟨⟨b0, b1⟩, f0, f1⟩ := HSL.out.cells
      go_wp2_with fail
      refine (hFI.out _).mono ?_
      rintro e w1 ⟨rfl, hb1⟩
      have HB1 : Hid (Below w.heap.size w w1) := by have hp := HSL.out.2.2; exact ww hb1
      clear hb1
      go_wp2
      go_ret2
      exact ⟨rfl, HB1.out⟩
end Go.Proofs.YtjhhmeoibfdcmaaGreatDoor

namespace Go.Proofs.YtjhhmeoibfdcmaaGreatDoor
open Go.RowKit
set_option linter.unusedSimpArgs false
set_option linter.unusedVariables false

def intsC (l : List Int) : List Value := l.map (Value.int .i64)
theorem intsC_len (l : List Int) : (intsC l).length = l.length := by simp [intsC]
theorem intsC_app (l m : List Int) : intsC (l ++ m) = intsC l ++ intsC m := by simp [intsC]
theorem i64_info : (Tryz.prog.info? 2).map (fun i => (i.zero, i.size, i.bytes)) = some (some (.int .i64 0), 1, 8) := by kernel_rfl
/-- Numbers that lie in a block, or none. -/
def NumsN (w : World) (v : Value) (l : List Int) : Prop := (l = [] ∧ v = .slice none 0 0) ∨ ∃ g cap, l ≠ [] ∧ v = .slice (some ⟨g, 0, none⟩) l.length cap ∧ g < w.heap.size ∧ ∀ (i : Nat) (x : Int), l[i]? = some x → w.cell? ⟨g, i, none⟩ = some (.int .i64 x)
theorem NumsN.call {w w' : World} {v : Value} {l : List Int} (h : NumsN w v l) (hb : Below w.heap.size w w') : NumsN w' v l := by
  rcases h with h | ⟨g, cap, h1, h2, h3, h4⟩
  · exact .inl h
  · exact .inr ⟨g, cap, h1, h2, Nat.lt_of_lt_of_le h3 hb.size, fun i x hx => (hb.cell (p := ⟨g, i, none⟩) h3).trans (h4 i x hx)⟩
theorem NumsN.nums {w : World} {v : Value} {l : List Int} (h : NumsN w v l) : Nums w v l := by
  rcases h with ⟨rfl, rfl⟩ | ⟨g, cap, h1, h2, h3, h4⟩
  · exact ⟨none, 0, rfl, fun i x hx => by simp at hx⟩
  · exact ⟨_, _, h2, fun i x hx => ⟨g, 0, rfl, h3, by simpa using h4 i x hx⟩⟩
theorem owns_nums {w : World} {base : Nat} {v : Value} {l : List Int} (h : w.ownsRow base 2 1 v l.length (intsC l)) : Nums w v l := by
  rcases h.2 with ⟨h1, h2⟩ | ⟨g, cap, cur, h1, h2, h3, h4, h5, h6, h7⟩
  · have hn : l.length = 0 := h2
    have hl : l = [] := List.length_eq_zero_iff.1 hn
    subst hl
    exact ⟨none, 0, h1, fun i x hx => by simp at hx⟩
  · refine ⟨_, _, h1, fun i x hx => ⟨g, 0, rfl, (Array.getElem?_eq_some_iff.1 h3).1, ?_⟩⟩
    subst h1
    have := h.cellAt i (by have := (List.getElem?_eq_some_iff.1 hx).1; omega)
    rw [Nat.zero_add, this]
    simp [intsC, hx]
/-- Blocks of another type stay. -/
def KeepI (w w' : World) : Prop := w.heap.size ≤ w'.heap.size ∧ ∀ (B : Nat) (cs : Array Value) (t : TypeId), t ≠ 2 → w.heap[B]? = some (.cells cs t (0, 0)) → w'.heap[B]? = some (.cells cs t (0, 0))
theorem KeepI.refl (w : World) : KeepI w w := ⟨Nat.le_refl _, fun _ _ _ _ h => h⟩
/-- More numbers appended to a row of one's own. -/
theorem app_nums {ops : Array Oper} {rest : List Oper} {o : Oper} {a : Act} {Q : Exit → Act → World → Prop} {w : World} (hgd : o.guard = none) (s x : Operand)
    (ho : o.op = .call { callee := .builtin .append, args := #[s, x], argTypes := #[33, 33] }) (base : Nat) (v u : Value) (m l : List Int)
    (hs : a.eval s = v) (hown : w.ownsRow base 2 1 v m.length (intsC m)) (hx : a.eval x = u) (hu : NumsN w u l) (hml : m.length + l.length ≤ 1000000) (hbase : base ≤ w.heap.size)
    (h : ∀ v' w', w'.ownsRow base 2 1 v' (m ++ l).length (intsC (m ++ l)) → Below base w w' → KeepI w w' → wpList Tryz.prog ops Q rest (a.put o.dst v') w') : wpList Tryz.prog ops Q (o :: rest) a w := by
  obtain ⟨i, hi, hi0, hi1, hi2⟩ := info_parts i64_info
  rcases hu with ⟨rfl, rfl⟩ | ⟨g, cap, h1, rfl, h3, h4⟩
  · refine wpList_plain hgd fun K hK => ?_
    have hr := run_append_owned_none (P := Tryz.prog) w base 33 o.type 2 i 1 Tryz.underlying33 hi v m.length (intsC m) hown
    unfold Oper.wp execOp
    simp only [ho, resolve, invoke, builtin, Sem.run_bind, Sem.run_pure, Result.andThen_ok, List.map_toArray, List.map_cons, List.map_nil, hs, hx, hr]
    exact hK _ _ (h v w (by simpa using hown) (Below.refl _ _) (KeepI.refl _))
  · refine wpList_append_own w hgd s x 33 ho base 2 i (.int .i64 0) 1 8 Tryz.underlying33 hi hi0 hi1 hi2 rfl (by decide) v m.length (intsC m) hs hown ⟨g, 0, none⟩ l.length cap (intsC l) hx (by simp [intsC]) ?_ ?_ ?_ ?_ hbase ?_
    · intro j u hj
      simp only [intsC, List.getElem?_map, Option.map_eq_some_iff] at hj
      obtain ⟨y, hy, rfl⟩ := hj
      have h5 := h4 j y hy
      by_cases hj0 : j = 0
      · subst hj0; simpa [Addr.add] using h5
      · simpa [Addr.add, hj0] using h5
    · intro u hu
      simp only [intsC, List.mem_map] at hu
      obtain ⟨y, _, rfl⟩ := hu
      rfl
    · unfold maxLen; omega
    · omega
    · intro v' w' ho' hg _
      refine h v' w' (by rw [List.length_append, intsC_app]; exact ho') ((Below.refl base w).grown hg hbase fun k hk => (hown.lt k hk).1) ⟨hg.size, fun B cs t ht hB => (hg.block B (Array.getElem?_eq_some_iff.1 hB).1 (fun e => ?_)).trans hB⟩
      rcases hown.2 with ⟨h1, _⟩ | ⟨g', cap', cur, h1, _, h3', _⟩
      · rw [h1] at e; simp [Value.ownBlock] at e
      · rw [h1] at e
        obtain rfl : B = g' := by simpa [Value.ownBlock] using e
        rw [h3'] at hB
        cases hB
        exact ht rfl
end Go.Proofs.YtjhhmeoibfdcmaaGreatDoor

namespace Go.Proofs.YtjhhmeoibfdcmaaGreatDoor
open Go.RowKit
set_option linter.unusedSimpArgs false
set_option linter.unusedVariables false

def LongsAt (w : World) (g : Nat) (xs : List Int) : Prop := w.heap[g]? = some (.cells (intsC xs).toArray 2 (0, 0))
theorem LongsAt.lt {w : World} {g : Nat} {xs : List Int} (h : LongsAt w g xs) : g < w.heap.size := (Array.getElem?_eq_some_iff.1 h).1
theorem LongsAt.cell {w : World} {g : Nat} {xs : List Int} (h : LongsAt w g xs) {k : Nat} {x : Int} (hk : xs[k]? = some x) : w.cell? ⟨g, k, none⟩ = some (.int .i64 x) := by
  rw [cell_of_row w g k _ _ _ h]
  simp [intsC, hk]
theorem LongsAt.frozen {w : World} {g : Nat} {xs : List Int} (h : LongsAt w g xs) (k : Nat) : w.frozen? ⟨g, k, none⟩ = false := by
  unfold LongsAt at h
  simp [World.frozen?, h]
theorem LongsAt.below {w w' : World} {K g : Nat} {xs : List Int} (h : LongsAt w g xs) (hb : Below K w w') (hg : g < K) : LongsAt w' g xs := (hb.block g hg).trans h
theorem LongsAt.call {w w' : World} {g : Nat} {xs : List Int} (h : LongsAt w g xs) (hb : Below w.heap.size w w') : LongsAt w' g xs := h.below hb h.lt
theorem LongsAt.far {w : World} {g : Nat} {xs : List Int} (h : LongsAt w g xs) {p : Addr} (hp : g ≠ p.block) (u : Value) : LongsAt (w.setCell p u) g xs := (Below.heap_setCell w p u g hp).trans h
theorem LongsAt.set {w : World} {g : Nat} {xs : List Int} (h : LongsAt w g xs) (k : Nat) (v : Int) : LongsAt (w.setCell ⟨g, k, none⟩ (.int .i64 v)) g (xs.set k v) := by
  unfold LongsAt at h ⊢
  simp [World.setCell, Array.getElem?_modify, h, intsC, List.map_set]
theorem LongsAt.numsN {w : World} {g cap : Nat} {xs : List Int} (h : LongsAt w g xs) (h0 : xs ≠ []) : NumsN w (.slice (some ⟨g, 0, none⟩) xs.length cap) xs := .inr ⟨g, cap, h0, rfl, h.lt, fun i x hx => h.cell hx⟩
theorem LongsAt.nums {w : World} {g cap : Nat} {xs : List Int} (h : LongsAt w g xs) : Nums w (.slice (some ⟨g, 0, none⟩) xs.length cap) xs := ⟨_, _, rfl, fun i x hx => ⟨g, 0, rfl, h.lt, by rw [Nat.zero_add]; exact h.cell hx⟩⟩
/-- A new row of zeros. -/
def zeroObj64 (n : Nat) : Obj := .cells (List.replicate n (Value.int .i64 0)).toArray 2
theorem LongsAt.new (w : World) (n : Nat) : LongsAt (w.alloc (zeroObj64 n)) w.heap.size (List.replicate n 0) := by
  unfold LongsAt zeroObj64
  rw [heap_alloc_new]
  simp [intsC]
theorem make_longs (n : Nat) (hn : n ≤ 100000) (w : World) : (Instr.makeSlice 33 (.int .i64 (n : Int)) (.int .i64 (n : Int))).run Tryz.prog w = .ok (.slice (some ⟨w.heap.size, 0, none⟩) n n) (w.alloc (zeroObj64 n)) := by
  obtain ⟨i0, hi, hz0, hz1, hz2⟩ := info_parts i64_info
  have hr := run_make (P := Tryz.prog) w 33 2 i0 (.int .i64 0) Tryz.underlying33 hi hz0 .i64 .i64 n n (by omega) (by omega) (by rw [hz2]; omega) (by omega)
  rw [hr, hz1]
  have e : madeCells (Value.int .i64 0).cells (((n : Int)).toNat * 1) = (List.replicate n (Value.int .i64 0)).toArray := by
    apply Array.ext
    · simp [madeCells]
    · intro i h1 h2
      simp [madeCells, Value.cells, Nat.mod_one]
  rw [e]
  simp [zeroObj64]
end Go.Proofs.YtjhhmeoibfdcmaaGreatDoor
