/- Divisions of two words: bits.Div64 by a small divisor. -/
import Derived.Test.YtamnccechaooaaaGreatDivA
import Derived.Lib.QuietBelow
import Derived.BigQuiet
namespace Go.Proofs.YtamnccechaooaaaGreat
open Go.RowKit Go.Sort
set_option linter.unusedSimpArgs false
set_option linter.unusedVariables false

set_option maxRecDepth 1000000 in
set_option maxHeartbeats 3200000 in
theorem div64_gen (hi lo y s Y a32 un32 un10 un1 un0 yn1 q1 m1 q0 m0 un21 t0 R : Int) (b : Int) (w : World) (h1 : 0 < hi) (h2 : hi < y) (h3 : y < 4294967296) (h4 : 0 ≤ lo) (h5 : lo < 18446744073709551616) (hs : 64 - b = s) (hs1 : 32 ≤ s) (hs2 : s ≤ 63)
    (HL : Hid (∀ w, Calls Tryz.prog 134 #[.int .u64 y] w fun e w' => e = .returned (.int .i64 (64 - b)) ∧ w = w'))
    (e1 : IntKind.u64.wrap (y * 2 ^ s.toNat) = Y) (e2 : bits .and .u64 Y 4294967295 = 0) (e3 : IntKind.u64.wrap (hi * 2 ^ s.toNat) = a32) (e4 : bits .or .u64 a32 (lo / 2 ^ (64 - s).toNat) = un32) (e5 : IntKind.u64.wrap (lo * 2 ^ s.toNat) = un10)
    (e6 : bits .and .u64 un10 4294967295 = un0) (e7 : un10 / 4294967296 = un1) (e8 : Y / 4294967296 = yn1) (e9 : un32 / yn1 = q1) (e10 : IntKind.u64.wrap (q1 * yn1) = m1)
    (b1 : 0 < Y) (b2 : 0 < yn1) (b3 : yn1 < 4294967296) (b4 : 0 ≤ un32) (b5 : un32 < 18446744073709551616) (b6 : 0 ≤ un10) (b7 : un10 < 18446744073709551616) (b8 : 0 ≤ un0) (b9 : un0 < 4294967296) (b10 : 0 ≤ un1) (b11 : un1 < 4294967296)
    (b12 : 0 ≤ q1) (b13 : q1 < 4294967296) (b14 : 0 ≤ m1) (b15 : m1 ≤ un32) (b16 : un32 - m1 < yn1)
    (e11 : IntKind.u64.wrap (IntKind.u64.wrap (IntKind.u64.wrap (un32 * 4294967296) + un1) - IntKind.u64.wrap (q1 * Y)) = un21) (e12 : un21 / yn1 = q0) (e13 : IntKind.u64.wrap (q0 * yn1) = m0)
    (b17 : 0 ≤ un21) (b18 : un21 < 18446744073709551616) (b19 : 0 ≤ q0) (b20 : q0 < 4294967296) (b21 : 0 ≤ m0) (b22 : m0 ≤ un21) (b23 : un21 - m0 < yn1)
    (e14 : IntKind.u64.wrap (IntKind.u64.wrap (IntKind.u64.wrap (un21 * 4294967296) + un0) - IntKind.u64.wrap (q0 * Y)) = t0) (b24 : 0 ≤ t0) (b25 : t0 < 18446744073709551616) (e15 : t0 / 2 ^ s.toNat = R) :
    Calls Tryz.prog 100 #[.int .u64 hi, .int .u64 lo, .int .u64 y] w fun e w' => e = .returned (.tuple #[.int .u64 (q1 * 4294967296 + q0), .int .u64 R]) ∧ w = w' := by
  have z1 : (yn1 == 0) = false := by simp; omega
  go_enter Tryz.func100, Tryz.ntmps100
  go_wp2_with fail
  refine (HL.out _).mono ?_
  rintro e w1 ⟨rfl, rfl⟩
  rw [hs]
  go_wp2_with fail
  go_loop [15, 16] (fun x z => x = .int .u64 q1 ∧ z = .int .u64 (un32 - m1)) (fun _ _ => 0)
  case atStart => exact ⟨by simp [e9], by simp [e9, e10]⟩
  case round =>
    obtain ⟨rfl, rfl⟩ := hrel
    go_wp2_with fail
    go_loop [18, 16] (fun x z => x = .int .u64 q0 ∧ z = .int .u64 (un21 - m0)) (fun _ _ => 0)
    case atStart => exact ⟨by simp [e12], by simp [e12, e13]⟩
    case round =>
      obtain ⟨rfl, rfl⟩ := hrel
      go_wp2
      all_goals first
        | (exfalso; omega)
        | (go_ret2; exact ⟨ret_int2 rfl (by simp [e15]), rfl⟩)
        | (trace_state; sorry)

theorem wrap_two (a b c : Int) : IntKind.u64.wrap (IntKind.u64.wrap (IntKind.u64.wrap a + b) - IntKind.u64.wrap c) = (a + b - c) % 18446744073709551616 := by
  simp only [IntKind.wrap_u64]
  omega
theorem or_nat (a c k : Nat) (hc : c < 2 ^ k) (ha : 2 ^ k * a + c < 18446744073709551616) : bits .or .u64 ((2 ^ k * a : Nat) : Int) (c : Int) = ((2 ^ k * a + c : Nat) : Int) := by
  have h := bits_or_u64_nat (2 ^ k * a) c (by omega) (by omega)
  rw [h, Nat.two_pow_add_eq_or_of_lt hc]

set_option maxRecDepth 1000000 in
set_option maxHeartbeats 1600000 in
theorem div64_zero (lo y : Int) (w : World) (h2 : 0 < y) (h4 : 0 ≤ lo) (h5 : lo < 18446744073709551616) (h6 : y < 18446744073709551616) (a c : Int) (ha : lo / y = a) (hc : lo % y = c) (ha0 : 0 ≤ a ∧ a < 18446744073709551616) (hc0 : 0 ≤ c ∧ c < 18446744073709551616) :
    Calls Tryz.prog 100 #[.int .u64 0, .int .u64 lo, .int .u64 y] w fun e w' => e = .returned (.tuple #[.int .u64 a, .int .u64 c]) ∧ ∃ n, w' = w.drewN n := by
  obtain ⟨ha1, ha2⟩ := ha0
  obtain ⟨hc1, hc2⟩ := hc0
  have z1 : (y == 0) = false := by simp; omega
  go_enter Tryz.func100, Tryz.ntmps100
  go_wp2_with fail
  all_goals first
    | (exfalso; omega)
    | skip
  go_quiet (fail)
  go_wp2
  go_ret2
  exact ⟨by simp [ha, hc], _, rfl⟩

theorem mul_cast3 (a b k : Nat) : (a : Int) * ((b * k : Nat) : Int) = ((a * b : Nat) : Int) * (k : Int) := by rw [Int.natCast_mul, Int.natCast_mul, Int.mul_assoc]
theorem r_mod {a m u c : Nat} (h : m ≤ a) (hu : u = (a - m) * 4294967296 + c) (hb : u < 18446744073709551616) : ((a : Int) * 4294967296 + (c : Int) - (m : Int) * 4294967296) % 18446744073709551616 = (u : Int) := by
  have e : (a : Int) * 4294967296 + (c : Int) - (m : Int) * 4294967296 = (u : Int) := by omega
  rw [e]
  exact Int.emod_eq_of_lt (by omega) (by omega)
set_option maxHeartbeats 1600000 in
theorem div64_nat (hi lo y : Nat) (w : World) (h1 : 0 < hi) (h2 : hi < y) (h3 : y < 4294967296) (h5 : lo < 18446744073709551616) :
    Calls Tryz.prog 100 #[.int .u64 hi, .int .u64 lo, .int .u64 y] w fun e w' => e = .returned (.tuple #[.int .u64 (((hi * 18446744073709551616 + lo) / y : Nat) : Int), .int .u64 (((hi * 18446744073709551616 + lo) % y : Nat) : Int)]) ∧ w = w' := by
  have hbs := bitLen_spec y
  have hb2 := hbs.2 (by omega)
  have hb1 := hbs.1
  have hb32 : bitLen y ≤ 32 := by
    rcases Nat.lt_or_ge 32 (bitLen y) with h | h
    · have h3' : 2 ^ 32 ≤ 2 ^ (bitLen y - 1) := Nat.pow_le_pow_right (by omega) (by omega)
      omega
    · omega
  have hb0 : 1 ≤ bitLen y := by
    rcases Nat.eq_zero_or_pos (bitLen y) with h | h
    · rw [h] at hb1; omega
    · exact h
  obtain ⟨n, hn⟩ : ∃ n, 64 - bitLen y = n := ⟨_, rfl⟩
  have hnb : bitLen y + n = 64 := by omega
  have hPQ : 2 ^ n * 2 ^ (64 - n) = 4294967296 * 4294967296 := by rw [← Nat.pow_add, show n + (64 - n) = 64 by omega]
  have hPb : 2 ^ n * 2 ^ bitLen y = 4294967296 * 4294967296 := by rw [← Nat.pow_add, show n + bitLen y = 64 by omega]
  have hPK : 2 ^ n = 4294967296 * 2 ^ (n - 32) := by rw [show (4294967296 : Nat) = 2 ^ 32 by decide, ← Nat.pow_add, show 32 + (n - 32) = n by omega]
  have hP0 : 0 < 2 ^ n := Nat.two_pow_pos n
  have hyP : y * 2 ^ n < 4294967296 * 4294967296 := by rw [← hPb, Nat.mul_comm]; exact Nat.mul_lt_mul_of_pos_left hb1 hP0
  obtain ⟨P, hP⟩ : ∃ P, P = 2 ^ n := ⟨_, rfl⟩
  obtain ⟨Q, hQ⟩ : ∃ Q, Q = 2 ^ (64 - n) := ⟨_, rfl⟩
  have hQ0 : 0 < Q := by rw [hQ]; exact Nat.two_pow_pos _
  rw [← hP] at hPQ hPK hyP
  rw [← hQ] at hPQ
  obtain ⟨lq, hlq⟩ : ∃ q, q = lo / Q := ⟨_, rfl⟩
  obtain ⟨Y, hY⟩ : ∃ Y, Y = y * P := ⟨_, rfl⟩
  obtain ⟨u32, hu32⟩ : ∃ Y, Y = hi * P + lo / Q := ⟨_, rfl⟩
  obtain ⟨u10, hu10⟩ : ∃ Y, Y = lo * P % (4294967296 * 4294967296) := ⟨_, rfl⟩
  obtain ⟨yn, hyn⟩ : ∃ x, x = Y / 4294967296 := ⟨_, rfl⟩
  obtain ⟨q1, hq1⟩ : ∃ x, x = u32 / yn := ⟨_, rfl⟩
  obtain ⟨u21, hu21⟩ : ∃ x, x = (u32 - q1 * yn) * 4294967296 + u10 / 4294967296 := ⟨_, rfl⟩
  obtain ⟨q0, hq0⟩ : ∃ x, x = u21 / yn := ⟨_, rfl⟩
  obtain ⟨c1, c2, c3, c4, c5, c6, c7, c8, c9, c10, c11, c12, c13, c14⟩ := div_small (A := 4294967296) (hi := hi) (lo := lo) (y := y) (P := P) (Q := Q) (K := 2 ^ (n - 32)) (by decide) h2 (by omega) hPQ hQ0 hyP hPK hY hu32 hu10 hyn hq1 hu21 hq0
  have hloQ : lq < P := by rw [hlq, Nat.div_lt_iff_lt_mul hQ0, hPQ]; omega
  have hHL := hide (fun w => lead64_any y (by omega) h3 w)
  have hPc : (2 : Int) ^ n = (P : Int) := by rw [hP]; push_cast; rfl
  have hQc : (2 : Int) ^ (64 - n) = (Q : Int) := by rw [hQ]; push_cast; rfl
  have hor := or_nat hi lq n (by rw [← hP]; exact hloQ) (by rw [← hP, Nat.mul_comm, hlq, ← hu32]; omega)
  rw [← hP, Nat.mul_comm P hi] at hor
  have hlqc : (lo : Int) / (Q : Int) = (lq : Int) := by rw [hlq]; push_cast; rfl
  rw [← hlq] at hu32
  obtain ⟨m1, hm1⟩ : ∃ x, x = q1 * yn := ⟨_, rfl⟩
  obtain ⟨m0, hm0⟩ : ∃ x, x = q0 * yn := ⟨_, rfl⟩
  rw [← hm1] at c6 c7 hu21
  rw [← hm0] at c10 c11 c14
  have hYb : Y < 18446744073709551616 := by omega
  have hsN : (64 - (bitLen y : Int)).toNat = n := by omega
  have hsM : (64 - (64 - (bitLen y : Int))).toNat = 64 - n := by omega
  have hdv : ((u21 - m0) * 4294967296 + u10 % 4294967296) < 18446744073709551616 := by omega
  have h := div64_gen hi lo y (64 - (bitLen y : Int)) Y (hi * P : Nat) u32 u10 (u10 / 4294967296 : Nat) (u10 % 4294967296 : Nat) yn q1 m1 q0 m0 u21 ((u21 - m0) * 4294967296 + u10 % 4294967296 : Nat) (((u21 - m0) * 4294967296 + u10 % 4294967296) / P : Nat) (bitLen y) w
    (by omega) (by omega) (by omega) (by omega) (by omega) rfl (by omega) (by omega) hHL
    (by rw [hsN, hPc, m64_mul, ← hY, m64_wrap _ hYb])
    (by rw [m64_mask _ hYb, c1]; rfl)
    (by rw [hsN, hPc, m64_mul, m64_wrap _ c2])
    (by rw [hsM, hQc, hlqc, hor, ← hu32])
    (by rw [hsN, hPc, m64_mul, m64_wrapM, hu10])
    (by rw [m64_mask _ (by omega)])
    (by omega) (by omega) (by rw [hq1]; push_cast; rfl)
    (by rw [m64_mul, ← hm1, m64_wrap _ (by omega)])
    (by omega) (by omega) (by omega) (by omega) (by omega) (by omega) (by omega) (by omega) (by omega) (by omega) (by omega)
    (by omega) (by omega) (by omega) (by omega) (by omega)
    (by
      rw [wrap_two, c12, mul_cast3, ← hm1]
      exact r_mod c6 hu21 (by omega))
    (by rw [hq0]; push_cast; rfl)
    (by rw [m64_mul, ← hm0, m64_wrap _ (by omega)])
    (by omega) (by omega) (by omega) (by omega) (by omega) (by omega) (by omega)
    (by
      rw [wrap_two, c12, mul_cast3, ← hm0]
      exact r_mod c10 rfl (by omega))
    (by omega) (by omega)
    (by rw [hsN, hPc]; exact (Int.natCast_ediv _ _).symm)
  refine h.mono ?_
  rintro e w' ⟨rfl, rfl⟩
  refine ⟨ret_int2 ?_ ?_, rfl⟩
  · rw [show hi * 18446744073709551616 = hi * (4294967296 * 4294967296) by rfl, ← c13]; omega
  · rw [show hi * 18446744073709551616 = hi * (4294967296 * 4294967296) by rfl, ← c14]
end Go.Proofs.YtamnccechaooaaaGreat
