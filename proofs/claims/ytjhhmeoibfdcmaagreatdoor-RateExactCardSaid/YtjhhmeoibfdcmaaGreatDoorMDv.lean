/- Divisions of two words: products, lengths of words. Divisions of two words: bits.Div64 by a small divisor. Divisions of two words: products and quotients of package wide. Divisions of two words: quotients of package wide. -/
import Derived.Test.YtjhhmeoibfdcmaaGreatDoorMWi
import Derived.Lib.Mul64
import Derived.Laws.Bits64b
import Derived.Laws.MathBits
import Derived.Deep.DeepCutAuto
import Derived.Lib.QuietBelow
import Derived.BigQuiet
namespace Go.Proofs.YtjhhmeoibfdcmaaGreatDoor
open Go.RowKit
set_option linter.unusedSimpArgs false
set_option linter.unusedVariables false

theorem m64_mask (a : Nat) (ha : a < 18446744073709551616) : bits .and .u64 (a : Int) 4294967295 = ((a % 4294967296 : Nat) : Int) := by
  have h := bits_and_u64_nat a 4294967295 ha (by omega)
  have e : a &&& 4294967295 = a % 4294967296 := Nat.and_two_pow_sub_one_eq_mod a 32
  rw [e] at h
  exact h
theorem m64_div (a : Nat) : (a : Int) / 4294967296 = ((a / 4294967296 : Nat) : Int) := by omega
theorem m64_mul (a b : Nat) : (a : Int) * (b : Int) = ((a * b : Nat) : Int) := (Int.natCast_mul a b).symm
theorem m64_add (a b : Nat) : (a : Int) + (b : Int) = ((a + b : Nat) : Int) := (Int.natCast_add a b).symm
theorem m64_wrap (a : Nat) (ha : a < 18446744073709551616) : IntKind.u64.wrap (a : Int) = (a : Int) := by rw [IntKind.wrap_u64]; omega
theorem m64_wrapM (a : Nat) : IntKind.u64.wrap (a : Int) = ((a % 18446744073709551616 : Nat) : Int) := by rw [IntKind.wrap_u64]; omega

set_option maxHeartbeats 1000000 in
theorem mul64_any (x y : Nat) (hx : x < 18446744073709551616) (hy : y < 18446744073709551616) (w : World) :
    Calls Tryz.prog 32 #[.int .u64 x, .int .u64 y] w fun e w' => e = .returned (.tuple #[.int .u64 ((x * y / 18446744073709551616 : Nat) : Int), .int .u64 ((x * y % 18446744073709551616 : Nat) : Int)]) ∧ w = w' := by
  obtain ⟨bd, bt, bw, hhi⟩ := Lib.mul64_hi x y hx hy
  have ba := Lib.half_mul_le (a := x / 4294967296) (b := y / 4294967296) (by omega) (by omega)
  have bb := Lib.half_mul_le (a := x / 4294967296) (b := y % 4294967296) (by omega) (by omega)
  have bc := Lib.half_mul_le (a := x % 4294967296) (b := y / 4294967296) (by omega) (by omega)
  have ba' : x / 4294967296 * (y / 4294967296) < 18446744073709551616 := by omega
  have bb' : x / 4294967296 * (y % 4294967296) < 18446744073709551616 := by omega
  have bc' : x % 4294967296 * (y / 4294967296) < 18446744073709551616 := by omega
  have bh1 : x / 4294967296 * (y / 4294967296) + (x / 4294967296 * (y % 4294967296) + x % 4294967296 * (y % 4294967296) / 4294967296) / 4294967296 < 18446744073709551616 := by omega
  have bh : x / 4294967296 * (y / 4294967296) + (x / 4294967296 * (y % 4294967296) + x % 4294967296 * (y % 4294967296) / 4294967296) / 4294967296 + ((x / 4294967296 * (y % 4294967296) + x % 4294967296 * (y % 4294967296) / 4294967296) % 4294967296 + x % 4294967296 * (y / 4294967296)) / 4294967296 < 18446744073709551616 := by omega
  go_enter Tryz.func32, Tryz.ntmps32
  go_wp2
  simp only [m64_mask x hx, m64_mask y hy, m64_div, m64_mul, m64_add, m64_wrap _ bd, m64_wrap _ bb', m64_wrap _ bt, m64_mask _ bt, m64_wrap _ bc', m64_wrap _ bw, m64_wrap _ ba', m64_wrap _ bh1, m64_wrap _ bh, m64_wrapM (x * y)]
  rw [hhi]
  go_ret2
  exact ⟨rfl, rfl⟩

/-- The lengths of the numbers below 256. -/
def lenTab : ByteArray := ⟨(([0, 1, 2, 2, 3, 3, 3, 3, 4, 4, 4, 4, 4, 4, 4, 4, 5, 5, 5, 5, 5, 5, 5, 5, 5, 5, 5, 5, 5, 5, 5, 5, 6, 6, 6, 6, 6, 6, 6, 6, 6, 6, 6, 6, 6, 6, 6, 6, 6, 6, 6, 6, 6, 6, 6, 6, 6, 6, 6, 6, 6, 6, 6, 6].append [7, 7, 7, 7, 7, 7, 7, 7, 7, 7, 7, 7, 7, 7, 7, 7, 7, 7, 7, 7, 7, 7, 7, 7, 7, 7, 7, 7, 7, 7, 7, 7, 7, 7, 7, 7, 7, 7, 7, 7, 7, 7, 7, 7, 7, 7, 7, 7, 7, 7, 7, 7, 7, 7, 7, 7, 7, 7, 7, 7, 7, 7, 7, 7]).append ([8, 8, 8, 8, 8, 8, 8, 8, 8, 8, 8, 8, 8, 8, 8, 8, 8, 8, 8, 8, 8, 8, 8, 8, 8, 8, 8, 8, 8, 8, 8, 8, 8, 8, 8, 8, 8, 8, 8, 8, 8, 8, 8, 8, 8, 8, 8, 8, 8, 8, 8, 8, 8, 8, 8, 8, 8, 8, 8, 8, 8, 8, 8, 8].append [8, 8, 8, 8, 8, 8, 8, 8, 8, 8, 8, 8, 8, 8, 8, 8, 8, 8, 8, 8, 8, 8, 8, 8, 8, 8, 8, 8, 8, 8, 8, 8, 8, 8, 8, 8, 8, 8, 8, 8, 8, 8, 8, 8, 8, 8, 8, 8, 8, 8, 8, 8, 8, 8, 8, 8, 8, 8, 8, 8, 8, 8, 8, 8])).toArray⟩
theorem lenTab_all : ∀ j : Fin 256, (lenTab.data[j.val]?.map UInt8.toNat) = some (bitLen j.val) := by decide +kernel
theorem lenTab_size : lenTab.size = 256 := by decide +kernel
theorem tab_get (T : ByteArray) (k : ∀ j : Fin 256, (T.data[j.val]?.map UInt8.toNat) = some (bitLen j.val)) (i : Nat) (h : i < 256) (h2 : i < T.size) : (T[i]'h2).toNat = bitLen i := by
  have := k ⟨i, h⟩
  simp only at this
  rw [Array.getElem?_eq_getElem h2] at this
  have h3 : (T.data[i]'h2).toNat = bitLen i := by simpa using this
  exact h3

theorem len_end (T : ByteArray) (hget : ∀ (i : Nat), i < 256 → ∀ (h2 : i < T.size), (T[i]'h2).toNat = bitLen i) (y b : Nat) (j : Int) (hj : j = ((y / 2 ^ b : Nat) : Int)) (hlt : y / 2 ^ b < 256) (h0 : y / 2 ^ b ≠ 0 ∨ b = 0) (h2 : j.toNat < T.size) :
    wrap64 ((T[j.toNat]'h2).toNat : Int) = ((T[j.toNat]'h2).toNat : Int) ∧ (b : Int) + ((T[j.toNat]'h2).toNat : Int) = (bitLen y : Int) ∧ (T[j.toNat]'h2).toNat ≤ 8 := by
  have e : j.toNat = y / 2 ^ b := by rw [hj]; exact Int.toNat_natCast _
  have k := hget j.toNat (by rw [e]; exact hlt) h2
  have h8 := bitLen_le8 (y / 2 ^ b) hlt
  rw [k, e]
  refine ⟨by unfold wrap64; omega, ?_, h8⟩
  rcases h0 with h0 | rfl
  · have := bitLen_shift y b h0; omega
  · simp
set_option maxRecDepth 1000000 in
set_option maxHeartbeats 1600000 in
theorem len64_any (y : Nat) (h0 : 0 < y) (hy : y < 4294967296) (w : World) :
    Calls Tryz.prog 104 #[.int .u64 y] w fun e w' => e = .returned (.int .i64 (bitLen y : Int)) ∧ w = w' := by
  obtain ⟨x, hx⟩ : ∃ x : Int, x = (y : Int) := ⟨_, rfl⟩
  have h0x : 0 ≤ x := by omega
  have hyx : x < 4294967296 := by omega
  rw [← hx]
  have HX := hide (And.intro hx hy)
  clear hx hy h0
  rcases (show x < 256 ∨ (256 ≤ x ∧ x < 65536) ∨ (65536 ≤ x ∧ x / 65536 < 256) ∨ (65536 ≤ x ∧ 256 ≤ x / 65536) by omega) with h | ⟨h, h2⟩ | ⟨h, h2⟩ | ⟨h, h2⟩
  all_goals
    refine calls_of_wp Tryz.func104 rfl ?_
    have hT := lenTab.eq_1
    rw [← hT]
    clear hT
    have hsz := lenTab_size
    have hget := hide (tab_get lenTab lenTab_all)
    generalize lenTab = T at hsz hget ⊢
    have hz := hide hsz
    clear hsz
    simp only [Tryz.ntmps104, List.size_toArray, List.length_cons, List.length_nil, Nat.reduceAdd, Nat.reduceSub, Array.replicate_succ, Array.replicate_zero, List.push_toArray, List.append_toArray, List.nil_append, List.cons_append]
    have hsz := hz.out
    go_wp2
    all_goals first
      | (exfalso; omega)
      | (go_ret
         obtain ⟨e1, e2, e3⟩ := len_end T hget.out y 0 x (by have := HX.out; simp; omega) (by have := HX.out; simp; omega) (.inr rfl) (by omega)
         exact ⟨ret_int (by rw [e1, e1]; simpa using e2), rfl⟩)
      | (go_ret
         obtain ⟨e1, e2, e3⟩ := len_end T hget.out y 8 (x / 256) (by have := HX.out; simp; omega) (by have := HX.out; simp; omega) (by have := HX.out; simp; omega) (by omega)
         exact ⟨ret_int (by rw [e1, ← e2]; unfold wrap64; omega), rfl⟩)
      | (go_ret
         obtain ⟨e1, e2, e3⟩ := len_end T hget.out y 16 (x / 65536) (by have := HX.out; simp; omega) (by have := HX.out; simp; omega) (by have := HX.out; simp; omega) (by omega)
         exact ⟨ret_int (by rw [e1, ← e2]; unfold wrap64; omega), rfl⟩)
      | (go_ret
         obtain ⟨e1, e2, e3⟩ := len_end T hget.out y 24 (x / 65536 / 256) (by have := HX.out; simp; omega) (by have := HX.out; simp; omega) (by have := HX.out; simp; omega) (by omega)
         exact ⟨ret_int (by rw [e1, ← e2]; unfold wrap64; omega), rfl⟩)

set_option maxHeartbeats 1600000 in
theorem lead64_any (y : Nat) (h0 : 0 < y) (hy : y < 4294967296) (w : World) :
    Calls Tryz.prog 83 #[.int .u64 y] w fun e w' => e = .returned (.int .i64 (64 - (bitLen y : Int))) ∧ w = w' := by
  have hb : (bitLen y : Int) ≤ 32 := by
    have h1 := bitLen_spec y
    rcases Nat.lt_or_ge 32 (bitLen y) with h | h
    · have h2 := h1.2 (by omega)
      have h3 : 2 ^ 32 ≤ 2 ^ (bitLen y - 1) := Nat.pow_le_pow_right (by omega) (by omega)
      omega
    · omega
  have HL := hide (fun w => len64_any y h0 hy w)
  obtain ⟨b, hbb⟩ : ∃ b : Int, b = (bitLen y : Int) := ⟨_, rfl⟩
  have hb0 : 0 ≤ b := by omega
  rw [← hbb] at hb HL ⊢
  clear hbb
  obtain ⟨x, hx⟩ : ∃ x : Int, x = (y : Int) := ⟨_, rfl⟩
  rw [← hx] at HL ⊢
  clear hx h0 hy
  go_enter Tryz.func83, Tryz.ntmps83
  go_wp2_with fail
  refine (HL.out _).mono ?_
  rintro e w1 ⟨rfl, rfl⟩
  go_wp2
  go_ret
  exact ⟨rfl, rfl⟩
end Go.Proofs.YtjhhmeoibfdcmaaGreatDoor

namespace Go.Proofs.YtjhhmeoibfdcmaaGreatDoor
open Go.RowKit Go.Sort
set_option linter.unusedSimpArgs false
set_option linter.unusedVariables false

set_option maxRecDepth 1000000 in
set_option maxHeartbeats 3200000 in
theorem div64_gen (hi lo y s Y a32 un32 un10 un1 un0 yn1 q1 m1 q0 m0 un21 t0 R : Int) (b : Int) (w : World) (h1 : 0 < hi) (h2 : hi < y) (h3 : y < 4294967296) (h4 : 0 ≤ lo) (h5 : lo < 18446744073709551616) (hs : 64 - b = s) (hs1 : 32 ≤ s) (hs2 : s ≤ 63)
    (HL : Hid (∀ w, Calls Tryz.prog 83 #[.int .u64 y] w fun e w' => e = .returned (.int .i64 (64 - b)) ∧ w = w'))
    (e1 : IntKind.u64.wrap (y * 2 ^ s.toNat) = Y) (e2 : bits .and .u64 Y 4294967295 = 0) (e3 : IntKind.u64.wrap (hi * 2 ^ s.toNat) = a32) (e4 : bits .or .u64 a32 (lo / 2 ^ (64 - s).toNat) = un32) (e5 : IntKind.u64.wrap (lo * 2 ^ s.toNat) = un10)
    (e6 : bits .and .u64 un10 4294967295 = un0) (e7 : un10 / 4294967296 = un1) (e8 : Y / 4294967296 = yn1) (e9 : un32 / yn1 = q1) (e10 : IntKind.u64.wrap (q1 * yn1) = m1)
    (b1 : 0 < Y) (b2 : 0 < yn1) (b3 : yn1 < 4294967296) (b4 : 0 ≤ un32) (b5 : un32 < 18446744073709551616) (b6 : 0 ≤ un10) (b7 : un10 < 18446744073709551616) (b8 : 0 ≤ un0) (b9 : un0 < 4294967296) (b10 : 0 ≤ un1) (b11 : un1 < 4294967296)
    (b12 : 0 ≤ q1) (b13 : q1 < 4294967296) (b14 : 0 ≤ m1) (b15 : m1 ≤ un32) (b16 : un32 - m1 < yn1)
    (e11 : IntKind.u64.wrap (IntKind.u64.wrap (IntKind.u64.wrap (un32 * 4294967296) + un1) - IntKind.u64.wrap (q1 * Y)) = un21) (e12 : un21 / yn1 = q0) (e13 : IntKind.u64.wrap (q0 * yn1) = m0)
    (b17 : 0 ≤ un21) (b18 : un21 < 18446744073709551616) (b19 : 0 ≤ q0) (b20 : q0 < 4294967296) (b21 : 0 ≤ m0) (b22 : m0 ≤ un21) (b23 : un21 - m0 < yn1)
    (e14 : IntKind.u64.wrap (IntKind.u64.wrap (IntKind.u64.wrap (un21 * 4294967296) + un0) - IntKind.u64.wrap (q0 * Y)) = t0) (b24 : 0 ≤ t0) (b25 : t0 < 18446744073709551616) (e15 : t0 / 2 ^ s.toNat = R) :
    Calls Tryz.prog 59 #[.int .u64 hi, .int .u64 lo, .int .u64 y] w fun e w' => e = .returned (.tuple #[.int .u64 (q1 * 4294967296 + q0), .int .u64 R]) ∧ w = w' := by
  have z1 : (yn1 == 0) = false := by simp; omega
  go_enter Tryz.func59, Tryz.ntmps59
  go_wp2_with fail
  refine (HL.out _).mono ?_
  rintro e w1 ⟨rfl, rfl⟩
  rw [hs]
  go_wp2_with fail
  go_loop [15, 16] (fun x z => x = .int .u64 q1 ∧ z = .int .u64 (un32 - m1)) (fun _ _ => 0)
  case atStart => exact ⟨by simp [e9], by simp [e9, e10]⟩
  case round =>
    obtain ⟨rfl, rfl⟩ := hrel
    go_wp2_with fail
    go_loop [18, 16] (fun x z => x = .int .u64 q0 ∧ z = .int .u64 (un21 - m0)) (fun _ _ => 0)
    case atStart => exact ⟨by simp [e12], by simp [e12, e13]⟩
    case round =>
      obtain ⟨rfl, rfl⟩ := hrel
      go_wp2
      all_goals first
        | (exfalso; omega)
        | (go_ret2; exact ⟨ret_int2 rfl (by simp [e15]), rfl⟩)

theorem wrap_two (a b c : Int) : IntKind.u64.wrap (IntKind.u64.wrap (IntKind.u64.wrap a + b) - IntKind.u64.wrap c) = (a + b - c) % 18446744073709551616 := by
  simp only [IntKind.wrap_u64]
  omega
theorem or_nat (a c k : Nat) (hc : c < 2 ^ k) (ha : 2 ^ k * a + c < 18446744073709551616) : bits .or .u64 ((2 ^ k * a : Nat) : Int) (c : Int) = ((2 ^ k * a + c : Nat) : Int) := by
  have h := bits_or_u64_nat (2 ^ k * a) c (by omega) (by omega)
  rw [h, Nat.two_pow_add_eq_or_of_lt hc]

set_option maxRecDepth 1000000 in
set_option maxHeartbeats 1600000 in
theorem div64_zero (lo y : Int) (w : World) (h2 : 0 < y) (h4 : 0 ≤ lo) (h5 : lo < 18446744073709551616) (h6 : y < 18446744073709551616) (a c : Int) (ha : lo / y = a) (hc : lo % y = c) (ha0 : 0 ≤ a ∧ a < 18446744073709551616) (hc0 : 0 ≤ c ∧ c < 18446744073709551616) :
    Calls Tryz.prog 59 #[.int .u64 0, .int .u64 lo, .int .u64 y] w fun e w' => e = .returned (.tuple #[.int .u64 a, .int .u64 c]) ∧ ∃ n, w' = w.drewN n := by
  obtain ⟨ha1, ha2⟩ := ha0
  obtain ⟨hc1, hc2⟩ := hc0
  have z1 : (y == 0) = false := by simp; omega
  go_enter Tryz.func59, Tryz.ntmps59
  go_wp2_with fail
  all_goals first
    | (exfalso; omega)
    | skip
  go_quiet (fail)
  go_wp2
  go_ret2
  exact ⟨by simp [ha, hc], _, rfl⟩

theorem mul_cast3 (a b k : Nat) : (a : Int) * ((b * k : Nat) : Int) = ((a * b : Nat) : Int) * (k : Int) := by rw [Int.natCast_mul, Int.natCast_mul, Int.mul_assoc]
theorem r_mod {a m u c : Nat} (h : m ≤ a) (hu : u = (a - m) * 4294967296 + c) (hb : u < 18446744073709551616) : ((a : Int) * 4294967296 + (c : Int) - (m : Int) * 4294967296) % 18446744073709551616 = (u : Int) := by
  have e : (a : Int) * 4294967296 + (c : Int) - (m : Int) * 4294967296 = (u : Int) := by omega
  rw [e]
  exact Int.emod_eq_of_lt (by omega) (by omega)
set_option maxHeartbeats 1600000 in
theorem div64_nat (hi lo y : Nat) (w : World) (h1 : 0 < hi) (h2 : hi < y) (h3 : y < 4294967296) (h5 : lo < 18446744073709551616) :
    Calls Tryz.prog 59 #[.int .u64 hi, .int .u64 lo, .int .u64 y] w fun e w' => e = .returned (.tuple #[.int .u64 (((hi * 18446744073709551616 + lo) / y : Nat) : Int), .int .u64 (((hi * 18446744073709551616 + lo) % y : Nat) : Int)]) ∧ w = w' := by
  have hbs := bitLen_spec y
  have hb2 := hbs.2 (by omega)
  have hb1 := hbs.1
  have hb32 : bitLen y ≤ 32 := by
    rcases Nat.lt_or_ge 32 (bitLen y) with h | h
    · have h3' : 2 ^ 32 ≤ 2 ^ (bitLen y - 1) := Nat.pow_le_pow_right (by omega) (by omega)
      omega
    · omega
  have hb0 : 1 ≤ bitLen y := by
    rcases Nat.eq_zero_or_pos (bitLen y) with h | h
    · rw [h] at hb1; omega
    · exact h
  obtain ⟨n, hn⟩ : ∃ n, 64 - bitLen y = n := ⟨_, rfl⟩
  have hnb : bitLen y + n = 64 := by omega
  have hPQ : 2 ^ n * 2 ^ (64 - n) = 4294967296 * 4294967296 := by rw [← Nat.pow_add, show n + (64 - n) = 64 by omega]
  have hPb : 2 ^ n * 2 ^ bitLen y = 4294967296 * 4294967296 := by rw [← Nat.pow_add, show n + bitLen y = 64 by omega]
  have hPK : 2 ^ n = 4294967296 * 2 ^ (n - 32) := by rw [show (4294967296 : Nat) = 2 ^ 32 by decide, ← Nat.pow_add, show 32 + (n - 32) = n by omega]
  have hP0 : 0 < 2 ^ n := Nat.two_pow_pos n
  have hyP : y * 2 ^ n < 4294967296 * 4294967296 := by rw [← hPb, Nat.mul_comm]; exact Nat.mul_lt_mul_of_pos_left hb1 hP0
  obtain ⟨P, hP⟩ : ∃ P, P = 2 ^ n := ⟨_, rfl⟩
  obtain ⟨Q, hQ⟩ : ∃ Q, Q = 2 ^ (64 - n) := ⟨_, rfl⟩
  have hQ0 : 0 < Q := by rw [hQ]; exact Nat.two_pow_pos _
  rw [← hP] at hPQ hPK hyP
  rw [← hQ] at hPQ
  obtain ⟨lq, hlq⟩ : ∃ q, q = lo / Q := ⟨_, rfl⟩
  obtain ⟨Y, hY⟩ : ∃ Y, Y = y * P := ⟨_, rfl⟩
  obtain ⟨u32, hu32⟩ : ∃ Y, Y = hi * P + lo / Q := ⟨_, rfl⟩
  obtain ⟨u10, hu10⟩ : ∃ Y, Y = lo * P % (4294967296 * 4294967296) := ⟨_, rfl⟩
  obtain ⟨yn, hyn⟩ : ∃ x, x = Y / 4294967296 := ⟨_, rfl⟩
  obtain ⟨q1, hq1⟩ : ∃ x, x = u32 / yn := ⟨_, rfl⟩
  obtain ⟨u21, hu21⟩ : ∃ x, x = (u32 - q1 * yn) * 4294967296 + u10 / 4294967296 := ⟨_, rfl⟩
  obtain ⟨q0, hq0⟩ : ∃ x, x = u21 / yn := ⟨_, rfl⟩
  obtain ⟨c1, c2, c3, c4, c5, c6, c7, c8, c9, c10, c11, c12, c13, c14⟩ := div_small (A := 4294967296) (hi := hi) (lo := lo) (y := y) (P := P) (Q := Q) (K := 2 ^ (n - 32)) (by decide) h2 (by omega) hPQ hQ0 hyP hPK hY hu32 hu10 hyn hq1 hu21 hq0
  have hloQ : lq < P := by rw [hlq, Nat.div_lt_iff_lt_mul hQ0, hPQ]; omega
  have hHL := hide (fun w => lead64_any y (by omega) h3 w)
  have hPc : (2 : Int) ^ n = (P : Int) := by rw [hP]; push_cast; rfl
  have hQc : (2 : Int) ^ (64 - n) = (Q : Int) := by rw [hQ]; push_cast; rfl
  have hor := or_nat hi lq n (by rw [← hP]; exact hloQ) (by rw [← hP, Nat.mul_comm, hlq, ← hu32]; omega)
  rw [← hP, Nat.mul_comm P hi] at hor
  have hlqc : (lo : Int) / (Q : Int) = (lq : Int) := by rw [hlq]; push_cast; rfl
  rw [← hlq] at hu32
  obtain ⟨m1, hm1⟩ : ∃ x, x = q1 * yn := ⟨_, rfl⟩
  obtain ⟨m0, hm0⟩ : ∃ x, x = q0 * yn := ⟨_, rfl⟩
  rw [← hm1] at c6 c7 hu21
  rw [← hm0] at c10 c11 c14
  have hYb : Y < 18446744073709551616 := by omega
  have hsN : (64 - (bitLen y : Int)).toNat = n := by omega
  have hsM : (64 - (64 - (bitLen y : Int))).toNat = 64 - n := by omega
  have hdv : ((u21 - m0) * 4294967296 + u10 % 4294967296) < 18446744073709551616 := by omega
  have h := div64_gen hi lo y (64 - (bitLen y : Int)) Y (hi * P : Nat) u32 u10 (u10 / 4294967296 : Nat) (u10 % 4294967296 : Nat) yn q1 m1 q0 m0 u21 ((u21 - m0) * 4294967296 + u10 % 4294967296 : Nat) (((u21 - m0) * 4294967296 + u10 % 4294967296) / P : Nat) (bitLen y) w
    (by omega) (by omega) (by omega) (by omega) (by omega) rfl (by omega) (by omega) hHL
    (by rw [hsN, hPc, m64_mul, ← hY, m64_wrap _ hYb])
    (by rw [m64_mask _ hYb, c1]; rfl)
    (by rw [hsN, hPc, m64_mul, m64_wrap _ c2])
    (by rw [hsM, hQc, hlqc, hor, ← hu32])
    (by rw [hsN, hPc, m64_mul, m64_wrapM, hu10])
    (by rw [m64_mask _ (by omega)])
    (by omega) (by omega) (by rw [hq1]; push_cast; rfl)
    (by rw [m64_mul, ← hm1, m64_wrap _ (by omega)])
    (by omega) (by omega) (by omega) (by omega) (by omega) (by omega) (by omega) (by omega) (by omega) (by omega) (by omega)
    (by omega) (by omega) (by omega) (by omega) (by omega)
    (by
      rw [wrap_two, c12, mul_cast3, ← hm1]
      exact r_mod c6 hu21 (by omega))
    (by rw [hq0]; push_cast; rfl)
    (by rw [m64_mul, ← hm0, m64_wrap _ (by omega)])
    (by omega) (by omega) (by omega) (by omega) (by omega) (by omega) (by omega)
    (by
      rw [wrap_two, c12, mul_cast3, ← hm0]
      exact r_mod c10 rfl (by omega))
    (by omega) (by omega)
    (by rw [hsN, hPc]; exact (Int.natCast_ediv _ _).symm)
  refine h.mono ?_
  rintro e w' ⟨rfl, rfl⟩
  refine ⟨ret_int2 ?_ ?_, rfl⟩
  · rw [show hi * 18446744073709551616 = hi * (4294967296 * 4294967296) by rfl, ← c13]; omega
  · rw [show hi * 18446744073709551616 = hi * (4294967296 * 4294967296) by rfl, ← c14]
end Go.Proofs.YtjhhmeoibfdcmaaGreatDoor

namespace Go.Proofs.YtjhhmeoibfdcmaaGreatDoor
open Go.RowKit Go.Sort
set_option linter.unusedSimpArgs false
set_option linter.unusedVariables false

theorem mul64_int (x y : Int) (h1 : 0 ≤ x ∧ x < 18446744073709551616) (h2 : 0 ≤ y ∧ y < 18446744073709551616) (w : World) :
    Calls Tryz.prog 32 #[.int .u64 x, .int .u64 y] w fun e w' => e = .returned (.tuple #[.int .u64 (x * y / 18446744073709551616), .int .u64 (x * y % 18446744073709551616)]) ∧ w = w' := by
  obtain ⟨a, rfl⟩ := Int.eq_ofNat_of_zero_le h1.1
  obtain ⟨b, rfl⟩ := Int.eq_ofNat_of_zero_le h2.1
  refine (mul64_any a b (by omega) (by omega) w).mono ?_
  rintro e w' ⟨rfl, rfl⟩
  refine ⟨ret_int2 ?_ ?_, rfl⟩
  · rw [← Int.natCast_mul]; omega
  · rw [← Int.natCast_mul]; omega
theorem div64_int (hi lo y : Int) (w : World) (h0 : 0 ≤ hi) (h2 : hi < y) (h3 : y < 4294967296) (h4 : 0 ≤ lo) (h5 : lo < 18446744073709551616) :
    Calls Tryz.prog 59 #[.int .u64 hi, .int .u64 lo, .int .u64 y] w fun e w' => e = .returned (.tuple #[.int .u64 ((hi * 18446744073709551616 + lo) / y), .int .u64 ((hi * 18446744073709551616 + lo) % y)]) ∧ Below w.heap.size w w' := by
  obtain ⟨a, rfl⟩ := Int.eq_ofNat_of_zero_le h0
  obtain ⟨b, rfl⟩ := Int.eq_ofNat_of_zero_le h4
  obtain ⟨y, rfl⟩ := Int.eq_ofNat_of_zero_le (show 0 ≤ y by omega)
  rcases Nat.eq_zero_or_pos a with rfl | ha
  · have hq : 0 ≤ (b : Int) / (y : Int) ∧ (b : Int) / (y : Int) < 18446744073709551616 := by
      refine ⟨Int.ediv_nonneg (by omega) (by omega), ?_⟩
      have := Int.ediv_le_self (a := (b : Int)) (y : Int) (by omega)
      omega
    have hr : 0 ≤ (b : Int) % (y : Int) ∧ (b : Int) % (y : Int) < 18446744073709551616 := by
      have h6 := Int.emod_nonneg (b : Int) (show (y : Int) ≠ 0 by omega)
      have h7 := Int.emod_lt_of_pos (b : Int) (show (0 : Int) < y by omega)
      omega
    refine (div64_zero b y w (by omega) (by omega) h5 (by omega) _ _ rfl rfl hq hr).mono ?_
    rintro e w' ⟨rfl, n, rfl⟩
    refine ⟨ret_int2 ?_ ?_, below_drewN (Below.refl _ _) n⟩ <;> simp
  · refine (div64_nat a b y w ha (by omega) (by omega) (by omega)).mono ?_
    rintro e w' ⟨rfl, rfl⟩
    refine ⟨ret_int2 ?_ ?_, Below.refl _ _⟩
    · rw [Int.natCast_ediv, Int.natCast_add, Int.natCast_mul]; rfl
    · rw [Int.natCast_emod, Int.natCast_add, Int.natCast_mul]; rfl
/-- The words of a product with a number that is not below 0. -/
theorem mul_words {a b : Int} (ha : in64 a) (hb : 0 ≤ b) (hb2 : b ≤ 9223372036854775807) : in64 (a * b / 18446744073709551616) ∧ (a < 0 → ((a + 18446744073709551616) * b / 18446744073709551616 - b = a * b / 18446744073709551616 ∧ (a + 18446744073709551616) * b % 18446744073709551616 = a * b % 18446744073709551616)) := by
  have e : (a + 18446744073709551616) * b = a * b + b * 18446744073709551616 := by rw [Int.add_mul, Int.mul_comm 18446744073709551616 b]
  rw [e]
  unfold in64 at ha ⊢
  have h1 : -9223372036854775808 * b ≤ a * b := Int.mul_le_mul_of_nonneg_right ha.1 hb
  have h2 : a * b ≤ 9223372036854775807 * b := Int.mul_le_mul_of_nonneg_right ha.2 hb
  generalize a * b = p at *
  refine ⟨by omega, fun _ => by omega⟩

theorem two_set {x y a b : Value} {t : TypeId} {B : Nat} {w : World} (h : BlkIs w B #[x, y] t) : ((w.setCell ⟨B, 0, none⟩ a).setCell ⟨B, 1, none⟩ b).cell? ⟨B, 0, none⟩ = some a ∧ ((w.setCell ⟨B, 0, none⟩ a).setCell ⟨B, 1, none⟩ b).cell? ⟨B, 1, none⟩ = some b ∧ (w.setCell ⟨B, 0, none⟩ a).cell? ⟨B, 0, none⟩ = some a := by
  have e2 : BlkIs (w.setCell ⟨B, 0, none⟩ a) B #[a, y] t := by
    unfold BlkIs at h ⊢
    simp [World.setCell, Array.getElem?_modify, h]
  have e : BlkIs ((w.setCell ⟨B, 0, none⟩ a).setCell ⟨B, 1, none⟩ b) B #[a, b] t := by
    unfold BlkIs at h ⊢
    simp [World.setCell, Array.getElem?_modify, h]
  exact ⟨e.cell 0, e.cell 1, e2.cell 0⟩
theorem pair_0 (a b : Int) (w : World) : (Instr.index 124 (.agg #[.int .i64 a, .int .i64 b, .int .i64 b, .int .i64 a]) (.int .i64 0)).run Tryz.prog w = .ok (.agg #[.int .i64 a, .int .i64 b]) w := by kernel_rfl
theorem pair_1 (a b : Int) (w : World) : (Instr.index 124 (.agg #[.int .i64 a, .int .i64 b, .int .i64 b, .int .i64 a]) (.int .i64 1)).run Tryz.prog w = .ok (.agg #[.int .i64 b, .int .i64 a]) w := by kernel_rfl
set_option maxRecDepth 100000 in
set_option maxHeartbeats 1600000 in
theorem wmul_pos (a b P Q : Int) (w : World) (h0 : 0 ≤ a) (h1 : a ≤ 9223372036854775807) (hb : 0 ≤ b) (hb2 : b ≤ 9223372036854775807) (hP : a * b / 18446744073709551616 = P) (hQ : a * b % 18446744073709551616 = Q) (hP0 : 0 ≤ P) (hP1 : P ≤ 9223372036854775807) (hQ0 : 0 ≤ Q) (hQ1 : Q < 18446744073709551616) :
    Calls Tryz.prog 34 #[.int .i64 a, .int .i64 b] w fun e w' => e = .returned (.agg #[.int .i64 P, .int .u64 Q]) ∧ Below w.heap.size w w' := by
  have hx0 := pair_0 a b
  have hx1 := pair_1 a b
  have HM := hide (fun w => mul64_int a b (by omega) (by omega) w)
  rw [hP, hQ] at HM
  clear hP hQ
  go_enter Tryz.func34, Tryz.ntmps34
  go_wp2_with fail
  refine (HM.out _).mono ?_
  rintro e w1 ⟨rfl, rfl⟩
  go_wp2_with fail
  go_loopw [5, 24] (fun h s wr => (h = .int .u64 P ∧ (s = .int .i64 0 ∨ s = .int .i64 1 ∨ s = .int .i64 2)) ∧ BlkIs wr w.heap.size #[.int .i64 0, .int .u64 0] 88 ∧ Below w.heap.size w wr) (fun _ s _ => (5 - intOf s).toNat)
  case atStart => exact ⟨⟨rfl, .inl rfl⟩, BlkIs.new _ _ _, by (repeat' exact bel)⟩
  case round =>
    obtain ⟨hs, hB, hBel⟩ := hrel
    have HB := hide hB
    obtain ⟨⟨b0, b1⟩, f0, f1, b3⟩ := blk_two HB.out
    clear hB
    have hsz := hBel.size
    rcases hs with ⟨rfl, rfl | rfl | rfl⟩
    · go_wp2
      all_goals first
        | (exfalso; omega)
        | skip
      go_roundw
      case rel => exact ⟨⟨rfl, .inr (.inl rfl)⟩, HB.out.alloc _, by (repeat' exact bel)⟩
      case measure => simp [intOf]
    · go_wp2
      all_goals first
        | (exfalso; omega)
        | skip
      go_roundw
      case rel => exact ⟨⟨rfl, .inr (.inr rfl)⟩, HB.out.alloc _, by (repeat' exact bel)⟩
      case measure => simp [intOf]
    · obtain ⟨g0, g1, g2⟩ := two_set (a := .int .i64 P) (b := .int .u64 Q) HB.out
      go_wp2
      exact bodyPost_ret (v := .agg #[.int .i64 P, .int .u64 Q]) (by simp [results, Tryz.results34, go_sem, g1, g2]) rfl ⟨rfl, by (repeat' exact bel)⟩
set_option maxRecDepth 100000 in
set_option maxHeartbeats 1600000 in
theorem wmul_neg (a b P P2 Q : Int) (w : World) (h0 : a < 0) (h1 : -9223372036854775808 ≤ a) (hb : 0 ≤ b) (hb2 : b ≤ 9223372036854775807) (hP : (a + 18446744073709551616) * b / 18446744073709551616 = P) (hQ : (a + 18446744073709551616) * b % 18446744073709551616 = Q) (hP0 : 0 ≤ P) (hP1 : P < 18446744073709551616) (hQ0 : 0 ≤ Q) (hQ1 : Q < 18446744073709551616)
    (hPP : P - b = P2) (hP2 : -9223372036854775808 ≤ P2) (hP3 : P2 ≤ 9223372036854775807) :
    Calls Tryz.prog 34 #[.int .i64 a, .int .i64 b] w fun e w' => e = .returned (.agg #[.int .i64 P2, .int .u64 Q]) ∧ Below w.heap.size w w' := by
  have hx0 := pair_0 a b
  have hx1 := pair_1 a b
  have HM := hide (fun w => mul64_int (a + 18446744073709551616) b (by omega) (by omega) w)
  rw [hP, hQ] at HM
  have HPP := hide hPP
  have HA := hide (show IntKind.u64.wrap a = a + 18446744073709551616 by rw [IntKind.wrap_u64]; omega)
  clear hP hQ hPP
  go_enter Tryz.func34, Tryz.ntmps34
  go_wp2_with fail
  rw [HA.out]
  refine (HM.out _).mono ?_
  rintro e w1 ⟨rfl, rfl⟩
  obtain ⟨P1, hPone⟩ : ∃ x, IntKind.u64.wrap (P - b) = x := ⟨_, rfl⟩
  have HP1 := hide hPone
  have HW := hide (show IntKind.i64.wrap P1 = P2 by rw [← hPone, ← HPP.out, IntKind.wrap_u64, IntKind.wrap_i64]; have := HPP.out; omega)
  go_wp2_with fail
  go_loopw [5, 24] (fun h s wr => ((h = .int .u64 P ∧ s = .int .i64 0) ∨ (h = .int .u64 P1 ∧ (s = .int .i64 1 ∨ s = .int .i64 2))) ∧ BlkIs wr w.heap.size #[.int .i64 0, .int .u64 0] 88 ∧ Below w.heap.size w wr) (fun _ s _ => (5 - intOf s).toNat)
  case atStart => exact ⟨.inl ⟨rfl, rfl⟩, BlkIs.new _ _ _, by (repeat' exact bel)⟩
  case round =>
    obtain ⟨hs, hB, hBel⟩ := hrel
    have HB := hide hB
    obtain ⟨⟨b0, b1⟩, f0, f1, b3⟩ := blk_two HB.out
    clear hB
    have hsz := hBel.size
    rcases hs with ⟨rfl, rfl⟩ | ⟨rfl, rfl | rfl⟩
    · go_wp2
      all_goals first
        | (exfalso; omega)
        | skip
      go_roundw
      case rel => exact ⟨.inr ⟨by first | rfl | simp [HP1.out], .inl rfl⟩, HB.out.alloc _, by (repeat' exact bel)⟩
      case measure => simp [intOf]
    · clear hPone
      go_wp2
      all_goals first
        | (exfalso; omega)
        | skip
      go_roundw
      case rel => exact ⟨.inr ⟨rfl, .inr rfl⟩, HB.out.alloc _, by (repeat' exact bel)⟩
      case measure => simp [intOf]
    · clear hPone
      have hw := HW.out
      obtain ⟨g0, g1, g2⟩ := two_set (a := .int .i64 P2) (b := .int .u64 Q) HB.out
      go_wp2
      exact bodyPost_ret (v := .agg #[.int .i64 P2, .int .u64 Q]) (by simp [results, Tryz.results34, go_sem, g1, g2]) rfl ⟨rfl, by (repeat' exact bel)⟩
theorem wmul_any (a b : Int) (w : World) (ha : in64 a) (hb : 0 ≤ b) (hb2 : b ≤ 9223372036854775807) : Calls Tryz.prog 34 #[.int .i64 a, .int .i64 b] w fun e w' => e = .returned (wideV (a * b)) ∧ Below w.heap.size w w' := by
  obtain ⟨h1, h2⟩ := mul_words ha hb hb2
  have hr : 0 ≤ a * b % 18446744073709551616 ∧ a * b % 18446744073709551616 < 18446744073709551616 := by omega
  unfold in64 at ha h1
  rcases Int.lt_or_le a 0 with h | h
  · obtain ⟨e1, e2⟩ := h2 h
    have e3 := Int.ediv_nonneg (Int.mul_nonneg (show 0 ≤ a + 18446744073709551616 by omega) hb) (show (0 : Int) ≤ 18446744073709551616 by decide)
    exact wmul_neg a b _ _ _ w h ha.1 hb hb2 rfl e2 e3 (by omega) hr.1 hr.2 e1 h1.1 h1.2
  · exact wmul_pos a b _ _ w h ha.2 hb hb2 rfl rfl (Int.ediv_nonneg (Int.mul_nonneg h hb) (by decide)) h1.2 hr.1 hr.2
end Go.Proofs.YtjhhmeoibfdcmaaGreatDoor

namespace Go.Proofs.YtjhhmeoibfdcmaaGreatDoor
open Go.RowKit Go.Sort
set_option linter.unusedSimpArgs false
set_option linter.unusedVariables false

set_option maxRecDepth 100000 in
set_option maxHeartbeats 1600000 in
theorem wdiv_gen (H lo b T R q l Q r : Int) (w : World) (hb : 0 < b) (hb2 : b < 4294967296) (hH : -9223372036854775808 ≤ H) (hH2 : H ≤ 9223372036854775807) (hlo : 0 ≤ lo) (hlo2 : lo < 18446744073709551616)
    (hT : H.tdiv b = T) (hR : H.tmod b = R) (hTb : -9223372036854775808 ≤ T ∧ T ≤ 9223372036854775807) (hqb : -9223372036854775808 ≤ q) (hRb : -b < R ∧ R < b) (hq : (R < 0 ∧ q = T - 1 ∧ l = R + b) ∨ (0 ≤ R ∧ q = T ∧ l = R)) (hQ : (l * 18446744073709551616 + lo) / b = Q) (hr : (l * 18446744073709551616 + lo) % b = r) (hQb : 0 ≤ Q ∧ Q < 18446744073709551616) (hrb : 0 ≤ r ∧ r < b) :
    Calls Tryz.prog 37 #[.agg #[.int .i64 H, .int .u64 lo], .int .i64 b] w fun e w' => e = .returned (.tuple #[.agg #[.int .i64 q, .int .u64 Q], .int .i64 r, .int .i64 0]) ∧ Below w.heap.size w w' := by
  have hl : 0 ≤ l ∧ l < b := by omega
  have HD := hide (fun w => div64_int l lo b w hl.1 hl.2 hb2 hlo hlo2)
  rw [hQ, hr] at HD
  obtain ⟨hTb1, hTb2⟩ := hTb
  obtain ⟨hRb1, hRb2⟩ := hRb
  obtain ⟨hQb1, hQb2⟩ := hQb
  obtain ⟨hrb1, hrb2⟩ := hrb
  obtain ⟨hl1, hl2⟩ := hl
  clear hQ hr
  rcases hq with ⟨hs, rfl, rfl⟩ | ⟨hs, rfl, rfl⟩
  all_goals
    go_enter Tryz.func37, Tryz.ntmps37
    go_wp2_with fail
    all_goals first
      | (exfalso; omega)
      | skip
    refine (HD.out _).mono ?_
    rintro e w1 ⟨rfl, hb1⟩
    have HK := hide (show BlkIs w1 (w.heap.size + 1) #[.int .i64 0, .int .u64 0] 88 from by
      have h := BlkIs.call (BlkIs.new (w.alloc (.cells #[.int .i64 H, .int .u64 lo] 88)) #[.int .i64 0, .int .u64 0] 88) hb1
      simpa using h)
    obtain ⟨⟨k0, k1⟩, k2, k3, k4⟩ := blk_two HK.out
    have HB1 : Hid (Below w.heap.size w w1) := ww hb1
    clear hb1
  · obtain ⟨g0, g1, g2⟩ := two_set (a := .int .i64 (T - 1)) (b := .int .u64 Q) HK.out
    have hBel := HB1.out
    go_wp2
    exact bodyPost_ret (v := .tuple #[.agg #[.int .i64 (T - 1), .int .u64 Q], .int .i64 r, .int .i64 0]) (by simp [results, Tryz.results37, go_sem, g1, g2]) rfl ⟨rfl, by (repeat' exact bel)⟩
  · obtain ⟨g0, g1, g2⟩ := two_set (a := .int .i64 q) (b := .int .u64 Q) HK.out
    have hBel := HB1.out
    go_wp2
    exact bodyPost_ret (v := .tuple #[.agg #[.int .i64 q, .int .u64 Q], .int .i64 r, .int .i64 0]) (by simp [results, Tryz.results37, go_sem, g1, g2]) rfl ⟨rfl, by (repeat' exact bel)⟩
theorem div_words {N b : Int} (hb : 0 < b) : N / b / 18446744073709551616 = N / 18446744073709551616 / b ∧ N / b % 18446744073709551616 = (N / 18446744073709551616 % b * 18446744073709551616 + N % 18446744073709551616) / b ∧ N % b = (N / 18446744073709551616 % b * 18446744073709551616 + N % 18446744073709551616) % b ∧
    0 ≤ (N / 18446744073709551616 % b * 18446744073709551616 + N % 18446744073709551616) / b ∧ (N / 18446744073709551616 % b * 18446744073709551616 + N % 18446744073709551616) / b < 18446744073709551616 := by
  obtain ⟨H, hH⟩ : ∃ H, N / 18446744073709551616 = H := ⟨_, rfl⟩
  obtain ⟨lo, hlo⟩ : ∃ H, N % 18446744073709551616 = H := ⟨_, rfl⟩
  have hN : N = H * 18446744073709551616 + lo := by omega
  have hl : 0 ≤ lo ∧ lo < 18446744073709551616 := by omega
  rw [hH, hlo]
  obtain ⟨q, hq⟩ : ∃ q, H / b = q := ⟨_, rfl⟩
  obtain ⟨l, hlb⟩ : ∃ q, H % b = q := ⟨_, rfl⟩
  have e1 : H = q * b + l := by rw [← hq, ← hlb]; exact (Int.ediv_mul_add_emod H b).symm
  have e2 : 0 ≤ l := by rw [← hlb]; exact Int.emod_nonneg _ (by omega)
  have e3 : l < b := by rw [← hlb]; exact Int.emod_lt_of_pos _ hb
  rw [hq, hlb]
  have e4 : N = (l * 18446744073709551616 + lo) + b * (q * 18446744073709551616) := by
    rw [hN, e1, Int.add_mul, Int.mul_comm q b, Int.mul_assoc]; omega
  have e5 : N / b = (l * 18446744073709551616 + lo) / b + q * 18446744073709551616 := by rw [e4, Int.add_mul_ediv_left _ _ (by omega)]
  have e6 : N % b = (l * 18446744073709551616 + lo) % b := by rw [e4, Int.add_mul_emod_self_left]
  have e7 : 0 ≤ (l * 18446744073709551616 + lo) / b := Int.ediv_nonneg (by omega) (by omega)
  have e8 : (l * 18446744073709551616 + lo) / b < 18446744073709551616 := Int.ediv_lt_of_lt_mul hb (by
    have : (l + 1) * 18446744073709551616 ≤ b * 18446744073709551616 := Int.mul_le_mul_of_nonneg_right (by omega) (by decide)
    rw [Int.mul_comm 18446744073709551616 b]
    omega)
  rw [e5, e6]
  generalize (l * 18446744073709551616 + lo) / b = Q at *
  refine ⟨by omega, by omega, rfl, e7, e8⟩
theorem wdiv_any (N b : Int) (w : World) (hN : wideOk N) (hb : 0 < b) (hb2 : b < 4294967296) :
    Calls Tryz.prog 37 #[wideV N, .int .i64 b] w fun e w' => e = .returned (.tuple #[wideV (N / b), .int .i64 (N % b), .int .i64 0]) ∧ Below w.heap.size w w' := by
  have hH := wd_hi hN
  obtain ⟨d1, d2, d3, d4, d5⟩ := div_words (N := N) hb
  have hl : 0 ≤ N % 18446744073709551616 ∧ N % 18446744073709551616 < 18446744073709551616 := by omega
  unfold in64 at hH
  obtain ⟨H, hHH⟩ : ∃ H, N / 18446744073709551616 = H := ⟨_, rfl⟩
  rw [hHH] at hH d1 d2 d3 d4 d5
  have t1 := Int.tmod_add_mul_tdiv H b
  have t2 := Int.tmod_lt_of_pos H hb
  have t3 : -b < H.tmod b := Int.lt_tmod_of_pos H hb
  have t4 : -9223372036854775808 ≤ H.tdiv b ∧ H.tdiv b ≤ 9223372036854775807 := by
    constructor
    · rcases Int.lt_or_le (H.tdiv b) (-9223372036854775808) with h | h
      · have := Int.mul_le_mul_of_nonneg_left (show H.tdiv b ≤ -9223372036854775809 by omega) (show 0 ≤ b by omega)
        omega
      · exact h
    · rcases Int.lt_or_le 9223372036854775807 (H.tdiv b) with h | h
      · have := Int.mul_le_mul_of_nonneg_left (show 9223372036854775808 ≤ H.tdiv b by omega) (show 0 ≤ b by omega)
        omega
      · exact h
  have t5 : -9223372036854775808 ≤ H / b := by
    have h1 : -9223372036854775808 * b ≤ -9223372036854775808 * 1 := by omega
    exact (Int.le_ediv_iff_mul_le hb).2 (by omega)
  have hu : (H.tmod b < 0 ∧ H / b = H.tdiv b - 1 ∧ H % b = H.tmod b + b) ∨ (0 ≤ H.tmod b ∧ H / b = H.tdiv b ∧ H % b = H.tmod b) := by
    rcases Int.lt_or_le (H.tmod b) 0 with h | h
    · left
      have := (Int.ediv_emod_unique (a := H) (b := b) (r := H.tmod b + b) (q := H.tdiv b - 1) hb).2 ⟨by rw [Int.mul_sub, Int.mul_one]; omega, by omega, by omega⟩
      exact ⟨h, this.1, this.2⟩
    · right
      have := (Int.ediv_emod_unique (a := H) (b := b) (r := H.tmod b) (q := H.tdiv b) hb).2 ⟨t1, h, t2⟩
      exact ⟨h, this.1, this.2⟩
  have hr : 0 ≤ N % b ∧ N % b < b := ⟨Int.emod_nonneg _ (by omega), Int.emod_lt_of_pos _ hb⟩
  have h := wdiv_gen H (N % 18446744073709551616) b (H.tdiv b) (H.tmod b) (H / b) (H % b) _ _ w hb hb2 hH.1 hH.2 hl.1 hl.2 rfl rfl t4 t5 ⟨t3, t2⟩ hu rfl rfl ⟨d4, d5⟩ (by rw [← d3]; exact hr)
  rw [← d3, ← d2, ← d1] at h
  rw [← hHH] at h
  exact h
theorem muldiv_bd {a x n : Int} (ha : in64 a) (hx : 0 ≤ x) (hxn : x ≤ n) (hn : 0 < n) : in64 (a * x / n) := by
  unfold in64 at *
  constructor
  · refine (Int.le_ediv_iff_mul_le hn).2 ?_
    rcases Int.lt_or_le a 0 with h | h
    · have h1 : a * n ≤ a * x := Int.mul_le_mul_of_nonpos_left (by omega) hxn
      have h2 : -9223372036854775808 * n ≤ a * n := Int.mul_le_mul_of_nonneg_right ha.1 (by omega)
      omega
    · have := Int.mul_nonneg h hx; omega
  · have h3 : a * x / n < 9223372036854775807 + 1 := by
      refine Int.ediv_lt_of_lt_mul hn ?_
      rcases Int.lt_or_le a 0 with h | h
      · have h1 : a * x ≤ 0 * x := Int.mul_le_mul_of_nonneg_right (by omega) hx
        omega
      · have h1 : a * x ≤ a * n := Int.mul_le_mul_of_nonneg_left hxn h
        have h2 : a * n ≤ 9223372036854775807 * n := Int.mul_le_mul_of_nonneg_right ha.2 (by omega)
        omega
    omega

set_option maxRecDepth 100000 in
set_option maxHeartbeats 1600000 in
theorem wmd_any (a x n : Int) (w : World) (ha : in64 a) (hx : 0 ≤ x) (hxn : x ≤ n) (hn : 0 < n) (hn2 : n < 4294967296) :
    Calls Tryz.prog 41 #[.int .i64 a, .int .i64 x, .int .i64 n] w fun e w' => e = .returned (.tuple #[.int .i64 (a * x / n), .int .i64 (a * x % n), .int .i64 0]) ∧ Below w.heap.size w w' := by
  have hq := muldiv_bd ha hx hxn hn
  have hp : wideOk (a * x) := by
    have h1 : -9223372036854775808 * x ≤ a * x := Int.mul_le_mul_of_nonneg_right ha.1 hx
    have h2 : a * x ≤ 9223372036854775807 * x := Int.mul_le_mul_of_nonneg_right ha.2 hx
    unfold wideOk
    omega
  have HM := hide (fun w => wmul_any a x w ha hx (by omega))
  have HD := hide (fun w => wdiv_any (a * x) n w hp hn hn2)
  have HF := hide (fun w => wfit_any (a * x / n) w (in_wd hq))
  rw [(fit_yes hq).1, (fit_yes hq).2] at HF
  obtain ⟨Q, hQ⟩ : ∃ Q, a * x / n = Q := ⟨_, rfl⟩
  obtain ⟨R, hR⟩ : ∃ Q, a * x % n = Q := ⟨_, rfl⟩
  rw [hQ, hR] at HD
  rw [hQ] at HF
  rw [hQ, hR]
  simp only [wideV] at HM HD HF
  clear hq hp ha hQ hR
  go_enter Tryz.func41, Tryz.ntmps41
  go_wp2_with fail
  refine (HM.out _).mono ?_
  rintro e w1 ⟨rfl, hb1⟩
  have HB1 : Hid (Below w.heap.size w w1) := ww hb1
  have hz1 := hb1.size
  clear hb1
  go_wp2_with fail
  refine (HD.out _).mono ?_
  rintro e w2 ⟨rfl, hb2⟩
  have HB2 : Hid (Below w.heap.size w w2) := by have hp := HB1.out; exact ww hb2
  have hz2 := hb2.size
  clear hb2
  go_wp2_with fail
  refine (HF.out _).mono ?_
  rintro e w3 ⟨rfl, hb3⟩
  have HB3 : Hid (Below w.heap.size w w3) := by have hp := HB2.out; exact ww hb3
  clear hb3
  go_wp2
  exact bodyPost_ret (v := .tuple #[.int .i64 Q, .int .i64 R, .int .i64 0]) (by simp [results, Tryz.results41, go_sem]) rfl ⟨rfl, HB3.out⟩
end Go.Proofs.YtjhhmeoibfdcmaaGreatDoor
