/- Divisions of two words: products, lengths of words. -/
import Derived.Test.YtamnccechaooaaaGreatWidePl
import Derived.Lib.Mul64
import Derived.Laws.Bits64b
import Derived.Laws.MathBits
import Derived.Deep.DeepCutAuto
namespace Go.Proofs.YtamnccechaooaaaGreat
open Go.RowKit
set_option linter.unusedSimpArgs false
set_option linter.unusedVariables false

theorem m64_mask (a : Nat) (ha : a < 18446744073709551616) : bits .and .u64 (a : Int) 4294967295 = ((a % 4294967296 : Nat) : Int) := by
  have h := bits_and_u64_nat a 4294967295 ha (by omega)
  have e : a &&& 4294967295 = a % 4294967296 := Nat.and_two_pow_sub_one_eq_mod a 32
  rw [e] at h
  exact h
theorem m64_div (a : Nat) : (a : Int) / 4294967296 = ((a / 4294967296 : Nat) : Int) := by omega
theorem m64_mul (a b : Nat) : (a : Int) * (b : Int) = ((a * b : Nat) : Int) := (Int.natCast_mul a b).symm
theorem m64_add (a b : Nat) : (a : Int) + (b : Int) = ((a + b : Nat) : Int) := (Int.natCast_add a b).symm
theorem m64_wrap (a : Nat) (ha : a < 18446744073709551616) : IntKind.u64.wrap (a : Int) = (a : Int) := by rw [IntKind.wrap_u64]; omega
theorem m64_wrapM (a : Nat) : IntKind.u64.wrap (a : Int) = ((a % 18446744073709551616 : Nat) : Int) := by rw [IntKind.wrap_u64]; omega

set_option maxHeartbeats 1000000 in
theorem mul64_any (x y : Nat) (hx : x < 18446744073709551616) (hy : y < 18446744073709551616) (w : World) :
    Calls Tryz.prog 101 #[.int .u64 x, .int .u64 y] w fun e w' => e = .returned (.tuple #[.int .u64 ((x * y / 18446744073709551616 : Nat) : Int), .int .u64 ((x * y % 18446744073709551616 : Nat) : Int)]) ∧ w = w' := by
  obtain ⟨bd, bt, bw, hhi⟩ := Lib.mul64_hi x y hx hy
  have ba := Lib.half_mul_le (a := x / 4294967296) (b := y / 4294967296) (by omega) (by omega)
  have bb := Lib.half_mul_le (a := x / 4294967296) (b := y % 4294967296) (by omega) (by omega)
  have bc := Lib.half_mul_le (a := x % 4294967296) (b := y / 4294967296) (by omega) (by omega)
  have ba' : x / 4294967296 * (y / 4294967296) < 18446744073709551616 := by omega
  have bb' : x / 4294967296 * (y % 4294967296) < 18446744073709551616 := by omega
  have bc' : x % 4294967296 * (y / 4294967296) < 18446744073709551616 := by omega
  have bh1 : x / 4294967296 * (y / 4294967296) + (x / 4294967296 * (y % 4294967296) + x % 4294967296 * (y % 4294967296) / 4294967296) / 4294967296 < 18446744073709551616 := by omega
  have bh : x / 4294967296 * (y / 4294967296) + (x / 4294967296 * (y % 4294967296) + x % 4294967296 * (y % 4294967296) / 4294967296) / 4294967296 + ((x / 4294967296 * (y % 4294967296) + x % 4294967296 * (y % 4294967296) / 4294967296) % 4294967296 + x % 4294967296 * (y / 4294967296)) / 4294967296 < 18446744073709551616 := by omega
  go_enter Tryz.func101, Tryz.ntmps101
  go_wp2
  simp only [m64_mask x hx, m64_mask y hy, m64_div, m64_mul, m64_add, m64_wrap _ bd, m64_wrap _ bb', m64_wrap _ bt, m64_mask _ bt, m64_wrap _ bc', m64_wrap _ bw, m64_wrap _ ba', m64_wrap _ bh1, m64_wrap _ bh, m64_wrapM (x * y)]
  rw [hhi]
  go_ret2
  exact ⟨rfl, rfl⟩

/-- The lengths of the numbers below 256. -/
def lenTab : ByteArray := ⟨(([0, 1, 2, 2, 3, 3, 3, 3, 4, 4, 4, 4, 4, 4, 4, 4, 5, 5, 5, 5, 5, 5, 5, 5, 5, 5, 5, 5, 5, 5, 5, 5, 6, 6, 6, 6, 6, 6, 6, 6, 6, 6, 6, 6, 6, 6, 6, 6, 6, 6, 6, 6, 6, 6, 6, 6, 6, 6, 6, 6, 6, 6, 6, 6].append [7, 7, 7, 7, 7, 7, 7, 7, 7, 7, 7, 7, 7, 7, 7, 7, 7, 7, 7, 7, 7, 7, 7, 7, 7, 7, 7, 7, 7, 7, 7, 7, 7, 7, 7, 7, 7, 7, 7, 7, 7, 7, 7, 7, 7, 7, 7, 7, 7, 7, 7, 7, 7, 7, 7, 7, 7, 7, 7, 7, 7, 7, 7, 7]).append ([8, 8, 8, 8, 8, 8, 8, 8, 8, 8, 8, 8, 8, 8, 8, 8, 8, 8, 8, 8, 8, 8, 8, 8, 8, 8, 8, 8, 8, 8, 8, 8, 8, 8, 8, 8, 8, 8, 8, 8, 8, 8, 8, 8, 8, 8, 8, 8, 8, 8, 8, 8, 8, 8, 8, 8, 8, 8, 8, 8, 8, 8, 8, 8].append [8, 8, 8, 8, 8, 8, 8, 8, 8, 8, 8, 8, 8, 8, 8, 8, 8, 8, 8, 8, 8, 8, 8, 8, 8, 8, 8, 8, 8, 8, 8, 8, 8, 8, 8, 8, 8, 8, 8, 8, 8, 8, 8, 8, 8, 8, 8, 8, 8, 8, 8, 8, 8, 8, 8, 8, 8, 8, 8, 8, 8, 8, 8, 8])).toArray⟩
theorem lenTab_all : ∀ j : Fin 256, (lenTab.data[j.val]?.map UInt8.toNat) = some (bitLen j.val) := by decide +kernel
theorem lenTab_size : lenTab.size = 256 := by decide +kernel
theorem tab_get (T : ByteArray) (k : ∀ j : Fin 256, (T.data[j.val]?.map UInt8.toNat) = some (bitLen j.val)) (i : Nat) (h : i < 256) (h2 : i < T.size) : (T[i]'h2).toNat = bitLen i := by
  have := k ⟨i, h⟩
  simp only at this
  rw [Array.getElem?_eq_getElem h2] at this
  have h3 : (T.data[i]'h2).toNat = bitLen i := by simpa using this
  exact h3

theorem len_end (T : ByteArray) (hget : ∀ (i : Nat), i < 256 → ∀ (h2 : i < T.size), (T[i]'h2).toNat = bitLen i) (y b : Nat) (j : Int) (hj : j = ((y / 2 ^ b : Nat) : Int)) (hlt : y / 2 ^ b < 256) (h0 : y / 2 ^ b ≠ 0 ∨ b = 0) (h2 : j.toNat < T.size) :
    wrap64 ((T[j.toNat]'h2).toNat : Int) = ((T[j.toNat]'h2).toNat : Int) ∧ (b : Int) + ((T[j.toNat]'h2).toNat : Int) = (bitLen y : Int) ∧ (T[j.toNat]'h2).toNat ≤ 8 := by
  have e : j.toNat = y / 2 ^ b := by rw [hj]; exact Int.toNat_natCast _
  have k := hget j.toNat (by rw [e]; exact hlt) h2
  have h8 := bitLen_le8 (y / 2 ^ b) hlt
  rw [k, e]
  refine ⟨by unfold wrap64; omega, ?_, h8⟩
  rcases h0 with h0 | rfl
  · have := bitLen_shift y b h0; omega
  · simp
set_option maxRecDepth 1000000 in
set_option maxHeartbeats 1600000 in
theorem len64_any (y : Nat) (h0 : 0 < y) (hy : y < 4294967296) (w : World) :
    Calls Tryz.prog 157 #[.int .u64 y] w fun e w' => e = .returned (.int .i64 (bitLen y : Int)) ∧ w = w' := by
  obtain ⟨x, hx⟩ : ∃ x : Int, x = (y : Int) := ⟨_, rfl⟩
  have h0x : 0 ≤ x := by omega
  have hyx : x < 4294967296 := by omega
  rw [← hx]
  have HX := hide (And.intro hx hy)
  clear hx hy h0
  rcases (show x < 256 ∨ (256 ≤ x ∧ x < 65536) ∨ (65536 ≤ x ∧ x / 65536 < 256) ∨ (65536 ≤ x ∧ 256 ≤ x / 65536) by omega) with h | ⟨h, h2⟩ | ⟨h, h2⟩ | ⟨h, h2⟩
  all_goals
    refine calls_of_wp Tryz.func157 rfl ?_
    have hT := lenTab.eq_1
    rw [← hT]
    clear hT
    have hsz := lenTab_size
    have hget := hide (tab_get lenTab lenTab_all)
    generalize lenTab = T at hsz hget ⊢
    have hz := hide hsz
    clear hsz
    simp only [Tryz.ntmps157, List.size_toArray, List.length_cons, List.length_nil, Nat.reduceAdd, Nat.reduceSub, Array.replicate_succ, Array.replicate_zero, List.push_toArray, List.append_toArray, List.nil_append, List.cons_append]
    have hsz := hz.out
    go_wp2
    all_goals first
      | (exfalso; omega)
      | (go_ret
         obtain ⟨e1, e2, e3⟩ := len_end T hget.out y 0 x (by have := HX.out; simp; omega) (by have := HX.out; simp; omega) (.inr rfl) (by omega)
         exact ⟨ret_int (by rw [e1, e1]; simpa using e2), rfl⟩)
      | (go_ret
         obtain ⟨e1, e2, e3⟩ := len_end T hget.out y 8 (x / 256) (by have := HX.out; simp; omega) (by have := HX.out; simp; omega) (by have := HX.out; simp; omega) (by omega)
         exact ⟨ret_int (by rw [e1, ← e2]; unfold wrap64; omega), rfl⟩)
      | (go_ret
         obtain ⟨e1, e2, e3⟩ := len_end T hget.out y 16 (x / 65536) (by have := HX.out; simp; omega) (by have := HX.out; simp; omega) (by have := HX.out; simp; omega) (by omega)
         exact ⟨ret_int (by rw [e1, ← e2]; unfold wrap64; omega), rfl⟩)
      | (go_ret
         obtain ⟨e1, e2, e3⟩ := len_end T hget.out y 24 (x / 65536 / 256) (by have := HX.out; simp; omega) (by have := HX.out; simp; omega) (by have := HX.out; simp; omega) (by omega)
         exact ⟨ret_int (by rw [e1, ← e2]; unfold wrap64; omega), rfl⟩)

set_option maxHeartbeats 1600000 in
theorem lead64_any (y : Nat) (h0 : 0 < y) (hy : y < 4294967296) (w : World) :
    Calls Tryz.prog 134 #[.int .u64 y] w fun e w' => e = .returned (.int .i64 (64 - (bitLen y : Int))) ∧ w = w' := by
  have hb : (bitLen y : Int) ≤ 32 := by
    have h1 := bitLen_spec y
    rcases Nat.lt_or_ge 32 (bitLen y) with h | h
    · have h2 := h1.2 (by omega)
      have h3 : 2 ^ 32 ≤ 2 ^ (bitLen y - 1) := Nat.pow_le_pow_right (by omega) (by omega)
      omega
    · omega
  have HL := hide (fun w => len64_any y h0 hy w)
  obtain ⟨b, hbb⟩ : ∃ b : Int, b = (bitLen y : Int) := ⟨_, rfl⟩
  have hb0 : 0 ≤ b := by omega
  rw [← hbb] at hb HL ⊢
  clear hbb
  obtain ⟨x, hx⟩ : ∃ x : Int, x = (y : Int) := ⟨_, rfl⟩
  rw [← hx] at HL ⊢
  clear hx h0 hy
  go_enter Tryz.func134, Tryz.ntmps134
  go_wp2_with fail
  refine (HL.out _).mono ?_
  rintro e w1 ⟨rfl, rfl⟩
  go_wp2
  go_ret
  exact ⟨rfl, rfl⟩
end Go.Proofs.YtamnccechaooaaaGreat
