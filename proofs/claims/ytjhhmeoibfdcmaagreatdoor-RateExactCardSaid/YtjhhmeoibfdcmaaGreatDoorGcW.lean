/- Package whole: the binary common divisor, small products. -/
import Derived.Test.YtjhhmeoibfdcmaaGreatDoorGcP
import Derived.Test.YtjhhmeoibfdcmaaGreatDoorRtA
namespace Go.Proofs.YtjhhmeoibfdcmaaGreatDoor
open Go.RowKit Qd
set_option linter.unusedSimpArgs false
set_option linter.unusedVariables false

/-- The library's table lies in its variable. -/
def TabW (w : World) : Prop := ∀ j, j < 64 → w.cell? ⟨0, j, none⟩ = some (.int .u8 ((Lib.deBruijn64tab.getD j 0 : Nat) : Int))
theorem TabW.lt {w : World} (h : TabW w) : 0 < w.heap.size := World.block_lt_of_cell? w ⟨0, 0, none⟩ (h 0 (by decide))
theorem TabW.call {w w' : World} (h : TabW w) (hb : Below w.heap.size w w') : TabW w' := fun j hj => (hb.cell (p := ⟨0, j, none⟩) h.lt).trans (h j hj)

set_option maxHeartbeats 1000000 in
theorem wsize_any (a : Int) (w : World) (h : in64 a) : Calls Tryz.prog 55 #[.int .i64 a] w fun e w' => e = .returned (.int .u64 (a.natAbs : Int)) ∧ w = w' := by
  unfold in64 at h
  obtain ⟨h1, h2⟩ := h
  by_cases h0 : a < 0
  · have HN := hide (show (a.natAbs : Int) = -a by omega)
    go_enter Tryz.func55, Tryz.ntmps55
    go_wp2
    all_goals first
      | (exfalso; omega)
      | (go_ret; exact ⟨ret_int (by rw [HN.out]; simp only [IntKind.wrap_u64]; omega), rfl⟩)
  · have HN := hide (show (a.natAbs : Int) = a by omega)
    go_enter Tryz.func55, Tryz.ntmps55
    go_wp2
    all_goals first
      | (exfalso; omega)
      | (go_ret; exact ⟨ret_int (by rw [HN.out] <;> first | rfl | (simp only [IntKind.wrap_u64]; omega)), rfl⟩)

set_option maxHeartbeats 1000000 in
theorem wsigned_pos (n : Nat) (w : World) (hn : n ≤ 9223372036854775807) : Calls Tryz.prog 56 #[.int .u64 0, .int .u64 n, .bool false] w fun e w' => e = .returned (.tuple #[.int .i64 n, .int .i64 0]) ∧ w = w' := by
  go_enter Tryz.func56, Tryz.ntmps56
  go_wp2
  all_goals first
    | (exfalso; omega)
    | (go_ret2; exact ⟨rfl, rfl⟩)

theorem tz_key (x a : Nat) (hx : x < 18446744073709551616) (hx0 : x ≠ 0) (hlow : x &&& (18446744073709551616 - x) = a) :
    IntKind.u64.wrap (bits BinOp.and IntKind.u64 (x : Int) (IntKind.u64.wrap (-(x : Int))) * 285870213051353865) / 288230376151711744 = ((a * 285870213051353865 % 18446744073709551616 / 288230376151711744 : Nat) : Int) := by
  have e1 : IntKind.u64.wrap (-(x : Int)) = ((18446744073709551616 - x : Nat) : Int) := by rw [IntKind.wrap_u64]; omega
  rw [e1, bits_and_u64_nat x _ hx (by omega), hlow, IntKind.wrap_u64]
  omega

set_option maxHeartbeats 1000000 in
theorem tz_core (x k idx : Nat) (w : World) (hx0 : ((x : Int) == 0) = false)
    (key : IntKind.u64.wrap (bits BinOp.and IntKind.u64 (x : Int) (IntKind.u64.wrap (-(x : Int))) * 285870213051353865) / 288230376151711744 = (idx : Int))
    (hi : idx < 64) (hk : k < 64) (hcell : w.cell? ⟨0, idx, none⟩ = some (.int .u8 k)) :
    Calls Tryz.prog 57 #[.int .u64 x] w fun e w' => e = .returned (.int .i64 k) ∧ w' = w := by
  go_enter Tryz.func57, Tryz.ntmps57
  go_wp2_with (simp only [key])
  go_ret
  exact ⟨rfl, rfl⟩
theorem tz_any (x : Nat) (w : World) (h0 : 0 < x) (hx : x < 18446744073709551616) (hT : TabW w) :
    Calls Tryz.prog 57 #[.int .u64 x] w fun e w' => e = .returned (.int .i64 ((Lib.ctz 64 x : Nat) : Int)) ∧ w' = w := by
  obtain ⟨hlow, hk⟩ := Lib.lowest_bit 64 x (by omega) hx
  obtain ⟨hi, htab⟩ := Lib.deBruijn64_at _ hk
  have hcell := hT _ hi
  rw [htab] at hcell
  exact tz_core x _ _ w (by simp; omega) (tz_key x _ hx (by omega) hlow) hi hk hcell

set_option maxRecDepth 100000 in
set_option maxHeartbeats 3200000 in
theorem wmul_small (x y : Nat) (w : World) (hx : x ≤ 9223372036854775807) (hy : y ≤ 9223372036854775807) (hxy : x * y ≤ 9223372036854775807) : Calls Tryz.prog 39 #[.int .i64 x, .int .i64 y] w fun e w' => e = .returned (.tuple #[.int .i64 ((x * y : Nat) : Int), .int .i64 0]) ∧ Below w.heap.size w w' := by
  have HS1 := hide (fun W => show Calls Tryz.prog 55 #[.int .i64 (x : Int)] W fun e w' => e = .returned (.int .u64 (x : Int)) ∧ W = w' from wsize_any x W (by unfold in64; omega))
  have HS2 := hide (fun W => show Calls Tryz.prog 55 #[.int .i64 (y : Int)] W fun e w' => e = .returned (.int .u64 (y : Int)) ∧ W = w' from wsize_any y W (by unfold in64; omega))
  have HM := hide (fun W => show Calls Tryz.prog 32 #[.int .u64 (x : Int), .int .u64 (y : Int)] W fun e w' => e = .returned (.tuple #[.int .u64 0, .int .u64 ((x * y : Nat) : Int)]) ∧ W = w' from by
    have h := mul64_any x y (by omega) (by omega) W
    rwa [show x * y / 18446744073709551616 = 0 by omega, show x * y % 18446744073709551616 = x * y by omega] at h)
  have HG := hide (fun W => wsigned_pos (x * y) W hxy)
  have hx0 : decide ((x : Int) < 0) = false := by simp
  have hy0 : decide ((y : Int) < 0) = false := by simp
  have hxn : ¬ (x : Int) < 0 := by omega
  have hyn : ¬ (y : Int) < 0 := by omega
  generalize x * y = z at *
  go_enter Tryz.func39, Tryz.ntmps39
  go_wp2_with fail
  refine (HS1.out _).mono ?_
  rintro e w1 ⟨rfl, rfl⟩
  go_wp2_with fail
  refine (HS2.out _).mono ?_
  rintro e w1 ⟨rfl, rfl⟩
  go_wp2_with fail
  refine (HM.out _).mono ?_
  rintro e w1 ⟨rfl, rfl⟩
  go_wp2_with fail
  refine (HG.out _).mono ?_
  rintro e w1 ⟨rfl, rfl⟩
  go_wp2
  go_ret2
  exact ⟨rfl, Below.refl _ _⟩

theorem odd_cast (x : Nat) : (x : Int) / 2 ^ Lib.ctz 64 x = ((odd x : Nat) : Int) := by
  unfold odd
  rw [Int.natCast_ediv, Int.natCast_pow]; rfl

set_option maxRecDepth 100000 in
set_option maxHeartbeats 3200000 in
theorem wgcd_any (a b : Nat) (w : World) (ha : 1 ≤ a) (ha2 : a ≤ 9223372036854775807) (hb : 1 ≤ b) (hb2 : b ≤ 9223372036854775807) (hT : TabW w) : Calls Tryz.prog 33 #[.int .i64 a, .int .i64 b] w fun e w' => e = .returned (.tuple #[.int .i64 ((Nat.gcd a b : Nat) : Int), .int .i64 0]) ∧ Below w.heap.size w w' := by
  have HS1 := hide (fun W => show Calls Tryz.prog 55 #[.int .i64 (a : Int)] W fun e w' => e = .returned (.int .u64 (a : Int)) ∧ W = w' from wsize_any a W (by unfold in64; omega))
  have HS2 := hide (fun W => show Calls Tryz.prog 55 #[.int .i64 (b : Int)] W fun e w' => e = .returned (.int .u64 (b : Int)) ∧ W = w' from wsize_any b W (by unfold in64; omega))
  obtain ⟨hg, ho1, ho2⟩ := gcd_twos (show 0 < a by omega) (show a < 18446744073709551616 by omega) (show 0 < b by omega) (show b < 18446744073709551616 by omega)
  obtain ⟨ex, ox, lx, lex, px⟩ := odd_spec (show 0 < a by omega) (show a < 18446744073709551616 by omega)
  have HG0 := hide hg
  have hodx : odd a = a / 2 ^ Lib.ctz 64 a := rfl
  have HODX := hide hodx
  have HT := hide hT
  have HZ := hide (fun x h0 hx => tz_any x w h0 hx HT.out)
  clear ex hg hodx hT
  have hor : bits .or .u64 (a : Int) (b : Int) = ((a ||| b : Nat) : Int) := bits_or_u64_nat a b (by omega) (by omega)
  have hgl : Nat.gcd a b ≤ 9223372036854775807 := Nat.le_trans (Nat.le_of_dvd (by omega) (Nat.gcd_dvd_left _ _)) ha2
  have ha0 : ((a : Int) == 0) = false := by simp; omega
  have hb0 : ((b : Int) == 0) = false := by simp; omega
  go_enter Tryz.func33, Tryz.ntmps33
  go_wp2_with fail
  refine (HS1.out _).mono ?_
  rintro e w1 ⟨rfl, rfl⟩
  go_wp2_with fail
  refine (HS2.out _).mono ?_
  rintro e w1 ⟨rfl, rfl⟩
  go_wp2_with fail
  refine (HZ.out (a ||| b) ho1 ho2).mono ?_
  rintro e w1 ⟨rfl, rfl⟩
  go_wp2_with fail
  refine (HZ.out a (by omega) (by omega)).mono ?_
  rintro e w1 ⟨rfl, rfl⟩
  go_wp2_with fail
  obtain ⟨H, hH⟩ : ∃ H, Nat.gcd (odd a) b = H := ⟨_, rfl⟩
  have HH := hide hH
  clear hH
  go_loopw [6, 7] (fun s6 s7 wr => ∃ x y : Nat, s6 = .int .u64 x ∧ s7 = .int .u64 y ∧ x % 2 = 1 ∧ x ≤ 9223372036854775807 ∧ y ≤ 9223372036854775807 ∧ Hid (Nat.gcd x y = H) ∧ wr = w1) (fun s6 s7 _ => (intOf s6 + intOf s7).toNat)
  case atStart => exact ⟨odd a, b, by rw [odd_cast], rfl, ox, by omega, hb2, HH, rfl⟩
  case round =>
    obtain ⟨x, y, rfl, rfl, hxo, hx, hy, HQ, rfl⟩ := hrel
    by_cases h0 : 0 < y
    · have hyb : ((y : Int) != 0) = true := by simp; omega
      obtain ⟨ey, oy, ly, ley, py⟩ := odd_spec h0 (show y < 18446744073709551616 by omega)
      have HEY := hide ey
      have hoc := odd_cast y
      clear ey
      have hg2 : Nat.gcd x (odd y) = H := (gcd_odd hxo h0 (by omega)).trans HQ.out
      have hgm : Nat.gcd (min x (odd y)) (max x (odd y) - min x (odd y)) = H := gcd_min.trans hg2
      obtain ⟨z, hz⟩ : ∃ z, odd y = z := ⟨_, rfl⟩
      rw [hz] at oy ley py hoc hg2 hgm
      have HZY := hide (HZ.out y h0 (by omega))
      have HGM := hide hgm
      clear hz hg2 hgm
      go_wp2_with fail
      refine HZY.out.mono ?_
      rintro e w2 ⟨rfl, rfl⟩
      rcases (show z < x ∨ z = x ∨ x < z by omega) with h | h | h
      · have hn : ¬ x < z := by omega
        go_wp2
        go_roundw
        case rel => exact ⟨z, x - z, rfl, by rw [Int.natCast_sub (by omega)], oy, by omega, by omega, hide (by have h3 := HGM.out; rwa [Nat.min_eq_right (by omega), Nat.max_eq_left (by omega)] at h3), trivial⟩
        case measure => simp [intOf]; omega
      · subst h
        go_wp2
        go_roundw
        case rel => exact ⟨z, 0, rfl, by simp, oy, by omega, by omega, hide (by have h3 := HGM.out; rwa [Nat.min_self, Nat.max_self, Nat.sub_self] at h3), trivial⟩
        case measure => simp [intOf]; omega
      · have hn : ¬ z < x := by omega
        go_wp2
        go_roundw
        case rel => exact ⟨x, z - x, rfl, by rw [Int.natCast_sub (by omega)], hxo, by omega, by omega, hide (by have h3 := HGM.out; rwa [Nat.min_eq_left (by omega), Nat.max_eq_right (by omega)] at h3), trivial⟩
        case measure => simp [intOf]; omega
    · obtain rfl : y = 0 := by omega
      have HX := hide (show x = H by have h3 := HQ.out; rwa [Nat.gcd_zero_right] at h3)
      have hres : x * 2 ^ Lib.ctz 64 (a ||| b) = Nat.gcd a b := by rw [HX.out, ← HH.out]; exact HG0.out
      have hct := (odd_spec ho1 ho2).2.2.1
      have hsh : IntKind.u64.wrap ((x : Int) * 2 ^ Lib.ctz 64 (a ||| b)) = ((Nat.gcd a b : Nat) : Int) := by
        have e : (x : Int) * 2 ^ Lib.ctz 64 (a ||| b) = ((x * 2 ^ Lib.ctz 64 (a ||| b) : Nat) : Int) := by rw [Int.natCast_mul, Int.natCast_pow]; rfl
        rw [e, hres]
        exact m64_wrap _ (by omega)
      have HSG := hide (fun W => wsigned_pos (Nat.gcd a b) W hgl)
      have HSH := hide hsh
      clear hres hsh
      go_wp2_with fail
      rw [HSH.out]
      refine (HSG.out _).mono ?_
      rintro e w2 ⟨rfl, rfl⟩
      go_wp2
      go_ret2
      exact ⟨rfl, Below.refl _ _⟩
end Go.Proofs.YtjhhmeoibfdcmaaGreatDoor
