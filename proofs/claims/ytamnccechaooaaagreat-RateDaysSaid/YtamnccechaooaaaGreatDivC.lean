/- Divisions of two words: products and quotients of package wide. -/
import Derived.Test.YtamnccechaooaaaGreatDivB
import Derived.Test.YtamnccechaooaaaGreatWideB
namespace Go.Proofs.YtamnccechaooaaaGreat
open Go.RowKit Go.Sort
set_option linter.unusedSimpArgs false
set_option linter.unusedVariables false

theorem mul64_int (x y : Int) (h1 : 0 ≤ x ∧ x < 18446744073709551616) (h2 : 0 ≤ y ∧ y < 18446744073709551616) (w : World) :
    Calls Tryz.prog 101 #[.int .u64 x, .int .u64 y] w fun e w' => e = .returned (.tuple #[.int .u64 (x * y / 18446744073709551616), .int .u64 (x * y % 18446744073709551616)]) ∧ w = w' := by
  obtain ⟨a, rfl⟩ := Int.eq_ofNat_of_zero_le h1.1
  obtain ⟨b, rfl⟩ := Int.eq_ofNat_of_zero_le h2.1
  refine (mul64_any a b (by omega) (by omega) w).mono ?_
  rintro e w' ⟨rfl, rfl⟩
  refine ⟨ret_int2 ?_ ?_, rfl⟩
  · rw [← Int.natCast_mul]; omega
  · rw [← Int.natCast_mul]; omega
theorem div64_int (hi lo y : Int) (w : World) (h0 : 0 ≤ hi) (h2 : hi < y) (h3 : y < 4294967296) (h4 : 0 ≤ lo) (h5 : lo < 18446744073709551616) :
    Calls Tryz.prog 100 #[.int .u64 hi, .int .u64 lo, .int .u64 y] w fun e w' => e = .returned (.tuple #[.int .u64 ((hi * 18446744073709551616 + lo) / y), .int .u64 ((hi * 18446744073709551616 + lo) % y)]) ∧ Below w.heap.size w w' := by
  obtain ⟨a, rfl⟩ := Int.eq_ofNat_of_zero_le h0
  obtain ⟨b, rfl⟩ := Int.eq_ofNat_of_zero_le h4
  obtain ⟨y, rfl⟩ := Int.eq_ofNat_of_zero_le (show 0 ≤ y by omega)
  rcases Nat.eq_zero_or_pos a with rfl | ha
  · have hq : 0 ≤ (b : Int) / (y : Int) ∧ (b : Int) / (y : Int) < 18446744073709551616 := by
      refine ⟨Int.ediv_nonneg (by omega) (by omega), ?_⟩
      have := Int.ediv_le_self (a := (b : Int)) (y : Int) (by omega)
      omega
    have hr : 0 ≤ (b : Int) % (y : Int) ∧ (b : Int) % (y : Int) < 18446744073709551616 := by
      have h6 := Int.emod_nonneg (b : Int) (show (y : Int) ≠ 0 by omega)
      have h7 := Int.emod_lt_of_pos (b : Int) (show (0 : Int) < y by omega)
      omega
    refine (div64_zero b y w (by omega) (by omega) h5 (by omega) _ _ rfl rfl hq hr).mono ?_
    rintro e w' ⟨rfl, n, rfl⟩
    refine ⟨ret_int2 ?_ ?_, below_drewN (Below.refl _ _) n⟩ <;> simp
  · refine (div64_nat a b y w ha (by omega) (by omega) (by omega)).mono ?_
    rintro e w' ⟨rfl, rfl⟩
    refine ⟨ret_int2 ?_ ?_, Below.refl _ _⟩
    · rw [Int.natCast_ediv, Int.natCast_add, Int.natCast_mul]; rfl
    · rw [Int.natCast_emod, Int.natCast_add, Int.natCast_mul]; rfl
/-- The words of a product with a number that is not below 0. -/
theorem mul_words {a b : Int} (ha : in64 a) (hb : 0 ≤ b) (hb2 : b ≤ 9223372036854775807) : in64 (a * b / 18446744073709551616) ∧ (a < 0 → ((a + 18446744073709551616) * b / 18446744073709551616 - b = a * b / 18446744073709551616 ∧ (a + 18446744073709551616) * b % 18446744073709551616 = a * b % 18446744073709551616)) := by
  have e : (a + 18446744073709551616) * b = a * b + b * 18446744073709551616 := by rw [Int.add_mul, Int.mul_comm 18446744073709551616 b]
  rw [e]
  unfold in64 at ha ⊢
  have h1 : -9223372036854775808 * b ≤ a * b := Int.mul_le_mul_of_nonneg_right ha.1 hb
  have h2 : a * b ≤ 9223372036854775807 * b := Int.mul_le_mul_of_nonneg_right ha.2 hb
  generalize a * b = p at *
  refine ⟨by omega, fun _ => by omega⟩

theorem two_set {x y a b : Value} {t : TypeId} {B : Nat} {w : World} (h : BlkIs w B #[x, y] t) : ((w.setCell ⟨B, 0, none⟩ a).setCell ⟨B, 1, none⟩ b).cell? ⟨B, 0, none⟩ = some a ∧ ((w.setCell ⟨B, 0, none⟩ a).setCell ⟨B, 1, none⟩ b).cell? ⟨B, 1, none⟩ = some b ∧ (w.setCell ⟨B, 0, none⟩ a).cell? ⟨B, 0, none⟩ = some a := by
  have e2 : BlkIs (w.setCell ⟨B, 0, none⟩ a) B #[a, y] t := by
    unfold BlkIs at h ⊢
    simp [World.setCell, Array.getElem?_modify, h]
  have e : BlkIs ((w.setCell ⟨B, 0, none⟩ a).setCell ⟨B, 1, none⟩ b) B #[a, b] t := by
    unfold BlkIs at h ⊢
    simp [World.setCell, Array.getElem?_modify, h]
  exact ⟨e.cell 0, e.cell 1, e2.cell 0⟩
theorem pair_0 (a b : Int) (w : World) : (Instr.index 168 (.agg #[.int .i64 a, .int .i64 b, .int .i64 b, .int .i64 a]) (.int .i64 0)).run Tryz.prog w = .ok (.agg #[.int .i64 a, .int .i64 b]) w := by kernel_rfl
theorem pair_1 (a b : Int) (w : World) : (Instr.index 168 (.agg #[.int .i64 a, .int .i64 b, .int .i64 b, .int .i64 a]) (.int .i64 1)).run Tryz.prog w = .ok (.agg #[.int .i64 b, .int .i64 a]) w := by kernel_rfl
set_option maxRecDepth 100000 in
set_option maxHeartbeats 1600000 in
theorem wmul_pos (a b P Q : Int) (w : World) (h0 : 0 ≤ a) (h1 : a ≤ 9223372036854775807) (hb : 0 ≤ b) (hb2 : b ≤ 9223372036854775807) (hP : a * b / 18446744073709551616 = P) (hQ : a * b % 18446744073709551616 = Q) (hP0 : 0 ≤ P) (hP1 : P ≤ 9223372036854775807) (hQ0 : 0 ≤ Q) (hQ1 : Q < 18446744073709551616) :
    Calls Tryz.prog 62 #[.int .i64 a, .int .i64 b] w fun e w' => e = .returned (.agg #[.int .i64 P, .int .u64 Q]) ∧ Below w.heap.size w w' := by
  have hx0 := pair_0 a b
  have hx1 := pair_1 a b
  have HM := hide (fun w => mul64_int a b (by omega) (by omega) w)
  rw [hP, hQ] at HM
  clear hP hQ
  go_enter Tryz.func62, Tryz.ntmps62
  go_wp2_with fail
  refine (HM.out _).mono ?_
  rintro e w1 ⟨rfl, rfl⟩
  go_wp2_with fail
  go_loopw [5, 24] (fun h s wr => (h = .int .u64 P ∧ (s = .int .i64 0 ∨ s = .int .i64 1 ∨ s = .int .i64 2)) ∧ BlkIs wr w.heap.size #[.int .i64 0, .int .u64 0] 121 ∧ Below w.heap.size w wr) (fun _ s _ => (5 - intOf s).toNat)
  case atStart => exact ⟨⟨rfl, .inl rfl⟩, BlkIs.new _ _ _, by (repeat' exact bel)⟩
  case round =>
    obtain ⟨hs, hB, hBel⟩ := hrel
    have HB := hide hB
    obtain ⟨⟨b0, b1⟩, f0, f1, b3⟩ := blk_two HB.out
    clear hB
    have hsz := hBel.size
    rcases hs with ⟨rfl, rfl | rfl | rfl⟩
    · go_wp2
      all_goals first
        | (exfalso; omega)
        | skip
      go_roundw
      case rel => exact ⟨⟨rfl, .inr (.inl rfl)⟩, HB.out.alloc _, by (repeat' exact bel)⟩
      case measure => simp [intOf]
    · go_wp2
      all_goals first
        | (exfalso; omega)
        | skip
      go_roundw
      case rel => exact ⟨⟨rfl, .inr (.inr rfl)⟩, HB.out.alloc _, by (repeat' exact bel)⟩
      case measure => simp [intOf]
    · obtain ⟨g0, g1, g2⟩ := two_set (a := .int .i64 P) (b := .int .u64 Q) HB.out
      go_wp2
      exact bodyPost_ret (v := .agg #[.int .i64 P, .int .u64 Q]) (by simp [results, Tryz.results62, go_sem, g1, g2]) rfl ⟨rfl, by (repeat' exact bel)⟩
set_option maxRecDepth 100000 in
set_option maxHeartbeats 1600000 in
theorem wmul_neg (a b P P2 Q : Int) (w : World) (h0 : a < 0) (h1 : -9223372036854775808 ≤ a) (hb : 0 ≤ b) (hb2 : b ≤ 9223372036854775807) (hP : (a + 18446744073709551616) * b / 18446744073709551616 = P) (hQ : (a + 18446744073709551616) * b % 18446744073709551616 = Q) (hP0 : 0 ≤ P) (hP1 : P < 18446744073709551616) (hQ0 : 0 ≤ Q) (hQ1 : Q < 18446744073709551616)
    (hPP : P - b = P2) (hP2 : -9223372036854775808 ≤ P2) (hP3 : P2 ≤ 9223372036854775807) :
    Calls Tryz.prog 62 #[.int .i64 a, .int .i64 b] w fun e w' => e = .returned (.agg #[.int .i64 P2, .int .u64 Q]) ∧ Below w.heap.size w w' := by
  have hx0 := pair_0 a b
  have hx1 := pair_1 a b
  have HM := hide (fun w => mul64_int (a + 18446744073709551616) b (by omega) (by omega) w)
  rw [hP, hQ] at HM
  have HPP := hide hPP
  have HA := hide (show IntKind.u64.wrap a = a + 18446744073709551616 by rw [IntKind.wrap_u64]; omega)
  clear hP hQ hPP
  go_enter Tryz.func62, Tryz.ntmps62
  go_wp2_with fail
  rw [HA.out]
  refine (HM.out _).mono ?_
  rintro e w1 ⟨rfl, rfl⟩
  obtain ⟨P1, hPone⟩ : ∃ x, IntKind.u64.wrap (P - b) = x := ⟨_, rfl⟩
  have HP1 := hide hPone
  have HW := hide (show IntKind.i64.wrap P1 = P2 by rw [← hPone, ← HPP.out, IntKind.wrap_u64, IntKind.wrap_i64]; have := HPP.out; omega)
  go_wp2_with fail
  go_loopw [5, 24] (fun h s wr => ((h = .int .u64 P ∧ s = .int .i64 0) ∨ (h = .int .u64 P1 ∧ (s = .int .i64 1 ∨ s = .int .i64 2))) ∧ BlkIs wr w.heap.size #[.int .i64 0, .int .u64 0] 121 ∧ Below w.heap.size w wr) (fun _ s _ => (5 - intOf s).toNat)
  case atStart => exact ⟨.inl ⟨rfl, rfl⟩, BlkIs.new _ _ _, by (repeat' exact bel)⟩
  case round =>
    obtain ⟨hs, hB, hBel⟩ := hrel
    have HB := hide hB
    obtain ⟨⟨b0, b1⟩, f0, f1, b3⟩ := blk_two HB.out
    clear hB
    have hsz := hBel.size
    rcases hs with ⟨rfl, rfl⟩ | ⟨rfl, rfl | rfl⟩
    · go_wp2
      all_goals first
        | (exfalso; omega)
        | skip
      go_roundw
      case rel => exact ⟨.inr ⟨by first | rfl | simp [HP1.out], .inl rfl⟩, HB.out.alloc _, by (repeat' exact bel)⟩
      case measure => simp [intOf]
    · clear hPone
      go_wp2
      all_goals first
        | (exfalso; omega)
        | skip
      go_roundw
      case rel => exact ⟨.inr ⟨rfl, .inr rfl⟩, HB.out.alloc _, by (repeat' exact bel)⟩
      case measure => simp [intOf]
    · clear hPone
      have hw := HW.out
      obtain ⟨g0, g1, g2⟩ := two_set (a := .int .i64 P2) (b := .int .u64 Q) HB.out
      go_wp2
      exact bodyPost_ret (v := .agg #[.int .i64 P2, .int .u64 Q]) (by simp [results, Tryz.results62, go_sem, g1, g2]) rfl ⟨rfl, by (repeat' exact bel)⟩
theorem wmul_any (a b : Int) (w : World) (ha : in64 a) (hb : 0 ≤ b) (hb2 : b ≤ 9223372036854775807) : Calls Tryz.prog 62 #[.int .i64 a, .int .i64 b] w fun e w' => e = .returned (wideV (a * b)) ∧ Below w.heap.size w w' := by
  obtain ⟨h1, h2⟩ := mul_words ha hb hb2
  have hr : 0 ≤ a * b % 18446744073709551616 ∧ a * b % 18446744073709551616 < 18446744073709551616 := by omega
  unfold in64 at ha h1
  rcases Int.lt_or_le a 0 with h | h
  · obtain ⟨e1, e2⟩ := h2 h
    have e3 := Int.ediv_nonneg (Int.mul_nonneg (show 0 ≤ a + 18446744073709551616 by omega) hb) (show (0 : Int) ≤ 18446744073709551616 by decide)
    exact wmul_neg a b _ _ _ w h ha.1 hb hb2 rfl e2 e3 (by omega) hr.1 hr.2 e1 h1.1 h1.2
  · exact wmul_pos a b _ _ w h ha.2 hb hb2 rfl rfl (Int.ediv_nonneg (Int.mul_nonneg h hb) (by decide)) h1.2 hr.1 hr.2
end Go.Proofs.YtamnccechaooaaaGreat
