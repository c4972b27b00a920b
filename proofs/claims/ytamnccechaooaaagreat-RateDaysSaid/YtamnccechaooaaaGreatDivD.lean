/- Divisions of two words: quotients of package wide. -/
import Derived.Test.YtamnccechaooaaaGreatDivC
namespace Go.Proofs.YtamnccechaooaaaGreat
open Go.RowKit Go.Sort
set_option linter.unusedSimpArgs false
set_option linter.unusedVariables false

set_option maxRecDepth 100000 in
set_option maxHeartbeats 1600000 in
theorem wdiv_gen (H lo b T R q l Q r : Int) (w : World) (hb : 0 < b) (hb2 : b < 4294967296) (hH : -9223372036854775808 ≤ H) (hH2 : H ≤ 9223372036854775807) (hlo : 0 ≤ lo) (hlo2 : lo < 18446744073709551616)
    (hT : H.tdiv b = T) (hR : H.tmod b = R) (hTb : -9223372036854775808 ≤ T ∧ T ≤ 9223372036854775807) (hqb : -9223372036854775808 ≤ q) (hRb : -b < R ∧ R < b) (hq : (R < 0 ∧ q = T - 1 ∧ l = R + b) ∨ (0 ≤ R ∧ q = T ∧ l = R)) (hQ : (l * 18446744073709551616 + lo) / b = Q) (hr : (l * 18446744073709551616 + lo) % b = r) (hQb : 0 ≤ Q ∧ Q < 18446744073709551616) (hrb : 0 ≤ r ∧ r < b) :
    Calls Tryz.prog 61 #[.agg #[.int .i64 H, .int .u64 lo], .int .i64 b] w fun e w' => e = .returned (.tuple #[.agg #[.int .i64 q, .int .u64 Q], .int .i64 r, .int .i64 0]) ∧ Below w.heap.size w w' := by
  have hl : 0 ≤ l ∧ l < b := by omega
  have HD := hide (fun w => div64_int l lo b w hl.1 hl.2 hb2 hlo hlo2)
  rw [hQ, hr] at HD
  obtain ⟨hTb1, hTb2⟩ := hTb
  obtain ⟨hRb1, hRb2⟩ := hRb
  obtain ⟨hQb1, hQb2⟩ := hQb
  obtain ⟨hrb1, hrb2⟩ := hrb
  obtain ⟨hl1, hl2⟩ := hl
  clear hQ hr
  rcases hq with ⟨hs, rfl, rfl⟩ | ⟨hs, rfl, rfl⟩
  all_goals
    go_enter Tryz.func61, Tryz.ntmps61
    go_wp2_with fail
    all_goals first
      | (exfalso; omega)
      | skip
    refine (HD.out _).mono ?_
    rintro e w1 ⟨rfl, hb1⟩
    have HK := hide (show BlkIs w1 (w.heap.size + 1) #[.int .i64 0, .int .u64 0] 121 from by
      have h := BlkIs.call (BlkIs.new (w.alloc (.cells #[.int .i64 H, .int .u64 lo] 121)) #[.int .i64 0, .int .u64 0] 121) hb1
      simpa using h)
    obtain ⟨⟨k0, k1⟩, k2, k3, k4⟩ := blk_two HK.out
    have HB1 : Hid (Below w.heap.size w w1) := ww hb1
    clear hb1
  · obtain ⟨g0, g1, g2⟩ := two_set (a := .int .i64 (T - 1)) (b := .int .u64 Q) HK.out
    have hBel := HB1.out
    go_wp2
    exact bodyPost_ret (v := .tuple #[.agg #[.int .i64 (T - 1), .int .u64 Q], .int .i64 r, .int .i64 0]) (by simp [results, Tryz.results61, go_sem, g1, g2]) rfl ⟨rfl, by (repeat' exact bel)⟩
  · obtain ⟨g0, g1, g2⟩ := two_set (a := .int .i64 q) (b := .int .u64 Q) HK.out
    have hBel := HB1.out
    go_wp2
    exact bodyPost_ret (v := .tuple #[.agg #[.int .i64 q, .int .u64 Q], .int .i64 r, .int .i64 0]) (by simp [results, Tryz.results61, go_sem, g1, g2]) rfl ⟨rfl, by (repeat' exact bel)⟩
theorem div_words {N b : Int} (hb : 0 < b) : N / b / 18446744073709551616 = N / 18446744073709551616 / b ∧ N / b % 18446744073709551616 = (N / 18446744073709551616 % b * 18446744073709551616 + N % 18446744073709551616) / b ∧ N % b = (N / 18446744073709551616 % b * 18446744073709551616 + N % 18446744073709551616) % b ∧
    0 ≤ (N / 18446744073709551616 % b * 18446744073709551616 + N % 18446744073709551616) / b ∧ (N / 18446744073709551616 % b * 18446744073709551616 + N % 18446744073709551616) / b < 18446744073709551616 := by
  obtain ⟨H, hH⟩ : ∃ H, N / 18446744073709551616 = H := ⟨_, rfl⟩
  obtain ⟨lo, hlo⟩ : ∃ H, N % 18446744073709551616 = H := ⟨_, rfl⟩
  have hN : N = H * 18446744073709551616 + lo := by omega
  have hl : 0 ≤ lo ∧ lo < 18446744073709551616 := by omega
  rw [hH, hlo]
  obtain ⟨q, hq⟩ : ∃ q, H / b = q := ⟨_, rfl⟩
  obtain ⟨l, hlb⟩ : ∃ q, H % b = q := ⟨_, rfl⟩
  have e1 : H = q * b + l := by rw [← hq, ← hlb]; exact (Int.ediv_mul_add_emod H b).symm
  have e2 : 0 ≤ l := by rw [← hlb]; exact Int.emod_nonneg _ (by omega)
  have e3 : l < b := by rw [← hlb]; exact Int.emod_lt_of_pos _ hb
  rw [hq, hlb]
  have e4 : N = (l * 18446744073709551616 + lo) + b * (q * 18446744073709551616) := by
    rw [hN, e1, Int.add_mul, Int.mul_comm q b, Int.mul_assoc]; omega
  have e5 : N / b = (l * 18446744073709551616 + lo) / b + q * 18446744073709551616 := by rw [e4, Int.add_mul_ediv_left _ _ (by omega)]
  have e6 : N % b = (l * 18446744073709551616 + lo) % b := by rw [e4, Int.add_mul_emod_self_left]
  have e7 : 0 ≤ (l * 18446744073709551616 + lo) / b := Int.ediv_nonneg (by omega) (by omega)
  have e8 : (l * 18446744073709551616 + lo) / b < 18446744073709551616 := Int.ediv_lt_of_lt_mul hb (by
    have : (l + 1) * 18446744073709551616 ≤ b * 18446744073709551616 := Int.mul_le_mul_of_nonneg_right (by omega) (by decide)
    rw [Int.mul_comm 18446744073709551616 b]
    omega)
  rw [e5, e6]
  generalize (l * 18446744073709551616 + lo) / b = Q at *
  refine ⟨by omega, by omega, rfl, e7, e8⟩
theorem wdiv_any (N b : Int) (w : World) (hN : wideOk N) (hb : 0 < b) (hb2 : b < 4294967296) :
    Calls Tryz.prog 61 #[wideV N, .int .i64 b] w fun e w' => e = .returned (.tuple #[wideV (N / b), .int .i64 (N % b), .int .i64 0]) ∧ Below w.heap.size w w' := by
  have hH := wd_hi hN
  obtain ⟨d1, d2, d3, d4, d5⟩ := div_words (N := N) hb
  have hl : 0 ≤ N % 18446744073709551616 ∧ N % 18446744073709551616 < 18446744073709551616 := by omega
  unfold in64 at hH
  obtain ⟨H, hHH⟩ : ∃ H, N / 18446744073709551616 = H := ⟨_, rfl⟩
  rw [hHH] at hH d1 d2 d3 d4 d5
  have t1 := Int.tmod_add_mul_tdiv H b
  have t2 := Int.tmod_lt_of_pos H hb
  have t3 : -b < H.tmod b := Int.lt_tmod_of_pos H hb
  have t4 : -9223372036854775808 ≤ H.tdiv b ∧ H.tdiv b ≤ 9223372036854775807 := by
    constructor
    · rcases Int.lt_or_le (H.tdiv b) (-9223372036854775808) with h | h
      · have := Int.mul_le_mul_of_nonneg_left (show H.tdiv b ≤ -9223372036854775809 by omega) (show 0 ≤ b by omega)
        omega
      · exact h
    · rcases Int.lt_or_le 9223372036854775807 (H.tdiv b) with h | h
      · have := Int.mul_le_mul_of_nonneg_left (show 9223372036854775808 ≤ H.tdiv b by omega) (show 0 ≤ b by omega)
        omega
      · exact h
  have t5 : -9223372036854775808 ≤ H / b := by
    have h1 : -9223372036854775808 * b ≤ -9223372036854775808 * 1 := by omega
    exact (Int.le_ediv_iff_mul_le hb).2 (by omega)
  have hu : (H.tmod b < 0 ∧ H / b = H.tdiv b - 1 ∧ H % b = H.tmod b + b) ∨ (0 ≤ H.tmod b ∧ H / b = H.tdiv b ∧ H % b = H.tmod b) := by
    rcases Int.lt_or_le (H.tmod b) 0 with h | h
    · left
      have := (Int.ediv_emod_unique (a := H) (b := b) (r := H.tmod b + b) (q := H.tdiv b - 1) hb).2 ⟨by rw [Int.mul_sub, Int.mul_one]; omega, by omega, by omega⟩
      exact ⟨h, this.1, this.2⟩
    · right
      have := (Int.ediv_emod_unique (a := H) (b := b) (r := H.tmod b) (q := H.tdiv b) hb).2 ⟨t1, h, t2⟩
      exact ⟨h, this.1, this.2⟩
  have hr : 0 ≤ N % b ∧ N % b < b := ⟨Int.emod_nonneg _ (by omega), Int.emod_lt_of_pos _ hb⟩
  have h := wdiv_gen H (N % 18446744073709551616) b (H.tdiv b) (H.tmod b) (H / b) (H % b) _ _ w hb hb2 hH.1 hH.2 hl.1 hl.2 rfl rfl t4 t5 ⟨t3, t2⟩ hu rfl rfl ⟨d4, d5⟩ (by rw [← d3]; exact hr)
  rw [← d3, ← d2, ← d1] at h
  rw [← hHH] at h
  exact h
theorem muldiv_bd {a x n : Int} (ha : in64 a) (hx : 0 ≤ x) (hxn : x ≤ n) (hn : 0 < n) : in64 (a * x / n) := by
  unfold in64 at *
  constructor
  · refine (Int.le_ediv_iff_mul_le hn).2 ?_
    rcases Int.lt_or_le a 0 with h | h
    · have h1 : a * n ≤ a * x := Int.mul_le_mul_of_nonpos_left (by omega) hxn
      have h2 : -9223372036854775808 * n ≤ a * n := Int.mul_le_mul_of_nonneg_right ha.1 (by omega)
      omega
    · have := Int.mul_nonneg h hx; omega
  · have h3 : a * x / n < 9223372036854775807 + 1 := by
      refine Int.ediv_lt_of_lt_mul hn ?_
      rcases Int.lt_or_le a 0 with h | h
      · have h1 : a * x ≤ 0 * x := Int.mul_le_mul_of_nonneg_right (by omega) hx
        omega
      · have h1 : a * x ≤ a * n := Int.mul_le_mul_of_nonneg_left hxn h
        have h2 : a * n ≤ 9223372036854775807 * n := Int.mul_le_mul_of_nonneg_right ha.2 (by omega)
        omega
    omega

set_option maxRecDepth 100000 in
set_option maxHeartbeats 1600000 in
theorem wmd_any (a x n : Int) (w : World) (ha : in64 a) (hx : 0 ≤ x) (hxn : x ≤ n) (hn : 0 < n) (hn2 : n < 4294967296) :
    Calls Tryz.prog 27 #[.int .i64 a, .int .i64 x, .int .i64 n] w fun e w' => e = .returned (.tuple #[.int .i64 (a * x / n), .int .i64 (a * x % n), .int .i64 0]) ∧ Below w.heap.size w w' := by
  have hq := muldiv_bd ha hx hxn hn
  have hp : wideOk (a * x) := by
    have h1 : -9223372036854775808 * x ≤ a * x := Int.mul_le_mul_of_nonneg_right ha.1 hx
    have h2 : a * x ≤ 9223372036854775807 * x := Int.mul_le_mul_of_nonneg_right ha.2 hx
    unfold wideOk
    omega
  have HM := hide (fun w => wmul_any a x w ha hx (by omega))
  have HD := hide (fun w => wdiv_any (a * x) n w hp hn hn2)
  have HF := hide (fun w => wfit_any (a * x / n) w (in_wd hq))
  rw [(fit_yes hq).1, (fit_yes hq).2] at HF
  obtain ⟨Q, hQ⟩ : ∃ Q, a * x / n = Q := ⟨_, rfl⟩
  obtain ⟨R, hR⟩ : ∃ Q, a * x % n = Q := ⟨_, rfl⟩
  rw [hQ, hR] at HD
  rw [hQ] at HF
  rw [hQ, hR]
  simp only [wideV] at HM HD HF
  clear hq hp ha hQ hR
  go_enter Tryz.func27, Tryz.ntmps27
  go_wp2_with fail
  refine (HM.out _).mono ?_
  rintro e w1 ⟨rfl, hb1⟩
  have HB1 : Hid (Below w.heap.size w w1) := ww hb1
  have hz1 := hb1.size
  clear hb1
  go_wp2_with fail
  refine (HD.out _).mono ?_
  rintro e w2 ⟨rfl, hb2⟩
  have HB2 : Hid (Below w.heap.size w w2) := by have hp := HB1.out; exact ww hb2
  have hz2 := hb2.size
  clear hb2
  go_wp2_with fail
  refine (HF.out _).mono ?_
  rintro e w3 ⟨rfl, hb3⟩
  have HB3 : Hid (Below w.heap.size w w3) := by have hp := HB2.out; exact ww hb3
  clear hb3
  go_wp2
  exact bodyPost_ret (v := .tuple #[.int .i64 Q, .int .i64 R, .int .i64 0]) (by simp [results, Tryz.results27, go_sem]) rfl ⟨rfl, HB3.out⟩
end Go.Proofs.YtamnccechaooaaaGreat
