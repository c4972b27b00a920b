/- Package ratio: the product of a whole number and a ratio. -/
import Derived.Test.YtjhhmeoibfdcmaaGreatDoorRtB
namespace Go.Proofs.YtjhhmeoibfdcmaaGreatDoor
open Go.RowKit Qd
set_option linter.unusedSimpArgs false
set_option linter.unusedVariables false

theorem mk_bd (b : Bool) (n d high : Nat) : ∃ x y : Int, mkV b n d high = .agg #[.int .i64 x, .int .i64 y] := by
  unfold mkV ratV
  split <;> exact ⟨_, _, rfl⟩

set_option maxRecDepth 100000 in
set_option maxHeartbeats 3200000 in
theorem rcross_one (b : Bool) (n m c : Nat) (w : World) (hn : n < 18446744073709551616) (hm : m ≤ 9223372036854775807) (hc : 1 ≤ c) (hc2 : c ≤ 9223372036854775807) :
    Calls Tryz.prog 21 #[.bool b, .int .u64 n, .int .u64 1, .int .u64 m, .int .u64 c] w fun e w' => e = .returned (.tuple #[mkV (b && decide (0 < n / Nat.gcd n c * m % 18446744073709551616)) (n / Nat.gcd n c * m % 18446744073709551616) (c / Nat.gcd n c) (n / Nat.gcd n c * m / 18446744073709551616), .int .i64 (mkE (b && decide (0 < n / Nat.gcd n c * m % 18446744073709551616)) (n / Nat.gcd n c * m % 18446744073709551616) (c / Nat.gcd n c) (n / Nat.gcd n c * m / 18446744073709551616))]) ∧ Below w.heap.size w w' := by
  have hg0 : 0 < Nat.gcd n c := Nat.gcd_pos_of_pos_right _ (by omega)
  have HC1 := hide (fun W => rcommon_any n c W (by omega) (by omega))
  have HC2 := hide (fun W => show Calls Tryz.prog 16 #[.int .u64 (m : Int), .int .u64 1] W fun e w' => e = .returned (.int .u64 1) ∧ Below W.heap.size W w' from (rcommon_any m 1 W (by omega) (by omega)).mono fun _ _ h => by rw [Nat.gcd_one_right] at h; exact h)
  have hN : n / Nat.gcd n c < 18446744073709551616 := Nat.lt_of_le_of_lt (Nat.div_le_self _ _) hn
  have hC : c / Nat.gcd n c ≤ 9223372036854775807 := Nat.le_trans (Nat.div_le_self _ _) hc2
  have hm2 := nat_tdiv m 1
  rw [Nat.div_one] at hm2
  have hnd := nat_tdiv n (Nat.gcd n c)
  have hcd := nat_tdiv c (Nat.gcd n c)
  generalize Nat.gcd n c = g at *
  generalize n / g = N at *
  generalize c / g = D at *
  have HM1 := hide (fun W => mul64_any N m hN (by omega) W)
  have HM2 := hide (fun W => show Calls Tryz.prog 32 #[.int .u64 1, .int .u64 (D : Int)] W fun e w' => e = .returned (.tuple #[.int .u64 0, .int .u64 (D : Int)]) ∧ W = w' from (mul64_any 1 D (by omega) (by omega) W).mono fun _ _ h => by
    rw [show 1 * D / 18446744073709551616 = 0 by omega, show 1 * D % 18446744073709551616 = D by omega] at h; exact h)
  obtain ⟨num, hnum⟩ : ∃ x, N * m % 18446744073709551616 = x := ⟨_, rfl⟩
  obtain ⟨ov, hov⟩ : ∃ x, N * m / 18446744073709551616 = x := ⟨_, rfl⟩
  have hnl : num < 18446744073709551616 := by rw [← hnum]; exact Nat.mod_lt _ (by decide)
  have hol : ov < 18446744073709551616 := by
    rw [← hov]
    refine Nat.div_lt_of_lt_mul ?_
    exact Nat.lt_of_lt_of_le (Nat.mul_lt_mul_of_lt_of_le hN (show m ≤ 18446744073709551616 by omega) (by decide)) (by decide)
  rw [hnum, hov] at HM1 ⊢
  have HK := hide (fun W => rmade_any (b && decide (0 < num)) num D ov W hnl (by omega) hol)
  obtain ⟨x, y, hxy⟩ := mk_bd (b && decide (0 < num)) num D ov
  rw [hxy] at HK ⊢
  obtain ⟨E, hE⟩ : ∃ E, mkE (b && decide (0 < num)) num D ov = E := ⟨_, rfl⟩
  rw [hE] at HK ⊢
  clear hnum hov hxy hE
  have hg1 : ¬ (g : Int) = 0 := by omega
  have hg2 : ¬ g = 0 := by omega
  have hwN := m64_wrap N (by omega)
  have hwD := m64_wrap D (by omega)
  have hwm := m64_wrap m (by omega)
  go_enter Tryz.func21, Tryz.ntmps21
  go_wp2_with fail
  refine (HC1.out _).mono ?_
  rintro e w1 ⟨rfl, hb1⟩
  have K1 := hide (BlkIs.call (BlkIs.new w #[.int .i64 0, .int .i64 0] 37) hb1)
  have HB1 := hide (show Below w.heap.size w w1 from (ww (n := w.heap.size) (w := w) hb1).out)
  clear hb1
  go_wp2_with fail
  refine (HC2.out _).mono ?_
  rintro e w2 ⟨rfl, hb2⟩
  have K2 := hide (K1.out.call hb2)
  have HB2 := hide (show Below w.heap.size w w2 from HB1.out.trans (hb2.mono HB1.out.size))
  clear hb2
  go_wp2_with fail
  refine wp_region_any (by kernel_rfl) ?_
  change wpAny _ _ _ _ _ _ _ (World.drew w2)
  have K3 := hide (K2.out.call (by (repeat' exact bel) : Below w2.heap.size w2 w2.drew))
  have HB3 := hide (show Below w.heap.size w w2.drew from by have h := HB2.out; (repeat' exact bel))
  generalize w2.drew = w3 at *
  refine wpAny_take (i := 0) (v := ?_) rfl (by kernel_rfl) (by kernel_rfl) (by kernel_rfl) (fun _ _ _ h => h) (Or.inl ⟨by rfl, ?_⟩) ?_
  rotate_left
  · (intro wz; go_simp; try with_reducible rfl)
  refine wpAny_take (i := 1) (v := ?_) rfl (by kernel_rfl) (by kernel_rfl) (by kernel_rfl) (fun _ _ _ h => h) (Or.inl ⟨by rfl, ?_⟩) ?_
  rotate_left
  · (intro wz; go_simp; try with_reducible rfl)
  refine wpAny_take (i := 2) (v := ?_) rfl (by kernel_rfl) (by kernel_rfl) (by kernel_rfl) (fun _ _ _ h => h) (Or.inl ⟨by rfl, ?_⟩) ?_
  rotate_left
  · (intro wz; go_simp; try with_reducible rfl)
  refine wpAny_take (i := 3) (v := ?_) rfl (by kernel_rfl) (by kernel_rfl) (by kernel_rfl) (fun _ _ _ h => h) (Or.inl ⟨by rfl, ?_⟩) ?_
  rotate_left
  · (intro wz; go_simp; try with_reducible rfl)
  refine wpAny_take (i := 4) (v := ?_) rfl (by kernel_rfl) (by kernel_rfl) (by kernel_rfl) (fun _ _ _ h => h) (Or.inl ⟨by rfl, ?_⟩) ?_
  rotate_left
  · (intro wz; go_simp; try with_reducible rfl)
  refine wpAny_take (i := 5) (v := ?_) rfl (by kernel_rfl) (by kernel_rfl) (by kernel_rfl) (fun _ _ _ h => h) (Or.inl ⟨by rfl, ?_⟩) ?_
  rotate_left
  · (intro wz; go_simp; try with_reducible rfl)
  refine wpAny_ready (rs := [6]) (by kernel_rfl) (by simp) ?_
  refine AllReady.cons rfl (fun K hK => ?_) AllReady.nil
  go_simp
  refine (HM1.out _).mono ?_
  rintro e w4 ⟨rfl, rfl⟩
  refine hK _ _ ?_
  clear hK K
  refine wpAny_take (i := 7) (v := ?_) rfl (by kernel_rfl) (by kernel_rfl) (by kernel_rfl) (fun _ _ _ h => h) (Or.inl ⟨by rfl, ?_⟩) ?_
  rotate_left
  · (intro wz; go_simp; try with_reducible rfl)
  refine wpAny_take (i := 8) (v := ?_) rfl (by kernel_rfl) (by kernel_rfl) (by kernel_rfl) (fun _ _ _ h => h) (Or.inl ⟨by rfl, ?_⟩) ?_
  rotate_left
  · (intro wz; go_simp; try with_reducible rfl)
  refine wpAny_take (i := 9) (v := ?_) rfl (by kernel_rfl) (by kernel_rfl) (by kernel_rfl) (fun _ _ _ h => h) (Or.inl ⟨by rfl, ?_⟩) ?_
  rotate_left
  · (intro wz; go_simp; try with_reducible rfl)
  refine wpAny_take (i := 10) (v := ?_) rfl (by kernel_rfl) (by kernel_rfl) (by kernel_rfl) (fun _ _ _ h => h) (Or.inl ⟨by rfl, ?_⟩) ?_
  rotate_left
  · (intro wz; go_simp; try with_reducible rfl)
  refine wpAny_take (i := 11) (v := ?_) rfl (by kernel_rfl) (by kernel_rfl) (by kernel_rfl) (fun _ _ _ h => h) (Or.inl ⟨by rfl, ?_⟩) ?_
  rotate_left
  · (intro wz; go_simp; try with_reducible rfl)
  refine wpAny_done (by kernel_rfl) ?_ _
  go_simp
  go_wp2_with fail
  refine wp_region_any (by kernel_rfl) ?_
  change wpAny _ _ _ _ _ _ _ (World.drew w3)
  have K4 := hide (K3.out.call (by (repeat' exact bel) : Below w3.heap.size w3 w3.drew))
  have HB4 := hide (show Below w.heap.size w w3.drew from by have h := HB3.out; (repeat' exact bel))
  generalize w3.drew = w4 at *
  refine wpAny_take (i := 0) (v := ?_) rfl (by kernel_rfl) (by kernel_rfl) (by kernel_rfl) (fun _ _ _ h => h) (Or.inl ⟨by rfl, ?_⟩) ?_
  rotate_left
  · (intro wz; go_simp; try with_reducible rfl)
  refine wpAny_take (i := 1) (v := ?_) rfl (by kernel_rfl) (by kernel_rfl) (by kernel_rfl) (fun _ _ _ h => h) (Or.inl ⟨by rfl, ?_⟩) ?_
  rotate_left
  · (intro wz; go_simp; try with_reducible rfl)
  refine wpAny_take (i := 2) (v := ?_) rfl (by kernel_rfl) (by kernel_rfl) (by kernel_rfl) (fun _ _ _ h => h) (Or.inl ⟨by rfl, ?_⟩) ?_
  rotate_left
  · (intro wz; go_simp; try with_reducible rfl)
  refine wpAny_take (i := 3) (v := ?_) rfl (by kernel_rfl) (by kernel_rfl) (by kernel_rfl) (fun _ _ _ h => h) (Or.inl ⟨by rfl, ?_⟩) ?_
  rotate_left
  · (intro wz; go_simp; try with_reducible rfl)
  refine wpAny_take (i := 4) (v := ?_) rfl (by kernel_rfl) (by kernel_rfl) (by kernel_rfl) (fun _ _ _ h => h) (Or.inl ⟨by rfl, ?_⟩) ?_
  rotate_left
  · (intro wz; go_simp; try with_reducible rfl)
  refine wpAny_take (i := 5) (v := ?_) rfl (by kernel_rfl) (by kernel_rfl) (by kernel_rfl) (fun _ _ _ h => h) (Or.inl ⟨by rfl, ?_⟩) ?_
  rotate_left
  · (intro wz; go_simp; try with_reducible rfl)
  refine wpAny_ready (rs := [6]) (by kernel_rfl) (by simp) ?_
  refine AllReady.cons rfl (fun K hK => ?_) AllReady.nil
  go_simp
  refine (HM2.out _).mono ?_
  rintro e w5 ⟨rfl, rfl⟩
  refine hK _ _ ?_
  clear hK K
  refine wpAny_take (i := 7) (v := ?_) rfl (by kernel_rfl) (by kernel_rfl) (by kernel_rfl) (fun _ _ _ h => h) (Or.inl ⟨by rfl, ?_⟩) ?_
  rotate_left
  · (intro wz; go_simp; try with_reducible rfl)
  refine wpAny_take (i := 8) (v := ?_) rfl (by kernel_rfl) (by kernel_rfl) (by kernel_rfl) (fun _ _ _ h => h) (Or.inl ⟨by rfl, ?_⟩) ?_
  rotate_left
  · (intro wz; go_simp; try with_reducible rfl)
  refine wpAny_take (i := 9) (v := ?_) rfl (by kernel_rfl) (by kernel_rfl) (by kernel_rfl) (fun _ _ _ h => h) (Or.inl ⟨by rfl, ?_⟩) ?_
  rotate_left
  · (intro wz; go_simp; try with_reducible rfl)
  refine wpAny_take (i := 10) (v := ?_) rfl (by kernel_rfl) (by kernel_rfl) (by kernel_rfl) (fun _ _ _ h => h) (Or.inl ⟨by rfl, ?_⟩) ?_
  rotate_left
  · (intro wz; go_simp; try with_reducible rfl)
  refine wpAny_take (i := 11) (v := ?_) rfl (by kernel_rfl) (by kernel_rfl) (by kernel_rfl) (fun _ _ _ h => h) (Or.inl ⟨by rfl, ?_⟩) ?_
  rotate_left
  · (intro wz; go_simp; try with_reducible rfl)
  refine wpAny_done (by kernel_rfl) ?_ _
  go_simp
  have hor : bits .or .u64 (ov : Int) 0 = (ov : Int) := by
    have h := bits_or_u64_nat ov 0 hol (by omega)
    rw [Nat.or_zero] at h
    exact h
  have HKK := hide (fun W (q : Bool) (h : q = (b && decide (0 < num))) => show Calls Tryz.prog 18 #[.bool q, .int .u64 num, .int .u64 D, .int .u64 ov] W fun e w' => e = .returned (.tuple #[.agg #[.int .i64 x, .int .i64 y], .int .i64 E]) ∧ Below W.heap.size W w' from by rw [h]; exact HK.out W)
  clear HK
  cases b
  all_goals
    cases hnp : decide (0 < num)
    all_goals
      go_wp2_with fail
      try rw [hor]
      refine (HKK.out _ _ (by first | rfl | (rw [hnp]; rfl))).mono ?_
      rintro e w5 ⟨rfl, hb5⟩
      obtain ⟨⟨r0, r1⟩, f0, f1, hsz⟩ := rat_blk (K4.out.call hb5)
      have HB5 := hide (show Below w.heap.size w w5 from HB4.out.trans (hb5.mono HB4.out.size))
      clear hb5
      have hBel := HB5.out
      have hle := hBel.size
      go_wp2
      exact bodyPost_ret (v := .tuple #[.agg #[.int .i64 x, .int .i64 y], .int .i64 E]) (by simp (maxDischargeDepth := 9) [results, Tryz.results21, go_sem, r0, r1, f0, f1, hsz]) rfl ⟨rfl, by (repeat' exact bel)⟩
end Go.Proofs.YtjhhmeoibfdcmaaGreatDoor
