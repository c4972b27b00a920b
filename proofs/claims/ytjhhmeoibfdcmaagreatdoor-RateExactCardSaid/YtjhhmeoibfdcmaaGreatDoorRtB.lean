/- Package ratio: what may be, and what is made. -/
import Derived.Test.YtjhhmeoibfdcmaaGreatDoorRtA
import Derived.StillTailTactics
namespace Go.Proofs.YtjhhmeoibfdcmaaGreatDoor
open Go.RowKit Qd
set_option linter.unusedSimpArgs false
set_option linter.unusedVariables false

theorem rsize_b (a : Int) (w : World) (h : in64 a) : Calls Tryz.prog 17 #[.int .i64 a] w fun e w' => e = .returned (.int .u64 (a.natAbs : Int)) ∧ Below w.heap.size w w' :=
  (rsize_any a w h).mono fun _ _ ⟨he, hw⟩ => ⟨he, by rw [← hw]; exact Below.refl _ _⟩

set_option maxRecDepth 100000 in
set_option maxHeartbeats 1600000 in
theorem rcheck_yes (n : Int) (d : Nat) (w : World) (hn : in64 n) (h1 : 1 ≤ d) (h2 : d ≤ 9223372036854775807) (hg : Nat.gcd n.natAbs d = 1) : Calls Tryz.prog 8 #[ratV n d] w fun e w' => e = .returned (.int .i64 0) ∧ Below w.heap.size w w' := by
  have HS := hide (fun W => rsize_b n W hn)
  have HC := hide (fun W => show Calls Tryz.prog 16 #[.int .u64 (n.natAbs : Int), .int .u64 (d : Int)] W fun e w' => e = .returned (.int .u64 1) ∧ Below W.heap.size W w' from (rcommon_any n.natAbs d W (by unfold in64 at hn; omega) (by omega)).mono fun _ _ h => by rw [hg] at h; exact h)
  obtain ⟨⟨r0, r1⟩, f0, f1, hsz⟩ := rat_blk (BlkIs.new w #[.int .i64 n, .int .i64 (d : Int)] 37)
  have hd : decide ((d : Int) < 1) = false := by simp; omega
  have hd2 : ¬ (d : Int) < 1 := by omega
  have k0 := cell_regrown r0
  have k1 := cell_regrown r1
  clear hg hn
  simp only [ratV]
  go_enter Tryz.func8, Tryz.ntmps8
  go_wp2_with fail
  refine wp_region_quiet_below (by kernel_rfl) (by kernel_rfl) ?_
  repeat (go_big_quiet_step (first | exact Calls.regrown_of (HS.out _) | exact Calls.regrown_of (HC.out _) | fail))
  refine wpQuiet_nil ?_
  intro _ hw'
  obtain ⟨⟨dq, osq⟩, hw2⟩ := hw'
  subst hw2
  obtain ⟨wq, hwq⟩ : ∃ wq, Go.Sort.grow (redrawn (w.alloc (.cells #[.int .i64 n, .int .i64 (d : Int)] 37)) dq) osq = wq := ⟨_, rfl⟩
  have HBQ := hide (show Below w.heap.size w wq from by
    rw [← hwq]
    have h := below_regrown (w.alloc (.cells #[.int .i64 n, .int .i64 (d : Int)] 37)) dq osq
    exact (ww (n := w.heap.size) (w := w) h).out)
  rw [hwq]
  clear hwq
  go_wp2
  go_ret
  exact ⟨rfl, HBQ.out⟩

set_option maxRecDepth 100000 in
set_option maxHeartbeats 3200000 in
theorem rmake_yes (x n : Nat) (w : World) (h1 : 1 ≤ n) (h2 : n ≤ 9223372036854775807) (hx : x ≤ 9223372036854775807) : Calls Tryz.prog 9 #[.int .i64 x, .int .i64 n] w fun e w' => e = .returned (.tuple #[ratV ((x / Nat.gcd x n : Nat) : Int) ((n / Nat.gcd x n : Nat) : Int), .int .i64 0]) ∧ Below w.heap.size w w' := by
  obtain ⟨⟨r0, r1⟩, f0, f1, hsz⟩ := rat_blk (BlkIs.new w #[.int .i64 0, .int .i64 0] 37)
  have hg0 : 0 < Nat.gcd x n := Nat.gcd_pos_of_pos_right _ (by omega)
  have HC := hide (fun W => rcommon_any x n W (by omega) (by omega))
  have HSX := hide (fun W => show Calls Tryz.prog 17 #[.int .i64 (x : Int)] W fun e w' => e = .returned (.int .u64 (x : Int)) ∧ w' = W from (rsize_any x W (by unfold in64; omega)).mono fun _ _ h => ⟨h.1, h.2.symm⟩)
  have HSN := hide (fun W => show Calls Tryz.prog 17 #[.int .i64 (n : Int)] W fun e w' => e = .returned (.int .u64 (n : Int)) ∧ w' = W from (rsize_any n W (by unfold in64; omega)).mono fun _ _ h => ⟨h.1, h.2.symm⟩)
  have hX : x / Nat.gcd x n ≤ 9223372036854775807 := Nat.le_trans (Nat.div_le_self _ _) hx
  have hN : n / Nat.gcd x n ≤ 9223372036854775807 := Nat.le_trans (Nat.div_le_self _ _) h2
  have hm0 : mkE false (x / Nat.gcd x n) (n / Nat.gcd x n) 0 = 0 := by rw [mkE, if_neg (by omega)]
  have hm1 : mkV false (x / Nat.gcd x n) (n / Nat.gcd x n) 0 = ratV ((x / Nat.gcd x n : Nat) : Int) ((n / Nat.gcd x n : Nat) : Int) := by rw [mkV, if_pos hm0]; rfl
  have HM := hide (fun W => rmade_any false (x / Nat.gcd x n) (n / Nat.gcd x n) 0 W (by omega) (by omega) (by omega))
  rw [hm0, hm1] at HM
  have hxn : ¬ (bits .xor .i64 (x : Int) (n : Int) < 0) := by rw [xor_neg (by unfold in64; omega) (by unfold in64; omega)]; omega
  have hxn2 : decide (bits .xor .i64 (x : Int) (n : Int) < 0) = false := by simpa using hxn
  have hxd := nat_tdiv x (Nat.gcd x n)
  have hnd := nat_tdiv n (Nat.gcd x n)
  generalize Nat.gcd x n = g at *
  generalize x / g = X at *
  generalize n / g = D at *
  have hg1 : ¬ (g : Int) = 0 := by omega
  have hg2 : ¬ g = 0 := by omega
  have hwX := m64_wrap X (by omega)
  have hwD := m64_wrap D (by omega)
  have hn0 : ¬ (n : Int) = 0 := by omega
  simp only [ratV] at HM ⊢
  have HXN := hide hxn
  clear hm0 hm1 hxn
  go_enter Tryz.func9, Tryz.ntmps9
  go_wp2_with fail
  refine (HSX.out _).mono ?_
  rintro e w1 ⟨rfl, rfl⟩
  go_wp2_with fail
  refine (HSN.out _).mono ?_
  rintro e w1 ⟨rfl, rfl⟩
  go_wp2_with fail
  refine (HC.out _).mono ?_
  rintro e w1 ⟨rfl, hb1⟩
  have K1 := hide (BlkIs.call (BlkIs.new w #[.int .i64 0, .int .i64 0] 37) hb1)
  have HB1 := hide (show Below w.heap.size w w1 from (ww (n := w.heap.size) (w := w) hb1).out)
  clear hb1 r0 r1 f0 f1 hsz
  go_wp2_with fail
  refine wp_region_any (by kernel_rfl) ?_
  change wpAny _ _ _ _ _ _ _ (World.drew w1)
  have K2 := hide (K1.out.call (by (repeat' exact bel) : Below w1.heap.size w1 w1.drew))
  have HB2 := hide (show Below w.heap.size w w1.drew from by have h := HB1.out; (repeat' exact bel))
  generalize w1.drew = w2 at *
  refine wpAny_take (i := 0) (v := ?_) rfl (by kernel_rfl) (by kernel_rfl) (by kernel_rfl) (fun _ _ _ h => h) (Or.inl ⟨by rfl, ?_⟩) ?_
  rotate_left
  · (intro wz; go_simp; try with_reducible rfl)
  refine wpAny_take (i := 1) (v := ?_) rfl (by kernel_rfl) (by kernel_rfl) (by kernel_rfl) (fun _ _ _ h => h) (Or.inl ⟨by rfl, ?_⟩) ?_
  rotate_left
  · (intro wz; go_simp; try with_reducible rfl)
  refine wpAny_take (i := 2) (v := ?_) rfl (by kernel_rfl) (by kernel_rfl) (by kernel_rfl) (fun _ _ _ h => h) (Or.inl ⟨by rfl, ?_⟩) ?_
  rotate_left
  · (intro wz; go_simp; try with_reducible rfl)
  refine wpAny_take (i := 3) (v := ?_) rfl (by kernel_rfl) (by kernel_rfl) (by kernel_rfl) (fun _ _ _ h => h) (Or.inl ⟨by rfl, ?_⟩) ?_
  rotate_left
  · (intro wz; go_simp; try with_reducible rfl)
  refine wpAny_take (i := 4) (v := ?_) rfl (by kernel_rfl) (by kernel_rfl) (by kernel_rfl) (fun _ _ _ h => h) (Or.inl ⟨by rfl, ?_⟩) ?_
  rotate_left
  · (intro wz; go_simp; try with_reducible rfl)
  refine wpAny_take (i := 5) (v := undef) rfl (by kernel_rfl) (by kernel_rfl) (by kernel_rfl) (fun _ _ _ h => h) (Or.inr ⟨by rfl, rfl⟩) ?_
  refine wpAny_take (i := 6) (v := undef) rfl (by kernel_rfl) (by kernel_rfl) (by kernel_rfl) (fun _ _ _ h => h) (Or.inr ⟨by rfl, rfl⟩) ?_
  refine wpAny_take (i := 7) (v := ?_) rfl (by kernel_rfl) (by kernel_rfl) (by kernel_rfl) (fun _ _ _ h => h) (Or.inl ⟨by rfl, ?_⟩) ?_
  rotate_left
  · (intro wz; go_simp; try with_reducible rfl)
  refine wpAny_take (i := 8) (v := ?_) rfl (by kernel_rfl) (by kernel_rfl) (by kernel_rfl) (fun _ _ _ h => h) (Or.inl ⟨by rfl, ?_⟩) ?_
  rotate_left
  · (intro wz; go_simp; try with_reducible rfl)
  refine wpAny_take (i := 10) (v := ?_) rfl (by kernel_rfl) (by kernel_rfl) (by kernel_rfl) (fun _ _ _ h => h) (Or.inl ⟨by rfl, ?_⟩) ?_
  rotate_left
  · (intro wz; go_simp; try with_reducible rfl)
  refine wpAny_take (i := 12) (v := ?_) rfl (by kernel_rfl) (by kernel_rfl) (by kernel_rfl) (fun _ _ _ h => h) (Or.inl ⟨by rfl, ?_⟩) ?_
  rotate_left
  · (intro wz; go_simp; try with_reducible rfl)
  refine wpAny_take (i := 14) (v := ?_) rfl (by kernel_rfl) (by kernel_rfl) (by kernel_rfl) (fun _ _ _ h => h) (Or.inl ⟨by rfl, ?_⟩) ?_
  rotate_left
  · (intro wz; go_simp; try with_reducible rfl)
  refine wpAny_ready (rs := [9]) (by kernel_rfl) (by simp) ?_
  refine AllReady.cons rfl (fun K hK => ?_) AllReady.nil
  go_simp
  refine (HSX.out _).mono ?_
  rintro e w3 ⟨rfl, rfl⟩
  refine hK _ _ ?_
  clear hK K
  refine wpAny_take (i := 11) (v := ?_) rfl (by kernel_rfl) (by kernel_rfl) (by kernel_rfl) (fun _ _ _ h => h) (Or.inl ⟨by rfl, ?_⟩) ?_
  rotate_left
  · (intro wz; go_simp; try with_reducible rfl)
  refine wpAny_ready (rs := [13]) (by kernel_rfl) (by simp) ?_
  refine AllReady.cons rfl (fun K hK => ?_) AllReady.nil
  go_simp
  refine (HSN.out _).mono ?_
  rintro e w4 ⟨rfl, rfl⟩
  refine hK _ _ ?_
  clear hK K
  refine wpAny_take (i := 15) (v := ?_) rfl (by kernel_rfl) (by kernel_rfl) (by kernel_rfl) (fun _ _ _ h => h) (Or.inl ⟨by rfl, ?_⟩) ?_
  rotate_left
  · (intro wz; go_simp; try with_reducible rfl)
  refine wpAny_ready (rs := [16]) (by kernel_rfl) (by simp) ?_
  refine AllReady.cons rfl (fun K hK => ?_) AllReady.nil
  go_simp
  refine (HM.out _).mono ?_
  rintro e w3 ⟨rfl, hb3⟩
  obtain ⟨⟨r0, r1⟩, f0, f1, hsz⟩ := rat_blk (K2.out.call hb3)
  have HB3 := hide (show Below w.heap.size w w3 from by have h := HB2.out; have h2 := h.size; exact h.trans (hb3.mono h2))
  clear hb3
  have hBel := HB3.out
  have hle := hBel.size
  refine hK _ _ ?_
  clear hK K
  refine wpAny_take (i := 17) (v := ?_) rfl (by kernel_rfl) (by kernel_rfl) (by kernel_rfl) (fun _ _ _ h => h) (Or.inl ⟨by rfl, ?_⟩) ?_
  rotate_left
  · (intro wz; go_simp; try with_reducible rfl)
  refine wpAny_take (i := 18) (v := ?_) rfl (by kernel_rfl) (by kernel_rfl) (by kernel_rfl) (fun _ _ _ h => h) (Or.inl ⟨by rfl, ?_⟩) ?_
  rotate_left
  · (intro wz; go_simp; try with_reducible rfl)
  refine wpAny_ready (rs := [19]) (by kernel_rfl) (by simp) ?_
  refine AllReady.cons rfl (fun K hK => ?_) AllReady.nil
  go_simp
  refine hK _ _ ?_
  clear hK K
  refine wpAny_take (i := 20) (v := ?_) rfl (by kernel_rfl) (by kernel_rfl) (by kernel_rfl) (fun _ _ _ h => h) (Or.inl ⟨by rfl, ?_⟩) ?_
  rotate_left
  · (intro wz; go_simp; try with_reducible rfl)
  refine wpAny_done (by kernel_rfl) ?_ _
  go_simp
  go_wp2
  exact bodyPost_ret (v := .tuple #[.agg #[.int .i64 (X : Int), .int .i64 (D : Int)], .int .i64 0]) (by simp (maxDischargeDepth := 9) [results, Tryz.results9, go_sem, r0, r1, f0, f1, hsz]) rfl ⟨rfl, by (repeat' exact bel)⟩
end Go.Proofs.YtjhhmeoibfdcmaaGreatDoor
