/- Package ratio: the product: the walks. -/
import Derived.Test.YtjhhmeoibfdcmaaGreatDoorRtC
import Derived.Test.YtjhhmeoibfdcmaaGreatDoorRtP
import Derived.Deep.RegionHeld3
namespace Go.Proofs.YtjhhmeoibfdcmaaGreatDoor
open Go.RowKit Qd
set_option linter.unusedSimpArgs false
set_option linter.unusedVariables false

theorem rcross_ex (a : Int) (X D : Nat) (w : World) (ha : in64 a) (hX : X ≤ 9223372036854775807) (h1 : 1 ≤ D) (h2 : D ≤ 9223372036854775807) :
    Calls Tryz.prog 21 #[.bool (decide (a < 0)), .int .u64 (a.natAbs : Int), .int .u64 1, .int .u64 X, .int .u64 D] w fun e w' => e = .returned (.tuple #[exV a X D, .int .i64 (fitE (exN a X D))]) ∧ Below w.heap.size w w' := by
  have h := mk_ex a X D (Nat.le_trans (exM_le a D) h2)
  unfold exM exP at h
  refine (rcross_one (decide (a < 0)) a.natAbs X D w (by unfold in64 at ha; omega) hX h1 h2).mono ?_
  rintro e w' ⟨he, hb⟩
  exact ⟨by rw [he, h.1, h.2], hb⟩

/-- Two ratios in memory. -/
def RtS (a : Int) (X D : Nat) (B1 B2 : Nat) (w : World) : Prop := BlkIs w B1 #[.int .i64 a, .int .i64 1] 37 ∧ BlkIs w B2 #[.int .i64 (X : Int), .int .i64 (D : Int)] 37
theorem RtS.call {a : Int} {X D B1 B2 : Nat} {w w' : World} (h : RtS a X D B1 B2 w) (hb : Below w.heap.size w w') : RtS a X D B1 B2 w' := ⟨h.1.call hb, h.2.call hb⟩
theorem RtS.cells {a : Int} {X D B1 B2 : Nat} {w : World} (h : RtS a X D B1 B2 w) : (w.cell? ⟨B1, 0, none⟩ = some (.int .i64 a) ∧ w.cell? ⟨B1, 1, none⟩ = some (.int .i64 1)) ∧ (w.cell? ⟨B2, 0, none⟩ = some (.int .i64 (X : Int)) ∧ w.cell? ⟨B2, 1, none⟩ = some (.int .i64 (D : Int))) :=
  ⟨⟨h.1.cell 0, h.1.cell 1⟩, h.2.cell 0, h.2.cell 1⟩

set_option maxRecDepth 100000 in
set_option maxHeartbeats 3200000 in
theorem rmul1_any (a : Int) (X D B1 B2 : Nat) (w : World) (hS : RtS a X D B1 B2 w) (ha : in64 a) (hX : X ≤ 9223372036854775807) (h1 : 1 ≤ D) (h2 : D ≤ 9223372036854775807) :
    Calls Tryz.prog 20 #[.pointer (some ⟨B1, 0, none⟩), .pointer (some ⟨B2, 0, none⟩)] w fun e w' => e = .returned (.tuple #[exV a X D, .int .i64 (fitE (exN a X D))]) ∧ Below w.heap.size w w' := by
  have HSA := hide (fun W => rsize_any a W ha)
  have HSX := hide (fun W => show Calls Tryz.prog 17 #[.int .i64 (X : Int)] W fun e w' => e = .returned (.int .u64 (X : Int)) ∧ W = w' from rsize_any X W (by unfold in64; omega))
  have HK := hide (fun W => rcross_ex a X D W ha hX h1 h2)
  obtain ⟨x, y, hxy⟩ := ex_form a X D
  rw [hxy] at HK ⊢
  obtain ⟨E, hE⟩ : ∃ E, fitE (exN a X D) = E := ⟨_, rfl⟩
  rw [hE] at HK ⊢
  have hwD := m64_wrap D (by omega)
  have hab : (!(decide (a < 0) == decide ((X : Int) < 0))) = decide (a < 0) := by
    rw [show decide ((X : Int) < 0) = false by simp]; simp
  have hw1 : IntKind.u64.wrap 1 = 1 := by simp only [IntKind.wrap_u64]; omega
  have HS := hide hS
  obtain ⟨⟨b0, b1⟩, c0, c1⟩ := hS.cells
  have hl1 := hS.1.lt
  have hl2 := hS.2.lt
  have K0 := hide (BlkIs.new w #[.int .i64 0, .int .i64 0] 37)
  clear hS hxy hE
  go_enter Tryz.func20, Tryz.ntmps20
  go_wp2_with fail
  have HSW := hide (HS.out.call (by (repeat' exact bel) : Below w.heap.size w (w.alloc (.cells #[.int .i64 0, .int .i64 0] 37)).drew)).cells
  have K1 := hide (K0.out.call (by (repeat' exact bel) : Below (w.alloc (.cells #[.int .i64 0, .int .i64 0] 37)).heap.size (w.alloc (.cells #[.int .i64 0, .int .i64 0] 37)) (w.alloc (.cells #[.int .i64 0, .int .i64 0] 37)).drew))
  have HB1 := hide (show Below w.heap.size w (w.alloc (.cells #[.int .i64 0, .int .i64 0] 37)).drew from by (repeat' exact bel))
  refine wp_region_held_drew (S := fun w' => (w'.cell? ⟨B1, 0, none⟩ = some (.int .i64 a) ∧ w'.cell? ⟨B1, 1, none⟩ = some (.int .i64 1)) ∧ (w'.cell? ⟨B2, 0, none⟩ = some (.int .i64 (X : Int)) ∧ w'.cell? ⟨B2, 1, none⟩ = some (.int .i64 (D : Int)))) (by kernel_rfl) HSW.out (fun _ => ?_)
  generalize (w.alloc (.cells #[.int .i64 0, .int .i64 0] 37)).drew = w1 at *
  refine wpAnyH_take (i := 0) (v := ?_) rfl (by kernel_rfl) (by kernel_rfl) (by kernel_rfl) (fun _ _ _ h => h) (Or.inl ⟨by rfl, ?_⟩) (HSW.out) ?_
  rotate_left
  · (intro wz hz; obtain ⟨⟨z0, z1⟩, z2, z3⟩ := hz; go_simp; try with_reducible rfl)
  refine wpAnyH_take (i := 1) (v := ?_) rfl (by kernel_rfl) (by kernel_rfl) (by kernel_rfl) (fun _ _ _ h => h) (Or.inl ⟨by rfl, ?_⟩) (HSW.out) ?_
  rotate_left
  · (intro wz hz; obtain ⟨⟨z0, z1⟩, z2, z3⟩ := hz; go_simp; try with_reducible rfl)
  refine wpAnyH_take (i := 2) (v := ?_) rfl (by kernel_rfl) (by kernel_rfl) (by kernel_rfl) (fun _ _ _ h => h) (Or.inl ⟨by rfl, ?_⟩) (HSW.out) ?_
  rotate_left
  · (intro wz hz; obtain ⟨⟨z0, z1⟩, z2, z3⟩ := hz; go_simp; try with_reducible rfl)
  refine wpAnyH_take (i := 3) (v := ?_) rfl (by kernel_rfl) (by kernel_rfl) (by kernel_rfl) (fun _ _ _ h => h) (Or.inl ⟨by rfl, ?_⟩) (HSW.out) ?_
  rotate_left
  · (intro wz hz; obtain ⟨⟨z0, z1⟩, z2, z3⟩ := hz; go_simp; try with_reducible rfl)
  refine wpAnyH_take (i := 4) (v := ?_) rfl (by kernel_rfl) (by kernel_rfl) (by kernel_rfl) (fun _ _ _ h => h) (Or.inl ⟨by rfl, ?_⟩) (HSW.out) ?_
  rotate_left
  · (intro wz hz; obtain ⟨⟨z0, z1⟩, z2, z3⟩ := hz; go_simp; try with_reducible rfl)
  refine wpAnyH_take (i := 5) (v := ?_) rfl (by kernel_rfl) (by kernel_rfl) (by kernel_rfl) (fun _ _ _ h => h) (Or.inl ⟨by rfl, ?_⟩) (HSW.out) ?_
  rotate_left
  · (intro wz hz; obtain ⟨⟨z0, z1⟩, z2, z3⟩ := hz; go_simp; try with_reducible rfl)
  refine wpAnyH_take (i := 6) (v := ?_) rfl (by kernel_rfl) (by kernel_rfl) (by kernel_rfl) (fun _ _ _ h => h) (Or.inl ⟨by rfl, ?_⟩) (HSW.out) ?_
  rotate_left
  · (intro wz hz; obtain ⟨⟨z0, z1⟩, z2, z3⟩ := hz; go_simp; try with_reducible rfl)
  refine wpAnyH_take (i := 7) (v := ?_) rfl (by kernel_rfl) (by kernel_rfl) (by kernel_rfl) (fun _ _ _ h => h) (Or.inl ⟨by rfl, ?_⟩) (HSW.out) ?_
  rotate_left
  · (intro wz hz; obtain ⟨⟨z0, z1⟩, z2, z3⟩ := hz; go_simp; try with_reducible rfl)
  refine wpAnyH_take (i := 8) (v := ?_) rfl (by kernel_rfl) (by kernel_rfl) (by kernel_rfl) (fun _ _ _ h => h) (Or.inl ⟨by rfl, ?_⟩) (HSW.out) ?_
  rotate_left
  · (intro wz hz; obtain ⟨⟨z0, z1⟩, z2, z3⟩ := hz; go_simp; try with_reducible rfl)
  refine wpAnyH_take (i := 10) (v := ?_) rfl (by kernel_rfl) (by kernel_rfl) (by kernel_rfl) (fun _ _ _ h => h) (Or.inl ⟨by rfl, ?_⟩) (HSW.out) ?_
  rotate_left
  · (intro wz hz; obtain ⟨⟨z0, z1⟩, z2, z3⟩ := hz; go_simp; try with_reducible rfl)
  refine wpAnyH_take (i := 11) (v := ?_) rfl (by kernel_rfl) (by kernel_rfl) (by kernel_rfl) (fun _ _ _ h => h) (Or.inl ⟨by rfl, ?_⟩) (HSW.out) ?_
  rotate_left
  · (intro wz hz; obtain ⟨⟨z0, z1⟩, z2, z3⟩ := hz; go_simp; try with_reducible rfl)
  refine wpAnyH_take (i := 12) (v := ?_) rfl (by kernel_rfl) (by kernel_rfl) (by kernel_rfl) (fun _ _ _ h => h) (Or.inl ⟨by rfl, ?_⟩) (HSW.out) ?_
  rotate_left
  · (intro wz hz; obtain ⟨⟨z0, z1⟩, z2, z3⟩ := hz; go_simp; try with_reducible rfl)
  refine wpAnyH_take (i := 13) (v := ?_) rfl (by kernel_rfl) (by kernel_rfl) (by kernel_rfl) (fun _ _ _ h => h) (Or.inl ⟨by rfl, ?_⟩) (HSW.out) ?_
  rotate_left
  · (intro wz hz; obtain ⟨⟨z0, z1⟩, z2, z3⟩ := hz; go_simp; try with_reducible rfl)
  refine wpAnyH_take (i := 14) (v := ?_) rfl (by kernel_rfl) (by kernel_rfl) (by kernel_rfl) (fun _ _ _ h => h) (Or.inl ⟨by rfl, ?_⟩) (HSW.out) ?_
  rotate_left
  · (intro wz hz; obtain ⟨⟨z0, z1⟩, z2, z3⟩ := hz; go_simp; try with_reducible rfl)
  refine wpAnyH_take (i := 16) (v := ?_) rfl (by kernel_rfl) (by kernel_rfl) (by kernel_rfl) (fun _ _ _ h => h) (Or.inl ⟨by rfl, ?_⟩) (HSW.out) ?_
  rotate_left
  · (intro wz hz; obtain ⟨⟨z0, z1⟩, z2, z3⟩ := hz; go_simp; try with_reducible rfl)
  refine wpAnyH_take (i := 17) (v := ?_) rfl (by kernel_rfl) (by kernel_rfl) (by kernel_rfl) (fun _ _ _ h => h) (Or.inl ⟨by rfl, ?_⟩) (HSW.out) ?_
  rotate_left
  · (intro wz hz; obtain ⟨⟨z0, z1⟩, z2, z3⟩ := hz; go_simp; try with_reducible rfl)
  refine wpAnyH_take (i := 18) (v := ?_) rfl (by kernel_rfl) (by kernel_rfl) (by kernel_rfl) (fun _ _ _ h => h) (Or.inl ⟨by rfl, ?_⟩) (HSW.out) ?_
  rotate_left
  · (intro wz hz; obtain ⟨⟨z0, z1⟩, z2, z3⟩ := hz; go_simp; try with_reducible rfl)
  refine wpAnyH_ready (rs := [9]) (by kernel_rfl) (by simp) ?_
  refine AllReadyH.cons rfl (fun K hK => ?_) AllReadyH.nil
  go_simp
  refine (HSA.out _).mono ?_
  rintro e w2 ⟨rfl, rfl⟩
  refine hK.out _ _ (HSW.out) (fun _ => ?_)
  clear hK K
  refine wpAnyH_ready (rs := [15]) (by kernel_rfl) (by simp) ?_
  refine AllReadyH.cons rfl (fun K hK => ?_) AllReadyH.nil
  go_simp
  refine (HSX.out _).mono ?_
  rintro e w3 ⟨rfl, rfl⟩
  refine hK.out _ _ (HSW.out) (fun _ => ?_)
  clear hK K
  refine wpAnyH_ready (rs := [19]) (by kernel_rfl) (by simp) ?_
  refine AllReadyH.cons rfl (fun K hK => ?_) AllReadyH.nil
  go_simp
  try rw [hab, hw1]
  refine (HK.out _).mono ?_
  rintro e w2 ⟨rfl, hb2⟩
  have HSW2 := hide (show (w2.cell? ⟨B1, 0, none⟩ = some (.int .i64 a) ∧ w2.cell? ⟨B1, 1, none⟩ = some (.int .i64 1)) ∧ (w2.cell? ⟨B2, 0, none⟩ = some (.int .i64 (X : Int)) ∧ w2.cell? ⟨B2, 1, none⟩ = some (.int .i64 (D : Int))) from (HS.out.call (HB1.out.trans (hb2.mono HB1.out.size))).cells)
  obtain ⟨⟨r0, r1⟩, f0, f1, hsz⟩ := rat_blk (K1.out.call hb2)
  have HB2 := hide (show Below w.heap.size w w2 from HB1.out.trans (hb2.mono HB1.out.size))
  clear hb2
  have hBel := HB2.out
  have hle := hBel.size
  refine hK.out _ _ (HSW2.out) (fun _ => ?_)
  clear hK K
  refine wpAnyH_take (i := 20) (v := ?_) rfl (by kernel_rfl) (by kernel_rfl) (by kernel_rfl) (fun _ _ _ h => h) (Or.inl ⟨by rfl, ?_⟩) (HSW2.out) ?_
  rotate_left
  · (intro wz hz; obtain ⟨⟨z0, z1⟩, z2, z3⟩ := hz; go_simp; try with_reducible rfl)
  refine wpAnyH_take (i := 21) (v := ?_) rfl (by kernel_rfl) (by kernel_rfl) (by kernel_rfl) (fun _ _ _ h => h) (Or.inl ⟨by rfl, ?_⟩) (HSW2.out) ?_
  rotate_left
  · (intro wz hz; obtain ⟨⟨z0, z1⟩, z2, z3⟩ := hz; go_simp; try with_reducible rfl)
  refine wpAnyH_ready (rs := [22]) (by kernel_rfl) (by simp) ?_
  refine AllReadyH.cons rfl (fun K hK => ?_) AllReadyH.nil
  go_simp
  have HSW3 := hide (show (((w2.setCell ⟨w.heap.size, 0, none⟩ (.int .i64 x)).setCell ⟨w.heap.size, 1, none⟩ (.int .i64 y)).cell? ⟨B1, 0, none⟩ = some (.int .i64 a) ∧ ((w2.setCell ⟨w.heap.size, 0, none⟩ (.int .i64 x)).setCell ⟨w.heap.size, 1, none⟩ (.int .i64 y)).cell? ⟨B1, 1, none⟩ = some (.int .i64 1)) ∧ (((w2.setCell ⟨w.heap.size, 0, none⟩ (.int .i64 x)).setCell ⟨w.heap.size, 1, none⟩ (.int .i64 y)).cell? ⟨B2, 0, none⟩ = some (.int .i64 (X : Int)) ∧ ((w2.setCell ⟨w.heap.size, 0, none⟩ (.int .i64 x)).setCell ⟨w.heap.size, 1, none⟩ (.int .i64 y)).cell? ⟨B2, 1, none⟩ = some (.int .i64 (D : Int))) from (HS.out.call (by (repeat' exact bel))).cells)
  refine hK.out _ _ (HSW3.out) (fun _ => ?_)
  clear hK K
  refine wpAnyH_take (i := 23) (v := ?_) rfl (by kernel_rfl) (by kernel_rfl) (by kernel_rfl) (fun _ _ _ h => h) (Or.inl ⟨by rfl, ?_⟩) (HSW3.out) ?_
  rotate_left
  · (intro wz hz; obtain ⟨⟨z0, z1⟩, z2, z3⟩ := hz; go_simp; try with_reducible rfl)
  refine wpAnyH_done (by kernel_rfl) ?_ _
  go_simp
  go_wp2
  exact bodyPost_ret (v := .tuple #[.agg #[.int .i64 x, .int .i64 y], .int .i64 E]) (by simp (maxDischargeDepth := 9) [results, Tryz.results20, go_sem, r0, r1, f0, f1, hsz]) rfl ⟨rfl, by (repeat' exact bel)⟩
end Go.Proofs.YtjhhmeoibfdcmaaGreatDoor
