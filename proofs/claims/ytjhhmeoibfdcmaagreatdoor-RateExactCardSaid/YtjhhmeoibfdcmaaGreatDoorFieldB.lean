/- Contracts of field, second part. -/
import Derived.Test.YtjhhmeoibfdcmaaGreatDoorFieldA
namespace Go.Proofs.YtjhhmeoibfdcmaaGreatDoor
open Go.RowKit Qd
set_option linter.unusedSimpArgs false
set_option linter.unusedVariables false

set_option maxHeartbeats 400000 in
theorem many_any (s c : Int) (w : World) :
    Calls Tryz.prog 101 #[.int .i64 s, .int .i64 c] w fun e w' => e = .returned (.int .i64 (manyP s c)) ∧ w = w' := by
  go_enter Tryz.func101, Tryz.ntmps101
  go_wp2
  all_goals (go_ret; refine ⟨ret_int ?_, rfl⟩; simp_all [manyP]; try omega)

set_option maxHeartbeats 400000 in
theorem fixed_3 (w : World) :
    Calls Tryz.prog 89 #[.int .i64 3] w fun e w' => e = .returned (.tuple #[.agg #[.string ⟨#[]⟩, .int .i64 3, .int .i64 6, .int .i64 1, .int .i64 1, .int .i64 1, .int .i64 4, .int .i64 5, .int .i64 4, .int .i64 0, .int .i64 12, .int .i64 0, .int .i64 0, .int .i64 0], .bool true]) ∧ Below w.heap.size w w' := by
  go_enter Tryz.func89, Tryz.ntmps89
  go_wp2
  all_goals (go_returns; refine ⟨rfl, ?_⟩; go_grown)

set_option maxHeartbeats 400000 in
theorem fixed_4 (w : World) :
    Calls Tryz.prog 89 #[.int .i64 4] w fun e w' => e = .returned (.tuple #[.agg #[.string ⟨#[]⟩, .int .i64 4, .int .i64 7, .int .i64 12, .int .i64 0, .int .i64 4, .int .i64 0, .int .i64 0, .int .i64 0, .int .i64 0, .int .i64 12, .int .i64 0, .int .i64 0, .int .i64 0], .bool true]) ∧ Below w.heap.size w w' := by
  go_enter Tryz.func89, Tryz.ntmps89
  go_wp2
  all_goals (go_returns; refine ⟨rfl, ?_⟩; go_grown)

set_option maxHeartbeats 400000 in
theorem fixed_no (k : Int) (h3 : (k == 3) = false) (h4 : (k == 4) = false) (w : World) :
    Calls Tryz.prog 89 #[.int .i64 k] w fun e w' => e = .returned (.tuple #[.agg #[.string ⟨#[]⟩, .int .i64 0, .int .i64 0, .int .i64 0, .int .i64 0, .int .i64 0, .int .i64 0, .int .i64 0, .int .i64 0, .int .i64 0, .int .i64 0, .int .i64 0, .int .i64 0, .int .i64 0], .bool false]) ∧ Below w.heap.size w w' := by
  go_enter Tryz.func89, Tryz.ntmps89
  go_wp2
  all_goals (go_returns; refine ⟨rfl, ?_⟩; go_grown)

/-- The three patterns, as the call lays them. -/
def patObj : Obj := .cells #[.int .i64 4, .int .i64 4, .int .i64 5, .int .i64 4, .int .i64 5, .int .i64 4, .int .i64 5, .int .i64 4, .int .i64 4] 22

set_option maxHeartbeats 400000 in
theorem patterns_any (w : World) :
    Calls Tryz.prog 108 #[] w fun e w' => e = .returned (.slice (some ⟨w.heap.size, 0, none⟩) 3 3) ∧ w.alloc patObj = w' := by
  go_enter Tryz.func108, Tryz.ntmps108
  go_wp2
  all_goals (go_ret; exact ⟨rfl, rfl⟩)

set_option maxHeartbeats 400000 in
theorem index_any (B : Nat) (a b c : Int) (w : World) (c0 : w.cell? ⟨B, 0, none⟩ = some (.int .i64 4)) (c1 : w.cell? ⟨B, 1, none⟩ = some (.int .i64 4)) (c2 : w.cell? ⟨B, 2, none⟩ = some (.int .i64 5))
    (c3 : w.cell? ⟨B, 3, none⟩ = some (.int .i64 4)) (c4 : w.cell? ⟨B, 4, none⟩ = some (.int .i64 5)) (c5 : w.cell? ⟨B, 5, none⟩ = some (.int .i64 4))
    (c6 : w.cell? ⟨B, 6, none⟩ = some (.int .i64 5)) (c7 : w.cell? ⟨B, 7, none⟩ = some (.int .i64 4)) (c8 : w.cell? ⟨B, 8, none⟩ = some (.int .i64 4)) (hB : B < w.heap.size) :
    Calls Tryz.prog 119 #[.slice (some ⟨B, 0, none⟩) 3 3, .agg #[.int .i64 a, .int .i64 b, .int .i64 c]] w fun e w' => e = .returned (.int .i64 (patIx a b c)) ∧ Below w.heap.size w w' := by
  go_enter Tryz.func119, Tryz.ntmps119
  go_wp2
  refine wp_loop_rounds 4 ?_
  rw [rounds_succ]
  go_wp2
  go_quiet (fail)
  go_wp2
  · go_ret
    refine ⟨ret_int ?_, by (repeat' exact bel)⟩
    simp_all [patIx]
  · rw [rounds_succ]
    go_wp2
    go_quiet (fail)
    go_wp2
    · go_ret
      refine ⟨ret_int ?_, by (repeat' exact bel)⟩
      simp_all [patIx]
    · rw [rounds_succ]
      go_wp2
      go_quiet (fail)
      go_wp2
      · go_ret
        refine ⟨ret_int ?_, by (repeat' exact bel)⟩
        simp_all [patIx]
      · rw [rounds_succ]
        go_wp2
        go_ret
        refine ⟨ret_int ?_, by (repeat' exact bel)⟩
        simp_all [patIx]
        try omega

/-- The three patterns lie in block B. -/
def PatAt (w : World) (B : Nat) : Prop :=
  w.cell? ⟨B, 0, none⟩ = some (.int .i64 4) ∧ w.cell? ⟨B, 1, none⟩ = some (.int .i64 4) ∧ w.cell? ⟨B, 2, none⟩ = some (.int .i64 5) ∧
  w.cell? ⟨B, 3, none⟩ = some (.int .i64 4) ∧ w.cell? ⟨B, 4, none⟩ = some (.int .i64 5) ∧ w.cell? ⟨B, 5, none⟩ = some (.int .i64 4) ∧
  w.cell? ⟨B, 6, none⟩ = some (.int .i64 5) ∧ w.cell? ⟨B, 7, none⟩ = some (.int .i64 4) ∧ w.cell? ⟨B, 8, none⟩ = some (.int .i64 4) ∧ B < w.heap.size
theorem patAt_new (w : World) : PatAt (w.alloc patObj) w.heap.size := by
  refine ⟨?_, ?_, ?_, ?_, ?_, ?_, ?_, ?_, ?_, ?_⟩ <;> simp [patObj]
theorem patAt_at (w : World) (B : Nat) (h : B = w.heap.size) : PatAt (w.alloc patObj) B := by rw [h]; exact patAt_new w
theorem patAt_alloc {w : World} {B : Nat} (h : PatAt w B) (o : Obj) : PatAt (w.alloc o) B := by
  obtain ⟨c0, c1, c2, c3, c4, c5, c6, c7, c8, hB⟩ := h
  have k : ∀ i, (w.alloc o).cell? ⟨B, i, none⟩ = w.cell? ⟨B, i, none⟩ := fun i => World.cell?_alloc_lt w o ⟨B, i, none⟩ hB
  exact ⟨(k 0).trans c0, (k 1).trans c1, (k 2).trans c2, (k 3).trans c3, (k 4).trans c4, (k 5).trans c5, (k 6).trans c6, (k 7).trans c7, (k 8).trans c8, by simp; omega⟩
theorem patAt_drew {w : World} {B : Nat} (h : PatAt w B) : PatAt w.drew B := h
theorem patAt_drewN {w : World} {B : Nat} (h : PatAt w B) (n : Nat) : PatAt (w.drewN n) B := h

set_option maxHeartbeats 400000 in
theorem place_any (B : Nat) (a b c : Int) (w : World) (h : PatAt w B) :
    Calls Tryz.prog 107 #[.slice (some ⟨B, 0, none⟩) 3 3, .agg #[.int .i64 a, .int .i64 b, .int .i64 c]] w fun e w' => e = .returned (.int .i64 (patIx a b c + 1)) ∧ Below w.heap.size w w' := by
  have hb : -1 ≤ patIx a b c ∧ patIx a b c ≤ 2 := by unfold patIx; split <;> (try split) <;> (try split) <;> omega
  have H := hide h
  clear h
  go_enter Tryz.func107, Tryz.ntmps107
  go_wp2_with fail
  obtain ⟨c0, c1, c2, c3, c4, c5, c6, c7, c8, hB⟩ := patAt_alloc (unhide H) (.cells #[.int .i64 a, .int .i64 b, .int .i64 c] 22)
  refine (index_any B a b c _ c0 c1 c2 c3 c4 c5 c6 c7 c8 hB).mono ?_
  clear c0 c1 c2 c3 c4 c5 c6 c7 c8 hB
  rintro e w1 ⟨rfl, hb1⟩
  go_wp2
  go_ret
  refine ⟨rfl, ?_⟩
  exact (((Below.refl _ _).alloc (Nat.le_refl _) _).trans (hb1.mono (by simp)))

end Go.Proofs.YtjhhmeoibfdcmaaGreatDoor
