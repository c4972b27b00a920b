/- Contracts of shape: patterns; how many weeks periods have, one by one. -/
import Derived.Test.YtepmfpgljcbkmaaShapeA
import Derived.RangeFuncNested
import Derived.RangeFuncBound
import Derived.RangeFuncCalls
import Derived.RangeFuncLeaves
import Derived.RangeFuncBox
import Derived.Shelf.Abstract
import Derived.Shelf.RegionOpen
import Derived.OwnWalkIn
import Derived.TacticsInMore
import Derived.LoopNIn
import Derived.LoopIn
namespace Go.Proofs.Ytepmfpgljcbkmaa
open Go.RowKit Go.Shelf Qd
set_option linter.unusedSimpArgs false
set_option linter.unusedVariables false
attribute [local go_sem] Oper.semAt_some

/-- A calendar's pattern. -/
def pat0 (c : Cal) : Int := if c.shape = 1 then c.p0 else if c.shape = 3 then c.cycle else 4
def pat1 (c : Cal) : Int := if c.shape = 1 then c.p1 else if c.shape = 3 then c.cycle else 4
def pat2 (c : Cal) : Int := if c.shape = 1 then c.p2 else if c.shape = 3 then c.cycle else 4

set_option maxHeartbeats 800000 in
theorem pattern_any (c : Cal) (w : World) :
    Calls Try.prog 88 #[calV c] w fun e w' => e = .returned (.agg #[.int .i64 (pat0 c), .int .i64 (pat1 c), .int .i64 (pat2 c)]) ∧ Below w.heap.size w w' := by
  simp only [calV]
  have hsh : c.shape = 1 ∨ c.shape = 3 ∨ (¬ c.shape = 1 ∧ ¬ c.shape = 3) := by omega
  rcases hsh with h | h | ⟨h, h'⟩
  · have H := hide (show pat0 c = c.p0 ∧ pat1 c = c.p1 ∧ pat2 c = c.p2 by simp [pat0, pat1, pat2, h])
    have e1 : (c.shape == 1) = true := by simp [h]
    clear h
    go_enter Try.func88, Try.ntmps88
    go_wp2
    go_returns
    refine ⟨?_, by (repeat' (first | (with_reducible exact Below.refl _ _) | (with_reducible assumption) | (with_reducible refine Below.alloc ?_ ?_ _) | (with_reducible refine below_drewN ?_ _) | (with_reducible refine Below.drew ?_) | (with_reducible refine Below.setCell ?_ ?_ _) | (with_reducible refine Below.trans ?_ (Below.mono (by assumption) ?_)) | go_size | (simp at *; omega)))⟩
    rw [H.out.1, H.out.2.1, H.out.2.2]
  · have H := hide (show pat0 c = c.cycle ∧ pat1 c = c.cycle ∧ pat2 c = c.cycle by simp [pat0, pat1, pat2, h])
    have e1 : (c.shape == 1) = false := by simp [h]
    have e2 : (c.shape == 3) = true := by simp [h]
    clear h
    go_enter Try.func88, Try.ntmps88
    go_wp2
    go_returns
    refine ⟨?_, by (repeat' (first | (with_reducible exact Below.refl _ _) | (with_reducible assumption) | (with_reducible refine Below.alloc ?_ ?_ _) | (with_reducible refine below_drewN ?_ _) | (with_reducible refine Below.drew ?_) | (with_reducible refine Below.setCell ?_ ?_ _) | (with_reducible refine Below.trans ?_ (Below.mono (by assumption) ?_)) | go_size | (simp at *; omega)))⟩
    rw [H.out.1, H.out.2.1, H.out.2.2]
  · have H := hide (show pat0 c = 4 ∧ pat1 c = 4 ∧ pat2 c = 4 by simp [pat0, pat1, pat2, h, h'])
    have e1 : (c.shape == 1) = false := by simp [h]
    have e2 : (c.shape == 3) = false := by simp [h']
    clear h h'
    go_enter Try.func88, Try.ntmps88
    go_wp2
    go_returns
    refine ⟨?_, by (repeat' (first | (with_reducible exact Below.refl _ _) | (with_reducible assumption) | (with_reducible refine Below.alloc ?_ ?_ _) | (with_reducible refine below_drewN ?_ _) | (with_reducible refine Below.drew ?_) | (with_reducible refine Below.setCell ?_ ?_ _) | (with_reducible refine Below.trans ?_ (Below.mono (by assumption) ?_)) | go_size | (simp at *; omega)))⟩
    rw [H.out.1, H.out.2.1, H.out.2.2]

/-- How many weeks the period behind j of them has, of a year of so many. -/
def patN (c : Cal) (j : Nat) : Int := if j % 3 = 0 then pat0 c else if j % 3 = 1 then pat1 c else pat2 c
def lenAt (c : Cal) (wk : Int) (j : Nat) : Int := patN c j + if (j : Int) + 1 = c.extra then wk - 52 else 0
def upto {α : Type} (f : Nat → α) (k : Nat) : List α := (List.range k).map f
theorem upto_succ {α : Type} (f : Nat → α) (k : Nat) : upto f (k + 1) = upto f k ++ [f k] := by simp [upto, List.range_succ]
theorem upto_length {α : Type} (f : Nat → α) (k : Nat) : (upto f k).length = k := by simp [upto]

/-- Of what is cells nothing has turned, but for two blocks. -/
def KeepsBut (A B : Nat) (W W' : World) : Prop :=
  W.heap.size ≤ W'.heap.size ∧ ∀ (k : Nat) (cs : Array Value) (t : TypeId) (z : Nat × Nat), k ≠ A → k ≠ B → W.heap[k]? = some (.cells cs t z) → W'.heap[k]? = some (.cells cs t z)
theorem keepsBut_trans {A B : Nat} {X Y Z : World} (h : KeepsBut A B X Y) (k : KeepsBut A B Y Z) : KeepsBut A B X Z :=
  ⟨Nat.le_trans h.1 k.1, fun i cs t z h1 h2 h3 => k.2 i cs t z h1 h2 (h.2 i cs t z h1 h2 h3)⟩

abbrev pairV (x : Nat × Int) : Array Value := #[.int .i64 (x.1 : Int), .int .i64 x.2]

set_option maxHeartbeats 800000 in
theorem lengths_any (m : Nat) (c : Cal) (p k : Int) (w : World) :
    CallsIn Fence.wide m Try.prog 66 #[calV c, .int .i64 p, .int .i64 k] w fun e w' =>
      e = .returned (.func (.func 87) #[] #[.pointer (some ⟨w.heap.size, 0, none⟩), .pointer (some ⟨w.heap.size + 1, 0, none⟩), .pointer (some ⟨w.heap.size + 2, 0, none⟩)]) ∧
      w' = ((w.alloc (.cells #[.string c.name, .int .i64 c.kind, .int .i64 c.day, .int .i64 c.month, .int .i64 c.shift, .int .i64 c.shape, .int .i64 c.p0, .int .i64 c.p1, .int .i64 c.p2, .int .i64 c.cycle, .int .i64 c.extra, .int .i64 c.first, .int .i64 c.last, .int .i64 c.policy] 24)).alloc (.cells #[.int .i64 p] 3)).alloc (.cells #[.int .i64 k] 3) := by
  refine callsIn_wide.2 ?_
  simp only [calV]
  go_enter Try.func66, Try.ntmps66
  go_wp2
  go_ret
  exact ⟨rfl, rfl⟩
end Go.Proofs.Ytepmfpgljcbkmaa
