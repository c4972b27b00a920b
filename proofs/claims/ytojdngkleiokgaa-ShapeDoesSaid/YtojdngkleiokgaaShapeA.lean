/- Contracts of shape: the months of a broadcast year, and civil months. Contracts of shape: patterns; how many weeks periods have, one by one. -/
import Derived.Test.YtojdngkleiokgaaAnchorB
import Derived.Test.YtojdngkleiokgaaInts
import Derived.RangeFuncNested
import Derived.RangeFuncBound
import Derived.RangeFuncCalls
import Derived.RangeFuncLeaves
import Derived.RangeFuncBox
import Derived.Shelf.Abstract
import Derived.Shelf.RegionOpen
import Derived.OwnWalkIn
import Derived.TacticsInMore
import Derived.LoopNIn
import Derived.LoopIn
namespace Go.Proofs.Ytojdngkleiokgaa
open Go.RowKit Qd
set_option linter.unusedSimpArgs false
set_option linter.unusedVariables false

def sunF (y : Int) (i : Nat) : Int := lastV y ((i : Int) + 1) 7
/-- The last Sundays of a year's months. -/
def sunL (y : Int) : List Int := (List.range 12).map (sunF y)

set_option maxRecDepth 100000 in
set_option maxHeartbeats 1600000 in
theorem sundays_any (y : Int) (w : World) (h1 : 1600 ≤ y) (h2 : y ≤ 9999) :
    Calls Try.prog 33 #[.int .i64 y] w fun e w' => ∃ g, w.heap.size ≤ g ∧ e = .returned (.tuple #[.slice (some ⟨g, 0, none⟩) 12 12, .int .i64 0]) ∧ IntsAt w' g (sunL y) ∧ Below w.heap.size w w' := by
  have hmk := make_12
  go_enter Try.func33, Try.ntmps33
  go_wp2
  go_loopw [11] (fun s wr => ∃ k : Nat, s = .int .i64 k ∧ k ≤ 12 ∧ IntsAt wr w.heap.size (upTo 12 k (sunF y)) ∧ Below w.heap.size w wr) (fun s _ => (13 - intOf s).toNat)
  case atStart => exact ⟨0, rfl, by omega, by rw [upTo_zero]; exact IntsAt.new w 12, (Below.refl _ _).alloc (Nat.le_refl _) _⟩
  case round =>
    obtain ⟨k, rfl, hk, hI, hB⟩ := hrel
    have hlt0 := hI.lt
    by_cases hlt : k < 12
    · have hE : wkE y ((k : Int) + 1) 7 = 0 := by simp [wkE, thereB]; omega
      have HE := hide hE
      clear hE
      go_wp2_with fail
      refine (last_any _ _ _ _).mono ?_
      rintro e w1 ⟨rfl, hb1⟩
      rw [HE.out]
      have hI1 := hI.call hb1
      have hz1 : w.heap.size < w1.heap.size := Nat.lt_of_lt_of_le hlt0 hb1.size
      have c1 := hI1.cell (k := k) (by rw [upTo_len]; exact hlt)
      have f1 := hI1.frozen k
      have HX := hide hI1
      clear hI1
      go_wp2
      refine ⟨⟨k + 1, by go_num, by omega, ?_, ?_⟩, by simp [intOf]; omega⟩
      · rw [← upTo_set]; exact HX.out.set k _
      · exact (hB.trans (hb1.mono (Nat.le_of_lt hlt0))).setCell (by simp) _
    · obtain rfl : k = 12 := by omega
      go_wp2
      go_ret2
      exact ⟨w.heap.size, Nat.le_refl _, rfl, by rw [upTo_full] at hI; exact hI, hB⟩

/-- The first day of the k-th month behind one that begins on a day. -/
def monS (d : Int) : Nat → Int
  | 0 => d
  | k + 1 => monS d k + lenV (ofY (monS d k)) (ofM (monS d k))
theorem monS_bd (d : Int) (k : Nat) : d ≤ monS d k ∧ monS d k ≤ d + 31 * k := by
  induction k with
  | zero => simp [monS]
  | succ k ih =>
    have := len_bd (ofY (monS d k)) (ofM (monS d k))
    unfold monS
    omega
def monF (d : Int) (i : Nat) : Int := monS d (i + 1) - 1
/-- The last days of twelve months. -/
def monL (d : Int) : List Int := (List.range 12).map (monF d)

set_option maxRecDepth 100000 in
set_option maxHeartbeats 1600000 in
theorem months_any (d : Int) (w : World) (h1 : 0 ≤ d) (h2 : d + 400 < 3068037) :
    Calls Try.prog 34 #[.int .i64 d] w fun e w' => ∃ g, w.heap.size ≤ g ∧ e = .returned (.tuple #[.slice (some ⟨g, 0, none⟩) 12 12, .int .i64 0]) ∧ IntsAt w' g (monL d) ∧ Below w.heap.size w w' := by
  have hmk := make_12
  go_enter Try.func34, Try.ntmps34
  go_wp2
  go_loopw [0, 12] (fun s0 s wr => ∃ k : Nat, s0 = .int .i64 (monS d k) ∧ s = .int .i64 k ∧ k ≤ 12 ∧ IntsAt wr w.heap.size (upTo 12 k (monF d)) ∧ Below w.heap.size w wr) (fun _ s _ => (13 - intOf s).toNat)
  case atStart => exact ⟨0, rfl, rfl, by omega, by rw [upTo_zero]; exact IntsAt.new w 12, (Below.refl _ _).alloc (Nat.le_refl _) _⟩
  case round =>
    obtain ⟨k, rfl, rfl, hk, hI, hB⟩ := hrel
    have hlt0 := hI.lt
    by_cases hlt : k < 12
    · have hmb := monS_bd d k
      have his : isB (monS d k) = true := by simp [isB]; omega
      obtain ⟨hdt, _⟩ := of_ok _ his
      have hth : thereB (ofY (monS d k)) (ofM (monS d k)) = true := by
        simp only [dateB, Bool.and_eq_true] at hdt; exact hdt.1
      have HL := hide (show lenE (ofY (monS d k)) (ofM (monS d k)) = 0 by simp [lenE, hth])
      have hlb := len_bd (ofY (monS d k)) (ofM (monS d k))
      have HF := hide (show monF d k = monS d k + lenV (ofY (monS d k)) (ofM (monS d k)) - 1 from rfl)
      have HS := hide (show monS d (k + 1) = monS d k + lenV (ofY (monS d k)) (ofM (monS d k)) from rfl)
      clear hdt hth
      go_wp2_with fail
      refine (of_yes _ _ his).mono ?_
      rintro e w1 ⟨rfl, hb1⟩
      clear his
      have hI1 := hide (hI.call hb1)
      have hz1 : w.heap.size < w1.heap.size := Nat.lt_of_lt_of_le hlt0 hb1.size
      have HB1 := hide (hB.trans (hb1.mono (Nat.le_of_lt hlt0)))
      clear hb1
      go_wp2_with fail
      refine (length_any _ _ _).mono ?_
      rintro e w2 ⟨rfl, hb2⟩
      rw [HL.out]
      have hI2 := ((hI1.out).alloc _).call hb2
      have hz2 : w.heap.size < w2.heap.size := Nat.lt_of_lt_of_le (by simp; omega) hb2.size
      have c1 := hI2.cell (k := k) (by rw [upTo_len]; exact hlt)
      have f1 := hI2.frozen k
      have HX := hide hI2
      clear hI2
      go_wp2
      refine ⟨⟨k + 1, by rw [HS.out], by go_num, by omega, ?_, ?_⟩, by simp [intOf]; omega⟩
      · rw [← upTo_set, HF.out]; exact HX.out.set k _
      · exact ((HB1.out.alloc (Nat.le_of_lt hz1) _).trans (hb2.mono (by simp; omega))).setCell (by simp) _
    · obtain rfl : k = 12 := by omega
      go_wp2
      go_ret2
      exact ⟨w.heap.size, Nat.le_refl _, rfl, by rw [upTo_full] at hI; exact hI, hB⟩
end Go.Proofs.Ytojdngkleiokgaa

namespace Go.Proofs.Ytojdngkleiokgaa
open Go.RowKit Go.Shelf Qd
set_option linter.unusedSimpArgs false
set_option linter.unusedVariables false
attribute [local go_sem] Oper.semAt_some

/-- A calendar's pattern. -/
def pat0 (c : Cal) : Int := if c.shape = 1 then c.p0 else if c.shape = 3 then c.cycle else 4
def pat1 (c : Cal) : Int := if c.shape = 1 then c.p1 else if c.shape = 3 then c.cycle else 4
def pat2 (c : Cal) : Int := if c.shape = 1 then c.p2 else if c.shape = 3 then c.cycle else 4

set_option maxHeartbeats 800000 in
theorem pattern_any (c : Cal) (w : World) :
    Calls Try.prog 62 #[calV c] w fun e w' => e = .returned (.agg #[.int .i64 (pat0 c), .int .i64 (pat1 c), .int .i64 (pat2 c)]) ∧ Below w.heap.size w w' := by
  simp only [calV]
  have hsh : c.shape = 1 ∨ c.shape = 3 ∨ (¬ c.shape = 1 ∧ ¬ c.shape = 3) := by omega
  rcases hsh with h | h | ⟨h, h'⟩
  · have H := hide (show pat0 c = c.p0 ∧ pat1 c = c.p1 ∧ pat2 c = c.p2 by simp [pat0, pat1, pat2, h])
    have e1 : (c.shape == 1) = true := by simp [h]
    clear h
    go_enter Try.func62, Try.ntmps62
    go_wp2
    go_returns
    refine ⟨?_, by (repeat' (first | (with_reducible exact Below.refl _ _) | (with_reducible assumption) | (with_reducible refine Below.alloc ?_ ?_ _) | (with_reducible refine below_drewN ?_ _) | (with_reducible refine Below.drew ?_) | (with_reducible refine Below.setCell ?_ ?_ _) | (with_reducible refine Below.trans ?_ (Below.mono (by assumption) ?_)) | go_size | (simp at *; omega)))⟩
    rw [H.out.1, H.out.2.1, H.out.2.2]
  · have H := hide (show pat0 c = c.cycle ∧ pat1 c = c.cycle ∧ pat2 c = c.cycle by simp [pat0, pat1, pat2, h])
    have e1 : (c.shape == 1) = false := by simp [h]
    have e2 : (c.shape == 3) = true := by simp [h]
    clear h
    go_enter Try.func62, Try.ntmps62
    go_wp2
    go_returns
    refine ⟨?_, by (repeat' (first | (with_reducible exact Below.refl _ _) | (with_reducible assumption) | (with_reducible refine Below.alloc ?_ ?_ _) | (with_reducible refine below_drewN ?_ _) | (with_reducible refine Below.drew ?_) | (with_reducible refine Below.setCell ?_ ?_ _) | (with_reducible refine Below.trans ?_ (Below.mono (by assumption) ?_)) | go_size | (simp at *; omega)))⟩
    rw [H.out.1, H.out.2.1, H.out.2.2]
  · have H := hide (show pat0 c = 4 ∧ pat1 c = 4 ∧ pat2 c = 4 by simp [pat0, pat1, pat2, h, h'])
    have e1 : (c.shape == 1) = false := by simp [h]
    have e2 : (c.shape == 3) = false := by simp [h']
    clear h h'
    go_enter Try.func62, Try.ntmps62
    go_wp2
    go_returns
    refine ⟨?_, by (repeat' (first | (with_reducible exact Below.refl _ _) | (with_reducible assumption) | (with_reducible refine Below.alloc ?_ ?_ _) | (with_reducible refine below_drewN ?_ _) | (with_reducible refine Below.drew ?_) | (with_reducible refine Below.setCell ?_ ?_ _) | (with_reducible refine Below.trans ?_ (Below.mono (by assumption) ?_)) | go_size | (simp at *; omega)))⟩
    rw [H.out.1, H.out.2.1, H.out.2.2]

/-- How many weeks the period behind j of them has, of a year of so many. -/
def patN (c : Cal) (j : Nat) : Int := if j % 3 = 0 then pat0 c else if j % 3 = 1 then pat1 c else pat2 c
def lenAt (c : Cal) (wk : Int) (j : Nat) : Int := patN c j + if (j : Int) + 1 = c.extra then wk - 52 else 0
def upto {α : Type} (f : Nat → α) (k : Nat) : List α := (List.range k).map f
theorem upto_succ {α : Type} (f : Nat → α) (k : Nat) : upto f (k + 1) = upto f k ++ [f k] := by simp [upto, List.range_succ]
theorem upto_length {α : Type} (f : Nat → α) (k : Nat) : (upto f k).length = k := by simp [upto]

/-- Of what is cells nothing has turned, but for two blocks. -/
def KeepsBut (A B : Nat) (W W' : World) : Prop :=
  W.heap.size ≤ W'.heap.size ∧ ∀ (k : Nat) (cs : Array Value) (t : TypeId) (z : Nat × Nat), k ≠ A → k ≠ B → W.heap[k]? = some (.cells cs t z) → W'.heap[k]? = some (.cells cs t z)
theorem keepsBut_trans {A B : Nat} {X Y Z : World} (h : KeepsBut A B X Y) (k : KeepsBut A B Y Z) : KeepsBut A B X Z :=
  ⟨Nat.le_trans h.1 k.1, fun i cs t z h1 h2 h3 => k.2 i cs t z h1 h2 (h.2 i cs t z h1 h2 h3)⟩

abbrev pairV (x : Nat × Int) : Array Value := #[.int .i64 (x.1 : Int), .int .i64 x.2]

set_option maxHeartbeats 800000 in
theorem lengths_any (m : Nat) (c : Cal) (p k : Int) (w : World) :
    CallsIn Fence.wide m Try.prog 36 #[calV c, .int .i64 p, .int .i64 k] w fun e w' =>
      e = .returned (.func (.func 61) #[] #[.pointer (some ⟨w.heap.size, 0, none⟩), .pointer (some ⟨w.heap.size + 1, 0, none⟩), .pointer (some ⟨w.heap.size + 2, 0, none⟩)]) ∧
      w' = ((w.alloc (.cells #[.string c.name, .int .i64 c.kind, .int .i64 c.day, .int .i64 c.month, .int .i64 c.shift, .int .i64 c.shape, .int .i64 c.p0, .int .i64 c.p1, .int .i64 c.p2, .int .i64 c.cycle, .int .i64 c.extra, .int .i64 c.first, .int .i64 c.last, .int .i64 c.policy] 24)).alloc (.cells #[.int .i64 p] 3)).alloc (.cells #[.int .i64 k] 3) := by
  refine callsIn_wide.2 ?_
  simp only [calV]
  go_enter Try.func36, Try.ntmps36
  go_wp2
  go_ret
  exact ⟨rfl, rfl⟩
end Go.Proofs.Ytojdngkleiokgaa
