/- Contracts of shape: the months of a broadcast year, and civil months. Contracts of shape: patterns; how many weeks periods have, one by one. The iterator of shape.lengths: its contract. Contracts of shape.Ends: years that are not told, broadcast years, years by months. Contracts of shape.Ends: years of weeks. How a year's periods lie: the plain law behind shape.Ends. How the months of a year lie: the plain law behind shape.Ends. Contracts of shape.Weeks. The periods of a year by months are civil months: the plain law. The last period ends with the year: the plain law. How a year's weeks lie: the plain law behind frames. Which weeks make a unit: the plain law behind frames. Contracts of shape.Added. -/
import Derived.Test.YtjhhmeoibfdcmaaGreatDoorMAn
import Derived.Test.YtjhhmeoibfdcmaaGreatDoorInts
import Derived.RangeFuncNested
import Derived.RangeFuncBound
import Derived.RangeFuncCalls
import Derived.RangeFuncLeaves
import Derived.RangeFuncBox
import Derived.Shelf.Abstract
import Derived.Shelf.RegionOpen
import Derived.OwnWalkIn
import Derived.TacticsInMore
import Derived.LoopNIn
import Derived.LoopIn
import Derived.Test.YtjhhmeoibfdcmaaGreatDoorQuarter
namespace Go.Proofs.YtjhhmeoibfdcmaaGreatDoor
open Go.RowKit Qd
set_option linter.unusedSimpArgs false
set_option linter.unusedVariables false

def sunF (y : Int) (i : Nat) : Int := lastV y ((i : Int) + 1) 7
/-- The last Sundays of a year's months. -/
def sunL (y : Int) : List Int := (List.range 12).map (sunF y)

set_option maxRecDepth 100000 in
set_option maxHeartbeats 1600000 in
theorem sundays_any (y : Int) (w : World) (h1 : 1600 ≤ y) (h2 : y ≤ 9999) :
    Calls Tryz.prog 72 #[.int .i64 y] w fun e w' => ∃ g, w.heap.size ≤ g ∧ e = .returned (.tuple #[.slice (some ⟨g, 0, none⟩) 12 12, .int .i64 0]) ∧ IntsAt w' g (sunL y) ∧ Below w.heap.size w w' := by
  have hmk := make_12
  go_enter Tryz.func72, Tryz.ntmps72
  go_wp2
  go_loopw [11] (fun s wr => ∃ k : Nat, s = .int .i64 k ∧ k ≤ 12 ∧ IntsAt wr w.heap.size (upTo 12 k (sunF y)) ∧ Below w.heap.size w wr) (fun s _ => (13 - intOf s).toNat)
  case atStart => exact ⟨0, rfl, by omega, by rw [upTo_zero]; exact IntsAt.new w 12, (Below.refl _ _).alloc (Nat.le_refl _) _⟩
  case round =>
    obtain ⟨k, rfl, hk, hI, hB⟩ := hrel
    have hlt0 := hI.lt
    by_cases hlt : k < 12
    · have hE : wkE y ((k : Int) + 1) 7 = 0 := by simp [wkE, thereB]; omega
      have HE := hide hE
      clear hE
      go_wp2_with fail
      refine (last_any _ _ _ _).mono ?_
      rintro e w1 ⟨rfl, hb1⟩
      rw [HE.out]
      have hI1 := hI.call hb1
      have hz1 : w.heap.size < w1.heap.size := Nat.lt_of_lt_of_le hlt0 hb1.size
      have c1 := hI1.cell (k := k) (by rw [upTo_len]; exact hlt)
      have f1 := hI1.frozen k
      have HX := hide hI1
      clear hI1
      go_wp2
      refine ⟨⟨k + 1, by go_num, by omega, ?_, ?_⟩, by simp [intOf]; omega⟩
      · rw [← upTo_set]; exact HX.out.set k _
      · exact (hB.trans (hb1.mono (Nat.le_of_lt hlt0))).setCell (by simp) _
    · obtain rfl : k = 12 := by omega
      go_wp2
      go_ret2
      exact ⟨w.heap.size, Nat.le_refl _, rfl, by rw [upTo_full] at hI; exact hI, hB⟩

/-- The first day of the k-th month behind one that begins on a day. -/
def monS (d : Int) : Nat → Int
  | 0 => d
  | k + 1 => monS d k + lenV (ofY (monS d k)) (ofM (monS d k))
theorem monS_bd (d : Int) (k : Nat) : d ≤ monS d k ∧ monS d k ≤ d + 31 * k := by
  induction k with
  | zero => simp [monS]
  | succ k ih =>
    have := len_bd (ofY (monS d k)) (ofM (monS d k))
    unfold monS
    omega
def monF (d : Int) (i : Nat) : Int := monS d (i + 1) - 1
/-- The last days of twelve months. -/
def monL (d : Int) : List Int := (List.range 12).map (monF d)

set_option maxRecDepth 100000 in
set_option maxHeartbeats 1600000 in
theorem months_any (d : Int) (w : World) (h1 : 0 ≤ d) (h2 : d + 400 < 3068037) :
    Calls Tryz.prog 73 #[.int .i64 d] w fun e w' => ∃ g, w.heap.size ≤ g ∧ e = .returned (.tuple #[.slice (some ⟨g, 0, none⟩) 12 12, .int .i64 0]) ∧ IntsAt w' g (monL d) ∧ Below w.heap.size w w' := by
  have hmk := make_12
  go_enter Tryz.func73, Tryz.ntmps73
  go_wp2
  go_loopw [0, 12] (fun s0 s wr => ∃ k : Nat, s0 = .int .i64 (monS d k) ∧ s = .int .i64 k ∧ k ≤ 12 ∧ IntsAt wr w.heap.size (upTo 12 k (monF d)) ∧ Below w.heap.size w wr) (fun _ s _ => (13 - intOf s).toNat)
  case atStart => exact ⟨0, rfl, rfl, by omega, by rw [upTo_zero]; exact IntsAt.new w 12, (Below.refl _ _).alloc (Nat.le_refl _) _⟩
  case round =>
    obtain ⟨k, rfl, rfl, hk, hI, hB⟩ := hrel
    have hlt0 := hI.lt
    by_cases hlt : k < 12
    · have hmb := monS_bd d k
      have his : isB (monS d k) = true := by simp [isB]; omega
      obtain ⟨hdt, _⟩ := of_ok _ his
      have hth : thereB (ofY (monS d k)) (ofM (monS d k)) = true := by
        simp only [dateB, Bool.and_eq_true] at hdt; exact hdt.1
      have HL := hide (show lenE (ofY (monS d k)) (ofM (monS d k)) = 0 by simp [lenE, hth])
      have hlb := len_bd (ofY (monS d k)) (ofM (monS d k))
      have HF := hide (show monF d k = monS d k + lenV (ofY (monS d k)) (ofM (monS d k)) - 1 from rfl)
      have HS := hide (show monS d (k + 1) = monS d k + lenV (ofY (monS d k)) (ofM (monS d k)) from rfl)
      clear hdt hth
      go_wp2_with fail
      refine (of_yes _ _ his).mono ?_
      rintro e w1 ⟨rfl, hb1⟩
      clear his
      have hI1 := hide (hI.call hb1)
      have hz1 : w.heap.size < w1.heap.size := Nat.lt_of_lt_of_le hlt0 hb1.size
      have HB1 := hide (hB.trans (hb1.mono (Nat.le_of_lt hlt0)))
      clear hb1
      go_wp2_with fail
      refine (length_any _ _ _).mono ?_
      rintro e w2 ⟨rfl, hb2⟩
      rw [HL.out]
      have hI2 := ((hI1.out).alloc _).call hb2
      have hz2 : w.heap.size < w2.heap.size := Nat.lt_of_lt_of_le (by simp; omega) hb2.size
      have c1 := hI2.cell (k := k) (by rw [upTo_len]; exact hlt)
      have f1 := hI2.frozen k
      have HX := hide hI2
      clear hI2
      go_wp2
      refine ⟨⟨k + 1, by rw [HS.out], by go_num, by omega, ?_, ?_⟩, by simp [intOf]; omega⟩
      · rw [← upTo_set, HF.out]; exact HX.out.set k _
      · exact ((HB1.out.alloc (Nat.le_of_lt hz1) _).trans (hb2.mono (by simp; omega))).setCell (by simp) _
    · obtain rfl : k = 12 := by omega
      go_wp2
      go_ret2
      exact ⟨w.heap.size, Nat.le_refl _, rfl, by rw [upTo_full] at hI; exact hI, hB⟩
end Go.Proofs.YtjhhmeoibfdcmaaGreatDoor

namespace Go.Proofs.YtjhhmeoibfdcmaaGreatDoor
open Go.RowKit Go.Shelf Qd
set_option linter.unusedSimpArgs false
set_option linter.unusedVariables false
attribute [local go_sem] Oper.semAt_some

/-- A calendar's pattern. -/
def pat0 (c : Cal) : Int := if c.shape = 1 then c.p0 else if c.shape = 3 then c.cycle else 4
def pat1 (c : Cal) : Int := if c.shape = 1 then c.p1 else if c.shape = 3 then c.cycle else 4
def pat2 (c : Cal) : Int := if c.shape = 1 then c.p2 else if c.shape = 3 then c.cycle else 4

set_option maxHeartbeats 800000 in
theorem pattern_any (c : Cal) (w : World) :
    Calls Tryz.prog 103 #[calV c] w fun e w' => e = .returned (.agg #[.int .i64 (pat0 c), .int .i64 (pat1 c), .int .i64 (pat2 c)]) ∧ Below w.heap.size w w' := by
  simp only [calV]
  have hsh : c.shape = 1 ∨ c.shape = 3 ∨ (¬ c.shape = 1 ∧ ¬ c.shape = 3) := by omega
  rcases hsh with h | h | ⟨h, h'⟩
  · have H := hide (show pat0 c = c.p0 ∧ pat1 c = c.p1 ∧ pat2 c = c.p2 by simp [pat0, pat1, pat2, h])
    have e1 : (c.shape == 1) = true := by simp [h]
    clear h
    go_enter Tryz.func103, Tryz.ntmps103
    go_wp2
    go_returns
    refine ⟨?_, by (repeat' exact bel)⟩
    rw [H.out.1, H.out.2.1, H.out.2.2]
  · have H := hide (show pat0 c = c.cycle ∧ pat1 c = c.cycle ∧ pat2 c = c.cycle by simp [pat0, pat1, pat2, h])
    have e1 : (c.shape == 1) = false := by simp [h]
    have e2 : (c.shape == 3) = true := by simp [h]
    clear h
    go_enter Tryz.func103, Tryz.ntmps103
    go_wp2
    go_returns
    refine ⟨?_, by (repeat' exact bel)⟩
    rw [H.out.1, H.out.2.1, H.out.2.2]
  · have H := hide (show pat0 c = 4 ∧ pat1 c = 4 ∧ pat2 c = 4 by simp [pat0, pat1, pat2, h, h'])
    have e1 : (c.shape == 1) = false := by simp [h]
    have e2 : (c.shape == 3) = false := by simp [h']
    clear h h'
    go_enter Tryz.func103, Tryz.ntmps103
    go_wp2
    go_returns
    refine ⟨?_, by (repeat' exact bel)⟩
    rw [H.out.1, H.out.2.1, H.out.2.2]

/-- How many weeks the period behind j of them has, of a year of so many. -/
def patN (c : Cal) (j : Nat) : Int := if j % 3 = 0 then pat0 c else if j % 3 = 1 then pat1 c else pat2 c
def lenAt (c : Cal) (wk : Int) (j : Nat) : Int := patN c j + if (j : Int) + 1 = c.extra then wk - 52 else 0
def upto {α : Type} (f : Nat → α) (k : Nat) : List α := (List.range k).map f
theorem upto_succ {α : Type} (f : Nat → α) (k : Nat) : upto f (k + 1) = upto f k ++ [f k] := by simp [upto, List.range_succ]
theorem upto_length {α : Type} (f : Nat → α) (k : Nat) : (upto f k).length = k := by simp [upto]

/-- Of what is cells nothing has turned, but for two blocks. -/
def KeepsBut (A B : Nat) (W W' : World) : Prop :=
  W.heap.size ≤ W'.heap.size ∧ ∀ (k : Nat) (cs : Array Value) (t : TypeId) (z : Nat × Nat), k ≠ A → k ≠ B → W.heap[k]? = some (.cells cs t z) → W'.heap[k]? = some (.cells cs t z)
theorem keepsBut_trans {A B : Nat} {X Y Z : World} (h : KeepsBut A B X Y) (k : KeepsBut A B Y Z) : KeepsBut A B X Z :=
  ⟨Nat.le_trans h.1 k.1, fun i cs t z h1 h2 h3 => k.2 i cs t z h1 h2 (h.2 i cs t z h1 h2 h3)⟩

abbrev pairV (x : Nat × Int) : Array Value := #[.int .i64 (x.1 : Int), .int .i64 x.2]

set_option maxHeartbeats 800000 in
theorem lengths_any (m : Nat) (c : Cal) (p k : Int) (w : World) :
    CallsIn Fence.wide m Tryz.prog 76 #[calV c, .int .i64 p, .int .i64 k] w fun e w' =>
      e = .returned (.func (.func 102) #[] #[.pointer (some ⟨w.heap.size, 0, none⟩), .pointer (some ⟨w.heap.size + 1, 0, none⟩), .pointer (some ⟨w.heap.size + 2, 0, none⟩)]) ∧
      w' = ((w.alloc (.cells #[.string c.name, .int .i64 c.kind, .int .i64 c.day, .int .i64 c.month, .int .i64 c.shift, .int .i64 c.shape, .int .i64 c.p0, .int .i64 c.p1, .int .i64 c.p2, .int .i64 c.cycle, .int .i64 c.extra, .int .i64 c.first, .int .i64 c.last, .int .i64 c.policy] 24)).alloc (.cells #[.int .i64 p] 3)).alloc (.cells #[.int .i64 k] 3) := by
  refine callsIn_wide.2 ?_
  simp only [calV]
  go_enter Tryz.func76, Tryz.ntmps76
  go_wp2
  go_ret
  exact ⟨rfl, rfl⟩
end Go.Proofs.YtjhhmeoibfdcmaaGreatDoor

namespace Go.Proofs.YtjhhmeoibfdcmaaGreatDoor
open Go.RowKit Go.Shelf Qd
set_option linter.unusedSimpArgs false
set_option linter.unusedVariables false
attribute [local go_sem] Oper.semAt_some

/-- A period's number and weeks, within bounds. -/
abbrev PW (n : Nat) := { x : Nat × Int // x.1 < n ∧ 0 ≤ x.2 ∧ x.2 ≤ 100 }
abbrev encPW {n : Nat} (x : PW n) : Array Value := #[.int .i64 (x.1.1 : Int), .int .i64 x.1.2]
def mkPW (c : Cal) (wk : Int) (n : Nat) (h : 0 < n) (j : Nat) : PW n := ⟨(min j (n - 1), min (max (lenAt c wk j) 0) 100), by dsimp only; omega⟩

theorem only_of_below {a w : World} (h : Below a.heap.size a w) (row : Option Nat) : a.grownBy w row := ⟨h.os, h.tape, h.output, h.size, fun i hi _ => h.block i hi⟩

/-- Shapes of weeks, patterns and extra weeks of a calendar that may be. -/
def WeekCal (c : Cal) : Prop := 1 ≤ pat0 c ∧ pat0 c ≤ 5 ∧ 1 ≤ pat1 c ∧ pat1 c ≤ 5 ∧ 1 ≤ pat2 c ∧ pat2 c ≤ 5
theorem lenAt_bd (c : Cal) (wk : Int) (j : Nat) (h : WeekCal c) (hwk : wk = 52 ∨ wk = 53) : 1 ≤ lenAt c wk j ∧ lenAt c wk j ≤ 6 := by
  unfold WeekCal at h
  unfold lenAt patN
  split <;> split <;> (try split) <;> omega

def BlkIs (w : World) (B : Nat) (cs : Array Value) (t : TypeId) : Prop := w.heap[B]? = some (.cells cs t (0, 0))
theorem BlkIs.lt {w : World} {B : Nat} {cs : Array Value} {t : TypeId} (h : BlkIs w B cs t) : B < w.heap.size := (Array.getElem?_eq_some_iff.1 h).1
theorem BlkIs.cell {w : World} {B : Nat} {cs : Array Value} {t : TypeId} (h : BlkIs w B cs t) (i : Nat) : w.cell? ⟨B, i, none⟩ = cs[i]? := cell_of_row w B i cs t (0, 0) h
theorem BlkIs.below {w w' : World} {K B : Nat} {cs : Array Value} {t : TypeId} (h : BlkIs w B cs t) (hb : Below K w w') (hB : B < K) : BlkIs w' B cs t := (hb.block B hB).trans h
theorem BlkIs.call {w w' : World} {B : Nat} {cs : Array Value} {t : TypeId} (h : BlkIs w B cs t) (hb : Below w.heap.size w w') : BlkIs w' B cs t := h.below hb h.lt
theorem BlkIs.alloc {w : World} {B : Nat} {cs : Array Value} {t : TypeId} (h : BlkIs w B cs t) (o : Obj) : BlkIs (w.alloc o) B cs t := (Below.heap_alloc w o B h.lt).trans h
theorem BlkIs.new (w : World) (cs : Array Value) (t : TypeId) : BlkIs (w.alloc (.cells cs t)) w.heap.size cs t := heap_alloc_new w _
theorem BlkIs.kept {w w' : World} {A D B : Nat} {cs : Array Value} {t : TypeId} (h : BlkIs w B cs t) (hk : KeepsBut A D w w') (h1 : B ≠ A) (h2 : B ≠ D) : BlkIs w' B cs t := hk.2 B cs t (0, 0) h1 h2 h
abbrev calCs (c : Cal) : Array Value := #[.string c.name, .int .i64 c.kind, .int .i64 c.day, .int .i64 c.month, .int .i64 c.shift, .int .i64 c.shape, .int .i64 c.p0, .int .i64 c.p1, .int .i64 c.p2, .int .i64 c.cycle, .int .i64 c.extra, .int .i64 c.first, .int .i64 c.last, .int .i64 c.policy]
theorem BlkIs.cal {w : World} {B : Nat} {c : Cal} (h : BlkIs w B (calCs c) 24) : CalAt w B c := by
  refine ⟨?_, ?_, ?_, ?_, ?_, ?_, ?_, ?_, ?_, ?_, ?_, ?_, ?_, ?_⟩ <;> (rw [h.cell]; rfl)

theorem enc_mk (c : Cal) (wk : Int) (n : Nat) (hn0 : 0 < n) (k : Nat) (h : WeekCal c) (hwk : wk = 52 ∨ wk = 53) (hk : k < n) (V : Int) (hV : lenAt c wk k = V) : encPW (mkPW c wk n hn0 k) = #[.int .i64 (k : Int), .int .i64 V] := by
  have hb := lenAt_bd c wk k h hwk
  have e1 : min k (n - 1) = k := by omega
  have e2 : min (max (lenAt c wk k) 0) 100 = lenAt c wk k := by omega
  simp only [encPW, mkPW, e1, e2]
  rw [hV]

set_option maxRecDepth 100000 in
set_option maxHeartbeats 4000000 in
theorem lengths_stops (c : Cal) (n : Nat) (wk : Int) (hw : WeekCal c) (hwk : wk = 52 ∨ wk = 53) (hn : n ≤ 59) (hn0 : 0 < n) (B0 B1 B2 Bd Bo : Nat) (w : World)
    (g0 : BlkIs w B0 (calCs c) 24) (g1 : BlkIs w B1 #[.int .i64 (n : Int)] 3) (g2 : BlkIs w B2 #[.int .i64 wk] 3)
    (hd : Bd < w.heap.size) (ho : Bo < w.heap.size) (n0 : B0 ≠ Bd ∧ B0 ≠ Bo) (n1 : B1 ≠ Bd ∧ B1 ≠ Bo) (n2 : B2 ≠ Bd ∧ B2 ≠ Bo) :
    SeqStopsK Fence.wide 4 Tryz.prog 102 #[.pointer (some ⟨B0, 0, none⟩), .pointer (some ⟨B1, 0, none⟩), .pointer (some ⟨B2, 0, none⟩)] encPW (KeepsBut Bd Bo)
      (fun xs => xs = upto (mkPW c wk n hn0) n) (fun _ => True) n w := fun l J Jx W hW hJ hJx hY h0 => by
  have G0 := hide (g0.call hW)
  have G1 := hide (g1.call hW)
  have G2 := hide (g2.call hW)
  have hWz := hW.size
  obtain ⟨q0, q1, q2, q3, q4, q5, q6, q7, q8, q9, q10, q11, q12, q13⟩ := (G0.out).cal
  have r1 : W.cell? ⟨B1, 0, none⟩ = some (.int .i64 (n : Int)) := (G1.out).cell 0
  refine callsIn_of_wp Tryz.func102 rfl trivial ?_ rfl
  simp only [Tryz.ntmps102, List.size_toArray, List.length_cons, List.length_nil, Nat.reduceAdd, Nat.reduceSub, Array.replicate_succ, Array.replicate_zero, List.push_toArray, List.append_toArray, List.nil_append, List.cons_append]
  gi_wp2_with fail
  refine ⟨trivial, (callsIn_wide.2 (pattern_any c _)).mono ?_⟩
  rintro e w1 ⟨rfl, hb1⟩
  clear q0 q1 q2 q3 q4 q5 q6 q7 q8 q9 q10 q11 q12 q13
  have hgw := only_of_below hb1 none
  have G01 := hide (((G0.out).call hb1).alloc (.cells #[.int .i64 (pat0 c), .int .i64 (pat1 c), .int .i64 (pat2 c)] 22))
  have G21 := hide (((G2.out).call hb1).alloc (.cells #[.int .i64 (pat0 c), .int .i64 (pat1 c), .int .i64 (pat2 c)] 22))
  have GP1 := hide (BlkIs.new w1 #[.int .i64 (pat0 c), .int .i64 (pat1 c), .int .i64 (pat2 c)] 22)
  have r1 : w1.cell? ⟨B1, 0, none⟩ = some (.int .i64 (n : Int)) := ((G1.out).call hb1).cell 0
  have hB1 : B1 < w1.heap.size := ((G1.out).call hb1).lt
  have HJ1 := hide (hJ _ _ _ none (hJ _ _ _ none h0 hgw (by intro r e; cases e)) (World.grownBy_alloc w1 (.cells #[.int .i64 (pat0 c), .int .i64 (pat1 c), .int .i64 (pat2 c)] 22) none) (by intro r e; cases e))
  have hbz := hb1.size
  have hp1 : w1.heap.size ≠ Bd := by omega
  have hp2 : w1.heap.size ≠ Bo := by omega
  clear hb1 hgw
  gi_wp2
  gi_loopw [11] (fun s wr => ∃ k : Nat, k ≤ n ∧ s = .int .i64 k ∧ Hid (J (upto (mkPW c wk n hn0) k) wr) ∧ BlkIs wr B0 (calCs c) 24 ∧ BlkIs wr B2 #[.int .i64 wk] 3 ∧ BlkIs wr w1.heap.size #[.int .i64 (pat0 c), .int .i64 (pat1 c), .int .i64 (pat2 c)] 22)
    (fun s _ => n - (intOf s).toNat)
  case atStart => exact ⟨0, Nat.zero_le _, rfl, HJ1, G01.out, G21.out, GP1.out⟩
  case round =>
    obtain ⟨k, hk, rfl, HJs, b0, b2, bp⟩ := hrel
    by_cases hlt : k < n
    · have x0 : wr.cell? ⟨w1.heap.size, 0, none⟩ = some (.int .i64 (pat0 c)) := bp.cell 0
      have x1 : wr.cell? ⟨w1.heap.size, 1, none⟩ = some (.int .i64 (pat1 c)) := bp.cell 1
      have x2 : wr.cell? ⟨w1.heap.size, 2, none⟩ = some (.int .i64 (pat2 c)) := bp.cell 2
      have x3 : wr.cell? ⟨B0, 10, none⟩ = some (.int .i64 c.extra) := b0.cell 10
      have x4 : wr.cell? ⟨B2, 0, none⟩ = some (.int .i64 wk) := b2.cell 0
      have hw' := hw
      unfold WeekCal at hw'
      obtain ⟨fn, tmps, assign, body, hy, hR⟩ := hY _ (mkPW c wk n hn0 k) wr HJs.out (by rw [upto_length]; exact hlt)
      have hwkb : 52 ≤ wk ∧ wk ≤ 53 := by omega
      have HWK := hide hwk
      clear hwk hY
      have hm3 : k % 3 = 0 ∨ k % 3 = 1 ∨ k % 3 = 2 := by omega
      rcases hm3 with hm | hm | hm
      · have hmi : ((k : Int) % 3) = 0 := by omega
        by_cases he0 : (k : Int) + 1 = c.extra
        rotate_left
        · have he : ((k : Int) + 1 == c.extra) = false := by simp [he0]
          have hV : lenAt c wk k = pat0 c := by simp [lenAt, patN, hm, he0]
          rw [enc_mk c wk n hn0 k hw HWK.out hlt _ hV] at hy
          clear he0 hV hm
          gi_wp2
          refine hR.mono ?_
          rintro e W3 (⟨rfl, hJ3, hk3⟩ | ⟨rfl, hJx3⟩)
          · have HJ3 := hide hJ3
            have b03 := b0.kept hk3 n0.1 n0.2
            have b23 := b2.kept hk3 n2.1 n2.2
            have bp3 := bp.kept hk3 hp1 hp2
            clear hJ3 hk3
            gi_wp2
            go_roundw
            case rel => exact ⟨k + 1, by omega, by go_num, by rw [upto_succ]; exact HJ3, b03, b23, bp3⟩
            case measure => simp [intOf]; omega
          · have HJ3 := hide hJx3
            clear hJx3
            gi_wp2
            refine bodyPost_ret (results_none rfl _ _ _) rfl ?_
            exact ⟨⟨_, rfl⟩, .inr ⟨_, trivial, HJ3.out⟩⟩
        · have he : ((k : Int) + 1 == c.extra) = true := by simp [he0]
          have hV : lenAt c wk k = pat0 c + (wk - 52) := by simp [lenAt, patN, hm, he0]
          rw [enc_mk c wk n hn0 k hw HWK.out hlt _ hV] at hy
          clear he0 hV hm
          gi_wp2
          refine hR.mono ?_
          rintro e W3 (⟨rfl, hJ3, hk3⟩ | ⟨rfl, hJx3⟩)
          · have HJ3 := hide hJ3
            have b03 := b0.kept hk3 n0.1 n0.2
            have b23 := b2.kept hk3 n2.1 n2.2
            have bp3 := bp.kept hk3 hp1 hp2
            clear hJ3 hk3
            gi_wp2
            go_roundw
            case rel => exact ⟨k + 1, by omega, by go_num, by rw [upto_succ]; exact HJ3, b03, b23, bp3⟩
            case measure => simp [intOf]; omega
          · have HJ3 := hide hJx3
            clear hJx3
            gi_wp2
            refine bodyPost_ret (results_none rfl _ _ _) rfl ?_
            exact ⟨⟨_, rfl⟩, .inr ⟨_, trivial, HJ3.out⟩⟩
      · have hmi : ((k : Int) % 3) = 1 := by omega
        by_cases he0 : (k : Int) + 1 = c.extra
        rotate_left
        · have he : ((k : Int) + 1 == c.extra) = false := by simp [he0]
          have hV : lenAt c wk k = pat1 c := by simp [lenAt, patN, hm, he0]
          rw [enc_mk c wk n hn0 k hw HWK.out hlt _ hV] at hy
          clear he0 hV hm
          gi_wp2
          refine hR.mono ?_
          rintro e W3 (⟨rfl, hJ3, hk3⟩ | ⟨rfl, hJx3⟩)
          · have HJ3 := hide hJ3
            have b03 := b0.kept hk3 n0.1 n0.2
            have b23 := b2.kept hk3 n2.1 n2.2
            have bp3 := bp.kept hk3 hp1 hp2
            clear hJ3 hk3
            gi_wp2
            go_roundw
            case rel => exact ⟨k + 1, by omega, by go_num, by rw [upto_succ]; exact HJ3, b03, b23, bp3⟩
            case measure => simp [intOf]; omega
          · have HJ3 := hide hJx3
            clear hJx3
            gi_wp2
            refine bodyPost_ret (results_none rfl _ _ _) rfl ?_
            exact ⟨⟨_, rfl⟩, .inr ⟨_, trivial, HJ3.out⟩⟩
        · have he : ((k : Int) + 1 == c.extra) = true := by simp [he0]
          have hV : lenAt c wk k = pat1 c + (wk - 52) := by simp [lenAt, patN, hm, he0]
          rw [enc_mk c wk n hn0 k hw HWK.out hlt _ hV] at hy
          clear he0 hV hm
          gi_wp2
          refine hR.mono ?_
          rintro e W3 (⟨rfl, hJ3, hk3⟩ | ⟨rfl, hJx3⟩)
          · have HJ3 := hide hJ3
            have b03 := b0.kept hk3 n0.1 n0.2
            have b23 := b2.kept hk3 n2.1 n2.2
            have bp3 := bp.kept hk3 hp1 hp2
            clear hJ3 hk3
            gi_wp2
            go_roundw
            case rel => exact ⟨k + 1, by omega, by go_num, by rw [upto_succ]; exact HJ3, b03, b23, bp3⟩
            case measure => simp [intOf]; omega
          · have HJ3 := hide hJx3
            clear hJx3
            gi_wp2
            refine bodyPost_ret (results_none rfl _ _ _) rfl ?_
            exact ⟨⟨_, rfl⟩, .inr ⟨_, trivial, HJ3.out⟩⟩
      · have hmi : ((k : Int) % 3) = 2 := by omega
        by_cases he0 : (k : Int) + 1 = c.extra
        rotate_left
        · have he : ((k : Int) + 1 == c.extra) = false := by simp [he0]
          have hV : lenAt c wk k = pat2 c := by simp [lenAt, patN, hm, he0]
          rw [enc_mk c wk n hn0 k hw HWK.out hlt _ hV] at hy
          clear he0 hV hm
          gi_wp2
          refine hR.mono ?_
          rintro e W3 (⟨rfl, hJ3, hk3⟩ | ⟨rfl, hJx3⟩)
          · have HJ3 := hide hJ3
            have b03 := b0.kept hk3 n0.1 n0.2
            have b23 := b2.kept hk3 n2.1 n2.2
            have bp3 := bp.kept hk3 hp1 hp2
            clear hJ3 hk3
            gi_wp2
            go_roundw
            case rel => exact ⟨k + 1, by omega, by go_num, by rw [upto_succ]; exact HJ3, b03, b23, bp3⟩
            case measure => simp [intOf]; omega
          · have HJ3 := hide hJx3
            clear hJx3
            gi_wp2
            refine bodyPost_ret (results_none rfl _ _ _) rfl ?_
            exact ⟨⟨_, rfl⟩, .inr ⟨_, trivial, HJ3.out⟩⟩
        · have he : ((k : Int) + 1 == c.extra) = true := by simp [he0]
          have hV : lenAt c wk k = pat2 c + (wk - 52) := by simp [lenAt, patN, hm, he0]
          rw [enc_mk c wk n hn0 k hw HWK.out hlt _ hV] at hy
          clear he0 hV hm
          gi_wp2
          refine hR.mono ?_
          rintro e W3 (⟨rfl, hJ3, hk3⟩ | ⟨rfl, hJx3⟩)
          · have HJ3 := hide hJ3
            have b03 := b0.kept hk3 n0.1 n0.2
            have b23 := b2.kept hk3 n2.1 n2.2
            have bp3 := bp.kept hk3 hp1 hp2
            clear hJ3 hk3
            gi_wp2
            go_roundw
            case rel => exact ⟨k + 1, by omega, by go_num, by rw [upto_succ]; exact HJ3, b03, b23, bp3⟩
            case measure => simp [intOf]; omega
          · have HJ3 := hide hJx3
            clear hJx3
            gi_wp2
            refine bodyPost_ret (results_none rfl _ _ _) rfl ?_
            exact ⟨⟨_, rfl⟩, .inr ⟨_, trivial, HJ3.out⟩⟩
    · have hkn : k = n := by omega
      subst hkn
      gi_wp2
      go_end0
      exact ⟨⟨_, rfl⟩, .inl ⟨_, rfl, HJs.out⟩⟩
end Go.Proofs.YtjhhmeoibfdcmaaGreatDoor

namespace Go.Proofs.YtjhhmeoibfdcmaaGreatDoor
open Go.RowKit Qd
set_option linter.unusedSimpArgs false
set_option linter.unusedVariables false

/-- The day behind the first k periods of a year of weeks. -/
def wkDay (c : Cal) (y : Int) : Nat → Int
  | 0 => startV c y
  | k + 1 => wkDay c y k + 7 * lenAt c (wksV c y) k
/-- The last days of a year's periods. -/
def endsL (c : Cal) (y : Int) : List Int :=
  if c.shape = 4 then sunL y else if c.shape = 5 then monL (startV c y) else (List.range (perV c).toNat).map fun i => wkDay c y (i + 1) - 1
def EndsPost (c : Cal) (y : Int) (w : World) (e : Ending) (w' : World) : Prop :=
  ∃ g, w.heap.size ≤ g ∧ e = .returned (.tuple #[.slice (some ⟨g, 0, none⟩) (endsL c y).length (endsL c y).length, .int .i64 0]) ∧ IntsAt w' g (endsL c y) ∧ Below w.heap.size w w'

theorem ok_shape {c : Cal} (h : c.Ok) : (c.kind = 4 ↔ c.shape = 4) ∧ (c.kind = 6 ↔ c.shape = 5) ∧ 1 ≤ c.shape ∧ c.shape ≤ 5 := by
  obtain ⟨_, _, _, hr⟩ := h
  unfold Cal.ruled Cal.weeks weeksP at hr
  omega

set_option maxRecDepth 100000 in
set_option maxHeartbeats 1600000 in
theorem ends_no (c : Cal) (y : Int) (w : World) (hn : c.name.size ≤ 1000) (hE : ¬ askE c y 1601 = 0) :
    Calls Tryz.prog 50 #[calV c, .int .i64 y] w fun e w' => e = .returned (.tuple #[.slice none 0 0, .int .i64 (askE c y 1601)]) ∧ Below w.heap.size w w' := by
  have hE' : (askE c y 1601 != 0) = true := by simpa using hE
  clear hE
  simp only [calV]
  go_enter Tryz.func50, Tryz.ntmps50
  go_wp2_with fail
  refine (start_any c _ _ hn).mono ?_
  rintro e w1 ⟨rfl, hb1⟩
  go_wp2
  go_ret2
  exact ⟨rfl, by refine Below.alloc (((Below.refl _ _).alloc (Nat.le_refl _) _).trans (hb1.mono (by simp))) ?_ _; have := hb1.size; simp at this; omega⟩

set_option maxRecDepth 100000 in
set_option maxHeartbeats 1600000 in
theorem ends_broad (c : Cal) (y : Int) (w : World) (hn : c.name.size ≤ 1000) (hE : askE c y 1601 = 0) (hs : c.shape = 4) :
    Calls Tryz.prog 50 #[calV c, .int .i64 y] w (EndsPost c y w) := by
  have HL := hide (show endsL c y = sunL y by simp [endsL, hs])
  obtain ⟨hok, hy1, hy2⟩ := ask_ok hE
  have hs' : (c.shape == 4) = true := by simp [hs]
  have H2 := hide hE
  clear hE hs hok
  simp only [calV]
  go_enter Tryz.func50, Tryz.ntmps50
  go_wp2_with fail
  refine (start_any c _ _ hn).mono ?_
  rintro e w1 ⟨rfl, hb1⟩
  have hz1 : w.heap.size < w1.heap.size := by have := hb1.size; simp at this; omega
  have HB1 := hide (Below.trans ((Below.refl _ _).alloc (Nat.le_refl _) _) (hb1.mono (by simp)) : Below w.heap.size w w1)
  have HQ := hide (calAt_below hb1 (by simp) (calAt_new w c))
  obtain ⟨q0, q1, q2, q3, q4, q5, q6, q7, q8, q9, q10, q11, q12, q13⟩ := HQ.out
  clear hb1
  rw [H2.out]
  go_wp2_with fail
  refine (sundays_any y _ (by omega) (by omega)).mono ?_
  rintro e w2 ⟨g, hg, rfl, hI, hb2⟩
  clear q0 q1 q2 q3 q4 q5 q6 q7 q8 q9 q10 q11 q12 q13
  go_wp2
  go_ret2
  refine ⟨g, ?_, ?_, by rw [HL.out]; exact hI, (HB1.out.alloc (Nat.le_of_lt hz1) _).trans (hb2.mono (by simp; omega))⟩
  · simp at hg; omega
  · rw [HL.out]; simp [sunL]

set_option maxRecDepth 100000 in
set_option maxHeartbeats 1600000 in
theorem ends_month (c : Cal) (y : Int) (w : World) (hn : c.name.size ≤ 1000) (hE : askE c y 1601 = 0) (hs : c.shape = 5) :
    Calls Tryz.prog 50 #[calV c, .int .i64 y] w (EndsPost c y w) := by
  have HL := hide (show endsL c y = monL (startV c y) by simp [endsL, hs])
  obtain ⟨hok, hy1, hy2⟩ := ask_ok hE
  have hs' : (c.shape == 5) = true := by simp [hs]
  have hs4 : (c.shape == 4) = false := by simp [hs]
  have hst : 0 ≤ startV c y ∧ startV c y + 400 < 3068037 := by
    obtain ⟨hm, hsh, hk, hd⟩ := ok_rule hok
    have t1 := ask_there1 hE
    have b0 := fin_bd c (y - 1 + c.shift) hok t1 (by omega)
    have e0 : startV c y = finV c (y - 1 + c.shift) + 1 := by simp [startV, hE]
    have hk6 : c.kind = 6 := (ok_shape hok).2.1.2 hs
    have e1 : finV c (y - 1 + c.shift) = endN (y - 1 + c.shift) c.month := by simp [finV, hk6]
    have h3 : thereB (y - 1 + c.shift + 1) c.month = true := by simp [thereB]; omega
    have h4 := endN_next (y - 1 + c.shift) c.month t1 (by omega)
    have h5 := end_hi (y - 1 + c.shift + 1) c.month h3 (by omega)
    omega
  have H2 := hide hE
  clear hE hs hok
  simp only [calV]
  go_enter Tryz.func50, Tryz.ntmps50
  go_wp2_with fail
  refine (start_any c _ _ hn).mono ?_
  rintro e w1 ⟨rfl, hb1⟩
  have hz1 : w.heap.size < w1.heap.size := by have := hb1.size; simp at this; omega
  have HB1 := hide (Below.trans ((Below.refl _ _).alloc (Nat.le_refl _) _) (hb1.mono (by simp)) : Below w.heap.size w w1)
  have HQ := hide (calAt_below hb1 (by simp) (calAt_new w c))
  obtain ⟨q0, q1, q2, q3, q4, q5, q6, q7, q8, q9, q10, q11, q12, q13⟩ := HQ.out
  clear hb1
  rw [H2.out]
  go_wp2_with fail
  refine (months_any (startV c y) _ (by omega) (by omega)).mono ?_
  rintro e w2 ⟨g, hg, rfl, hI, hb2⟩
  clear q0 q1 q2 q3 q4 q5 q6 q7 q8 q9 q10 q11 q12 q13
  go_wp2
  go_ret2
  refine ⟨g, ?_, ?_, by rw [HL.out]; exact hI, (HB1.out.alloc (Nat.le_of_lt hz1) _).trans (hb2.mono (by simp; omega))⟩
  · simp at hg; omega
  · rw [HL.out]; simp [monL]
end Go.Proofs.YtjhhmeoibfdcmaaGreatDoor

namespace Go.Proofs.YtjhhmeoibfdcmaaGreatDoor
open Go.RowKit Go.Shelf Qd
set_option linter.unusedSimpArgs false
set_option linter.unusedVariables false
attribute [local go_sem] Oper.semAt_some

theorem week_cal {c : Cal} (h : c.Ok) (h4 : ¬ c.shape = 4) (h5 : ¬ c.shape = 5) : WeekCal c := by
  obtain ⟨_, _, _, hr⟩ := h
  unfold Cal.ruled Cal.weeks weeksP Cal.pat0 at hr
  unfold WeekCal Go.Proofs.YtjhhmeoibfdcmaaGreatDoor.pat0 pat1 pat2
  split <;> (try split) <;> omega

/-- What the loop holds: the day, and the list so far. -/
def stP {n : Nat} (d0 : Int) (pre : List (PW n)) : Int × List Int := pre.foldl (fun s x => (s.1 + 7 * x.1.2, s.2.set x.1.1 (s.1 + 7 * x.1.2 - 1))) (d0, List.replicate n 0)
theorem stP_snoc {n : Nat} (d0 : Int) (pre : List (PW n)) (x : PW n) : stP d0 (pre ++ [x]) = ((stP d0 pre).1 + 7 * x.1.2, (stP d0 pre).2.set x.1.1 ((stP d0 pre).1 + 7 * x.1.2 - 1)) := by simp [stP]
theorem stP_len {n : Nat} (d0 : Int) (pre : List (PW n)) : (stP d0 pre).2.length = n := by
  unfold stP
  have : ∀ (l : List (PW n)) (s : Int × List Int), (l.foldl (fun s x => (s.1 + 7 * x.1.2, s.2.set x.1.1 (s.1 + 7 * x.1.2 - 1))) s).2.length = s.2.length := by
    intro l
    induction l with
    | nil => intro s; rfl
    | cons a l ih => intro s; rw [List.foldl_cons, ih]; simp
  rw [this]
  simp
theorem stP_bd {n : Nat} (d0 : Int) (pre : List (PW n)) : d0 ≤ (stP d0 pre).1 ∧ (stP d0 pre).1 ≤ d0 + 700 * pre.length := by
  unfold stP
  have : ∀ (l : List (PW n)) (s : Int × List Int), s.1 ≤ (l.foldl (fun s x => (s.1 + 7 * x.1.2, s.2.set x.1.1 (s.1 + 7 * x.1.2 - 1))) s).1 ∧ (l.foldl (fun s x => (s.1 + 7 * x.1.2, s.2.set x.1.1 (s.1 + 7 * x.1.2 - 1))) s).1 ≤ s.1 + 700 * l.length := by
    intro l
    induction l with
    | nil => intro s; simp
    | cons a l ih =>
      intro s
      have h := ih (s.1 + 7 * a.1.2, s.2.set a.1.1 (s.1 + 7 * a.1.2 - 1))
      have ha := a.2
      rw [List.foldl_cons]
      simp only [List.length_cons] at h ⊢
      omega
  exact this _ _
theorem stP_upto (c : Cal) (y : Int) (n : Nat) (hn0 : 0 < n) (hw : WeekCal c) (hwk : wksV c y = 52 ∨ wksV c y = 53) (k : Nat) (hk : k ≤ n) :
    stP (startV c y) (upto (mkPW c (wksV c y) n hn0) k) = (wkDay c y k, upTo n k fun i => wkDay c y (i + 1) - 1) := by
  induction k with
  | zero => simp [upto, stP, wkDay, upTo_zero]
  | succ k ih =>
    have hb := lenAt_bd c (wksV c y) k hw hwk
    have e1 : min k (n - 1) = k := by omega
    have e2 : min (max (lenAt c (wksV c y) k) 0) 100 = lenAt c (wksV c y) k := by omega
    rw [upto_succ, stP_snoc, ih (by omega)]
    simp only [mkPW, e1, e2]
    rw [← upTo_set]
    rfl
theorem keepsBut_putObj {A B : Nat} (W : World) (l : Nat) (o o' : Obj) (h : W.heap[l]? = some o) (ho : o.isCells = false) : KeepsBut A B W (W.putObj l o') := by
  have hg := grownBy_putObj' W l o'
  refine ⟨hg.size, fun k cs t z _ _ hk => ?_⟩
  have hlt := (Array.getElem?_eq_some_iff.1 hk).1
  refine (hg.block k hlt (fun e => ?_)).trans hk
  cases e
  rw [h] at hk
  cases hk
  cases ho
theorem keepsBut_set {A B : Nat} (W : World) (p : Addr) (u : Value) (hp : p.block = A ∨ p.block = B) : KeepsBut A B W (W.setCell p u) :=
  ⟨by simp, fun k cs t z h1 h2 hk => (Below.heap_setCell W p u k (by rcases hp with h | h <;> omega)).trans hk⟩
theorem BlkIs.far {w : World} {B : Nat} {cs : Array Value} {t : TypeId} (h : BlkIs w B cs t) {p : Addr} (hp : B ≠ p.block) (u : Value) : BlkIs (w.setCell p u) B cs t := (Below.heap_setCell w p u B hp).trans h
theorem BlkIs.set0 {w : World} {B : Nat} {v : Value} {t : TypeId} (h : BlkIs w B #[v] t) (u : Value) : BlkIs (w.setCell ⟨B, 0, none⟩ u) B #[u] t := by
  unfold BlkIs at h ⊢
  simp [World.setCell, Array.getElem?_modify, h]
theorem blk_own {X Y : World} {row : Option Nat} {B : Nat} {cs : Array Value} {t : TypeId} (h : BlkIs X B cs t) (hg : X.grownBy Y row) (hr : ∀ r, row = some r → ∃ o : Obj, X.heap[r]? = some o ∧ o.isCells = false) : BlkIs Y B cs t := by
  refine (hg.block B h.lt (fun e => ?_)).trans h
  obtain ⟨o, ho, hc⟩ := hr B e.symm
  unfold BlkIs at h
  rw [h] at ho
  cases ho
  cases hc
theorem ints_own {X Y : World} {row : Option Nat} {B : Nat} {xs : List Int} (h : IntsAt X B xs) (hg : X.grownBy Y row) (hr : ∀ r, row = some r → ∃ o : Obj, X.heap[r]? = some o ∧ o.isCells = false) : IntsAt Y B xs := blk_own h hg hr

set_option maxRecDepth 100000 in
set_option maxHeartbeats 4000000 in
theorem ends_weeks (c : Cal) (y : Int) (w : World) (hn : c.name.size ≤ 1000) (hE : askE c y 1601 = 0) (hs4 : ¬ c.shape = 4) (hs5 : ¬ c.shape = 5) :
    Calls Tryz.prog 50 #[calV c, .int .i64 y] w (EndsPost c y w) := by
  obtain ⟨hok, hy1, hy2⟩ := ask_ok hE
  have hok2 : c.okB = true := by simpa [Cal.okB] using hok
  have hk6 : c.kind ≠ 6 := fun e => hs5 ((ok_shape hok).2.1.1 e)
  have hwc := week_cal hok hs4 hs5
  have hdw := days_weeks c y hE hk6
  have hwb : wksB c = true := by simp [wksB, hok2, hk6]
  have hwv : wksV c y = daysV c y / 7 := by simp [wksV, hwb]
  have hwk : wksV c y = 52 ∨ wksV c y = 53 := by omega
  have hwE : wksE c y = 0 := by simp [wksE, hwb, hE]
  have hper := per_bounds c hok2
  have hoE : okE c = 0 := by simp [okE, hok2]
  have hyb := year_bd c y hE
  have HL := hide (show endsL c y = (List.range (perV c).toNat).map fun i => wkDay c y (i + 1) - 1 by simp [endsL, hs4, hs5])
  have HWC := hide hwc
  have HWK := hide hwk
  have e4 : (c.shape == 4) = false := by simp [hs4]
  have e5 : (c.shape == 5) = false := by simp [hs5]
  have H1 := hide hE
  have H2 := hide hwE
  have H3 := hide hoE
  clear hE hs4 hs5 hok hok2 hk6 hwc hdw hwb hwv hwk hwE hoE
  obtain ⟨n, hnp⟩ : ∃ n : Nat, (n : Int) = perV c := ⟨(perV c).toNat, by omega⟩
  have HN := hide hnp
  have hn52 : 12 ≤ n ∧ n ≤ 52 := by omega
  have hmk := fun W => make_ints n (by omega) W
  clear hnp
  simp only [calV]
  refine (callsIn_wide (n := 5)).1 ?_
  refine callsIn_of_wp_marks Tryz.func50 rfl trivial ?_ rfl
  simp only [Tryz.ntmps50, List.size_toArray, List.length_cons, List.length_nil, Nat.reduceAdd, Nat.reduceSub, Array.replicate_succ, Array.replicate_zero, List.push_toArray, List.append_toArray, List.nil_append, List.cons_append]
  gi_wp2_with fail
  refine ⟨trivial, (callsIn_wide.2 (start_any c _ _ hn)).mono ?_⟩
  rintro e w1 ⟨rfl, hb1⟩
  have hz1 : w.heap.size < w1.heap.size := by have := hb1.size; simp at this; omega
  have HB1 := hide (Below.trans ((Below.refl _ _).alloc (Nat.le_refl _) _) (hb1.mono (by simp)) : Below w.heap.size w w1)
  have HQ := hide (calAt_below hb1 (by simp) (calAt_new w c))
  obtain ⟨q0, q1, q2, q3, q4, q5, q6, q7, q8, q9, q10, q11, q12, q13⟩ := HQ.out
  clear hb1
  rw [H1.out]
  gi_wp2_with fail
  refine ⟨trivial, (callsIn_wide.2 (aweeks_any c _ _ hn)).mono ?_⟩
  rintro e w2 ⟨rfl, hb2⟩
  clear q0 q1 q2 q3 q4 q5 q6 q7 q8 q9 q10 q11 q12 q13
  have HQ2 := hide (calAt_below hb2 (by simp; omega) (calAt_alloc HQ.out hz1 _))
  obtain ⟨q0, q1, q2, q3, q4, q5, q6, q7, q8, q9, q10, q11, q12, q13⟩ := HQ2.out
  rw [H2.out]
  gi_wp2_with fail
  refine ⟨trivial, (callsIn_wide.2 (periods_any c _ hn)).mono ?_⟩
  rintro e w3 ⟨rfl, hb3⟩
  clear q0 q1 q2 q3 q4 q5 q6 q7 q8 q9 q10 q11 q12 q13
  have hz2 : w1.heap.size + 1 ≤ w2.heap.size := by have := hb2.size; simp at this; omega
  have HQ3 := hide (calAt_below hb3 (by omega) HQ2.out)
  have hdayB : BlkIs w3 w1.heap.size #[.int .i64 (startV c y)] 3 := ((BlkIs.new w1 #[.int .i64 (startV c y)] 3).call hb2).call hb3
  have hz3 : w2.heap.size ≤ w3.heap.size := hb3.size
  have hz4 : w.heap.size < w3.heap.size := by omega
  obtain ⟨q0, q1, q2, q3, q4, q5, q6, q7, q8, q9, q10, q11, q12, q13⟩ := HQ3.out
  rw [H3.out, ← HN.out]
  gi_wp2_with fail
  refine ⟨trivial, (lengths_any _ c _ _ _).mono ?_⟩
  rintro e w5 ⟨rfl, rfl⟩
  clear q0 q1 q2 q3 q4 q5 q6 q7 q8 q9 q10 q11 q12 q13
  gi_wp2_with fail
  have hn0 : 0 < n := by omega
  obtain ⟨W5, hW5⟩ : ∃ W5 : World, W5 = ((((w3.alloc (zeroObj n)).alloc (.cells #[.slice (some ⟨w3.heap.size, 0, none⟩) n n] 65)).alloc (.cells (calCs c) 24)).alloc (.cells #[.int .i64 (n : Int)] 3)).alloc (.cells #[.int .i64 (wksV c y)] 3) := ⟨_, rfl⟩
  have hsz : W5.heap.size = w3.heap.size + 5 := by rw [hW5]; simp
  have s0 : BlkIs W5 (w3.heap.size + 2) (calCs c) 24 := by
    rw [hW5]
    have := ((BlkIs.new ((w3.alloc (zeroObj n)).alloc (.cells #[.slice (some ⟨w3.heap.size, 0, none⟩) n n] 65)) (calCs c) 24).alloc (.cells #[.int .i64 (n : Int)] 3)).alloc (.cells #[.int .i64 (wksV c y)] 3)
    simpa using this
  have s1 : BlkIs W5 (w3.heap.size + 3) #[.int .i64 (n : Int)] 3 := by
    rw [hW5]
    have := (BlkIs.new (((w3.alloc (zeroObj n)).alloc (.cells #[.slice (some ⟨w3.heap.size, 0, none⟩) n n] 65)).alloc (.cells (calCs c) 24)) #[.int .i64 (n : Int)] 3).alloc (.cells #[.int .i64 (wksV c y)] 3)
    simpa using this
  have s2 : BlkIs W5 (w3.heap.size + 4) #[.int .i64 (wksV c y)] 3 := by
    rw [hW5]
    have := BlkIs.new ((((w3.alloc (zeroObj n)).alloc (.cells #[.slice (some ⟨w3.heap.size, 0, none⟩) n n] 65)).alloc (.cells (calCs c) 24)).alloc (.cells #[.int .i64 (n : Int)] 3)) #[.int .i64 (wksV c y)] 3
    simpa using this
  have s3 : BlkIs W5 (w3.heap.size + 1) #[.slice (some ⟨w3.heap.size, 0, none⟩) n n] 65 := by
    rw [hW5]
    have := (((BlkIs.new (w3.alloc (zeroObj n)) #[.slice (some ⟨w3.heap.size, 0, none⟩) n n] 65).alloc (.cells (calCs c) 24)).alloc (.cells #[.int .i64 (n : Int)] 3)).alloc (.cells #[.int .i64 (wksV c y)] 3)
    simpa using this
  have s4 : IntsAt W5 w3.heap.size (List.replicate n 0) := by
    rw [hW5]
    exact ((((IntsAt.new w3 n).alloc _).alloc _).alloc _).alloc _
  have s5 : BlkIs W5 w1.heap.size #[.int .i64 (startV c y)] 3 := by
    rw [hW5]
    exact ((((hdayB.alloc _).alloc _).alloc _).alloc _).alloc _
  have hBW : Below w.heap.size w W5 := by
    have b1 : Below w.heap.size w w2 := (HB1.out.alloc (Nat.le_of_lt hz1) _).trans (hb2.mono (by simp; omega))
    have b2 : Below w.heap.size w w3 := b1.trans (hb3.mono (by omega))
    rw [hW5]
    refine Below.alloc (Below.alloc (Below.alloc (Below.alloc (Below.alloc b2 ?_ _) ?_ _) ?_ _) ?_ _) ?_ _ <;> first | omega | (simp; omega)
  rw [← hW5]
  have hl1 : w1.heap.size < w3.heap.size := by omega
  clear hdayB hb2 hb3 hW5
  refine wpIn_rangeFunc_ownF (α := PW n) rfl (by omega) (gf := 102) (lb := #[.pointer (some ⟨w3.heap.size + 2, 0, none⟩), .pointer (some ⟨w3.heap.size + 3, 0, none⟩), .pointer (some ⟨w3.heap.size + 4, 0, none⟩)]) rfl trivial (enters_of Tryz.func102 (by kernel_rfl) rfl)
    (lengths_stops c n (wksV c y) HWC.out HWK.out (by omega) hn0 (w3.heap.size + 2) (w3.heap.size + 3) (w3.heap.size + 4) w1.heap.size w3.heap.size W5 s0 s1 s2 (by omega) (by omega) (by omega) (by omega) (by omega))
    keepsBut_trans (fun W l o o' _ h1 h2 _ => keepsBut_putObj W l o o' h1 h2) (Below.refl _ _) (fun _ => rfl)
    (fun pre W => (BlkIs W w1.heap.size #[.int .i64 (stP (startV c y) pre).1] 3 ∧ BlkIs W (w3.heap.size + 1) #[.slice (some ⟨w3.heap.size, 0, none⟩) n n] 65 ∧ IntsAt W w3.heap.size (stP (startV c y) pre).2) ∧ Below w.heap.size w W)
    (fun _ _ _ => False)
    (OwnFrom.and (Own.from (fun s A B row hs hg hr => ⟨blk_own hs.1 hg hr, blk_own hs.2.1 hg hr, ints_own hs.2.2 hg hr⟩) _) (ownFrom_below (Nat.le_refl _) (by omega)))
    (fun _ _ _ _ _ hs _ _ => hs)
    ⟨⟨s5, s3, s4⟩, hBW⟩ ?a1 ?assign ?body ?done ?stop
  case assign =>
    intro l x W K hK
    gi_wp2
    exact hK
  case body =>
    rintro l pre x W ⟨⟨u0, u1, u2⟩, hB⟩ hlt
    have hx := x.2
    have hsd := stP_bd (startV c y) pre
    have hln := stP_len (startV c y) pre
    have HSN := hide (stP_snoc (startV c y) pre x)
    have k0 : W.cell? ⟨w1.heap.size, 0, none⟩ = some (.int .i64 (stP (startV c y) pre).1) := u0.cell 0
    have k0f : W.frozen? ⟨w1.heap.size, 0, none⟩ = false := by simp [World.frozen?, show W.heap[w1.heap.size]? = _ from u0]
    have k1 : W.cell? ⟨w3.heap.size + 1, 0, none⟩ = some (.slice (some ⟨w3.heap.size, 0, none⟩) n n) := u1.cell 0
    have k2 := u2.cell (k := x.1.1) (by rw [hln]; exact hx.1)
    have k2f := u2.frozen x.1.1
    have hx1 : (x.1.1 : Int) < (n : Int) := by have := hx.1; omega
    have hx2 := hx.2
    have hne : ¬ w1.heap.size = w3.heap.size := by omega
    have hne2 : ¬ w3.heap.size = w1.heap.size := by omega
    have hne3 : ¬ w3.heap.size + 1 = w1.heap.size := by omega
    have U0 := hide u0
    have U1 := hide u1
    have U2 := hide u2
    clear u0 u1 u2 hln hx
    generalize hg1 : (stP (startV c y) pre).1 = dd at *
    generalize hg2 : (stP (startV c y) pre).2 = ll at *
    have HG := hide (And.intro hg1 hg2)
    clear hg1 hg2
    gi_wp2
    refine ⟨(KeepsOthers.setCell _ _ _).trans (KeepsOthers.setCell _ _ _), keepsBut_trans (keepsBut_set _ _ _ (.inl rfl)) (keepsBut_set _ _ _ (.inr rfl)), ⟨⟨?_, ?_, ?_⟩, ?_⟩⟩
    · rw [HSN.out]; exact (U0.out.set0 _).far (by simp; omega) _
    · exact (U1.out.far (by simp; omega) _).far (by simp) _
    · rw [HSN.out]; exact (U2.out.far (by simp; omega) _).set _ _
    · exact (hB.setCell (by simp; omega) _).setCell (by simp; omega) _
  case done =>
    rintro D xs W hD rfl ⟨⟨u0, u1, u2⟩, hB⟩ hK
    have k1 : W.cell? ⟨w3.heap.size + 1, 0, none⟩ = some (.slice (some ⟨w3.heap.size, 0, none⟩) n n) := u1.cell 0
    have U2 := hide u2
    clear u0 u1 u2
    gi_wp2
    refine ⟨by simp, .inl ⟨_, _, rfl, run_takeDeferred hK, ?_⟩⟩
    have hst := stP_upto c y n hn0 HWC.out HWK.out n (Nat.le_refl _)
    have hI := U2.out
    rw [hst] at hI
    simp only [upTo_full] at hI
    have hEq : endsL c y = (List.range n).map fun i => wkDay c y (i + 1) - 1 := by rw [HL.out, ← HN.out]; simp
    refine ⟨_, results_tmp2 rfl _ _ _, w3.heap.size, by omega, ?_, ?_, ?_⟩
    · rw [hEq]; simp
    · rw [hEq]
      exact ints_own hI (grownBy_putObj' W D _) (fun r e => by cases e; exact ⟨_, hK, rfl⟩)
    · exact hB.trans (belowK_b (w := w) (Nat.le_refl _) W D _ _ (by omega) hK rfl rfl)
  case stop =>
    rintro D cc pre W _ _ h _
    exact h.elim

/-- The first day of the period behind k of them. -/
def fromAt (c : Cal) (y : Int) (k : Nat) : Int := if k = 0 then startV c y else (endsL c y)[k - 1]?.getD 0 + 1
def endAt (c : Cal) (y : Int) (k : Nat) : Int := (endsL c y)[k]?.getD 0

theorem patN_sum (c : Cal) (wk : Int) (y0 : Int) (hx : 1 ≤ c.extra) (f : Nat → Int) (h0 : f 0 = y0) (hs : ∀ k, f (k + 1) = f k + 7 * lenAt c wk k) (k : Nat) :
    f k = y0 + 7 * (((k / 3 : Nat) : Int) * (pat0 c + pat1 c + pat2 c) + (if 1 ≤ k % 3 then pat0 c else 0) + (if 2 ≤ k % 3 then pat1 c else 0)) + 7 * (if c.extra ≤ (k : Int) then wk - 52 else 0) := by
  induction k with
  | zero =>
    rw [h0]
    rw [if_neg (by omega), if_neg (by omega), if_neg (by omega)]
    simp
  | succ k ih =>
    rw [hs, ih]
    have h3 : k % 3 = 0 ∨ k % 3 = 1 ∨ k % 3 = 2 := by omega
    unfold lenAt patN
    have hex : (if c.extra ≤ ((k + 1 : Nat) : Int) then wk - 52 else 0) = (if c.extra ≤ (k : Int) then wk - 52 else 0) + (if (k : Int) + 1 = c.extra then wk - 52 else 0) := by
      split <;> split <;> split <;> omega
    rw [hex]
    rcases h3 with h3 | h3 | h3
    · have e1 : (k + 1) % 3 = 1 := by omega
      have e2 : (k + 1) / 3 = k / 3 := by omega
      simp only [h3, e1, e2]
      simp
      omega
    · have e1 : (k + 1) % 3 = 2 := by omega
      have e2 : (k + 1) / 3 = k / 3 := by omega
      simp only [h3, e1, e2]
      simp
      omega
    · have e1 : (k + 1) % 3 = 0 := by omega
      have e2 : (k + 1) / 3 = k / 3 + 1 := by omega
      simp only [h3, e1, e2]
      simp
      rw [Int.add_mul]
      omega
/-- A year of weeks ends with its last period. -/
theorem wkDay_end (c : Cal) (y : Int) (hE : askE c y 1601 = 0) (h4 : ¬ c.shape = 4) (h5 : ¬ c.shape = 5) : wkDay c y (perV c).toNat = endV c y + 1 := by
  obtain ⟨hok, hy1, hy2⟩ := ask_ok hE
  have hok2 : c.okB = true := by simpa [Cal.okB] using hok
  have hk6 : c.kind ≠ 6 := fun e => h5 ((ok_shape hok).2.1.1 e)
  have hdw := days_weeks c y hE hk6
  have hwb : wksB c = true := by simp [wksB, hok2, hk6]
  have hwv : wksV c y = daysV c y / 7 := by simp [wksV, hwb]
  have hD : daysV c y = endV c y - startV c y + 1 := by simp [daysV, hE]
  have hper : perV c = manyP c.shape c.cycle := by simp [perV, hok2]
  obtain ⟨_, _, _, hr⟩ := hok
  unfold Cal.ruled Cal.weeks weeksP Cal.pat0 at hr
  have hx : 1 ≤ c.extra ∧ c.extra ≤ manyP c.shape c.cycle ∧ ((c.shape = 1 ∧ c.p0 + c.p1 + c.p2 = 13) ∨ c.shape = 2 ∨ (c.shape = 3 ∧ (c.cycle = 1 ∨ c.cycle = 2 ∨ c.cycle = 4))) := by
    have m1 : c.shape = 1 → manyP c.shape c.cycle = 12 := by intro h; simp [manyP, h]
    omega
  obtain ⟨hx1, hx2, hx3⟩ := hx
  have hs := patN_sum c (wksV c y) (startV c y) hx1 (wkDay c y) rfl (fun _ => rfl) (perV c).toNat
  rw [hs, hper]
  rcases hx3 with ⟨hsh, hp⟩ | hsh | ⟨hsh, hcy | hcy | hcy⟩
  · have em : manyP c.shape c.cycle = 12 := by simp [manyP, hsh]
    rw [em] at hx2 ⊢
    rw [if_pos (show c.extra ≤ ((12 : Int).toNat : Int) by simpa using hx2)]
    simp [pat0, pat1, pat2, hsh]
    omega
  · have em : manyP c.shape c.cycle = 13 := by simp [manyP, hsh]
    rw [em] at hx2 ⊢
    rw [if_pos (show c.extra ≤ ((13 : Int).toNat : Int) by simpa using hx2)]
    simp [pat0, pat1, pat2, hsh]
    omega
  · have em : manyP c.shape c.cycle = 52 := by simp [manyP, hsh, hcy]
    rw [em] at hx2 ⊢
    rw [if_pos (show c.extra ≤ ((52 : Int).toNat : Int) by simpa using hx2)]
    simp [pat0, pat1, pat2, hsh, hcy]
    omega
  · have em : manyP c.shape c.cycle = 26 := by simp [manyP, hsh, hcy]
    rw [em] at hx2 ⊢
    rw [if_pos (show c.extra ≤ ((26 : Int).toNat : Int) by simpa using hx2)]
    simp [pat0, pat1, pat2, hsh, hcy]
    omega
  · have em : manyP c.shape c.cycle = 13 := by simp [manyP, hsh, hcy]
    rw [em] at hx2 ⊢
    rw [if_pos (show c.extra ≤ ((13 : Int).toNat : Int) by simpa using hx2)]
    simp [pat0, pat1, pat2, hsh, hcy]
    omega
end Go.Proofs.YtjhhmeoibfdcmaaGreatDoor

namespace Go.Proofs.YtjhhmeoibfdcmaaGreatDoor
open Go.RowKit Qd
set_option linter.unusedSimpArgs false
set_option linter.unusedVariables false

/-- The first day of the t-th month, counted from the year 0. -/
def mFirst (t : Int) : Int := dayN (t / 12) (t % 12 + 1) 1
theorem mFirst_there (t : Int) (h1 : 19200 ≤ t) (h2 : t < 120000) : thereB (t / 12) (t % 12 + 1) = true := by
  simp [thereB]; omega
theorem mFirst_date (t : Int) (h1 : 19200 ≤ t) (h2 : t < 120000) : dateB (t / 12) (t % 12 + 1) 1 = true := by
  have ht := mFirst_there t h1 h2
  have := len_lo _ _ ht
  simp [dateB, ht]
  omega
theorem mFirst_succ (t : Int) (h1 : 19200 ≤ t) (h2 : t + 1 < 120000) : mFirst t + lenV (t / 12) (t % 12 + 1) = mFirst (t + 1) := by
  have ht := mFirst_there t h1 (by omega)
  have hl : lenV (t / 12) (t % 12 + 1) = aheadV (t / 12) (t % 12 + 1 + 1) - aheadV (t / 12) (t % 12 + 1) := by unfold lenV; rw [if_pos ht]
  unfold mFirst dayN
  rw [hl]
  by_cases h : t % 12 = 11
  · have e1 : (t + 1) / 12 = t / 12 + 1 := by omega
    have e2 : (t + 1) % 12 = 0 := by omega
    rw [e1, e2, h]
    have hs := years_succ (t / 12) (by omega) (by omega)
    have h13 := ahead_13 (t / 12)
    have ha := ahead_1 (t / 12 + 1)
    have e3 : (11 : Int) + 1 + 1 = 13 := by decide
    have e4 : (0 : Int) + 1 = 1 := by decide
    rw [e3, e4, h13, ha]
    omega
  · have e1 : (t + 1) / 12 = t / 12 := by omega
    have e2 : (t + 1) % 12 = t % 12 + 1 := by omega
    rw [e1, e2]
    omega
theorem endN_mFirst (t : Int) (h1 : 19200 ≤ t) (h2 : t + 1 < 120000) : endN (t / 12) (t % 12 + 1) + 1 = mFirst (t + 1) := by
  rw [← mFirst_succ t h1 h2]
  unfold endN mFirst dayN
  omega
theorem of_mFirst (t : Int) (h1 : 19200 ≤ t) (h2 : t < 120000) : ofY (mFirst t) = t / 12 ∧ ofM (mFirst t) = t % 12 + 1 := by
  have := of_dayN (mFirst_date t h1 h2)
  exact ⟨this.1, this.2.1⟩
theorem monS_mFirst (t : Int) (h1 : 19200 ≤ t) (k : Nat) (h2 : t + k < 120000) : monS (mFirst t) k = mFirst (t + k) := by
  induction k with
  | zero => simp [monS]
  | succ k ih =>
    have := of_mFirst (t + k) (by omega) (by omega)
    unfold monS
    rw [ih (by omega), this.1, this.2, mFirst_succ (t + k) (by omega) (by omega)]
    congr 1
    omega
/-- The month behind which a year by months begins, counted from the year 0. -/
def mOf (c : Cal) (y : Int) : Int := (y - 1 + c.shift) * 12 + c.month
theorem start_mFirst (c : Cal) (y : Int) (hE : askE c y 1601 = 0) (hk6 : c.kind = 6) : startV c y = mFirst (mOf c y) := by
  obtain ⟨hok, hy1, hy2⟩ := ask_ok hE
  obtain ⟨hm, hs, hk, hd⟩ := ok_rule hok
  have e : startV c y = endN (y - 1 + c.shift) c.month + 1 := by simp [startV, hE, finV, hk6]
  have e2 := endN_mFirst (mOf c y - 1) (by unfold mOf; omega) (by unfold mOf; omega)
  have d1 : (mOf c y - 1) / 12 = y - 1 + c.shift := by unfold mOf; omega
  have d2 : (mOf c y - 1) % 12 + 1 = c.month := by unfold mOf; omega
  rw [d1, d2] at e2
  rw [e, e2]
  congr 1
  omega
theorem end_mFirst (c : Cal) (y : Int) (hE : askE c y 1600 = 0) (hk6 : c.kind = 6) : endV c y = mFirst (mOf c y + 12) - 1 := by
  obtain ⟨hok, hy1, hy2⟩ := ask_ok hE
  obtain ⟨hm, hs, hk, hd⟩ := ok_rule hok
  have e : endV c y = endN (y + c.shift) c.month := by simp [endV, hE, finV, hk6]
  have e2 := endN_mFirst (mOf c y + 11) (by unfold mOf; omega) (by unfold mOf; omega)
  have d1 : (mOf c y + 11) / 12 = y + c.shift := by unfold mOf; omega
  have d2 : (mOf c y + 11) % 12 + 1 = c.month := by unfold mOf; omega
  rw [d1, d2] at e2
  have e3 : mOf c y + 11 + 1 = mOf c y + 12 := by omega
  rw [e3] at e2
  omega

/-- The last Sunday of a month, as a day. -/
theorem last_eq (y m : Int) (h : thereB y m = true) : lastV y m 7 = endN y m - endW y m % 7 := by
  have hw : wkE y m 7 = 0 := by simp [wkE, h]
  simp [lastV, hw]
theorem last_next (y m : Int) (h1 : 1600 ≤ y) (h2 : y ≤ 9999) (h3 : 1 ≤ m) (h4 : m ≤ 11) :
    (lastV y (m + 1) 7 - lastV y m 7) % 7 = 0 ∧ 28 ≤ lastV y (m + 1) 7 - lastV y m 7 ∧ lastV y (m + 1) 7 - lastV y m 7 ≤ 35 := by
  have t1 : thereB y m = true := by simp [thereB]; omega
  have t2 : thereB y (m + 1) = true := by simp [thereB]; omega
  rw [last_eq y m t1, last_eq y (m + 1) t2]
  have l2 := len_lo y (m + 1) t2
  have l3 := len_bd y (m + 1)
  have hl : lenV y (m + 1) = aheadV y (m + 1 + 1) - aheadV y (m + 1) := by unfold lenV; rw [if_pos t2]
  have e1 := endN_eq y m t1
  have e2 := endN_eq y (m + 1) t2
  unfold endW
  omega
theorem last_year (y : Int) (h1 : 1600 ≤ y) (h2 : y ≤ 9998) :
    (lastV (y + 1) 1 7 - lastV y 12 7) % 7 = 0 ∧ 28 ≤ lastV (y + 1) 1 7 - lastV y 12 7 ∧ lastV (y + 1) 1 7 - lastV y 12 7 ≤ 35 := by
  have t1 : thereB y 12 = true := by simp [thereB]; omega
  have t2 : thereB (y + 1) 1 = true := by simp [thereB]; omega
  rw [last_eq y 12 t1, last_eq (y + 1) 1 t2]
  have e1 := endN_eq y 12 t1
  have e2 := endN_eq (y + 1) 1 t2
  have hs := years_succ y (by omega) (by omega)
  have h13 := ahead_13 y
  have a2 : aheadV (y + 1) (1 + 1) = 31 := by simp [aheadV, tabV]
  have e3 : (12 : Int) + 1 = 13 := by decide
  rw [e3, h13] at e1
  rw [a2] at e2
  unfold endW
  omega

theorem sun_len (y : Int) : (sunL y).length = 12 := by simp [sunL]
theorem mon_len (d : Int) : (monL d).length = 12 := by simp [monL]
theorem ends_len (c : Cal) (y : Int) (hok : c.okB = true) : ((endsL c y).length : Int) = perV c := by
  have hper : perV c = manyP c.shape c.cycle := by simp [perV, hok]
  unfold endsL
  split
  · rename_i h; rw [sun_len, hper]; simp [manyP, h]
  · split
    · rename_i h; rw [mon_len, hper]; simp [manyP, h]
    · have := per_bounds c hok
      simp
      omega
theorem from_succ (c : Cal) (y : Int) (k : Nat) : fromAt c y (k + 1) = endAt c y k + 1 := by
  unfold fromAt endAt
  rw [if_neg (by omega)]
  simp
theorem period_1 (c : Cal) (y : Int) (hE : askE c y 1601 = 0) (k : Nat) (hk : k < (endsL c y).length) :
    7 ≤ endAt c y k - fromAt c y k + 1 ∧ endAt c y k - fromAt c y k + 1 ≤ 42 ∧ (c.kind ≠ 6 → (endAt c y k - fromAt c y k + 1) % 7 = 0) := by
  obtain ⟨hok, hy1, hy2⟩ := ask_ok hE
  have hok2 : c.okB = true := by simpa [Cal.okB] using hok
  have hlen := ends_len c y hok2
  obtain ⟨s4, s6, _, _⟩ := ok_shape hok
  by_cases h4 : c.shape = 4
  · have hk4 : c.kind = 4 := s4.2 h4
    have eL : endsL c y = sunL y := by simp [endsL, h4]
    rw [eL, sun_len] at hk
    have eA : endAt c y k = lastV y ((k : Int) + 1) 7 := by unfold endAt; rw [eL]; simp [sunL, sunF, hk]
    have eF : fromAt c y k = (if k = 0 then lastV (y - 1) 12 7 else lastV y (k : Int) 7) + 1 := by
      unfold fromAt
      split
      · obtain ⟨_, _, _, hr⟩ := hok
        unfold Cal.ruled Cal.weeks weeksP Cal.pat0 at hr
        have hm : c.month = 12 ∧ c.day = 7 ∧ c.shift = 0 := by omega
        have ht : thereB (y - 1) 12 = true := by simp [thereB]; omega
        have e1 : y - 1 + c.shift = y - 1 := by omega
        rw [last_eq (y - 1) 12 ht]
        simp [startV, hE, finV, hk4, e1, hm.1, hm.2.1]
      · rename_i h0
        rw [eL]
        have e1 : ((k - 1 : Nat) : Int) + 1 = k := by omega
        simp [sunL, sunF, show k - 1 < 12 by omega, e1]
    rw [eA, eF]
    split
    · rename_i h0
      subst h0
      have := last_year (y - 1) (by omega) (by omega)
      have e1 : y - 1 + 1 = y := by omega
      rw [e1] at this
      simp
      omega
    · have := last_next y k (by omega) (by omega) (by omega) (by omega)
      omega
  · by_cases h5 : c.shape = 5
    · have hk6 : c.kind = 6 := s6.2 h5
      obtain ⟨hm, hs, _, _⟩ := ok_rule hok
      have eL : endsL c y = monL (startV c y) := by simp [endsL, h5]
      rw [eL, mon_len] at hk
      have b1 : 19200 ≤ mOf c y ∧ mOf c y + 12 < 120000 := by unfold mOf; omega
      have eA : ∀ j : Nat, j < 12 → endAt c y j = mFirst (mOf c y + j + 1) - 1 := by
        intro j hj
        unfold endAt
        rw [eL, start_mFirst c y hE hk6]
        have := monS_mFirst (mOf c y) b1.1 (j + 1) (by omega)
        simp [monL, monF, hj, this]
        congr 1
        omega
      have eF : fromAt c y k = mFirst (mOf c y + k) := by
        cases k with
        | zero => simp [fromAt, start_mFirst c y hE hk6]
        | succ k =>
          rw [from_succ, eA k (by omega)]
          have e1 : mOf c y + ((k + 1 : Nat) : Int) = mOf c y + k + 1 := by omega
          rw [e1]
          omega
      have hs2 := mFirst_succ (mOf c y + k) (by omega) (by omega)
      have ht := mFirst_there (mOf c y + k) (by omega) (by omega)
      have l1 := len_lo _ _ ht
      have l2 := len_bd ((mOf c y + k) / 12) ((mOf c y + k) % 12 + 1)
      rw [eA k hk, eF, ← hs2]
      exact ⟨by omega, by omega, fun h => absurd hk6 h⟩
    · have hk6 : c.kind ≠ 6 := fun e => h5 (s6.1 e)
      have eL : endsL c y = (List.range (perV c).toNat).map fun i => wkDay c y (i + 1) - 1 := by simp [endsL, h4, h5]
      have hwc := week_cal hok h4 h5
      have hdw := days_weeks c y hE hk6
      have hwv : wksV c y = daysV c y / 7 := by simp [wksV, wksB, hok2, hk6]
      have hwk : wksV c y = 52 ∨ wksV c y = 53 := by omega
      have hlb := lenAt_bd c (wksV c y) k hwc hwk
      rw [eL] at hk
      simp at hk
      have eA : ∀ j : Nat, (j : Int) < perV c → endAt c y j = wkDay c y (j + 1) - 1 := by
        intro j hj
        unfold endAt
        rw [eL]
        simp [hj]
      have eF : fromAt c y k = wkDay c y k := by
        cases k with
        | zero => simp [fromAt, wkDay]
        | succ k => rw [from_succ, eA k (by omega)]; omega
      have hst : wkDay c y (k + 1) = wkDay c y k + 7 * lenAt c (wksV c y) k := rfl
      rw [eA k hk, eF, hst]
      exact ⟨by omega, by omega, fun _ => by omega⟩
theorem from_bd (c : Cal) (y : Int) (hE : askE c y 1601 = 0) (k : Nat) (hk : k ≤ (endsL c y).length) : startV c y ≤ fromAt c y k ∧ fromAt c y k ≤ startV c y + 42 * k := by
  induction k with
  | zero => simp [fromAt]
  | succ k ih =>
    have h1 := ih (by omega)
    have h2 := period_1 c y hE k (by omega)
    rw [from_succ]
    omega

theorem ends_any (c : Cal) (y : Int) (w : World) (hn : c.name.size ≤ 1000) (hE : askE c y 1601 = 0) : Calls Tryz.prog 50 #[calV c, .int .i64 y] w (EndsPost c y w) := by
  by_cases h4 : c.shape = 4
  · exact ends_broad c y w hn hE h4
  · by_cases h5 : c.shape = 5
    · exact ends_month c y w hn hE h5
    · exact ends_weeks c y w hn hE h4 h5

/-- How many weeks the period behind k of them has. -/
def wkAt (c : Cal) (y : Int) (k : Nat) : Int := (endAt c y k - fromAt c y k) / 7 + 1
def weeksL (c : Cal) (y : Int) : List Int := (List.range (endsL c y).length).map (wkAt c y)
theorem weeks_len (c : Cal) (y : Int) : (weeksL c y).length = (endsL c y).length := by simp [weeksL]
def WeeksPost (c : Cal) (y : Int) (w : World) (e : Ending) (w' : World) : Prop :=
  ∃ g, w.heap.size ≤ g ∧ e = .returned (.tuple #[.slice (some ⟨g, 0, none⟩) (endsL c y).length (endsL c y).length, .int .i64 0]) ∧ IntsAt w' g (weeksL c y) ∧ Below w.heap.size w w'

/-- k of one list, the rest of another one. -/
def mixL (A B : List Int) (k : Nat) : List Int := A.take k ++ B.drop k
theorem mix_zero (A B : List Int) : mixL A B 0 = B := by simp [mixL]
theorem mix_len (A B : List Int) (k : Nat) (h : A.length = B.length) (hk : k ≤ B.length) : (mixL A B k).length = B.length := by simp [mixL]; omega
theorem mix_get (A B : List Int) (k : Nat) (h : A.length = B.length) (hk : k < B.length) : (mixL A B k)[k]?.getD 0 = B[k]?.getD 0 := by
  unfold mixL
  rw [List.getElem?_append_right (by simp; omega)]
  simp [h, Nat.min_eq_left (Nat.le_of_lt hk)]
theorem mix_set (A B : List Int) (k : Nat) (h : A.length = B.length) (hk : k < B.length) : (mixL A B k).set k (A[k]?.getD 0) = mixL A B (k + 1) := by
  unfold mixL
  have h1 : (A.take k).length = k := by simp; omega
  rw [List.set_append_right _ _ (by omega), h1, Nat.sub_self]
  have h2 : B.drop k = B[k] :: B.drop (k + 1) := List.drop_eq_getElem_cons hk
  rw [h2, List.set_cons_zero, List.take_succ_eq_append_getElem (by omega), List.append_assoc]
  congr 1
  simp [show k < A.length by omega]
theorem mix_full (A B : List Int) (h : A.length = B.length) : mixL A B B.length = A := by simp [mixL, ← h]

theorem month_end (c : Cal) (y : Int) (hE : askE c y 1601 = 0) (hk6 : c.kind = 6) (j : Nat) (hj : j < 12) : endAt c y j = mFirst (mOf c y + j + 1) - 1 := by
  obtain ⟨hok, hy1, hy2⟩ := ask_ok hE
  obtain ⟨hm, hs, _, _⟩ := ok_rule hok
  have h5 := (ok_shape hok).2.1.1 hk6
  have eL : endsL c y = monL (startV c y) := by simp [endsL, h5]
  have b1 : 19200 ≤ mOf c y ∧ mOf c y + 12 < 120000 := by unfold mOf; omega
  unfold endAt
  rw [eL, start_mFirst c y hE hk6]
  have := monS_mFirst (mOf c y) b1.1 (j + 1) (by omega)
  simp [monL, monF, hj, this]
  congr 1
  omega
theorem month_from (c : Cal) (y : Int) (hE : askE c y 1601 = 0) (hk6 : c.kind = 6) (k : Nat) (hk : k < 12) : fromAt c y k = mFirst (mOf c y + k) := by
  cases k with
  | zero => simp [fromAt, start_mFirst c y hE hk6]
  | succ k =>
    rw [from_succ, month_end c y hE hk6 k (by omega)]
    have e1 : mOf c y + ((k + 1 : Nat) : Int) = mOf c y + k + 1 := by omega
    rw [e1]
    omega
/-- The date of a month's last day; how many weeks the month has. -/
theorem month_date (c : Cal) (y : Int) (hE : askE c y 1601 = 0) (hk6 : c.kind = 6) (k : Nat) (hk : k < 12) :
    isB (endAt c y k) = true ∧ ofY (endAt c y k) = (mOf c y + k) / 12 ∧ ofM (endAt c y k) = (c.month + k) % 12 + 1 ∧
    thereB (ofY (endAt c y k)) (ofM (endAt c y k)) = true ∧ ofD (endAt c y k) = lenV (ofY (endAt c y k)) (ofM (endAt c y k)) ∧ wkAt c y k = (lenV (ofY (endAt c y k)) (ofM (endAt c y k)) + 6) / 7 := by
  obtain ⟨hok, hy1, hy2⟩ := ask_ok hE
  obtain ⟨hm, hs, _, _⟩ := ok_rule hok
  have b1 : 19200 ≤ mOf c y ∧ mOf c y + 12 < 120000 := by unfold mOf; omega
  have ht := mFirst_there (mOf c y + k) (by omega) (by omega)
  have e1 := month_end c y hE hk6 k hk
  have e2 := mFirst_succ (mOf c y + k) (by omega) (by omega)
  have ed : endAt c y k = dayN ((mOf c y + k) / 12) ((mOf c y + k) % 12 + 1) (lenV ((mOf c y + k) / 12) ((mOf c y + k) % 12 + 1)) := by
    rw [e1, ← e2]
    unfold mFirst dayN
    omega
  have hd := end_date _ _ ht
  have ho := of_dayN hd
  have hb := dayN_bd hd
  have ew : wkAt c y k = (lenV ((mOf c y + k) / 12) ((mOf c y + k) % 12 + 1) - 1) / 7 + 1 := by
    unfold wkAt
    rw [month_from c y hE hk6 k hk, e1, ← e2]
    congr 2
    omega
  have em : (mOf c y + k) % 12 = (c.month + k) % 12 := by unfold mOf; omega
  rw [ed, ho.1, ho.2.1, ho.2.2]
  refine ⟨hb, rfl, by rw [em], ht, rfl, ?_⟩
  rw [ew]
  omega
end Go.Proofs.YtjhhmeoibfdcmaaGreatDoor

namespace Go.Proofs.YtjhhmeoibfdcmaaGreatDoor
open Go.RowKit Qd
set_option linter.unusedSimpArgs false
set_option linter.unusedVariables false

theorem last_end (c : Cal) (y : Int) (hE : askE c y 1601 = 0) : fromAt c y (endsL c y).length = endV c y + 1 ∧ 12 ≤ (endsL c y).length ∧ (endsL c y).length ≤ 52 := by
  obtain ⟨hok, hy1, hy2⟩ := ask_ok hE
  have hok2 : c.okB = true := by simpa [Cal.okB] using hok
  have hlen := ends_len c y hok2
  have hpb := per_bounds c hok2
  obtain ⟨s4, s6, _, _⟩ := ok_shape hok
  refine ⟨?_, by omega, by omega⟩
  by_cases h4 : c.shape = 4
  · have hk4 : c.kind = 4 := s4.2 h4
    have eL : endsL c y = sunL y := by simp [endsL, h4]
    have e12 : (endsL c y).length = 11 + 1 := by rw [eL, sun_len]
    rw [e12, from_succ]
    have eA : endAt c y 11 = lastV y 12 7 := by unfold endAt; rw [eL]; simp [sunL, sunF]
    obtain ⟨_, _, _, hr⟩ := hok
    unfold Cal.ruled Cal.weeks weeksP Cal.pat0 at hr
    have hm : c.month = 12 ∧ c.day = 7 ∧ c.shift = 0 := by omega
    have ht : thereB y 12 = true := by simp [thereB]; omega
    rw [eA, last_eq y 12 ht]
    simp [endV, ask_mono hE, finV, hk4, hm.1, hm.2.1, hm.2.2]
  · by_cases h5 : c.shape = 5
    · have hk6 : c.kind = 6 := s6.2 h5
      have eL : endsL c y = monL (startV c y) := by simp [endsL, h5]
      have e12 : (endsL c y).length = 11 + 1 := by rw [eL, mon_len]
      rw [e12, from_succ, month_end c y hE hk6 11 (by omega), end_mFirst c y (ask_mono hE) hk6]
      congr 3
      omega
    · have eL : endsL c y = (List.range (perV c).toNat).map fun i => wkDay c y (i + 1) - 1 := by simp [endsL, h4, h5]
      have hw := wkDay_end c y hE h4 h5
      obtain ⟨n, hn⟩ : ∃ n : Nat, (perV c).toNat = n + 1 := ⟨(perV c).toNat - 1, by omega⟩
      have e12 : (endsL c y).length = n + 1 := by rw [eL]; simp [hn]
      rw [e12, from_succ]
      rw [hn] at hw
      have eA : endAt c y n = wkDay c y (n + 1) - 1 := by
        unfold endAt
        rw [eL]
        simp [hn]
      rw [eA, hw]
      omega

/-- Spans one behind the other, of seven days at the most, from a day to the one ahead of another one. -/
def Chain : Int → Int → List (Int × Int) → Prop
  | s, e, [] => s = e
  | s, e, x :: l => x.1 = s ∧ x.1 ≤ x.2 ∧ x.2 ≤ x.1 + 6 ∧ Chain (x.2 + 1) e l
theorem chain_append {s m e : Int} {a b : List (Int × Int)} (h : Chain s m a) (h2 : Chain m e b) : Chain s e (a ++ b) := by
  induction a generalizing s with
  | nil => have : s = m := h; rw [this]; exact h2
  | cons x l ih => obtain ⟨h3, h4, h5, h6⟩ := h; exact ⟨h3, h4, h5, ih h6⟩
theorem chain_snoc {s m : Int} {a : List (Int × Int)} (h : Chain s m a) (x : Int × Int) (h1 : x.1 = m) (h2 : x.1 ≤ x.2) (h3 : x.2 ≤ x.1 + 6) : Chain s (x.2 + 1) (a ++ [x]) :=
  chain_append h ⟨h1, h2, h3, rfl⟩
/-- The day behind i of the spans. -/
def dOf (s : Int) (l : List (Int × Int)) (i : Nat) : Int := if i = 0 then s else (l[i - 1]?.getD (0, 0)).2 + 1
theorem dOf_succ (s : Int) (l : List (Int × Int)) (i : Nat) : dOf s l (i + 1) = (l[i]?.getD (0, 0)).2 + 1 := by simp [dOf]
theorem chain_end {s e : Int} {l : List (Int × Int)} (h : Chain s e l) : dOf s l l.length = e := by
  induction l generalizing s with
  | nil => exact h
  | cons x l ih =>
    obtain ⟨h3, h4, h5, h6⟩ := h
    have := ih h6
    rw [List.length_cons, dOf_succ]
    unfold dOf at this
    split at this
    · rename_i h0
      have h7 : l = [] := List.eq_nil_of_length_eq_zero h0
      subst h7
      exact this
    · rename_i h0
      have e1 : (x :: l)[l.length]? = l[l.length - 1]? := by
        obtain ⟨k, hk⟩ : ∃ k, l.length = k + 1 := ⟨l.length - 1, by omega⟩
        rw [hk]; simp
      rw [e1]; exact this
theorem chain_get {s e : Int} {l : List (Int × Int)} (h : Chain s e l) (i : Nat) (hi : i < l.length) :
    l[i]? = some (dOf s l i, dOf s l (i + 1) - 1) ∧ dOf s l i < dOf s l (i + 1) ∧ dOf s l (i + 1) ≤ dOf s l i + 7 := by
  induction l generalizing s i with
  | nil => simp at hi
  | cons x l ih =>
    obtain ⟨h3, h4, h5, h6⟩ := h
    cases i with
    | zero =>
      have e1 : dOf s (x :: l) 0 = x.1 := by simp [dOf, h3]
      have e2 : dOf s (x :: l) (0 + 1) = x.2 + 1 := by simp [dOf]
      rw [e1, e2]
      refine ⟨?_, by omega, by omega⟩
      have : (x.1, x.2 + 1 - 1) = x := by rw [show x.2 + 1 - 1 = x.2 by omega]
      simp [this]
    | succ i =>
      have hi2 : i < l.length := by simpa using hi
      have := ih h6 i hi2
      have e1 : ∀ j, dOf s (x :: l) (j + 1) = dOf (x.2 + 1) l j := by
        intro j
        rw [dOf_succ]
        cases j with
        | zero => simp [dOf]
        | succ j => rw [dOf_succ]; simp
      rw [e1, e1]
      simpa using this

theorem chain_full (f t : Int) (h : f ≤ t) (j : Nat) (hj : f + 7 * j ≤ t) : Chain f (f + 7 * j) (upto (fun j : Nat => (f + 7 * (j : Int), min (f + 7 * (j : Int) + 6) t)) j) := by
  induction j with
  | zero => simp [upto, Chain]
  | succ j ih =>
    rw [upto_succ]
    have := chain_snoc (ih (by omega)) (f + 7 * (j : Int), min (f + 7 * (j : Int) + 6) t) rfl (by simp; omega) (by simp; omega)
    have e : (f + 7 * (j : Int), min (f + 7 * (j : Int) + 6) t).2 + 1 = f + 7 * ((j + 1 : Nat) : Int) := by simp; omega
    rw [e] at this
    exact this
theorem chain_weeks (f t : Int) (h : f ≤ t) : Chain f (t + 1) (upto (fun j : Nat => (f + 7 * (j : Int), min (f + 7 * (j : Int) + 6) t)) ((t - f) / 7 + 1).toNat) := by
  obtain ⟨j, hj⟩ : ∃ j : Nat, ((t - f) / 7 + 1).toNat = j + 1 := ⟨((t - f) / 7).toNat, by omega⟩
  rw [hj, upto_succ]
  have hb : f + 7 * (j : Int) ≤ t ∧ t ≤ f + 7 * (j : Int) + 6 := by omega
  have := chain_snoc (chain_full f t h j hb.1) (f + 7 * (j : Int), min (f + 7 * (j : Int) + 6) t) rfl (by simp; omega) (by simp; omega)
  have e : (f + 7 * (j : Int), min (f + 7 * (j : Int) + 6) t).2 + 1 = t + 1 := by simp; omega
  rw [e] at this
  exact this

/-- How many weeks the period behind k of them has, as a count. -/
def nwk (c : Cal) (y : Int) (k : Nat) : Nat := (wkAt c y k).toNat
/-- How many weeks k periods have. -/
def cumW (c : Cal) (y : Int) : Nat → Nat
  | 0 => 0
  | k + 1 => cumW c y k + nwk c y k
/-- The week behind j of them of the period behind k of them. -/
def spAt (c : Cal) (y : Int) (k : Nat) (j : Nat) : Int × Int := (fromAt c y k + 7 * (j : Int), min (fromAt c y k + 7 * (j : Int) + 6) (endAt c y k))
/-- The weeks of k periods. -/
def spUp (c : Cal) (y : Int) : Nat → List (Int × Int)
  | 0 => []
  | k + 1 => spUp c y k ++ upto (spAt c y k) (nwk c y k)
theorem spUp_len (c : Cal) (y : Int) (k : Nat) : (spUp c y k).length = cumW c y k := by
  induction k with
  | zero => rfl
  | succ k ih => simp [spUp, cumW, ih, upto_length]
/-- How many periods a year has. -/
def nPer (c : Cal) (y : Int) : Nat := (endsL c y).length
/-- How many weeks. -/
def nWk (c : Cal) (y : Int) : Nat := cumW c y (nPer c y)
/-- A year's weeks. -/
def spL (c : Cal) (y : Int) : List (Int × Int) := spUp c y (nPer c y)
theorem spL_len (c : Cal) (y : Int) : (spL c y).length = nWk c y := spUp_len c y _
/-- The first day of the week behind i of them. -/
def dayW (c : Cal) (y : Int) (i : Nat) : Int := dOf (startV c y) (spL c y) i

theorem nwk_pos (c : Cal) (y : Int) (hE : askE c y 1601 = 0) (k : Nat) (hk : k < nPer c y) : 1 ≤ nwk c y k ∧ nwk c y k ≤ 6 := by
  have := period_1 c y hE k hk
  unfold nwk wkAt
  omega
theorem spUp_chain (c : Cal) (y : Int) (hE : askE c y 1601 = 0) (k : Nat) (hk : k ≤ nPer c y) : Chain (startV c y) (fromAt c y k) (spUp c y k) := by
  induction k with
  | zero => simp [spUp, Chain, fromAt]
  | succ k ih =>
    have hp := period_1 c y hE k hk
    refine chain_append (ih (by omega)) ?_
    rw [from_succ]
    exact chain_weeks (fromAt c y k) (endAt c y k) (by omega)
theorem spL_chain (c : Cal) (y : Int) (hE : askE c y 1601 = 0) : Chain (startV c y) (endV c y + 1) (spL c y) := by
  have := spUp_chain c y hE (nPer c y) (Nat.le_refl _)
  rwa [show fromAt c y (nPer c y) = endV c y + 1 from (last_end c y hE).1] at this
theorem spUp_pre (c : Cal) (y : Int) (k m : Nat) : ∃ r, spUp c y (k + m) = spUp c y k ++ r := by
  induction m with
  | zero => exact ⟨[], by simp⟩
  | succ m ih =>
    obtain ⟨r, hr⟩ := ih
    exact ⟨r ++ upto (spAt c y (k + m)) (nwk c y (k + m)), by rw [← Nat.add_assoc, spUp, hr, List.append_assoc]⟩
theorem cumW_mono (c : Cal) (y : Int) (k m : Nat) : cumW c y k ≤ cumW c y (k + m) := by
  induction m with
  | zero => exact Nat.le_refl _
  | succ m ih => rw [← Nat.add_assoc, cumW]; omega
theorem cumW_le (c : Cal) (y : Int) {k m : Nat} (h : k ≤ m) : cumW c y k ≤ cumW c y m := by
  have := cumW_mono c y k (m - k)
  rwa [show k + (m - k) = m by omega] at this
theorem cumW_lt (c : Cal) (y : Int) (hE : askE c y 1601 = 0) {k m : Nat} (h : k < m) (hm : m ≤ nPer c y) : cumW c y k < cumW c y m := by
  have h1 := cumW_le c y (show k + 1 ≤ m by omega)
  have h2 := nwk_pos c y hE k (by omega)
  rw [cumW] at h1
  omega
/-- The weeks of a period. -/
theorem spL_get (c : Cal) (y : Int) (k j : Nat) (hk : k < nPer c y) (hj : j < nwk c y k) : (spL c y)[cumW c y k + j]? = some (spAt c y k j) := by
  obtain ⟨r, hr⟩ := spUp_pre c y (k + 1) (nPer c y - (k + 1))
  rw [show k + 1 + (nPer c y - (k + 1)) = nPer c y by omega] at hr
  unfold spL
  rw [hr, List.getElem?_append_left (by rw [spUp_len, cumW]; omega), spUp, List.getElem?_append_right (by rw [spUp_len]; omega), spUp_len]
  simp [upto, hj]
theorem dayW_0 (c : Cal) (y : Int) : dayW c y 0 = startV c y := by simp [dayW, dOf]
theorem dayW_end (c : Cal) (y : Int) (hE : askE c y 1601 = 0) : dayW c y (nWk c y) = endV c y + 1 := by
  have := chain_end (spL_chain c y hE)
  rwa [spL_len] at this
theorem dayW_get (c : Cal) (y : Int) (hE : askE c y 1601 = 0) (i : Nat) (hi : i < nWk c y) :
    (spL c y)[i]? = some (dayW c y i, dayW c y (i + 1) - 1) ∧ dayW c y i < dayW c y (i + 1) ∧ dayW c y (i + 1) ≤ dayW c y i + 7 :=
  chain_get (spL_chain c y hE) i (by rw [spL_len]; exact hi)
theorem dayW_at (c : Cal) (y : Int) (hE : askE c y 1601 = 0) (k j : Nat) (hk : k < nPer c y) (hj : j < nwk c y k) : dayW c y (cumW c y k + j) = fromAt c y k + 7 * (j : Int) := by
  have h1 := spL_get c y k j hk hj
  have hlt : cumW c y k + j < nWk c y := by
    have := cumW_le c y (show k + 1 ≤ nPer c y by omega)
    rw [cumW] at this
    unfold nWk
    omega
  have h2 := (dayW_get c y hE _ hlt).1
  rw [h1] at h2
  have h3 := Option.some.inj h2
  have := congrArg Prod.fst h3
  exact this.symm
theorem dayW_cum (c : Cal) (y : Int) (hE : askE c y 1601 = 0) (k : Nat) (hk : k ≤ nPer c y) : dayW c y (cumW c y k) = fromAt c y k := by
  rcases Nat.lt_or_eq_of_le hk with h | h
  · have := dayW_at c y hE k 0 h (by have := nwk_pos c y hE k h; omega)
    simpa using this
  · subst h
    have h1 := dayW_end c y hE
    unfold nWk at h1
    rw [h1]
    exact (last_end c y hE).1.symm
theorem dayW_lt (c : Cal) (y : Int) (hE : askE c y 1601 = 0) {i j : Nat} (h : i < j) (hj : j ≤ nWk c y) : dayW c y i + (j - i) ≤ dayW c y j := by
  obtain ⟨m, rfl⟩ : ∃ m, j = i + 1 + m := ⟨j - i - 1, by omega⟩
  induction m with
  | zero =>
    have := (dayW_get c y hE i (by omega)).2.1
    simp
    omega
  | succ m ih =>
    have h1 := ih (by omega) (by omega)
    have h2 := (dayW_get c y hE (i + 1 + m) (by omega)).2.1
    rw [← Nat.add_assoc]
    omega
theorem dayW_le (c : Cal) (y : Int) (hE : askE c y 1601 = 0) {i j : Nat} (h : i ≤ j) (hj : j ≤ nWk c y) : dayW c y i ≤ dayW c y j := by
  rcases Nat.lt_or_eq_of_le h with h | h
  · have := dayW_lt c y hE h hj; omega
  · subst h; omega
/-- Weeks of a year of weeks have seven days. -/
theorem cum_7 (c : Cal) (y : Int) (hE : askE c y 1601 = 0) (hk6 : c.kind ≠ 6) (k : Nat) (hk : k ≤ nPer c y) : fromAt c y k = startV c y + 7 * (cumW c y k : Int) := by
  induction k with
  | zero => simp [fromAt, cumW]
  | succ k ih =>
    have h1 := ih (by omega)
    have h2 := period_1 c y hE k hk
    have h3 := h2.2.2 hk6
    rw [from_succ, cumW]
    unfold nwk wkAt
    omega
theorem nWk_7 (c : Cal) (y : Int) (hE : askE c y 1601 = 0) (hk6 : c.kind ≠ 6) : daysV c y = 7 * (nWk c y : Int) := by
  have h1 := cum_7 c y hE hk6 (nPer c y) (Nat.le_refl _)
  have h2 : fromAt c y (nPer c y) = endV c y + 1 := (last_end c y hE).1
  have h3 : daysV c y = endV c y - startV c y + 1 := by simp [daysV, hE]
  unfold nWk
  omega
theorem dayW_7 (c : Cal) (y : Int) (hE : askE c y 1601 = 0) (hk6 : c.kind ≠ 6) (i : Nat) (hi : i ≤ nWk c y) : dayW c y i = startV c y + 7 * (i : Int) := by
  have key : ∀ m : Nat, i + m = nWk c y → dayW c y i = startV c y + 7 * (i : Int) := by
    intro m hm
    have h7 := nWk_7 c y hE hk6
    have h3 : daysV c y = endV c y - startV c y + 1 := by simp [daysV, hE]
    have he := dayW_end c y hE
    have up : ∀ j : Nat, j ≤ nWk c y → dayW c y j ≤ startV c y + 7 * (j : Int) := by
      intro j
      induction j with
      | zero => intro _; simp [dayW_0]
      | succ j ih =>
        intro hj
        have h1 := ih (by omega)
        have h2 := (dayW_get c y hE j (by omega)).2.2
        omega
    have down : ∀ m : Nat, m ≤ nWk c y → endV c y + 1 ≤ dayW c y (nWk c y - m) + 7 * (m : Int) := by
      intro m
      induction m with
      | zero => intro _; simp [he]
      | succ m ih =>
        intro hm
        have h1 := ih (by omega)
        have h2 := (dayW_get c y hE (nWk c y - (m + 1)) (by omega)).2.2
        rw [show nWk c y - (m + 1) + 1 = nWk c y - m by omega] at h2
        omega
    have h1 := up i hi
    have h2 := down m (by omega)
    rw [show nWk c y - m = i by omega] at h2
    omega
  exact key (nWk c y - i) (by omega)
theorem nWk_bd (c : Cal) (y : Int) (hE : askE c y 1601 = 0) : 12 ≤ nWk c y ∧ nWk c y ≤ 60 := by
  have hl := last_end c y hE
  have hn : 12 ≤ nPer c y ∧ nPer c y ≤ 52 := ⟨hl.2.1, hl.2.2⟩
  constructor
  · have : ∀ k, k ≤ nPer c y → k ≤ cumW c y k := by
      intro k
      induction k with
      | zero => intro _; exact Nat.zero_le _
      | succ k ih =>
        intro hk
        have h1 := ih (by omega)
        have h2 := nwk_pos c y hE k hk
        rw [cumW]
        omega
    have := this _ (Nat.le_refl _)
    unfold nWk
    omega
  · by_cases hk6 : c.kind = 6
    · have h12 : nPer c y = 12 := by
        obtain ⟨hok, _, _⟩ := ask_ok hE
        have := (ok_shape hok).2.1.1 hk6
        unfold nPer endsL
        rw [if_neg (by omega), if_pos this, mon_len]
      have : ∀ k, k ≤ 12 → cumW c y k ≤ 5 * k := by
        intro k
        induction k with
        | zero => intro _; simp [cumW]
        | succ k ih =>
          intro hk
          have h1 := ih (by omega)
          have h2 : wkAt c y k ≤ 5 := by
            have e1 := month_end c y hE hk6 k (by omega)
            have e2 := month_from c y hE hk6 k (by omega)
            obtain ⟨hok, hy1, hy2⟩ := ask_ok hE
            obtain ⟨hm, hs, _, _⟩ := ok_rule hok
            have hs2 := mFirst_succ (mOf c y + k) (by unfold mOf; omega) (by unfold mOf; omega)
            have l2 := len_bd ((mOf c y + k) / 12) ((mOf c y + k) % 12 + 1)
            unfold wkAt
            rw [e1, e2]
            omega
          rw [cumW]
          unfold nwk
          omega
      have := this 12 (by omega)
      unfold nWk
      rw [h12]
      omega
    · have h7 := nWk_7 c y hE hk6
      have := days_weeks c y hE hk6
      omega
end Go.Proofs.YtjhhmeoibfdcmaaGreatDoor

namespace Go.Proofs.YtjhhmeoibfdcmaaGreatDoor
open Go.RowKit Qd
set_option linter.unusedSimpArgs false
set_option linter.unusedVariables false

/-- How many units of a level a year has. -/
def cntL (c : Cal) (y : Int) (lv : Int) : Nat := if lv = 1 then 1 else if lv = 2 then 2 else if lv = 3 then 4 else if lv = 4 then nPer c y else nWk c y
/-- How many periods i units of a level have, but weeks. -/
def pcut (n : Nat) (lv : Int) (i : Nat) : Nat := if lv = 1 then n * i else if lv = 2 then n * (2 * i) / 4 else if lv = 3 then n * i / 4 else i
/-- How many weeks i units of a level have. -/
def cutN (c : Cal) (y : Int) (lv : Int) (i : Nat) : Nat := if lv = 5 then i else cumW c y (pcut (nPer c y) lv i)
/-- The last weeks of all units of a level. -/
def lastsL (c : Cal) (y : Int) (lv : Int) : List Int := upto (fun i => (cutN c y lv (i + 1) : Int)) (cntL c y lv)
theorem lasts_len (c : Cal) (y lv : Int) : (lastsL c y lv).length = cntL c y lv := by simp [lastsL, upto_length]
theorem lasts_get (c : Cal) (y lv : Int) (i : Nat) (hi : i < cntL c y lv) : (lastsL c y lv)[i]?.getD 0 = (cutN c y lv (i + 1) : Int) := by simp [lastsL, upto, hi]

theorem nPer_bd (c : Cal) (y : Int) (hE : askE c y 1601 = 0) : 12 ≤ nPer c y ∧ nPer c y ≤ 52 := (last_end c y hE).2
theorem cnt_bd (c : Cal) (y : Int) (hE : askE c y 1601 = 0) (lv : Int) : 1 ≤ cntL c y lv ∧ cntL c y lv ≤ 60 := by
  have := nPer_bd c y hE
  have := nWk_bd c y hE
  unfold cntL
  repeat' split
  all_goals omega
theorem cut_0 (c : Cal) (y lv : Int) : cutN c y lv 0 = 0 := by
  unfold cutN pcut
  repeat' split
  all_goals simp [cumW]
theorem cut_end (c : Cal) (y lv : Int) (h1 : 1 ≤ lv) (h5 : lv ≤ 5) : cutN c y lv (cntL c y lv) = nWk c y := by
  have h : lv = 1 ∨ lv = 2 ∨ lv = 3 ∨ lv = 4 ∨ lv = 5 := by omega
  rcases h with rfl | rfl | rfl | rfl | rfl
  · simp [cutN, cntL, pcut, nWk]
  · simp [cutN, cntL, pcut, nWk]
  · simp [cutN, cntL, pcut, nWk]
  · simp [cutN, cntL, pcut, nWk]
  · simp [cutN, cntL, pcut, nWk]
theorem pcut_lt (n : Nat) (lv : Int) (hn : 12 ≤ n) (i : Nat) : pcut n lv i < pcut n lv (i + 1) := by
  unfold pcut
  repeat' split
  · rw [Nat.mul_succ]; omega
  · have : n * (2 * (i + 1)) = n * (2 * i) + 2 * n := by rw [Nat.mul_add, Nat.mul_add]; omega
    omega
  · have : n * (i + 1) = n * i + n := by rw [Nat.mul_succ]
    omega
  · omega
theorem pcut_end (n : Nat) (lv : Int) (c : Cal) (y : Int) (h1 : 1 ≤ lv) (h5 : lv ≤ 4) : pcut (nPer c y) lv (cntL c y lv) = nPer c y := by
  have h : lv = 1 ∨ lv = 2 ∨ lv = 3 ∨ lv = 4 := by omega
  rcases h with rfl | rfl | rfl | rfl <;> simp [cntL, pcut]
theorem pcut_mono (n : Nat) (lv : Int) (hn : 12 ≤ n) (i j : Nat) (h : i ≤ j) : pcut n lv i ≤ pcut n lv j := by
  obtain ⟨m, rfl⟩ : ∃ m, j = i + m := ⟨j - i, by omega⟩
  induction m with
  | zero => exact Nat.le_refl _
  | succ m ih =>
    have h1 := ih (by omega)
    have h2 := pcut_lt n lv hn (i + m)
    rw [← Nat.add_assoc]
    omega
theorem cut_lt (c : Cal) (y : Int) (hE : askE c y 1601 = 0) (lv : Int) (h1 : 1 ≤ lv) (h5 : lv ≤ 5) (i : Nat) (hi : i < cntL c y lv) : cutN c y lv i < cutN c y lv (i + 1) := by
  unfold cutN
  split
  · omega
  · have hn := (nPer_bd c y hE).1
    have h2 := pcut_mono (nPer c y) lv hn (i + 1) (cntL c y lv) (by omega)
    rw [pcut_end 0 lv c y h1 (by omega)] at h2
    exact cumW_lt c y hE (pcut_lt _ lv hn i) h2
theorem cut_mono (c : Cal) (y : Int) (hE : askE c y 1601 = 0) (lv : Int) (h1 : 1 ≤ lv) (h5 : lv ≤ 5) {i j : Nat} (h : i ≤ j) (hj : j ≤ cntL c y lv) : cutN c y lv i ≤ cutN c y lv j := by
  obtain ⟨m, rfl⟩ : ∃ m, j = i + m := ⟨j - i, by omega⟩
  induction m with
  | zero => exact Nat.le_refl _
  | succ m ih =>
    have h2 := ih (by omega) (by omega)
    have h3 := cut_lt c y hE lv h1 h5 (i + m) (by omega)
    rw [← Nat.add_assoc]
    omega
theorem cut_slt (c : Cal) (y : Int) (hE : askE c y 1601 = 0) (lv : Int) (h1 : 1 ≤ lv) (h5 : lv ≤ 5) {i j : Nat} (h : i < j) (hj : j ≤ cntL c y lv) : cutN c y lv i < cutN c y lv j := by
  have h2 := cut_lt c y hE lv h1 h5 i (by omega)
  have h3 := cut_mono c y hE lv h1 h5 (show i + 1 ≤ j by omega) hj
  omega
theorem cut_le_nWk (c : Cal) (y : Int) (hE : askE c y 1601 = 0) (lv : Int) (h1 : 1 ≤ lv) (h5 : lv ≤ 5) (i : Nat) (hi : i ≤ cntL c y lv) : cutN c y lv i ≤ nWk c y := by
  have := cut_mono c y hE lv h1 h5 hi (Nat.le_refl _)
  rwa [cut_end c y lv h1 h5] at this
/-- Each cut of a level is one of the next finer one. -/
theorem cut_next (c : Cal) (y : Int) (hE : askE c y 1601 = 0) (lv : Int) (h1 : 1 ≤ lv) (h4 : lv ≤ 4) (i : Nat) (hi : i ≤ cntL c y lv) : ∃ j, j ≤ cntL c y (lv + 1) ∧ cutN c y lv i = cutN c y (lv + 1) j := by
  have h : lv = 1 ∨ lv = 2 ∨ lv = 3 ∨ lv = 4 := by omega
  rcases h with rfl | rfl | rfl | rfl
  · refine ⟨2 * i, by simp [cntL] at hi ⊢; omega, ?_⟩
    simp only [cutN, pcut]
    simp
    congr 1
    have : nPer c y * (2 * (2 * i)) = 4 * (nPer c y * i) := by rw [← Nat.mul_assoc 2 2 i, Nat.mul_left_comm]
    omega
  · exact ⟨2 * i, by simp [cntL] at hi ⊢; omega, by simp [cutN, pcut]⟩
  · refine ⟨nPer c y * i / 4, ?_, by simp [cutN, pcut]⟩
    have h2 : nPer c y * i ≤ nPer c y * 4 := Nat.mul_le_mul_left _ (by simpa [cntL] using hi)
    simp [cntL]
    omega
  · refine ⟨cumW c y i, ?_, by simp [cutN, pcut]⟩
    have := cumW_le c y (show i ≤ nPer c y by simpa [cntL] using hi)
    simpa [cntL, nWk] using this
theorem cut_finer (c : Cal) (y : Int) (hE : askE c y 1601 = 0) (a b : Int) (h1 : 1 ≤ a) (hab : a ≤ b) (h5 : b ≤ 5) (i : Nat) (hi : i ≤ cntL c y a) : ∃ j, j ≤ cntL c y b ∧ cutN c y a i = cutN c y b j := by
  obtain ⟨m, rfl⟩ : ∃ m : Nat, b = a + m := ⟨(b - a).toNat, by omega⟩
  induction m with
  | zero => exact ⟨i, by simpa using hi, by simp⟩
  | succ m ih =>
    obtain ⟨j, hj, e⟩ := ih (by omega) (by omega)
    obtain ⟨k, hk, e2⟩ := cut_next c y hE (a + m) (by omega) (by omega) j hj
    have e3 : a + ((m + 1 : Nat) : Int) = a + m + 1 := by omega
    rw [e3]
    exact ⟨k, hk, by rw [e, e2]⟩

/-- Where the first number that is not below x stands. -/
def bsL (l : List Int) (x : Int) : Nat := (l.takeWhile fun a => decide (a < x)).length
theorem bsL_le (l : List Int) (x : Int) : bsL l x ≤ l.length := by unfold bsL; exact (List.takeWhile_sublist _).length_le
theorem bsL_eq (l : List Int) (x : Int) (k : Nat) (hk : k ≤ l.length) (h : ∀ j, j < k → l[j]?.getD 0 < x) (h2 : k < l.length → x ≤ l[k]?.getD 0) : bsL l x = k := by
  rcases Nat.lt_or_eq_of_le hk with h3 | h3
  · refine takeWhile_stop _ l k h3 (fun j hj => ?_) ?_
    · have := h j hj
      rw [List.getElem?_eq_getElem (by omega)] at this
      simpa using this
    · have := h2 h3
      rw [List.getElem?_eq_getElem h3] at this
      simpa using this
  · rw [h3]
    refine takeWhile_all _ l (fun j hj => ?_)
    have := h j (by omega)
    rw [List.getElem?_eq_getElem hj] at this
    simpa using this
/-- In which unit of a level, counted from 0, the week behind w of them lies. -/
def ixN (c : Cal) (y lv : Int) (w : Nat) : Nat := bsL (lastsL c y lv) ((w : Int) + 1)
theorem ix_eq (c : Cal) (y : Int) (hE : askE c y 1601 = 0) (lv : Int) (h1 : 1 ≤ lv) (h5 : lv ≤ 5) (w i : Nat) (hi : i < cntL c y lv) (ha : cutN c y lv i ≤ w) (hb : w < cutN c y lv (i + 1)) : ixN c y lv w = i := by
  refine bsL_eq _ _ i (by rw [lasts_len]; omega) (fun j hj => ?_) (fun _ => ?_)
  · rw [lasts_get c y lv j (by omega)]
    have := cut_mono c y hE lv h1 h5 (show j + 1 ≤ i by omega) (by omega)
    omega
  · rw [lasts_get c y lv i hi]
    omega
theorem cut_find (c : Cal) (y : Int) (hE : askE c y 1601 = 0) (lv : Int) (h1 : 1 ≤ lv) (h5 : lv ≤ 5) (w : Nat) (hw : w < nWk c y) : ∃ i, i < cntL c y lv ∧ cutN c y lv i ≤ w ∧ w < cutN c y lv (i + 1) := by
  have key : ∀ m, m ≤ cntL c y lv → w < cutN c y lv m → ∃ i, i < cntL c y lv ∧ cutN c y lv i ≤ w ∧ w < cutN c y lv (i + 1) := by
    intro m
    induction m with
    | zero => intro _ h; rw [cut_0] at h; omega
    | succ m ih =>
      intro hm h
      rcases Nat.lt_or_ge w (cutN c y lv m) with h2 | h2
      · exact ih (by omega) h2
      · exact ⟨m, by omega, h2, h⟩
  exact key _ (Nat.le_refl _) (by rw [cut_end c y lv h1 h5]; exact hw)
theorem ix_ok (c : Cal) (y : Int) (hE : askE c y 1601 = 0) (lv : Int) (h1 : 1 ≤ lv) (h5 : lv ≤ 5) (w : Nat) (hw : w < nWk c y) :
    ixN c y lv w < cntL c y lv ∧ cutN c y lv (ixN c y lv w) ≤ w ∧ w < cutN c y lv (ixN c y lv w + 1) := by
  obtain ⟨i, hi, ha, hb⟩ := cut_find c y hE lv h1 h5 w hw
  rw [ix_eq c y hE lv h1 h5 w i hi ha hb]
  exact ⟨hi, ha, hb⟩
/-- A unit lies in the one of a coarser level in which its first week lies. -/
theorem up_ok (c : Cal) (y : Int) (hE : askE c y 1601 = 0) (a b : Int) (h1 : 1 ≤ a) (hab : a ≤ b) (h5 : b ≤ 5) (i : Nat) (hi : i < cntL c y b) :
    ixN c y a (cutN c y b i) < cntL c y a ∧ cutN c y a (ixN c y a (cutN c y b i)) ≤ cutN c y b i ∧ cutN c y b (i + 1) ≤ cutN c y a (ixN c y a (cutN c y b i) + 1) := by
  have hw : cutN c y b i < nWk c y := by
    have h2 := cut_lt c y hE b (by omega) h5 i hi
    have h3 := cut_le_nWk c y hE b (by omega) h5 (i + 1) (by omega)
    omega
  obtain ⟨e1, e2, e3⟩ := ix_ok c y hE a h1 (by omega) _ hw
  refine ⟨e1, e2, ?_⟩
  obtain ⟨j, hj, e⟩ := cut_finer c y hE a b h1 hab h5 _ (show ixN c y a (cutN c y b i) + 1 ≤ cntL c y a by omega)
  rw [e] at e3 ⊢
  have hij : i < j := by
    rcases Nat.lt_or_ge i j with h | h
    · exact h
    · have := cut_mono c y hE b (by omega) h5 h (by omega); omega
  exact cut_mono c y hE b (by omega) h5 hij hj

/-- The week that was added; 0: none was. -/
def addedV (c : Cal) (y : Int) : Int := if wksE c y = 0 ∧ wksV c y = 53 then (endAt c y (c.extra - 1).toNat - startV c y + 1) / 7 else 0

theorem wks_ok {c : Cal} {y : Int} (h : wksE c y = 0) : c.Ok ∧ c.okB = true ∧ c.kind ≠ 6 ∧ askE c y 1601 = 0 ∧ wksV c y = daysV c y / 7 ∧ (wksV c y = 52 ∨ wksV c y = 53) ∧ daysV c y = 7 * wksV c y := by
  unfold wksE at h
  split at h
  · rename_i hb
    have hk6 : c.kind ≠ 6 := by
      simp only [wksB, Bool.and_eq_true, decide_eq_true_eq] at hb; exact hb.2
    have hok := (ask_ok h).1
    have hv : wksV c y = daysV c y / 7 := by simp [wksV, hb]
    have hd := days_weeks c y h hk6
    refine ⟨hok, by simpa [Cal.okB] using hok, hk6, h, hv, by omega, by omega⟩
  · omega
theorem wks_no {c : Cal} {y : Int} (h : ¬ wksE c y = 0) : wksV c y = 0 := by
  unfold wksE at h
  split at h
  · rename_i hb
    simp [wksV, hb, daysV, h]
  · rename_i hb
    simp [wksV, hb]
theorem extra_bd {c : Cal} (hok : c.Ok) (hk : c.kind ≠ 6) : 1 ≤ c.extra ∧ c.extra ≤ perV c := by
  have hok2 : c.okB = true := by simpa [Cal.okB] using hok
  have hper : perV c = manyP c.shape c.cycle := by simp [perV, hok2]
  obtain ⟨_, _, _, hr⟩ := hok
  unfold Cal.ruled Cal.weeks weeksP Cal.pat0 at hr
  have m1 : c.shape = 1 → manyP c.shape c.cycle = 12 := by intro h; simp [manyP, h]
  have m4 : c.shape = 4 → manyP c.shape c.cycle = 12 := by intro h; simp [manyP, h]
  rw [hper]
  omega

end Go.Proofs.YtjhhmeoibfdcmaaGreatDoor
