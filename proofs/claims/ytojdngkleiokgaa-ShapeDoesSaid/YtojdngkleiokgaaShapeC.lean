/- The iterator of shape.lengths: its contract. -/
import Derived.Test.YtojdngkleiokgaaShapeA
import Derived.Test.YtojdngkleiokgaaCalAt
namespace Go.Proofs.Ytojdngkleiokgaa
open Go.RowKit Go.Shelf Qd
set_option linter.unusedSimpArgs false
set_option linter.unusedVariables false
attribute [local go_sem] Oper.semAt_some

/-- A period's number and weeks, within bounds. -/
abbrev PW (n : Nat) := { x : Nat × Int // x.1 < n ∧ 0 ≤ x.2 ∧ x.2 ≤ 100 }
abbrev encPW {n : Nat} (x : PW n) : Array Value := #[.int .i64 (x.1.1 : Int), .int .i64 x.1.2]
def mkPW (c : Cal) (wk : Int) (n : Nat) (h : 0 < n) (j : Nat) : PW n := ⟨(min j (n - 1), min (max (lenAt c wk j) 0) 100), by dsimp only; omega⟩

theorem only_of_below {a w : World} (h : Below a.heap.size a w) (row : Option Nat) : a.grownBy w row := ⟨h.os, h.tape, h.output, h.size, fun i hi _ => h.block i hi⟩

/-- Shapes of weeks, patterns and extra weeks of a calendar that may be. -/
def WeekCal (c : Cal) : Prop := 1 ≤ pat0 c ∧ pat0 c ≤ 5 ∧ 1 ≤ pat1 c ∧ pat1 c ≤ 5 ∧ 1 ≤ pat2 c ∧ pat2 c ≤ 5
theorem lenAt_bd (c : Cal) (wk : Int) (j : Nat) (h : WeekCal c) (hwk : wk = 52 ∨ wk = 53) : 1 ≤ lenAt c wk j ∧ lenAt c wk j ≤ 6 := by
  unfold WeekCal at h
  unfold lenAt patN
  split <;> split <;> (try split) <;> omega

def BlkIs (w : World) (B : Nat) (cs : Array Value) (t : TypeId) : Prop := w.heap[B]? = some (.cells cs t (0, 0))
theorem BlkIs.lt {w : World} {B : Nat} {cs : Array Value} {t : TypeId} (h : BlkIs w B cs t) : B < w.heap.size := (Array.getElem?_eq_some_iff.1 h).1
theorem BlkIs.cell {w : World} {B : Nat} {cs : Array Value} {t : TypeId} (h : BlkIs w B cs t) (i : Nat) : w.cell? ⟨B, i, none⟩ = cs[i]? := cell_of_row w B i cs t (0, 0) h
theorem BlkIs.below {w w' : World} {K B : Nat} {cs : Array Value} {t : TypeId} (h : BlkIs w B cs t) (hb : Below K w w') (hB : B < K) : BlkIs w' B cs t := (hb.block B hB).trans h
theorem BlkIs.call {w w' : World} {B : Nat} {cs : Array Value} {t : TypeId} (h : BlkIs w B cs t) (hb : Below w.heap.size w w') : BlkIs w' B cs t := h.below hb h.lt
theorem BlkIs.alloc {w : World} {B : Nat} {cs : Array Value} {t : TypeId} (h : BlkIs w B cs t) (o : Obj) : BlkIs (w.alloc o) B cs t := (Below.heap_alloc w o B h.lt).trans h
theorem BlkIs.new (w : World) (cs : Array Value) (t : TypeId) : BlkIs (w.alloc (.cells cs t)) w.heap.size cs t := heap_alloc_new w _
theorem BlkIs.kept {w w' : World} {A D B : Nat} {cs : Array Value} {t : TypeId} (h : BlkIs w B cs t) (hk : KeepsBut A D w w') (h1 : B ≠ A) (h2 : B ≠ D) : BlkIs w' B cs t := hk.2 B cs t (0, 0) h1 h2 h
abbrev calCs (c : Cal) : Array Value := #[.string c.name, .int .i64 c.kind, .int .i64 c.day, .int .i64 c.month, .int .i64 c.shift, .int .i64 c.shape, .int .i64 c.p0, .int .i64 c.p1, .int .i64 c.p2, .int .i64 c.cycle, .int .i64 c.extra, .int .i64 c.first, .int .i64 c.last, .int .i64 c.policy]
theorem BlkIs.cal {w : World} {B : Nat} {c : Cal} (h : BlkIs w B (calCs c) 24) : CalAt w B c := by
  refine ⟨?_, ?_, ?_, ?_, ?_, ?_, ?_, ?_, ?_, ?_, ?_, ?_, ?_, ?_⟩ <;> (rw [h.cell]; rfl)

theorem enc_mk (c : Cal) (wk : Int) (n : Nat) (hn0 : 0 < n) (k : Nat) (h : WeekCal c) (hwk : wk = 52 ∨ wk = 53) (hk : k < n) (V : Int) (hV : lenAt c wk k = V) : encPW (mkPW c wk n hn0 k) = #[.int .i64 (k : Int), .int .i64 V] := by
  have hb := lenAt_bd c wk k h hwk
  have e1 : min k (n - 1) = k := by omega
  have e2 : min (max (lenAt c wk k) 0) 100 = lenAt c wk k := by omega
  simp only [encPW, mkPW, e1, e2]
  rw [hV]

set_option maxRecDepth 100000 in
set_option maxHeartbeats 4000000 in
theorem lengths_stops (c : Cal) (n : Nat) (wk : Int) (hw : WeekCal c) (hwk : wk = 52 ∨ wk = 53) (hn : n ≤ 59) (hn0 : 0 < n) (B0 B1 B2 Bd Bo : Nat) (w : World)
    (g0 : BlkIs w B0 (calCs c) 24) (g1 : BlkIs w B1 #[.int .i64 (n : Int)] 3) (g2 : BlkIs w B2 #[.int .i64 wk] 3)
    (hd : Bd < w.heap.size) (ho : Bo < w.heap.size) (n0 : B0 ≠ Bd ∧ B0 ≠ Bo) (n1 : B1 ≠ Bd ∧ B1 ≠ Bo) (n2 : B2 ≠ Bd ∧ B2 ≠ Bo) :
    SeqStopsK Fence.wide 4 Try.prog 61 #[.pointer (some ⟨B0, 0, none⟩), .pointer (some ⟨B1, 0, none⟩), .pointer (some ⟨B2, 0, none⟩)] encPW (KeepsBut Bd Bo)
      (fun xs => xs = upto (mkPW c wk n hn0) n) (fun _ => True) n w := fun l J Jx W hW hJ hJx hY h0 => by
  have G0 := hide (g0.call hW)
  have G1 := hide (g1.call hW)
  have G2 := hide (g2.call hW)
  have hWz := hW.size
  obtain ⟨q0, q1, q2, q3, q4, q5, q6, q7, q8, q9, q10, q11, q12, q13⟩ := (G0.out).cal
  have r1 : W.cell? ⟨B1, 0, none⟩ = some (.int .i64 (n : Int)) := (G1.out).cell 0
  refine callsIn_of_wp Try.func61 rfl trivial ?_ rfl
  simp only [Try.ntmps61, List.size_toArray, List.length_cons, List.length_nil, Nat.reduceAdd, Nat.reduceSub, Array.replicate_succ, Array.replicate_zero, List.push_toArray, List.append_toArray, List.nil_append, List.cons_append]
  gi_wp2_with fail
  refine ⟨trivial, (callsIn_wide.2 (pattern_any c _)).mono ?_⟩
  rintro e w1 ⟨rfl, hb1⟩
  clear q0 q1 q2 q3 q4 q5 q6 q7 q8 q9 q10 q11 q12 q13
  have hgw := only_of_below hb1 none
  have G01 := hide (((G0.out).call hb1).alloc (.cells #[.int .i64 (pat0 c), .int .i64 (pat1 c), .int .i64 (pat2 c)] 22))
  have G21 := hide (((G2.out).call hb1).alloc (.cells #[.int .i64 (pat0 c), .int .i64 (pat1 c), .int .i64 (pat2 c)] 22))
  have GP1 := hide (BlkIs.new w1 #[.int .i64 (pat0 c), .int .i64 (pat1 c), .int .i64 (pat2 c)] 22)
  have r1 : w1.cell? ⟨B1, 0, none⟩ = some (.int .i64 (n : Int)) := ((G1.out).call hb1).cell 0
  have hB1 : B1 < w1.heap.size := ((G1.out).call hb1).lt
  have HJ1 := hide (hJ _ _ _ none (hJ _ _ _ none h0 hgw (by intro r e; cases e)) (World.grownBy_alloc w1 (.cells #[.int .i64 (pat0 c), .int .i64 (pat1 c), .int .i64 (pat2 c)] 22) none) (by intro r e; cases e))
  have hbz := hb1.size
  have hp1 : w1.heap.size ≠ Bd := by omega
  have hp2 : w1.heap.size ≠ Bo := by omega
  clear hb1 hgw
  gi_wp2
  gi_loopw [11] (fun s wr => ∃ k : Nat, k ≤ n ∧ s = .int .i64 k ∧ Hid (J (upto (mkPW c wk n hn0) k) wr) ∧ BlkIs wr B0 (calCs c) 24 ∧ BlkIs wr B2 #[.int .i64 wk] 3 ∧ BlkIs wr w1.heap.size #[.int .i64 (pat0 c), .int .i64 (pat1 c), .int .i64 (pat2 c)] 22)
    (fun s _ => n - (intOf s).toNat)
  case atStart => exact ⟨0, Nat.zero_le _, rfl, HJ1, G01.out, G21.out, GP1.out⟩
  case round =>
    obtain ⟨k, hk, rfl, HJs, b0, b2, bp⟩ := hrel
    by_cases hlt : k < n
    · have x0 : wr.cell? ⟨w1.heap.size, 0, none⟩ = some (.int .i64 (pat0 c)) := bp.cell 0
      have x1 : wr.cell? ⟨w1.heap.size, 1, none⟩ = some (.int .i64 (pat1 c)) := bp.cell 1
      have x2 : wr.cell? ⟨w1.heap.size, 2, none⟩ = some (.int .i64 (pat2 c)) := bp.cell 2
      have x3 : wr.cell? ⟨B0, 10, none⟩ = some (.int .i64 c.extra) := b0.cell 10
      have x4 : wr.cell? ⟨B2, 0, none⟩ = some (.int .i64 wk) := b2.cell 0
      have hw' := hw
      unfold WeekCal at hw'
      obtain ⟨fn, tmps, assign, body, hy, hR⟩ := hY _ (mkPW c wk n hn0 k) wr HJs.out (by rw [upto_length]; exact hlt)
      have hwkb : 52 ≤ wk ∧ wk ≤ 53 := by omega
      have HWK := hide hwk
      clear hwk hY
      have hm3 : k % 3 = 0 ∨ k % 3 = 1 ∨ k % 3 = 2 := by omega
      rcases hm3 with hm | hm | hm
      · have hmi : ((k : Int) % 3) = 0 := by omega
        by_cases he0 : (k : Int) + 1 = c.extra
        rotate_left
        · have he : ((k : Int) + 1 == c.extra) = false := by simp [he0]
          have hV : lenAt c wk k = pat0 c := by simp [lenAt, patN, hm, he0]
          rw [enc_mk c wk n hn0 k hw HWK.out hlt _ hV] at hy
          clear he0 hV hm
          gi_wp2
          refine hR.mono ?_
          rintro e W3 (⟨rfl, hJ3, hk3⟩ | ⟨rfl, hJx3⟩)
          · have HJ3 := hide hJ3
            have b03 := b0.kept hk3 n0.1 n0.2
            have b23 := b2.kept hk3 n2.1 n2.2
            have bp3 := bp.kept hk3 hp1 hp2
            clear hJ3 hk3
            gi_wp2
            go_roundw
            case rel => exact ⟨k + 1, by omega, by go_num, by rw [upto_succ]; exact HJ3, b03, b23, bp3⟩
            case measure => simp [intOf]; omega
          · have HJ3 := hide hJx3
            clear hJx3
            gi_wp2
            refine bodyPost_ret (results_none rfl _ _ _) rfl ?_
            exact ⟨⟨_, rfl⟩, .inr ⟨_, trivial, HJ3.out⟩⟩
        · have he : ((k : Int) + 1 == c.extra) = true := by simp [he0]
          have hV : lenAt c wk k = pat0 c + (wk - 52) := by simp [lenAt, patN, hm, he0]
          rw [enc_mk c wk n hn0 k hw HWK.out hlt _ hV] at hy
          clear he0 hV hm
          gi_wp2
          refine hR.mono ?_
          rintro e W3 (⟨rfl, hJ3, hk3⟩ | ⟨rfl, hJx3⟩)
          · have HJ3 := hide hJ3
            have b03 := b0.kept hk3 n0.1 n0.2
            have b23 := b2.kept hk3 n2.1 n2.2
            have bp3 := bp.kept hk3 hp1 hp2
            clear hJ3 hk3
            gi_wp2
            go_roundw
            case rel => exact ⟨k + 1, by omega, by go_num, by rw [upto_succ]; exact HJ3, b03, b23, bp3⟩
            case measure => simp [intOf]; omega
          · have HJ3 := hide hJx3
            clear hJx3
            gi_wp2
            refine bodyPost_ret (results_none rfl _ _ _) rfl ?_
            exact ⟨⟨_, rfl⟩, .inr ⟨_, trivial, HJ3.out⟩⟩
      · have hmi : ((k : Int) % 3) = 1 := by omega
        by_cases he0 : (k : Int) + 1 = c.extra
        rotate_left
        · have he : ((k : Int) + 1 == c.extra) = false := by simp [he0]
          have hV : lenAt c wk k = pat1 c := by simp [lenAt, patN, hm, he0]
          rw [enc_mk c wk n hn0 k hw HWK.out hlt _ hV] at hy
          clear he0 hV hm
          gi_wp2
          refine hR.mono ?_
          rintro e W3 (⟨rfl, hJ3, hk3⟩ | ⟨rfl, hJx3⟩)
          · have HJ3 := hide hJ3
            have b03 := b0.kept hk3 n0.1 n0.2
            have b23 := b2.kept hk3 n2.1 n2.2
            have bp3 := bp.kept hk3 hp1 hp2
            clear hJ3 hk3
            gi_wp2
            go_roundw
            case rel => exact ⟨k + 1, by omega, by go_num, by rw [upto_succ]; exact HJ3, b03, b23, bp3⟩
            case measure => simp [intOf]; omega
          · have HJ3 := hide hJx3
            clear hJx3
            gi_wp2
            refine bodyPost_ret (results_none rfl _ _ _) rfl ?_
            exact ⟨⟨_, rfl⟩, .inr ⟨_, trivial, HJ3.out⟩⟩
        · have he : ((k : Int) + 1 == c.extra) = true := by simp [he0]
          have hV : lenAt c wk k = pat1 c + (wk - 52) := by simp [lenAt, patN, hm, he0]
          rw [enc_mk c wk n hn0 k hw HWK.out hlt _ hV] at hy
          clear he0 hV hm
          gi_wp2
          refine hR.mono ?_
          rintro e W3 (⟨rfl, hJ3, hk3⟩ | ⟨rfl, hJx3⟩)
          · have HJ3 := hide hJ3
            have b03 := b0.kept hk3 n0.1 n0.2
            have b23 := b2.kept hk3 n2.1 n2.2
            have bp3 := bp.kept hk3 hp1 hp2
            clear hJ3 hk3
            gi_wp2
            go_roundw
            case rel => exact ⟨k + 1, by omega, by go_num, by rw [upto_succ]; exact HJ3, b03, b23, bp3⟩
            case measure => simp [intOf]; omega
          · have HJ3 := hide hJx3
            clear hJx3
            gi_wp2
            refine bodyPost_ret (results_none rfl _ _ _) rfl ?_
            exact ⟨⟨_, rfl⟩, .inr ⟨_, trivial, HJ3.out⟩⟩
      · have hmi : ((k : Int) % 3) = 2 := by omega
        by_cases he0 : (k : Int) + 1 = c.extra
        rotate_left
        · have he : ((k : Int) + 1 == c.extra) = false := by simp [he0]
          have hV : lenAt c wk k = pat2 c := by simp [lenAt, patN, hm, he0]
          rw [enc_mk c wk n hn0 k hw HWK.out hlt _ hV] at hy
          clear he0 hV hm
          gi_wp2
          refine hR.mono ?_
          rintro e W3 (⟨rfl, hJ3, hk3⟩ | ⟨rfl, hJx3⟩)
          · have HJ3 := hide hJ3
            have b03 := b0.kept hk3 n0.1 n0.2
            have b23 := b2.kept hk3 n2.1 n2.2
            have bp3 := bp.kept hk3 hp1 hp2
            clear hJ3 hk3
            gi_wp2
            go_roundw
            case rel => exact ⟨k + 1, by omega, by go_num, by rw [upto_succ]; exact HJ3, b03, b23, bp3⟩
            case measure => simp [intOf]; omega
          · have HJ3 := hide hJx3
            clear hJx3
            gi_wp2
            refine bodyPost_ret (results_none rfl _ _ _) rfl ?_
            exact ⟨⟨_, rfl⟩, .inr ⟨_, trivial, HJ3.out⟩⟩
        · have he : ((k : Int) + 1 == c.extra) = true := by simp [he0]
          have hV : lenAt c wk k = pat2 c + (wk - 52) := by simp [lenAt, patN, hm, he0]
          rw [enc_mk c wk n hn0 k hw HWK.out hlt _ hV] at hy
          clear he0 hV hm
          gi_wp2
          refine hR.mono ?_
          rintro e W3 (⟨rfl, hJ3, hk3⟩ | ⟨rfl, hJx3⟩)
          · have HJ3 := hide hJ3
            have b03 := b0.kept hk3 n0.1 n0.2
            have b23 := b2.kept hk3 n2.1 n2.2
            have bp3 := bp.kept hk3 hp1 hp2
            clear hJ3 hk3
            gi_wp2
            go_roundw
            case rel => exact ⟨k + 1, by omega, by go_num, by rw [upto_succ]; exact HJ3, b03, b23, bp3⟩
            case measure => simp [intOf]; omega
          · have HJ3 := hide hJx3
            clear hJx3
            gi_wp2
            refine bodyPost_ret (results_none rfl _ _ _) rfl ?_
            exact ⟨⟨_, rfl⟩, .inr ⟨_, trivial, HJ3.out⟩⟩
    · have hkn : k = n := by omega
      subst hkn
      gi_wp2
      go_end0
      exact ⟨⟨_, rfl⟩, .inl ⟨_, rfl, HJs.out⟩⟩
end Go.Proofs.Ytojdngkleiokgaa
