/- Contracts of units: known. Contracts of units: Count, Check, Span, Up, Down. Contracts of units: Up, Down. Contracts of units: Down. Units: the plain law of their weeks and days. What '==' says of units and spans. A unit that lies in a block. -/
import Derived.Test.YtjhhmeoibfdcmaaGreatDoorMFr
import Derived.Laws.CopyOwn
import Derived.Test.YtjhhmeoibfdcmaaGreatDoorUnitV
import Derived.Test.YtjhhmeoibfdcmaaGreatDoorMAn
namespace Go.Proofs.YtjhhmeoibfdcmaaGreatDoor
open Go.RowKit Qd
set_option linter.unusedSimpArgs false
set_option linter.unusedVariables false

/-- Why a unit is not told. -/
def unitE (c : Cal) (u : Un) : Int := if frameE c u.lv u.yr = 0 then (if 1 ≤ u.ix ∧ u.ix ≤ (cntL c u.yr u.lv : Int) then 0 else 13) else frameE c u.lv u.yr
/-- Which one of its level it is, counted from 0. -/
def uI (u : Un) : Nat := (u.ix - 1).toNat
theorem unit_ok {c : Cal} {u : Un} (h : unitE c u = 0) : frameE c u.lv u.yr = 0 ∧ u.ix = (uI u : Int) + 1 ∧ uI u < cntL c u.yr u.lv := by
  unfold unitE at h
  split at h
  · rename_i hf
    split at h
    · rename_i hx
      unfold uI
      exact ⟨hf, by omega, by omega⟩
    · omega
  · rename_i hf
    exact absurd h hf
theorem unit_is {c : Cal} {u : Un} (h : frameE c u.lv u.yr = 0) (h1 : 1 ≤ u.ix) (h2 : u.ix ≤ (cntL c u.yr u.lv : Int)) : unitE c u = 0 := by
  unfold unitE
  rw [if_pos h, if_pos ⟨h1, h2⟩]
/-- The weeks ahead of a unit, and up to it. -/
def cutA (c : Cal) (u : Un) : Nat := cutN c u.yr u.lv (uI u)
def cutB (c : Cal) (u : Un) : Nat := cutN c u.yr u.lv (uI u + 1)
theorem cutAB {c : Cal} {u : Un} (h : unitE c u = 0) : cutA c u < cutB c u ∧ cutB c u ≤ nWk c u.yr := by
  obtain ⟨hf, hx, hi⟩ := unit_ok h
  obtain ⟨hok, hok2, h1, h5, hy1, hy2, hA⟩ := frame_ok hf
  exact ⟨cut_lt c u.yr hA u.lv h1 h5 _ hi, cut_le_nWk c u.yr hA u.lv h1 h5 _ (by omega)⟩
def KnownPost (c : Cal) (u : Un) (w : World) (e : Ending) (w' : World) : Prop :=
  ∃ g1 cap g2, w.heap.size ≤ g1 ∧ w.heap.size ≤ g2 ∧ e = .returned (.tuple #[yearV u.yr (nWk c u.yr) cap g1 (nPer c u.yr) g2, .int .i64 ((cutA c u : Int) + 1), .int .i64 (cutB c u : Int), .int .i64 0]) ∧ nWk c u.yr ≤ cap ∧ cap ≤ maxLen ∧ FrameAt w' g1 g2 c u.yr ∧ Below w.heap.size w w'

set_option maxRecDepth 100000 in
set_option maxHeartbeats 1600000 in
theorem known_bad (c : Cal) (u : Un) (w : World) (hn : c.name.size ≤ 1000) (hE : ¬ frameE c u.lv u.yr = 0) :
    Calls Tryz.prog 24 #[calV c, unitV u] w fun e w' => e = .returned (.tuple #[.agg #[.int .i64 0, .slice none 0 0, .slice none 0 0], .int .i64 0, .int .i64 0, .int .i64 (unitE c u)]) ∧ Below w.heap.size w w' := by
  have hU := hide (show unitE c u = frameE c u.lv u.yr by unfold unitE; rw [if_neg hE])
  have hE' : (frameE c u.lv u.yr != 0) = true := by simpa using hE
  have HE := hide hE
  clear hE
  simp only [calV, unitV]
  go_enter Tryz.func24, Tryz.ntmps24
  go_wp2_with fail
  refine (make_no c u.lv u.yr _ hn HE.out).mono ?_
  rintro e w1 ⟨rfl, hb1⟩
  have r0 : w1.cell? ⟨w.heap.size + 1 + 1, 0, none⟩ = some (.int .i64 0) := by rw [hb1.cell (p := ⟨w.heap.size + 1 + 1, 0, none⟩) (by simp; try omega)]; simp [World.cell?_alloc_at, World.cell?_alloc_past, World.frozen?_alloc_at, World.frozen?_alloc_past]
  have f0 : w1.frozen? ⟨w.heap.size + 1 + 1, 0, none⟩ = false := by rw [hb1.frozen (p := ⟨w.heap.size + 1 + 1, 0, none⟩) (by simp; try omega)]; simp [World.cell?_alloc_at, World.cell?_alloc_past, World.frozen?_alloc_at, World.frozen?_alloc_past]
  have r1 : w1.cell? ⟨w.heap.size + 1 + 1, 1, none⟩ = some (.slice none 0 0) := by rw [hb1.cell (p := ⟨w.heap.size + 1 + 1, 1, none⟩) (by simp; try omega)]; simp [World.cell?_alloc_at, World.cell?_alloc_past, World.frozen?_alloc_at, World.frozen?_alloc_past]
  have f1 : w1.frozen? ⟨w.heap.size + 1 + 1, 1, none⟩ = false := by rw [hb1.frozen (p := ⟨w.heap.size + 1 + 1, 1, none⟩) (by simp; try omega)]; simp [World.cell?_alloc_at, World.cell?_alloc_past, World.frozen?_alloc_at, World.frozen?_alloc_past]
  have r2 : w1.cell? ⟨w.heap.size + 1 + 1, 2, none⟩ = some (.slice none 0 0) := by rw [hb1.cell (p := ⟨w.heap.size + 1 + 1, 2, none⟩) (by simp; try omega)]; simp [World.cell?_alloc_at, World.cell?_alloc_past, World.frozen?_alloc_at, World.frozen?_alloc_past]
  have f2 : w1.frozen? ⟨w.heap.size + 1 + 1, 2, none⟩ = false := by rw [hb1.frozen (p := ⟨w.heap.size + 1 + 1, 2, none⟩) (by simp; try omega)]; simp [World.cell?_alloc_at, World.cell?_alloc_past, World.frozen?_alloc_at, World.frozen?_alloc_past]
  have hsz : w.heap.size + 1 + 1 < w1.heap.size := by have := hb1.size; simp at this; omega
  have HW := hide (show Below w.heap.size w w1 by (repeat' exact bel))
  clear hb1
  go_wp2
  exact bodyPost_ret (v := .tuple #[.agg #[.int .i64 0, .slice none 0 0, .slice none 0 0], .int .i64 0, .int .i64 0, .int .i64 (frameE c u.lv u.yr)]) (by simp (maxDischargeDepth := 9) [results, Tryz.results24, go_sem, r0, r1, r2, f0, f1, f2, hsz]) rfl ⟨by rw [hU.out], by have hWo := HW.out; (repeat' exact bel)⟩

set_option maxRecDepth 100000 in
set_option maxHeartbeats 1600000 in
theorem known_none (c : Cal) (u : Un) (w : World) (hn : c.name.size ≤ 1000) (hE : frameE c u.lv u.yr = 0) (hx : u.ix < 1 ∨ (cntL c u.yr u.lv : Int) < u.ix) :
    Calls Tryz.prog 24 #[calV c, unitV u] w fun e w' => e = .returned (.tuple #[.agg #[.int .i64 0, .slice none 0 0, .slice none 0 0], .int .i64 0, .int .i64 0, .int .i64 (unitE c u)]) ∧ Below w.heap.size w w' := by
  have hU := hide (show unitE c u = 13 by unfold unitE; rw [if_pos hE, if_neg (by omega)])
  have HE := hide hE
  have HF := hide (frame_ok hE)
  have HX := hide hx
  clear hE hx
  simp only [calV, unitV]
  go_enter Tryz.func24, Tryz.ntmps24
  go_wp2_with fail
  refine (make_yes c u.lv u.yr _ hn HE.out).mono ?_
  rintro e w1 ⟨g1, cap, g2, hG1, hG2, rfl, hc1, hc2, hFr, hb1⟩
  simp at hG1 hG2
  have r0 : w1.cell? ⟨w.heap.size + 1 + 1, 0, none⟩ = some (.int .i64 0) := by rw [hb1.cell (p := ⟨w.heap.size + 1 + 1, 0, none⟩) (by simp; try omega)]; simp [World.cell?_alloc_at, World.cell?_alloc_past, World.frozen?_alloc_at, World.frozen?_alloc_past]
  have f0 : w1.frozen? ⟨w.heap.size + 1 + 1, 0, none⟩ = false := by rw [hb1.frozen (p := ⟨w.heap.size + 1 + 1, 0, none⟩) (by simp; try omega)]; simp [World.cell?_alloc_at, World.cell?_alloc_past, World.frozen?_alloc_at, World.frozen?_alloc_past]
  have r1 : w1.cell? ⟨w.heap.size + 1 + 1, 1, none⟩ = some (.slice none 0 0) := by rw [hb1.cell (p := ⟨w.heap.size + 1 + 1, 1, none⟩) (by simp; try omega)]; simp [World.cell?_alloc_at, World.cell?_alloc_past, World.frozen?_alloc_at, World.frozen?_alloc_past]
  have f1 : w1.frozen? ⟨w.heap.size + 1 + 1, 1, none⟩ = false := by rw [hb1.frozen (p := ⟨w.heap.size + 1 + 1, 1, none⟩) (by simp; try omega)]; simp [World.cell?_alloc_at, World.cell?_alloc_past, World.frozen?_alloc_at, World.frozen?_alloc_past]
  have r2 : w1.cell? ⟨w.heap.size + 1 + 1, 2, none⟩ = some (.slice none 0 0) := by rw [hb1.cell (p := ⟨w.heap.size + 1 + 1, 2, none⟩) (by simp; try omega)]; simp [World.cell?_alloc_at, World.cell?_alloc_past, World.frozen?_alloc_at, World.frozen?_alloc_past]
  have f2 : w1.frozen? ⟨w.heap.size + 1 + 1, 2, none⟩ = false := by rw [hb1.frozen (p := ⟨w.heap.size + 1 + 1, 2, none⟩) (by simp; try omega)]; simp [World.cell?_alloc_at, World.cell?_alloc_past, World.frozen?_alloc_at, World.frozen?_alloc_past]
  have u0 : w1.cell? ⟨w.heap.size + 1, 0, none⟩ = some (.int .i64 u.lv) := by rw [hb1.cell (p := ⟨w.heap.size + 1, 0, none⟩) (by simp; try omega)]; simp [World.cell?_alloc_at, World.cell?_alloc_past]
  have u1 : w1.cell? ⟨w.heap.size + 1, 1, none⟩ = some (.int .i64 u.yr) := by rw [hb1.cell (p := ⟨w.heap.size + 1, 1, none⟩) (by simp; try omega)]; simp [World.cell?_alloc_at, World.cell?_alloc_past]
  have u2 : w1.cell? ⟨w.heap.size + 1, 2, none⟩ = some (.int .i64 u.ix) := by rw [hb1.cell (p := ⟨w.heap.size + 1, 2, none⟩) (by simp; try omega)]; simp [World.cell?_alloc_at, World.cell?_alloc_past]
  have hsz : w.heap.size + 1 + 1 < w1.heap.size := by have := hb1.size; simp at this; omega
  have HW := hide (show Below w.heap.size w w1 by (repeat' exact bel))
  have hg1 := hFr.1.1
  have hg2 := hFr.2.lt
  have HFr := hide hFr
  clear hb1 hFr
  go_wp2_with fail
  generalize hW2 : (((w1.setCell _ _).setCell _ _).setCell _ _) = W2
  have HW2 := hide (show Below w.heap.size w W2 by rw [← hW2]; exact ((HW.out.setCell (by simp; omega) _).setCell (by simp; omega) _).setCell (by simp; omega) _)
  have HFr2 := hide (show FrameAt W2 g1 g2 c u.yr by rw [← hW2]; exact ((HFr.out.far (by simp; omega) (by simp; omega) _).far (by simp; omega) (by simp; omega) _).far (by simp; omega) (by simp; omega) _)
  have hz2 : w.heap.size + 1 + 1 < W2.heap.size := by rw [← hW2]; simpa using hsz
  have R0 : W2.cell? ⟨w.heap.size + 1 + 1, 0, none⟩ = some (.int .i64 u.yr) := by rw [← hW2]; simp (maxDischargeDepth := 9) [World.cell?_setCell_same', World.cell?_setCell_other, r0, r1, r2]
  have F0 : W2.frozen? ⟨w.heap.size + 1 + 1, 0, none⟩ = false := by rw [← hW2]; simp [f0, f1, f2]
  have R1 : W2.cell? ⟨w.heap.size + 1 + 1, 1, none⟩ = some (.slice (some ⟨g1, 0, none⟩) (nWk c u.yr) cap) := by rw [← hW2]; simp (maxDischargeDepth := 9) [World.cell?_setCell_same', World.cell?_setCell_other, r0, r1, r2]
  have F1 : W2.frozen? ⟨w.heap.size + 1 + 1, 1, none⟩ = false := by rw [← hW2]; simp [f0, f1, f2]
  have R2 : W2.cell? ⟨w.heap.size + 1 + 1, 2, none⟩ = some (.slice (some ⟨g2, 0, none⟩) (nPer c u.yr) (nPer c u.yr)) := by rw [← hW2]; simp (maxDischargeDepth := 9) [World.cell?_setCell_same', World.cell?_setCell_other, r0, r1, r2]
  have F2 : W2.frozen? ⟨w.heap.size + 1 + 1, 2, none⟩ = false := by rw [← hW2]; simp [f0, f1, f2]
  clear hW2 r0 r1 r2 f0 f1 f2 u0 u1 u2
  refine (fweeks_no c u.yr u _ cap g1 g2 HF.out.2.2.1 HF.out.2.2.2.1 HF.out.2.2.2.2.2.2 HFr2.out.2 HX.out).mono ?_
  rintro e w3 ⟨rfl, hb3⟩
  have r0 : w3.cell? ⟨w.heap.size + 1 + 1, 0, none⟩ = some (.int .i64 u.yr) := by rw [hb3.cell (p := ⟨w.heap.size + 1 + 1, 0, none⟩) hz2]; exact R0
  have f0 : w3.frozen? ⟨w.heap.size + 1 + 1, 0, none⟩ = false := by rw [hb3.frozen (p := ⟨w.heap.size + 1 + 1, 0, none⟩) hz2]; exact F0
  have r1 : w3.cell? ⟨w.heap.size + 1 + 1, 1, none⟩ = some (.slice (some ⟨g1, 0, none⟩) (nWk c u.yr) cap) := by rw [hb3.cell (p := ⟨w.heap.size + 1 + 1, 1, none⟩) hz2]; exact R1
  have f1 : w3.frozen? ⟨w.heap.size + 1 + 1, 1, none⟩ = false := by rw [hb3.frozen (p := ⟨w.heap.size + 1 + 1, 1, none⟩) hz2]; exact F1
  have r2 : w3.cell? ⟨w.heap.size + 1 + 1, 2, none⟩ = some (.slice (some ⟨g2, 0, none⟩) (nPer c u.yr) (nPer c u.yr)) := by rw [hb3.cell (p := ⟨w.heap.size + 1 + 1, 2, none⟩) hz2]; exact R2
  have f2 : w3.frozen? ⟨w.heap.size + 1 + 1, 2, none⟩ = false := by rw [hb3.frozen (p := ⟨w.heap.size + 1 + 1, 2, none⟩) hz2]; exact F2
  have hsz3 : w.heap.size + 1 + 1 < w3.heap.size := Nat.lt_of_lt_of_le hz2 hb3.size
  have HW3 := hide (HW2.out.trans (hb3.mono (by omega)))
  clear hb3 R0 R1 R2 F0 F1 F2
  go_wp2
  exact bodyPost_ret (v := .tuple #[.agg #[.int .i64 0, .slice none 0 0, .slice none 0 0], .int .i64 0, .int .i64 0, .int .i64 13]) (by simp (maxDischargeDepth := 9) [results, Tryz.results24, go_sem, r0, r1, r2, f0, f1, f2, hsz3]) rfl ⟨by rw [hU.out], ((HW3.out.setCell (by simp; omega) _).setCell (by simp; omega) _).setCell (by simp; omega) _⟩

set_option maxRecDepth 100000 in
set_option maxHeartbeats 1600000 in
theorem known_yes (c : Cal) (u : Un) (w : World) (hn : c.name.size ≤ 1000) (hU0 : unitE c u = 0) :
    Calls Tryz.prog 24 #[calV c, unitV u] w (KnownPost c u w) := by
  obtain ⟨hE, hx, hi⟩ := unit_ok hU0
  have HI := hide hi
  clear hi hU0
  have HE := hide hE
  have HF := hide (frame_ok hE)
  have HX := hide hx
  clear hE hx
  simp only [calV, unitV]
  go_enter Tryz.func24, Tryz.ntmps24
  go_wp2_with fail
  refine (make_yes c u.lv u.yr _ hn HE.out).mono ?_
  rintro e w1 ⟨g1, cap, g2, hG1, hG2, rfl, hc1, hc2, hFr, hb1⟩
  simp at hG1 hG2
  have r0 : w1.cell? ⟨w.heap.size + 1 + 1, 0, none⟩ = some (.int .i64 0) := by rw [hb1.cell (p := ⟨w.heap.size + 1 + 1, 0, none⟩) (by simp; try omega)]; simp [World.cell?_alloc_at, World.cell?_alloc_past, World.frozen?_alloc_at, World.frozen?_alloc_past]
  have f0 : w1.frozen? ⟨w.heap.size + 1 + 1, 0, none⟩ = false := by rw [hb1.frozen (p := ⟨w.heap.size + 1 + 1, 0, none⟩) (by simp; try omega)]; simp [World.cell?_alloc_at, World.cell?_alloc_past, World.frozen?_alloc_at, World.frozen?_alloc_past]
  have r1 : w1.cell? ⟨w.heap.size + 1 + 1, 1, none⟩ = some (.slice none 0 0) := by rw [hb1.cell (p := ⟨w.heap.size + 1 + 1, 1, none⟩) (by simp; try omega)]; simp [World.cell?_alloc_at, World.cell?_alloc_past, World.frozen?_alloc_at, World.frozen?_alloc_past]
  have f1 : w1.frozen? ⟨w.heap.size + 1 + 1, 1, none⟩ = false := by rw [hb1.frozen (p := ⟨w.heap.size + 1 + 1, 1, none⟩) (by simp; try omega)]; simp [World.cell?_alloc_at, World.cell?_alloc_past, World.frozen?_alloc_at, World.frozen?_alloc_past]
  have r2 : w1.cell? ⟨w.heap.size + 1 + 1, 2, none⟩ = some (.slice none 0 0) := by rw [hb1.cell (p := ⟨w.heap.size + 1 + 1, 2, none⟩) (by simp; try omega)]; simp [World.cell?_alloc_at, World.cell?_alloc_past, World.frozen?_alloc_at, World.frozen?_alloc_past]
  have f2 : w1.frozen? ⟨w.heap.size + 1 + 1, 2, none⟩ = false := by rw [hb1.frozen (p := ⟨w.heap.size + 1 + 1, 2, none⟩) (by simp; try omega)]; simp [World.cell?_alloc_at, World.cell?_alloc_past, World.frozen?_alloc_at, World.frozen?_alloc_past]
  have u0 : w1.cell? ⟨w.heap.size + 1, 0, none⟩ = some (.int .i64 u.lv) := by rw [hb1.cell (p := ⟨w.heap.size + 1, 0, none⟩) (by simp; try omega)]; simp [World.cell?_alloc_at, World.cell?_alloc_past]
  have u1 : w1.cell? ⟨w.heap.size + 1, 1, none⟩ = some (.int .i64 u.yr) := by rw [hb1.cell (p := ⟨w.heap.size + 1, 1, none⟩) (by simp; try omega)]; simp [World.cell?_alloc_at, World.cell?_alloc_past]
  have u2 : w1.cell? ⟨w.heap.size + 1, 2, none⟩ = some (.int .i64 u.ix) := by rw [hb1.cell (p := ⟨w.heap.size + 1, 2, none⟩) (by simp; try omega)]; simp [World.cell?_alloc_at, World.cell?_alloc_past]
  have hsz : w.heap.size + 1 + 1 < w1.heap.size := by have := hb1.size; simp at this; omega
  have HW := hide (show Below w.heap.size w w1 by (repeat' exact bel))
  have hg1 := hFr.1.1
  have hg2 := hFr.2.lt
  have HFr := hide hFr
  clear hb1 hFr
  go_wp2_with fail
  generalize hW2 : (((w1.setCell _ _).setCell _ _).setCell _ _) = W2
  have HW2 := hide (show Below w.heap.size w W2 by rw [← hW2]; exact ((HW.out.setCell (by simp; omega) _).setCell (by simp; omega) _).setCell (by simp; omega) _)
  have HFr2 := hide (show FrameAt W2 g1 g2 c u.yr by rw [← hW2]; exact ((HFr.out.far (by simp; omega) (by simp; omega) _).far (by simp; omega) (by simp; omega) _).far (by simp; omega) (by simp; omega) _)
  have hz2 : w.heap.size + 1 + 1 < W2.heap.size := by rw [← hW2]; simpa using hsz
  have R0 : W2.cell? ⟨w.heap.size + 1 + 1, 0, none⟩ = some (.int .i64 u.yr) := by rw [← hW2]; simp (maxDischargeDepth := 9) [World.cell?_setCell_same', World.cell?_setCell_other, r0, r1, r2]
  have F0 : W2.frozen? ⟨w.heap.size + 1 + 1, 0, none⟩ = false := by rw [← hW2]; simp [f0, f1, f2]
  have R1 : W2.cell? ⟨w.heap.size + 1 + 1, 1, none⟩ = some (.slice (some ⟨g1, 0, none⟩) (nWk c u.yr) cap) := by rw [← hW2]; simp (maxDischargeDepth := 9) [World.cell?_setCell_same', World.cell?_setCell_other, r0, r1, r2]
  have F1 : W2.frozen? ⟨w.heap.size + 1 + 1, 1, none⟩ = false := by rw [← hW2]; simp [f0, f1, f2]
  have R2 : W2.cell? ⟨w.heap.size + 1 + 1, 2, none⟩ = some (.slice (some ⟨g2, 0, none⟩) (nPer c u.yr) (nPer c u.yr)) := by rw [← hW2]; simp (maxDischargeDepth := 9) [World.cell?_setCell_same', World.cell?_setCell_other, r0, r1, r2]
  have F2 : W2.frozen? ⟨w.heap.size + 1 + 1, 2, none⟩ = false := by rw [← hW2]; simp [f0, f1, f2]
  clear hW2 r0 r1 r2 f0 f1 f2 u0 u1 u2
  refine (fweeks_yes c u.yr u _ cap g1 g2 HF.out.2.2.1 HF.out.2.2.2.1 HF.out.2.2.2.2.2.2 HFr2.out.2 (uI u) HX.out HI.out).mono ?_
  rintro e w3 ⟨rfl, hb3⟩
  have r0 : w3.cell? ⟨w.heap.size + 1 + 1, 0, none⟩ = some (.int .i64 u.yr) := by rw [hb3.cell (p := ⟨w.heap.size + 1 + 1, 0, none⟩) hz2]; exact R0
  have f0 : w3.frozen? ⟨w.heap.size + 1 + 1, 0, none⟩ = false := by rw [hb3.frozen (p := ⟨w.heap.size + 1 + 1, 0, none⟩) hz2]; exact F0
  have r1 : w3.cell? ⟨w.heap.size + 1 + 1, 1, none⟩ = some (.slice (some ⟨g1, 0, none⟩) (nWk c u.yr) cap) := by rw [hb3.cell (p := ⟨w.heap.size + 1 + 1, 1, none⟩) hz2]; exact R1
  have f1 : w3.frozen? ⟨w.heap.size + 1 + 1, 1, none⟩ = false := by rw [hb3.frozen (p := ⟨w.heap.size + 1 + 1, 1, none⟩) hz2]; exact F1
  have r2 : w3.cell? ⟨w.heap.size + 1 + 1, 2, none⟩ = some (.slice (some ⟨g2, 0, none⟩) (nPer c u.yr) (nPer c u.yr)) := by rw [hb3.cell (p := ⟨w.heap.size + 1 + 1, 2, none⟩) hz2]; exact R2
  have f2 : w3.frozen? ⟨w.heap.size + 1 + 1, 2, none⟩ = false := by rw [hb3.frozen (p := ⟨w.heap.size + 1 + 1, 2, none⟩) hz2]; exact F2
  have hsz3 : w.heap.size + 1 + 1 < w3.heap.size := Nat.lt_of_lt_of_le hz2 hb3.size
  have HFr3 := hide (HFr2.out.call hb3)
  have HW3 := hide (HW2.out.trans (hb3.mono (by omega)))
  clear hb3 R0 R1 R2 F0 F1 F2
  go_wp2
  refine bodyPost_ret (v := .tuple #[yearV u.yr (nWk c u.yr) cap g1 (nPer c u.yr) g2, .int .i64 ((cutA c u : Int) + 1), .int .i64 (cutB c u : Int), .int .i64 0]) (by simp (maxDischargeDepth := 9) [results, Tryz.results24, go_sem, r0, r1, r2, f0, f1, f2, hsz3, cutA, cutB]) rfl ⟨g1, cap, g2, by omega, by omega, rfl, hc1, hc2, ?_, ((HW3.out.setCell (by simp; omega) _).setCell (by simp; omega) _).setCell (by simp; omega) _⟩
  exact ((HFr3.out.far (by simp; omega) (by simp; omega) _).far (by simp; omega) (by simp; omega) _).far (by simp; omega) (by simp; omega) _

theorem known_not (c : Cal) (u : Un) (w : World) (hn : c.name.size ≤ 1000) (hE : ¬ unitE c u = 0) :
    Calls Tryz.prog 24 #[calV c, unitV u] w fun e w' => e = .returned (.tuple #[.agg #[.int .i64 0, .slice none 0 0, .slice none 0 0], .int .i64 0, .int .i64 0, .int .i64 (unitE c u)]) ∧ Below w.heap.size w w' := by
  by_cases hf : frameE c u.lv u.yr = 0
  · refine known_none c u w hn hf ?_
    unfold unitE at hE
    rw [if_pos hf] at hE
    split at hE
    · exact absurd rfl hE
    · omega
  · exact known_bad c u w hn hf

/-- How many units; 0, if they are not told. -/
def countV (c : Cal) (lv y : Int) : Int := if frameE c lv y = 0 then (cntL c y lv : Int) else 0
/-- A unit's first and last day. -/
def spanF (c : Cal) (u : Un) : Int := dayW c u.yr (cutA c u)
def spanT (c : Cal) (u : Un) : Int := dayW c u.yr (cutB c u) - 1
def spV (c : Cal) (u : Un) : Sp := if unitE c u = 0 then ⟨spanF c u, spanT c u⟩ else ⟨0, 0⟩
def upE (c : Cal) (u : Un) (lv : Int) : Int := if unitE c u = 0 then (if 1 ≤ lv ∧ lv ≤ u.lv then 0 else 1) else unitE c u
def upV (c : Cal) (u : Un) (lv : Int) : Un := if upE c u lv = 0 then ⟨lv, u.yr, (ixN c u.yr lv (cutA c u) : Int) + 1⟩ else ⟨0, 0, 0⟩
def dnE (c : Cal) (u : Un) (lv : Int) : Int := if unitE c u = 0 then (if u.lv ≤ lv ∧ lv ≤ 5 then 0 else 1) else unitE c u
def dnA (c : Cal) (u : Un) (lv : Int) : Un := if dnE c u lv = 0 then ⟨lv, u.yr, (ixN c u.yr lv (cutA c u) : Int) + 1⟩ else ⟨0, 0, 0⟩
def dnB (c : Cal) (u : Un) (lv : Int) : Un := if dnE c u lv = 0 then ⟨lv, u.yr, (ixN c u.yr lv (cutB c u - 1) : Int) + 1⟩ else ⟨0, 0, 0⟩

set_option maxRecDepth 100000 in
set_option maxHeartbeats 1600000 in
theorem count_any (c : Cal) (lv y : Int) (w : World) (hn : c.name.size ≤ 1000) :
    Calls Tryz.prog 69 #[calV c, .int .i64 lv, .int .i64 y] w fun e w' => e = .returned (.tuple #[.int .i64 (countV c lv y), .int .i64 (frameE c lv y)]) ∧ Below w.heap.size w w' := by
  by_cases hE : frameE c lv y = 0
  · have HV := hide (show countV c lv y = (cntL c y lv : Int) by simp [countV, hE])
    have HF := hide (frame_ok hE)
    have HE := hide hE
    clear hE
    simp only [calV]
    go_enter Tryz.func69, Tryz.ntmps69
    go_wp2_with fail
    refine (make_yes c lv y _ hn HE.out).mono ?_
    rintro e w1 ⟨g1, cap, g2, hG1, hG2, rfl, hc1, hc2, hFr, hb1⟩
    have HW := hide (show Below w.heap.size w w1 by (repeat' exact bel))
    have hz1 : w.heap.size < w1.heap.size := by have := hb1.size; simp at this; omega
    have HFr := hide hFr
    clear hb1 hFr
    go_wp2_with fail
    refine (fcount_any c y lv _ cap g1 g2 HF.out.2.2.1 HF.out.2.2.2.1 HF.out.2.2.2.2.2.2 (HFr.out.alloc _).2).mono ?_
    rintro e w2 ⟨rfl, hb2⟩
    go_wp2
    go_ret2
    exact ⟨ret_int2 HV.out.symm HE.out.symm, Below.trans (HW.out.alloc (by omega) _) (hb2.mono (by simp; omega))⟩
  · have HV := hide (show countV c lv y = 0 by simp [countV, hE])
    have hE' : (frameE c lv y != 0) = true := by simpa using hE
    have HE := hide hE
    clear hE
    simp only [calV]
    go_enter Tryz.func69, Tryz.ntmps69
    go_wp2_with fail
    refine (make_no c lv y _ hn HE.out).mono ?_
    rintro e w1 ⟨rfl, hb1⟩
    have hz1 : w.heap.size < w1.heap.size := by have := hb1.size; simp at this; omega
    go_wp2
    go_ret2
    exact ⟨ret_int2 HV.out.symm rfl, by (repeat' exact bel)⟩

set_option maxRecDepth 100000 in
set_option maxHeartbeats 1600000 in
theorem uspan_no (c : Cal) (u : Un) (w : World) (hn : c.name.size ≤ 1000) (hE : ¬ unitE c u = 0) :
    Calls Tryz.prog 12 #[calV c, unitV u] w fun e w' => e = .returned (.tuple #[.agg #[.int .i64 0, .int .i64 0], .int .i64 (unitE c u)]) ∧ Below w.heap.size w w' := by
  have hE' : (unitE c u != 0) = true := by simpa using hE
  have HE := hide hE
  clear hE
  simp only [calV, unitV]
  go_enter Tryz.func12, Tryz.ntmps12
  go_wp2_with fail
  refine (known_not c u _ hn HE.out).mono ?_
  rintro e w1 ⟨rfl, hb1⟩
  have r0 : w1.cell? ⟨w.heap.size + 1 + 1, 0, none⟩ = some (.int .i64 0) := by rw [hb1.cell (p := ⟨w.heap.size + 1 + 1, 0, none⟩) (by simp; try omega)]; simp [World.cell?_alloc_at, World.cell?_alloc_past, World.frozen?_alloc_at, World.frozen?_alloc_past]
  have f0 : w1.frozen? ⟨w.heap.size + 1 + 1, 0, none⟩ = false := by rw [hb1.frozen (p := ⟨w.heap.size + 1 + 1, 0, none⟩) (by simp; try omega)]; simp [World.cell?_alloc_at, World.cell?_alloc_past, World.frozen?_alloc_at, World.frozen?_alloc_past]
  have r1 : w1.cell? ⟨w.heap.size + 1 + 1, 1, none⟩ = some (.int .i64 0) := by rw [hb1.cell (p := ⟨w.heap.size + 1 + 1, 1, none⟩) (by simp; try omega)]; simp [World.cell?_alloc_at, World.cell?_alloc_past, World.frozen?_alloc_at, World.frozen?_alloc_past]
  have f1 : w1.frozen? ⟨w.heap.size + 1 + 1, 1, none⟩ = false := by rw [hb1.frozen (p := ⟨w.heap.size + 1 + 1, 1, none⟩) (by simp; try omega)]; simp [World.cell?_alloc_at, World.cell?_alloc_past, World.frozen?_alloc_at, World.frozen?_alloc_past]
  have hsz : w.heap.size + 1 + 1 < w1.heap.size := by have := hb1.size; simp at this; omega
  have hsz1 : w.heap.size + 1 < w1.heap.size := by omega
  have HW := hide (show Below w.heap.size w w1 by (repeat' exact bel))
  clear hb1
  go_wp2
  exact bodyPost_ret (v := .tuple #[.agg #[.int .i64 0, .int .i64 0], .int .i64 (unitE c u)]) (by simp (maxDischargeDepth := 9) [results, Tryz.results12, go_sem, r0, r1, f0, f1, hsz]) rfl ⟨rfl, by have hWo := HW.out; (repeat' exact bel)⟩

set_option maxRecDepth 100000 in
set_option maxHeartbeats 1600000 in
theorem uspan_yes (c : Cal) (u : Un) (w : World) (hn : c.name.size ≤ 1000) (hE : unitE c u = 0) :
    Calls Tryz.prog 12 #[calV c, unitV u] w fun e w' => e = .returned (.tuple #[.agg #[.int .i64 (spanF c u), .int .i64 (spanT c u)], .int .i64 0]) ∧ Below w.heap.size w w' := by
  have hcut := cutAB hE
  obtain ⟨b, hb⟩ : ∃ b, cutB c u = b + 1 := ⟨cutB c u - 1, by omega⟩
  have HB := hide (show (cutB c u : Int) = (b : Int) + 1 by omega)
  have HBN := hide hb
  have hA : askE c u.yr 1601 = 0 := (frame_ok (unit_ok hE).1).2.2.2.2.2.2
  have HA := hide hA
  have HE := hide hE
  have hal : cutA c u < nWk c u.yr := by omega
  have hbl : b < nWk c u.yr := by omega
  clear hE hA hb hcut
  simp only [calV, unitV]
  go_enter Tryz.func12, Tryz.ntmps12
  go_wp2_with fail
  refine (known_yes c u _ hn HE.out).mono ?_
  rintro e w1 ⟨g1, cap, g2, hG1, hG2, rfl, hc1, hc2, hFr, hb1⟩
  rw [HB.out]
  have r0 : w1.cell? ⟨w.heap.size + 1 + 1, 0, none⟩ = some (.int .i64 0) := by rw [hb1.cell (p := ⟨w.heap.size + 1 + 1, 0, none⟩) (by simp; try omega)]; simp [World.cell?_alloc_at, World.cell?_alloc_past, World.frozen?_alloc_at, World.frozen?_alloc_past]
  have f0 : w1.frozen? ⟨w.heap.size + 1 + 1, 0, none⟩ = false := by rw [hb1.frozen (p := ⟨w.heap.size + 1 + 1, 0, none⟩) (by simp; try omega)]; simp [World.cell?_alloc_at, World.cell?_alloc_past, World.frozen?_alloc_at, World.frozen?_alloc_past]
  have r1 : w1.cell? ⟨w.heap.size + 1 + 1, 1, none⟩ = some (.int .i64 0) := by rw [hb1.cell (p := ⟨w.heap.size + 1 + 1, 1, none⟩) (by simp; try omega)]; simp [World.cell?_alloc_at, World.cell?_alloc_past, World.frozen?_alloc_at, World.frozen?_alloc_past]
  have f1 : w1.frozen? ⟨w.heap.size + 1 + 1, 1, none⟩ = false := by rw [hb1.frozen (p := ⟨w.heap.size + 1 + 1, 1, none⟩) (by simp; try omega)]; simp [World.cell?_alloc_at, World.cell?_alloc_past, World.frozen?_alloc_at, World.frozen?_alloc_past]
  have hsz : w.heap.size + 1 + 1 < w1.heap.size := by have := hb1.size; simp at this; omega
  have hsz1 : w.heap.size + 1 < w1.heap.size := by omega
  have HW := hide (show Below w.heap.size w w1 by (repeat' exact bel))
  have HFr := hide hFr
  clear hb1 hFr
  go_wp2_with fail
  refine (fspan_any c u.yr _ cap g1 g2 HA.out hc1 (HFr.out.alloc _) (cutA c u) b hal hbl).mono ?_
  rintro e w2 ⟨rfl, hb2⟩
  have s0 : w2.cell? ⟨w.heap.size + 1 + 1, 0, none⟩ = some (.int .i64 0) := by rw [hb2.cell (p := ⟨w.heap.size + 1 + 1, 0, none⟩) (by simp; omega), World.cell?_alloc_past _ _ _ hsz]; exact r0
  have h0 : w2.frozen? ⟨w.heap.size + 1 + 1, 0, none⟩ = false := by rw [hb2.frozen (p := ⟨w.heap.size + 1 + 1, 0, none⟩) (by simp; omega), World.frozen?_alloc_past _ _ _ hsz]; exact f0
  have s1 : w2.cell? ⟨w.heap.size + 1 + 1, 1, none⟩ = some (.int .i64 0) := by rw [hb2.cell (p := ⟨w.heap.size + 1 + 1, 1, none⟩) (by simp; omega), World.cell?_alloc_past _ _ _ hsz]; exact r1
  have h1 : w2.frozen? ⟨w.heap.size + 1 + 1, 1, none⟩ = false := by rw [hb2.frozen (p := ⟨w.heap.size + 1 + 1, 1, none⟩) (by simp; omega), World.frozen?_alloc_past _ _ _ hsz]; exact f1
  have hsz2 : w.heap.size + 1 + 1 < w2.heap.size := Nat.lt_of_lt_of_le hsz (Nat.le_trans (by simp) hb2.size)
  have HW2 := hide (Below.trans (HW.out.alloc (by omega) _) (hb2.mono (by simp; omega)) : Below w.heap.size w w2)
  clear hb2 r0 r1 f0 f1
  go_wp2
  exact bodyPost_ret (v := .tuple #[.agg #[.int .i64 (dayW c u.yr (cutA c u)), .int .i64 (dayW c u.yr (b + 1) - 1)], .int .i64 0]) (by simp (maxDischargeDepth := 9) [results, Tryz.results12, go_sem, s0, s1, h0, h1, hsz2]) rfl ⟨by rw [spanF, spanT, HBN.out], by have hWo := HW2.out; (repeat' exact bel)⟩

theorem uspan_any (c : Cal) (u : Un) (w : World) (hn : c.name.size ≤ 1000) :
    Calls Tryz.prog 12 #[calV c, unitV u] w fun e w' => e = .returned (.tuple #[spanV (spV c u), .int .i64 (unitE c u)]) ∧ Below w.heap.size w w' := by
  by_cases hE : unitE c u = 0
  · refine (uspan_yes c u w hn hE).mono ?_
    rintro e w1 ⟨rfl, hb⟩
    exact ⟨by rw [spV, if_pos hE, hE], hb⟩
  · refine (uspan_no c u w hn hE).mono ?_
    rintro e w1 ⟨rfl, hb⟩
    exact ⟨by rw [spV, if_neg hE], hb⟩

/-- A unit lies in that block. -/
def UnBx (w : World) (B : Nat) : Prop := ∃ a b c, BlkIs w B #[a, b, c] 46
theorem UnBx.lt {w : World} {B : Nat} (h : UnBx w B) : B < w.heap.size := by obtain ⟨a, b, c, h⟩ := h; exact h.lt
theorem UnBx.below {w w' : World} {K B : Nat} (h : UnBx w B) (hb : Below K w w') (hB : B < K) : UnBx w' B := by
  obtain ⟨a, b, c, h⟩ := h
  exact ⟨a, b, c, h.below hb hB⟩
theorem UnBx.alloc {w : World} {B : Nat} (h : UnBx w B) (o : Obj) : UnBx (w.alloc o) B := by
  obtain ⟨a, b, c, h⟩ := h
  exact ⟨a, b, c, h.alloc o⟩
theorem UnBx.new (w : World) (a b c : Value) : UnBx (w.alloc (.cells #[a, b, c] 46)) w.heap.size := ⟨a, b, c, BlkIs.new w _ _⟩
@[go_sem] theorem unBx_alloc (w : World) (o : Obj) (B : Nat) (h : B < w.heap.size) : UnBx (w.alloc o) B = UnBx w B := by
  unfold UnBx BlkIs
  rw [Below.heap_alloc w o B h]
@[go_sem] theorem unBx_drew (w : World) (B : Nat) : UnBx w.drew B = UnBx w B := rfl
@[go_sem] theorem unBx_drewN (w : World) (n B : Nat) : UnBx (w.drewN n) B = UnBx w B := by
  unfold UnBx BlkIs
  rw [show (w.drewN n).heap = w.heap from rfl]
theorem BlkIs.row {w : World} {B : Nat} (h : UnBx w B) (cs : Array Value) : BlkIs (w.setRow B cs) B cs 46 := by
  obtain ⟨a, b, c, h⟩ := h
  exact setRow_heap w B _ cs _ _ h
theorem BlkIs.rowOther {w : World} {B g : Nat} {cs : Array Value} {t : TypeId} (h : BlkIs w B cs t) (hne : B ≠ g) (xs : Array Value) : BlkIs (w.setRow g xs) B cs t :=
  (setRow_other w g B xs hne).trans h
theorem UnBx.rowOther {w : World} {B g : Nat} (h : UnBx w B) (hne : B ≠ g) (xs : Array Value) : UnBx (w.setRow g xs) B := by
  obtain ⟨a, b, c, h⟩ := h
  exact ⟨a, b, c, h.rowOther hne xs⟩
@[go_sem] theorem unBx_other (w : World) (B g : Nat) (xs : Array Value) (hne : B ≠ g) : UnBx (w.setRow g xs) B = UnBx w B := by
  unfold UnBx BlkIs
  rw [setRow_other w g B xs hne]
theorem store_unit (w : World) (B : Nat) (x y z : Int) (h : UnBx w B) :
    (storeVar 46 ⟨B, 0, none⟩ (.agg #[.int .i64 x, .int .i64 y, .int .i64 z])).run Tryz.prog w = .ok () (w.setRow B #[.int .i64 x, .int .i64 y, .int .i64 z]) := by
  obtain ⟨a, b, c, h⟩ := h
  exact run_storeVar_row w B _ _ _ _ h (by kernel_rfl) rfl (by simp [Value.oneCell'])
@[go_sem] theorem cell_row_other (w : World) (g : Nat) (cs : Array Value) (a : Addr) (h : a.block ≠ g) : (w.setRow g cs).cell? a = w.cell? a := cell_setRow_other w g cs a h
theorem BlkIs.set123 {w : World} {B : Nat} {a b c : Value} {t : TypeId} (h : BlkIs w B #[a, b, c] t) (x y z : Value) : BlkIs (((w.setCell ⟨B, 0, none⟩ x).setCell ⟨B, 1, none⟩ y).setCell ⟨B, 2, none⟩ z) B #[x, y, z] t := by
  unfold BlkIs at h ⊢
  simp [World.setCell, Array.getElem?_modify, h]
/-- The frame, and the blocks of the results. -/
def DnSt (c : Cal) (u : Un) (F g1 cap g2 B6 B7 : Nat) (w : World) : Prop := BlkIs w F #[.int .i64 u.yr, .slice (some ⟨g1, 0, none⟩) (nWk c u.yr) cap, .slice (some ⟨g2, 0, none⟩) (nPer c u.yr) (nPer c u.yr)] 67 ∧ IntsAt w g2 (perL c u.yr) ∧ BlkIs w B6 #[.int .i64 0, .int .i64 0, .int .i64 0] 46 ∧ BlkIs w B7 #[.int .i64 0, .int .i64 0, .int .i64 0] 46
theorem DnSt.call {c : Cal} {u : Un} {F g1 cap g2 B6 B7 : Nat} {w w' : World} (h : DnSt c u F g1 cap g2 B6 B7 w) (hb : Below w.heap.size w w') : DnSt c u F g1 cap g2 B6 B7 w' :=
  ⟨h.1.call hb, h.2.1.call hb, h.2.2.1.call hb, h.2.2.2.call hb⟩
theorem DnSt.drew {c : Cal} {u : Un} {F g1 cap g2 B6 B7 : Nat} {w : World} (h : DnSt c u F g1 cap g2 B6 B7 w) : DnSt c u F g1 cap g2 B6 B7 w.drew := h
theorem DnSt.load {c : Cal} {u : Un} {F g1 cap g2 B6 B7 : Nat} {w' : World} (h : DnSt c u F g1 cap g2 B6 B7 w') : w'.cell? ⟨F, 0, none⟩ = some (.int .i64 u.yr) ∧ w'.cell? ⟨F, 1, none⟩ = some (.slice (some ⟨g1, 0, none⟩) (nWk c u.yr) cap) ∧ w'.cell? ⟨F, 2, none⟩ = some (.slice (some ⟨g2, 0, none⟩) (nPer c u.yr) (nPer c u.yr)) :=
  ⟨h.1.cell 0, h.1.cell 1, h.1.cell 2⟩
theorem DnSt.res {c : Cal} {u : Un} {F g1 cap g2 B6 B7 : Nat} {w' : World} (h : DnSt c u F g1 cap g2 B6 B7 w') :
    (w'.cell? ⟨B6, 0, none⟩ = some (.int .i64 0) ∧ w'.cell? ⟨B6, 1, none⟩ = some (.int .i64 0) ∧ w'.cell? ⟨B6, 2, none⟩ = some (.int .i64 0)) ∧ (w'.cell? ⟨B7, 0, none⟩ = some (.int .i64 0) ∧ w'.cell? ⟨B7, 1, none⟩ = some (.int .i64 0) ∧ w'.cell? ⟨B7, 2, none⟩ = some (.int .i64 0)) ∧
    (w'.frozen? ⟨B6, 0, none⟩ = false ∧ w'.frozen? ⟨B6, 1, none⟩ = false ∧ w'.frozen? ⟨B6, 2, none⟩ = false) ∧ (w'.frozen? ⟨B7, 0, none⟩ = false ∧ w'.frozen? ⟨B7, 1, none⟩ = false ∧ w'.frozen? ⟨B7, 2, none⟩ = false) :=
  ⟨⟨h.2.2.1.cell 0, h.2.2.1.cell 1, h.2.2.1.cell 2⟩, ⟨h.2.2.2.cell 0, h.2.2.2.cell 1, h.2.2.2.cell 2⟩, ⟨h.2.2.1.frozen 0, h.2.2.1.frozen 1, h.2.2.1.frozen 2⟩, ⟨h.2.2.2.frozen 0, h.2.2.2.frozen 1, h.2.2.2.frozen 2⟩⟩

theorem un_lv {c : Cal} {u : Un} (h : unitE c u = 0) : frameE c u.lv u.yr = 0 ∧ 1 ≤ u.lv ∧ u.lv ≤ 5 ∧ askE c u.yr 1601 = 0 ∧ u.ix = (uI u : Int) + 1 ∧ uI u < cntL c u.yr u.lv := by
  obtain ⟨hf, hx, hi⟩ := unit_ok h
  obtain ⟨hok, hok2, h1, h5, hy1, hy2, hA⟩ := frame_ok hf
  exact ⟨hf, h1, h5, hA, hx, hi⟩
theorem frame_lv {c : Cal} {lv y : Int} (h : frameE c lv y = 0) (lv2 : Int) (h1 : 1 ≤ lv2) (h5 : lv2 ≤ 5) : frameE c lv2 y = 0 := by
  obtain ⟨hok, hok2, _, _, hy1, hy2, hA⟩ := frame_ok h
  exact frame_is hok h1 h5 hy1 hy2
theorem sp_get {c : Cal} {u : Un} (h : unitE c u = 0) : spV c u = ⟨dayW c u.yr (cutA c u), dayW c u.yr (cutB c u) - 1⟩ := by
  simp [spV, h, spanF, spanT]
theorem un_mk {c : Cal} {lv y : Int} (hf : frameE c lv y = 0) (i : Nat) (hi : i < cntL c y lv) :
    unitE c ⟨lv, y, (i : Int) + 1⟩ = 0 ∧ cutA c ⟨lv, y, (i : Int) + 1⟩ = cutN c y lv i ∧ cutB c ⟨lv, y, (i : Int) + 1⟩ = cutN c y lv (i + 1) := by
  have e : uI ⟨lv, y, (i : Int) + 1⟩ = i := by simp [uI]
  exact ⟨unit_is hf (by simp; omega) (by simp; omega), by simp [cutA, e], by simp [cutB, e]⟩
/-- The days of the unit behind i of them. -/
theorem sp_mk {c : Cal} {lv y : Int} (hf : frameE c lv y = 0) (i : Nat) (hi : i < cntL c y lv) :
    spV c ⟨lv, y, (i : Int) + 1⟩ = ⟨dayW c y (cutN c y lv i), dayW c y (cutN c y lv (i + 1)) - 1⟩ := by
  obtain ⟨h, ha, hb⟩ := un_mk hf i hi
  rw [sp_get h, ha, hb]
theorem up_facts {c : Cal} {u : Un} {lv : Int} (h : unitE c u = 0) (h1 : 1 ≤ lv) (h2 : lv ≤ u.lv) :
    ∃ k : Nat, upE c u lv = 0 ∧ upV c u lv = ⟨lv, u.yr, (k : Int) + 1⟩ ∧ k < cntL c u.yr lv ∧ cutN c u.yr lv k ≤ cutA c u ∧ cutB c u ≤ cutN c u.yr lv (k + 1) := by
  obtain ⟨hf, hl1, hl5, hA, hx, hi⟩ := un_lv h
  obtain ⟨e1, e2, e3⟩ := up_ok c u.yr hA lv u.lv h1 h2 hl5 (uI u) hi
  have h0 : upE c u lv = 0 := by unfold upE; rw [if_pos h, if_pos ⟨h1, h2⟩]
  exact ⟨_, h0, by rw [upV, if_pos h0]; rfl, e1, e2, e3⟩
theorem up_bad_arg {c : Cal} {u : Un} {lv : Int} (h : unitE c u = 0) (hl : ¬ (1 ≤ lv ∧ lv ≤ u.lv)) : upE c u lv = 1 ∧ upV c u lv = ⟨0, 0, 0⟩ := by
  have h0 : upE c u lv = 1 := by unfold upE; rw [if_pos h, if_neg hl]
  exact ⟨h0, by rw [upV, if_neg (by omega)]⟩
theorem up_bad_unit {c : Cal} {u : Un} {lv : Int} (h : ¬ unitE c u = 0) : upE c u lv = unitE c u ∧ upV c u lv = ⟨0, 0, 0⟩ := by
  have h0 : upE c u lv = unitE c u := by unfold upE; rw [if_neg h]
  exact ⟨h0, by rw [upV, if_neg (by omega)]⟩
/-- The unit of a level in which weeks lie is one. -/
theorem ix_uniq {c : Cal} {y lv : Int} (hA : askE c y 1601 = 0) (h1 : 1 ≤ lv) (h5 : lv ≤ 5) {i j a b : Nat} (hab : a < b) (hi : i < cntL c y lv) (hj : j < cntL c y lv) (hb : b ≤ nWk c y)
    (ha : cutN c y lv i ≤ a) (ha2 : b ≤ cutN c y lv (i + 1)) (hc : cutN c y lv j ≤ a) (hc2 : b ≤ cutN c y lv (j + 1)) : i = j := by
  have e1 := ix_eq c y hA lv h1 h5 a i hi ha (by omega)
  have e2 := ix_eq c y hA lv h1 h5 a j hj hc (by omega)
  omega
theorem cnt_5 (c : Cal) (y : Int) : cntL c y 5 = nWk c y := by simp [cntL]
theorem cnt_4 (c : Cal) (y : Int) : cntL c y 4 = nPer c y := by simp [cntL]
theorem count_yes {c : Cal} {lv y : Int} (h : frameE c lv y = 0) : countV c lv y = (cntL c y lv : Int) := by simp [countV, h]
theorem count_no {c : Cal} {lv y : Int} (h : ¬ frameE c lv y = 0) : countV c lv y = 0 := by simp [countV, h]

def unB (a b c x y z : Int) : Bool := a == x && (b == y && c == z)
theorem unB_same (a b c : Int) : unB a b c a b c = true := by simp [unB]
theorem unB_eq {a b c x y z : Int} (h1 : a = x) (h2 : b = y) (h3 : c = z) : unB a b c x y z = true := by simp [unB, h1, h2, h3]
theorem unB_ne {a b c x y z : Int} (h : a ≠ x ∨ b ≠ y ∨ c ≠ z) : unB a b c x y z = false := by
  simp [unB]; omega
/-- What '==' says of two units. -/
theorem eqUnit (d : Nat) (a b c x y z : Int) (w : World) : (Op.equalIn (d + 2) 46 (.agg #[.int .i64 a, .int .i64 b, .int .i64 c]) (.agg #[.int .i64 x, .int .i64 y, .int .i64 z])).run Tryz.prog w = .ok (unB a b c x y z) w := by
  have u3 := Tryz.underlying3
  have a3 := Tryz.isAgg3
  have z3 := Tryz.sizeOf3
  rw [run_equalIn_struct w _ _ _ _ (by simp [Program.fieldsOf, Tryz.underlying46]) (by kernel_rfl)]
  simp only [Program.fieldsOf, Tryz.underlying46]
  go_simp
  by_cases h1 : a = x <;> by_cases h2 : b = y <;> by_cases h3 : c = z <;> simp [unB, h1, h2, h3]
@[go_sem high] theorem eql_unit (a b c x y z : Int) (w : World) : (binOp .eql 46 (.agg #[.int .i64 a, .int .i64 b, .int .i64 c]) (.agg #[.int .i64 x, .int .i64 y, .int .i64 z])).run Tryz.prog w = .ok (.bool (unB a b c x y z)) w := by
  rw [run_eql_struct, eqUnit 9998]; rfl
@[go_sem high] theorem neq_unit (a b c x y z : Int) (w : World) : (binOp .neq 46 (.agg #[.int .i64 a, .int .i64 b, .int .i64 c]) (.agg #[.int .i64 x, .int .i64 y, .int .i64 z])).run Tryz.prog w = .ok (.bool (!unB a b c x y z)) w := by
  rw [run_neq_struct, eqUnit 9998]; rfl
def spB (a b x y : Int) : Bool := a == x && b == y
theorem spB_same (a b : Int) : spB a b a b = true := by simp [spB]
theorem spB_ne {a b x y : Int} (h : a ≠ x ∨ b ≠ y) : spB a b x y = false := by
  simp [spB]; omega
theorem eqSpan (d : Nat) (a b x y : Int) (w : World) : (Op.equalIn (d + 2) 26 (.agg #[.int .i64 a, .int .i64 b]) (.agg #[.int .i64 x, .int .i64 y])).run Tryz.prog w = .ok (spB a b x y) w := by
  have u3 := Tryz.underlying3
  have a3 := Tryz.isAgg3
  have z3 := Tryz.sizeOf3
  rw [run_equalIn_struct w _ _ _ _ (by simp [Program.fieldsOf, Tryz.underlying26]) (by kernel_rfl)]
  simp only [Program.fieldsOf, Tryz.underlying26]
  go_simp
  by_cases h1 : a = x <;> by_cases h2 : b = y <;> simp [spB, h1, h2]
@[go_sem high] theorem eql_span (a b x y : Int) (w : World) : (binOp .eql 26 (.agg #[.int .i64 a, .int .i64 b]) (.agg #[.int .i64 x, .int .i64 y])).run Tryz.prog w = .ok (.bool (spB a b x y)) w := by
  rw [run_eql_struct, eqSpan 9998]; rfl
@[go_sem high] theorem neq_span (a b x y : Int) (w : World) : (binOp .neq 26 (.agg #[.int .i64 a, .int .i64 b]) (.agg #[.int .i64 x, .int .i64 y])).run Tryz.prog w = .ok (.bool (!spB a b x y)) w := by
  rw [run_neq_struct, eqSpan 9998]; rfl
end Go.Proofs.YtjhhmeoibfdcmaaGreatDoor

namespace Go.Proofs.YtjhhmeoibfdcmaaGreatDoor
open Go.RowKit Qd
set_option linter.unusedSimpArgs false
set_option linter.unusedVariables false

abbrev UnAt (w : World) (B : Nat) (u : Un) : Prop :=
  w.cell? ⟨B, 0, none⟩ = some (.int .i64 u.lv) ∧ w.cell? ⟨B, 1, none⟩ = some (.int .i64 u.yr) ∧ w.cell? ⟨B, 2, none⟩ = some (.int .i64 u.ix)
abbrev unObj (u : Un) : Obj := .cells #[.int .i64 u.lv, .int .i64 u.yr, .int .i64 u.ix] 46
theorem unAt_new (w : World) (c : Cal) (u : Un) : UnAt ((w.alloc (calObj c)).alloc (unObj u)) (w.heap.size + 1) u := by
  refine ⟨?_, ?_, ?_⟩ <;> simp [World.cell?_alloc_at]
theorem unAt_fresh (w : World) (u : Un) : UnAt (w.alloc (unObj u)) w.heap.size u := by
  refine ⟨?_, ?_, ?_⟩ <;> simp [World.cell?_alloc_at]
theorem unAt_same {W W' : World} {B : Nat} {u : Un} (h : ∀ o, W'.cell? ⟨B, o, none⟩ = W.cell? ⟨B, o, none⟩) (Q : UnAt W B u) : UnAt W' B u := by
  obtain ⟨q0, q1, q2⟩ := Q
  exact ⟨(h 0).trans q0, (h 1).trans q1, (h 2).trans q2⟩
theorem unAt_below {W W' : World} {B K : Nat} {u : Un} (hb : Below K W W') (hB : B < K) (Q : UnAt W B u) : UnAt W' B u :=
  unAt_same (fun o => hb.cell (p := ⟨B, o, none⟩) hB) Q
theorem unAt_alloc {W : World} {B : Nat} {u : Un} (Q : UnAt W B u) (hB : B < W.heap.size) (o : Obj) : UnAt (W.alloc o) B u :=
  unAt_same (fun i => World.cell?_alloc_lt W o ⟨B, i, none⟩ hB) Q
abbrev SpAt (w : World) (B : Nat) (s : Sp) : Prop := w.cell? ⟨B, 0, none⟩ = some (.int .i64 s.a) ∧ w.cell? ⟨B, 1, none⟩ = some (.int .i64 s.b)
abbrev spObj (s : Sp) : Obj := .cells #[.int .i64 s.a, .int .i64 s.b] 26
theorem spAt_fresh (w : World) (s : Sp) : SpAt (w.alloc (spObj s)) w.heap.size s := by
  refine ⟨?_, ?_⟩ <;> simp [World.cell?_alloc_at]
theorem spAt_below {W W' : World} {B K : Nat} {s : Sp} (hb : Below K W W') (hB : B < K) (Q : SpAt W B s) : SpAt W' B s :=
  ⟨(hb.cell (p := ⟨B, 0, none⟩) hB).trans Q.1, (hb.cell (p := ⟨B, 1, none⟩) hB).trans Q.2⟩
theorem spAt_alloc {W : World} {B : Nat} {s : Sp} (Q : SpAt W B s) (hB : B < W.heap.size) (o : Obj) : SpAt (W.alloc o) B s :=
  ⟨(World.cell?_alloc_lt W o ⟨B, 0, none⟩ hB).trans Q.1, (World.cell?_alloc_lt W o ⟨B, 1, none⟩ hB).trans Q.2⟩
end Go.Proofs.YtjhhmeoibfdcmaaGreatDoor
