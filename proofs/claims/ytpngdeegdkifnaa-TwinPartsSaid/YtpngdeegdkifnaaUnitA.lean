/- Contracts of units: known. -/
import Derived.Test.YtpngdeegdkifnaaFrameJ
namespace Go.Proofs.Ytpngdeegdkifnaa
open Go.RowKit Qd
set_option linter.unusedSimpArgs false
set_option linter.unusedVariables false

/-- Why a unit is not told. -/
def unitE (c : Cal) (u : Un) : Int := if frameE c u.lv u.yr = 0 then (if 1 ≤ u.ix ∧ u.ix ≤ (cntL c u.yr u.lv : Int) then 0 else 13) else frameE c u.lv u.yr
/-- Which one of its level it is, counted from 0. -/
def uI (u : Un) : Nat := (u.ix - 1).toNat
theorem unit_ok {c : Cal} {u : Un} (h : unitE c u = 0) : frameE c u.lv u.yr = 0 ∧ u.ix = (uI u : Int) + 1 ∧ uI u < cntL c u.yr u.lv := by
  unfold unitE at h
  split at h
  · rename_i hf
    split at h
    · rename_i hx
      unfold uI
      exact ⟨hf, by omega, by omega⟩
    · omega
  · rename_i hf
    exact absurd h hf
theorem unit_is {c : Cal} {u : Un} (h : frameE c u.lv u.yr = 0) (h1 : 1 ≤ u.ix) (h2 : u.ix ≤ (cntL c u.yr u.lv : Int)) : unitE c u = 0 := by
  unfold unitE
  rw [if_pos h, if_pos ⟨h1, h2⟩]
/-- The weeks ahead of a unit, and up to it. -/
def cutA (c : Cal) (u : Un) : Nat := cutN c u.yr u.lv (uI u)
def cutB (c : Cal) (u : Un) : Nat := cutN c u.yr u.lv (uI u + 1)
theorem cutAB {c : Cal} {u : Un} (h : unitE c u = 0) : cutA c u < cutB c u ∧ cutB c u ≤ nWk c u.yr := by
  obtain ⟨hf, hx, hi⟩ := unit_ok h
  obtain ⟨hok, hok2, h1, h5, hy1, hy2, hA⟩ := frame_ok hf
  exact ⟨cut_lt c u.yr hA u.lv h1 h5 _ hi, cut_le_nWk c u.yr hA u.lv h1 h5 _ (by omega)⟩
def KnownPost (c : Cal) (u : Un) (w : World) (e : Ending) (w' : World) : Prop :=
  ∃ g1 cap g2, w.heap.size ≤ g1 ∧ w.heap.size ≤ g2 ∧ e = .returned (.tuple #[yearV u.yr (nWk c u.yr) cap g1 (nPer c u.yr) g2, .int .i64 ((cutA c u : Int) + 1), .int .i64 (cutB c u : Int), .int .i64 0]) ∧ nWk c u.yr ≤ cap ∧ cap ≤ maxLen ∧ FrameAt w' g1 g2 c u.yr ∧ Below w.heap.size w w'

set_option maxRecDepth 100000 in
set_option maxHeartbeats 1600000 in
theorem known_bad (c : Cal) (u : Un) (w : World) (hn : c.name.size ≤ 1000) (hE : ¬ frameE c u.lv u.yr = 0) :
    Calls Try.prog 42 #[calV c, unitV u] w fun e w' => e = .returned (.tuple #[.agg #[.int .i64 0, .slice none 0 0, .slice none 0 0], .int .i64 0, .int .i64 0, .int .i64 (unitE c u)]) ∧ Below w.heap.size w w' := by
  have hU := hide (show unitE c u = frameE c u.lv u.yr by unfold unitE; rw [if_neg hE])
  have hE' : (frameE c u.lv u.yr != 0) = true := by simpa using hE
  have HE := hide hE
  clear hE
  simp only [calV, unitV]
  go_enter Try.func42, Try.ntmps42
  go_wp2_with fail
  refine (make_no c u.lv u.yr _ hn HE.out).mono ?_
  rintro e w1 ⟨rfl, hb1⟩
  have r0 : w1.cell? ⟨w.heap.size + 1 + 1, 0, none⟩ = some (.int .i64 0) := by rw [hb1.cell (p := ⟨w.heap.size + 1 + 1, 0, none⟩) (by simp; try omega)]; simp [World.cell?_alloc_at, World.cell?_alloc_past, World.frozen?_alloc_at, World.frozen?_alloc_past]
  have f0 : w1.frozen? ⟨w.heap.size + 1 + 1, 0, none⟩ = false := by rw [hb1.frozen (p := ⟨w.heap.size + 1 + 1, 0, none⟩) (by simp; try omega)]; simp [World.cell?_alloc_at, World.cell?_alloc_past, World.frozen?_alloc_at, World.frozen?_alloc_past]
  have r1 : w1.cell? ⟨w.heap.size + 1 + 1, 1, none⟩ = some (.slice none 0 0) := by rw [hb1.cell (p := ⟨w.heap.size + 1 + 1, 1, none⟩) (by simp; try omega)]; simp [World.cell?_alloc_at, World.cell?_alloc_past, World.frozen?_alloc_at, World.frozen?_alloc_past]
  have f1 : w1.frozen? ⟨w.heap.size + 1 + 1, 1, none⟩ = false := by rw [hb1.frozen (p := ⟨w.heap.size + 1 + 1, 1, none⟩) (by simp; try omega)]; simp [World.cell?_alloc_at, World.cell?_alloc_past, World.frozen?_alloc_at, World.frozen?_alloc_past]
  have r2 : w1.cell? ⟨w.heap.size + 1 + 1, 2, none⟩ = some (.slice none 0 0) := by rw [hb1.cell (p := ⟨w.heap.size + 1 + 1, 2, none⟩) (by simp; try omega)]; simp [World.cell?_alloc_at, World.cell?_alloc_past, World.frozen?_alloc_at, World.frozen?_alloc_past]
  have f2 : w1.frozen? ⟨w.heap.size + 1 + 1, 2, none⟩ = false := by rw [hb1.frozen (p := ⟨w.heap.size + 1 + 1, 2, none⟩) (by simp; try omega)]; simp [World.cell?_alloc_at, World.cell?_alloc_past, World.frozen?_alloc_at, World.frozen?_alloc_past]
  have hsz : w.heap.size + 1 + 1 < w1.heap.size := by have := hb1.size; simp at this; omega
  have HW := hide (show Below w.heap.size w w1 by (repeat' (first | (with_reducible exact Below.refl _ _) | (with_reducible assumption) | (with_reducible refine Below.alloc ?_ ?_ _) | (with_reducible refine below_drewN ?_ _) | (with_reducible refine Below.drew ?_) | (with_reducible refine Below.setCell ?_ ?_ _) | (with_reducible refine Below.trans ?_ (Below.mono (by assumption) ?_)) | go_size | (simp at *; omega))))
  clear hb1
  go_wp2
  exact bodyPost_ret (v := .tuple #[.agg #[.int .i64 0, .slice none 0 0, .slice none 0 0], .int .i64 0, .int .i64 0, .int .i64 (frameE c u.lv u.yr)]) (by simp (maxDischargeDepth := 9) [results, Try.results42, go_sem, r0, r1, r2, f0, f1, f2, hsz]) rfl ⟨by rw [hU.out], by have hWo := HW.out; (repeat' (first | (with_reducible exact Below.refl _ _) | (with_reducible assumption) | (with_reducible refine Below.alloc ?_ ?_ _) | (with_reducible refine below_drewN ?_ _) | (with_reducible refine Below.drew ?_) | (with_reducible refine Below.setCell ?_ ?_ _) | (with_reducible refine Below.trans ?_ (Below.mono (by assumption) ?_)) | go_size | (simp at *; omega)))⟩

set_option maxRecDepth 100000 in
set_option maxHeartbeats 1600000 in
theorem known_none (c : Cal) (u : Un) (w : World) (hn : c.name.size ≤ 1000) (hE : frameE c u.lv u.yr = 0) (hx : u.ix < 1 ∨ (cntL c u.yr u.lv : Int) < u.ix) :
    Calls Try.prog 42 #[calV c, unitV u] w fun e w' => e = .returned (.tuple #[.agg #[.int .i64 0, .slice none 0 0, .slice none 0 0], .int .i64 0, .int .i64 0, .int .i64 (unitE c u)]) ∧ Below w.heap.size w w' := by
  have hU := hide (show unitE c u = 13 by unfold unitE; rw [if_pos hE, if_neg (by omega)])
  have HE := hide hE
  have HF := hide (frame_ok hE)
  have HX := hide hx
  clear hE hx
  simp only [calV, unitV]
  go_enter Try.func42, Try.ntmps42
  go_wp2_with fail
  refine (make_yes c u.lv u.yr _ hn HE.out).mono ?_
  rintro e w1 ⟨g1, cap, g2, hG1, hG2, rfl, hc1, hc2, hFr, hb1⟩
  simp at hG1 hG2
  have r0 : w1.cell? ⟨w.heap.size + 1 + 1, 0, none⟩ = some (.int .i64 0) := by rw [hb1.cell (p := ⟨w.heap.size + 1 + 1, 0, none⟩) (by simp; try omega)]; simp [World.cell?_alloc_at, World.cell?_alloc_past, World.frozen?_alloc_at, World.frozen?_alloc_past]
  have f0 : w1.frozen? ⟨w.heap.size + 1 + 1, 0, none⟩ = false := by rw [hb1.frozen (p := ⟨w.heap.size + 1 + 1, 0, none⟩) (by simp; try omega)]; simp [World.cell?_alloc_at, World.cell?_alloc_past, World.frozen?_alloc_at, World.frozen?_alloc_past]
  have r1 : w1.cell? ⟨w.heap.size + 1 + 1, 1, none⟩ = some (.slice none 0 0) := by rw [hb1.cell (p := ⟨w.heap.size + 1 + 1, 1, none⟩) (by simp; try omega)]; simp [World.cell?_alloc_at, World.cell?_alloc_past, World.frozen?_alloc_at, World.frozen?_alloc_past]
  have f1 : w1.frozen? ⟨w.heap.size + 1 + 1, 1, none⟩ = false := by rw [hb1.frozen (p := ⟨w.heap.size + 1 + 1, 1, none⟩) (by simp; try omega)]; simp [World.cell?_alloc_at, World.cell?_alloc_past, World.frozen?_alloc_at, World.frozen?_alloc_past]
  have r2 : w1.cell? ⟨w.heap.size + 1 + 1, 2, none⟩ = some (.slice none 0 0) := by rw [hb1.cell (p := ⟨w.heap.size + 1 + 1, 2, none⟩) (by simp; try omega)]; simp [World.cell?_alloc_at, World.cell?_alloc_past, World.frozen?_alloc_at, World.frozen?_alloc_past]
  have f2 : w1.frozen? ⟨w.heap.size + 1 + 1, 2, none⟩ = false := by rw [hb1.frozen (p := ⟨w.heap.size + 1 + 1, 2, none⟩) (by simp; try omega)]; simp [World.cell?_alloc_at, World.cell?_alloc_past, World.frozen?_alloc_at, World.frozen?_alloc_past]
  have u0 : w1.cell? ⟨w.heap.size + 1, 0, none⟩ = some (.int .i64 u.lv) := by rw [hb1.cell (p := ⟨w.heap.size + 1, 0, none⟩) (by simp; try omega)]; simp [World.cell?_alloc_at, World.cell?_alloc_past]
  have u1 : w1.cell? ⟨w.heap.size + 1, 1, none⟩ = some (.int .i64 u.yr) := by rw [hb1.cell (p := ⟨w.heap.size + 1, 1, none⟩) (by simp; try omega)]; simp [World.cell?_alloc_at, World.cell?_alloc_past]
  have u2 : w1.cell? ⟨w.heap.size + 1, 2, none⟩ = some (.int .i64 u.ix) := by rw [hb1.cell (p := ⟨w.heap.size + 1, 2, none⟩) (by simp; try omega)]; simp [World.cell?_alloc_at, World.cell?_alloc_past]
  have hsz : w.heap.size + 1 + 1 < w1.heap.size := by have := hb1.size; simp at this; omega
  have HW := hide (show Below w.heap.size w w1 by (repeat' (first | (with_reducible exact Below.refl _ _) | (with_reducible assumption) | (with_reducible refine Below.alloc ?_ ?_ _) | (with_reducible refine below_drewN ?_ _) | (with_reducible refine Below.drew ?_) | (with_reducible refine Below.setCell ?_ ?_ _) | (with_reducible refine Below.trans ?_ (Below.mono (by assumption) ?_)) | go_size | (simp at *; omega))))
  have hg1 := hFr.1.1
  have hg2 := hFr.2.lt
  have HFr := hide hFr
  clear hb1 hFr
  go_wp2_with fail
  generalize hW2 : (((w1.setCell _ _).setCell _ _).setCell _ _) = W2
  have HW2 := hide (show Below w.heap.size w W2 by rw [← hW2]; exact ((HW.out.setCell (by simp; omega) _).setCell (by simp; omega) _).setCell (by simp; omega) _)
  have HFr2 := hide (show FrameAt W2 g1 g2 c u.yr by rw [← hW2]; exact ((HFr.out.far (by simp; omega) (by simp; omega) _).far (by simp; omega) (by simp; omega) _).far (by simp; omega) (by simp; omega) _)
  have hz2 : w.heap.size + 1 + 1 < W2.heap.size := by rw [← hW2]; simpa using hsz
  have R0 : W2.cell? ⟨w.heap.size + 1 + 1, 0, none⟩ = some (.int .i64 u.yr) := by rw [← hW2]; simp (maxDischargeDepth := 9) [World.cell?_setCell_same', World.cell?_setCell_other, r0, r1, r2]
  have F0 : W2.frozen? ⟨w.heap.size + 1 + 1, 0, none⟩ = false := by rw [← hW2]; simp [f0, f1, f2]
  have R1 : W2.cell? ⟨w.heap.size + 1 + 1, 1, none⟩ = some (.slice (some ⟨g1, 0, none⟩) (nWk c u.yr) cap) := by rw [← hW2]; simp (maxDischargeDepth := 9) [World.cell?_setCell_same', World.cell?_setCell_other, r0, r1, r2]
  have F1 : W2.frozen? ⟨w.heap.size + 1 + 1, 1, none⟩ = false := by rw [← hW2]; simp [f0, f1, f2]
  have R2 : W2.cell? ⟨w.heap.size + 1 + 1, 2, none⟩ = some (.slice (some ⟨g2, 0, none⟩) (nPer c u.yr) (nPer c u.yr)) := by rw [← hW2]; simp (maxDischargeDepth := 9) [World.cell?_setCell_same', World.cell?_setCell_other, r0, r1, r2]
  have F2 : W2.frozen? ⟨w.heap.size + 1 + 1, 2, none⟩ = false := by rw [← hW2]; simp [f0, f1, f2]
  clear hW2 r0 r1 r2 f0 f1 f2 u0 u1 u2
  refine (fweeks_no c u.yr u _ cap g1 g2 HF.out.2.2.1 HF.out.2.2.2.1 HF.out.2.2.2.2.2.2 HFr2.out.2 HX.out).mono ?_
  rintro e w3 ⟨rfl, hb3⟩
  have r0 : w3.cell? ⟨w.heap.size + 1 + 1, 0, none⟩ = some (.int .i64 u.yr) := by rw [hb3.cell (p := ⟨w.heap.size + 1 + 1, 0, none⟩) hz2]; exact R0
  have f0 : w3.frozen? ⟨w.heap.size + 1 + 1, 0, none⟩ = false := by rw [hb3.frozen (p := ⟨w.heap.size + 1 + 1, 0, none⟩) hz2]; exact F0
  have r1 : w3.cell? ⟨w.heap.size + 1 + 1, 1, none⟩ = some (.slice (some ⟨g1, 0, none⟩) (nWk c u.yr) cap) := by rw [hb3.cell (p := ⟨w.heap.size + 1 + 1, 1, none⟩) hz2]; exact R1
  have f1 : w3.frozen? ⟨w.heap.size + 1 + 1, 1, none⟩ = false := by rw [hb3.frozen (p := ⟨w.heap.size + 1 + 1, 1, none⟩) hz2]; exact F1
  have r2 : w3.cell? ⟨w.heap.size + 1 + 1, 2, none⟩ = some (.slice (some ⟨g2, 0, none⟩) (nPer c u.yr) (nPer c u.yr)) := by rw [hb3.cell (p := ⟨w.heap.size + 1 + 1, 2, none⟩) hz2]; exact R2
  have f2 : w3.frozen? ⟨w.heap.size + 1 + 1, 2, none⟩ = false := by rw [hb3.frozen (p := ⟨w.heap.size + 1 + 1, 2, none⟩) hz2]; exact F2
  have hsz3 : w.heap.size + 1 + 1 < w3.heap.size := Nat.lt_of_lt_of_le hz2 hb3.size
  have HW3 := hide (HW2.out.trans (hb3.mono (by omega)))
  clear hb3 R0 R1 R2 F0 F1 F2
  go_wp2
  exact bodyPost_ret (v := .tuple #[.agg #[.int .i64 0, .slice none 0 0, .slice none 0 0], .int .i64 0, .int .i64 0, .int .i64 13]) (by simp (maxDischargeDepth := 9) [results, Try.results42, go_sem, r0, r1, r2, f0, f1, f2, hsz3]) rfl ⟨by rw [hU.out], ((HW3.out.setCell (by simp; omega) _).setCell (by simp; omega) _).setCell (by simp; omega) _⟩

set_option maxRecDepth 100000 in
set_option maxHeartbeats 1600000 in
theorem known_yes (c : Cal) (u : Un) (w : World) (hn : c.name.size ≤ 1000) (hU0 : unitE c u = 0) :
    Calls Try.prog 42 #[calV c, unitV u] w (KnownPost c u w) := by
  obtain ⟨hE, hx, hi⟩ := unit_ok hU0
  have HI := hide hi
  clear hi hU0
  have HE := hide hE
  have HF := hide (frame_ok hE)
  have HX := hide hx
  clear hE hx
  simp only [calV, unitV]
  go_enter Try.func42, Try.ntmps42
  go_wp2_with fail
  refine (make_yes c u.lv u.yr _ hn HE.out).mono ?_
  rintro e w1 ⟨g1, cap, g2, hG1, hG2, rfl, hc1, hc2, hFr, hb1⟩
  simp at hG1 hG2
  have r0 : w1.cell? ⟨w.heap.size + 1 + 1, 0, none⟩ = some (.int .i64 0) := by rw [hb1.cell (p := ⟨w.heap.size + 1 + 1, 0, none⟩) (by simp; try omega)]; simp [World.cell?_alloc_at, World.cell?_alloc_past, World.frozen?_alloc_at, World.frozen?_alloc_past]
  have f0 : w1.frozen? ⟨w.heap.size + 1 + 1, 0, none⟩ = false := by rw [hb1.frozen (p := ⟨w.heap.size + 1 + 1, 0, none⟩) (by simp; try omega)]; simp [World.cell?_alloc_at, World.cell?_alloc_past, World.frozen?_alloc_at, World.frozen?_alloc_past]
  have r1 : w1.cell? ⟨w.heap.size + 1 + 1, 1, none⟩ = some (.slice none 0 0) := by rw [hb1.cell (p := ⟨w.heap.size + 1 + 1, 1, none⟩) (by simp; try omega)]; simp [World.cell?_alloc_at, World.cell?_alloc_past, World.frozen?_alloc_at, World.frozen?_alloc_past]
  have f1 : w1.frozen? ⟨w.heap.size + 1 + 1, 1, none⟩ = false := by rw [hb1.frozen (p := ⟨w.heap.size + 1 + 1, 1, none⟩) (by simp; try omega)]; simp [World.cell?_alloc_at, World.cell?_alloc_past, World.frozen?_alloc_at, World.frozen?_alloc_past]
  have r2 : w1.cell? ⟨w.heap.size + 1 + 1, 2, none⟩ = some (.slice none 0 0) := by rw [hb1.cell (p := ⟨w.heap.size + 1 + 1, 2, none⟩) (by simp; try omega)]; simp [World.cell?_alloc_at, World.cell?_alloc_past, World.frozen?_alloc_at, World.frozen?_alloc_past]
  have f2 : w1.frozen? ⟨w.heap.size + 1 + 1, 2, none⟩ = false := by rw [hb1.frozen (p := ⟨w.heap.size + 1 + 1, 2, none⟩) (by simp; try omega)]; simp [World.cell?_alloc_at, World.cell?_alloc_past, World.frozen?_alloc_at, World.frozen?_alloc_past]
  have u0 : w1.cell? ⟨w.heap.size + 1, 0, none⟩ = some (.int .i64 u.lv) := by rw [hb1.cell (p := ⟨w.heap.size + 1, 0, none⟩) (by simp; try omega)]; simp [World.cell?_alloc_at, World.cell?_alloc_past]
  have u1 : w1.cell? ⟨w.heap.size + 1, 1, none⟩ = some (.int .i64 u.yr) := by rw [hb1.cell (p := ⟨w.heap.size + 1, 1, none⟩) (by simp; try omega)]; simp [World.cell?_alloc_at, World.cell?_alloc_past]
  have u2 : w1.cell? ⟨w.heap.size + 1, 2, none⟩ = some (.int .i64 u.ix) := by rw [hb1.cell (p := ⟨w.heap.size + 1, 2, none⟩) (by simp; try omega)]; simp [World.cell?_alloc_at, World.cell?_alloc_past]
  have hsz : w.heap.size + 1 + 1 < w1.heap.size := by have := hb1.size; simp at this; omega
  have HW := hide (show Below w.heap.size w w1 by (repeat' (first | (with_reducible exact Below.refl _ _) | (with_reducible assumption) | (with_reducible refine Below.alloc ?_ ?_ _) | (with_reducible refine below_drewN ?_ _) | (with_reducible refine Below.drew ?_) | (with_reducible refine Below.setCell ?_ ?_ _) | (with_reducible refine Below.trans ?_ (Below.mono (by assumption) ?_)) | go_size | (simp at *; omega))))
  have hg1 := hFr.1.1
  have hg2 := hFr.2.lt
  have HFr := hide hFr
  clear hb1 hFr
  go_wp2_with fail
  generalize hW2 : (((w1.setCell _ _).setCell _ _).setCell _ _) = W2
  have HW2 := hide (show Below w.heap.size w W2 by rw [← hW2]; exact ((HW.out.setCell (by simp; omega) _).setCell (by simp; omega) _).setCell (by simp; omega) _)
  have HFr2 := hide (show FrameAt W2 g1 g2 c u.yr by rw [← hW2]; exact ((HFr.out.far (by simp; omega) (by simp; omega) _).far (by simp; omega) (by simp; omega) _).far (by simp; omega) (by simp; omega) _)
  have hz2 : w.heap.size + 1 + 1 < W2.heap.size := by rw [← hW2]; simpa using hsz
  have R0 : W2.cell? ⟨w.heap.size + 1 + 1, 0, none⟩ = some (.int .i64 u.yr) := by rw [← hW2]; simp (maxDischargeDepth := 9) [World.cell?_setCell_same', World.cell?_setCell_other, r0, r1, r2]
  have F0 : W2.frozen? ⟨w.heap.size + 1 + 1, 0, none⟩ = false := by rw [← hW2]; simp [f0, f1, f2]
  have R1 : W2.cell? ⟨w.heap.size + 1 + 1, 1, none⟩ = some (.slice (some ⟨g1, 0, none⟩) (nWk c u.yr) cap) := by rw [← hW2]; simp (maxDischargeDepth := 9) [World.cell?_setCell_same', World.cell?_setCell_other, r0, r1, r2]
  have F1 : W2.frozen? ⟨w.heap.size + 1 + 1, 1, none⟩ = false := by rw [← hW2]; simp [f0, f1, f2]
  have R2 : W2.cell? ⟨w.heap.size + 1 + 1, 2, none⟩ = some (.slice (some ⟨g2, 0, none⟩) (nPer c u.yr) (nPer c u.yr)) := by rw [← hW2]; simp (maxDischargeDepth := 9) [World.cell?_setCell_same', World.cell?_setCell_other, r0, r1, r2]
  have F2 : W2.frozen? ⟨w.heap.size + 1 + 1, 2, none⟩ = false := by rw [← hW2]; simp [f0, f1, f2]
  clear hW2 r0 r1 r2 f0 f1 f2 u0 u1 u2
  refine (fweeks_yes c u.yr u _ cap g1 g2 HF.out.2.2.1 HF.out.2.2.2.1 HF.out.2.2.2.2.2.2 HFr2.out.2 (uI u) HX.out HI.out).mono ?_
  rintro e w3 ⟨rfl, hb3⟩
  have r0 : w3.cell? ⟨w.heap.size + 1 + 1, 0, none⟩ = some (.int .i64 u.yr) := by rw [hb3.cell (p := ⟨w.heap.size + 1 + 1, 0, none⟩) hz2]; exact R0
  have f0 : w3.frozen? ⟨w.heap.size + 1 + 1, 0, none⟩ = false := by rw [hb3.frozen (p := ⟨w.heap.size + 1 + 1, 0, none⟩) hz2]; exact F0
  have r1 : w3.cell? ⟨w.heap.size + 1 + 1, 1, none⟩ = some (.slice (some ⟨g1, 0, none⟩) (nWk c u.yr) cap) := by rw [hb3.cell (p := ⟨w.heap.size + 1 + 1, 1, none⟩) hz2]; exact R1
  have f1 : w3.frozen? ⟨w.heap.size + 1 + 1, 1, none⟩ = false := by rw [hb3.frozen (p := ⟨w.heap.size + 1 + 1, 1, none⟩) hz2]; exact F1
  have r2 : w3.cell? ⟨w.heap.size + 1 + 1, 2, none⟩ = some (.slice (some ⟨g2, 0, none⟩) (nPer c u.yr) (nPer c u.yr)) := by rw [hb3.cell (p := ⟨w.heap.size + 1 + 1, 2, none⟩) hz2]; exact R2
  have f2 : w3.frozen? ⟨w.heap.size + 1 + 1, 2, none⟩ = false := by rw [hb3.frozen (p := ⟨w.heap.size + 1 + 1, 2, none⟩) hz2]; exact F2
  have hsz3 : w.heap.size + 1 + 1 < w3.heap.size := Nat.lt_of_lt_of_le hz2 hb3.size
  have HFr3 := hide (HFr2.out.call hb3)
  have HW3 := hide (HW2.out.trans (hb3.mono (by omega)))
  clear hb3 R0 R1 R2 F0 F1 F2
  go_wp2
  refine bodyPost_ret (v := .tuple #[yearV u.yr (nWk c u.yr) cap g1 (nPer c u.yr) g2, .int .i64 ((cutA c u : Int) + 1), .int .i64 (cutB c u : Int), .int .i64 0]) (by simp (maxDischargeDepth := 9) [results, Try.results42, go_sem, r0, r1, r2, f0, f1, f2, hsz3, cutA, cutB]) rfl ⟨g1, cap, g2, by omega, by omega, rfl, hc1, hc2, ?_, ((HW3.out.setCell (by simp; omega) _).setCell (by simp; omega) _).setCell (by simp; omega) _⟩
  exact ((HFr3.out.far (by simp; omega) (by simp; omega) _).far (by simp; omega) (by simp; omega) _).far (by simp; omega) (by simp; omega) _

end Go.Proofs.Ytpngdeegdkifnaa
