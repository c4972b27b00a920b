/- Contracts of units: Count, Check, Span, Up, Down. -/
import Derived.Test.YtpngdeegdkifnaaUnitA
namespace Go.Proofs.Ytpngdeegdkifnaa
open Go.RowKit Qd
set_option linter.unusedSimpArgs false
set_option linter.unusedVariables false

theorem known_not (c : Cal) (u : Un) (w : World) (hn : c.name.size ≤ 1000) (hE : ¬ unitE c u = 0) :
    Calls Try.prog 42 #[calV c, unitV u] w fun e w' => e = .returned (.tuple #[.agg #[.int .i64 0, .slice none 0 0, .slice none 0 0], .int .i64 0, .int .i64 0, .int .i64 (unitE c u)]) ∧ Below w.heap.size w w' := by
  by_cases hf : frameE c u.lv u.yr = 0
  · refine known_none c u w hn hf ?_
    unfold unitE at hE
    rw [if_pos hf] at hE
    split at hE
    · exact absurd rfl hE
    · omega
  · exact known_bad c u w hn hf

/-- How many units; 0, if they are not told. -/
def countV (c : Cal) (lv y : Int) : Int := if frameE c lv y = 0 then (cntL c y lv : Int) else 0
/-- A unit's first and last day. -/
def spanF (c : Cal) (u : Un) : Int := dayW c u.yr (cutA c u)
def spanT (c : Cal) (u : Un) : Int := dayW c u.yr (cutB c u) - 1
def spV (c : Cal) (u : Un) : Sp := if unitE c u = 0 then ⟨spanF c u, spanT c u⟩ else ⟨0, 0⟩
def upE (c : Cal) (u : Un) (lv : Int) : Int := if unitE c u = 0 then (if 1 ≤ lv ∧ lv ≤ u.lv then 0 else 1) else unitE c u
def upV (c : Cal) (u : Un) (lv : Int) : Un := if upE c u lv = 0 then ⟨lv, u.yr, (ixN c u.yr lv (cutA c u) : Int) + 1⟩ else ⟨0, 0, 0⟩
def dnE (c : Cal) (u : Un) (lv : Int) : Int := if unitE c u = 0 then (if u.lv ≤ lv ∧ lv ≤ 5 then 0 else 1) else unitE c u
def dnA (c : Cal) (u : Un) (lv : Int) : Un := if dnE c u lv = 0 then ⟨lv, u.yr, (ixN c u.yr lv (cutA c u) : Int) + 1⟩ else ⟨0, 0, 0⟩
def dnB (c : Cal) (u : Un) (lv : Int) : Un := if dnE c u lv = 0 then ⟨lv, u.yr, (ixN c u.yr lv (cutB c u - 1) : Int) + 1⟩ else ⟨0, 0, 0⟩

set_option maxRecDepth 100000 in
set_option maxHeartbeats 1600000 in
theorem count_any (c : Cal) (lv y : Int) (w : World) (hn : c.name.size ≤ 1000) :
    Calls Try.prog 23 #[calV c, .int .i64 lv, .int .i64 y] w fun e w' => e = .returned (.tuple #[.int .i64 (countV c lv y), .int .i64 (frameE c lv y)]) ∧ Below w.heap.size w w' := by
  by_cases hE : frameE c lv y = 0
  · have HV := hide (show countV c lv y = (cntL c y lv : Int) by simp [countV, hE])
    have HF := hide (frame_ok hE)
    have HE := hide hE
    clear hE
    simp only [calV]
    go_enter Try.func23, Try.ntmps23
    go_wp2_with fail
    refine (make_yes c lv y _ hn HE.out).mono ?_
    rintro e w1 ⟨g1, cap, g2, hG1, hG2, rfl, hc1, hc2, hFr, hb1⟩
    have HW := hide (show Below w.heap.size w w1 by (repeat' (first | (with_reducible exact Below.refl _ _) | (with_reducible assumption) | (with_reducible refine Below.alloc ?_ ?_ _) | (with_reducible refine below_drewN ?_ _) | (with_reducible refine Below.drew ?_) | (with_reducible refine Below.setCell ?_ ?_ _) | (with_reducible refine Below.trans ?_ (Below.mono (by assumption) ?_)) | go_size | (simp at *; omega))))
    have hz1 : w.heap.size < w1.heap.size := by have := hb1.size; simp at this; omega
    have HFr := hide hFr
    clear hb1 hFr
    go_wp2_with fail
    refine (fcount_any c y lv _ cap g1 g2 HF.out.2.2.1 HF.out.2.2.2.1 HF.out.2.2.2.2.2.2 (HFr.out.alloc _).2).mono ?_
    rintro e w2 ⟨rfl, hb2⟩
    go_wp2
    go_ret2
    exact ⟨ret_int2 HV.out.symm HE.out.symm, Below.trans (HW.out.alloc (by omega) _) (hb2.mono (by simp; omega))⟩
  · have HV := hide (show countV c lv y = 0 by simp [countV, hE])
    have hE' : (frameE c lv y != 0) = true := by simpa using hE
    have HE := hide hE
    clear hE
    simp only [calV]
    go_enter Try.func23, Try.ntmps23
    go_wp2_with fail
    refine (make_no c lv y _ hn HE.out).mono ?_
    rintro e w1 ⟨rfl, hb1⟩
    have hz1 : w.heap.size < w1.heap.size := by have := hb1.size; simp at this; omega
    go_wp2
    go_ret2
    exact ⟨ret_int2 HV.out.symm rfl, by (repeat' (first | (with_reducible exact Below.refl _ _) | (with_reducible assumption) | (with_reducible refine Below.alloc ?_ ?_ _) | (with_reducible refine below_drewN ?_ _) | (with_reducible refine Below.drew ?_) | (with_reducible refine Below.setCell ?_ ?_ _) | (with_reducible refine Below.trans ?_ (Below.mono (by assumption) ?_)) | go_size | (simp at *; omega)))⟩

set_option maxRecDepth 100000 in
set_option maxHeartbeats 1600000 in
theorem ucheck_any (c : Cal) (u : Un) (w : World) (hn : c.name.size ≤ 1000) :
    Calls Try.prog 49 #[calV c, unitV u] w fun e w' => e = .returned (.int .i64 (unitE c u)) ∧ Below w.heap.size w w' := by
  by_cases hE : unitE c u = 0
  · have HE := hide hE
    clear hE
    simp only [calV, unitV]
    go_enter Try.func49, Try.ntmps49
    go_wp2_with fail
    refine (known_yes c u _ hn HE.out).mono ?_
    rintro e w1 ⟨g1, cap, g2, hG1, hG2, rfl, hc1, hc2, hFr, hb1⟩
    have hz1 : w.heap.size + 1 < w1.heap.size := by have := hb1.size; simp at this; omega
    go_wp2
    go_ret
    exact ⟨ret_int HE.out.symm, by (repeat' (first | (with_reducible exact Below.refl _ _) | (with_reducible assumption) | (with_reducible refine Below.alloc ?_ ?_ _) | (with_reducible refine below_drewN ?_ _) | (with_reducible refine Below.drew ?_) | (with_reducible refine Below.setCell ?_ ?_ _) | (with_reducible refine Below.trans ?_ (Below.mono (by assumption) ?_)) | go_size | (simp at *; omega)))⟩
  · have HE := hide hE
    clear hE
    simp only [calV, unitV]
    go_enter Try.func49, Try.ntmps49
    go_wp2_with fail
    refine (known_not c u _ hn HE.out).mono ?_
    rintro e w1 ⟨rfl, hb1⟩
    have hz1 : w.heap.size + 1 < w1.heap.size := by have := hb1.size; simp at this; omega
    go_wp2
    go_ret
    exact ⟨rfl, by (repeat' (first | (with_reducible exact Below.refl _ _) | (with_reducible assumption) | (with_reducible refine Below.alloc ?_ ?_ _) | (with_reducible refine below_drewN ?_ _) | (with_reducible refine Below.drew ?_) | (with_reducible refine Below.setCell ?_ ?_ _) | (with_reducible refine Below.trans ?_ (Below.mono (by assumption) ?_)) | go_size | (simp at *; omega)))⟩

set_option maxRecDepth 100000 in
set_option maxHeartbeats 1600000 in
theorem uspan_no (c : Cal) (u : Un) (w : World) (hn : c.name.size ≤ 1000) (hE : ¬ unitE c u = 0) :
    Calls Try.prog 17 #[calV c, unitV u] w fun e w' => e = .returned (.tuple #[.agg #[.int .i64 0, .int .i64 0], .int .i64 (unitE c u)]) ∧ Below w.heap.size w w' := by
  have hE' : (unitE c u != 0) = true := by simpa using hE
  have HE := hide hE
  clear hE
  simp only [calV, unitV]
  go_enter Try.func17, Try.ntmps17
  go_wp2_with fail
  refine (known_not c u _ hn HE.out).mono ?_
  rintro e w1 ⟨rfl, hb1⟩
  have r0 : w1.cell? ⟨w.heap.size + 1 + 1, 0, none⟩ = some (.int .i64 0) := by rw [hb1.cell (p := ⟨w.heap.size + 1 + 1, 0, none⟩) (by simp; try omega)]; simp [World.cell?_alloc_at, World.cell?_alloc_past, World.frozen?_alloc_at, World.frozen?_alloc_past]
  have f0 : w1.frozen? ⟨w.heap.size + 1 + 1, 0, none⟩ = false := by rw [hb1.frozen (p := ⟨w.heap.size + 1 + 1, 0, none⟩) (by simp; try omega)]; simp [World.cell?_alloc_at, World.cell?_alloc_past, World.frozen?_alloc_at, World.frozen?_alloc_past]
  have r1 : w1.cell? ⟨w.heap.size + 1 + 1, 1, none⟩ = some (.int .i64 0) := by rw [hb1.cell (p := ⟨w.heap.size + 1 + 1, 1, none⟩) (by simp; try omega)]; simp [World.cell?_alloc_at, World.cell?_alloc_past, World.frozen?_alloc_at, World.frozen?_alloc_past]
  have f1 : w1.frozen? ⟨w.heap.size + 1 + 1, 1, none⟩ = false := by rw [hb1.frozen (p := ⟨w.heap.size + 1 + 1, 1, none⟩) (by simp; try omega)]; simp [World.cell?_alloc_at, World.cell?_alloc_past, World.frozen?_alloc_at, World.frozen?_alloc_past]
  have hsz : w.heap.size + 1 + 1 < w1.heap.size := by have := hb1.size; simp at this; omega
  have hsz1 : w.heap.size + 1 < w1.heap.size := by omega
  have HW := hide (show Below w.heap.size w w1 by (repeat' (first | (with_reducible exact Below.refl _ _) | (with_reducible assumption) | (with_reducible refine Below.alloc ?_ ?_ _) | (with_reducible refine below_drewN ?_ _) | (with_reducible refine Below.drew ?_) | (with_reducible refine Below.setCell ?_ ?_ _) | (with_reducible refine Below.trans ?_ (Below.mono (by assumption) ?_)) | go_size | (simp at *; omega))))
  clear hb1
  go_wp2
  exact bodyPost_ret (v := .tuple #[.agg #[.int .i64 0, .int .i64 0], .int .i64 (unitE c u)]) (by simp (maxDischargeDepth := 9) [results, Try.results17, go_sem, r0, r1, f0, f1, hsz]) rfl ⟨rfl, by have hWo := HW.out; (repeat' (first | (with_reducible exact Below.refl _ _) | (with_reducible assumption) | (with_reducible refine Below.alloc ?_ ?_ _) | (with_reducible refine below_drewN ?_ _) | (with_reducible refine Below.drew ?_) | (with_reducible refine Below.setCell ?_ ?_ _) | (with_reducible refine Below.trans ?_ (Below.mono (by assumption) ?_)) | go_size | (simp at *; omega)))⟩

set_option maxRecDepth 100000 in
set_option maxHeartbeats 1600000 in
theorem uspan_yes (c : Cal) (u : Un) (w : World) (hn : c.name.size ≤ 1000) (hE : unitE c u = 0) :
    Calls Try.prog 17 #[calV c, unitV u] w fun e w' => e = .returned (.tuple #[.agg #[.int .i64 (spanF c u), .int .i64 (spanT c u)], .int .i64 0]) ∧ Below w.heap.size w w' := by
  have hcut := cutAB hE
  obtain ⟨b, hb⟩ : ∃ b, cutB c u = b + 1 := ⟨cutB c u - 1, by omega⟩
  have HB := hide (show (cutB c u : Int) = (b : Int) + 1 by omega)
  have HBN := hide hb
  have hA : askE c u.yr 1601 = 0 := (frame_ok (unit_ok hE).1).2.2.2.2.2.2
  have HA := hide hA
  have HE := hide hE
  have hal : cutA c u < nWk c u.yr := by omega
  have hbl : b < nWk c u.yr := by omega
  clear hE hA hb hcut
  simp only [calV, unitV]
  go_enter Try.func17, Try.ntmps17
  go_wp2_with fail
  refine (known_yes c u _ hn HE.out).mono ?_
  rintro e w1 ⟨g1, cap, g2, hG1, hG2, rfl, hc1, hc2, hFr, hb1⟩
  rw [HB.out]
  have r0 : w1.cell? ⟨w.heap.size + 1 + 1, 0, none⟩ = some (.int .i64 0) := by rw [hb1.cell (p := ⟨w.heap.size + 1 + 1, 0, none⟩) (by simp; try omega)]; simp [World.cell?_alloc_at, World.cell?_alloc_past, World.frozen?_alloc_at, World.frozen?_alloc_past]
  have f0 : w1.frozen? ⟨w.heap.size + 1 + 1, 0, none⟩ = false := by rw [hb1.frozen (p := ⟨w.heap.size + 1 + 1, 0, none⟩) (by simp; try omega)]; simp [World.cell?_alloc_at, World.cell?_alloc_past, World.frozen?_alloc_at, World.frozen?_alloc_past]
  have r1 : w1.cell? ⟨w.heap.size + 1 + 1, 1, none⟩ = some (.int .i64 0) := by rw [hb1.cell (p := ⟨w.heap.size + 1 + 1, 1, none⟩) (by simp; try omega)]; simp [World.cell?_alloc_at, World.cell?_alloc_past, World.frozen?_alloc_at, World.frozen?_alloc_past]
  have f1 : w1.frozen? ⟨w.heap.size + 1 + 1, 1, none⟩ = false := by rw [hb1.frozen (p := ⟨w.heap.size + 1 + 1, 1, none⟩) (by simp; try omega)]; simp [World.cell?_alloc_at, World.cell?_alloc_past, World.frozen?_alloc_at, World.frozen?_alloc_past]
  have hsz : w.heap.size + 1 + 1 < w1.heap.size := by have := hb1.size; simp at this; omega
  have hsz1 : w.heap.size + 1 < w1.heap.size := by omega
  have HW := hide (show Below w.heap.size w w1 by (repeat' (first | (with_reducible exact Below.refl _ _) | (with_reducible assumption) | (with_reducible refine Below.alloc ?_ ?_ _) | (with_reducible refine below_drewN ?_ _) | (with_reducible refine Below.drew ?_) | (with_reducible refine Below.setCell ?_ ?_ _) | (with_reducible refine Below.trans ?_ (Below.mono (by assumption) ?_)) | go_size | (simp at *; omega))))
  have HFr := hide hFr
  clear hb1 hFr
  go_wp2_with fail
  refine (fspan_any c u.yr _ cap g1 g2 HA.out hc1 (HFr.out.alloc _) (cutA c u) b hal hbl).mono ?_
  rintro e w2 ⟨rfl, hb2⟩
  have s0 : w2.cell? ⟨w.heap.size + 1 + 1, 0, none⟩ = some (.int .i64 0) := by rw [hb2.cell (p := ⟨w.heap.size + 1 + 1, 0, none⟩) (by simp; omega), World.cell?_alloc_past _ _ _ hsz]; exact r0
  have h0 : w2.frozen? ⟨w.heap.size + 1 + 1, 0, none⟩ = false := by rw [hb2.frozen (p := ⟨w.heap.size + 1 + 1, 0, none⟩) (by simp; omega), World.frozen?_alloc_past _ _ _ hsz]; exact f0
  have s1 : w2.cell? ⟨w.heap.size + 1 + 1, 1, none⟩ = some (.int .i64 0) := by rw [hb2.cell (p := ⟨w.heap.size + 1 + 1, 1, none⟩) (by simp; omega), World.cell?_alloc_past _ _ _ hsz]; exact r1
  have h1 : w2.frozen? ⟨w.heap.size + 1 + 1, 1, none⟩ = false := by rw [hb2.frozen (p := ⟨w.heap.size + 1 + 1, 1, none⟩) (by simp; omega), World.frozen?_alloc_past _ _ _ hsz]; exact f1
  have hsz2 : w.heap.size + 1 + 1 < w2.heap.size := Nat.lt_of_lt_of_le hsz (Nat.le_trans (by simp) hb2.size)
  have HW2 := hide (Below.trans (HW.out.alloc (by omega) _) (hb2.mono (by simp; omega)) : Below w.heap.size w w2)
  clear hb2 r0 r1 f0 f1
  go_wp2
  exact bodyPost_ret (v := .tuple #[.agg #[.int .i64 (dayW c u.yr (cutA c u)), .int .i64 (dayW c u.yr (b + 1) - 1)], .int .i64 0]) (by simp (maxDischargeDepth := 9) [results, Try.results17, go_sem, s0, s1, h0, h1, hsz2]) rfl ⟨by rw [spanF, spanT, HBN.out], by have hWo := HW2.out; (repeat' (first | (with_reducible exact Below.refl _ _) | (with_reducible assumption) | (with_reducible refine Below.alloc ?_ ?_ _) | (with_reducible refine below_drewN ?_ _) | (with_reducible refine Below.drew ?_) | (with_reducible refine Below.setCell ?_ ?_ _) | (with_reducible refine Below.trans ?_ (Below.mono (by assumption) ?_)) | go_size | (simp at *; omega)))⟩

theorem uspan_any (c : Cal) (u : Un) (w : World) (hn : c.name.size ≤ 1000) :
    Calls Try.prog 17 #[calV c, unitV u] w fun e w' => e = .returned (.tuple #[spanV (spV c u), .int .i64 (unitE c u)]) ∧ Below w.heap.size w w' := by
  by_cases hE : unitE c u = 0
  · refine (uspan_yes c u w hn hE).mono ?_
    rintro e w1 ⟨rfl, hb⟩
    exact ⟨by rw [spV, if_pos hE, hE], hb⟩
  · refine (uspan_no c u w hn hE).mono ?_
    rintro e w1 ⟨rfl, hb⟩
    exact ⟨by rw [spV, if_neg hE], hb⟩

end Go.Proofs.Ytpngdeegdkifnaa
