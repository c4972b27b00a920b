/- Contracts of units: Up, Down. -/
import Derived.Test.YtpngdeegdkifnaaUnitB
namespace Go.Proofs.Ytpngdeegdkifnaa
open Go.RowKit Qd
set_option linter.unusedSimpArgs false
set_option linter.unusedVariables false

set_option maxRecDepth 100000 in
set_option maxHeartbeats 1600000 in
theorem up_bad (c : Cal) (u : Un) (lv : Int) (w : World) (hn : c.name.size ≤ 1000) (hE : ¬ unitE c u = 0) :
    Calls Try.prog 29 #[calV c, unitV u, .int .i64 lv] w fun e w' => e = .returned (.tuple #[.agg #[.int .i64 0, .int .i64 0, .int .i64 0], .int .i64 (unitE c u)]) ∧ Below w.heap.size w w' := by
  have hE' : (unitE c u != 0) = true := by simpa using hE
  have HE := hide hE
  clear hE
  simp only [calV, unitV]
  go_enter Try.func29, Try.ntmps29
  go_wp2_with fail
  refine (known_not c u _ hn HE.out).mono ?_
  rintro e w1 ⟨rfl, hb1⟩
  have r0 : w1.cell? ⟨w.heap.size + 1 + 1, 0, none⟩ = some (.int .i64 0) := by rw [hb1.cell (p := ⟨w.heap.size + 1 + 1, 0, none⟩) (by simp; try omega)]; simp [World.cell?_alloc_at, World.cell?_alloc_past, World.frozen?_alloc_at, World.frozen?_alloc_past]
  have f0 : w1.frozen? ⟨w.heap.size + 1 + 1, 0, none⟩ = false := by rw [hb1.frozen (p := ⟨w.heap.size + 1 + 1, 0, none⟩) (by simp; try omega)]; simp [World.cell?_alloc_at, World.cell?_alloc_past, World.frozen?_alloc_at, World.frozen?_alloc_past]
  have r1 : w1.cell? ⟨w.heap.size + 1 + 1, 1, none⟩ = some (.int .i64 0) := by rw [hb1.cell (p := ⟨w.heap.size + 1 + 1, 1, none⟩) (by simp; try omega)]; simp [World.cell?_alloc_at, World.cell?_alloc_past, World.frozen?_alloc_at, World.frozen?_alloc_past]
  have f1 : w1.frozen? ⟨w.heap.size + 1 + 1, 1, none⟩ = false := by rw [hb1.frozen (p := ⟨w.heap.size + 1 + 1, 1, none⟩) (by simp; try omega)]; simp [World.cell?_alloc_at, World.cell?_alloc_past, World.frozen?_alloc_at, World.frozen?_alloc_past]
  have r2 : w1.cell? ⟨w.heap.size + 1 + 1, 2, none⟩ = some (.int .i64 0) := by rw [hb1.cell (p := ⟨w.heap.size + 1 + 1, 2, none⟩) (by simp; try omega)]; simp [World.cell?_alloc_at, World.cell?_alloc_past, World.frozen?_alloc_at, World.frozen?_alloc_past]
  have f2 : w1.frozen? ⟨w.heap.size + 1 + 1, 2, none⟩ = false := by rw [hb1.frozen (p := ⟨w.heap.size + 1 + 1, 2, none⟩) (by simp; try omega)]; simp [World.cell?_alloc_at, World.cell?_alloc_past, World.frozen?_alloc_at, World.frozen?_alloc_past]
  have hsz : w.heap.size + 1 + 1 < w1.heap.size := by have := hb1.size; simp at this; omega
  have hsz1 : w.heap.size + 1 < w1.heap.size := by omega
  have HW := hide (show Below w.heap.size w w1 by (repeat' (first | (with_reducible exact Below.refl _ _) | (with_reducible assumption) | (with_reducible refine Below.alloc ?_ ?_ _) | (with_reducible refine below_drewN ?_ _) | (with_reducible refine Below.drew ?_) | (with_reducible refine Below.setCell ?_ ?_ _) | (with_reducible refine Below.trans ?_ (Below.mono (by assumption) ?_)) | go_size | (simp at *; omega))))
  clear hb1
  go_wp2
  exact bodyPost_ret (v := .tuple #[.agg #[.int .i64 0, .int .i64 0, .int .i64 0], .int .i64 (unitE c u)]) (by simp (maxDischargeDepth := 9) [results, Try.results29, go_sem, r0, r1, r2, f0, f1, f2, hsz]) rfl ⟨rfl, by have hWo := HW.out; (repeat' (first | (with_reducible exact Below.refl _ _) | (with_reducible assumption) | (with_reducible refine Below.alloc ?_ ?_ _) | (with_reducible refine below_drewN ?_ _) | (with_reducible refine Below.drew ?_) | (with_reducible refine Below.setCell ?_ ?_ _) | (with_reducible refine Below.trans ?_ (Below.mono (by assumption) ?_)) | go_size | (simp at *; omega)))⟩

set_option maxRecDepth 100000 in
set_option maxHeartbeats 1600000 in
theorem up_arg (c : Cal) (u : Un) (lv : Int) (w : World) (hn : c.name.size ≤ 1000) (hE : unitE c u = 0) (hl : lv < 1 ∨ u.lv < lv) :
    Calls Try.prog 29 #[calV c, unitV u, .int .i64 lv] w fun e w' => e = .returned (.tuple #[.agg #[.int .i64 0, .int .i64 0, .int .i64 0], .int .i64 1]) ∧ Below w.heap.size w w' := by
  have HE := hide hE
  clear hE
  simp only [calV, unitV]
  go_enter Try.func29, Try.ntmps29
  go_wp2_with fail
  refine (known_yes c u _ hn HE.out).mono ?_
  rintro e w1 ⟨g1, cap, g2, hG1, hG2, rfl, hc1, hc2, hFr, hb1⟩
  have r0 : w1.cell? ⟨w.heap.size + 1 + 1, 0, none⟩ = some (.int .i64 0) := by rw [hb1.cell (p := ⟨w.heap.size + 1 + 1, 0, none⟩) (by simp; try omega)]; simp [World.cell?_alloc_at, World.cell?_alloc_past, World.frozen?_alloc_at, World.frozen?_alloc_past]
  have f0 : w1.frozen? ⟨w.heap.size + 1 + 1, 0, none⟩ = false := by rw [hb1.frozen (p := ⟨w.heap.size + 1 + 1, 0, none⟩) (by simp; try omega)]; simp [World.cell?_alloc_at, World.cell?_alloc_past, World.frozen?_alloc_at, World.frozen?_alloc_past]
  have r1 : w1.cell? ⟨w.heap.size + 1 + 1, 1, none⟩ = some (.int .i64 0) := by rw [hb1.cell (p := ⟨w.heap.size + 1 + 1, 1, none⟩) (by simp; try omega)]; simp [World.cell?_alloc_at, World.cell?_alloc_past, World.frozen?_alloc_at, World.frozen?_alloc_past]
  have f1 : w1.frozen? ⟨w.heap.size + 1 + 1, 1, none⟩ = false := by rw [hb1.frozen (p := ⟨w.heap.size + 1 + 1, 1, none⟩) (by simp; try omega)]; simp [World.cell?_alloc_at, World.cell?_alloc_past, World.frozen?_alloc_at, World.frozen?_alloc_past]
  have r2 : w1.cell? ⟨w.heap.size + 1 + 1, 2, none⟩ = some (.int .i64 0) := by rw [hb1.cell (p := ⟨w.heap.size + 1 + 1, 2, none⟩) (by simp; try omega)]; simp [World.cell?_alloc_at, World.cell?_alloc_past, World.frozen?_alloc_at, World.frozen?_alloc_past]
  have f2 : w1.frozen? ⟨w.heap.size + 1 + 1, 2, none⟩ = false := by rw [hb1.frozen (p := ⟨w.heap.size + 1 + 1, 2, none⟩) (by simp; try omega)]; simp [World.cell?_alloc_at, World.cell?_alloc_past, World.frozen?_alloc_at, World.frozen?_alloc_past]
  have u0 : w1.cell? ⟨w.heap.size + 1, 0, none⟩ = some (.int .i64 u.lv) := by rw [hb1.cell (p := ⟨w.heap.size + 1, 0, none⟩) (by simp; try omega)]; simp [World.cell?_alloc_at, World.cell?_alloc_past, World.frozen?_alloc_at, World.frozen?_alloc_past]
  have hsz : w.heap.size + 1 + 1 < w1.heap.size := by have := hb1.size; simp at this; omega
  have hsz1 : w.heap.size + 1 < w1.heap.size := by omega
  have HW := hide (show Below w.heap.size w w1 by (repeat' (first | (with_reducible exact Below.refl _ _) | (with_reducible assumption) | (with_reducible refine Below.alloc ?_ ?_ _) | (with_reducible refine below_drewN ?_ _) | (with_reducible refine Below.drew ?_) | (with_reducible refine Below.setCell ?_ ?_ _) | (with_reducible refine Below.trans ?_ (Below.mono (by assumption) ?_)) | go_size | (simp at *; omega))))
  clear hb1 hFr
  go_wp2_with fail
  all_goals first
    | (exfalso; omega)
    | exact bodyPost_ret (v := .tuple #[.agg #[.int .i64 0, .int .i64 0, .int .i64 0], .int .i64 1]) (by simp (maxDischargeDepth := 9) [results, Try.results29, go_sem, r0, r1, r2, f0, f1, f2, hsz]) rfl ⟨rfl, by have hWo := HW.out; (repeat' (first | (with_reducible exact Below.refl _ _) | (with_reducible assumption) | (with_reducible refine Below.alloc ?_ ?_ _) | (with_reducible refine below_drewN ?_ _) | (with_reducible refine Below.drew ?_) | (with_reducible refine Below.setCell ?_ ?_ _) | (with_reducible refine Below.trans ?_ (Below.mono (by assumption) ?_)) | go_size | (simp at *; omega)))⟩

set_option maxRecDepth 100000 in
set_option maxHeartbeats 1600000 in
theorem up_yes (c : Cal) (u : Un) (lv : Int) (w : World) (hn : c.name.size ≤ 1000) (hE : unitE c u = 0) (h1 : 1 ≤ lv) (h2 : lv ≤ u.lv) :
    Calls Try.prog 29 #[calV c, unitV u, .int .i64 lv] w fun e w' => e = .returned (.tuple #[.agg #[.int .i64 lv, .int .i64 u.yr, .int .i64 ((ixN c u.yr lv (cutA c u) : Int) + 1)], .int .i64 0]) ∧ Below w.heap.size w w' := by
  have hf := frame_ok (unit_ok hE).1
  have hA : askE c u.yr 1601 = 0 := hf.2.2.2.2.2.2
  have h5 : lv ≤ 5 := by have := hf.2.2.2.1; omega
  have HA := hide hA
  have HE := hide hE
  clear hE hA hf
  simp only [calV, unitV]
  go_enter Try.func29, Try.ntmps29
  go_wp2_with fail
  refine (known_yes c u _ hn HE.out).mono ?_
  rintro e w1 ⟨g1, cap, g2, hG1, hG2, rfl, hc1, hc2, hFr, hb1⟩
  have r0 : w1.cell? ⟨w.heap.size + 1 + 1, 0, none⟩ = some (.int .i64 0) := by rw [hb1.cell (p := ⟨w.heap.size + 1 + 1, 0, none⟩) (by simp; try omega)]; simp [World.cell?_alloc_at, World.cell?_alloc_past, World.frozen?_alloc_at, World.frozen?_alloc_past]
  have f0 : w1.frozen? ⟨w.heap.size + 1 + 1, 0, none⟩ = false := by rw [hb1.frozen (p := ⟨w.heap.size + 1 + 1, 0, none⟩) (by simp; try omega)]; simp [World.cell?_alloc_at, World.cell?_alloc_past, World.frozen?_alloc_at, World.frozen?_alloc_past]
  have r1 : w1.cell? ⟨w.heap.size + 1 + 1, 1, none⟩ = some (.int .i64 0) := by rw [hb1.cell (p := ⟨w.heap.size + 1 + 1, 1, none⟩) (by simp; try omega)]; simp [World.cell?_alloc_at, World.cell?_alloc_past, World.frozen?_alloc_at, World.frozen?_alloc_past]
  have f1 : w1.frozen? ⟨w.heap.size + 1 + 1, 1, none⟩ = false := by rw [hb1.frozen (p := ⟨w.heap.size + 1 + 1, 1, none⟩) (by simp; try omega)]; simp [World.cell?_alloc_at, World.cell?_alloc_past, World.frozen?_alloc_at, World.frozen?_alloc_past]
  have r2 : w1.cell? ⟨w.heap.size + 1 + 1, 2, none⟩ = some (.int .i64 0) := by rw [hb1.cell (p := ⟨w.heap.size + 1 + 1, 2, none⟩) (by simp; try omega)]; simp [World.cell?_alloc_at, World.cell?_alloc_past, World.frozen?_alloc_at, World.frozen?_alloc_past]
  have f2 : w1.frozen? ⟨w.heap.size + 1 + 1, 2, none⟩ = false := by rw [hb1.frozen (p := ⟨w.heap.size + 1 + 1, 2, none⟩) (by simp; try omega)]; simp [World.cell?_alloc_at, World.cell?_alloc_past, World.frozen?_alloc_at, World.frozen?_alloc_past]
  have u0 : w1.cell? ⟨w.heap.size + 1, 0, none⟩ = some (.int .i64 u.lv) := by rw [hb1.cell (p := ⟨w.heap.size + 1, 0, none⟩) (by simp; try omega)]; simp [World.cell?_alloc_at, World.cell?_alloc_past, World.frozen?_alloc_at, World.frozen?_alloc_past]
  have hsz : w.heap.size + 1 + 1 < w1.heap.size := by have := hb1.size; simp at this; omega
  have hsz1 : w.heap.size + 1 < w1.heap.size := by omega
  have HW := hide (show Below w.heap.size w w1 by (repeat' (first | (with_reducible exact Below.refl _ _) | (with_reducible assumption) | (with_reducible refine Below.alloc ?_ ?_ _) | (with_reducible refine below_drewN ?_ _) | (with_reducible refine Below.drew ?_) | (with_reducible refine Below.setCell ?_ ?_ _) | (with_reducible refine Below.trans ?_ (Below.mono (by assumption) ?_)) | go_size | (simp at *; omega))))
  have HFr := hide hFr
  clear hb1 hFr
  go_wp2_with fail
  all_goals first
    | (exfalso; omega)
    | skip
  refine (funit_any c u.yr lv _ cap g1 g2 h1 h5 HA.out (HFr.out.alloc _).2 (cutA c u)).mono ?_
  rintro e w2 ⟨rfl, hb2⟩
  have s0 : w2.cell? ⟨w.heap.size + 1 + 1, 0, none⟩ = some (.int .i64 0) := by rw [hb2.cell (p := ⟨w.heap.size + 1 + 1, 0, none⟩) (by simp; omega), World.cell?_alloc_past _ _ _ hsz]; exact r0
  have k0 : w2.frozen? ⟨w.heap.size + 1 + 1, 0, none⟩ = false := by rw [hb2.frozen (p := ⟨w.heap.size + 1 + 1, 0, none⟩) (by simp; omega), World.frozen?_alloc_past _ _ _ hsz]; exact f0
  have s1 : w2.cell? ⟨w.heap.size + 1 + 1, 1, none⟩ = some (.int .i64 0) := by rw [hb2.cell (p := ⟨w.heap.size + 1 + 1, 1, none⟩) (by simp; omega), World.cell?_alloc_past _ _ _ hsz]; exact r1
  have k1 : w2.frozen? ⟨w.heap.size + 1 + 1, 1, none⟩ = false := by rw [hb2.frozen (p := ⟨w.heap.size + 1 + 1, 1, none⟩) (by simp; omega), World.frozen?_alloc_past _ _ _ hsz]; exact f1
  have s2 : w2.cell? ⟨w.heap.size + 1 + 1, 2, none⟩ = some (.int .i64 0) := by rw [hb2.cell (p := ⟨w.heap.size + 1 + 1, 2, none⟩) (by simp; omega), World.cell?_alloc_past _ _ _ hsz]; exact r2
  have k2 : w2.frozen? ⟨w.heap.size + 1 + 1, 2, none⟩ = false := by rw [hb2.frozen (p := ⟨w.heap.size + 1 + 1, 2, none⟩) (by simp; omega), World.frozen?_alloc_past _ _ _ hsz]; exact f2
  have hsz2 : w.heap.size + 1 + 1 < w2.heap.size := Nat.lt_of_lt_of_le hsz (Nat.le_trans (by simp) hb2.size)
  have HW2 := hide (Below.trans (HW.out.alloc (by omega) _) (hb2.mono (by simp; omega)) : Below w.heap.size w w2)
  clear hb2 r0 r1 r2 f0 f1 f2
  go_wp2
  exact bodyPost_ret (v := .tuple #[.agg #[.int .i64 lv, .int .i64 u.yr, .int .i64 ((ixN c u.yr lv (cutA c u) : Int) + 1)], .int .i64 0]) (by simp (maxDischargeDepth := 9) [results, Try.results29, go_sem, s0, s1, s2, k0, k1, k2, hsz2]) rfl ⟨rfl, by have hWo := HW2.out; (repeat' (first | (with_reducible exact Below.refl _ _) | (with_reducible assumption) | (with_reducible refine Below.alloc ?_ ?_ _) | (with_reducible refine below_drewN ?_ _) | (with_reducible refine Below.drew ?_) | (with_reducible refine Below.setCell ?_ ?_ _) | (with_reducible refine Below.trans ?_ (Below.mono (by assumption) ?_)) | go_size | (simp at *; omega)))⟩

theorem up_any (c : Cal) (u : Un) (lv : Int) (w : World) (hn : c.name.size ≤ 1000) :
    Calls Try.prog 29 #[calV c, unitV u, .int .i64 lv] w fun e w' => e = .returned (.tuple #[unitV (upV c u lv), .int .i64 (upE c u lv)]) ∧ Below w.heap.size w w' := by
  by_cases hE : unitE c u = 0
  · by_cases hl : 1 ≤ lv ∧ lv ≤ u.lv
    · have h0 : upE c u lv = 0 := by unfold upE; rw [if_pos hE, if_pos hl]
      refine (up_yes c u lv w hn hE hl.1 hl.2).mono ?_
      rintro e w1 ⟨rfl, hb⟩
      exact ⟨by rw [upV, if_pos h0, h0], hb⟩
    · have h0 : upE c u lv = 1 := by unfold upE; rw [if_pos hE, if_neg hl]
      refine (up_arg c u lv w hn hE (by omega)).mono ?_
      rintro e w1 ⟨rfl, hb⟩
      exact ⟨by rw [upV, if_neg (by omega), h0], hb⟩
  · have h0 : upE c u lv = unitE c u := by unfold upE; rw [if_neg hE]
    refine (up_bad c u lv w hn hE).mono ?_
    rintro e w1 ⟨rfl, hb⟩
    exact ⟨by rw [upV, if_neg (by omega), h0], hb⟩

end Go.Proofs.Ytpngdeegdkifnaa
