/- Contracts of frames: lasts. -/
import Derived.Test.YtpngdeegdkifnaaFrameE
import Derived.Laws.EntriesVeiled
namespace Go.Proofs.Ytpngdeegdkifnaa
open Go.RowKit Qd
set_option linter.unusedSimpArgs false
set_option linter.unusedVariables false

set_option maxHeartbeats 800000 in
theorem fhalves_any (c : Cal) (y : Int) (w : World) (cap g1 g2 : Nat) (hE : askE c y 1601 = 0) (hI : IntsAt w g2 (perL c y)) :
    Calls Try.prog 87 #[yearV y (nWk c y) cap g1 (nPer c y) g2] w (LastsPost c y 2 w) := by
  have H := hide (show lastsL c y 2 = [(cutN c y 2 1 : Int), (cutN c y 2 2 : Int)] by simp [lastsL, upto, cntL, List.range_succ])
  have H1 := hide (show cntL c y 2 = 2 by simp [cntL])
  have H3 := hide (show cntL c y 3 = 4 by simp [cntL])
  have HA := hide (show (lastsL c y 3)[1]?.getD 0 = (cutN c y 2 1 : Int) by rw [lasts_get c y 3 1 (by simp [cntL])]; simp [cutN, pcut])
  have HB := hide (show (lastsL c y 3)[3]?.getD 0 = (cutN c y 2 2 : Int) by rw [lasts_get c y 3 3 (by simp [cntL])]; simp [cutN, pcut])
  have HL := hide (lasts_len c y 3)
  have HE := hide hE
  have HI := hide hI
  clear hE hI
  simp only [yearV]
  go_enter Try.func87, Try.ntmps87
  go_wp2_with fail
  refine (fquarters_any c y _ cap g1 g2 HE.out (HI.out.alloc _)).mono ?_
  rintro e w1 ⟨g, rfl, hJ, hb1⟩
  rw [H3.out]
  have c1 : w1.cell? ⟨g, 1, none⟩ = some (.int .i64 (cutN c y 2 1 : Int)) := by rw [hJ.cell (by rw [HL.out, H3.out]; omega), HA.out]
  have c3 : w1.cell? ⟨g, 3, none⟩ = some (.int .i64 (cutN c y 2 2 : Int)) := by rw [hJ.cell (by rw [HL.out, H3.out]; omega), HB.out]
  have hz := hb1.size
  simp at hz
  have HJ := hide hJ
  clear hJ
  go_wp2
  go_region
  all_goals go_wp2
  go_ret
  refine ⟨w1.heap.size, by rw [H1.out]; rfl, ?_, ((Below.trans ((Below.refl _ _).alloc (Nat.le_refl _) _) (hb1.mono (by simp))).alloc (by omega) _).drew⟩
  rw [H.out]
  exact heap_alloc_new w1 _

set_option maxRecDepth 100000 in
set_option maxHeartbeats 1600000 in
theorem lasts_1 (c : Cal) (y : Int) (w : World) (cap g1 g2 : Nat) (hE : askE c y 1601 = 0) (hI : IntsAt w g2 (perL c y)) :
    Calls Try.prog 62 #[yearV y (nWk c y) cap g1 (nPer c y) g2, .int .i64 1] w (LastsPost c y 1 w) := by
  have HI := hide hI
  clear hI
  simp only [yearV]
  go_enter Try.func62, Try.ntmps62
  go_wp2
  generalize hW : ((w.alloc (.cells #[.int .i64 y, .slice (some ⟨g1, 0, none⟩) (nWk c y) cap, .slice (some ⟨g2, 0, none⟩) (nPer c y) (nPer c y)] 67)).alloc (.cells _ _)) = W
  have k0 : W.cell? ⟨w.heap.size + 1, 0, none⟩ = some (.func (.func 86) #[] #[]) := by rw [← hW]; simp
  have b0 : W.cell? ⟨w.heap.size, 0, none⟩ = some (.int .i64 y) := by rw [← hW]; simp
  have b1 : W.cell? ⟨w.heap.size, 1, none⟩ = some (.slice (some ⟨g1, 0, none⟩) (nWk c y) cap) := by rw [← hW]; simp
  have b2 : W.cell? ⟨w.heap.size, 2, none⟩ = some (.slice (some ⟨g2, 0, none⟩) (nPer c y) (nPer c y)) := by rw [← hW]; simp
  have HW := hide (show Below w.heap.size w W by rw [← hW]; (repeat' (first | (with_reducible exact Below.refl _ _) | (with_reducible assumption) | (with_reducible refine Below.alloc ?_ ?_ _) | (with_reducible refine below_drewN ?_ _) | (with_reducible refine Below.drew ?_) | (with_reducible refine Below.setCell ?_ ?_ _) | (with_reducible refine Below.trans ?_ (Below.mono (by assumption) ?_)) | go_size | (simp at *; omega))))
  have HIW := hide (show IntsAt W g2 (perL c y) by rw [← hW]; exact (HI.out.alloc _).alloc _)
  clear hW
  go_region_with (go_at_call 86; refine (fyear_any c y _ cap g1 g2 hE).mono ?_; rintro e w1 ⟨g, rfl, hJ, hb1⟩)
  all_goals
    go_simp
    go_wp2
    go_ret
    exact ⟨g, rfl, hJ, Below.trans (by first | exact HW.out | exact HW.out.drew | exact below_drewN HW.out _) (hb1.mono (by have := HW.out.size; simpa using this))⟩

set_option maxRecDepth 100000 in
set_option maxHeartbeats 1600000 in
theorem lasts_2 (c : Cal) (y : Int) (w : World) (cap g1 g2 : Nat) (hE : askE c y 1601 = 0) (hI : IntsAt w g2 (perL c y)) :
    Calls Try.prog 62 #[yearV y (nWk c y) cap g1 (nPer c y) g2, .int .i64 2] w (LastsPost c y 2 w) := by
  have HI := hide hI
  clear hI
  simp only [yearV]
  go_enter Try.func62, Try.ntmps62
  go_wp2
  generalize hW : ((w.alloc (.cells #[.int .i64 y, .slice (some ⟨g1, 0, none⟩) (nWk c y) cap, .slice (some ⟨g2, 0, none⟩) (nPer c y) (nPer c y)] 67)).alloc (.cells _ _)) = W
  have k0 : W.cell? ⟨w.heap.size + 1, 1, none⟩ = some (.func (.func 87) #[] #[]) := by rw [← hW]; simp
  have b0 : W.cell? ⟨w.heap.size, 0, none⟩ = some (.int .i64 y) := by rw [← hW]; simp
  have b1 : W.cell? ⟨w.heap.size, 1, none⟩ = some (.slice (some ⟨g1, 0, none⟩) (nWk c y) cap) := by rw [← hW]; simp
  have b2 : W.cell? ⟨w.heap.size, 2, none⟩ = some (.slice (some ⟨g2, 0, none⟩) (nPer c y) (nPer c y)) := by rw [← hW]; simp
  have HW := hide (show Below w.heap.size w W by rw [← hW]; (repeat' (first | (with_reducible exact Below.refl _ _) | (with_reducible assumption) | (with_reducible refine Below.alloc ?_ ?_ _) | (with_reducible refine below_drewN ?_ _) | (with_reducible refine Below.drew ?_) | (with_reducible refine Below.setCell ?_ ?_ _) | (with_reducible refine Below.trans ?_ (Below.mono (by assumption) ?_)) | go_size | (simp at *; omega))))
  have HIW := hide (show IntsAt W g2 (perL c y) by rw [← hW]; exact (HI.out.alloc _).alloc _)
  clear hW
  go_region_with (go_at_call 87; refine (fhalves_any c y _ cap g1 g2 hE (by exact HIW.out)).mono ?_; rintro e w1 ⟨g, rfl, hJ, hb1⟩)
  all_goals
    go_simp
    go_wp2
    go_ret
    exact ⟨g, rfl, hJ, Below.trans (by first | exact HW.out | exact HW.out.drew | exact below_drewN HW.out _) (hb1.mono (by have := HW.out.size; simpa using this))⟩

set_option maxRecDepth 100000 in
set_option maxHeartbeats 1600000 in
theorem lasts_3 (c : Cal) (y : Int) (w : World) (cap g1 g2 : Nat) (hE : askE c y 1601 = 0) (hI : IntsAt w g2 (perL c y)) :
    Calls Try.prog 62 #[yearV y (nWk c y) cap g1 (nPer c y) g2, .int .i64 3] w (LastsPost c y 3 w) := by
  have HI := hide hI
  clear hI
  simp only [yearV]
  go_enter Try.func62, Try.ntmps62
  go_wp2
  generalize hW : ((w.alloc (.cells #[.int .i64 y, .slice (some ⟨g1, 0, none⟩) (nWk c y) cap, .slice (some ⟨g2, 0, none⟩) (nPer c y) (nPer c y)] 67)).alloc (.cells _ _)) = W
  have k0 : W.cell? ⟨w.heap.size + 1, 2, none⟩ = some (.func (.func 88) #[] #[]) := by rw [← hW]; simp
  have b0 : W.cell? ⟨w.heap.size, 0, none⟩ = some (.int .i64 y) := by rw [← hW]; simp
  have b1 : W.cell? ⟨w.heap.size, 1, none⟩ = some (.slice (some ⟨g1, 0, none⟩) (nWk c y) cap) := by rw [← hW]; simp
  have b2 : W.cell? ⟨w.heap.size, 2, none⟩ = some (.slice (some ⟨g2, 0, none⟩) (nPer c y) (nPer c y)) := by rw [← hW]; simp
  have HW := hide (show Below w.heap.size w W by rw [← hW]; (repeat' (first | (with_reducible exact Below.refl _ _) | (with_reducible assumption) | (with_reducible refine Below.alloc ?_ ?_ _) | (with_reducible refine below_drewN ?_ _) | (with_reducible refine Below.drew ?_) | (with_reducible refine Below.setCell ?_ ?_ _) | (with_reducible refine Below.trans ?_ (Below.mono (by assumption) ?_)) | go_size | (simp at *; omega))))
  have HIW := hide (show IntsAt W g2 (perL c y) by rw [← hW]; exact (HI.out.alloc _).alloc _)
  clear hW
  go_region_with (go_at_call 88; refine (fquarters_any c y _ cap g1 g2 hE (by exact HIW.out)).mono ?_; rintro e w1 ⟨g, rfl, hJ, hb1⟩)
  all_goals
    go_simp
    go_wp2
    go_ret
    exact ⟨g, rfl, hJ, Below.trans (by first | exact HW.out | exact HW.out.drew | exact below_drewN HW.out _) (hb1.mono (by have := HW.out.size; simpa using this))⟩

set_option maxRecDepth 100000 in
set_option maxHeartbeats 1600000 in
theorem lasts_4 (c : Cal) (y : Int) (w : World) (cap g1 g2 : Nat) (hE : askE c y 1601 = 0) (hI : IntsAt w g2 (perL c y)) :
    Calls Try.prog 62 #[yearV y (nWk c y) cap g1 (nPer c y) g2, .int .i64 4] w (LastsPost c y 4 w) := by
  have HI := hide hI
  clear hI
  simp only [yearV]
  go_enter Try.func62, Try.ntmps62
  go_wp2
  generalize hW : ((w.alloc (.cells #[.int .i64 y, .slice (some ⟨g1, 0, none⟩) (nWk c y) cap, .slice (some ⟨g2, 0, none⟩) (nPer c y) (nPer c y)] 67)).alloc (.cells _ _)) = W
  have k0 : W.cell? ⟨w.heap.size + 1, 3, none⟩ = some (.func (.func 89) #[] #[]) := by rw [← hW]; simp
  have b0 : W.cell? ⟨w.heap.size, 0, none⟩ = some (.int .i64 y) := by rw [← hW]; simp
  have b1 : W.cell? ⟨w.heap.size, 1, none⟩ = some (.slice (some ⟨g1, 0, none⟩) (nWk c y) cap) := by rw [← hW]; simp
  have b2 : W.cell? ⟨w.heap.size, 2, none⟩ = some (.slice (some ⟨g2, 0, none⟩) (nPer c y) (nPer c y)) := by rw [← hW]; simp
  have HW := hide (show Below w.heap.size w W by rw [← hW]; (repeat' (first | (with_reducible exact Below.refl _ _) | (with_reducible assumption) | (with_reducible refine Below.alloc ?_ ?_ _) | (with_reducible refine below_drewN ?_ _) | (with_reducible refine Below.drew ?_) | (with_reducible refine Below.setCell ?_ ?_ _) | (with_reducible refine Below.trans ?_ (Below.mono (by assumption) ?_)) | go_size | (simp at *; omega))))
  have HIW := hide (show IntsAt W g2 (perL c y) by rw [← hW]; exact (HI.out.alloc _).alloc _)
  clear hW
  go_region_with (go_at_call 89; refine (fmonths_any c y _ cap g1 g2 (by exact HIW.out)).mono ?_; rintro e w1 ⟨g, rfl, hJ, hb1⟩)
  all_goals
    go_simp
    go_wp2
    go_ret
    exact ⟨g, rfl, hJ, Below.trans (by first | exact HW.out | exact HW.out.drew | exact below_drewN HW.out _) (hb1.mono (by have := HW.out.size; simpa using this))⟩

set_option maxRecDepth 100000 in
set_option maxHeartbeats 1600000 in
theorem lasts_5 (c : Cal) (y : Int) (w : World) (cap g1 g2 : Nat) (hE : askE c y 1601 = 0) (hI : IntsAt w g2 (perL c y)) :
    Calls Try.prog 62 #[yearV y (nWk c y) cap g1 (nPer c y) g2, .int .i64 5] w (LastsPost c y 5 w) := by
  have HI := hide hI
  clear hI
  simp only [yearV]
  go_enter Try.func62, Try.ntmps62
  go_wp2
  generalize hW : ((w.alloc (.cells #[.int .i64 y, .slice (some ⟨g1, 0, none⟩) (nWk c y) cap, .slice (some ⟨g2, 0, none⟩) (nPer c y) (nPer c y)] 67)).alloc (.cells _ _)) = W
  have k0 : W.cell? ⟨w.heap.size + 1, 4, none⟩ = some (.func (.func 90) #[] #[]) := by rw [← hW]; simp
  have b0 : W.cell? ⟨w.heap.size, 0, none⟩ = some (.int .i64 y) := by rw [← hW]; simp
  have b1 : W.cell? ⟨w.heap.size, 1, none⟩ = some (.slice (some ⟨g1, 0, none⟩) (nWk c y) cap) := by rw [← hW]; simp
  have b2 : W.cell? ⟨w.heap.size, 2, none⟩ = some (.slice (some ⟨g2, 0, none⟩) (nPer c y) (nPer c y)) := by rw [← hW]; simp
  have HW := hide (show Below w.heap.size w W by rw [← hW]; (repeat' (first | (with_reducible exact Below.refl _ _) | (with_reducible assumption) | (with_reducible refine Below.alloc ?_ ?_ _) | (with_reducible refine below_drewN ?_ _) | (with_reducible refine Below.drew ?_) | (with_reducible refine Below.setCell ?_ ?_ _) | (with_reducible refine Below.trans ?_ (Below.mono (by assumption) ?_)) | go_size | (simp at *; omega))))
  have HIW := hide (show IntsAt W g2 (perL c y) by rw [← hW]; exact (HI.out.alloc _).alloc _)
  clear hW
  go_region_with (go_at_call 90; refine (fweekly_any c y _ cap g1 g2 hE).mono ?_; rintro e w1 ⟨g, rfl, hJ, hb1⟩)
  all_goals
    go_simp
    go_wp2
    go_ret
    exact ⟨g, rfl, hJ, Below.trans (by first | exact HW.out | exact HW.out.drew | exact below_drewN HW.out _) (hb1.mono (by have := HW.out.size; simpa using this))⟩

theorem lasts_any (c : Cal) (y lv : Int) (w : World) (cap g1 g2 : Nat) (h1 : 1 ≤ lv) (h5 : lv ≤ 5) (hE : askE c y 1601 = 0) (hI : IntsAt w g2 (perL c y)) :
    Calls Try.prog 62 #[yearV y (nWk c y) cap g1 (nPer c y) g2, .int .i64 lv] w (LastsPost c y lv w) := by
  have h : lv = 1 ∨ lv = 2 ∨ lv = 3 ∨ lv = 4 ∨ lv = 5 := by omega
  rcases h with rfl | rfl | rfl | rfl | rfl
  · exact lasts_1 c y w cap g1 g2 hE hI
  · exact lasts_2 c y w cap g1 g2 hE hI
  · exact lasts_3 c y w cap g1 g2 hE hI
  · exact lasts_4 c y w cap g1 g2 hE hI
  · exact lasts_5 c y w cap g1 g2 hE hI

set_option maxHeartbeats 800000 in
theorem fcount_any (c : Cal) (y lv : Int) (w : World) (cap g1 g2 : Nat) (h1 : 1 ≤ lv) (h5 : lv ≤ 5) (hE : askE c y 1601 = 0) (hI : IntsAt w g2 (perL c y)) :
    Calls Try.prog 50 #[yearV y (nWk c y) cap g1 (nPer c y) g2, .int .i64 lv] w fun e w' => e = .returned (.int .i64 (cntL c y lv : Int)) ∧ Below w.heap.size w w' := by
  have HI := hide hI
  clear hI
  have HE := hide hE
  clear hE
  simp only [yearV]
  go_enter Try.func50, Try.ntmps50
  go_wp2_with fail
  refine (lasts_any c y lv _ cap g1 g2 h1 h5 HE.out (HI.out.alloc _)).mono ?_
  rintro e w1 ⟨g, rfl, hJ, hb1⟩
  go_wp2
  go_ret
  exact ⟨rfl, ((Below.refl _ _).alloc (Nat.le_refl _) _).trans (hb1.mono (by simp))⟩
end Go.Proofs.Ytpngdeegdkifnaa
