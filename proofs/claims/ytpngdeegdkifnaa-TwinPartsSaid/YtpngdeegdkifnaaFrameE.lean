/- Contracts of frames: which weeks are the last ones of units. -/
import Derived.Test.YtpngdeegdkifnaaFrameD
namespace Go.Proofs.Ytpngdeegdkifnaa
open Go.RowKit Qd
set_option linter.unusedSimpArgs false
set_option linter.unusedVariables false

theorem make_4 (w : World) : (Instr.makeSlice 65 (.int .i64 4) (.int .i64 4)).run Try.prog w = .ok (.slice (some ⟨w.heap.size, 0, none⟩) 4 4) (w.alloc (zeroObj 4)) := make_ints 4 (by omega) w
def LastsPost (c : Cal) (y lv : Int) (w : World) (e : Ending) (w' : World) : Prop :=
  ∃ g, e = .returned (.slice (some ⟨g, 0, none⟩) (cntL c y lv) (cntL c y lv)) ∧ IntsAt w' g (lastsL c y lv) ∧ Below w.heap.size w w'

set_option maxHeartbeats 800000 in
theorem fyear_any (c : Cal) (y : Int) (w : World) (cap g1 g2 : Nat) (hE : askE c y 1601 = 0) :
    Calls Try.prog 86 #[yearV y (nWk c y) cap g1 (nPer c y) g2] w (LastsPost c y 1 w) := by
  have H := hide (show lastsL c y 1 = [(nWk c y : Int)] by simp [lastsL, upto, cntL, cutN, pcut, nWk])
  have H1 := hide (show cntL c y 1 = 1 by simp [cntL])
  clear hE
  simp only [yearV]
  go_enter Try.func86, Try.ntmps86
  go_wp2
  go_ret
  refine ⟨w.heap.size + 1, by rw [H1.out]; rfl, ?_, by (repeat' (first | (with_reducible exact Below.refl _ _) | (with_reducible assumption) | (with_reducible refine Below.alloc ?_ ?_ _) | (with_reducible refine below_drewN ?_ _) | (with_reducible refine Below.drew ?_) | (with_reducible refine Below.setCell ?_ ?_ _) | (with_reducible refine Below.trans ?_ (Below.mono (by assumption) ?_)) | go_size | (simp at *; omega)))⟩
  rw [H.out]
  have h := BlkIs.new (w.alloc (.cells #[.int .i64 y, .slice (some ⟨g1, 0, none⟩) (nWk c y) cap, .slice (some ⟨g2, 0, none⟩) (nPer c y) (nPer c y)] 67)) #[.int .i64 (nWk c y : Int)] 3
  simp at h
  exact h

set_option maxHeartbeats 800000 in
theorem fmonths_any (c : Cal) (y : Int) (w : World) (cap g1 g2 : Nat) (hI : IntsAt w g2 (perL c y)) :
    Calls Try.prog 89 #[yearV y (nWk c y) cap g1 (nPer c y) g2] w (LastsPost c y 4 w) := by
  have H := hide (show lastsL c y 4 = perL c y by simp [lastsL, upto, cntL, cutN, pcut, perL])
  have H1 := hide (show cntL c y 4 = nPer c y by simp [cntL])
  have HI := hide hI
  clear hI
  simp only [yearV]
  go_enter Try.func89, Try.ntmps89
  go_wp2
  go_ret
  exact ⟨g2, by rw [H1.out]; rfl, by rw [H.out]; exact HI.out.alloc _, by (repeat' (first | (with_reducible exact Below.refl _ _) | (with_reducible assumption) | (with_reducible refine Below.alloc ?_ ?_ _) | (with_reducible refine below_drewN ?_ _) | (with_reducible refine Below.drew ?_) | (with_reducible refine Below.setCell ?_ ?_ _) | (with_reducible refine Below.trans ?_ (Below.mono (by assumption) ?_)) | go_size | (simp at *; omega)))⟩

set_option maxRecDepth 100000 in
set_option maxHeartbeats 1600000 in
theorem fweekly_any (c : Cal) (y : Int) (w : World) (cap g1 g2 : Nat) (hE : askE c y 1601 = 0) :
    Calls Try.prog 90 #[yearV y (nWk c y) cap g1 (nPer c y) g2] w (LastsPost c y 5 w) := by
  have hb := nWk_bd c y hE
  have H := hide (show lastsL c y 5 = (List.range (nWk c y)).map (fun i : Nat => ((i : Int) + 1)) by simp [lastsL, upto, cntL, cutN])
  have H1 := hide (show cntL c y 5 = nWk c y by simp [cntL])
  clear hE
  generalize nWk c y = n at *
  have hmk := fun W => make_ints n (by omega) W
  simp only [yearV]
  go_enter Try.func90, Try.ntmps90
  go_wp2_with fail
  go_loopw [11] (fun s wr => ∃ k : Nat, s = .int .i64 k ∧ k ≤ n ∧ IntsAt wr (w.heap.size + 1) (upTo n k fun i => (i : Int) + 1) ∧ Below w.heap.size w wr) (fun s _ => (100 - intOf s).toNat)
  case atStart => exact ⟨0, rfl, by omega, by rw [upTo_zero]; simpa using IntsAt.new (w.alloc _) n, by (repeat' (first | (with_reducible exact Below.refl _ _) | (with_reducible assumption) | (with_reducible refine Below.alloc ?_ ?_ _) | (with_reducible refine below_drewN ?_ _) | (with_reducible refine Below.drew ?_) | (with_reducible refine Below.setCell ?_ ?_ _) | (with_reducible refine Below.trans ?_ (Below.mono (by assumption) ?_)) | go_size | (simp at *; omega)))⟩
  case round =>
    obtain ⟨k, rfl, hk, hJ, hB⟩ := hrel
    by_cases hlt : k < n
    · have hJf := hJ.frozen k
      have hJc := hJ.cell (k := k) (by rw [upTo_len]; exact hlt)
      have HJ := hide hJ
      clear hJ
      go_wp2
      refine ⟨⟨k + 1, by go_num, by omega, ?_, hB.setCell (by simp) _⟩, by simp [intOf]; omega⟩
      rw [← upTo_set]
      exact HJ.out.set k _
    · obtain rfl : k = n := by omega
      go_wp2
      go_ret
      rw [upTo_full] at hJ
      exact ⟨w.heap.size + 1, by rw [H1.out]; rfl, by rw [H.out]; exact hJ, hB⟩

set_option maxRecDepth 100000 in
set_option maxHeartbeats 1600000 in
theorem fquarters_any (c : Cal) (y : Int) (w : World) (cap g1 g2 : Nat) (hE : askE c y 1601 = 0) (hI : IntsAt w g2 (perL c y)) :
    Calls Try.prog 88 #[yearV y (nWk c y) cap g1 (nPer c y) g2] w (LastsPost c y 3 w) := by
  have hb := nPer_bd c y hE
  have H := hide (show lastsL c y 3 = (List.range 4).map (fun i => (cutN c y 3 (i + 1) : Int)) by simp [lastsL, upto, cntL])
  have H1 := hide (show cntL c y 3 = 4 by simp [cntL])
  have HI := hide hI
  have HC := hide (show ∀ i, cutN c y 3 i = cumW c y (nPer c y * i / 4) from fun i => by simp [cutN, pcut])
  have HP := hide (show ∀ i, i < nPer c y → (perL c y)[i]?.getD 0 = (cumW c y (i + 1) : Int) from fun i hi => by simp [perL, upto, hi])
  have HL := hide (show (perL c y).length = nPer c y by simp [perL, upto])
  clear hE hI
  generalize nPer c y = n at *
  have hmk := make_4
  simp only [yearV]
  go_enter Try.func88, Try.ntmps88
  go_wp2_with fail
  go_loopw [8] (fun s wr => ∃ k : Nat, s = .int .i64 k ∧ k ≤ 4 ∧ IntsAt wr (w.heap.size + 1) (upTo 4 k fun i => (cutN c y 3 (i + 1) : Int)) ∧ Below (w.heap.size + 1) (w.alloc (.cells #[.int .i64 y, .slice (some ⟨g1, 0, none⟩) (nWk c y) cap, .slice (some ⟨g2, 0, none⟩) n n] 67)) wr) (fun s _ => (5 - intOf s).toNat)
  case atStart => exact ⟨0, rfl, by omega, by rw [upTo_zero]; simpa using IntsAt.new (w.alloc _) 4, (Below.refl _ _).alloc (by simp) _⟩
  case round =>
    obtain ⟨k, rfl, hk, hJ, hB⟩ := hrel
    by_cases hlt : k < 4
    · have q2 : wr.cell? ⟨w.heap.size, 2, none⟩ = some (.slice (some ⟨g2, 0, none⟩) n n) := by
        rw [hB.cell (p := ⟨w.heap.size, 2, none⟩) (by simp)]; simp
      have hBs := hB.size
      simp at hBs
      have hJf := hJ.frozen k
      have hJc := hJ.cell (k := k) (by rw [upTo_len]; exact hlt)
      have HJ := hide hJ
      have hcell : ∀ i, i < n → wr.cell? ⟨g2, i, none⟩ = some (.int .i64 (cumW c y (i + 1))) := by
        intro i hi
        have h1 := (((HI.out).alloc (.cells #[.int .i64 y, .slice (some ⟨g1, 0, none⟩) (nWk c y) cap, .slice (some ⟨g2, 0, none⟩) n n] 67)).below hB (by have := HI.out.lt; omega)).cell (k := i) (by rw [HL.out]; exact hi)
        rw [h1, HP.out i hi]
      have HCE := hide hcell
      clear hJ hcell
      have h4 : k = 0 ∨ k = 1 ∨ k = 2 ∨ k = 3 := by omega
      rcases h4 with rfl | rfl | rfl | rfl
      · have c1 : wr.cell? ⟨g2, n / 4 - 1, none⟩ = some (.int .i64 (cutN c y 3 (0 + 1) : Int)) := by
          rw [HCE.out _ (by omega), HC.out]
          congr 4
          omega
        rw [show ((0 : Nat) : Int) = 0 from rfl]
        go_wp2
        refine ⟨⟨1, by first | rfl | go_num | simp, by omega, ?_, hB.setCell (by simp) _⟩, by simp [intOf]⟩
        rw [← upTo_set]
        exact HJ.out.set 0 _
      · have c1 : wr.cell? ⟨g2, n * 2 / 4 - 1, none⟩ = some (.int .i64 (cutN c y 3 (1 + 1) : Int)) := by
          rw [HCE.out _ (by omega), HC.out]
          congr 4
          omega
        rw [show ((1 : Nat) : Int) = 1 from rfl]
        go_wp2
        refine ⟨⟨2, by first | rfl | go_num | simp, by omega, ?_, hB.setCell (by simp) _⟩, by simp [intOf]⟩
        rw [← upTo_set]
        exact HJ.out.set 1 _
      · have c1 : wr.cell? ⟨g2, n * 3 / 4 - 1, none⟩ = some (.int .i64 (cutN c y 3 (2 + 1) : Int)) := by
          rw [HCE.out _ (by omega), HC.out]
          congr 4
          omega
        rw [show ((2 : Nat) : Int) = 2 from rfl]
        go_wp2
        refine ⟨⟨3, by first | rfl | go_num | simp, by omega, ?_, hB.setCell (by simp) _⟩, by simp [intOf]⟩
        rw [← upTo_set]
        exact HJ.out.set 2 _
      · have c1 : wr.cell? ⟨g2, n - 1, none⟩ = some (.int .i64 (cutN c y 3 (3 + 1) : Int)) := by
          rw [HCE.out _ (by omega), HC.out]
          congr 4
          omega
        rw [show ((3 : Nat) : Int) = 3 from rfl]
        go_wp2
        refine ⟨⟨4, by first | rfl | go_num | simp, by omega, ?_, hB.setCell (by simp) _⟩, by simp [intOf]⟩
        rw [← upTo_set]
        exact HJ.out.set 3 _
    · obtain rfl : k = 4 := by omega
      go_wp2
      go_ret
      rw [upTo_full] at hJ
      exact ⟨w.heap.size + 1, by rw [H1.out]; rfl, by rw [H.out]; exact hJ, Below.trans ((Below.refl _ _).alloc (Nat.le_refl _) _) (hB.mono (by omega))⟩
end Go.Proofs.Ytpngdeegdkifnaa
