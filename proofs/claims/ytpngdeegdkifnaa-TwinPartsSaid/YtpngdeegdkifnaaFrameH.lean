/- Contracts of frames: Weeks, Span, Unit. -/
import Derived.Test.YtpngdeegdkifnaaFrameF
import Derived.Test.YtpngdeegdkifnaaFrameG
import Derived.Test.YtpngdeegdkifnaaUnitV
namespace Go.Proofs.Ytpngdeegdkifnaa
open Go.RowKit Qd
set_option linter.unusedSimpArgs false
set_option linter.unusedVariables false

set_option maxRecDepth 100000 in
set_option maxHeartbeats 1600000 in
theorem fweeks_no (c : Cal) (y : Int) (u : Un) (w : World) (cap g1 g2 : Nat) (h1 : 1 ≤ u.lv) (h5 : u.lv ≤ 5) (hE : askE c y 1601 = 0) (hI : IntsAt w g2 (perL c y)) (hx : u.ix < 1 ∨ (cntL c y u.lv : Int) < u.ix) :
    Calls Try.prog 65 #[yearV y (nWk c y) cap g1 (nPer c y) g2, unitV u] w fun e w' => e = .returned (.tuple #[.int .i64 0, .int .i64 0, .bool false]) ∧ Below w.heap.size w w' := by
  have HE := hide hE
  have HI := hide hI
  clear hE hI
  simp only [yearV, unitV]
  go_enter Try.func65, Try.ntmps65
  go_wp2_with fail
  refine (lasts_any c y u.lv _ cap g1 g2 h1 h5 HE.out ((HI.out.alloc _).alloc _)).mono ?_
  rintro e w1 ⟨g, rfl, hJ, hb1⟩
  have q2 : w1.cell? ⟨w.heap.size + 1, 2, none⟩ = some (.int .i64 u.ix) := by rw [hb1.cell (p := ⟨w.heap.size + 1, 2, none⟩) (by simp)]; simp
  go_wp2
  all_goals first
    | (exfalso; omega)
    | (go_ret3; exact ⟨rfl, by (repeat' (first | (with_reducible exact Below.refl _ _) | (with_reducible assumption) | (with_reducible refine Below.alloc ?_ ?_ _) | (with_reducible refine below_drewN ?_ _) | (with_reducible refine Below.drew ?_) | (with_reducible refine Below.setCell ?_ ?_ _) | (with_reducible refine Below.trans ?_ (Below.mono (by assumption) ?_)) | go_size | (simp at *; omega)))⟩)

set_option maxRecDepth 100000 in
set_option maxHeartbeats 1600000 in
theorem fweeks_yes (c : Cal) (y : Int) (u : Un) (w : World) (cap g1 g2 : Nat) (h1 : 1 ≤ u.lv) (h5 : u.lv ≤ 5) (hE : askE c y 1601 = 0) (hI : IntsAt w g2 (perL c y)) (i : Nat) (hx : u.ix = (i : Int) + 1) (hi : i < cntL c y u.lv) :
    Calls Try.prog 65 #[yearV y (nWk c y) cap g1 (nPer c y) g2, unitV u] w fun e w' => e = .returned (.tuple #[.int .i64 ((cutN c y u.lv i : Int) + 1), .int .i64 (cutN c y u.lv (i + 1) : Int), .bool true]) ∧ Below w.heap.size w w' := by
  obtain ⟨lv, yr, ix⟩ := u
  obtain rfl : ix = (i : Int) + 1 := hx
  simp only at h1 h5 hi ⊢
  have hcb := cnt_bd c y hE lv
  have hcut := cut_le_nWk c y hE lv h1 h5 i (by omega)
  have hcut2 := cut_le_nWk c y hE lv h1 h5 (i + 1) (by omega)
  have hnb := nWk_bd c y hE
  have HL := hide (lasts_len c y lv)
  have HG := hide (fun i hi => lasts_get c y lv i hi)
  have HC0 := hide (cut_0 c y lv)
  have HE := hide hE
  have HI := hide hI
  clear hE hI
  obtain ⟨n, hn⟩ : ∃ n, n = cntL c y lv := ⟨_, rfl⟩
  have HN := hide hn
  have hin : i < n := by omega
  have hn60 : n ≤ 60 := by omega
  clear hcb hi hn
  simp only [yearV, unitV]
  cases i with
  | zero =>
    go_enter Try.func65, Try.ntmps65
    rw [show ((0 : Nat) : Int) + 1 = 1 from rfl]
    go_wp2_with fail
    refine (lasts_any c y lv _ cap g1 g2 h1 h5 HE.out ((HI.out.alloc _).alloc _)).mono ?_
    rintro e w1 ⟨g, rfl, hJ, hb1⟩
    rw [← HN.out]
    have q2 : w1.cell? ⟨w.heap.size + 1, 2, none⟩ = some (.int .i64 1) := by rw [hb1.cell (p := ⟨w.heap.size + 1, 2, none⟩) (by simp)]; simp
    have c0 : w1.cell? ⟨g, 0, none⟩ = some (.int .i64 (cutN c y lv 1 : Int)) := by rw [hJ.cell (by rw [HL.out, ← HN.out]; omega), HG.out 0 (by rw [← HN.out]; omega)]
    have HB := hide (show Below w.heap.size w w1 by (repeat' (first | (with_reducible exact Below.refl _ _) | (with_reducible assumption) | (with_reducible refine Below.alloc ?_ ?_ _) | (with_reducible refine below_drewN ?_ _) | (with_reducible refine Below.drew ?_) | (with_reducible refine Below.setCell ?_ ?_ _) | (with_reducible refine Below.trans ?_ (Below.mono (by assumption) ?_)) | go_size | (simp at *; omega))))
    clear hJ hb1
    go_wp2
    all_goals first
      | (exfalso; omega)
      | skip
    go_quiet (fail)
    go_wp2
    go_ret3
    refine ⟨by rw [HC0.out]; rfl, ?_⟩
    first | exact HB.out | exact below_drewN HB.out _
  | succ j =>
    go_enter Try.func65, Try.ntmps65
    rw [show ((j + 1 : Nat) : Int) + 1 = (j : Int) + 2 by omega]
    go_wp2_with fail
    refine (lasts_any c y lv _ cap g1 g2 h1 h5 HE.out ((HI.out.alloc _).alloc _)).mono ?_
    rintro e w1 ⟨g, rfl, hJ, hb1⟩
    rw [← HN.out]
    have q2 : w1.cell? ⟨w.heap.size + 1, 2, none⟩ = some (.int .i64 ((j : Int) + 2)) := by rw [hb1.cell (p := ⟨w.heap.size + 1, 2, none⟩) (by simp)]; simp
    have c0 : w1.cell? ⟨g, j, none⟩ = some (.int .i64 (cutN c y lv (j + 1) : Int)) := by rw [hJ.cell (by rw [HL.out, ← HN.out]; omega), HG.out j (by rw [← HN.out]; omega)]
    have c1 : w1.cell? ⟨g, j + 1, none⟩ = some (.int .i64 (cutN c y lv (j + 1 + 1) : Int)) := by rw [hJ.cell (by rw [HL.out, ← HN.out]; omega), HG.out (j + 1) (by rw [← HN.out]; omega)]
    have HB := hide (show Below w.heap.size w w1 by (repeat' (first | (with_reducible exact Below.refl _ _) | (with_reducible assumption) | (with_reducible refine Below.alloc ?_ ?_ _) | (with_reducible refine below_drewN ?_ _) | (with_reducible refine Below.drew ?_) | (with_reducible refine Below.setCell ?_ ?_ _) | (with_reducible refine Below.trans ?_ (Below.mono (by assumption) ?_)) | go_size | (simp at *; omega))))
    clear hJ hb1
    go_wp2
    all_goals first
      | (exfalso; omega)
      | skip
    go_quiet (fail)
    go_wp2
    go_ret3
    refine ⟨rfl, ?_⟩
    first | exact HB.out | exact below_drewN HB.out _
end Go.Proofs.Ytpngdeegdkifnaa
