/- Contracts of frames: Span. -/
import Derived.Test.YtpngdeegdkifnaaFrameF
import Derived.Test.YtpngdeegdkifnaaFrameG
import Derived.Test.YtpngdeegdkifnaaUnitV
namespace Go.Proofs.Ytpngdeegdkifnaa
open Go.RowKit Qd
set_option linter.unusedSimpArgs false
set_option linter.unusedVariables false

set_option maxRecDepth 100000 in
set_option maxHeartbeats 1600000 in
theorem fspan_any (c : Cal) (y : Int) (w : World) (cap g1 g2 : Nat) (hE : askE c y 1601 = 0) (hcap : nWk c y ≤ cap) (hF : FrameAt w g1 g2 c y) (a b : Nat) (ha : a < nWk c y) (hb : b < nWk c y) :
    Calls Try.prog 43 #[yearV y (nWk c y) cap g1 (nPer c y) g2, .int .i64 ((a : Int) + 1), .int .i64 ((b : Int) + 1)] w fun e w' => e = .returned (spanV ⟨dayW c y a, dayW c y (b + 1) - 1⟩) ∧ Below w.heap.size w w' := by
  have hnb := nWk_bd c y hE
  have hsa := (hF.1.2 a (by rw [spL_len]; exact ha)).1
  have hsb := (hF.1.2 b (by rw [spL_len]; exact hb)).2
  rw [(dayW_get c y hE a ha).1] at hsa
  rw [(dayW_get c y hE b hb).1] at hsb
  have hlt := hF.1.1
  simp only [Option.getD_some] at hsa hsb
  have HA := hide hsa
  have HB := hide hsb
  clear hE hF hsa hsb
  generalize nWk c y = n at *
  simp only [yearV, spanV]
  go_enter Try.func43, Try.ntmps43
  go_wp2
  generalize hW : ((w.alloc (.cells #[.int .i64 y, .slice (some ⟨g1, 0, none⟩) n cap, .slice (some ⟨g2, 0, none⟩) (nPer c y) (nPer c y)] 67)).alloc (.cells _ _)) = W
  have b1 : W.cell? ⟨w.heap.size, 1, none⟩ = some (.slice (some ⟨g1, 0, none⟩) n cap) := by rw [← hW]; simp
  have c1 : W.cell? ⟨g1, a * 2, none⟩ = some (.int .i64 (dayW c y a)) := by
    rw [← hW, World.cell?_alloc_lt _ _ _ (by simp; omega), World.cell?_alloc_lt _ _ _ hlt, Nat.mul_comm]; exact HA.out
  have c2 : W.cell? ⟨g1, b * 2 + 1, none⟩ = some (.int .i64 (dayW c y (b + 1) - 1)) := by
    rw [← hW, World.cell?_alloc_lt _ _ _ (by simp; omega), World.cell?_alloc_lt _ _ _ hlt, Nat.mul_comm]; exact HB.out
  have r0 : W.cell? ⟨w.heap.size + 1, 0, none⟩ = some (.int .i64 0) := by rw [← hW]; simp
  have r1 : W.cell? ⟨w.heap.size + 1, 1, none⟩ = some (.int .i64 0) := by rw [← hW]; simp
  have f0 : W.frozen? ⟨w.heap.size + 1, 0, none⟩ = false := by rw [← hW]; simp
  have f1 : W.frozen? ⟨w.heap.size + 1, 1, none⟩ = false := by rw [← hW]; simp
  have hsz : w.heap.size + 1 < W.heap.size := by rw [← hW]; simp
  have HW := hide (show Below w.heap.size w W by rw [← hW]; (repeat' (first | (with_reducible exact Below.refl _ _) | (with_reducible assumption) | (with_reducible refine Below.alloc ?_ ?_ _) | (with_reducible refine below_drewN ?_ _) | (with_reducible refine Below.drew ?_) | (with_reducible refine Below.setCell ?_ ?_ _) | (with_reducible refine Below.trans ?_ (Below.mono (by assumption) ?_)) | go_size | (simp at *; omega))))
  clear hW
  go_region
  all_goals
    go_wp2
    exact bodyPost_ret (v := .agg #[.int .i64 (dayW c y a), .int .i64 (dayW c y (b + 1) - 1)]) (by simp [results, Try.results43, go_sem, r0, r1, f0, f1, hsz]) rfl ⟨rfl, ((HW.out.setCell (by simp) _).setCell (by simp) _).drew⟩
end Go.Proofs.Ytpngdeegdkifnaa
