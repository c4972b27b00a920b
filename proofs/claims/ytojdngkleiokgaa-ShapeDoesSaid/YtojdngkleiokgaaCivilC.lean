/- Contracts of civil: a day's date. -/
import Derived.Test.YtojdngkleiokgaaCivilB
namespace Go.Proofs.Ytojdngkleiokgaa
open Go.RowKit Qd
set_option linter.unusedSimpArgs false
set_option linter.unusedVariables false

theorem mDown_step (y left : Int) (k : Nat) (h : left < aheadV y (k + 1)) : mDown y left (k + 1) = mDown y left k := by
  have : ¬ aheadV y ((k : Int) + 1) ≤ left := by omega
  simp [mDown, this]

set_option maxHeartbeats 400000 in
theorem of_no (day : Int) (w : World) (h : isB day = false) :
    Calls Try.prog 58 #[.int .i64 day] w fun e w' => e = .returned (.tuple #[.agg #[.int .i64 0, .int .i64 0, .int .i64 0], .int .i64 4]) ∧ Below w.heap.size w w' := by
  go_enter Try.func58, Try.ntmps58
  go_wp2_with (first | (go_at_call 78; refine (is_any _ _).mono ?_; rintro e w' ⟨rfl, rfl⟩))
  go_returns
  refine ⟨rfl, ?_⟩
  (repeat' (first | (with_reducible exact Below.refl _ _) | (with_reducible assumption) | (with_reducible refine Below.alloc ?_ ?_ _) | (with_reducible refine below_drewN ?_ _) | (with_reducible refine Below.drew ?_) | (with_reducible refine Below.setCell ?_ ?_ _) | (with_reducible refine Below.trans ?_ (Below.mono (by assumption) ?_)) | go_size | (simp at *; omega)))

set_option maxHeartbeats 1600000 in
theorem of_yes (day : Int) (w : World) (h : isB day = true) :
    Calls Try.prog 58 #[.int .i64 day] w fun e w' => e = .returned (.tuple #[.agg #[.int .i64 (ofY day), .int .i64 (ofM day), .int .i64 (ofD day)], .int .i64 0]) ∧ Below w.heap.size w w' := by
  have hd : 0 ≤ day ∧ day < 3068037 := by simpa [isB] using h
  obtain ⟨g1, g2, g3, g4⟩ := guess_ok day hd.1 hd.2
  have hyy := ofY_ok day hd.1 hd.2
  have HG := hide (show guess day = min (1600 + day / 146097 * 400 + day % 146097 / 36524 * 100 + day % 146097 % 36524 / 1461 * 4 + day % 146097 % 36524 % 1461 / 365) 9999 from rfl)
  go_enter Try.func58, Try.ntmps58
  go_wp2_with (first | (go_at_call 78; refine (is_any _ _).mono ?_; rintro e w' ⟨rfl, rfl⟩))
  all_goals
    go_loop [4] (fun s => ∃ y : Int, s = .int .i64 y ∧ ofY day ≤ y ∧ y ≤ 9999) (fun s => (intOf s).toNat)
    case atStart =>
      exact ⟨_, rfl, by unfold ofY; rw [HG.out]; split <;> omega, by omega⟩
    case round =>
      obtain ⟨y, rfl, hy1, hy2⟩ := hrel
      have hyb := years_bd y (by omega) (by omega)
      by_cases hlt : day < yearsV y
      · have hne : ofY day ≠ y := by intro e; rw [← e] at hlt; omega
        go_wp2_with (first | (go_at_call 79; refine (years_any y _ (by omega) (by omega)).mono ?_; rintro e w' ⟨rfl, rfl⟩))
        go_round
        case rel => exact ⟨y - 1, rfl, by omega, by omega⟩
        case measure => simp [intOf]; omega
      · have hye : y = ofY day := by
          rcases Int.lt_or_eq_of_le hy1 with h5 | h5
          · have := years_mono (ofY day + 1) y (by omega) (by omega); omega
          · exact h5.symm
        subst hye
        go_wp2_with (first | (go_at_call 79; refine (years_any (ofY day) _ (by omega) (by omega)).mono ?_; rintro e w' ⟨rfl, rfl⟩))
        have hleft : 0 ≤ day - yearsV (ofY day) := by omega
        have hmd := mDown_ok (ofY day) (day - yearsV (ofY day)) (by omega) 12 (by omega) (by omega) (by
          have h13 := ahead_13 (ofY day)
          have hs := years_succ (ofY day) (by omega) (by omega)
          have : ((12 : Nat) : Int) + 1 = 13 := rfl
          rw [this, h13]; omega)
        have HM := hide (show ofM day = mDown (ofY day) (day - yearsV (ofY day)) 12 from rfl)
        have HD := hide (show ofD day = day - yearsV (ofY day) - aheadV (ofY day) (ofM day) + 1 from rfl)
        have hmd1 : 1 ≤ ofM day := by rw [HM.out]; omega
        have hmd2 : ofM day ≤ 12 := by rw [HM.out]; omega
        have hmd3 : aheadV (ofY day) (ofM day) ≤ day - yearsV (ofY day) := by rw [HM.out]; omega
        clear hmd HG
        go_loopw [6] (fun s wr => ∃ k : Nat, s = .int .i64 k ∧ 1 ≤ k ∧ k ≤ 12 ∧ Hid (mDown (ofY day) (day - yearsV (ofY day)) k = ofM day) ∧ Below (w.heap.size + 1) (w.alloc (.cells #[.int .i64 0, .int .i64 0, .int .i64 0] 57)) wr) (fun s _ => (intOf s).toNat)
        case atStart => exact ⟨12, rfl, by omega, by omega, HM.out.symm, Below.refl _ _⟩
        case round =>
          obtain ⟨k, rfl, hk1, hk2, HK, hB⟩ := hrel
          have hab := ahead_bd (ofY day) k
          have hcw : ∀ o, wr.cell? ⟨w.heap.size, o, none⟩ = (w.alloc (.cells #[.int .i64 0, .int .i64 0, .int .i64 0] 57)).cell? ⟨w.heap.size, o, none⟩ := fun o => hB.cell (p := ⟨w.heap.size, o, none⟩) (by simp)
          have hfw : ∀ o, wr.frozen? ⟨w.heap.size, o, none⟩ = (w.alloc (.cells #[.int .i64 0, .int .i64 0, .int .i64 0] 57)).frozen? ⟨w.heap.size, o, none⟩ := fun o => hB.frozen (p := ⟨w.heap.size, o, none⟩) (by simp)
          have hzr : w.heap.size < wr.heap.size := by have := hB.size; simp at this; omega
          by_cases hlt2 : aheadV (ofY day) k ≤ day - yearsV (ofY day)
          · have hkm : (k : Int) = ofM day := by
              rw [← HK.out]
              cases k with
              | zero => omega
              | succ k => unfold mDown; rw [if_pos (by simpa using hlt2)]; rfl
            have HKM := hide hkm
            clear hkm
            go_wp2_with fail
            refine (ahead_any (ofY day) k _ (by omega) (by omega)).mono ?_
            rintro e w2 ⟨rfl, hb2⟩
            obtain ⟨hc2, hf2⟩ := bcell hb2
            have hz2 : w.heap.size < w2.heap.size := by have := hb2.size; omega
            go_wp2_with fail
            refine (ahead_any (ofY day) k _ (by omega) (by omega)).mono ?_
            rintro e w3 ⟨rfl, hb3⟩
            obtain ⟨hc3, hf3⟩ := bcell hb3
            have hz3 : w.heap.size < w3.heap.size := by have := hb3.size; omega
            go_wp2
            have e0 : ∀ o, w3.cell? ⟨w.heap.size, o, none⟩ = (w.alloc (.cells #[.int .i64 0, .int .i64 0, .int .i64 0] 57)).cell? ⟨w.heap.size, o, none⟩ := fun o => by
              rw [hc3 _ _ hz2, hc2 _ _ hzr]; exact hcw o
            refine bodyPost_ret (v := .tuple #[.agg #[.int .i64 (ofY day), .int .i64 k, .int .i64 (day - yearsV (ofY day) - aheadV (ofY day) k + 1)], .int .i64 0]) (by simp [results, Try.results58, go_sem, e0]) rfl ⟨?_, ?_⟩
            · rw [HD.out, HKM.out]
            · have hB3 : Below w.heap.size w w3 := by
                refine Below.trans ?_ (hb3.mono (by omega))
                refine Below.trans ?_ (hb2.mono (by omega))
                refine Below.trans ?_ (hB.mono (by omega))
                exact (Below.refl _ _).alloc (Nat.le_refl _) _
              exact ((hB3.setCell (by simp) _).setCell (by simp) _).setCell (by simp) _
          · have hk3 : 2 ≤ k := by
              rcases Nat.lt_or_ge k 2 with h5 | h5
              · exfalso
                obtain rfl : k = 1 := by omega
                have := ahead_1 (ofY day)
                simp at hlt2
                omega
              · exact h5
            have hHK := HK
            clear HK
            go_wp2_with fail
            refine (ahead_any (ofY day) k _ (by omega) (by omega)).mono ?_
            rintro e w2 ⟨rfl, hb2⟩
            go_wp2
            refine ⟨⟨k - 1, ?_, by omega, by omega, ?_, hB.trans (hb2.mono (by omega))⟩, by simp [intOf]; omega⟩
            · have : ((k - 1 : Nat) : Int) = (k : Int) - 1 := by omega
              rw [this]
            · obtain ⟨k, rfl⟩ : ∃ j, k = j + 1 := ⟨k - 1, by omega⟩
              have := hHK.out
              rw [mDown_step _ _ _ (by simp at hlt2 ⊢; omega)] at this
              exact this
end Go.Proofs.Ytojdngkleiokgaa
