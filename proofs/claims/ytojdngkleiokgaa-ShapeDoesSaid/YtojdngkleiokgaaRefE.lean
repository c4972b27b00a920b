/- Contracts of the references: last and near weekdays (layer 6). -/
import Derived.Test.YtojdngkleiokgaaRefC
namespace Go.Proofs.Ytojdngkleiokgaa
open Go.RowKit Qd
set_option linter.unusedSimpArgs false
set_option linter.unusedVariables false

set_option maxRecDepth 100000 in
set_option maxHeartbeats 3200000 in
theorem r06last_any (y m wd : Int) (w : World) :
    Calls Try.prog 38 #[.int .i64 y, .int .i64 m, .int .i64 wd] w fun e w' => e = .returned (.tuple #[.int .i64 (lastV y m wd), .int .i64 (wkE y m wd)]) ∧ Below w.heap.size w w' := by
  cases ht : thereB y m
  · have HE := hide (show lenE y m = 4 by simp [lenE, ht])
    have hk : wkE y m wd = 4 := by simp [wkE, ht]
    have H1 := hide (show lastV y m wd = 0 by rw [lastV, if_neg (by omega)])
    have H2 := hide hk
    clear ht hk
    go_enter Try.func38, Try.ntmps38
    go_wp2_with fail
    refine (rlength_any _ _ _).mono ?_
    rintro e w1 ⟨rfl, rfl⟩
    rw [HE.out]
    go_wp2
    go_ret2
    exact ⟨ret_int2 H1.out.symm H2.out.symm, by (repeat' (first | (with_reducible exact Below.refl _ _) | (with_reducible assumption) | (with_reducible refine Below.alloc ?_ ?_ _) | (with_reducible refine below_drewN ?_ _) | (with_reducible refine Below.drew ?_) | (with_reducible refine Below.setCell ?_ ?_ _) | (with_reducible refine Below.trans ?_ (Below.mono (by assumption) ?_)) | go_size | (simp at *; omega)))⟩
  · have HE := hide (show lenE y m = 0 by simp [lenE, ht])
    by_cases hw : 1 ≤ wd ∧ wd ≤ 7
    · have hk : wkE y m wd = 0 := by rw [wkE, if_pos ht, if_pos hw]
      have H2 := hide hk
      have hld : dateB y m (lenV y m) = true := end_date y m ht
      have HD := hide (And.intro (show dayV y m (lenV y m) = endN y m by rw [dayV, if_pos hld]; rfl) (show dateE y m (lenV y m) = 0 by rw [dateE, if_pos hld]))
      have hel := end_lo y m ht
      have heb := end_bd y m ht
      have hWdef : endW y m = (endN y m + 5) % 7 + 1 := rfl
      have H1 := hide (show lastV y m wd = endN y m - (endW y m - wd + 7) % 7 by rw [lastV, if_pos hk])
      obtain ⟨J, hJ⟩ : ∃ J : Nat, (J : Int) = (endW y m - wd + 7) % 7 := ⟨((endW y m - wd + 7) % 7).toNat, by omega⟩
      rw [← hJ] at H1
      have HWD := hide (fun (j : Nat) (h : j ≤ J) => (show wdV (endN y m - j) = (endN y m - j + 5) % 7 + 1 ∧ isE (endN y m - j) = 0 ∧ ((endN y m - j + 5) % 7 + 1 = wd ↔ j = J) from by
        have hb : isB (endN y m - j) = true := by simp [isB]; omega
        exact ⟨by rw [wdV, if_pos hb], by rw [isE, if_pos hb], by omega⟩))
      have hJ6 : J ≤ 6 := by omega
      obtain ⟨E, hE⟩ : ∃ E, endN y m = E := ⟨_, rfl⟩
      rw [hE] at HD H1 HWD hel heb
      obtain ⟨L, hL⟩ : ∃ L, lenV y m = L := ⟨_, rfl⟩
      rw [hL] at HD
      have HL := hide hL
      clear ht hk hld hJ hE hL hWdef
      go_enter Try.func38, Try.ntmps38
      go_wp2_with fail
      refine (rlength_any _ _ _).mono ?_
      rintro e w1 ⟨rfl, rfl⟩
      rw [HE.out, HL.out]
      go_wp2_with fail
      all_goals first
        | (exfalso; omega)
        | skip
      refine (rday_any y m L _).mono ?_
      rintro e w2 ⟨rfl, hb2⟩
      rw [HD.out.1, HD.out.2]
      go_wp2_with fail
      go_loopw [10] (fun s wr => ∃ j : Nat, s = .int .i64 (E - (j : Int)) ∧ j ≤ J ∧ Below w.heap.size w wr) (fun s _ => (intOf s).toNat)
      case atStart => exact ⟨0, by simp, Nat.zero_le _, hb2⟩
      case round =>
        clear hb2
        obtain ⟨j, rfl, hj, hBel⟩ := hrel
        obtain ⟨d1, d2, d3⟩ := HWD.out j hj
        have HDD := hide (And.intro d1 d2)
        have hsz := hBel.size
        go_wp2_with fail
        refine (rweekday_any _ _).mono ?_
        rintro e w3 ⟨rfl, hb3⟩
        rw [HDD.out.1, HDD.out.2]
        have hBel3 := hBel.trans (hb3.mono hsz)
        clear hb3
        by_cases hjj : j = J
        · have heq := d3.2 hjj
          rw [heq]
          subst hjj
          clear d1 d2 d3 heq
          go_wp2
          all_goals first
            | (exfalso; omega)
            | (go_ret2; exact ⟨ret_int2 H1.out.symm H2.out.symm, by (repeat' (first | (with_reducible exact Below.refl _ _) | (with_reducible assumption) | (with_reducible refine Below.alloc ?_ ?_ _) | (with_reducible refine below_drewN ?_ _) | (with_reducible refine Below.drew ?_) | (with_reducible refine Below.setCell ?_ ?_ _) | (with_reducible refine Below.trans ?_ (Below.mono (by assumption) ?_)) | go_size | (simp at *; omega)))⟩)
        · have hne : ¬ ((E - j + 5) % 7 + 1 = wd) := fun h => hjj (d3.1 h)
          have hneb : ((E - (j : Int) + 5) % 7 + 1 == wd) = false := by simpa using hne
          obtain ⟨Q, hQ⟩ : ∃ Q, (E - (j : Int) + 5) % 7 + 1 = Q := ⟨_, rfl⟩
          rw [hQ] at hneb hne ⊢
          clear d1 d2 d3 hQ
          go_wp2
          all_goals first
            | (exfalso; omega)
            | skip
          go_roundw
          case rel => exact ⟨j + 1, by congr 1; omega, by omega, by (repeat' (first | (with_reducible exact Below.refl _ _) | (with_reducible assumption) | (with_reducible refine Below.alloc ?_ ?_ _) | (with_reducible refine below_drewN ?_ _) | (with_reducible refine Below.drew ?_) | (with_reducible refine Below.setCell ?_ ?_ _) | (with_reducible refine Below.trans ?_ (Below.mono (by assumption) ?_)) | go_size | (simp at *; omega)))⟩
          case measure => simp [intOf]; omega
    · have hk : wkE y m wd = 1 := by rw [wkE, if_pos ht, if_neg hw]
      have H1 := hide (show lastV y m wd = 0 by rw [lastV, if_neg (by omega)])
      have H2 := hide hk
      obtain ⟨L, hL⟩ : ∃ L, lenV y m = L := ⟨_, rfl⟩
      have HL := hide hL
      clear ht hk hL
      rcases (show wd < 1 ∨ (1 ≤ wd ∧ 7 < wd) by omega) with h | ⟨h, h2⟩
      all_goals
        go_enter Try.func38, Try.ntmps38
        go_wp2_with fail
        refine (rlength_any _ _ _).mono ?_
        rintro e w1 ⟨rfl, rfl⟩
        rw [HE.out, HL.out]
        go_wp2_with fail
        all_goals first
          | (exfalso; omega)
          | (go_ret2; exact ⟨ret_int2 H1.out.symm H2.out.symm, by (repeat' (first | (with_reducible exact Below.refl _ _) | (with_reducible assumption) | (with_reducible refine Below.alloc ?_ ?_ _) | (with_reducible refine below_drewN ?_ _) | (with_reducible refine Below.drew ?_) | (with_reducible refine Below.setCell ?_ ?_ _) | (with_reducible refine Below.trans ?_ (Below.mono (by assumption) ?_)) | go_size | (simp at *; omega)))⟩)

set_option maxRecDepth 100000 in
set_option maxHeartbeats 3200000 in
theorem r06near_any (y m wd : Int) (w : World) :
    Calls Try.prog 76 #[.int .i64 y, .int .i64 m, .int .i64 wd] w fun e w' => e = .returned (.tuple #[.int .i64 (nearV y m wd), .int .i64 (nearE y m wd)]) ∧ Below w.heap.size w w' := by
  cases ht : thereB y m
  · have HE := hide (show lenE y m = 4 by simp [lenE, ht])
    have hk : wkE y m wd = 4 := by simp [wkE, ht]
    have H1 := hide (show nearV y m wd = 0 by rw [nearV, if_neg (by omega)])
    have H2 := hide (show nearE y m wd = 4 by rw [nearE, if_neg (by omega)]; exact hk)
    clear ht hk
    go_enter Try.func76, Try.ntmps76
    go_wp2_with fail
    refine (rlength_any _ _ _).mono ?_
    rintro e w1 ⟨rfl, rfl⟩
    rw [HE.out]
    go_wp2
    go_ret2
    exact ⟨ret_int2 H1.out.symm H2.out.symm, by (repeat' (first | (with_reducible exact Below.refl _ _) | (with_reducible assumption) | (with_reducible refine Below.alloc ?_ ?_ _) | (with_reducible refine below_drewN ?_ _) | (with_reducible refine Below.drew ?_) | (with_reducible refine Below.setCell ?_ ?_ _) | (with_reducible refine Below.trans ?_ (Below.mono (by assumption) ?_)) | go_size | (simp at *; omega)))⟩
  · have HE := hide (show lenE y m = 0 by simp [lenE, ht])
    by_cases hw : 1 ≤ wd ∧ wd ≤ 7
    · have hk : wkE y m wd = 0 := by rw [wkE, if_pos ht, if_pos hw]
      have hld : dateB y m (lenV y m) = true := end_date y m ht
      have HD := hide (And.intro (show dayV y m (lenV y m) = endN y m by rw [dayV, if_pos hld]; rfl) (show dateE y m (lenV y m) = 0 by rw [dateE, if_pos hld]))
      have hel := end_lo y m ht
      have heb := end_bd y m ht
      have hWdef : endW y m = (endN y m + 5) % 7 + 1 := rfl
      have hNd : nearD y m wd = (wd - endW y m + 7 + 3) % 7 - 3 := rfl
      obtain ⟨J, hJ⟩ : ∃ J : Nat, (J : Int) = nearD y m wd + 3 := ⟨(nearD y m wd + 3).toNat, by omega⟩
      have hJ6 : J ≤ 6 := by omega
      have hiE : isB (endN y m) = true := by simp [isB]; omega
      have hadd : addB (endN y m) (nearD y m wd) = isB (endN y m - 3 + J) := by
        rw [addB, hiE]
        simp only [isB, Bool.true_and]
        by_cases h1 : endN y m - 3 + J < 3068037
        · have a1 : decide (-endN y m ≤ nearD y m wd) = true := by simp; omega
          have a2 : decide (nearD y m wd < 3068037 - endN y m) = true := by simp; omega
          have a3 : decide (0 ≤ endN y m - 3 + (J : Int) ∧ endN y m - 3 + (J : Int) < 3068037) = true := by simp; omega
          rw [a1, a2, a3]; rfl
        · have a2 : decide (nearD y m wd < 3068037 - endN y m) = false := by simp; omega
          have a3 : decide (0 ≤ endN y m - 3 + (J : Int) ∧ endN y m - 3 + (J : Int) < 3068037) = false := by simp; omega
          rw [a2, a3, Bool.and_false]
      have H1 := hide (show nearV y m wd = if isB (endN y m - 3 + J) = true then endN y m - 3 + J else 0 by rw [nearV, if_pos hk, addV, hadd]; split <;> omega)
      have H2 := hide (show nearE y m wd = if isB (endN y m - 3 + J) = true then 0 else 4 by rw [nearE, if_pos hk, addE, hadd])
      have HWD := hide (fun (j : Nat) (h : j ≤ 6) => (show (isB (endN y m - 3 + j) = true ∧ wdV (endN y m - 3 + j) = (endN y m - 3 + j + 5) % 7 + 1 ∧ isE (endN y m - 3 + j) = 0 ∧ ((endN y m - 3 + j + 5) % 7 + 1 = wd ↔ j = J)) ∨ (isB (endN y m - 3 + j) = false ∧ 3068037 ≤ endN y m - 3 + j ∧ wdV (endN y m - 3 + j) = 0 ∧ isE (endN y m - 3 + j) = 4) from by
        cases hb : isB (endN y m - 3 + j)
        · refine .inr ⟨rfl, ?_, by simp [wdV, hb], by simp [isE, hb]⟩
          simp [isB] at hb
          omega
        · exact .inl ⟨rfl, by simp [wdV, hb], by simp [isE, hb], by omega⟩))
      obtain ⟨E, hE⟩ : ∃ E, endN y m = E := ⟨_, rfl⟩
      rw [hE] at HD H1 H2 HWD hel heb
      obtain ⟨L, hL⟩ : ∃ L, lenV y m = L := ⟨_, rfl⟩
      rw [hL] at HD
      have HL := hide hL
      have HIS := hide (fun (j : Nat) (h : isB (E - 3 + j) = true) => (show E - 3 + j < 3068037 from by simp [isB] at h; omega))
      clear ht hk hld hJ hE hL hWdef hNd hiE hadd
      go_enter Try.func76, Try.ntmps76
      go_wp2_with fail
      refine (rlength_any _ _ _).mono ?_
      rintro e w1 ⟨rfl, rfl⟩
      rw [HE.out, HL.out]
      go_wp2_with fail
      all_goals first
        | (exfalso; omega)
        | skip
      refine (rday_any y m L _).mono ?_
      rintro e w2 ⟨rfl, hb2⟩
      rw [HD.out.1, HD.out.2]
      go_wp2_with fail
      go_loopw [12] (fun s wr => ∃ j : Nat, s = .int .i64 (E - 3 + (j : Int)) ∧ j ≤ 7 ∧ Hid (j ≤ J ∨ isB (E - 3 + J) = false) ∧ Below w.heap.size w wr) (fun s _ => (E + 10 - intOf s).toNat)
      case atStart => exact ⟨0, by simp, by omega, hide (.inl (Nat.zero_le _)), hb2⟩
      case round =>
        clear hb2
        obtain ⟨j, rfl, hj, HJ, hBel⟩ := hrel
        have hsz := hBel.size
        by_cases hj6 : j ≤ 6
        · rcases HWD.out j hj6 with ⟨d0, d1, d2, d3⟩ | ⟨d0, d9, d1, d2⟩
          · have HDD := hide (And.intro d1 d2)
            have hlt3 := HIS.out j d0
            go_wp2_with fail
            all_goals first
              | (exfalso; omega)
              | skip
            refine (rweekday_any _ _).mono ?_
            rintro e w3 ⟨rfl, hb3⟩
            rw [HDD.out.1, HDD.out.2]
            have hBel3 := hBel.trans (hb3.mono hsz)
            clear hb3
            by_cases hjj : j = J
            · have heq := d3.2 hjj
              rw [heq]
              subst hjj
              have R1 := hide (show nearV y m wd = E - 3 + j by rw [H1.out, if_pos d0])
              have R2 := hide (show nearE y m wd = 0 by rw [H2.out, if_pos d0])
              clear d0 d1 d2 d3 heq
              go_wp2
              all_goals first
                | (exfalso; omega)
                | (go_ret2; exact ⟨ret_int2 R1.out.symm R2.out.symm, by (repeat' (first | (with_reducible exact Below.refl _ _) | (with_reducible assumption) | (with_reducible refine Below.alloc ?_ ?_ _) | (with_reducible refine below_drewN ?_ _) | (with_reducible refine Below.drew ?_) | (with_reducible refine Below.setCell ?_ ?_ _) | (with_reducible refine Below.trans ?_ (Below.mono (by assumption) ?_)) | go_size | (simp at *; omega)))⟩)
            · have hne : ¬ ((E - 3 + j + 5) % 7 + 1 = wd) := fun h => hjj (d3.1 h)
              have hneb : ((E - 3 + (j : Int) + 5) % 7 + 1 == wd) = false := by simpa using hne
              have HJ2 := hide (show j + 1 ≤ J ∨ isB (E - 3 + J) = false by rcases HJ.out with h | h; exact .inl (by omega); exact .inr h)
              obtain ⟨Q, hQ⟩ : ∃ Q, (E - 3 + (j : Int) + 5) % 7 + 1 = Q := ⟨_, rfl⟩
              rw [hQ] at hneb hne ⊢
              clear d0 d1 d2 d3 hQ
              go_wp2
              all_goals first
                | (exfalso; omega)
                | skip
              go_roundw
              case rel => exact ⟨j + 1, by congr 1; omega, by omega, HJ2, by (repeat' (first | (with_reducible exact Below.refl _ _) | (with_reducible assumption) | (with_reducible refine Below.alloc ?_ ?_ _) | (with_reducible refine below_drewN ?_ _) | (with_reducible refine Below.drew ?_) | (with_reducible refine Below.setCell ?_ ?_ _) | (with_reducible refine Below.trans ?_ (Below.mono (by assumption) ?_)) | go_size | (simp at *; omega)))⟩
              case measure => simp [intOf]; omega
          · have HDD := hide (And.intro d1 d2)
            have HJ2 := hide (show j + 1 ≤ J ∨ isB (E - 3 + J) = false by
              rcases HJ.out with h | h
              · right
                simp only [isB, decide_eq_false_iff_not]
                omega
              · exact .inr h)
            go_wp2_with fail
            all_goals first
              | (exfalso; omega)
              | skip
            refine (rweekday_any _ _).mono ?_
            rintro e w3 ⟨rfl, hb3⟩
            rw [HDD.out.1, HDD.out.2]
            have hBel3 := hBel.trans (hb3.mono hsz)
            clear hb3 d0 d1 d2
            go_wp2
            all_goals first
              | (exfalso; omega)
              | skip
            go_roundw
            case rel => exact ⟨j + 1, by congr 1; omega, by omega, HJ2, by (repeat' (first | (with_reducible exact Below.refl _ _) | (with_reducible assumption) | (with_reducible refine Below.alloc ?_ ?_ _) | (with_reducible refine below_drewN ?_ _) | (with_reducible refine Below.drew ?_) | (with_reducible refine Below.setCell ?_ ?_ _) | (with_reducible refine Below.trans ?_ (Below.mono (by assumption) ?_)) | go_size | (simp at *; omega)))⟩
            case measure => simp [intOf]; omega
        · obtain rfl : j = 7 := by omega
          have hb : isB (E - 3 + J) = false := by
            rcases HJ.out with h | h
            · exfalso; omega
            · exact h
          have R1 := hide (show nearV y m wd = 0 by rw [H1.out, if_neg (by rw [hb]; decide)])
          have R2 := hide (show nearE y m wd = 4 by rw [H2.out, if_neg (by rw [hb]; decide)])
          clear hb
          go_wp2
          all_goals first
            | (exfalso; omega)
            | (go_ret2; exact ⟨ret_int2 R1.out.symm R2.out.symm, by (repeat' (first | (with_reducible exact Below.refl _ _) | (with_reducible assumption) | (with_reducible refine Below.alloc ?_ ?_ _) | (with_reducible refine below_drewN ?_ _) | (with_reducible refine Below.drew ?_) | (with_reducible refine Below.setCell ?_ ?_ _) | (with_reducible refine Below.trans ?_ (Below.mono (by assumption) ?_)) | go_size | (simp at *; omega)))⟩)
    · have hk : wkE y m wd = 1 := by rw [wkE, if_pos ht, if_neg hw]
      have H1 := hide (show nearV y m wd = 0 by rw [nearV, if_neg (by omega)])
      have H2 := hide (show nearE y m wd = 1 by rw [nearE, if_neg (by omega)]; exact hk)
      obtain ⟨L, hL⟩ : ∃ L, lenV y m = L := ⟨_, rfl⟩
      have HL := hide hL
      clear ht hk hL
      rcases (show wd < 1 ∨ (1 ≤ wd ∧ 7 < wd) by omega) with h | ⟨h, h2⟩
      all_goals
        go_enter Try.func76, Try.ntmps76
        go_wp2_with fail
        refine (rlength_any _ _ _).mono ?_
        rintro e w1 ⟨rfl, rfl⟩
        rw [HE.out, HL.out]
        go_wp2_with fail
        all_goals first
          | (exfalso; omega)
          | (go_ret2; exact ⟨ret_int2 H1.out.symm H2.out.symm, by (repeat' (first | (with_reducible exact Below.refl _ _) | (with_reducible assumption) | (with_reducible refine Below.alloc ?_ ?_ _) | (with_reducible refine below_drewN ?_ _) | (with_reducible refine Below.drew ?_) | (with_reducible refine Below.setCell ?_ ?_ _) | (with_reducible refine Below.trans ?_ (Below.mono (by assumption) ?_)) | go_size | (simp at *; omega)))⟩)
end Go.Proofs.Ytojdngkleiokgaa
