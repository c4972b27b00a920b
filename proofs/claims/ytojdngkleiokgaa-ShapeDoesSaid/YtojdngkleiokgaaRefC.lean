/- Contracts of the references: days, second part; weeks (layers 5, 6). -/
import Derived.Test.YtojdngkleiokgaaRefB
import Derived.Test.YtojdngkleiokgaaShapeC
namespace Go.Proofs.Ytojdngkleiokgaa
open Go.RowKit Qd
set_option linter.unusedSimpArgs false
set_option linter.unusedVariables false

set_option maxRecDepth 100000 in
set_option maxHeartbeats 1600000 in
theorem rday_no (y m d : Int) (w : World) (hd : dateB y m d = false) :
    Calls Try.prog 63 #[.agg #[.int .i64 y, .int .i64 m, .int .i64 d]] w fun e w' => e = .returned (.tuple #[.int .i64 (dayV y m d), .int .i64 (dateE y m d)]) ∧ Below w.heap.size w w' := by
  have hl : dateE y m d = 4 := by simp [dateE, hd]
  have H1 := hide (show dayV y m d = 0 by simp [dayV, hd])
  have H2 := hide hl
  clear hl
  go_enter Try.func63, Try.ntmps63
  go_wp2_with fail
  refine (rdcheck_any _ _ _ _).mono ?_
  rintro e w1 ⟨rfl, hb1⟩
  rw [H2.out]
  have hz1 : w.heap.size < w1.heap.size := by have := hb1.size; simp at this; omega
  have hBel : Below w.heap.size w w1 := by refine Below.trans ?_ (hb1.mono (by simp)); (repeat' (first | (with_reducible exact Below.refl _ _) | (with_reducible assumption) | (with_reducible refine Below.alloc ?_ ?_ _) | (with_reducible refine below_drewN ?_ _) | (with_reducible refine Below.drew ?_) | (with_reducible refine Below.setCell ?_ ?_ _) | (with_reducible refine Below.trans ?_ (Below.mono (by assumption) ?_)) | go_size | (simp at *; omega)))
  clear hb1
  go_wp2
  go_ret2
  exact ⟨ret_int2 H1.out.symm H2.out.symm, by (repeat' (first | (with_reducible exact Below.refl _ _) | (with_reducible assumption) | (with_reducible refine Below.alloc ?_ ?_ _) | (with_reducible refine below_drewN ?_ _) | (with_reducible refine Below.drew ?_) | (with_reducible refine Below.setCell ?_ ?_ _) | (with_reducible refine Below.trans ?_ (Below.mono (by assumption) ?_)) | go_size | (simp at *; omega)))⟩

set_option maxRecDepth 100000 in
set_option maxHeartbeats 3200000 in
theorem rday_yes (y m d : Int) (w : World) (hd : dateB y m d = true) :
    Calls Try.prog 63 #[.agg #[.int .i64 y, .int .i64 m, .int .i64 d]] w fun e w' => e = .returned (.tuple #[.int .i64 (dayV y m d), .int .i64 (dateE y m d)]) ∧ Below w.heap.size w w' := by
  have H2 := hide (show dateE y m d = 0 by simp [dateE, hd])
  have H1 := hide (show dayV y m d = yearsV y + aheadV y m + d - 1 by rw [dayV, if_pos hd]; rfl)
  have ht : 1600 ≤ y ∧ y ≤ 9999 ∧ 1 ≤ m ∧ m ≤ 12 ∧ 1 ≤ d ∧ d ≤ lenV y m := by simp [dateB, thereB] at hd; omega
  have hlb := len_bd y m
  have hyb := fun z (h1 : 1600 ≤ z) (h2 : z ≤ 10000) => years_bd z h1 h2
  have HYB := hide hyb
  have HY4 := hide years_400
  have HYL := hide years_long
  have hab := ahead_bd y
  have HAB := hide hab
  clear hd hyb hab
  go_enter Try.func63, Try.ntmps63
  go_wp2_with fail
  refine (rdcheck_any _ _ _ _).mono ?_
  rintro e w1 ⟨rfl, hb1⟩
  rw [H2.out]
  have hz1 : w.heap.size < w1.heap.size := by have := hb1.size; simp at this; omega
  have HB := hide (show Below w.heap.size w w1 by refine Below.trans ?_ (hb1.mono (by simp)); (repeat' (first | (with_reducible exact Below.refl _ _) | (with_reducible assumption) | (with_reducible refine Below.alloc ?_ ?_ _) | (with_reducible refine below_drewN ?_ _) | (with_reducible refine Below.drew ?_) | (with_reducible refine Below.setCell ?_ ?_ _) | (with_reducible refine Below.trans ?_ (Below.mono (by assumption) ?_)) | go_size | (simp at *; omega))))
  have GD := hide ((BlkIs.new w #[.int .i64 y, .int .i64 m, .int .i64 d] 57).call hb1)
  have d0 : w1.cell? ⟨w.heap.size, 0, none⟩ = some (.int .i64 y) := GD.out.cell 0
  have d1 : w1.cell? ⟨w.heap.size, 1, none⟩ = some (.int .i64 m) := GD.out.cell 1
  have d2 : w1.cell? ⟨w.heap.size, 2, none⟩ = some (.int .i64 d) := GD.out.cell 2
  clear hb1
  go_wp2_with fail
  go_loop [5, 6] (fun sn sy => ∃ z : Int, sy = .int .i64 z ∧ sn = .int .i64 (yearsV z) ∧ 1600 ≤ z ∧ z ≤ y ∧ (z - 1600) % 400 = 0) (fun _ sy => (10000 - intOf sy).toNat)
  case atStart => exact ⟨1600, rfl, by rw [years_1600], by omega, by omega, by omega⟩
  case round =>
    obtain ⟨z, rfl, rfl, hz2, hz3, hz4⟩ := hrel
    have hzb := HYB.out z hz2 (by omega)
    by_cases hlt : z + 400 ≤ y
    · have HN := hide (HY4.out z hz2 hz4)
      obtain ⟨Y, hY⟩ : ∃ Y, yearsV z = Y := ⟨_, rfl⟩
      rw [hY] at HN hzb
      rw [hY]
      clear hY
      go_wp2
      go_round
      case rel => exact ⟨z + 400, rfl, by rw [HN.out], by omega, by omega, by omega⟩
      case measure => simp [intOf]; omega
    · go_wp2_with fail
      go_loop [5, 6] (fun sn sy => ∃ z : Int, sy = .int .i64 z ∧ sn = .int .i64 (yearsV z) ∧ 1600 ≤ z ∧ z ≤ y) (fun _ sy => (10000 - intOf sy).toNat)
      case atStart => exact ⟨z, rfl, rfl, hz2, hz3⟩
      case round =>
        clear hzb hz4 hlt
        obtain ⟨z, rfl, rfl, hz2, hz3⟩ := hrel
        have hzb := HYB.out z hz2 (by omega)
        by_cases hlt : z < y
        · have HN := hide (HYL.out z hz2 (by omega))
          have hlz := long_bd z
          obtain ⟨Y, hY⟩ : ∃ Y, yearsV z = Y := ⟨_, rfl⟩
          obtain ⟨G, hG⟩ : ∃ Y, longV z = Y := ⟨_, rfl⟩
          have HG := hide hG
          rw [hY, hG] at HN
          rw [hY] at hzb
          rw [hG] at hlz
          rw [hY]
          clear hY hG
          go_wp2_with fail
          refine (rlong_any _ _).mono ?_
          rintro e w2 ⟨rfl, rfl⟩
          rw [HG.out]
          go_wp2
          go_round
          case rel => exact ⟨z + 1, rfl, by rw [HN.out], by omega, by omega⟩
          case measure => simp [intOf]; omega
        · obtain rfl : z = y := by omega
          obtain ⟨Y, hY⟩ : ∃ Y, yearsV z = Y := ⟨_, rfl⟩
          rw [hY] at H1 hzb
          rw [hY]
          clear hY
          go_wp2_with fail
          go_loop [5, 7] (fun sn sm => ∃ j : Int, sm = .int .i64 j ∧ sn = .int .i64 (Y + aheadV z j) ∧ 1 ≤ j ∧ j ≤ m) (fun _ sm => (20 - intOf sm).toNat)
          case atStart => exact ⟨1, rfl, by rw [ahead_1]; simp, by omega, by omega⟩
          case round =>
            obtain ⟨j, rfl, rfl, hj1, hj2⟩ := hrel
            have ha := HAB.out j
            by_cases hlt2 : j < m
            · have ht2 : thereB z j = true := by simp [thereB]; omega
              have HL := hide (And.intro (show lenE z j = 0 by simp [lenE, ht2]) (show lenV z j = aheadV z (j + 1) - aheadV z j by simp [lenV, ht2]))
              have ha2 := HAB.out (j + 1)
              obtain ⟨A, hA⟩ : ∃ A, aheadV z j = A := ⟨_, rfl⟩
              obtain ⟨B, hB⟩ : ∃ A, aheadV z (j + 1) = A := ⟨_, rfl⟩
              rw [hA, hB] at HL
              have HBB := hide hB
              rw [hA] at ha
              rw [hB] at ha2
              rw [hA]
              clear ht2 hA hB
              go_wp2_with fail
              refine (rlength_any _ _ _).mono ?_
              rintro e w2 ⟨rfl, rfl⟩
              rw [HL.out.1, HL.out.2]
              go_wp2
              go_round
              case rel => exact ⟨j + 1, rfl, by rw [HBB.out]; congr 1; omega, by omega, by omega⟩
              case measure => simp [intOf]; omega
            · obtain rfl : j = m := by omega
              obtain ⟨A, hA⟩ : ∃ A, aheadV z j = A := ⟨_, rfl⟩
              rw [hA] at H1 ha
              rw [hA]
              clear hA
              have hBel := HB.out
              go_wp2
              go_ret2
              exact ⟨ret_int2 (by rw [H1.out]) H2.out.symm, by (repeat' (first | (with_reducible exact Below.refl _ _) | (with_reducible assumption) | (with_reducible refine Below.alloc ?_ ?_ _) | (with_reducible refine below_drewN ?_ _) | (with_reducible refine Below.drew ?_) | (with_reducible refine Below.setCell ?_ ?_ _) | (with_reducible refine Below.trans ?_ (Below.mono (by assumption) ?_)) | go_size | (simp at *; omega)))⟩
theorem rday_any (y m d : Int) (w : World) :
    Calls Try.prog 63 #[.agg #[.int .i64 y, .int .i64 m, .int .i64 d]] w fun e w' => e = .returned (.tuple #[.int .i64 (dayV y m d), .int .i64 (dateE y m d)]) ∧ Below w.heap.size w w' := by
  cases hd : dateB y m d
  · exact rday_no y m d w hd
  · exact rday_yes y m d w hd

set_option maxHeartbeats 800000 in
theorem rweekday_any (day : Int) (w : World) :
    Calls Try.prog 64 #[.int .i64 day] w fun e w' => e = .returned (.tuple #[.int .i64 (wdV day), .int .i64 (isE day)]) ∧ Below w.heap.size w w' := by
  rcases (show day < 0 ∨ (0 ≤ day ∧ 3068036 < day) ∨ (0 ≤ day ∧ day ≤ 3068036) by omega) with h | ⟨h, h2⟩ | ⟨h, h2⟩
  · have ht : isB day = false := by simp [isB]; omega
    have H2 : Hid (isE day = 4) := by simp [Hid, isE, ht]
    have H1 : Hid (wdV day = 0) := by simp [Hid, wdV, ht]
    clear ht
    go_enter Try.func64, Try.ntmps64
    go_wp2
    all_goals first
      | (exfalso; omega)
      | (go_ret2; exact ⟨ret_int2 H1.out.symm H2.out.symm, by (repeat' (first | (with_reducible exact Below.refl _ _) | (with_reducible assumption) | (with_reducible refine Below.alloc ?_ ?_ _) | (with_reducible refine below_drewN ?_ _) | (with_reducible refine Below.drew ?_) | (with_reducible refine Below.setCell ?_ ?_ _) | (with_reducible refine Below.trans ?_ (Below.mono (by assumption) ?_)) | go_size | (simp at *; omega)))⟩)
  · have ht : isB day = false := by simp [isB]; omega
    have H2 : Hid (isE day = 4) := by simp [Hid, isE, ht]
    have H1 : Hid (wdV day = 0) := by simp [Hid, wdV, ht]
    clear ht
    go_enter Try.func64, Try.ntmps64
    go_wp2
    all_goals first
      | (exfalso; omega)
      | (go_ret2; exact ⟨ret_int2 H1.out.symm H2.out.symm, by (repeat' (first | (with_reducible exact Below.refl _ _) | (with_reducible assumption) | (with_reducible refine Below.alloc ?_ ?_ _) | (with_reducible refine below_drewN ?_ _) | (with_reducible refine Below.drew ?_) | (with_reducible refine Below.setCell ?_ ?_ _) | (with_reducible refine Below.trans ?_ (Below.mono (by assumption) ?_)) | go_size | (simp at *; omega)))⟩)
  · have ht : isB day = true := by simp [isB]; omega
    have H2 : Hid (isE day = 0) := by simp [Hid, isE, ht]
    have H1 : Hid (wdV day = (day + 5) % 7 + 1) := by simp [Hid, wdV, ht]
    have hm : day.tmod 7 = day % 7 := Int.tmod_eq_emod_of_nonneg h
    clear ht
    rcases (show day % 7 = 0 ∨ day % 7 = 1 ∨ day % 7 = 2 ∨ day % 7 = 3 ∨ day % 7 = 4 ∨ day % 7 = 5 ∨ day % 7 = 6 by omega) with h7 | h7 | h7 | h7 | h7 | h7 | h7
    · have H3 := hide (show wdV day = 6 by rw [H1]; omega)
      clear H1
      go_enter Try.func64, Try.ntmps64
      go_wp2
      all_goals first
        | (exfalso; omega)
        | (go_ret2; exact ⟨ret_int2 H3.out.symm H2.out.symm, by (repeat' (first | (with_reducible exact Below.refl _ _) | (with_reducible assumption) | (with_reducible refine Below.alloc ?_ ?_ _) | (with_reducible refine below_drewN ?_ _) | (with_reducible refine Below.drew ?_) | (with_reducible refine Below.setCell ?_ ?_ _) | (with_reducible refine Below.trans ?_ (Below.mono (by assumption) ?_)) | go_size | (simp at *; omega)))⟩)
    · have H3 := hide (show wdV day = 7 by rw [H1]; omega)
      clear H1
      go_enter Try.func64, Try.ntmps64
      go_wp2
      all_goals first
        | (exfalso; omega)
        | (go_ret2; exact ⟨ret_int2 H3.out.symm H2.out.symm, by (repeat' (first | (with_reducible exact Below.refl _ _) | (with_reducible assumption) | (with_reducible refine Below.alloc ?_ ?_ _) | (with_reducible refine below_drewN ?_ _) | (with_reducible refine Below.drew ?_) | (with_reducible refine Below.setCell ?_ ?_ _) | (with_reducible refine Below.trans ?_ (Below.mono (by assumption) ?_)) | go_size | (simp at *; omega)))⟩)
    · have H3 := hide (show wdV day = 1 by rw [H1]; omega)
      clear H1
      go_enter Try.func64, Try.ntmps64
      go_wp2
      all_goals first
        | (exfalso; omega)
        | (go_ret2; exact ⟨ret_int2 H3.out.symm H2.out.symm, by (repeat' (first | (with_reducible exact Below.refl _ _) | (with_reducible assumption) | (with_reducible refine Below.alloc ?_ ?_ _) | (with_reducible refine below_drewN ?_ _) | (with_reducible refine Below.drew ?_) | (with_reducible refine Below.setCell ?_ ?_ _) | (with_reducible refine Below.trans ?_ (Below.mono (by assumption) ?_)) | go_size | (simp at *; omega)))⟩)
    · have H3 := hide (show wdV day = 2 by rw [H1]; omega)
      clear H1
      go_enter Try.func64, Try.ntmps64
      go_wp2
      all_goals first
        | (exfalso; omega)
        | (go_ret2; exact ⟨ret_int2 H3.out.symm H2.out.symm, by (repeat' (first | (with_reducible exact Below.refl _ _) | (with_reducible assumption) | (with_reducible refine Below.alloc ?_ ?_ _) | (with_reducible refine below_drewN ?_ _) | (with_reducible refine Below.drew ?_) | (with_reducible refine Below.setCell ?_ ?_ _) | (with_reducible refine Below.trans ?_ (Below.mono (by assumption) ?_)) | go_size | (simp at *; omega)))⟩)
    · have H3 := hide (show wdV day = 3 by rw [H1]; omega)
      clear H1
      go_enter Try.func64, Try.ntmps64
      go_wp2
      all_goals first
        | (exfalso; omega)
        | (go_ret2; exact ⟨ret_int2 H3.out.symm H2.out.symm, by (repeat' (first | (with_reducible exact Below.refl _ _) | (with_reducible assumption) | (with_reducible refine Below.alloc ?_ ?_ _) | (with_reducible refine below_drewN ?_ _) | (with_reducible refine Below.drew ?_) | (with_reducible refine Below.setCell ?_ ?_ _) | (with_reducible refine Below.trans ?_ (Below.mono (by assumption) ?_)) | go_size | (simp at *; omega)))⟩)
    · have H3 := hide (show wdV day = 4 by rw [H1]; omega)
      clear H1
      go_enter Try.func64, Try.ntmps64
      go_wp2
      all_goals first
        | (exfalso; omega)
        | (go_ret2; exact ⟨ret_int2 H3.out.symm H2.out.symm, by (repeat' (first | (with_reducible exact Below.refl _ _) | (with_reducible assumption) | (with_reducible refine Below.alloc ?_ ?_ _) | (with_reducible refine below_drewN ?_ _) | (with_reducible refine Below.drew ?_) | (with_reducible refine Below.setCell ?_ ?_ _) | (with_reducible refine Below.trans ?_ (Below.mono (by assumption) ?_)) | go_size | (simp at *; omega)))⟩)
    · have H3 := hide (show wdV day = 5 by rw [H1]; omega)
      clear H1
      go_enter Try.func64, Try.ntmps64
      go_wp2
      all_goals first
        | (exfalso; omega)
        | (go_ret2; exact ⟨ret_int2 H3.out.symm H2.out.symm, by (repeat' (first | (with_reducible exact Below.refl _ _) | (with_reducible assumption) | (with_reducible refine Below.alloc ?_ ?_ _) | (with_reducible refine below_drewN ?_ _) | (with_reducible refine Below.drew ?_) | (with_reducible refine Below.setCell ?_ ?_ _) | (with_reducible refine Below.trans ?_ (Below.mono (by assumption) ?_)) | go_size | (simp at *; omega)))⟩)
end Go.Proofs.Ytojdngkleiokgaa
