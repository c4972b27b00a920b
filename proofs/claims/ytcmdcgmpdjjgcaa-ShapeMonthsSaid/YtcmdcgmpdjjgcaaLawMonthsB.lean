/- The walk of ShapeMonths: a year that is told. -/
import Derived.Test.YtcmdcgmpdjjgcaaLawMonths
import Derived.Test.YtcmdcgmpdjjgcaaYearC
namespace Go.Proofs.Ytcmdcgmpdjjgcaa
open Go.RowKit Qd
set_option linter.unusedSimpArgs false
set_option linter.unusedVariables false

set_option maxRecDepth 100000 in
set_option maxHeartbeats 3200000 in
theorem smonths_yes (c : Cal) (y : Int) (w : World) (hn : c.name.size ≤ 100) (hs : c.kind = 6) (hE : askE c y 1601 = 0) :
    Calls Try.prog 8 #[calV c, .int .i64 y] w fun e w' => e = .returned (.bool true) ∧ Below w.heap.size w w' := by
  have hs' : (c.kind == 6) = true := by simp [hs]
  have h5 := (ok_shape (ask_ok hE).1).2.1.1 hs
  have hmo := (ok_rule (ask_ok hE).1).1
  have HLL := hide (show (endsL c y).length = 12 by simp [endsL, h5, mon_len])
  have HW := hide (weeks_len c y)
  have HD := hide (fun k hk => month_date c y hE hs k hk)
  have HE := hide hE
  clear hs hE h5
  simp only [calV]
  go_enter Try.func8, Try.ntmps8
  go_wp2_with fail
  refine (live15_any _).mono ?_
  rintro e w1 ⟨rfl, hb1⟩
  have hz1 : w.heap.size < w1.heap.size := by have := hb1.size; simp at this; omega
  have HB1 := hide (Below.trans ((Below.refl _ _).alloc (Nat.le_refl _) _) (hb1.mono (by simp)) : Below w.heap.size w w1)
  have HQ := hide (calAt_below hb1 (by simp) (calAt_new w c))
  obtain ⟨q0, q1, q2, q3, q4, q5, q6, q7, q8, q9, q10, q11, q12, q13⟩ := HQ.out
  clear hb1
  go_wp2_with fail
  all_goals first
    | (exfalso; omega)
    | skip
  refine (ends_any c y _ (by omega) HE.out).mono ?_
  rintro e w2 ⟨g, hg, rfl, hI, hb2⟩
  clear q0 q1 q2 q3 q4 q5 q6 q7 q8 q9 q10 q11 q12 q13
  have HQ2 := hide (calAt_below hb2 hz1 HQ.out)
  obtain ⟨q0, q1, q2, q3, q4, q5, q6, q7, q8, q9, q10, q11, q12, q13⟩ := HQ2.out
  have hz2 : w.heap.size < w2.heap.size := Nat.lt_of_lt_of_le hz1 hb2.size
  have HB2 := hide (HB1.out.trans (hb2.mono (Nat.le_of_lt hz1)))
  have HI := hide hI
  clear hI hb2
  rw [HLL.out]
  go_wp2_with fail
  refine (sweeks_any c y _ (by omega) HE.out).mono ?_
  rintro e w3 ⟨g2, hg2, rfl, hJ, hb3⟩
  clear q0 q1 q2 q3 q4 q5 q6 q7 q8 q9 q10 q11 q12 q13
  have hz3 : w.heap.size < w3.heap.size := Nat.lt_of_lt_of_le hz2 hb3.size
  have HQ3 := hide (calAt_below hb3 hz2 HQ2.out)
  have HB3 := hide (HB2.out.trans (hb3.mono (Nat.le_of_lt hz2)))
  have HI3 := hide (HI.out.call hb3)
  have HJ := hide hJ
  clear hJ hb3
  rw [HLL.out]
  go_wp2
  go_loopw [62] (fun s wr => ∃ k : Nat, s = .int .i64 k ∧ k ≤ 12 ∧ Below w3.heap.size w3 wr) (fun s _ => (13 - intOf s).toNat)
  case atStart => exact ⟨0, rfl, by omega, Below.refl _ _⟩
  case round =>
    obtain ⟨k, rfl, hk, hB⟩ := hrel
    have hzr : w.heap.size < wr.heap.size := Nat.lt_of_lt_of_le hz3 hB.size
    by_cases hlt : k < 12
    · obtain ⟨m1, m2, m3, m4, m5, m6⟩ := HD.out k hlt
      have hI := (HI3.out).call hB
      have hJ := (HJ.out).call hB
      have c1 : wr.cell? ⟨g, k, none⟩ = some (.int .i64 (endAt c y k)) := hI.cell (k := k) (by rw [HLL.out]; exact hlt)
      have hgw : g < wr.heap.size := hI.lt
      have HL := hide (show lenE (ofY (endAt c y k)) (ofM (endAt c y k)) = 0 by simp [lenE, m4])
      have hlb := len_bd (ofY (endAt c y k)) (ofM (endAt c y k))
      have B3 : (ofM (endAt c y k) != (c.month + (k : Int)) % 12 + 1) = false := by rw [m3]; simp
      have B5 : (ofD (endAt c y k) != lenV (ofY (endAt c y k)) (ofM (endAt c y k))) = false := by rw [m5]; simp
      have B6 : (wkAt c y k != (lenV (ofY (endAt c y k)) (ofM (endAt c y k)) + 6) / 7) = false := by rw [m6]; simp
      have HJr := hide hJ
      clear m2 m3 m4 m5 m6 hI hJ
      go_wp2_with fail
      refine (of_yes _ _ m1).mono ?_
      rintro e w4 ⟨rfl, hb4⟩
      clear c1 m1
      have hz4 : w.heap.size < w4.heap.size := Nat.lt_of_lt_of_le hzr hb4.size
      have HB4 := hide (hB.trans (hb4.mono hB.size))
      have HJ4 := hide (HJr.out.call hb4)
      clear hb4
      go_wp2_with fail
      refine (length_any _ _ _).mono ?_
      rintro e w5 ⟨rfl, hb5⟩
      rw [HL.out]
      have HJ5 := (HJ4.out.alloc (.cells #[.int .i64 (ofY (endAt c y k)), .int .i64 (ofM (endAt c y k)), .int .i64 (ofD (endAt c y k))] 38)).call hb5
      have x1 : w5.cell? ⟨g2, k, none⟩ = some (.int .i64 (wkAt c y k)) := by
        have := HJ5.cell (k := k) (by rw [HW.out, HLL.out]; exact hlt)
        simpa [weeksL, HLL.out, hlt] using this
      have x2 : w5.cell? ⟨w.heap.size, 3, none⟩ = some (.int .i64 c.month) := by
        have hq := calAt_below hb5 (by simp; omega) (calAt_alloc (calAt_below HB4.out hz3 HQ3.out) hz4 (.cells #[.int .i64 (ofY (endAt c y k)), .int .i64 (ofM (endAt c y k)), .int .i64 (ofD (endAt c y k))] 38))
        exact hq.2.2.2.1
      obtain ⟨hc5, hf5⟩ := bcell hb5
      have x3 : w5.cell? ⟨w4.heap.size, 1, none⟩ = some (.int .i64 (ofM (endAt c y k))) := by rw [hc5 _ _ (by simp)]; simp
      have x4 : w5.cell? ⟨w4.heap.size, 2, none⟩ = some (.int .i64 (ofD (endAt c y k))) := by rw [hc5 _ _ (by simp)]; simp
      have HB5 := hide ((HB4.out.alloc (by have := HB4.out.size; omega) (.cells #[.int .i64 (ofY (endAt c y k)), .int .i64 (ofM (endAt c y k)), .int .i64 (ofD (endAt c y k))] 38)).trans (hb5.mono (by have := HB4.out.size; simp; omega)))
      clear hc5 hf5 hb5 HJ5
      go_wp2
      all_goals first
        | (exact ⟨⟨k + 1, by go_num, by omega, HB5.out⟩, by simp [intOf]; omega⟩)
        | (exfalso; simp_all; done)
    · obtain rfl : k = 12 := by omega
      go_wp2
      go_ret
      exact ⟨rfl, HB3.out.trans (hB.mono (Nat.le_of_lt hz3))⟩

theorem smonths_walk (c : Cal) (hn : c.name.size ≤ 9223372036854775807) (y : Int) (w : World) :
    Calls Try.prog 8 #[calV c, .int .i64 y] w fun e w' => e = .returned (.bool true) ∧ Below w.heap.size w w' := by
  by_cases h : 100 < c.name.size
  · exact smonths_long c y w h hn
  · by_cases hs : c.kind = 6
    · by_cases hE : askE c y 1601 = 0
      · exact smonths_yes c y w (by omega) hs hE
      · exact smonths_no c y w (by omega) hs hE
    · exact smonths_other c y w (by omega) hs
end Go.Proofs.Ytcmdcgmpdjjgcaa
