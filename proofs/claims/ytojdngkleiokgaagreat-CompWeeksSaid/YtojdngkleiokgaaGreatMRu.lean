/- Plain facts for the references: the year beside a day's civil year. Contracts of the references: the year in which a day lies (layer 14). Contracts of the references: what may be asked (layer 17). Contracts of the references: in which unit a day lies, and which are beside one (layer 17). Contracts of the references: in which unit a day lies, and which are beside one (layer 17). -/
import Derived.Test.YtojdngkleiokgaaGreatMFr
import Derived.Test.YtojdngkleiokgaaGreatMRh
import Derived.Test.YtojdngkleiokgaaGreatMRb
import Derived.Test.YtojdngkleiokgaaGreatMFi
import Derived.Test.YtojdngkleiokgaaGreatMUn
import Derived.Test.YtojdngkleiokgaaGreatMRq
namespace Go.Proofs.YtojdngkleiokgaaGreat
open Go.RowKit Qd
set_option linter.unusedSimpArgs false
set_option linter.unusedVariables false

theorem yr_near1 {c : Cal} {day y : Int} (h : yrOk c day y) (hd : isB day = true) : ofY day - c.shift - 1 ≤ y ∧ y ≤ ofY day - c.shift + 1 := by
  obtain ⟨a1, a2, a3⟩ := h
  obtain ⟨hok, y1, y2⟩ := ask_ok a1
  obtain ⟨hm, hs, hk, hd2⟩ := ok_rule hok
  have t1 := ask_there1 a1
  have t2 := ask_there a1 (by omega)
  have eS : startV c y = finV c (y - 1 + c.shift) + 1 := by simp [startV, a1]
  have eE : endV c y = finV c (y + c.shift) := by simp [endV, ask_mono a1]
  have hdd : 0 ≤ day ∧ day < 3068037 := by simpa [isB] using hd
  obtain ⟨o1, o2, o3, o4⟩ := ofY_ok day hdd.1 hdd.2
  have w1 := endW_bd (y - 1 + c.shift) c.month
  have w2 := endW_bd (y + c.shift) c.month
  have e1 := endN_eq _ _ t1
  have e2 := endN_eq _ _ t2
  have b1 := ahead_le (y - 1 + c.shift) 1 (c.month + 1) (by omega) (by omega) (by omega)
  have b0 := ahead_1 (y - 1 + c.shift)
  have b2 := ahead_bd (y + c.shift) (c.month + 1)
  have f1 : endN (y - 1 + c.shift) c.month - 7 ≤ finV c (y - 1 + c.shift) := by
    unfold finV nearD
    split
    · omega
    · split <;> omega
  have f2 : finV c (y + c.shift) ≤ endN (y + c.shift) c.month + 3 := by
    unfold finV nearD
    split
    · omega
    · split <;> omega
  constructor
  · rcases Int.lt_or_le y (ofY day - c.shift - 1) with h5 | h5
    · exfalso
      have h6 := years_lt (y + c.shift) (y + c.shift + 1) (by omega) (by omega)
      have h7 := years_lt (y + c.shift + 1) (ofY day) (by omega) (by omega)
      omega
    · exact h5
  · rcases Int.lt_or_le (ofY day - c.shift + 1) y with h5 | h5
    · exfalso
      have h7 := years_mono (ofY day + 1) (y - 1 + c.shift) (by omega) (by omega)
      omega
    · exact h5

end Go.Proofs.YtojdngkleiokgaaGreat

namespace Go.Proofs.YtojdngkleiokgaaGreat
open Go.RowKit Qd
set_option linter.unusedSimpArgs false
set_option linter.unusedVariables false

set_option maxRecDepth 100000 in
set_option maxHeartbeats 3200000 in
theorem r14of_in (c : Cal) (day : Int) (w : World) (hn : c.name.size ≤ 1000) (hk : c.okB = true) (hd : isB day = true) :
    Calls Tryz.prog 73 #[calV c, .int .i64 day] w fun e w' => e = .returned (.tuple #[.int .i64 (foundY c day), .int .i64 (foundE c day)]) ∧ Below w.heap.size w w' := by
  have hdd : 0 ≤ day ∧ day < 3068037 := by simpa [isB] using hd
  have hyb := ofY_ok day hdd.1 hdd.2
  have HOK := hide (show okE c = 0 by simp [okE, hk])
  have HNO := hide (fun (h : ∀ z, ofY day - 2 ≤ z → z < ofY day - 2 + (5 : Nat) → ¬ yrOk c day z) => (show foundY c day = 0 ∧ foundE c day = 11 from by
    have hne : ¬ ∃ y, yrOk c day y := by
      rintro ⟨y, hy⟩
      have h1 := yr_near1 hy hd
      have h2 := (ok_rule (ask_ok hy.1).1).2.1
      exact h y (by omega) (by omega) hy
    obtain ⟨f1, _, f3⟩ := found_none hne
    exact ⟨f1, f3 hk hd⟩))
  have HYES := hide (fun y (h : yrOk c day y) => (show foundY c day = y ∧ foundE c day = 0 from ⟨(found_yes hd h).1, (found_yes hd h).2.2⟩))
  have HIS := hide hd
  obtain ⟨Y, hY⟩ : ∃ Y, ofY day = Y := ⟨_, rfl⟩
  rw [hY] at hyb HNO
  have HY := hide hY
  have hY1 := hyb.1
  have hY2 := hyb.2.1
  clear hd hyb hY hk
  simp only [calV]
  go_enter Tryz.func73, Tryz.ntmps73
  go_wp2_with fail
  refine (r11check_any c _ hn).mono ?_
  rintro e w1 ⟨rfl, hb1⟩
  rw [HOK.out]
  have hz1 : w.heap.size < w1.heap.size := by have := hb1.size; simp at this; omega
  have HB1 := hide (show Below w.heap.size w w1 by refine Below.trans ?_ (hb1.mono (by first | omega | (simp; done) | (simp; omega))); (repeat' (first | (with_reducible exact Below.refl _ _) | (with_reducible assumption) | (with_reducible refine Below.alloc ?_ ?_ _) | (with_reducible refine below_drewN ?_ _) | (with_reducible refine Below.drew ?_) | (with_reducible refine Below.setCell ?_ ?_ _) | (with_reducible refine Below.trans ?_ (Below.mono (by assumption) ?_)) | go_size | (simp at *; omega))))
  have HQ1 := hide (calAt_below hb1 (by simp) (calAt_new w c))
  obtain ⟨q0, q1, q2, q3, q4, q5, q6, q7, q8, q9, q10, q11, q12, q13⟩ := HQ1.out
  clear hb1
  go_wp2_with fail
  refine (rof_yes day _ HIS.out).mono ?_
  rintro e w2 ⟨rfl, hb2⟩
  rw [HY.out]
  have hz2 : w.heap.size < w2.heap.size := by have := hb2.size; (try simp at this); omega
  have HB2 := hide (show Below w.heap.size w w2 by have hp := HB1.out; refine Below.trans ?_ (hb2.mono (by first | omega | (simp; done) | (simp; omega))); (repeat' (first | (with_reducible exact Below.refl _ _) | (with_reducible assumption) | (with_reducible refine Below.alloc ?_ ?_ _) | (with_reducible refine below_drewN ?_ _) | (with_reducible refine Below.drew ?_) | (with_reducible refine Below.setCell ?_ ?_ _) | (with_reducible refine Below.trans ?_ (Below.mono (by assumption) ?_)) | go_size | (simp at *; omega))))
  have HQ2 := hide (show CalAt w2 w.heap.size c from calAt_below hb2 (by first | omega | (simp; done) | (simp; omega)) (by first | exact HQ1.out | exact calAt_alloc HQ1.out (by omega) _ | exact calAt_alloc (calAt_alloc HQ1.out (by omega) _) (by simp; omega) _))
  clear q0 q1 q2 q3 q4 q5 q6 q7 q8 q9 q10 q11 q12 q13
  obtain ⟨q0, q1, q2, q3, q4, q5, q6, q7, q8, q9, q10, q11, q12, q13⟩ := HQ2.out
  clear hb2
  clear q0 q1 q2 q3 q4 q5 q6 q7 q8 q9 q10 q11 q12 q13
  have HQ0 := hide (calAt_alloc HQ2.out (by omega) (.cells #[.int .i64 Y, .int .i64 (ofM day), .int .i64 (ofD day)] 86))
  have HD0 := hide (show (w2.alloc (.cells #[.int .i64 Y, .int .i64 (ofM day), .int .i64 (ofD day)] 86)).cell? ⟨w2.heap.size, 0, none⟩ = some (.int .i64 Y) by simp [World.cell?_alloc_at])
  have HB0 := hide (show Below w.heap.size w (w2.alloc (.cells #[.int .i64 Y, .int .i64 (ofM day), .int .i64 (ofD day)] 86)) by have hp := HB2.out; (repeat' (first | (with_reducible exact Below.refl _ _) | (with_reducible assumption) | (with_reducible refine Below.alloc ?_ ?_ _) | (with_reducible refine below_drewN ?_ _) | (with_reducible refine Below.drew ?_) | (with_reducible refine Below.setCell ?_ ?_ _) | (with_reducible refine Below.trans ?_ (Below.mono (by assumption) ?_)) | go_size | (simp at *; omega))))
  have hz0 : w2.heap.size < (w2.alloc (.cells #[.int .i64 Y, .int .i64 (ofM day), .int .i64 (ofD day)] 86)).heap.size := by simp
  go_wp2_with fail
  obtain ⟨B0, hB0⟩ : ∃ B, w2.heap.size = B := ⟨_, rfl⟩
  obtain ⟨W0, hW0⟩ : ∃ W, w2.alloc (.cells #[.int .i64 Y, .int .i64 (ofM day), .int .i64 (ofD day)] 86) = W := ⟨_, rfl⟩
  rw [hW0] at HQ0 HD0 HB0 hz0 ⊢
  rw [hB0] at HD0 hz0 hz2 ⊢
  clear hW0 hB0
  go_loopw [9] (fun s wr => ∃ k : Nat, s = .int .i64 (Y - 2 + k) ∧ k ≤ 5 ∧ (∀ z, Y - 2 ≤ z → z < Y - 2 + k → ¬ yrOk c day z) ∧ Below W0.heap.size W0 wr) (fun s _ => (Y + 10 - intOf s).toNat)
  case atStart => exact ⟨0, by simp, by omega, fun z h1 h2 => by omega, Below.refl _ _⟩
  case round =>
    obtain ⟨k, rfl, hk, hno, hB⟩ := hrel
    have HNK := hide hno
    have HBr := hide hB
    have hsz := hB.size
    have hcd : wr.cell? ⟨B0, 0, none⟩ = some (.int .i64 Y) := (hB.cell (p := ⟨B0, 0, none⟩) hz0).trans HD0.out
    have HQr := hide (calAt_below hB (by omega) HQ0.out)
    clear hno hB
    by_cases hlt : k < 5
    · obtain ⟨y, hy⟩ : ∃ y, Y - 2 + (k : Int) = y := ⟨_, rfl⟩
      have hyl : y ≤ Y + 2 := by omega
      have hyb1 : 1598 ≤ y := by omega
      have hyb2 : y ≤ 10001 := by omega
      have HY2 := hide hy
      rw [hy]
      clear hy
      obtain ⟨q0, q1, q2, q3, q4, q5, q6, q7, q8, q9, q10, q11, q12, q13⟩ := HQr.out
      go_wp2_with fail
      all_goals first
        | (exfalso; omega)
        | skip
      refine (r13start_any c y _ hn).mono ?_
      rintro e w3 ⟨rfl, hb3⟩
      have HQ3 := hide (calAt_below hb3 (by omega) HQr.out)
      have HB3 := hide (HBr.out.trans (hb3.mono (by omega)))
      have hcd3 := (hb3.cell (p := ⟨B0, 0, none⟩) (by show B0 < wr.heap.size; omega)).trans hcd
      have hs3 := hb3.size
      clear q0 q1 q2 q3 q4 q5 q6 q7 q8 q9 q10 q11 q12 q13
      clear hb3 hcd
      obtain ⟨q0, q1, q2, q3, q4, q5, q6, q7, q8, q9, q10, q11, q12, q13⟩ := HQ3.out
      go_wp2_with fail
      refine (r13end_any c y _ hn).mono ?_
      rintro e w4 ⟨rfl, hb4⟩
      have HB4 := hide (HB3.out.trans (hb4.mono (by omega)))
      have hcd4 := (hb4.cell (p := ⟨B0, 0, none⟩) (by show B0 < w3.heap.size; omega)).trans hcd3
      have hs4 := hb4.size
      clear q0 q1 q2 q3 q4 q5 q6 q7 q8 q9 q10 q11 q12 q13
      clear hb4 hcd3
      have hBo := HB0.out.trans (HB4.out.mono (by omega))
      by_cases hA : askE c y 1601 = 0
      · have hAb : (askE c y 1601 == 0) = true := by simp [hA]
        by_cases h1 : startV c y ≤ day
        · by_cases h2 : day ≤ endV c y
          · have HF := hide (HYES.out y ⟨hA, h1, h2⟩)
            clear hA
            go_wp2
            all_goals first
              | (exfalso; omega)
              | (go_ret2; exact ⟨ret_int2 HF.out.1.symm HF.out.2.symm, hBo⟩)
          · have HN := hide (show ¬ yrOk c day y from fun h => h2 h.2.2)
            have h2' : endV c y < day := by omega
            clear hA h2 hBo
            go_wp2
            all_goals first
              | (exfalso; omega)
              | skip
            go_roundw
            case rel => exact ⟨k + 1, by rw [← HY2.out]; congr 1; omega, by omega, fun z z1 z2 => by
              by_cases hz : z < Y - 2 + (k : Int)
              · exact HNK.out z z1 hz
              · have : z = y := by have := HY2.out; omega
                rw [this]; exact HN.out, HB4.out⟩
            case measure => have := HY2.out; simp [intOf]; omega
        · have HN := hide (show ¬ yrOk c day y from fun h => h1 h.2.1)
          have h1' : day < startV c y := by omega
          clear hA h1 hBo
          go_wp2
          all_goals first
            | (exfalso; omega)
            | skip
          go_roundw
          case rel => exact ⟨k + 1, by rw [← HY2.out]; congr 1; omega, by omega, fun z z1 z2 => by
            by_cases hz : z < Y - 2 + (k : Int)
            · exact HNK.out z z1 hz
            · have : z = y := by have := HY2.out; omega
              rw [this]; exact HN.out, HB4.out⟩
          case measure => have := HY2.out; simp [intOf]; omega
      · have HN := hide (show ¬ yrOk c day y from fun h => hA h.1)
        have hAb : (askE c y 1601 == 0) = false := by simpa using hA
        clear hA hBo
        go_wp2
        all_goals first
          | (exfalso; omega)
          | skip
        go_roundw
        case rel => exact ⟨k + 1, by rw [← HY2.out]; congr 1; omega, by omega, fun z z1 z2 => by
          by_cases hz : z < Y - 2 + (k : Int)
          · exact HNK.out z z1 hz
          · have : z = y := by have := HY2.out; omega
            rw [this]; exact HN.out, HB4.out⟩
        case measure => have := HY2.out; simp [intOf]; omega
    · obtain rfl : k = 5 := by omega
      have HF := hide (HNO.out HNK.out)
      have hBo := HB0.out.trans (HBr.out.mono (by omega))
      go_wp2
      all_goals first
        | (exfalso; omega)
        | (go_ret2; exact ⟨ret_int2 HF.out.1.symm HF.out.2.symm, hBo⟩)

set_option maxRecDepth 100000 in
set_option maxHeartbeats 1600000 in
theorem r14of_any (c : Cal) (day : Int) (w : World) (hn : c.name.size ≤ 1000) :
    Calls Tryz.prog 73 #[calV c, .int .i64 day] w fun e w' => e = .returned (.tuple #[.int .i64 (foundY c day), .int .i64 (foundE c day)]) ∧ Below w.heap.size w w' := by
  rcases okE_cases c with ⟨_, h1, h2⟩ | ⟨_, h1, h2⟩
  · cases hd : isB day
    · obtain ⟨f1, _, f3⟩ := found_no_day (c := c) hd
      have HF := hide (And.intro f1 (f3 h2))
      have HE := hide h1
      have HD := hide hd
      clear f1 f3 h1 h2 hd
      simp only [calV]
      go_enter Tryz.func73, Tryz.ntmps73
      go_wp2_with fail
      refine (r11check_any c _ hn).mono ?_
      rintro e w1 ⟨rfl, hb1⟩
      rw [HE.out]
      have hz1 : w.heap.size < w1.heap.size := by have := hb1.size; simp at this; omega
      have HB1 := hide (show Below w.heap.size w w1 by refine Below.trans ?_ (hb1.mono (by first | omega | (simp; done) | (simp; omega))); (repeat' (first | (with_reducible exact Below.refl _ _) | (with_reducible assumption) | (with_reducible refine Below.alloc ?_ ?_ _) | (with_reducible refine below_drewN ?_ _) | (with_reducible refine Below.drew ?_) | (with_reducible refine Below.setCell ?_ ?_ _) | (with_reducible refine Below.trans ?_ (Below.mono (by assumption) ?_)) | go_size | (simp at *; omega))))
      have HQ1 := hide (calAt_below hb1 (by simp) (calAt_new w c))
      obtain ⟨q0, q1, q2, q3, q4, q5, q6, q7, q8, q9, q10, q11, q12, q13⟩ := HQ1.out
      clear hb1
      go_wp2_with fail
      refine (rof_no day _ HD.out).mono ?_
      rintro e w2 ⟨rfl, hb2⟩
      have hz2 : w.heap.size < w2.heap.size := by have := hb2.size; (try simp at this); omega
      have HB2 := hide (show Below w.heap.size w w2 by have hp := HB1.out; refine Below.trans ?_ (hb2.mono (by first | omega | (simp; done) | (simp; omega))); (repeat' (first | (with_reducible exact Below.refl _ _) | (with_reducible assumption) | (with_reducible refine Below.alloc ?_ ?_ _) | (with_reducible refine below_drewN ?_ _) | (with_reducible refine Below.drew ?_) | (with_reducible refine Below.setCell ?_ ?_ _) | (with_reducible refine Below.trans ?_ (Below.mono (by assumption) ?_)) | go_size | (simp at *; omega))))
      have HQ2 := hide (show CalAt w2 w.heap.size c from calAt_below hb2 (by first | omega | (simp; done) | (simp; omega)) (by first | exact HQ1.out | exact calAt_alloc HQ1.out (by omega) _ | exact calAt_alloc (calAt_alloc HQ1.out (by omega) _) (by simp; omega) _))
      clear q0 q1 q2 q3 q4 q5 q6 q7 q8 q9 q10 q11 q12 q13
      obtain ⟨q0, q1, q2, q3, q4, q5, q6, q7, q8, q9, q10, q11, q12, q13⟩ := HQ2.out
      clear hb2
      have hBel := HB2.out
      go_wp2
      go_ret2
      exact ⟨ret_int2 HF.out.1.symm HF.out.2.symm, by (repeat' (first | (with_reducible exact Below.refl _ _) | (with_reducible assumption) | (with_reducible refine Below.alloc ?_ ?_ _) | (with_reducible refine below_drewN ?_ _) | (with_reducible refine Below.drew ?_) | (with_reducible refine Below.setCell ?_ ?_ _) | (with_reducible refine Below.trans ?_ (Below.mono (by assumption) ?_)) | go_size | (simp at *; omega)))⟩
    · exact r14of_in c day w hn h2 hd
  · obtain ⟨f1, _, f3⟩ := found_not_ok (day := day) h2
    have HF := hide (And.intro f1 f3)
    have HE := hide h1
    clear f1 f3 h1 h2
    simp only [calV]
    go_enter Tryz.func73, Tryz.ntmps73
    go_wp2_with fail
    refine (r11check_any c _ hn).mono ?_
    rintro e w1 ⟨rfl, hb1⟩
    rw [HE.out]
    have hz1 : w.heap.size < w1.heap.size := by have := hb1.size; simp at this; omega
    have HB1 := hide (show Below w.heap.size w w1 by refine Below.trans ?_ (hb1.mono (by first | omega | (simp; done) | (simp; omega))); (repeat' (first | (with_reducible exact Below.refl _ _) | (with_reducible assumption) | (with_reducible refine Below.alloc ?_ ?_ _) | (with_reducible refine below_drewN ?_ _) | (with_reducible refine Below.drew ?_) | (with_reducible refine Below.setCell ?_ ?_ _) | (with_reducible refine Below.trans ?_ (Below.mono (by assumption) ?_)) | go_size | (simp at *; omega))))
    have HQ1 := hide (calAt_below hb1 (by simp) (calAt_new w c))
    obtain ⟨q0, q1, q2, q3, q4, q5, q6, q7, q8, q9, q10, q11, q12, q13⟩ := HQ1.out
    clear hb1
    have hBel := HB1.out
    go_wp2
    go_ret2
    exact ⟨ret_int2 HF.out.1.symm HF.out.2.symm, by (repeat' (first | (with_reducible exact Below.refl _ _) | (with_reducible assumption) | (with_reducible refine Below.alloc ?_ ?_ _) | (with_reducible refine below_drewN ?_ _) | (with_reducible refine Below.drew ?_) | (with_reducible refine Below.setCell ?_ ?_ _) | (with_reducible refine Below.trans ?_ (Below.mono (by assumption) ?_)) | go_size | (simp at *; omega)))⟩

set_option maxRecDepth 100000 in
set_option maxHeartbeats 1600000 in
theorem r14bounds_bad (c : Cal) (w : World) (hn : c.name.size ≤ 1000) (hk : c.okB = false) :
    Calls Tryz.prog 71 #[calV c] w fun e w' => e = .returned (.tuple #[.agg #[.int .i64 0, .int .i64 0], .int .i64 1]) ∧ Below w.heap.size w w' := by
  have HA := hide (show askE c c.first 1601 = 1 by simp [askE, hk])
  clear hk
  simp only [calV]
  go_enter Tryz.func71, Tryz.ntmps71
  go_wp2_with fail
  refine (r13start_any c c.first _ hn).mono ?_
  rintro e w1 ⟨rfl, hb1⟩
  rw [HA.out]
  have r0 : w1.cell? ⟨w.heap.size + 1, 0, none⟩ = some (.int .i64 0) := by rw [hb1.cell (p := ⟨w.heap.size + 1, 0, none⟩) (by simp; try omega)]; simp [World.cell?_alloc_at, World.cell?_alloc_past, World.frozen?_alloc_at, World.frozen?_alloc_past]
  have f0 : w1.frozen? ⟨w.heap.size + 1, 0, none⟩ = false := by rw [hb1.frozen (p := ⟨w.heap.size + 1, 0, none⟩) (by simp; try omega)]; simp [World.cell?_alloc_at, World.cell?_alloc_past, World.frozen?_alloc_at, World.frozen?_alloc_past]
  have r1 : w1.cell? ⟨w.heap.size + 1, 1, none⟩ = some (.int .i64 0) := by rw [hb1.cell (p := ⟨w.heap.size + 1, 1, none⟩) (by simp; try omega)]; simp [World.cell?_alloc_at, World.cell?_alloc_past, World.frozen?_alloc_at, World.frozen?_alloc_past]
  have f1 : w1.frozen? ⟨w.heap.size + 1, 1, none⟩ = false := by rw [hb1.frozen (p := ⟨w.heap.size + 1, 1, none⟩) (by simp; try omega)]; simp [World.cell?_alloc_at, World.cell?_alloc_past, World.frozen?_alloc_at, World.frozen?_alloc_past]
  have hsz : w.heap.size + 1 < w1.heap.size := by have := hb1.size; simp at this; omega
  have HW := hide (show Below w.heap.size w w1 by (repeat' (first | (with_reducible exact Below.refl _ _) | (with_reducible assumption) | (with_reducible refine Below.alloc ?_ ?_ _) | (with_reducible refine below_drewN ?_ _) | (with_reducible refine Below.drew ?_) | (with_reducible refine Below.setCell ?_ ?_ _) | (with_reducible refine Below.trans ?_ (Below.mono (by assumption) ?_)) | go_size | (simp at *; omega))))
  clear hb1
  go_wp2
  exact bodyPost_ret (v := .tuple #[.agg #[.int .i64 0, .int .i64 0], .int .i64 1]) (by simp (maxDischargeDepth := 9) [results, Tryz.results71, go_sem, r0, r1, f0, f1, hsz]) rfl ⟨rfl, by have hWo := HW.out; (repeat' (first | (with_reducible exact Below.refl _ _) | (with_reducible assumption) | (with_reducible refine Below.alloc ?_ ?_ _) | (with_reducible refine below_drewN ?_ _) | (with_reducible refine Below.drew ?_) | (with_reducible refine Below.setCell ?_ ?_ _) | (with_reducible refine Below.trans ?_ (Below.mono (by assumption) ?_)) | go_size | (simp at *; omega)))⟩

set_option maxRecDepth 100000 in
set_option maxHeartbeats 1600000 in
theorem r14bounds_ok (c : Cal) (w : World) (hn : c.name.size ≤ 1000) (hk : c.okB = true) :
    Calls Tryz.prog 71 #[calV c] w fun e w' => e = .returned (.tuple #[.agg #[.int .i64 (startV c c.first), .int .i64 (endV c c.last)], .int .i64 0]) ∧ Below w.heap.size w w' := by
  have HA := hide (ok_years hk).1
  clear hk
  simp only [calV]
  go_enter Tryz.func71, Tryz.ntmps71
  go_wp2_with fail
  refine (r13start_any c c.first _ hn).mono ?_
  rintro e w1 ⟨rfl, hb1⟩
  rw [HA.out]
  have r0 : w1.cell? ⟨w.heap.size + 1, 0, none⟩ = some (.int .i64 0) := by rw [hb1.cell (p := ⟨w.heap.size + 1, 0, none⟩) (by simp; try omega)]; simp [World.cell?_alloc_at, World.cell?_alloc_past, World.frozen?_alloc_at, World.frozen?_alloc_past]
  have f0 : w1.frozen? ⟨w.heap.size + 1, 0, none⟩ = false := by rw [hb1.frozen (p := ⟨w.heap.size + 1, 0, none⟩) (by simp; try omega)]; simp [World.cell?_alloc_at, World.cell?_alloc_past, World.frozen?_alloc_at, World.frozen?_alloc_past]
  have r1 : w1.cell? ⟨w.heap.size + 1, 1, none⟩ = some (.int .i64 0) := by rw [hb1.cell (p := ⟨w.heap.size + 1, 1, none⟩) (by simp; try omega)]; simp [World.cell?_alloc_at, World.cell?_alloc_past, World.frozen?_alloc_at, World.frozen?_alloc_past]
  have f1 : w1.frozen? ⟨w.heap.size + 1, 1, none⟩ = false := by rw [hb1.frozen (p := ⟨w.heap.size + 1, 1, none⟩) (by simp; try omega)]; simp [World.cell?_alloc_at, World.cell?_alloc_past, World.frozen?_alloc_at, World.frozen?_alloc_past]
  have hsz : w.heap.size + 1 < w1.heap.size := by have := hb1.size; simp at this; omega
  have hsz0 : w.heap.size < w1.heap.size := by omega
  have HQ1 := hide (calAt_below (B := w.heap.size) (c := c) hb1 (by simp; omega) (calAt_alloc (calAt_new w c) (by simp) _))
  have HW := hide (show Below w.heap.size w w1 by (repeat' (first | (with_reducible exact Below.refl _ _) | (with_reducible assumption) | (with_reducible refine Below.alloc ?_ ?_ _) | (with_reducible refine below_drewN ?_ _) | (with_reducible refine Below.drew ?_) | (with_reducible refine Below.setCell ?_ ?_ _) | (with_reducible refine Below.trans ?_ (Below.mono (by assumption) ?_)) | go_size | (simp at *; omega))))
  obtain ⟨q0, q1, q2, q3, q4, q5, q6, q7, q8, q9, q10, q11, q12, q13⟩ := HQ1.out
  clear hb1
  go_wp2_with fail
  refine (r13end_any c c.last _ hn).mono ?_
  rintro e w2 ⟨rfl, hb2⟩
  have x0 : w2.cell? ⟨w.heap.size + 1, 0, none⟩ = some (.int .i64 0) := by rw [hb2.cell (p := ⟨w.heap.size + 1, 0, none⟩) (by show w.heap.size + 1 < w1.heap.size; omega)]; exact r0
  have y0 : w2.frozen? ⟨w.heap.size + 1, 0, none⟩ = false := by rw [hb2.frozen (p := ⟨w.heap.size + 1, 0, none⟩) (by show w.heap.size + 1 < w1.heap.size; omega)]; exact f0
  have x1 : w2.cell? ⟨w.heap.size + 1, 1, none⟩ = some (.int .i64 0) := by rw [hb2.cell (p := ⟨w.heap.size + 1, 1, none⟩) (by show w.heap.size + 1 < w1.heap.size; omega)]; exact r1
  have y1 : w2.frozen? ⟨w.heap.size + 1, 1, none⟩ = false := by rw [hb2.frozen (p := ⟨w.heap.size + 1, 1, none⟩) (by show w.heap.size + 1 < w1.heap.size; omega)]; exact f1
  have hsz2 : w.heap.size + 1 < w2.heap.size := Nat.lt_of_lt_of_le hsz hb2.size
  have HW2 := hide (HW.out.trans (hb2.mono (by omega)))
  clear q0 q1 q2 q3 q4 q5 q6 q7 q8 q9 q10 q11 q12 q13
  clear hb2 r0 r1 f0 f1
  go_wp2
  exact bodyPost_ret (v := .tuple #[.agg #[.int .i64 (startV c c.first), .int .i64 (endV c c.last)], .int .i64 0]) (by simp (maxDischargeDepth := 9) [results, Tryz.results71, go_sem, x0, x1, y0, y1, hsz2]) rfl ⟨rfl, by have hWo := HW2.out; (repeat' (first | (with_reducible exact Below.refl _ _) | (with_reducible assumption) | (with_reducible refine Below.alloc ?_ ?_ _) | (with_reducible refine below_drewN ?_ _) | (with_reducible refine Below.drew ?_) | (with_reducible refine Below.setCell ?_ ?_ _) | (with_reducible refine Below.trans ?_ (Below.mono (by assumption) ?_)) | go_size | (simp at *; omega)))⟩

set_option maxRecDepth 100000 in
set_option maxHeartbeats 1600000 in
theorem r14served_any (c : Cal) (day : Int) (w : World) (hn : c.name.size ≤ 1000) :
    Calls Tryz.prog 40 #[calV c, .int .i64 day] w fun e w' => e = .returned (.tuple #[.int .i64 (servY c day), .int .i64 (servE c day)]) ∧ Below w.heap.size w w' := by
  rcases okE_cases c with ⟨_, h1, h2⟩ | ⟨_, h1, h2⟩
  · have HK := hide h2
    cases hd : isB day
    · have he : servE c day = 4 := by
        have := (found_no_day (c := c) hd).2.2 h2
        simp [servE, h2, this]
      have HF := hide (show servY c day = 0 ∧ servE c day = 4 from ⟨by rw [servY, if_neg (by omega)], he⟩)
      have HD := hide hd
      clear h1 h2 hd he
      simp only [calV]
      go_enter Tryz.func40, Tryz.ntmps40
      go_wp2_with fail
      refine (r14bounds_ok c _ hn HK.out).mono ?_
      rintro e w1 ⟨rfl, hb1⟩
      have hz1 : w.heap.size < w1.heap.size := by have := hb1.size; simp at this; omega
      have HB1 := hide (show Below w.heap.size w w1 by refine Below.trans ?_ (hb1.mono (by first | omega | (simp; done) | (simp; omega))); (repeat' (first | (with_reducible exact Below.refl _ _) | (with_reducible assumption) | (with_reducible refine Below.alloc ?_ ?_ _) | (with_reducible refine below_drewN ?_ _) | (with_reducible refine Below.drew ?_) | (with_reducible refine Below.setCell ?_ ?_ _) | (with_reducible refine Below.trans ?_ (Below.mono (by assumption) ?_)) | go_size | (simp at *; omega))))
      have HQ1 := hide (calAt_below hb1 (by simp) (calAt_new w c))
      obtain ⟨q0, q1, q2, q3, q4, q5, q6, q7, q8, q9, q10, q11, q12, q13⟩ := HQ1.out
      clear hb1
      go_wp2_with fail
      refine (rof_no day _ HD.out).mono ?_
      rintro e w2 ⟨rfl, hb2⟩
      have hz2 : w.heap.size < w2.heap.size := by have := hb2.size; (try simp at this); omega
      have HB2 := hide (show Below w.heap.size w w2 by have hp := HB1.out; refine Below.trans ?_ (hb2.mono (by first | omega | (simp; done) | (simp; omega))); (repeat' (first | (with_reducible exact Below.refl _ _) | (with_reducible assumption) | (with_reducible refine Below.alloc ?_ ?_ _) | (with_reducible refine below_drewN ?_ _) | (with_reducible refine Below.drew ?_) | (with_reducible refine Below.setCell ?_ ?_ _) | (with_reducible refine Below.trans ?_ (Below.mono (by assumption) ?_)) | go_size | (simp at *; omega))))
      have HQ2 := hide (show CalAt w2 w.heap.size c from calAt_below hb2 (by first | omega | (simp; done) | (simp; omega)) (by first | exact HQ1.out | exact calAt_alloc HQ1.out (by omega) _ | exact calAt_alloc (calAt_alloc HQ1.out (by omega) _) (by simp; omega) _))
      clear q0 q1 q2 q3 q4 q5 q6 q7 q8 q9 q10 q11 q12 q13
      obtain ⟨q0, q1, q2, q3, q4, q5, q6, q7, q8, q9, q10, q11, q12, q13⟩ := HQ2.out
      clear hb2
      have hBel := HB2.out
      go_wp2
      go_ret2
      exact ⟨ret_int2 HF.out.1.symm HF.out.2.symm, by (repeat' (first | (with_reducible exact Below.refl _ _) | (with_reducible assumption) | (with_reducible refine Below.alloc ?_ ?_ _) | (with_reducible refine below_drewN ?_ _) | (with_reducible refine Below.drew ?_) | (with_reducible refine Below.setCell ?_ ?_ _) | (with_reducible refine Below.trans ?_ (Below.mono (by assumption) ?_)) | go_size | (simp at *; omega)))⟩
    · have HD := hide hd
      rcases (show day < startV c c.first ∨ (startV c c.first ≤ day ∧ endV c c.last < day) ∨ (startV c c.first ≤ day ∧ day ≤ endV c c.last) by omega) with hx | hx | hx
      · have he : servE c day = 11 := by
          simp only [servE, h2]
          by_cases hy : ∃ y, yrOk c day y
          · obtain ⟨y, hy⟩ := hy
            rw [(found_yes hd hy).2.2]
            simp; omega
          · rw [(found_none hy).2.2 h2 hd]; simp
        have HF := hide (show servY c day = 0 ∧ servE c day = 11 from ⟨by rw [servY, if_neg (by omega)], he⟩)
        clear h1 h2 hd he
        simp only [calV]
        go_enter Tryz.func40, Tryz.ntmps40
        go_wp2_with fail
        refine (r14bounds_ok c _ hn HK.out).mono ?_
        rintro e w1 ⟨rfl, hb1⟩
        have hz1 : w.heap.size < w1.heap.size := by have := hb1.size; simp at this; omega
        have HB1 := hide (show Below w.heap.size w w1 by refine Below.trans ?_ (hb1.mono (by first | omega | (simp; done) | (simp; omega))); (repeat' (first | (with_reducible exact Below.refl _ _) | (with_reducible assumption) | (with_reducible refine Below.alloc ?_ ?_ _) | (with_reducible refine below_drewN ?_ _) | (with_reducible refine Below.drew ?_) | (with_reducible refine Below.setCell ?_ ?_ _) | (with_reducible refine Below.trans ?_ (Below.mono (by assumption) ?_)) | go_size | (simp at *; omega))))
        have HQ1 := hide (calAt_below hb1 (by simp) (calAt_new w c))
        obtain ⟨q0, q1, q2, q3, q4, q5, q6, q7, q8, q9, q10, q11, q12, q13⟩ := HQ1.out
        clear hb1
        go_wp2_with fail
        refine (rof_yes day _ HD.out).mono ?_
        rintro e w2 ⟨rfl, hb2⟩
        have HS2 := hide (spAt_below (B := w1.heap.size) (s := ⟨startV c c.first, endV c c.last⟩) hb2 (by simp) (spAt_fresh w1 ⟨startV c c.first, endV c c.last⟩))
        have hS2 : w1.heap.size < w2.heap.size := by have := hb2.size; simp at this; omega
        have hz2 : w.heap.size < w2.heap.size := by have := hb2.size; (try simp at this); omega
        have HB2 := hide (show Below w.heap.size w w2 by have hp := HB1.out; refine Below.trans ?_ (hb2.mono (by first | omega | (simp; done) | (simp; omega))); (repeat' (first | (with_reducible exact Below.refl _ _) | (with_reducible assumption) | (with_reducible refine Below.alloc ?_ ?_ _) | (with_reducible refine below_drewN ?_ _) | (with_reducible refine Below.drew ?_) | (with_reducible refine Below.setCell ?_ ?_ _) | (with_reducible refine Below.trans ?_ (Below.mono (by assumption) ?_)) | go_size | (simp at *; omega))))
        have HQ2 := hide (show CalAt w2 w.heap.size c from calAt_below hb2 (by first | omega | (simp; done) | (simp; omega)) (by first | exact HQ1.out | exact calAt_alloc HQ1.out (by omega) _ | exact calAt_alloc (calAt_alloc HQ1.out (by omega) _) (by simp; omega) _))
        clear q0 q1 q2 q3 q4 q5 q6 q7 q8 q9 q10 q11 q12 q13
        obtain ⟨q0, q1, q2, q3, q4, q5, q6, q7, q8, q9, q10, q11, q12, q13⟩ := HQ2.out
        clear hb2
        have hBel := HB2.out
        obtain ⟨s0, s1⟩ := HS2.out
        simp only at s0 s1
        go_wp2
        all_goals first
          | (exfalso; omega)
          | (go_ret2; exact ⟨ret_int2 HF.out.1.symm HF.out.2.symm, by (repeat' (first | (with_reducible exact Below.refl _ _) | (with_reducible assumption) | (with_reducible refine Below.alloc ?_ ?_ _) | (with_reducible refine below_drewN ?_ _) | (with_reducible refine Below.drew ?_) | (with_reducible refine Below.setCell ?_ ?_ _) | (with_reducible refine Below.trans ?_ (Below.mono (by assumption) ?_)) | go_size | (simp at *; omega)))⟩)
      · obtain ⟨hx1, hx2⟩ := hx
        have he : servE c day = 11 := by
          simp only [servE, h2]
          by_cases hy : ∃ y, yrOk c day y
          · obtain ⟨y, hy⟩ := hy
            rw [(found_yes hd hy).2.2]
            simp; omega
          · rw [(found_none hy).2.2 h2 hd]; simp
        have HF := hide (show servY c day = 0 ∧ servE c day = 11 from ⟨by rw [servY, if_neg (by omega)], he⟩)
        clear h1 h2 hd he
        simp only [calV]
        go_enter Tryz.func40, Tryz.ntmps40
        go_wp2_with fail
        refine (r14bounds_ok c _ hn HK.out).mono ?_
        rintro e w1 ⟨rfl, hb1⟩
        have hz1 : w.heap.size < w1.heap.size := by have := hb1.size; simp at this; omega
        have HB1 := hide (show Below w.heap.size w w1 by refine Below.trans ?_ (hb1.mono (by first | omega | (simp; done) | (simp; omega))); (repeat' (first | (with_reducible exact Below.refl _ _) | (with_reducible assumption) | (with_reducible refine Below.alloc ?_ ?_ _) | (with_reducible refine below_drewN ?_ _) | (with_reducible refine Below.drew ?_) | (with_reducible refine Below.setCell ?_ ?_ _) | (with_reducible refine Below.trans ?_ (Below.mono (by assumption) ?_)) | go_size | (simp at *; omega))))
        have HQ1 := hide (calAt_below hb1 (by simp) (calAt_new w c))
        obtain ⟨q0, q1, q2, q3, q4, q5, q6, q7, q8, q9, q10, q11, q12, q13⟩ := HQ1.out
        clear hb1
        go_wp2_with fail
        refine (rof_yes day _ HD.out).mono ?_
        rintro e w2 ⟨rfl, hb2⟩
        have HS2 := hide (spAt_below (B := w1.heap.size) (s := ⟨startV c c.first, endV c c.last⟩) hb2 (by simp) (spAt_fresh w1 ⟨startV c c.first, endV c c.last⟩))
        have hS2 : w1.heap.size < w2.heap.size := by have := hb2.size; simp at this; omega
        have hz2 : w.heap.size < w2.heap.size := by have := hb2.size; (try simp at this); omega
        have HB2 := hide (show Below w.heap.size w w2 by have hp := HB1.out; refine Below.trans ?_ (hb2.mono (by first | omega | (simp; done) | (simp; omega))); (repeat' (first | (with_reducible exact Below.refl _ _) | (with_reducible assumption) | (with_reducible refine Below.alloc ?_ ?_ _) | (with_reducible refine below_drewN ?_ _) | (with_reducible refine Below.drew ?_) | (with_reducible refine Below.setCell ?_ ?_ _) | (with_reducible refine Below.trans ?_ (Below.mono (by assumption) ?_)) | go_size | (simp at *; omega))))
        have HQ2 := hide (show CalAt w2 w.heap.size c from calAt_below hb2 (by first | omega | (simp; done) | (simp; omega)) (by first | exact HQ1.out | exact calAt_alloc HQ1.out (by omega) _ | exact calAt_alloc (calAt_alloc HQ1.out (by omega) _) (by simp; omega) _))
        clear q0 q1 q2 q3 q4 q5 q6 q7 q8 q9 q10 q11 q12 q13
        obtain ⟨q0, q1, q2, q3, q4, q5, q6, q7, q8, q9, q10, q11, q12, q13⟩ := HQ2.out
        clear hb2
        have hBel := HB2.out
        obtain ⟨s0, s1⟩ := HS2.out
        simp only at s0 s1
        go_wp2
        all_goals first
          | (exfalso; omega)
          | (go_ret2; exact ⟨ret_int2 HF.out.1.symm HF.out.2.symm, by (repeat' (first | (with_reducible exact Below.refl _ _) | (with_reducible assumption) | (with_reducible refine Below.alloc ?_ ?_ _) | (with_reducible refine below_drewN ?_ _) | (with_reducible refine Below.drew ?_) | (with_reducible refine Below.setCell ?_ ?_ _) | (with_reducible refine Below.trans ?_ (Below.mono (by assumption) ?_)) | go_size | (simp at *; omega)))⟩)
      · obtain ⟨hx1, hx2⟩ := hx
        have HF := hide (show servY c day = foundY c day ∧ servE c day = foundE c day from by
          by_cases hy : ∃ y, yrOk c day y
          · obtain ⟨y, hy⟩ := hy
            have h0 := (found_yes hd hy).2.2
            have he : servE c day = 0 := by simp [servE, h2, h0, hx1, hx2]
            exact ⟨by rw [servY, if_pos he], by rw [he, h0]⟩
          · obtain ⟨g1, _, g3⟩ := found_none hy
            have h0 := g3 h2 hd
            have he : servE c day = 11 := by simp [servE, h2, h0]
            exact ⟨by rw [servY, if_neg (by omega), g1], by rw [he, h0]⟩)
        obtain ⟨FY, hFY⟩ : ∃ X, foundY c day = X := ⟨_, rfl⟩
        obtain ⟨FE, hFE⟩ : ∃ X, foundE c day = X := ⟨_, rfl⟩
        rw [hFY, hFE] at HF
        have HFF := hide (And.intro hFY hFE)
        clear h1 h2 hd hFY hFE
        simp only [calV]
        go_enter Tryz.func40, Tryz.ntmps40
        go_wp2_with fail
        refine (r14bounds_ok c _ hn HK.out).mono ?_
        rintro e w1 ⟨rfl, hb1⟩
        have hz1 : w.heap.size < w1.heap.size := by have := hb1.size; simp at this; omega
        have HB1 := hide (show Below w.heap.size w w1 by refine Below.trans ?_ (hb1.mono (by first | omega | (simp; done) | (simp; omega))); (repeat' (first | (with_reducible exact Below.refl _ _) | (with_reducible assumption) | (with_reducible refine Below.alloc ?_ ?_ _) | (with_reducible refine below_drewN ?_ _) | (with_reducible refine Below.drew ?_) | (with_reducible refine Below.setCell ?_ ?_ _) | (with_reducible refine Below.trans ?_ (Below.mono (by assumption) ?_)) | go_size | (simp at *; omega))))
        have HQ1 := hide (calAt_below hb1 (by simp) (calAt_new w c))
        obtain ⟨q0, q1, q2, q3, q4, q5, q6, q7, q8, q9, q10, q11, q12, q13⟩ := HQ1.out
        clear hb1
        go_wp2_with fail
        refine (rof_yes day _ HD.out).mono ?_
        rintro e w2 ⟨rfl, hb2⟩
        have HS2 := hide (spAt_below (B := w1.heap.size) (s := ⟨startV c c.first, endV c c.last⟩) hb2 (by simp) (spAt_fresh w1 ⟨startV c c.first, endV c c.last⟩))
        have hS2 : w1.heap.size < w2.heap.size := by have := hb2.size; simp at this; omega
        have hz2 : w.heap.size < w2.heap.size := by have := hb2.size; (try simp at this); omega
        have HB2 := hide (show Below w.heap.size w w2 by have hp := HB1.out; refine Below.trans ?_ (hb2.mono (by first | omega | (simp; done) | (simp; omega))); (repeat' (first | (with_reducible exact Below.refl _ _) | (with_reducible assumption) | (with_reducible refine Below.alloc ?_ ?_ _) | (with_reducible refine below_drewN ?_ _) | (with_reducible refine Below.drew ?_) | (with_reducible refine Below.setCell ?_ ?_ _) | (with_reducible refine Below.trans ?_ (Below.mono (by assumption) ?_)) | go_size | (simp at *; omega))))
        have HQ2 := hide (show CalAt w2 w.heap.size c from calAt_below hb2 (by first | omega | (simp; done) | (simp; omega)) (by first | exact HQ1.out | exact calAt_alloc HQ1.out (by omega) _ | exact calAt_alloc (calAt_alloc HQ1.out (by omega) _) (by simp; omega) _))
        clear q0 q1 q2 q3 q4 q5 q6 q7 q8 q9 q10 q11 q12 q13
        obtain ⟨q0, q1, q2, q3, q4, q5, q6, q7, q8, q9, q10, q11, q12, q13⟩ := HQ2.out
        clear hb2
        obtain ⟨s0, s1⟩ := HS2.out
        simp only at s0 s1
        go_wp2_with fail
        all_goals first
          | (exfalso; omega)
          | skip
        refine (r14of_any c day _ hn).mono ?_
        rintro e w3 ⟨rfl, hb3⟩
        rw [HFF.out.1, HFF.out.2]
        have hz3 : w.heap.size < w3.heap.size := by have := hb3.size; (try simp at this); omega
        have HB3 := hide (show Below w.heap.size w w3 by have hp := HB2.out; refine Below.trans ?_ (hb3.mono (by first | omega | (simp; done) | (simp; omega))); (repeat' (first | (with_reducible exact Below.refl _ _) | (with_reducible assumption) | (with_reducible refine Below.alloc ?_ ?_ _) | (with_reducible refine below_drewN ?_ _) | (with_reducible refine Below.drew ?_) | (with_reducible refine Below.setCell ?_ ?_ _) | (with_reducible refine Below.trans ?_ (Below.mono (by assumption) ?_)) | go_size | (simp at *; omega))))
        have HQ3 := hide (show CalAt w3 w.heap.size c from calAt_below hb3 (by first | omega | (simp; done) | (simp; omega)) (by first | exact HQ2.out | exact calAt_alloc HQ2.out (by omega) _ | exact calAt_alloc (calAt_alloc HQ2.out (by omega) _) (by simp; omega) _))
        clear q0 q1 q2 q3 q4 q5 q6 q7 q8 q9 q10 q11 q12 q13
        obtain ⟨q0, q1, q2, q3, q4, q5, q6, q7, q8, q9, q10, q11, q12, q13⟩ := HQ3.out
        clear hb3
        have hBel := HB3.out
        go_wp2
        go_ret2
        exact ⟨ret_int2 HF.out.1.symm HF.out.2.symm, by (repeat' (first | (with_reducible exact Below.refl _ _) | (with_reducible assumption) | (with_reducible refine Below.alloc ?_ ?_ _) | (with_reducible refine below_drewN ?_ _) | (with_reducible refine Below.drew ?_) | (with_reducible refine Below.setCell ?_ ?_ _) | (with_reducible refine Below.trans ?_ (Below.mono (by assumption) ?_)) | go_size | (simp at *; omega)))⟩
  · have HK := hide h2
    have he : servE c day = 1 := by simp [servE, h2]
    have HF := hide (show servY c day = 0 ∧ servE c day = 1 from ⟨by rw [servY, if_neg (by omega)], he⟩)
    clear h1 h2 he
    simp only [calV]
    go_enter Tryz.func40, Tryz.ntmps40
    go_wp2_with fail
    refine (r14bounds_bad c _ hn HK.out).mono ?_
    rintro e w1 ⟨rfl, hb1⟩
    have hz1 : w.heap.size < w1.heap.size := by have := hb1.size; simp at this; omega
    have HB1 := hide (show Below w.heap.size w w1 by refine Below.trans ?_ (hb1.mono (by first | omega | (simp; done) | (simp; omega))); (repeat' (first | (with_reducible exact Below.refl _ _) | (with_reducible assumption) | (with_reducible refine Below.alloc ?_ ?_ _) | (with_reducible refine below_drewN ?_ _) | (with_reducible refine Below.drew ?_) | (with_reducible refine Below.setCell ?_ ?_ _) | (with_reducible refine Below.trans ?_ (Below.mono (by assumption) ?_)) | go_size | (simp at *; omega))))
    have HQ1 := hide (calAt_below hb1 (by simp) (calAt_new w c))
    obtain ⟨q0, q1, q2, q3, q4, q5, q6, q7, q8, q9, q10, q11, q12, q13⟩ := HQ1.out
    clear hb1
    have hBel := HB1.out
    go_wp2
    go_ret2
    exact ⟨ret_int2 HF.out.1.symm HF.out.2.symm, by (repeat' (first | (with_reducible exact Below.refl _ _) | (with_reducible assumption) | (with_reducible refine Below.alloc ?_ ?_ _) | (with_reducible refine below_drewN ?_ _) | (with_reducible refine Below.drew ?_) | (with_reducible refine Below.setCell ?_ ?_ _) | (with_reducible refine Below.trans ?_ (Below.mono (by assumption) ?_)) | go_size | (simp at *; omega)))⟩
end Go.Proofs.YtojdngkleiokgaaGreat

namespace Go.Proofs.YtojdngkleiokgaaGreat
open Go.RowKit Qd
set_option linter.unusedSimpArgs false
set_option linter.unusedVariables false

def askedE (c : Cal) (lv : Int) : Int := if c.okB = true ∧ 1 ≤ lv ∧ lv ≤ 5 then 0 else 1
set_option maxHeartbeats 1600000 in
theorem r17asked_any (c : Cal) (lv : Int) (w : World) (hn : c.name.size ≤ 1000) :
    Calls Tryz.prog 38 #[calV c, .int .i64 lv] w fun e w' => e = .returned (.int .i64 (askedE c lv)) ∧ Below w.heap.size w w' := by
  have hcases : (okE c = 1 ∧ askedE c lv = 1) ∨ (okE c = 0 ∧ lv < 1 ∧ askedE c lv = 1) ∨ (okE c = 0 ∧ (1 ≤ lv ∧ 5 < lv) ∧ askedE c lv = 1) ∨ (okE c = 0 ∧ (1 ≤ lv ∧ lv ≤ 5) ∧ askedE c lv = 0) := by
    rcases okE_cases c with ⟨_, h1, h2⟩ | ⟨_, h1, h2⟩
    · by_cases h3 : lv < 1
      · exact .inr (.inl ⟨h1, h3, by rw [askedE, if_neg (by omega)]⟩)
      · by_cases h4 : 5 < lv
        · exact .inr (.inr (.inl ⟨h1, ⟨by omega, h4⟩, by rw [askedE, if_neg (by omega)]⟩))
        · exact .inr (.inr (.inr ⟨h1, ⟨by omega, by omega⟩, by rw [askedE, if_pos ⟨h2, by omega, by omega⟩]⟩))
    · exact .inl ⟨h1, by rw [askedE, if_neg (by simp [h2])]⟩
  rcases hcases with ⟨h1, h2⟩ | ⟨h1, h3, h2⟩ | ⟨h1, ⟨h3, h4⟩, h2⟩ | ⟨h1, ⟨h3, h4⟩, h2⟩
  all_goals
    have HE := hide h1
    have HA := hide h2
    clear h1 h2
    simp only [calV]
    go_enter Tryz.func38, Tryz.ntmps38
    go_wp2_with fail
    refine (r11check_any c _ hn).mono ?_
    rintro e w1 ⟨rfl, hb1⟩
    rw [HE.out]
    have hz1 : w.heap.size < w1.heap.size := by have := hb1.size; simp at this; omega
    have HB1 := hide (show Below w.heap.size w w1 by refine Below.trans ?_ (hb1.mono (by first | omega | (simp; done) | (simp; omega))); (repeat' (first | (with_reducible exact Below.refl _ _) | (with_reducible assumption) | (with_reducible refine Below.alloc ?_ ?_ _) | (with_reducible refine below_drewN ?_ _) | (with_reducible refine Below.drew ?_) | (with_reducible refine Below.setCell ?_ ?_ _) | (with_reducible refine Below.trans ?_ (Below.mono (by assumption) ?_)) | go_size | (simp at *; omega))))
    have HQ1 := hide (calAt_below hb1 (by simp) (calAt_new w c))
    obtain ⟨q0, q1, q2, q3, q4, q5, q6, q7, q8, q9, q10, q11, q12, q13⟩ := HQ1.out
    clear hb1
    have hBel := HB1.out
    go_wp2
    all_goals first
      | (exfalso; omega)
      | (go_ret; exact ⟨by rw [HA.out]; rfl, by (repeat' (first | (with_reducible exact Below.refl _ _) | (with_reducible assumption) | (with_reducible refine Below.alloc ?_ ?_ _) | (with_reducible refine below_drewN ?_ _) | (with_reducible refine Below.drew ?_) | (with_reducible refine Below.setCell ?_ ?_ _) | (with_reducible refine Below.trans ?_ (Below.mono (by assumption) ?_)) | go_size | (simp at *; omega)))⟩)


end Go.Proofs.YtojdngkleiokgaaGreat

namespace Go.Proofs.YtojdngkleiokgaaGreat
open Go.RowKit Qd
set_option linter.unusedSimpArgs false
set_option linter.unusedVariables false

set_option maxRecDepth 100000 in
set_option maxHeartbeats 1600000 in
theorem r17day_ask (c : Cal) (d lv : Int) (w : World) (hn : c.name.size ≤ 1000) (hE : askedE c lv = 1) :
    Calls Tryz.prog 17 #[calV c, .int .i64 d, .int .i64 lv] w fun e w' => e = .returned (.tuple #[.agg #[.int .i64 0, .int .i64 0, .int .i64 0], .int .i64 1]) ∧ Below w.heap.size w w' := by
  have HE := hide hE
  clear hE
  simp only [calV]
  go_enter Tryz.func17, Tryz.ntmps17
  go_wp2_with fail
  refine (r17asked_any c lv _ hn).mono ?_
  rintro e w1 ⟨rfl, hb1⟩
  rw [HE.out]
  have hz1 : w.heap.size + 1 < w1.heap.size := by have := hb1.size; simp at this; omega
  have hx1 : w.heap.size < w1.heap.size := by omega
  have HB1 := hide (show Below w.heap.size w w1 by (repeat' (first | (with_reducible exact Below.refl _ _) | (with_reducible assumption) | (with_reducible refine Below.alloc ?_ ?_ _) | (with_reducible refine below_drewN ?_ _) | (with_reducible refine Below.drew ?_) | (with_reducible refine Below.setCell ?_ ?_ _) | (with_reducible refine Below.trans ?_ (Below.mono (by assumption) ?_)) | go_size | (simp at *; omega))))
  have HQ1 := hide (calAt_below (B := w.heap.size) (c := c) hb1 (by simp; omega) (calAt_alloc (calAt_new w c) (by simp) _))
  have HR1 := hide (show BlkIs w1 (w.heap.size + 1) #[.int .i64 0, .int .i64 0, .int .i64 0] 38 from BlkIs.below (by simpa using BlkIs.new (w.alloc (calObj c)) #[.int .i64 0, .int .i64 0, .int .i64 0] 38) hb1 (by simp))
  obtain ⟨q0, q1, q2, q3, q4, q5, q6, q7, q8, q9, q10, q11, q12, q13⟩ := HQ1.out
  clear hb1
  have r0 : w1.cell? ⟨w.heap.size + 1, 0, none⟩ = some (.int .i64 0) := (HR1.out).cell 0
  have f0 := (HR1.out).frozen 0
  have r1 : w1.cell? ⟨w.heap.size + 1, 1, none⟩ = some (.int .i64 0) := (HR1.out).cell 1
  have f1 := (HR1.out).frozen 1
  have r2 : w1.cell? ⟨w.heap.size + 1, 2, none⟩ = some (.int .i64 0) := (HR1.out).cell 2
  have f2 := (HR1.out).frozen 2
  have hsz : w.heap.size + 1 < w1.heap.size := by omega
  have hWo := HB1.out
  go_wp2
  all_goals first
    | (exfalso; omega)
    | exact bodyPost_ret (v := .tuple #[.agg #[.int .i64 (0), .int .i64 (0), .int .i64 (0)], .int .i64 1]) (by simp (maxDischargeDepth := 9) [results, Tryz.results17, go_sem, r0, r1, r2, f0, f1, f2, hsz]) rfl ⟨rfl, by (repeat' (first | (with_reducible exact Below.refl _ _) | (with_reducible assumption) | (with_reducible refine Below.alloc ?_ ?_ _) | (with_reducible refine below_drewN ?_ _) | (with_reducible refine Below.drew ?_) | (with_reducible refine Below.setCell ?_ ?_ _) | (with_reducible refine Below.trans ?_ (Below.mono (by assumption) ?_)) | go_size | (simp at *; omega)))⟩

set_option maxRecDepth 100000 in
set_option maxHeartbeats 1600000 in
theorem r17day_serv (c : Cal) (d lv : Int) (w : World) (hn : c.name.size ≤ 1000) (hE : askedE c lv = 0) (hS : ¬ servE c d = 0) :
    Calls Tryz.prog 17 #[calV c, .int .i64 d, .int .i64 lv] w fun e w' => e = .returned (.tuple #[.agg #[.int .i64 0, .int .i64 0, .int .i64 0], .int .i64 (servE c d)]) ∧ Below w.heap.size w w' := by
  have HE := hide hE
  obtain ⟨SE, hSE⟩ : ∃ X, servE c d = X := ⟨_, rfl⟩
  rw [hSE] at hS ⊢
  have hSb : (SE != 0) = true := by simpa using hS
  have HS := hide hSE
  clear hE hS hSE
  simp only [calV]
  go_enter Tryz.func17, Tryz.ntmps17
  go_wp2_with fail
  refine (r17asked_any c lv _ hn).mono ?_
  rintro e w1 ⟨rfl, hb1⟩
  rw [HE.out]
  have hz1 : w.heap.size + 1 < w1.heap.size := by have := hb1.size; simp at this; omega
  have hx1 : w.heap.size < w1.heap.size := by omega
  have HB1 := hide (show Below w.heap.size w w1 by (repeat' (first | (with_reducible exact Below.refl _ _) | (with_reducible assumption) | (with_reducible refine Below.alloc ?_ ?_ _) | (with_reducible refine below_drewN ?_ _) | (with_reducible refine Below.drew ?_) | (with_reducible refine Below.setCell ?_ ?_ _) | (with_reducible refine Below.trans ?_ (Below.mono (by assumption) ?_)) | go_size | (simp at *; omega))))
  have HQ1 := hide (calAt_below (B := w.heap.size) (c := c) hb1 (by simp; omega) (calAt_alloc (calAt_new w c) (by simp) _))
  have HR1 := hide (show BlkIs w1 (w.heap.size + 1) #[.int .i64 0, .int .i64 0, .int .i64 0] 38 from BlkIs.below (by simpa using BlkIs.new (w.alloc (calObj c)) #[.int .i64 0, .int .i64 0, .int .i64 0] 38) hb1 (by simp))
  obtain ⟨q0, q1, q2, q3, q4, q5, q6, q7, q8, q9, q10, q11, q12, q13⟩ := HQ1.out
  clear hb1
  go_wp2_with fail
  refine (r14served_any c d _ hn).mono ?_
  rintro e w2 ⟨rfl, hb2⟩
  rw [HS.out]
  have hz2 : w.heap.size + 1 < w2.heap.size := Nat.lt_of_lt_of_le hz1 hb2.size
  have hx2 : w.heap.size < w2.heap.size := by omega
  have HB2 := hide (HB1.out.trans (hb2.mono (by omega)))
  have HQ2 := hide (calAt_below hb2 (by omega) HQ1.out)
  have HR2 := hide (HR1.out.call hb2)
  clear q0 q1 q2 q3 q4 q5 q6 q7 q8 q9 q10 q11 q12 q13
  obtain ⟨q0, q1, q2, q3, q4, q5, q6, q7, q8, q9, q10, q11, q12, q13⟩ := HQ2.out
  clear hb2
  have r0 : w2.cell? ⟨w.heap.size + 1, 0, none⟩ = some (.int .i64 0) := (HR2.out).cell 0
  have f0 := (HR2.out).frozen 0
  have r1 : w2.cell? ⟨w.heap.size + 1, 1, none⟩ = some (.int .i64 0) := (HR2.out).cell 1
  have f1 := (HR2.out).frozen 1
  have r2 : w2.cell? ⟨w.heap.size + 1, 2, none⟩ = some (.int .i64 0) := (HR2.out).cell 2
  have f2 := (HR2.out).frozen 2
  have hsz : w.heap.size + 1 < w2.heap.size := by omega
  have hWo := HB2.out
  go_wp2
  all_goals first
    | (exfalso; omega)
    | exact bodyPost_ret (v := .tuple #[.agg #[.int .i64 (0), .int .i64 (0), .int .i64 (0)], .int .i64 SE]) (by simp (maxDischargeDepth := 9) [results, Tryz.results17, go_sem, r0, r1, r2, f0, f1, f2, hsz]) rfl ⟨rfl, by (repeat' (first | (with_reducible exact Below.refl _ _) | (with_reducible assumption) | (with_reducible refine Below.alloc ?_ ?_ _) | (with_reducible refine below_drewN ?_ _) | (with_reducible refine Below.drew ?_) | (with_reducible refine Below.setCell ?_ ?_ _) | (with_reducible refine Below.trans ?_ (Below.mono (by assumption) ?_)) | go_size | (simp at *; omega)))⟩

set_option maxRecDepth 100000 in
set_option maxHeartbeats 3200000 in
theorem r17day_yes (c : Cal) (d lv : Int) (w : World) (hn : c.name.size ≤ 1000) (hE : fdE c d lv = 0) :
    Calls Tryz.prog 17 #[calV c, .int .i64 d, .int .i64 lv] w fun e w' => e = .returned (.tuple #[unitV (fdU c d lv), .int .i64 0]) ∧ Below w.heap.size w w' := by
  obtain ⟨hk, hl1, hl5, hs0, hd, hyr, hF⟩ := fd_ok hE
  obtain ⟨i, hU, hi, hi1, hi2⟩ := fd_in hE
  have hA := hyr.1
  have HE := hide (show askedE c lv = 0 by rw [askedE, if_pos ⟨hk, hl1, hl5⟩])
  have HS := hide hs0
  obtain ⟨y, hy⟩ : ∃ X, servY c d = X := ⟨_, rfl⟩
  rw [hy] at hU hi hi1 hi2 hA hF
  have HY := hide hy
  have HF := hide hF
  have HU := hide hU
  have hcb := cnt_bd c y hA lv
  have HNO := hide (fun j (h : j < i) => (show dayW c y (cutN c y lv (j + 1)) - 1 < d from by
    have m1 := cut_mono c y hA lv hl1 hl5 (show j + 1 ≤ i by omega) (by omega)
    have m2 := dayW_le c y hA m1 (cut_le_nWk c y hA lv hl1 hl5 i (by omega))
    omega))
  have HYES := hide (show d ≤ dayW c y (cutN c y lv (i + 1)) - 1 by omega)
  obtain ⟨N, hNN⟩ : ∃ N, cntL c y lv = N := ⟨_, rfl⟩
  rw [hNN] at hcb hi
  have HN := hide hNN
  obtain ⟨hcb1, hcb2⟩ := hcb
  rw [hU]
  simp only [unitV]
  clear hk hl1 hl5 hs0 hd hyr hF hU hi1 hi2 hA hy hNN hE
  simp only [calV]
  go_enter Tryz.func17, Tryz.ntmps17
  go_wp2_with fail
  refine (r17asked_any c lv _ hn).mono ?_
  rintro e w1 ⟨rfl, hb1⟩
  rw [HE.out]
  have hz1 : w.heap.size + 1 < w1.heap.size := by have := hb1.size; simp at this; omega
  have hx1 : w.heap.size < w1.heap.size := by omega
  have HB1 := hide (show Below w.heap.size w w1 by (repeat' (first | (with_reducible exact Below.refl _ _) | (with_reducible assumption) | (with_reducible refine Below.alloc ?_ ?_ _) | (with_reducible refine below_drewN ?_ _) | (with_reducible refine Below.drew ?_) | (with_reducible refine Below.setCell ?_ ?_ _) | (with_reducible refine Below.trans ?_ (Below.mono (by assumption) ?_)) | go_size | (simp at *; omega))))
  have HQ1 := hide (calAt_below (B := w.heap.size) (c := c) hb1 (by simp; omega) (calAt_alloc (calAt_new w c) (by simp) _))
  have HR1 := hide (show BlkIs w1 (w.heap.size + 1) #[.int .i64 0, .int .i64 0, .int .i64 0] 38 from BlkIs.below (by simpa using BlkIs.new (w.alloc (calObj c)) #[.int .i64 0, .int .i64 0, .int .i64 0] 38) hb1 (by simp))
  obtain ⟨q0, q1, q2, q3, q4, q5, q6, q7, q8, q9, q10, q11, q12, q13⟩ := HQ1.out
  clear hb1
  go_wp2_with fail
  refine (r14served_any c d _ hn).mono ?_
  rintro e w2 ⟨rfl, hb2⟩
  rw [HS.out, HY.out]
  have hz2 : w.heap.size + 1 < w2.heap.size := Nat.lt_of_lt_of_le hz1 hb2.size
  have hx2 : w.heap.size < w2.heap.size := by omega
  have HB2 := hide (HB1.out.trans (hb2.mono (by omega)))
  have HQ2 := hide (calAt_below hb2 (by omega) HQ1.out)
  have HR2 := hide (HR1.out.call hb2)
  clear q0 q1 q2 q3 q4 q5 q6 q7 q8 q9 q10 q11 q12 q13
  obtain ⟨q0, q1, q2, q3, q4, q5, q6, q7, q8, q9, q10, q11, q12, q13⟩ := HQ2.out
  clear hb2
  go_wp2_with fail
  refine (r16spans_yes c lv y _ hn HF.out).mono ?_
  rintro e w3 ⟨g, cap, rfl, hg, hcap, hsp, hb3⟩
  rw [HN.out] at hcap ⊢
  have HSP := hide hsp
  have hg3 := hsp.1
  clear hsp
  have hz3 : w.heap.size + 1 < w3.heap.size := Nat.lt_of_lt_of_le hz2 hb3.size
  have hx3 : w.heap.size < w3.heap.size := by omega
  have HB3 := hide (HB2.out.trans (hb3.mono (by omega)))
  have HQ3 := hide (calAt_below hb3 (by omega) HQ2.out)
  have HR3 := hide (HR2.out.call hb3)
  clear q0 q1 q2 q3 q4 q5 q6 q7 q8 q9 q10 q11 q12 q13
  obtain ⟨q0, q1, q2, q3, q4, q5, q6, q7, q8, q9, q10, q11, q12, q13⟩ := HQ3.out
  clear hb3
  clear q0 q1 q2 q3 q4 q5 q6 q7 q8 q9 q10 q11 q12 q13
  go_wp2_with fail
  go_loop [13] (fun s => ∃ j : Nat, s = .int .i64 j ∧ j ≤ i) (fun s => (100 - intOf s).toNat)
  case atStart => exact ⟨0, rfl, Nat.zero_le _⟩
  case round =>
    obtain ⟨j, rfl, hj⟩ := hrel
    obtain ⟨d1, d2⟩ := spans_at HSP.out j (by rw [HN.out]; omega)
    have HNOj := hide (HNO.out j)
    have hyes := HYES.out
    obtain ⟨X2, hX2⟩ : ∃ X, dayW c y (cutN c y lv (j + 1)) - 1 = X := ⟨_, rfl⟩
    rw [hX2] at d2 HNOj
    have hi3 : (0 : Int) ≤ (j : Int) := by omega
    have hi4 : (j : Int) < (N : Int) := by omega
    clear d1
    by_cases hlt : j < i
    · have hno := HNOj.out hlt
      clear hX2 hyes
      go_wp2
      all_goals first
        | (exfalso; omega)
        | skip
      go_round
      case rel => exact ⟨j + 1, by go_num, by omega⟩
      case measure => simp [intOf]; omega
    · obtain rfl : j = i := by omega
      rw [hX2] at hyes
      clear hX2
      have r0 : w3.cell? ⟨w.heap.size + 1, 0, none⟩ = some (.int .i64 0) := (HR3.out).cell 0
      have f0 := (HR3.out).frozen 0
      have r1 : w3.cell? ⟨w.heap.size + 1, 1, none⟩ = some (.int .i64 0) := (HR3.out).cell 1
      have f1 := (HR3.out).frozen 1
      have r2 : w3.cell? ⟨w.heap.size + 1, 2, none⟩ = some (.int .i64 0) := (HR3.out).cell 2
      have f2 := (HR3.out).frozen 2
      have hsz : w.heap.size + 1 < w3.heap.size := by omega
      have hWo := HB3.out
      go_wp2
      all_goals first
        | (exfalso; omega)
        | exact bodyPost_ret (v := .tuple #[.agg #[.int .i64 (lv), .int .i64 (y), .int .i64 ((j : Int) + 1)], .int .i64 0]) (by simp (maxDischargeDepth := 9) [results, Tryz.results17, go_sem, r0, r1, r2, f0, f1, f2, hsz]) rfl ⟨rfl, by (repeat' (first | (with_reducible exact Below.refl _ _) | (with_reducible assumption) | (with_reducible refine Below.alloc ?_ ?_ _) | (with_reducible refine below_drewN ?_ _) | (with_reducible refine Below.drew ?_) | (with_reducible refine Below.setCell ?_ ?_ _) | (with_reducible refine Below.trans ?_ (Below.mono (by assumption) ?_)) | go_size | (simp at *; omega)))⟩

theorem r17day_any (c : Cal) (d lv : Int) (w : World) (hn : c.name.size ≤ 1000) :
    Calls Tryz.prog 17 #[calV c, .int .i64 d, .int .i64 lv] w fun e w' => e = .returned (.tuple #[unitV (fdU c d lv), .int .i64 (fdE c d lv)]) ∧ Below w.heap.size w w' := by
  by_cases hk : c.okB = true ∧ 1 ≤ lv ∧ lv ≤ 5
  · have hfe : fdE c d lv = servE c d := by unfold fdE; rw [if_pos hk]
    by_cases hs : servE c d = 0
    · have h0 : fdE c d lv = 0 := by rw [hfe, hs]
      refine (r17day_yes c d lv w hn h0).mono ?_
      rintro e w1 ⟨rfl, hb⟩
      exact ⟨by rw [h0], hb⟩
    · have hu : fdU c d lv = ⟨0, 0, 0⟩ := by rw [fdU, if_neg (by rw [hfe]; exact hs)]
      refine (r17day_serv c d lv w hn (by rw [askedE, if_pos hk]) hs).mono ?_
      rintro e w1 ⟨rfl, hb⟩
      exact ⟨by rw [hu, hfe], hb⟩
  · have h1 : fdE c d lv = 1 := by unfold fdE; rw [if_neg hk]
    have hu : fdU c d lv = ⟨0, 0, 0⟩ := by rw [fdU, if_neg (by omega)]
    refine (r17day_ask c d lv w hn (by rw [askedE, if_neg hk])).mono ?_
    rintro e w1 ⟨rfl, hb⟩
    exact ⟨by rw [hu, h1], hb⟩

end Go.Proofs.YtojdngkleiokgaaGreat

namespace Go.Proofs.YtojdngkleiokgaaGreat
open Go.RowKit Qd
set_option linter.unusedSimpArgs false
set_option linter.unusedVariables false


theorem nx_vals {c : Cal} {u : Un} (h : unitE c u = 0) :
    (u.ix < (cntL c u.yr u.lv : Int) ∧ nxE c u = 0 ∧ nxU c u = ⟨u.lv, u.yr, u.ix + 1⟩) ∨
    ((cntL c u.yr u.lv : Int) ≤ u.ix ∧ u.yr = c.last ∧ nxE c u = 11 ∧ nxU c u = ⟨0, 0, 0⟩) ∨
    ((cntL c u.yr u.lv : Int) ≤ u.ix ∧ u.yr ≠ c.last ∧ nxE c u = 0 ∧ nxU c u = ⟨u.lv, u.yr + 1, 1⟩) := by
  obtain ⟨hf, hl1, hl5, hA, hx, hi⟩ := un_lv h
  obtain ⟨hok, hk, _, _, hy1, hy2, _⟩ := frame_ok hf
  have e0 : unitE c (nxU0 u) = if 1 ≤ u.ix + 1 ∧ u.ix + 1 ≤ (cntL c u.yr u.lv : Int) then 0 else 13 := by
    unfold unitE nxU0
    simp only
    rw [if_pos hf]
  by_cases h1 : u.ix < (cntL c u.yr u.lv : Int)
  · have e1 : unitE c (nxU0 u) = 0 := by rw [e0, if_pos (by omega)]
    exact .inl ⟨h1, by rw [nxE, if_pos h, if_pos e1], by rw [nxU, if_pos h, if_pos e1]; rfl⟩
  · have e1 : ¬ unitE c (nxU0 u) = 0 := by rw [e0, if_neg (by omega)]; omega
    refine .inr ?_
    by_cases h2 : u.yr = c.last
    · have f1 : frameE c u.lv (u.yr + 1) = 11 := by simp only [frameE, hk, if_true]; rw [if_pos ⟨hl1, hl5⟩, if_neg (by omega)]
      have e2 : unitE c (nxU1 u) = 11 := by
        have : unitE c (nxU1 u) = frameE c u.lv (u.yr + 1) := by
          unfold unitE nxU1
          simp only
          rw [if_neg (by omega)]
        omega
      exact .inl ⟨by omega, h2, by rw [nxE, if_pos h, if_neg e1, e2], by rw [nxU, if_pos h, if_neg e1, if_neg (by omega)]⟩
    · have f1 : frameE c u.lv (u.yr + 1) = 0 := frame_is hok hl1 hl5 (by omega) (by omega)
      have hA2 := (frame_ok f1).2.2.2.2.2.2
      have hc := cnt_bd c (u.yr + 1) hA2 u.lv
      have e2 : unitE c (nxU1 u) = 0 := unit_is f1 (by simp [nxU1]) (by simp only [nxU1]; omega)
      exact .inr ⟨by omega, h2, by rw [nxE, if_pos h, if_neg e1, e2], by rw [nxU, if_pos h, if_neg e1, if_pos e2]; rfl⟩
theorem nx_none {c : Cal} {u : Un} (h : ¬ unitE c u = 0) : nxE c u = unitE c u ∧ nxU c u = ⟨0, 0, 0⟩ := ⟨by rw [nxE, if_neg h], by rw [nxU, if_neg h]⟩
theorem bk_vals {c : Cal} {u : Un} (h : unitE c u = 0) :
    (1 < u.ix ∧ bkE c u = 0 ∧ bkU c u = ⟨u.lv, u.yr, u.ix - 1⟩) ∨
    (u.ix ≤ 1 ∧ u.yr = c.first ∧ bkE c u = 11 ∧ bkU c u = ⟨0, 0, 0⟩) ∨
    (u.ix ≤ 1 ∧ u.yr ≠ c.first ∧ frameE c u.lv (u.yr - 1) = 0 ∧ bkE c u = 0 ∧ bkU c u = ⟨u.lv, u.yr - 1, (cntL c (u.yr - 1) u.lv : Int)⟩) := by
  obtain ⟨hf, hl1, hl5, hA, hx, hi⟩ := un_lv h
  obtain ⟨hok, hk, _, _, hy1, hy2, _⟩ := frame_ok hf
  by_cases h1 : 1 < u.ix
  · exact .inl ⟨h1, by rw [bkE, if_pos h, if_pos h1], by rw [bkU, if_pos h, if_pos h1]⟩
  · refine .inr ?_
    by_cases h2 : u.yr = c.first
    · have f1 : frameE c u.lv (u.yr - 1) = 11 := by simp only [frameE, hk, if_true]; rw [if_pos ⟨hl1, hl5⟩, if_neg (by omega)]
      exact .inl ⟨by omega, h2, by rw [bkE, if_pos h, if_neg h1, f1], by rw [bkU, if_pos h, if_neg h1, if_neg (by omega)]⟩
    · have f1 : frameE c u.lv (u.yr - 1) = 0 := frame_is hok hl1 hl5 (by omega) (by omega)
      exact .inr ⟨by omega, h2, f1, by rw [bkE, if_pos h, if_neg h1, f1], by rw [bkU, if_pos h, if_neg h1, if_pos f1]⟩
theorem bk_none {c : Cal} {u : Un} (h : ¬ unitE c u = 0) : bkE c u = unitE c u ∧ bkU c u = ⟨0, 0, 0⟩ := ⟨by rw [bkE, if_neg h], by rw [bkU, if_neg h]⟩
theorem un_bds {c : Cal} {u : Un} (h : unitE c u = 0) : 1 ≤ u.ix ∧ u.ix ≤ 60 ∧ 1602 ≤ u.yr ∧ u.yr ≤ 9996 ∧ (cntL c u.yr u.lv : Int) ≤ 60 ∧ c.first ≤ u.yr ∧ u.yr ≤ c.last := by
  obtain ⟨hf, hl1, hl5, hA, hx, hi⟩ := un_lv h
  obtain ⟨hok, hk, _, _, hy1, hy2, _⟩ := frame_ok hf
  obtain ⟨_, _, y3, y4, y5⟩ := ok_years hk
  have hc := cnt_bd c u.yr hA u.lv
  omega

set_option maxRecDepth 100000 in
set_option maxHeartbeats 3200000 in
theorem r17next_any (c : Cal) (u : Un) (w : World) (hn : c.name.size ≤ 1000) :
    Calls Tryz.prog 19 #[calV c, unitV u] w fun e w' => e = .returned (.tuple #[unitV (nxU c u), .int .i64 (nxE c u)]) ∧ Below w.heap.size w w' := by
  by_cases hE : unitE c u = 0
  · have hbd := un_bds hE
    have HE := hide hE
    rcases nx_vals hE with ⟨h1, e1, e2⟩ | ⟨h1, h2, e1, e2⟩ | ⟨h1, h2, e1, e2⟩
    · rw [e1, e2]
      simp only [unitV]
      obtain ⟨b1, b2, b3, b4, b5, b6, b7⟩ := hbd
      obtain ⟨N, hN⟩ : ∃ N, cntL c u.yr u.lv = N := ⟨_, rfl⟩
      rw [hN] at h1 b5
      have hNc := count_yes (un_lv hE).1
      rw [hN] at hNc
      have HC := hide (And.intro hNc (un_lv hE).1)
      clear e1 e2 hE hN hNc
      simp only [calV, unitV]
      go_enter Tryz.func19, Tryz.ntmps19
      go_wp2_with fail
      refine (r16check_any c u _ hn).mono ?_
      rintro e w1 ⟨rfl, hb1⟩
      rw [HE.out]
      have hz1 : w.heap.size + 1 + 1 < w1.heap.size := by have := hb1.size; simp at this; omega
      have hy1 : w.heap.size + 1 < w1.heap.size := by omega
      have hx1 : w.heap.size < w1.heap.size := by omega
      have HB1 := hide (show Below w.heap.size w w1 by (repeat' (first | (with_reducible exact Below.refl _ _) | (with_reducible assumption) | (with_reducible refine Below.alloc ?_ ?_ _) | (with_reducible refine below_drewN ?_ _) | (with_reducible refine Below.drew ?_) | (with_reducible refine Below.setCell ?_ ?_ _) | (with_reducible refine Below.trans ?_ (Below.mono (by assumption) ?_)) | go_size | (simp at *; omega))))
      have HQ1 := hide (calAt_below (B := w.heap.size) (c := c) hb1 (by simp; omega) (calAt_alloc (calAt_alloc (calAt_new w c) (by simp) _) (by simp; omega) _))
      have HU1 := hide (unAt_below (B := w.heap.size + 1) (u := u) hb1 (by simp) (unAt_alloc (unAt_new w c u) (by simp) _))
      have HR1 := hide (show BlkIs w1 (w.heap.size + 1 + 1) #[.int .i64 0, .int .i64 0, .int .i64 0] 38 from BlkIs.below (by simpa using BlkIs.new ((w.alloc (calObj c)).alloc (unObj u)) #[.int .i64 0, .int .i64 0, .int .i64 0] 38) hb1 (by simp))
      obtain ⟨q0, q1, q2, q3, q4, q5, q6, q7, q8, q9, q10, q11, q12, q13⟩ := HQ1.out
      obtain ⟨u0, u1, u2⟩ := HU1.out
      clear hb1
      go_wp2_with fail
      refine (r16count_any c u.lv u.yr _ hn).mono ?_
      rintro e w2 ⟨rfl, hb2⟩
      rw [HC.out.1, HC.out.2]
      have hz2 : w.heap.size + 1 + 1 < w2.heap.size := Nat.lt_of_lt_of_le hz1 hb2.size
      have hy2 : w.heap.size + 1 < w2.heap.size := by omega
      have hx2 : w.heap.size < w2.heap.size := by omega
      have HB2 := hide (HB1.out.trans (hb2.mono (by omega)))
      have HQ2 := hide (calAt_below hb2 (by omega) HQ1.out)
      have HU2 := hide (unAt_below hb2 (by omega) HU1.out)
      have HR2 := hide (HR1.out.call hb2)
      clear q0 q1 q2 q3 q4 q5 q6 q7 q8 q9 q10 q11 q12 q13
      obtain ⟨q0, q1, q2, q3, q4, q5, q6, q7, q8, q9, q10, q11, q12, q13⟩ := HQ2.out
      clear u0 u1 u2
      obtain ⟨u0, u1, u2⟩ := HU2.out
      clear hb2
      have r0 : w2.cell? ⟨w.heap.size + 1 + 1, 0, none⟩ = some (.int .i64 0) := (HR2.out).cell 0
      have f0 := (HR2.out).frozen 0
      have r1 : w2.cell? ⟨w.heap.size + 1 + 1, 1, none⟩ = some (.int .i64 0) := (HR2.out).cell 1
      have f1 := (HR2.out).frozen 1
      have r2 : w2.cell? ⟨w.heap.size + 1 + 1, 2, none⟩ = some (.int .i64 0) := (HR2.out).cell 2
      have f2 := (HR2.out).frozen 2
      have hsz : w.heap.size + 1 + 1 < w2.heap.size := by omega
      have hWo := HB2.out
      go_wp2
      all_goals first
        | (exfalso; omega)
        | exact bodyPost_ret (v := .tuple #[.agg #[.int .i64 (u.lv), .int .i64 (u.yr), .int .i64 (u.ix + 1)], .int .i64 0]) (by simp (maxDischargeDepth := 9) [results, Tryz.results19, go_sem, r0, r1, r2, f0, f1, f2, hsz]) rfl ⟨rfl, by (repeat' (first | (with_reducible exact Below.refl _ _) | (with_reducible assumption) | (with_reducible refine Below.alloc ?_ ?_ _) | (with_reducible refine below_drewN ?_ _) | (with_reducible refine Below.drew ?_) | (with_reducible refine Below.setCell ?_ ?_ _) | (with_reducible refine Below.trans ?_ (Below.mono (by assumption) ?_)) | go_size | (simp at *; omega)))⟩
    · rw [e1, e2]
      simp only [unitV]
      obtain ⟨b1, b2, b3, b4, b5, b6, b7⟩ := hbd
      obtain ⟨N, hN⟩ : ∃ N, cntL c u.yr u.lv = N := ⟨_, rfl⟩
      rw [hN] at h1 b5
      have hNc := count_yes (un_lv hE).1
      rw [hN] at hNc
      have HC := hide (And.intro hNc (un_lv hE).1)
      have hlb : (u.yr == c.last) = true := by simp [h2]
      clear h2
      clear e1 e2 hE hN hNc
      simp only [calV, unitV]
      go_enter Tryz.func19, Tryz.ntmps19
      go_wp2_with fail
      refine (r16check_any c u _ hn).mono ?_
      rintro e w1 ⟨rfl, hb1⟩
      rw [HE.out]
      have hz1 : w.heap.size + 1 + 1 < w1.heap.size := by have := hb1.size; simp at this; omega
      have hy1 : w.heap.size + 1 < w1.heap.size := by omega
      have hx1 : w.heap.size < w1.heap.size := by omega
      have HB1 := hide (show Below w.heap.size w w1 by (repeat' (first | (with_reducible exact Below.refl _ _) | (with_reducible assumption) | (with_reducible refine Below.alloc ?_ ?_ _) | (with_reducible refine below_drewN ?_ _) | (with_reducible refine Below.drew ?_) | (with_reducible refine Below.setCell ?_ ?_ _) | (with_reducible refine Below.trans ?_ (Below.mono (by assumption) ?_)) | go_size | (simp at *; omega))))
      have HQ1 := hide (calAt_below (B := w.heap.size) (c := c) hb1 (by simp; omega) (calAt_alloc (calAt_alloc (calAt_new w c) (by simp) _) (by simp; omega) _))
      have HU1 := hide (unAt_below (B := w.heap.size + 1) (u := u) hb1 (by simp) (unAt_alloc (unAt_new w c u) (by simp) _))
      have HR1 := hide (show BlkIs w1 (w.heap.size + 1 + 1) #[.int .i64 0, .int .i64 0, .int .i64 0] 38 from BlkIs.below (by simpa using BlkIs.new ((w.alloc (calObj c)).alloc (unObj u)) #[.int .i64 0, .int .i64 0, .int .i64 0] 38) hb1 (by simp))
      obtain ⟨q0, q1, q2, q3, q4, q5, q6, q7, q8, q9, q10, q11, q12, q13⟩ := HQ1.out
      obtain ⟨u0, u1, u2⟩ := HU1.out
      clear hb1
      go_wp2_with fail
      refine (r16count_any c u.lv u.yr _ hn).mono ?_
      rintro e w2 ⟨rfl, hb2⟩
      rw [HC.out.1, HC.out.2]
      have hz2 : w.heap.size + 1 + 1 < w2.heap.size := Nat.lt_of_lt_of_le hz1 hb2.size
      have hy2 : w.heap.size + 1 < w2.heap.size := by omega
      have hx2 : w.heap.size < w2.heap.size := by omega
      have HB2 := hide (HB1.out.trans (hb2.mono (by omega)))
      have HQ2 := hide (calAt_below hb2 (by omega) HQ1.out)
      have HU2 := hide (unAt_below hb2 (by omega) HU1.out)
      have HR2 := hide (HR1.out.call hb2)
      clear q0 q1 q2 q3 q4 q5 q6 q7 q8 q9 q10 q11 q12 q13
      obtain ⟨q0, q1, q2, q3, q4, q5, q6, q7, q8, q9, q10, q11, q12, q13⟩ := HQ2.out
      clear u0 u1 u2
      obtain ⟨u0, u1, u2⟩ := HU2.out
      clear hb2
      have r0 : w2.cell? ⟨w.heap.size + 1 + 1, 0, none⟩ = some (.int .i64 0) := (HR2.out).cell 0
      have f0 := (HR2.out).frozen 0
      have r1 : w2.cell? ⟨w.heap.size + 1 + 1, 1, none⟩ = some (.int .i64 0) := (HR2.out).cell 1
      have f1 := (HR2.out).frozen 1
      have r2 : w2.cell? ⟨w.heap.size + 1 + 1, 2, none⟩ = some (.int .i64 0) := (HR2.out).cell 2
      have f2 := (HR2.out).frozen 2
      have hsz : w.heap.size + 1 + 1 < w2.heap.size := by omega
      have hWo := HB2.out
      go_wp2
      all_goals first
        | (exfalso; omega)
        | exact bodyPost_ret (v := .tuple #[.agg #[.int .i64 (0), .int .i64 (0), .int .i64 (0)], .int .i64 11]) (by simp (maxDischargeDepth := 9) [results, Tryz.results19, go_sem, r0, r1, r2, f0, f1, f2, hsz]) rfl ⟨rfl, by (repeat' (first | (with_reducible exact Below.refl _ _) | (with_reducible assumption) | (with_reducible refine Below.alloc ?_ ?_ _) | (with_reducible refine below_drewN ?_ _) | (with_reducible refine Below.drew ?_) | (with_reducible refine Below.setCell ?_ ?_ _) | (with_reducible refine Below.trans ?_ (Below.mono (by assumption) ?_)) | go_size | (simp at *; omega)))⟩
    · rw [e1, e2]
      simp only [unitV]
      obtain ⟨b1, b2, b3, b4, b5, b6, b7⟩ := hbd
      obtain ⟨N, hN⟩ : ∃ N, cntL c u.yr u.lv = N := ⟨_, rfl⟩
      rw [hN] at h1 b5
      have hNc := count_yes (un_lv hE).1
      rw [hN] at hNc
      have HC := hide (And.intro hNc (un_lv hE).1)
      have hlb : (u.yr == c.last) = false := by simpa using h2
      clear h2
      clear e1 e2 hE hN hNc
      simp only [calV, unitV]
      go_enter Tryz.func19, Tryz.ntmps19
      go_wp2_with fail
      refine (r16check_any c u _ hn).mono ?_
      rintro e w1 ⟨rfl, hb1⟩
      rw [HE.out]
      have hz1 : w.heap.size + 1 + 1 < w1.heap.size := by have := hb1.size; simp at this; omega
      have hy1 : w.heap.size + 1 < w1.heap.size := by omega
      have hx1 : w.heap.size < w1.heap.size := by omega
      have HB1 := hide (show Below w.heap.size w w1 by (repeat' (first | (with_reducible exact Below.refl _ _) | (with_reducible assumption) | (with_reducible refine Below.alloc ?_ ?_ _) | (with_reducible refine below_drewN ?_ _) | (with_reducible refine Below.drew ?_) | (with_reducible refine Below.setCell ?_ ?_ _) | (with_reducible refine Below.trans ?_ (Below.mono (by assumption) ?_)) | go_size | (simp at *; omega))))
      have HQ1 := hide (calAt_below (B := w.heap.size) (c := c) hb1 (by simp; omega) (calAt_alloc (calAt_alloc (calAt_new w c) (by simp) _) (by simp; omega) _))
      have HU1 := hide (unAt_below (B := w.heap.size + 1) (u := u) hb1 (by simp) (unAt_alloc (unAt_new w c u) (by simp) _))
      have HR1 := hide (show BlkIs w1 (w.heap.size + 1 + 1) #[.int .i64 0, .int .i64 0, .int .i64 0] 38 from BlkIs.below (by simpa using BlkIs.new ((w.alloc (calObj c)).alloc (unObj u)) #[.int .i64 0, .int .i64 0, .int .i64 0] 38) hb1 (by simp))
      obtain ⟨q0, q1, q2, q3, q4, q5, q6, q7, q8, q9, q10, q11, q12, q13⟩ := HQ1.out
      obtain ⟨u0, u1, u2⟩ := HU1.out
      clear hb1
      go_wp2_with fail
      refine (r16count_any c u.lv u.yr _ hn).mono ?_
      rintro e w2 ⟨rfl, hb2⟩
      rw [HC.out.1, HC.out.2]
      have hz2 : w.heap.size + 1 + 1 < w2.heap.size := Nat.lt_of_lt_of_le hz1 hb2.size
      have hy2 : w.heap.size + 1 < w2.heap.size := by omega
      have hx2 : w.heap.size < w2.heap.size := by omega
      have HB2 := hide (HB1.out.trans (hb2.mono (by omega)))
      have HQ2 := hide (calAt_below hb2 (by omega) HQ1.out)
      have HU2 := hide (unAt_below hb2 (by omega) HU1.out)
      have HR2 := hide (HR1.out.call hb2)
      clear q0 q1 q2 q3 q4 q5 q6 q7 q8 q9 q10 q11 q12 q13
      obtain ⟨q0, q1, q2, q3, q4, q5, q6, q7, q8, q9, q10, q11, q12, q13⟩ := HQ2.out
      clear u0 u1 u2
      obtain ⟨u0, u1, u2⟩ := HU2.out
      clear hb2
      have r0 : w2.cell? ⟨w.heap.size + 1 + 1, 0, none⟩ = some (.int .i64 0) := (HR2.out).cell 0
      have f0 := (HR2.out).frozen 0
      have r1 : w2.cell? ⟨w.heap.size + 1 + 1, 1, none⟩ = some (.int .i64 0) := (HR2.out).cell 1
      have f1 := (HR2.out).frozen 1
      have r2 : w2.cell? ⟨w.heap.size + 1 + 1, 2, none⟩ = some (.int .i64 0) := (HR2.out).cell 2
      have f2 := (HR2.out).frozen 2
      have hsz : w.heap.size + 1 + 1 < w2.heap.size := by omega
      have hWo := HB2.out
      go_wp2
      all_goals first
        | (exfalso; omega)
        | exact bodyPost_ret (v := .tuple #[.agg #[.int .i64 (u.lv), .int .i64 (u.yr + 1), .int .i64 (1)], .int .i64 0]) (by simp (maxDischargeDepth := 9) [results, Tryz.results19, go_sem, r0, r1, r2, f0, f1, f2, hsz]) rfl ⟨rfl, by (repeat' (first | (with_reducible exact Below.refl _ _) | (with_reducible assumption) | (with_reducible refine Below.alloc ?_ ?_ _) | (with_reducible refine below_drewN ?_ _) | (with_reducible refine Below.drew ?_) | (with_reducible refine Below.setCell ?_ ?_ _) | (with_reducible refine Below.trans ?_ (Below.mono (by assumption) ?_)) | go_size | (simp at *; omega)))⟩
  · have HF := hide (nx_none hE)
    obtain ⟨E, hEE⟩ : ∃ X, unitE c u = X := ⟨_, rfl⟩
    have HE := hide hEE
    rw [hEE] at hE HF
    have hEb : (E != 0) = true := by simpa using hE
    rw [HF.out.1, HF.out.2]
    clear hE hEE
    simp only [calV, unitV]
    go_enter Tryz.func19, Tryz.ntmps19
    go_wp2_with fail
    refine (r16check_any c u _ hn).mono ?_
    rintro e w1 ⟨rfl, hb1⟩
    rw [HE.out]
    have hz1 : w.heap.size + 1 + 1 < w1.heap.size := by have := hb1.size; simp at this; omega
    have hy1 : w.heap.size + 1 < w1.heap.size := by omega
    have hx1 : w.heap.size < w1.heap.size := by omega
    have HB1 := hide (show Below w.heap.size w w1 by (repeat' (first | (with_reducible exact Below.refl _ _) | (with_reducible assumption) | (with_reducible refine Below.alloc ?_ ?_ _) | (with_reducible refine below_drewN ?_ _) | (with_reducible refine Below.drew ?_) | (with_reducible refine Below.setCell ?_ ?_ _) | (with_reducible refine Below.trans ?_ (Below.mono (by assumption) ?_)) | go_size | (simp at *; omega))))
    have HQ1 := hide (calAt_below (B := w.heap.size) (c := c) hb1 (by simp; omega) (calAt_alloc (calAt_alloc (calAt_new w c) (by simp) _) (by simp; omega) _))
    have HU1 := hide (unAt_below (B := w.heap.size + 1) (u := u) hb1 (by simp) (unAt_alloc (unAt_new w c u) (by simp) _))
    have HR1 := hide (show BlkIs w1 (w.heap.size + 1 + 1) #[.int .i64 0, .int .i64 0, .int .i64 0] 38 from BlkIs.below (by simpa using BlkIs.new ((w.alloc (calObj c)).alloc (unObj u)) #[.int .i64 0, .int .i64 0, .int .i64 0] 38) hb1 (by simp))
    obtain ⟨q0, q1, q2, q3, q4, q5, q6, q7, q8, q9, q10, q11, q12, q13⟩ := HQ1.out
    obtain ⟨u0, u1, u2⟩ := HU1.out
    clear hb1
    have r0 : w1.cell? ⟨w.heap.size + 1 + 1, 0, none⟩ = some (.int .i64 0) := (HR1.out).cell 0
    have f0 := (HR1.out).frozen 0
    have r1 : w1.cell? ⟨w.heap.size + 1 + 1, 1, none⟩ = some (.int .i64 0) := (HR1.out).cell 1
    have f1 := (HR1.out).frozen 1
    have r2 : w1.cell? ⟨w.heap.size + 1 + 1, 2, none⟩ = some (.int .i64 0) := (HR1.out).cell 2
    have f2 := (HR1.out).frozen 2
    have hsz : w.heap.size + 1 + 1 < w1.heap.size := by omega
    have hWo := HB1.out
    go_wp2
    all_goals first
      | (exfalso; omega)
      | exact bodyPost_ret (v := .tuple #[.agg #[.int .i64 (0), .int .i64 (0), .int .i64 (0)], .int .i64 E]) (by simp (maxDischargeDepth := 9) [results, Tryz.results19, go_sem, r0, r1, r2, f0, f1, f2, hsz]) rfl ⟨rfl, by (repeat' (first | (with_reducible exact Below.refl _ _) | (with_reducible assumption) | (with_reducible refine Below.alloc ?_ ?_ _) | (with_reducible refine below_drewN ?_ _) | (with_reducible refine Below.drew ?_) | (with_reducible refine Below.setCell ?_ ?_ _) | (with_reducible refine Below.trans ?_ (Below.mono (by assumption) ?_)) | go_size | (simp at *; omega)))⟩

set_option maxRecDepth 100000 in
set_option maxHeartbeats 3200000 in
theorem r17back_any (c : Cal) (u : Un) (w : World) (hn : c.name.size ≤ 1000) :
    Calls Tryz.prog 21 #[calV c, unitV u] w fun e w' => e = .returned (.tuple #[unitV (bkU c u), .int .i64 (bkE c u)]) ∧ Below w.heap.size w w' := by
  by_cases hE : unitE c u = 0
  · have hbd := un_bds hE
    have HE := hide hE
    rcases bk_vals hE with ⟨h1, e1, e2⟩ | ⟨h1, h2, e1, e2⟩ | ⟨h1, h2, h3, e1, e2⟩
    · rw [e1, e2]
      simp only [unitV]
      obtain ⟨b1, b2, b3, b4, b5, b6, b7⟩ := hbd
      clear e1 e2 hE
      simp only [calV, unitV]
      go_enter Tryz.func21, Tryz.ntmps21
      go_wp2_with fail
      refine (r16check_any c u _ hn).mono ?_
      rintro e w1 ⟨rfl, hb1⟩
      rw [HE.out]
      have hz1 : w.heap.size + 1 + 1 < w1.heap.size := by have := hb1.size; simp at this; omega
      have hy1 : w.heap.size + 1 < w1.heap.size := by omega
      have hx1 : w.heap.size < w1.heap.size := by omega
      have HB1 := hide (show Below w.heap.size w w1 by (repeat' (first | (with_reducible exact Below.refl _ _) | (with_reducible assumption) | (with_reducible refine Below.alloc ?_ ?_ _) | (with_reducible refine below_drewN ?_ _) | (with_reducible refine Below.drew ?_) | (with_reducible refine Below.setCell ?_ ?_ _) | (with_reducible refine Below.trans ?_ (Below.mono (by assumption) ?_)) | go_size | (simp at *; omega))))
      have HQ1 := hide (calAt_below (B := w.heap.size) (c := c) hb1 (by simp; omega) (calAt_alloc (calAt_alloc (calAt_new w c) (by simp) _) (by simp; omega) _))
      have HU1 := hide (unAt_below (B := w.heap.size + 1) (u := u) hb1 (by simp) (unAt_alloc (unAt_new w c u) (by simp) _))
      have HR1 := hide (show BlkIs w1 (w.heap.size + 1 + 1) #[.int .i64 0, .int .i64 0, .int .i64 0] 38 from BlkIs.below (by simpa using BlkIs.new ((w.alloc (calObj c)).alloc (unObj u)) #[.int .i64 0, .int .i64 0, .int .i64 0] 38) hb1 (by simp))
      obtain ⟨q0, q1, q2, q3, q4, q5, q6, q7, q8, q9, q10, q11, q12, q13⟩ := HQ1.out
      obtain ⟨u0, u1, u2⟩ := HU1.out
      clear hb1
      have r0 : w1.cell? ⟨w.heap.size + 1 + 1, 0, none⟩ = some (.int .i64 0) := (HR1.out).cell 0
      have f0 := (HR1.out).frozen 0
      have r1 : w1.cell? ⟨w.heap.size + 1 + 1, 1, none⟩ = some (.int .i64 0) := (HR1.out).cell 1
      have f1 := (HR1.out).frozen 1
      have r2 : w1.cell? ⟨w.heap.size + 1 + 1, 2, none⟩ = some (.int .i64 0) := (HR1.out).cell 2
      have f2 := (HR1.out).frozen 2
      have hsz : w.heap.size + 1 + 1 < w1.heap.size := by omega
      have hWo := HB1.out
      go_wp2
      all_goals first
        | (exfalso; omega)
        | exact bodyPost_ret (v := .tuple #[.agg #[.int .i64 (u.lv), .int .i64 (u.yr), .int .i64 (u.ix - 1)], .int .i64 0]) (by simp (maxDischargeDepth := 9) [results, Tryz.results21, go_sem, r0, r1, r2, f0, f1, f2, hsz]) rfl ⟨rfl, by (repeat' (first | (with_reducible exact Below.refl _ _) | (with_reducible assumption) | (with_reducible refine Below.alloc ?_ ?_ _) | (with_reducible refine below_drewN ?_ _) | (with_reducible refine Below.drew ?_) | (with_reducible refine Below.setCell ?_ ?_ _) | (with_reducible refine Below.trans ?_ (Below.mono (by assumption) ?_)) | go_size | (simp at *; omega)))⟩
    · rw [e1, e2]
      simp only [unitV]
      obtain ⟨b1, b2, b3, b4, b5, b6, b7⟩ := hbd
      have hlb : (u.yr == c.first) = true := by simp [h2]
      clear h2
      clear e1 e2 hE
      simp only [calV, unitV]
      go_enter Tryz.func21, Tryz.ntmps21
      go_wp2_with fail
      refine (r16check_any c u _ hn).mono ?_
      rintro e w1 ⟨rfl, hb1⟩
      rw [HE.out]
      have hz1 : w.heap.size + 1 + 1 < w1.heap.size := by have := hb1.size; simp at this; omega
      have hy1 : w.heap.size + 1 < w1.heap.size := by omega
      have hx1 : w.heap.size < w1.heap.size := by omega
      have HB1 := hide (show Below w.heap.size w w1 by (repeat' (first | (with_reducible exact Below.refl _ _) | (with_reducible assumption) | (with_reducible refine Below.alloc ?_ ?_ _) | (with_reducible refine below_drewN ?_ _) | (with_reducible refine Below.drew ?_) | (with_reducible refine Below.setCell ?_ ?_ _) | (with_reducible refine Below.trans ?_ (Below.mono (by assumption) ?_)) | go_size | (simp at *; omega))))
      have HQ1 := hide (calAt_below (B := w.heap.size) (c := c) hb1 (by simp; omega) (calAt_alloc (calAt_alloc (calAt_new w c) (by simp) _) (by simp; omega) _))
      have HU1 := hide (unAt_below (B := w.heap.size + 1) (u := u) hb1 (by simp) (unAt_alloc (unAt_new w c u) (by simp) _))
      have HR1 := hide (show BlkIs w1 (w.heap.size + 1 + 1) #[.int .i64 0, .int .i64 0, .int .i64 0] 38 from BlkIs.below (by simpa using BlkIs.new ((w.alloc (calObj c)).alloc (unObj u)) #[.int .i64 0, .int .i64 0, .int .i64 0] 38) hb1 (by simp))
      obtain ⟨q0, q1, q2, q3, q4, q5, q6, q7, q8, q9, q10, q11, q12, q13⟩ := HQ1.out
      obtain ⟨u0, u1, u2⟩ := HU1.out
      clear hb1
      have r0 : w1.cell? ⟨w.heap.size + 1 + 1, 0, none⟩ = some (.int .i64 0) := (HR1.out).cell 0
      have f0 := (HR1.out).frozen 0
      have r1 : w1.cell? ⟨w.heap.size + 1 + 1, 1, none⟩ = some (.int .i64 0) := (HR1.out).cell 1
      have f1 := (HR1.out).frozen 1
      have r2 : w1.cell? ⟨w.heap.size + 1 + 1, 2, none⟩ = some (.int .i64 0) := (HR1.out).cell 2
      have f2 := (HR1.out).frozen 2
      have hsz : w.heap.size + 1 + 1 < w1.heap.size := by omega
      have hWo := HB1.out
      go_wp2
      all_goals first
        | (exfalso; omega)
        | exact bodyPost_ret (v := .tuple #[.agg #[.int .i64 (0), .int .i64 (0), .int .i64 (0)], .int .i64 11]) (by simp (maxDischargeDepth := 9) [results, Tryz.results21, go_sem, r0, r1, r2, f0, f1, f2, hsz]) rfl ⟨rfl, by (repeat' (first | (with_reducible exact Below.refl _ _) | (with_reducible assumption) | (with_reducible refine Below.alloc ?_ ?_ _) | (with_reducible refine below_drewN ?_ _) | (with_reducible refine Below.drew ?_) | (with_reducible refine Below.setCell ?_ ?_ _) | (with_reducible refine Below.trans ?_ (Below.mono (by assumption) ?_)) | go_size | (simp at *; omega)))⟩
    · rw [e1, e2]
      simp only [unitV]
      obtain ⟨b1, b2, b3, b4, b5, b6, b7⟩ := hbd
      have hlb : (u.yr == c.first) = false := by simpa using h2
      obtain ⟨M, hM⟩ : ∃ N, cntL c (u.yr - 1) u.lv = N := ⟨_, rfl⟩
      have hNc := count_yes h3
      rw [hM] at hNc ⊢
      have HC := hide (And.intro hNc h3)
      clear h2 h3 hM hNc
      clear e1 e2 hE
      simp only [calV, unitV]
      go_enter Tryz.func21, Tryz.ntmps21
      go_wp2_with fail
      refine (r16check_any c u _ hn).mono ?_
      rintro e w1 ⟨rfl, hb1⟩
      rw [HE.out]
      have hz1 : w.heap.size + 1 + 1 < w1.heap.size := by have := hb1.size; simp at this; omega
      have hy1 : w.heap.size + 1 < w1.heap.size := by omega
      have hx1 : w.heap.size < w1.heap.size := by omega
      have HB1 := hide (show Below w.heap.size w w1 by (repeat' (first | (with_reducible exact Below.refl _ _) | (with_reducible assumption) | (with_reducible refine Below.alloc ?_ ?_ _) | (with_reducible refine below_drewN ?_ _) | (with_reducible refine Below.drew ?_) | (with_reducible refine Below.setCell ?_ ?_ _) | (with_reducible refine Below.trans ?_ (Below.mono (by assumption) ?_)) | go_size | (simp at *; omega))))
      have HQ1 := hide (calAt_below (B := w.heap.size) (c := c) hb1 (by simp; omega) (calAt_alloc (calAt_alloc (calAt_new w c) (by simp) _) (by simp; omega) _))
      have HU1 := hide (unAt_below (B := w.heap.size + 1) (u := u) hb1 (by simp) (unAt_alloc (unAt_new w c u) (by simp) _))
      have HR1 := hide (show BlkIs w1 (w.heap.size + 1 + 1) #[.int .i64 0, .int .i64 0, .int .i64 0] 38 from BlkIs.below (by simpa using BlkIs.new ((w.alloc (calObj c)).alloc (unObj u)) #[.int .i64 0, .int .i64 0, .int .i64 0] 38) hb1 (by simp))
      obtain ⟨q0, q1, q2, q3, q4, q5, q6, q7, q8, q9, q10, q11, q12, q13⟩ := HQ1.out
      obtain ⟨u0, u1, u2⟩ := HU1.out
      clear hb1
      go_wp2_with fail
      all_goals first
        | (exfalso; omega)
        | skip
      refine (r16count_any c u.lv (u.yr - 1) _ hn).mono ?_
      rintro e w2 ⟨rfl, hb2⟩
      rw [HC.out.1, HC.out.2]
      have hz2 : w.heap.size + 1 + 1 < w2.heap.size := Nat.lt_of_lt_of_le hz1 hb2.size
      have hy2 : w.heap.size + 1 < w2.heap.size := by omega
      have hx2 : w.heap.size < w2.heap.size := by omega
      have HB2 := hide (HB1.out.trans (hb2.mono (by omega)))
      have HQ2 := hide (calAt_below hb2 (by omega) HQ1.out)
      have HU2 := hide (unAt_below hb2 (by omega) HU1.out)
      have HR2 := hide (HR1.out.call hb2)
      clear q0 q1 q2 q3 q4 q5 q6 q7 q8 q9 q10 q11 q12 q13
      obtain ⟨q0, q1, q2, q3, q4, q5, q6, q7, q8, q9, q10, q11, q12, q13⟩ := HQ2.out
      clear u0 u1 u2
      obtain ⟨u0, u1, u2⟩ := HU2.out
      clear hb2
      have r0 : w2.cell? ⟨w.heap.size + 1 + 1, 0, none⟩ = some (.int .i64 0) := (HR2.out).cell 0
      have f0 := (HR2.out).frozen 0
      have r1 : w2.cell? ⟨w.heap.size + 1 + 1, 1, none⟩ = some (.int .i64 0) := (HR2.out).cell 1
      have f1 := (HR2.out).frozen 1
      have r2 : w2.cell? ⟨w.heap.size + 1 + 1, 2, none⟩ = some (.int .i64 0) := (HR2.out).cell 2
      have f2 := (HR2.out).frozen 2
      have hsz : w.heap.size + 1 + 1 < w2.heap.size := by omega
      have hWo := HB2.out
      go_wp2
      all_goals first
        | (exfalso; omega)
        | exact bodyPost_ret (v := .tuple #[.agg #[.int .i64 (u.lv), .int .i64 (u.yr - 1), .int .i64 ((M : Int))], .int .i64 0]) (by simp (maxDischargeDepth := 9) [results, Tryz.results21, go_sem, r0, r1, r2, f0, f1, f2, hsz]) rfl ⟨rfl, by (repeat' (first | (with_reducible exact Below.refl _ _) | (with_reducible assumption) | (with_reducible refine Below.alloc ?_ ?_ _) | (with_reducible refine below_drewN ?_ _) | (with_reducible refine Below.drew ?_) | (with_reducible refine Below.setCell ?_ ?_ _) | (with_reducible refine Below.trans ?_ (Below.mono (by assumption) ?_)) | go_size | (simp at *; omega)))⟩
  · have HF := hide (bk_none hE)
    obtain ⟨E, hEE⟩ : ∃ X, unitE c u = X := ⟨_, rfl⟩
    have HE := hide hEE
    rw [hEE] at hE HF
    have hEb : (E != 0) = true := by simpa using hE
    rw [HF.out.1, HF.out.2]
    clear hE hEE
    simp only [calV, unitV]
    go_enter Tryz.func21, Tryz.ntmps21
    go_wp2_with fail
    refine (r16check_any c u _ hn).mono ?_
    rintro e w1 ⟨rfl, hb1⟩
    rw [HE.out]
    have hz1 : w.heap.size + 1 + 1 < w1.heap.size := by have := hb1.size; simp at this; omega
    have hy1 : w.heap.size + 1 < w1.heap.size := by omega
    have hx1 : w.heap.size < w1.heap.size := by omega
    have HB1 := hide (show Below w.heap.size w w1 by (repeat' (first | (with_reducible exact Below.refl _ _) | (with_reducible assumption) | (with_reducible refine Below.alloc ?_ ?_ _) | (with_reducible refine below_drewN ?_ _) | (with_reducible refine Below.drew ?_) | (with_reducible refine Below.setCell ?_ ?_ _) | (with_reducible refine Below.trans ?_ (Below.mono (by assumption) ?_)) | go_size | (simp at *; omega))))
    have HQ1 := hide (calAt_below (B := w.heap.size) (c := c) hb1 (by simp; omega) (calAt_alloc (calAt_alloc (calAt_new w c) (by simp) _) (by simp; omega) _))
    have HU1 := hide (unAt_below (B := w.heap.size + 1) (u := u) hb1 (by simp) (unAt_alloc (unAt_new w c u) (by simp) _))
    have HR1 := hide (show BlkIs w1 (w.heap.size + 1 + 1) #[.int .i64 0, .int .i64 0, .int .i64 0] 38 from BlkIs.below (by simpa using BlkIs.new ((w.alloc (calObj c)).alloc (unObj u)) #[.int .i64 0, .int .i64 0, .int .i64 0] 38) hb1 (by simp))
    obtain ⟨q0, q1, q2, q3, q4, q5, q6, q7, q8, q9, q10, q11, q12, q13⟩ := HQ1.out
    obtain ⟨u0, u1, u2⟩ := HU1.out
    clear hb1
    have r0 : w1.cell? ⟨w.heap.size + 1 + 1, 0, none⟩ = some (.int .i64 0) := (HR1.out).cell 0
    have f0 := (HR1.out).frozen 0
    have r1 : w1.cell? ⟨w.heap.size + 1 + 1, 1, none⟩ = some (.int .i64 0) := (HR1.out).cell 1
    have f1 := (HR1.out).frozen 1
    have r2 : w1.cell? ⟨w.heap.size + 1 + 1, 2, none⟩ = some (.int .i64 0) := (HR1.out).cell 2
    have f2 := (HR1.out).frozen 2
    have hsz : w.heap.size + 1 + 1 < w1.heap.size := by omega
    have hWo := HB1.out
    go_wp2
    all_goals first
      | (exfalso; omega)
      | exact bodyPost_ret (v := .tuple #[.agg #[.int .i64 (0), .int .i64 (0), .int .i64 (0)], .int .i64 E]) (by simp (maxDischargeDepth := 9) [results, Tryz.results21, go_sem, r0, r1, r2, f0, f1, f2, hsz]) rfl ⟨rfl, by (repeat' (first | (with_reducible exact Below.refl _ _) | (with_reducible assumption) | (with_reducible refine Below.alloc ?_ ?_ _) | (with_reducible refine below_drewN ?_ _) | (with_reducible refine Below.drew ?_) | (with_reducible refine Below.setCell ?_ ?_ _) | (with_reducible refine Below.trans ?_ (Below.mono (by assumption) ?_)) | go_size | (simp at *; omega)))⟩

end Go.Proofs.YtojdngkleiokgaaGreat
