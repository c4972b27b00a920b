/- The walk of RateTies. -/
import Derived.Test.YtamnccechaooaaaGreatRateS
import Derived.Test.YtamnccechaooaaaGreatLawRDays
namespace Go.Proofs.YtamnccechaooaaaGreat
open Go.RowKit Qd
set_option linter.unusedSimpArgs false
set_option linter.unusedVariables false

structure TiSt (c : Cal) (s : Sp) (S : List (Un × Int)) (D : List Int) (g g2 B : Nat) (w0 w : World) : Prop where
  fm : FmB c s B w0 w
  sl : ShrAt w g S
  dl : LongsAt w g2 D
theorem TiSt.call {c : Cal} {s : Sp} {S : List (Un × Int)} {D : List Int} {g g2 B : Nat} {w0 w w' : World} (h : TiSt c s S D g g2 B w0 w) (hb : Below w.heap.size w w') : TiSt c s S D g g2 B w0 w' := ⟨h.fm.call hb, h.sl.call hb, h.dl.call hb⟩

set_option maxRecDepth 100000 in
set_option maxHeartbeats 6400000 in
theorem rt_walk (c : Cal) (hn : c.name.size ≤ 9223372036854775807) (lv a : Int) (s : Sp) (w : World) (ha : in64 a) :
    Calls Tryz.prog 5 #[calV c, .int .i64 lv, .int .i64 a, spanV s] w fun e w' => e = .returned (.bool true) ∧ Below w.heap.size w w' := by
  have HA := hide ha
  clear ha
  simp only [calV, spanV]
  go_enter Tryz.func5, Tryz.ntmps5
  go_wp2_with fail
  refine (live21_any _).mono ?_
  rintro e w1 ⟨rfl, hb1⟩
  have HM1 := hide ((fmB_new c s w).call hb1)
  clear hb1
  obtain ⟨q0, q1, q2, q3, q4, q5, q6, q7, q8, q9, q10, q11, q12, q13⟩ := HM1.out.1
  obtain ⟨p0, p1⟩ := HM1.out.2.1
  have hz1 := HM1.out.2.2.1
  have hy1 : w.heap.size < w1.heap.size := by omega
  go_wp2_with fail
  refine (brief21_any c s _).mono ?_
  rintro e w2 ⟨⟨b, rfl, hsh⟩, hb2⟩
  have HSH := hide hsh
  have HM2 := hide (HM1.out.call hb2)
  clear hsh hb2 p0 p1
  clear q0 q1 q2 q3 q4 q5 q6 q7 q8 q9 q10 q11 q12 q13
  obtain ⟨q0, q1, q2, q3, q4, q5, q6, q7, q8, q9, q10, q11, q12, q13⟩ := HM2.out.1
  obtain ⟨p0, p1⟩ := HM2.out.2.1
  have hz2 := HM2.out.2.2.1
  have hy2 : w.heap.size < w2.heap.size := by omega
  cases b
  · have hBel := HM2.out.2.2.2
    go_wp2
    go_ret
    exact ⟨rfl, by (repeat' exact bel)⟩
  · have hnm : c.name.size ≤ 1000 := by have := (HSH.out rfl).1; omega
    by_cases hE : meetsE c lv s = 0
    · obtain ⟨⟨s1, s2, s3, s4⟩, hlen⟩ := brief_len hE (HSH.out rfl).2
      have hdf := dys_facts hE
      have hpos : 0 < (dysL c lv s).sum := by rw [hdf.1]; omega
      have HTI := hide (fun (i j : Nat) (x u v : Int) (hij : i < j) hi hj hu hv => out_ties (a := a) (ws := dysL c lv s) hpos (i := i) (j := j) (x := x) (u := u) (v := v) hij hi hj hu hv)
      have HIN := hide (fun (i : Nat) (N : Int) h => out_in (ws := dysL c lv s) HA.out (fun x hx => by have := hdf.2 x hx; omega) hpos (i := i) (N := N) h)
      have HSP := hide (fun w => rsplit_yes c lv a s w hnm hE (by omega) HA.out)
      have HDY := hide (fun w => rdays_yes c lv s w hnm hE (by omega))
      obtain ⟨n, hnn⟩ : ∃ n, (meetsL c lv s).length = n := ⟨_, rfl⟩
      rw [hnn] at HSP HDY hlen
      have HNN := hide hnn
      simp only [calV, spanV] at HSP HDY
      clear hE hdf hpos hnn
      go_wp2_with fail
      refine (HSP.out _).mono ?_
      rintro e w3 ⟨⟨g, rfl, hS, hg⟩, hb3⟩
      have HM3 := hide (HM2.out.call hb3)
      have HS3 := hide hS
      clear hb3 p0 p1 hS
      clear q0 q1 q2 q3 q4 q5 q6 q7 q8 q9 q10 q11 q12 q13
      obtain ⟨q0, q1, q2, q3, q4, q5, q6, q7, q8, q9, q10, q11, q12, q13⟩ := HM3.out.1
      obtain ⟨p0, p1⟩ := HM3.out.2.1
      have hz3 := HM3.out.2.2.1
      have hy3 : w.heap.size < w3.heap.size := by omega
      go_wp2_with fail
      refine (HDY.out _).mono ?_
      rintro e w4 ⟨⟨g2, rfl, hD, hg2⟩, hb4⟩
      have HS0 := hide (show TiSt c s (shL c lv a s) (dysL c lv s) g g2 w.heap.size w w4 from ⟨HM3.out.call hb4, HS3.out.call hb4, hD⟩)
      clear hb4 p0 p1 hD HS3
      clear q0 q1 q2 q3 q4 q5 q6 q7 q8 q9 q10 q11 q12 q13
      go_wp2_with fail
      all_goals first
        | (exfalso; omega)
        | skip
      go_loopw [52] (fun s52 wr => ∃ j : Nat, s52 = .int .i64 j ∧ j ≤ n ∧ Hid (TiSt c s (shL c lv a s) (dysL c lv s) g g2 w.heap.size w wr)) (fun s52 _ => (n + 5 - intOf s52).toNat)
      case atStart => exact ⟨0, rfl, Nat.zero_le _, HS0⟩
      case round =>
        obtain ⟨j, rfl, hj, HS⟩ := hrel
        by_cases hlt : j < n
        · obtain ⟨u, hu⟩ : ∃ u, (meetsL c lv s)[j]? = some u := ⟨_, List.getElem?_eq_getElem (by rw [HNN.out]; exact hlt)⟩
          obtain ⟨nj, hnj⟩ : ∃ x, (outV a (dysL c lv s))[j]? = some x := ⟨_, List.getElem?_eq_getElem (by rw [outV_len, dysL_len, HNN.out]; exact hlt)⟩
          obtain ⟨dj, hdj⟩ : ∃ x, (dysL c lv s)[j]? = some x := ⟨_, List.getElem?_eq_getElem (by rw [dysL_len, HNN.out]; exact hlt)⟩
          have HJ := hide (And.intro (shL_get hu hnj) (And.intro hnj hdj))
          clear hu hnj hdj
          obtain ⟨wo, hwo⟩ : ∃ wo : World, wo = wr := ⟨_, rfl⟩
          rw [← hwo] at HS ⊢
          clear hwo
          go_wp2_with fail
          go_loopw [56] (fun s56 wr => ∃ i : Nat, s56 = .int .i64 i ∧ i ≤ j ∧ Hid (TiSt c s (shL c lv a s) (dysL c lv s) g g2 w.heap.size w wr)) (fun s56 _ => (n + 5 - intOf s56).toNat)
          case atStart => exact ⟨0, rfl, Nat.zero_le _, HS⟩
          case round =>
            obtain ⟨i, rfl, hi, HR⟩ := hrel
            by_cases hlt2 : i < j
            · obtain ⟨u, hu⟩ : ∃ u, (meetsL c lv s)[i]? = some u := ⟨_, List.getElem?_eq_getElem (by rw [HNN.out]; omega)⟩
              obtain ⟨ni, hni⟩ : ∃ x, (outV a (dysL c lv s))[i]? = some x := ⟨_, List.getElem?_eq_getElem (by rw [outV_len, dysL_len, HNN.out]; omega)⟩
              obtain ⟨di, hdi⟩ : ∃ x, (dysL c lv s)[i]? = some x := ⟨_, List.getElem?_eq_getElem (by rw [dysL_len, HNN.out]; omega)⟩
              obtain ⟨a0, a1, a2, a3⟩ := HR.out.sl.cell (shL_get hu hni)
              obtain ⟨b0, b1, b2, b3⟩ := HR.out.sl.cell HJ.out.1
              have c0 := HR.out.dl.cell hdi
              have c1 := HR.out.dl.cell HJ.out.2.2
              simp only at a3 b3
              have h64 := HIN.out i ni hni
              have h64j := HIN.out j nj HJ.out.2.1
              have hti := HTI.out i j di ni nj hlt2 hdi
              have hi1 : (0 : Int) ≤ (i : Int) := by omega
              have hi3 : (i : Int) < (n : Int) := by omega
              have hj1 : (0 : Int) ≤ (j : Int) := by omega
              have hj3 : (j : Int) < (n : Int) := by omega
              unfold in64 at h64 h64j
              obtain ⟨h1, h2⟩ := h64
              obtain ⟨h3, h4⟩ := h64j
              have HR2 := hide (fun nq => HR.out.call (below_drewN (Below.refl wr.heap.size wr) nq))
              have HNI := hide hni
              clear hu hni hdi a0 a1 a2 b0 b1 b2
              by_cases hdd : di = dj
              · have hq1 : (di == dj) = true := by simp [hdd]
                have ht := hti (by rw [hdd]; exact HJ.out.2.2) HNI.out HJ.out.2.1
                clear hti hdd
                by_cases hnn2 : ni = nj
                · have hq2 : (ni != nj) = false := by simp [hnn2]
                  clear ht hnn2
                  go_wp2_with fail
                  go_quiet (fail)
                  go_wp2
                  go_roundw
                  case rel => exact ⟨i + 1, by go_num, by omega, hide (HR2.out _)⟩
                  case measure => simp [intOf]; omega
                · have hq2 : (ni != nj) = true := by simp [hnn2]
                  have hq3 : IntKind.i64.wrap (ni - 1) = ni - 1 := by rw [IntKind.wrap_i64]; omega
                  have hq4 : (ni - 1 != nj) = false := by simp; omega
                  clear ht hnn2
                  go_wp2_with fail
                  go_quiet (fail)
                  go_wp2
                  go_roundw
                  case rel => exact ⟨i + 1, by go_num, by omega, hide (HR2.out _)⟩
                  case measure => simp [intOf]; omega
              · have hq1 : (di == dj) = false := by simp [hdd]
                clear hti hdd
                go_wp2_with fail
                go_quiet (fail)
                go_wp2
                go_roundw
                case rel => exact ⟨i + 1, by go_num, by omega, hide (HR2.out _)⟩
                case measure => simp [intOf]; omega
            · obtain rfl : i = j := by omega
              go_wp2
              all_goals first
                | (exfalso; omega)
                | skip
              go_roundw
              case rel => exact ⟨i + 1, by go_num, by omega, HR⟩
              case measure => simp [intOf]; omega
        · have hBel := HS.out.fm.2.2.2
          go_wp2
          all_goals first
            | (exfalso; omega)
            | (go_ret; exact ⟨rfl, by (repeat' exact bel)⟩)
    · have hEE : (meetsE c lv s != 0) = true := by simpa using hE
      have HSP := hide (fun w => rsplit_no c lv a s w hnm hE)
      have HDY := hide (fun w => rdays_no c lv s w hnm hE)
      obtain ⟨E, hE2⟩ : ∃ E, meetsE c lv s = E := ⟨_, rfl⟩
      rw [hE2] at hEE HSP HDY
      simp only [calV, spanV] at HSP HDY
      clear hE hE2
      go_wp2_with fail
      refine (HSP.out _).mono ?_
      rintro e w3 ⟨rfl, hb3⟩
      have HM3 := hide (HM2.out.call hb3)
      clear hb3 p0 p1
      clear q0 q1 q2 q3 q4 q5 q6 q7 q8 q9 q10 q11 q12 q13
      obtain ⟨q0, q1, q2, q3, q4, q5, q6, q7, q8, q9, q10, q11, q12, q13⟩ := HM3.out.1
      obtain ⟨p0, p1⟩ := HM3.out.2.1
      have hz3 := HM3.out.2.2.1
      have hy3 : w.heap.size < w3.heap.size := by omega
      go_wp2_with fail
      refine (HDY.out _).mono ?_
      rintro e w4 ⟨rfl, hb4⟩
      have HM4 := hide (HM3.out.call hb4)
      clear hb4 p0 p1
      clear q0 q1 q2 q3 q4 q5 q6 q7 q8 q9 q10 q11 q12 q13
      have hBel := HM4.out.2.2.2
      go_wp2
      all_goals first
        | (exfalso; omega)
        | (go_ret; exact ⟨ret_bool (by simp), by (repeat' exact bel)⟩)
end Go.Proofs.YtamnccechaooaaaGreat
