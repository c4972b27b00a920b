/- The walk of RateDays. -/
import Derived.Test.YtamnccechaooaaaGreatMRl
namespace Go.Proofs.YtamnccechaooaaaGreat
open Go.RowKit Qd
set_option linter.unusedSimpArgs false
set_option linter.unusedVariables false

/-- What lies in the frame: the calendar and the span. -/
def FmB (c : Cal) (s : Sp) (B : Nat) (w0 w : World) : Prop := CalAt w B c ∧ SpAt w (B + 1) s ∧ B + 1 < w.heap.size ∧ Below B w0 w
theorem FmB.call {c : Cal} {s : Sp} {B : Nat} {w0 w w' : World} (h : FmB c s B w0 w) (hb : Below w.heap.size w w') : FmB c s B w0 w' := ⟨calAt_below hb (by have := h.2.2.1; omega) h.1, spAt_below hb h.2.2.1 h.2.1, Nat.lt_of_lt_of_le h.2.2.1 hb.size, h.2.2.2.trans (hb.mono (by have := h.2.2.1; omega))⟩
theorem fmB_new (c : Cal) (s : Sp) (w : World) : FmB c s w.heap.size w ((w.alloc (calObj c)).alloc (spObj s)) := by
  refine ⟨calAt_alloc (calAt_new w c) (by simp) _, ?_, by simp, by (repeat' exact bel)⟩
  have := spAt_fresh (w.alloc (calObj c)) s
  simpa using this
/-- Sums of what is at least 1. -/
theorem take_sum_bd {D : List Int} (h : ∀ d ∈ D, 1 ≤ d) (j : Nat) : 0 ≤ (D.take j).sum ∧ (D.take j).sum ≤ D.sum := by
  have h0 : ∀ l : List Int, (∀ d ∈ l, 1 ≤ d) → 0 ≤ l.sum := by
    intro l hl
    induction l with
    | nil => simp
    | cons x l ih => have := ih fun d hd => hl d (List.mem_cons_of_mem _ hd); have := hl x (by simp); simp only [List.sum_cons]; omega
  have h1 := h0 (D.take j) fun d hd => h d (List.mem_of_mem_take hd)
  have h2 := h0 (D.drop j) fun d hd => h d (List.mem_of_mem_drop hd)
  have h3 : D.sum = (D.take j).sum + (D.drop j).sum := by rw [← List.sum_append, List.take_append_drop]
  omega

set_option maxRecDepth 100000 in
set_option maxHeartbeats 3200000 in
theorem rd_walk (c : Cal) (hn : c.name.size ≤ 9223372036854775807) (lv : Int) (s : Sp) (w : World) :
    Calls Tryz.prog 6 #[calV c, .int .i64 lv, spanV s] w fun e w' => e = .returned (.bool true) ∧ Below w.heap.size w w' := by
  by_cases hE : meetsE c lv s = 0
  · have HE := hide hE
    have HDF := hide (dys_facts hE)
    have HMID := hide (fun j u (hj : (meetsL c lv s)[j]? = some u) (h0 : 0 < j) (h1 : j + 1 < (meetsL c lv s).length) => dys_mid hE hj h0 h1)
    have HMM := hide (fun u hu => (meets_mem (c := c) (lv := lv) (s := s) (u := u) hE hu).1)
    have HL0 := hide ((meets_chain hE).2.2.2.1)
    clear hE
    simp only [calV, spanV]
    go_enter Tryz.func6, Tryz.ntmps6
    go_wp2_with fail
    refine (live21_any _).mono ?_
    rintro e w1 ⟨rfl, hb1⟩
    have HM1 := hide ((fmB_new c s w).call hb1)
    clear hb1
    obtain ⟨q0, q1, q2, q3, q4, q5, q6, q7, q8, q9, q10, q11, q12, q13⟩ := HM1.out.1
    obtain ⟨p0, p1⟩ := HM1.out.2.1
    have hz1 := HM1.out.2.2.1
    have hy1 : w.heap.size < w1.heap.size := by omega
    go_wp2_with fail
    refine (brief21_any c s _).mono ?_
    rintro e w2 ⟨⟨b, rfl, hsh⟩, hb2⟩
    have HSH := hide hsh
    have HM2 := hide (HM1.out.call hb2)
    clear hsh hb2 p0 p1
    clear q0 q1 q2 q3 q4 q5 q6 q7 q8 q9 q10 q11 q12 q13
    obtain ⟨q0, q1, q2, q3, q4, q5, q6, q7, q8, q9, q10, q11, q12, q13⟩ := HM2.out.1
    obtain ⟨p0, p1⟩ := HM2.out.2.1
    have hz2 := HM2.out.2.2.1
    have hy2 : w.heap.size < w2.heap.size := by omega
    cases b
    · have hBel := HM2.out.2.2.2
      go_wp2
      go_ret
      exact ⟨rfl, by (repeat' exact bel)⟩
    · obtain ⟨⟨s1, s2, s3, s4⟩, hlen⟩ := brief_len HE.out (HSH.out rfl).2
      have hnm : c.name.size ≤ 1000 := by have := (HSH.out rfl).1; omega
      have HDY := hide (fun w => rdays_yes c lv s w hnm HE.out (by omega))
      have HMT := hide (fun w => meets_yes c lv s w hnm HE.out)
      obtain ⟨n, hnn⟩ : ∃ n, (meetsL c lv s).length = n := ⟨_, rfl⟩
      have hn0 := HL0.out
      rw [hnn] at HDY HMT hlen hn0 HMID
      have HNN := hide hnn
      simp only [calV, spanV] at HDY HMT
      clear hnn
      go_wp2_with fail
      refine (HDY.out _).mono ?_
      rintro e w3 ⟨⟨g2, rfl, hD, hg2⟩, hb3⟩
      have HM3 := hide (HM2.out.call hb3)
      have HD3 := hide hD
      clear hb3 p0 p1 hD
      clear q0 q1 q2 q3 q4 q5 q6 q7 q8 q9 q10 q11 q12 q13
      obtain ⟨q0, q1, q2, q3, q4, q5, q6, q7, q8, q9, q10, q11, q12, q13⟩ := HM3.out.1
      obtain ⟨p0, p1⟩ := HM3.out.2.1
      have hz3 := HM3.out.2.2.1
      have hy3 : w.heap.size < w3.heap.size := by omega
      go_wp2_with fail
      refine (HMT.out _).mono ?_
      rintro e w4 ⟨g, cap, rfl, hU, hg, hb4⟩
      have HS0 := hide (show FmB c s w.heap.size w w4 ∧ UnsAt w4 g cap (meetsL c lv s) ∧ LongsAt w4 g2 (dysL c lv s) from ⟨HM3.out.call hb4, hU, HD3.out.call hb4⟩)
      clear hb4 p0 p1 hU
      clear q0 q1 q2 q3 q4 q5 q6 q7 q8 q9 q10 q11 q12 q13
      obtain ⟨q0, q1, q2, q3, q4, q5, q6, q7, q8, q9, q10, q11, q12, q13⟩ := HS0.out.1.1
      obtain ⟨p0, p1⟩ := HS0.out.1.2.1
      have hz4 := HS0.out.1.2.2.1
      have hy4 : w.heap.size < w4.heap.size := by omega
      go_wp2_with fail
      all_goals first
        | (exfalso; omega)
        | skip
      clear q0 q1 q2 q3 q4 q5 q6 q7 q8 q9 q10 q11 q12 q13
      clear p0 p1
      go_loopw [11, 52] (fun s11 s52 wr => ∃ j : Nat, s52 = .int .i64 j ∧ j ≤ n ∧ s11 = .int .i64 ((dysL c lv s).take j).sum ∧ Hid (FmB c s w.heap.size w wr ∧ UnsAt wr g cap (meetsL c lv s) ∧ LongsAt wr g2 (dysL c lv s))) (fun _ s52 _ => (n + 5 - intOf s52).toNat)
      case atStart => exact ⟨0, rfl, Nat.zero_le _, by simp, HS0⟩
      case round =>
        obtain ⟨j, rfl, hj, rfl, HS⟩ := hrel
        have hsb := take_sum_bd (fun d hd => (HDF.out.2 d hd).1) j
        rw [HDF.out.1] at hsb
        obtain ⟨hsb1, hsb2⟩ := hsb
        obtain ⟨q0, q1, q2, q3, q4, q5, q6, q7, q8, q9, q10, q11, q12, q13⟩ := HS.out.1.1
        obtain ⟨p0, p1⟩ := HS.out.1.2.1
        have hzr := HS.out.1.2.2.1
        have hyr : w.heap.size < wr.heap.size := by omega
        by_cases hlt : j < n
        · obtain ⟨u, hu⟩ : ∃ u, (meetsL c lv s)[j]? = some u := ⟨_, List.getElem?_eq_getElem (by rw [HNN.out]; exact hlt)⟩
          have hd := dysL_get hu
          obtain ⟨d, hdd⟩ : ∃ d, clipV s.a s.b (spV c u) = d := ⟨_, rfl⟩
          rw [hdd] at hd
          obtain ⟨hd1, hd2⟩ := HDF.out.2 d (List.mem_of_getElem? hd)
          have hle := dys_le (c := c) (lv := lv) (s := s) u
          have hmid := HMID.out j u hu
          rw [hdd] at hle hmid
          obtain ⟨t, ht⟩ : ∃ t, spV c u = t := ⟨_, rfl⟩
          have HUM := hide (And.intro (HMM.out u (List.mem_of_getElem? hu)) ht)
          have htb : 0 ≤ t.a ∧ t.a ≤ 3068038 ∧ 0 ≤ t.b + 1 ∧ t.b ≤ 3068038 := by
            have hU0 := HUM.out.1
            have hA := (un_lv hU0).2.2.2.1
            have hab := cutAB hU0
            have h1 := dayW_bd c u.yr hA (cutA c u) (by omega)
            have h2 := dayW_bd c u.yr hA (cutB c u) hab.2
            rw [← ht, sp_get hU0]
            simp only
            omega
          obtain ⟨ht1, ht2, ht3, ht4⟩ := htb
          rw [ht] at hle hmid
          have HST := hide (sum_take _ j d hd)
          obtain ⟨S, hS⟩ : ∃ S, ((dysL c lv s).take j).sum = S := ⟨_, rfl⟩
          rw [hS] at hsb1 hsb2 HST ⊢
          have hug := (UnsAt.lt HS.out.2.1 (by rw [HNN.out]; omega)).1
          obtain ⟨a0, a1, a2⟩ := UnsAt.cell HS.out.2.1 hu
          have c0 := HS.out.2.2.cell hd
          have hgl := HS.out.2.2.lt
          have hi1 : (0 : Int) ≤ (j : Int) := by omega
          have hi3 : (j : Int) < (n : Int) := by omega
          have HSP := hide (fun w => uspan_any c u w hnm)
          simp only [calV, unitV, spanV] at HSP
          have HX := hide (And.intro hu hd)
          clear hu hd hdd ht hS
          go_wp2_with fail
          refine (HSP.out _).mono ?_
          rintro e w5 ⟨rfl, hb5⟩
          rw [HUM.out.1, HUM.out.2]
          have HS5 := hide (show FmB c s w.heap.size w w5 ∧ UnsAt w5 g cap (meetsL c lv s) ∧ LongsAt w5 g2 (dysL c lv s) from by
            have hbb : Below wr.heap.size wr w5 := (ww hb5).out
            exact ⟨HS.out.1.call hbb, HS.out.2.1.call hbb, HS.out.2.2.call hbb⟩)
          clear hb5 p0 p1 a0 a1 a2 c0
          clear q0 q1 q2 q3 q4 q5 q6 q7 q8 q9 q10 q11 q12 q13
          have c0 := HS5.out.2.2.cell HX.out.2
          have hgl5 := HS5.out.2.2.lt
          rcases (show j = 0 ∨ (0 < j ∧ j + 1 < n) ∨ (0 < j ∧ j + 1 = n) by omega) with rfl | ⟨h0, h1⟩ | ⟨h0, h1⟩
          · clear hmid
            go_wp2
            all_goals first
              | (exfalso; omega)
              | skip
            go_roundw
            case rel => exact ⟨1, by first | rfl | go_num, by omega, by rw [HST.out], hide ⟨HS5.out.1.call ((Below.refl _ _).alloc (Nat.le_refl _) _), HS5.out.2.1.call ((Below.refl _ _).alloc (Nat.le_refl _) _), HS5.out.2.2.call ((Below.refl _ _).alloc (Nat.le_refl _) _)⟩⟩
            case measure => simp [intOf]; omega
          · have hm := hmid h0 h1
            have HMI := hide hm
            clear hmid
            go_wp2
            all_goals first
              | (exfalso; omega)
              | skip
            go_roundw
            case rel => exact ⟨j + 1, by go_num, by omega, by rw [HST.out]; first | done | rfl | (congr 1; omega), hide ⟨HS5.out.1.call ((Below.refl _ _).alloc (Nat.le_refl _) _), HS5.out.2.1.call ((Below.refl _ _).alloc (Nat.le_refl _) _), HS5.out.2.2.call ((Below.refl _ _).alloc (Nat.le_refl _) _)⟩⟩
            case measure => simp [intOf]; omega
          · clear hmid
            go_wp2
            all_goals first
              | (exfalso; omega)
              | skip
            go_roundw
            case rel => exact ⟨j + 1, by go_num, by omega, by rw [HST.out]; first | done | rfl | (congr 1; omega), hide ⟨HS5.out.1.call ((Below.refl _ _).alloc (Nat.le_refl _) _), HS5.out.2.1.call ((Below.refl _ _).alloc (Nat.le_refl _) _), HS5.out.2.2.call ((Below.refl _ _).alloc (Nat.le_refl _) _)⟩⟩
            case measure => simp [intOf]; omega
        · obtain rfl : j = n := by omega
          have hfin : ((dysL c lv s).take j).sum = s.b - s.a + 1 := by rw [List.take_of_length_le (by rw [dysL_len, HNN.out]; exact Nat.le_refl _), HDF.out.1]
          rw [hfin]
          have hBel := HS.out.1.2.2.2
          go_wp2
          all_goals first
            | (exfalso; omega)
            | (go_ret; exact ⟨ret_bool (by simp), by (repeat' exact bel)⟩)
  · have hE' : (meetsE c lv s != 0) = true := by simpa using hE
    have HDY := hide (fun w (h : c.name.size ≤ 1000) => rdays_no c lv s w h hE)
    have HMT := hide (fun w (h : c.name.size ≤ 1000) => meets_any_no c lv s w h hE)
    obtain ⟨E, hEE⟩ : ∃ E, meetsE c lv s = E := ⟨_, rfl⟩
    rw [hEE] at hE' HDY HMT
    clear hE hEE
    simp only [calV, spanV] at HDY HMT ⊢
    go_enter Tryz.func6, Tryz.ntmps6
    go_wp2_with fail
    refine (live21_any _).mono ?_
    rintro e w1 ⟨rfl, hb1⟩
    have HM1 := hide ((fmB_new c s w).call hb1)
    clear hb1
    obtain ⟨q0, q1, q2, q3, q4, q5, q6, q7, q8, q9, q10, q11, q12, q13⟩ := HM1.out.1
    obtain ⟨p0, p1⟩ := HM1.out.2.1
    have hz1 := HM1.out.2.2.1
    have hy1 : w.heap.size < w1.heap.size := by omega
    go_wp2_with fail
    refine (brief21_any c s _).mono ?_
    rintro e w2 ⟨⟨b, rfl, hsh⟩, hb2⟩
    have HSH := hide hsh
    have HM2 := hide (HM1.out.call hb2)
    clear hsh hb2 p0 p1
    clear q0 q1 q2 q3 q4 q5 q6 q7 q8 q9 q10 q11 q12 q13
    obtain ⟨q0, q1, q2, q3, q4, q5, q6, q7, q8, q9, q10, q11, q12, q13⟩ := HM2.out.1
    obtain ⟨p0, p1⟩ := HM2.out.2.1
    have hz2 := HM2.out.2.2.1
    have hy2 : w.heap.size < w2.heap.size := by omega
    cases b
    · have hBel := HM2.out.2.2.2
      go_wp2
      go_ret
      exact ⟨rfl, by (repeat' exact bel)⟩
    · have hnm : c.name.size ≤ 1000 := by have := (HSH.out rfl).1; omega
      go_wp2_with fail
      refine (HDY.out _ hnm).mono ?_
      rintro e w3 ⟨rfl, hb3⟩
      have HM3 := hide (HM2.out.call hb3)
      clear hb3 p0 p1
      clear q0 q1 q2 q3 q4 q5 q6 q7 q8 q9 q10 q11 q12 q13
      obtain ⟨q0, q1, q2, q3, q4, q5, q6, q7, q8, q9, q10, q11, q12, q13⟩ := HM3.out.1
      obtain ⟨p0, p1⟩ := HM3.out.2.1
      have hz3 := HM3.out.2.2.1
      have hy3 : w.heap.size < w3.heap.size := by omega
      go_wp2_with fail
      refine (HMT.out _ hnm).mono ?_
      rintro e w4 ⟨rfl, hb4⟩
      have HM4 := hide (HM3.out.call hb4)
      clear hb4 p0 p1
      clear q0 q1 q2 q3 q4 q5 q6 q7 q8 q9 q10 q11 q12 q13
      have hBel := HM4.out.2.2.2
      have hee : (E != E) = false := by simp
      go_wp2
      all_goals first
        | (exfalso; omega)
        | (go_ret; exact ⟨rfl, hBel⟩)
end Go.Proofs.YtamnccechaooaaaGreat
