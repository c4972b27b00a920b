/- The walk of RateSum. -/
import Derived.Test.YtamnccechaooaaaGreatRateS
import Derived.Test.YtamnccechaooaaaGreatLawRDays
import Derived.Test.YtamnccechaooaaaGreatBookD
namespace Go.Proofs.YtamnccechaooaaaGreat
open Go.RowKit Qd
set_option linter.unusedSimpArgs false
set_option linter.unusedVariables false

theorem unsAt_under {w w' : World} {K g cap : Nat} {l : List Un} (h : UnsAt w g cap l) (hb : Below K w w') (hg : g < K) : UnsAt w' g cap l := by
  refine ⟨h.1, ?_⟩
  rcases h.2 with h1 | ⟨g', cap', cur, he, h2, hg', h3⟩
  · exact .inl h1
  · cases he
    exact .inr ⟨g, cap, cur, rfl, h2, (hb.block g hg).trans hg', h3⟩
structure RsSt (c : Cal) (s : Sp) (S : List (Un × Int)) (D : List Int) (U : List Un) (L : List Int) (g g2 g3 cap G B : Nat) (v : Value) (w0 w : World) : Prop where
  fm : FmB c s B w0 w
  sl : ShrAt w g S
  dl : LongsAt w g2 D
  ul : UnsAt w g3 cap U
  own : w.ownsRow G 2 1 v L.length (intsC L)
  gs : G ≤ w.heap.size
  gg : g < G ∧ g2 < G ∧ g3 < G ∧ B + 1 < G
theorem RsSt.call {c : Cal} {s : Sp} {S : List (Un × Int)} {D : List Int} {U : List Un} {L : List Int} {g g2 g3 cap G B : Nat} {v : Value} {w0 w w' : World} (h : RsSt c s S D U L g g2 g3 cap G B v w0 w) (hb : Below w.heap.size w w') : RsSt c s S D U L g g2 g3 cap G B v w0 w' :=
  ⟨h.fm.call hb, h.sl.call hb, h.dl.call hb, h.ul.call hb, ownsI_call h.own hb, Nat.le_trans h.gs hb.size, h.gg⟩

set_option maxRecDepth 100000 in
set_option maxHeartbeats 6400000 in
theorem rs_walk (c : Cal) (hn : c.name.size ≤ 9223372036854775807) (lv a : Int) (s : Sp) (w : World) (ha : in64 a) :
    Calls Tryz.prog 4 #[calV c, .int .i64 lv, .int .i64 a, spanV s] w fun e w' => e = .returned (.bool true) ∧ Below w.heap.size w w' := by
  have HA := hide ha
  clear ha
  simp only [calV, spanV]
  go_enter Tryz.func4, Tryz.ntmps4
  go_wp2_with fail
  refine (live21_any _).mono ?_
  rintro e w1 ⟨rfl, hb1⟩
  have HM1 := hide ((fmB_new c s w).call hb1)
  clear hb1
  obtain ⟨q0, q1, q2, q3, q4, q5, q6, q7, q8, q9, q10, q11, q12, q13⟩ := HM1.out.1
  obtain ⟨p0, p1⟩ := HM1.out.2.1
  have hz1 := HM1.out.2.2.1
  have hy1 : w.heap.size < w1.heap.size := by omega
  go_wp2_with fail
  refine (brief21_any c s _).mono ?_
  rintro e w2 ⟨⟨b, rfl, hsh⟩, hb2⟩
  have HSH := hide hsh
  have HM2 := hide (HM1.out.call hb2)
  clear hsh hb2 p0 p1
  clear q0 q1 q2 q3 q4 q5 q6 q7 q8 q9 q10 q11 q12 q13
  obtain ⟨q0, q1, q2, q3, q4, q5, q6, q7, q8, q9, q10, q11, q12, q13⟩ := HM2.out.1
  obtain ⟨p0, p1⟩ := HM2.out.2.1
  have hz2 := HM2.out.2.2.1
  have hy2 : w.heap.size < w2.heap.size := by omega
  cases b
  · have hBel := HM2.out.2.2.2
    go_wp2
    go_ret
    exact ⟨rfl, by (repeat' exact bel)⟩
  · have hnm : c.name.size ≤ 1000 := by have := (HSH.out rfl).1; omega
    by_cases hE : meetsE c lv s = 0
    · obtain ⟨⟨s1, s2, s3, s4⟩, hlen⟩ := brief_len hE (HSH.out rfl).2
      have hdf := dys_facts hE
      have hpos : 0 < (dysL c lv s).sum := by rw [hdf.1]; omega
      have hx0 : ∀ x ∈ dysL c lv s, 0 ≤ x := fun x hx => by have := hdf.2 x hx; omega
      have HOG := hide (fun (i : Nat) (x : Int) hx => out_get (a := a) (ws := dysL c lv s) hpos (i := i) (x := x) hx)
      rw [hdf.1] at HOG
      have HIN := hide (fun (i : Nat) (N : Int) h => out_in (ws := dysL c lv s) HA.out hx0 hpos (i := i) (N := N) h)
      have HSU := hide (outV_sum (a := a) (ws := dysL c lv s) hpos)
      have HMD := hide (fun (x : Int) (w : World) (h : x ∈ dysL c lv s) => wmd_any a x (s.b - s.a + 1) w HA.out (hx0 x h) (by have := pos_sum hx0 x h; rw [hdf.1] at this; omega) (by omega) (by omega))
      have HMQ := hide (fun (x : Int) (h : x ∈ dysL c lv s) => muldiv_bd (n := s.b - s.a + 1) HA.out (hx0 x h) (by have := pos_sum hx0 x h; rw [hdf.1] at this; omega) (by omega))
      have HSP := hide (fun w => rsplit_yes c lv a s w hnm hE (by omega) HA.out)
      have HDY := hide (fun w => rdays_yes c lv s w hnm hE (by omega))
      have HMT := hide (fun w => meets_yes c lv s w hnm hE)
      have hn0 := (meets_chain hE).2.2.2.1
      obtain ⟨n, hnn⟩ : ∃ n, (meetsL c lv s).length = n := ⟨_, rfl⟩
      rw [hnn] at HSP HDY HMT hlen hn0
      have HNN := hide hnn
      simp only [calV, spanV] at HSP HDY HMT
      clear hE hdf hpos hnn hx0
      go_wp2_with fail
      refine (HSP.out _).mono ?_
      rintro e w3 ⟨⟨g, rfl, hS, hg⟩, hb3⟩
      have HM3 := hide (HM2.out.call hb3)
      have HS3 := hide hS
      clear hb3 p0 p1 hS
      clear q0 q1 q2 q3 q4 q5 q6 q7 q8 q9 q10 q11 q12 q13
      obtain ⟨q0, q1, q2, q3, q4, q5, q6, q7, q8, q9, q10, q11, q12, q13⟩ := HM3.out.1
      obtain ⟨p0, p1⟩ := HM3.out.2.1
      have hz3 := HM3.out.2.2.1
      have hy3 : w.heap.size < w3.heap.size := by omega
      go_wp2_with fail
      refine (HMT.out _).mono ?_
      rintro e w4 ⟨g3, cap, rfl, hU, hg3, hb4⟩
      have HM4 := hide (HM3.out.call hb4)
      have HS4 := hide (HS3.out.call hb4)
      have HU4 := hide hU
      have hzz4 := hb4.size
      clear hb4 p0 p1 hU HS3
      clear q0 q1 q2 q3 q4 q5 q6 q7 q8 q9 q10 q11 q12 q13
      obtain ⟨q0, q1, q2, q3, q4, q5, q6, q7, q8, q9, q10, q11, q12, q13⟩ := HM4.out.1
      obtain ⟨p0, p1⟩ := HM4.out.2.1
      have hz4 := HM4.out.2.2.1
      have hy4 : w.heap.size < w4.heap.size := by omega
      go_wp2_with fail
      refine (HDY.out _).mono ?_
      rintro e w5 ⟨⟨g2, rfl, hD, hg2⟩, hb5⟩
      have hzz := hb5.size
      have HS0 := hide (show RsSt c s (shL c lv a s) (dysL c lv s) (meetsL c lv s) [] g g2 g3 cap w5.heap.size w.heap.size (.slice none 0 0) w w5 from by
        have h1 := HM4.out.call hb5
        have h2 := HS4.out.call hb5
        refine ⟨h1, h2, hD, HU4.out.call hb5, World.ownsRow_nil _ _ _ _, Nat.le_refl _, ?_⟩
        have h3 := h1.2.2.1
        have h4 := h2.lt
        have h5 := hD.lt
        have h6 := (UnsAt.lt (HU4.out.call hb5) (by rw [HNN.out]; exact hn0)).1
        exact ⟨h4, h5, h6, h3⟩)
      clear hb5 p0 p1 hD HS4 HU4 hzz
      clear q0 q1 q2 q3 q4 q5 q6 q7 q8 q9 q10 q11 q12 q13
      obtain ⟨p0, p1⟩ := HS0.out.fm.2.1
      have hz5 := HS0.out.fm.2.2.1
      go_wp2_with fail
      all_goals first
        | (exfalso; omega)
        | skip
      clear p0 p1
      go_loopw [15, 98] (fun s15 s98 wr => ∃ j : Nat, s98 = .int .i64 j ∧ j ≤ n ∧ Hid (RsSt c s (shL c lv a s) (dysL c lv s) (meetsL c lv s) ((outV a (dysL c lv s)).take j) g g2 g3 cap w5.heap.size w.heap.size s15 w wr)) (fun _ s98 _ => (n + 5 - intOf s98).toNat)
      case atStart => exact ⟨0, rfl, Nat.zero_le _, HS0⟩
      case round =>
        obtain ⟨j, rfl, hj, HS⟩ := hrel
        by_cases hlt : j < n
        · obtain ⟨u, hu⟩ : ∃ u, (meetsL c lv s)[j]? = some u := ⟨_, List.getElem?_eq_getElem (by rw [HNN.out]; exact hlt)⟩
          obtain ⟨dj, hdj⟩ : ∃ x, (dysL c lv s)[j]? = some x := ⟨_, List.getElem?_eq_getElem (by rw [dysL_len, HNN.out]; exact hlt)⟩
          obtain ⟨N, hN, hq⟩ := HOG.out j dj hdj
          have h64 := HIN.out j N hN
          have hqb := HMQ.out dj (List.mem_of_getElem? hdj)
          have HMJ := hide (fun w => HMD.out dj w (List.mem_of_getElem? hdj))
          obtain ⟨Q, hQ⟩ : ∃ Q, a * dj / (s.b - s.a + 1) = Q := ⟨_, rfl⟩
          obtain ⟨R, hR⟩ : ∃ R, a * dj % (s.b - s.a + 1) = R := ⟨_, rfl⟩
          rw [hQ] at hqb
          rw [hQ, hR] at hq HMJ
          unfold in64 at hqb
          obtain ⟨hqb1, hqb2⟩ := hqb
          have HJ := hide (And.intro (shL_get hu hN) (And.intro hN (And.intro hdj hu)))
          clear hu hdj hQ hR
          obtain ⟨a0, a1, a2, a3⟩ := HS.out.sl.cell HJ.out.1
          have c1 := HS.out.dl.cell HJ.out.2.2.1
          have hgs := HS.out.gs
          obtain ⟨hg1, hg4, hg5, hg6⟩ := HS.out.gg
          have hgl1 : g < wr.heap.size := by omega
          have hgl2 : g2 < wr.heap.size := by omega
          have hi1 : (0 : Int) ≤ (j : Int) := by omega
          have hi3 : (j : Int) < (n : Int) := by omega
          simp only at a3
          unfold in64 at h64
          obtain ⟨h1, h2⟩ := h64
          have HTK := hide (show (outV a (dysL c lv s)).take (j + 1) = (outV a (dysL c lv s)).take j ++ [N] by rw [List.take_add_one, HJ.out.2.1]; rfl)
          have hlk : ((outV a (dysL c lv s)).take j).length ≤ 2000 := by rw [List.length_take]; omega
          obtain ⟨LT, hLT⟩ : ∃ x, (outV a (dysL c lv s)).take j = x := ⟨_, rfl⟩
          rw [hLT] at HS HTK hlk
          go_wp2_with fail
          refine (HMJ.out _).mono ?_
          rintro e w6 ⟨rfl, hb6⟩
          have hz6 := hb6.size
          simp at hz6
          have K := hide (BlkIs.call (BlkIs.new wr #[.int .i64 u.lv, .int .i64 u.yr, .int .i64 u.ix, .int .i64 N] 39) hb6)
          have HS6 := hide ((HS.out.call ((Below.refl _ _).alloc (Nat.le_refl _) (.cells #[.int .i64 u.lv, .int .i64 u.yr, .int .i64 u.ix, .int .i64 N] 39))).call hb6)
          have hgl3 : g3 < w6.heap.size := by omega
          have hgl4 : wr.heap.size < w6.heap.size := by omega
          clear hb6 a0 a1 a2 a3 c1
          have e0 := K.out.cell 0
          have e1 := K.out.cell 1
          have e2 := K.out.cell 2
          have e3 := K.out.cell 3
          simp at e0 e1 e2 e3
          obtain ⟨a0, a1, a2⟩ := UnsAt.cell HS6.out.ul HJ.out.2.2.2
          have hub : unB u.lv u.yr u.ix u.lv u.yr u.ix = true := by simp [unB]
          have hml : LT.length + [N].length ≤ 1000000 := by simp; omega
          rcases hq with hq | ⟨hq, hr⟩
          · have hq1 : (N != Q) = false := by simp [hq]
            clear hq
            go_wp2_with fail
            go_quiet (fail)
            go_wp2_with ((at_builtin; refine app_nums rfl _ _ rfl w5.heap.size _ _ LT [N] rfl (ownsI_call HS6.out.own ?hw) rfl (.inr ⟨_, _, by simp, rfl, ?hl, ?hc⟩) hml ?hz ?_))
            case hw => (repeat' exact bel)
            case hl => simp
            case hc =>
              intro i y hy
              match i, hy with
              | 0, hy => simp at hy; subst hy; have h1 := heap_alloc_new (w6.drewN nq) (.cells #[.int .i64 N] 2); simp at h1; simp [World.cell?, h1]
            case hz => have := HS6.out.gs; simp; omega
            intro v' w' hown' hbel hkeep
            have HS7 := hide (show RsSt c s (shL c lv a s) (dysL c lv s) (meetsL c lv s) ((outV a (dysL c lv s)).take (j + 1)) g g2 g3 cap w5.heap.size w.heap.size v' w w' from by
              rw [HTK.out]
              have h6 := HS6.out.call (show Below w6.heap.size w6 ((w6.drewN nq).alloc (.cells #[.int .i64 N] 2)) by (repeat' exact bel))
              have hlB := h6.gg
              refine ⟨⟨calAt_below hbel (by omega) h6.fm.1, spAt_below hbel (by omega) h6.fm.2.1, by have := hbel.size; have := h6.gs; omega, h6.fm.2.2.2.trans (hbel.mono (by omega))⟩, ?_, ?_, ?_, by simpa using hown', Nat.le_trans h6.gs hbel.size, h6.gg⟩
              · exact h6.sl.below hbel h6.gg.1
              · exact h6.dl.below hbel h6.gg.2.1
              · exact unsAt_under h6.ul hbel h6.gg.2.2.1)
            clear hown' hbel hkeep
            go_wp2
            go_roundw
            case rel => exact ⟨j + 1, by go_num, by omega, HS7⟩
            case measure => simp [intOf]; omega
          · have hq1 : (N != Q) = true := by simp [hq]; omega
            have hq2 : (R == 0) = false := by simp; omega
            have hq3 : IntKind.i64.wrap (N - 1) = N - 1 := by rw [IntKind.wrap_i64]; omega
            have hq4 : (N - 1 != Q) = false := by simp; omega
            clear hq hr
            go_wp2_with fail
            go_quiet (fail)
            go_wp2_with ((at_builtin; refine app_nums rfl _ _ rfl w5.heap.size _ _ LT [N] rfl (ownsI_call HS6.out.own ?hw) rfl (.inr ⟨_, _, by simp, rfl, ?hl, ?hc⟩) hml ?hz ?_))
            case hw => (repeat' exact bel)
            case hl => simp
            case hc =>
              intro i y hy
              match i, hy with
              | 0, hy => simp at hy; subst hy; have h1 := heap_alloc_new (w6.drewN nq) (.cells #[.int .i64 N] 2); simp at h1; simp [World.cell?, h1]
            case hz => have := HS6.out.gs; simp; omega
            intro v' w' hown' hbel hkeep
            have HS7 := hide (show RsSt c s (shL c lv a s) (dysL c lv s) (meetsL c lv s) ((outV a (dysL c lv s)).take (j + 1)) g g2 g3 cap w5.heap.size w.heap.size v' w w' from by
              rw [HTK.out]
              have h6 := HS6.out.call (show Below w6.heap.size w6 ((w6.drewN nq).alloc (.cells #[.int .i64 N] 2)) by (repeat' exact bel))
              have hlB := h6.gg
              refine ⟨⟨calAt_below hbel (by omega) h6.fm.1, spAt_below hbel (by omega) h6.fm.2.1, by have := hbel.size; have := h6.gs; omega, h6.fm.2.2.2.trans (hbel.mono (by omega))⟩, ?_, ?_, ?_, by simpa using hown', Nat.le_trans h6.gs hbel.size, h6.gg⟩
              · exact h6.sl.below hbel h6.gg.1
              · exact h6.dl.below hbel h6.gg.2.1
              · exact unsAt_under h6.ul hbel h6.gg.2.2.1)
            clear hown' hbel hkeep
            go_wp2
            go_roundw
            case rel => exact ⟨j + 1, by go_num, by omega, HS7⟩
            case measure => simp [intOf]; omega
        · have hfin : (outV a (dysL c lv s)).take j = outV a (dysL c lv s) := List.take_of_length_le (by rw [outV_len, dysL_len, HNN.out]; omega)
          rw [hfin] at HS
          have HN := hide (owns_nums HS.out.own)
          have h64 := hide (show ∀ y ∈ outV a (dysL c lv s), in64 y from fun y hy => by
            obtain ⟨k, hk⟩ := List.mem_iff_getElem?.1 hy
            exact HIN.out k y hk)
          have hlen2 := hide (show (outV a (dysL c lv s)).length ≤ 1000000 by rw [outV_len, dysL_len, HNN.out]; omega)
          have HFY := hide (fit_yes HA.out)
          have hBel := HS.out.fm.2.2.2
          clear hfin
          go_wp2_with fail
          refine (wsum_any _ (outV a (dysL c lv s)) _ HN.out h64.out hlen2.out).mono ?_
          rintro e w6 ⟨rfl, hb6⟩
          rw [HSU.out, HFY.out.1, HFY.out.2]
          have hBel2 : Below w.heap.size w w6 := hBel.trans (hb6.mono hBel.size)
          clear hb6
          go_wp2
          go_ret
          exact ⟨ret_bool (by simp), hBel2⟩
    · have hEE : (meetsE c lv s != 0) = true := by simpa using hE
      have HSP := hide (fun w => rsplit_no c lv a s w hnm hE)
      have HDY := hide (fun w => rdays_no c lv s w hnm hE)
      have HMT := hide (fun w => meets_any_no c lv s w hnm hE)
      obtain ⟨E, hE2⟩ : ∃ E, meetsE c lv s = E := ⟨_, rfl⟩
      rw [hE2] at hEE HSP HDY HMT
      simp only [calV, spanV] at HSP HDY HMT
      clear hE hE2
      go_wp2_with fail
      refine (HSP.out _).mono ?_
      rintro e w3 ⟨rfl, hb3⟩
      have HM3 := hide (HM2.out.call hb3)
      clear hb3 p0 p1
      clear q0 q1 q2 q3 q4 q5 q6 q7 q8 q9 q10 q11 q12 q13
      obtain ⟨q0, q1, q2, q3, q4, q5, q6, q7, q8, q9, q10, q11, q12, q13⟩ := HM3.out.1
      obtain ⟨p0, p1⟩ := HM3.out.2.1
      have hz3 := HM3.out.2.2.1
      have hy3 : w.heap.size < w3.heap.size := by omega
      go_wp2_with fail
      refine (HMT.out _).mono ?_
      rintro e w4 ⟨rfl, hb4⟩
      have HM4 := hide (HM3.out.call hb4)
      clear hb4 p0 p1
      clear q0 q1 q2 q3 q4 q5 q6 q7 q8 q9 q10 q11 q12 q13
      obtain ⟨q0, q1, q2, q3, q4, q5, q6, q7, q8, q9, q10, q11, q12, q13⟩ := HM4.out.1
      obtain ⟨p0, p1⟩ := HM4.out.2.1
      have hz4 := HM4.out.2.2.1
      have hy4 : w.heap.size < w4.heap.size := by omega
      go_wp2_with fail
      refine (HDY.out _).mono ?_
      rintro e w5 ⟨rfl, hb5⟩
      have HM5 := hide (HM4.out.call hb5)
      clear hb5 p0 p1
      clear q0 q1 q2 q3 q4 q5 q6 q7 q8 q9 q10 q11 q12 q13
      have hBel := HM5.out.2.2.2
      have hee : (E == E) = true := by simp
      go_wp2_with fail
      go_wp2
      all_goals first
        | (exfalso; omega)
        | (go_ret; exact ⟨ret_bool (by simp), hBel⟩)
end Go.Proofs.YtamnccechaooaaaGreat
