/- The walk of RateOne. -/
import Derived.Test.YtamnccechaooaaaGreatRateS
namespace Go.Proofs.YtamnccechaooaaaGreat
open Go.RowKit Qd
set_option linter.unusedSimpArgs false
set_option linter.unusedVariables false

def CmB (c : Cal) (B : Nat) (w0 w : World) : Prop := CalAt w B c ∧ B < w.heap.size ∧ Below B w0 w
theorem CmB.call {c : Cal} {B : Nat} {w0 w w' : World} (h : CmB c B w0 w) (hb : Below w.heap.size w w') : CmB c B w0 w' := ⟨calAt_below hb h.2.1 h.1, Nat.lt_of_lt_of_le h.2.1 hb.size, h.2.2.trans (hb.mono (Nat.le_of_lt h.2.1))⟩
theorem cmB_new (c : Cal) (w : World) : CmB c w.heap.size w (w.alloc (calObj c)) := ⟨calAt_new w c, by simp, by (repeat' exact bel)⟩

set_option maxRecDepth 100000 in
set_option maxHeartbeats 6400000 in
theorem ro_walk (c : Cal) (hn : c.name.size ≤ 9223372036854775807) (lv a d n : Int) (w : World) (ha : in64 a) :
    Calls Tryz.prog 3 #[calV c, .int .i64 lv, .int .i64 a, .int .i64 d, .int .i64 n] w fun e w' => e = .returned (.bool true) ∧ Below w.heap.size w w' := by
  have HA := hide ha
  clear ha
  simp only [calV]
  go_enter Tryz.func3, Tryz.ntmps3
  go_wp2_with fail
  refine (live21_any _).mono ?_
  rintro e w1 ⟨rfl, hb1⟩
  have HM1 := hide ((cmB_new c w).call hb1)
  clear hb1
  obtain ⟨q0, q1, q2, q3, q4, q5, q6, q7, q8, q9, q10, q11, q12, q13⟩ := HM1.out.1
  have hz1 := HM1.out.2.1
  by_cases h100 : c.name.size ≤ 100
  · by_cases hn0 : n < 0
    · have hBel := HM1.out.2.2
      go_wp2
      all_goals first
        | (exfalso; omega)
        | (go_ret; exact ⟨rfl, by (repeat' exact bel)⟩)
    · by_cases hn4 : 400 < n
      · have hBel := HM1.out.2.2
        go_wp2
        all_goals first
          | (exfalso; omega)
          | (go_ret; exact ⟨rfl, by (repeat' exact bel)⟩)
      · have hnm : c.name.size ≤ 1000 := by omega
        have HFD := hide (fun w => fday_any c d lv w hnm)
        simp only [calV] at HFD
        by_cases hE : fdE c d lv = 0
        · have HE := hide hE
          obtain ⟨u, hu⟩ : ∃ u, fdU c d lv = u := ⟨_, rfl⟩
          have hd := (fd_ok hE).2.2.2.2.1
          have hin := fd_sp hE
          have hU : unitE c u = 0 := by rw [← hu]; obtain ⟨i, e1, h1, _⟩ := fd_in hE; rw [e1]; exact un_here (fd_ok hE).2.2.2.2.2.2 h1
          rw [hu] at hin
          have HON := hide (fun (e : Int) (h1 : d ≤ e) (h2 : e ≤ (spV c u).b) => one_unit (a := a) hE h1 (by rw [hu]; exact h2))
          rw [hu] at HON
          rw [hE, hu] at HFD
          have HUS := hide (fun w => uspan_any c u w hnm)
          rw [hU] at HUS
          obtain ⟨t, ht⟩ : ∃ t, spV c u = t := ⟨_, rfl⟩
          rw [ht] at HON HUS hin
          have htb : t.b ≤ 3068038 := by
            have hA := (un_lv hU).2.2.2.1
            have hab := cutAB hU
            have h2 := dayW_bd c u.yr hA (cutB c u) hab.2
            rw [← ht, sp_get hU]
            simp only
            omega
          simp [isB] at hd
          obtain ⟨hd1, hd2⟩ := hd
          obtain ⟨hin1, hin2⟩ := hin
          simp only [calV, unitV, spanV] at HFD HUS
          clear hE hu hU ht
          go_wp2_with fail
          all_goals first
            | (exfalso; omega)
            | skip
          refine (HFD.out _).mono ?_
          rintro e w2 ⟨rfl, hb2⟩
          have HM2 := hide (HM1.out.call hb2)
          have hB2 := HM2.out.2.1
          clear hb2
          clear q0 q1 q2 q3 q4 q5 q6 q7 q8 q9 q10 q11 q12 q13
          obtain ⟨q0, q1, q2, q3, q4, q5, q6, q7, q8, q9, q10, q11, q12, q13⟩ := HM2.out.1
          go_wp2_with fail
          refine (HUS.out _).mono ?_
          rintro e w3 ⟨rfl, hb3⟩
          have HM3 := hide ((HM2.out.call ((Below.refl _ _).alloc (Nat.le_refl _) (unObj u))).call hb3)
          have HU3 := hide (show UnAt w3 w2.heap.size u from unAt_below hb3 (by simp) (unAt_fresh w2 u))
          have hu3 : w2.heap.size < w3.heap.size := by have := hb3.size; simp at this; omega
          have hz3 := HM3.out.2.1
          clear hb3
          clear q0 q1 q2 q3 q4 q5 q6 q7 q8 q9 q10 q11 q12 q13
          obtain ⟨q0, q1, q2, q3, q4, q5, q6, q7, q8, q9, q10, q11, q12, q13⟩ := HM3.out.1
          obtain ⟨e, he⟩ : ∃ e, (if t.b < d + n then t.b else d + n) = e := ⟨_, rfl⟩
          have hde : d ≤ e ∧ e ≤ t.b := by rw [← he]; split <;> omega
          obtain ⟨o1, o2, o3⟩ := HON.out e hde.1 hde.2
          have HSP := hide (fun w => rsplit_yes c lv a ⟨d, e⟩ w hnm o1 (by rw [o2]; simp) HA.out)
          rw [o2, o3] at HSP
          simp only [calV, spanV, List.length_cons, List.length_nil, Nat.zero_add] at HSP
          clear o1 o2 o3 hde
          go_wp2_with fail
          refine (HSP.out _).mono ?_
          rintro ee w4 ⟨⟨g, rfl, hsh, hg⟩, hb4⟩
          have HM4 := hide ((HM3.out.call ((Below.refl _ _).alloc (Nat.le_refl _) (spObj t))).call hb4)
          have HU4 := hide (show UnAt w4 w2.heap.size u from unAt_below hb4 (by simp; omega) (unAt_alloc HU3.out hu3 _))
          have hu4 : w2.heap.size < w4.heap.size := by have := hb4.size; simp at this; omega
          obtain ⟨a0, a1, a2, a3⟩ := hsh.cell (i := 0) rfl
          simp at a0 a1 a2 a3
          have hgl := hsh.lt
          obtain ⟨u0, u1, u2⟩ := HU4.out
          have hbb := shB_same u.lv u.yr u.ix a
          clear hb4 hsh
          clear q0 q1 q2 q3 q4 q5 q6 q7 q8 q9 q10 q11 q12 q13
          have hBel := HM4.out.2.2
          go_wp2_with fail
          go_quiet (fail)
          go_wp2
          go_ret
          exact ⟨rfl, by (repeat' exact bel)⟩
        · have hEE : (fdE c d lv != 0) = true := by simpa using hE
          have HSP := hide (fun w => rsplit_no c lv a ⟨d, d⟩ w hnm (by rw [meets_day]; exact hE))
          rw [meets_day] at HSP
          obtain ⟨E, hE2⟩ : ∃ E, fdE c d lv = E := ⟨_, rfl⟩
          obtain ⟨u, hu⟩ : ∃ u, fdU c d lv = u := ⟨_, rfl⟩
          rw [hE2] at hEE HSP
          rw [hE2, hu] at HFD
          simp only [calV, unitV, spanV] at HFD HSP
          clear hE hE2 hu
          go_wp2_with fail
          all_goals first
            | (exfalso; omega)
            | skip
          refine (HFD.out _).mono ?_
          rintro e w2 ⟨rfl, hb2⟩
          have HM2 := hide (HM1.out.call hb2)
          have hB2 := HM2.out.2.1
          clear hb2
          clear q0 q1 q2 q3 q4 q5 q6 q7 q8 q9 q10 q11 q12 q13
          obtain ⟨q0, q1, q2, q3, q4, q5, q6, q7, q8, q9, q10, q11, q12, q13⟩ := HM2.out.1
          go_wp2_with fail
          refine (HSP.out _).mono ?_
          rintro e w3 ⟨rfl, hb3⟩
          have HM3 := hide ((HM2.out.call ((Below.refl _ _).alloc (Nat.le_refl _) (unObj u))).call hb3)
          clear hb3
          clear q0 q1 q2 q3 q4 q5 q6 q7 q8 q9 q10 q11 q12 q13
          have hBel := HM3.out.2.2
          have hss : (E == E) = true := by simp
          go_wp2
          all_goals first
            | (exfalso; omega)
            | (go_ret; exact ⟨ret_bool (by simp), by (repeat' exact bel)⟩)
  · have hBel := HM1.out.2.2
    go_wp2
    all_goals first
      | (exfalso; omega)
      | (go_ret; exact ⟨rfl, by (repeat' exact bel)⟩)
end Go.Proofs.YtamnccechaooaaaGreat
