/- The walk of VaryMonths. -/
import Derived.Test.YtamnccechaooaaaGreatBookW
import Derived.Test.YtamnccechaooaaaGreatLawVDiff
namespace Go.Proofs.YtamnccechaooaaaGreat
open Go.RowKit Qd
set_option linter.unusedSimpArgs false
set_option linter.unusedVariables false

/-- By months a unit that is no week is compared with the unit of the same number. -/
theorem month_row {c : Cal} {u : Un} {k : Int} {P : List Po} {A : List Ac} {Z : Parts} (h6 : c.kind = 6) (h5 : ¬ u.lv = 5) (h : rwE c u k P A Z = 0) :
    (-9996 ≤ u.yr + k ∧ u.yr + k ≤ 9996) ∧ TE c P A Z ⟨u.lv, u.yr + k, u.ix⟩ = 0 ∧ TV c P A Z ⟨u.lv, u.yr + k, u.ix⟩ = thV c u k P A Z ∧ thOk c u k P A Z = true := by
  obtain ⟨hT, _, _, hcase⟩ := row_facts h
  obtain ⟨hU, hC, _, _, _⟩ := T_zero hT
  obtain ⟨hf, l1, l5, hA, hx, hi⟩ := un_lv hU
  obtain ⟨hok, hk, _, _, hy1, hy2, _⟩ := frame_ok hf
  have hyb := ok_years hk
  have hr : c.first ≤ u.yr + k ∧ u.yr + k ≤ c.last := by
    by_cases hr : c.first ≤ u.yr + k ∧ u.yr + k ≤ c.last
    · exact hr
    · have e : twE c u k = 11 := by rw [twE, if_pos hU, if_neg hr]
      rcases hcase with ⟨h1, _⟩ | ⟨h1, _⟩ <;> rw [e] at h1 <;> cases h1
  have hV : unitE c ⟨u.lv, u.yr + k, u.ix⟩ = 0 := mon_same hU ⟨hr.1, hr.2⟩ h5
  obtain ⟨_, hlen, hin⟩ := wks_run hV
  have hL0 : twL0 c u k = wksL c ⟨u.lv, u.yr + k, u.ix⟩ := by
    unfold twL0 monthL
    rw [if_pos h6, if_neg h5]
  have hE : twE c u k = 0 := by
    rw [twE, if_pos hU, if_pos hr, hL0, if_pos hin, if_neg (by omega)]
  have hL : twL c u k = wksL c ⟨u.lv, u.yr + k, u.ix⟩ := by rw [twL, if_pos hE, hL0]
  have hO : thOk c u k P A Z = true := by
    rcases hcase with ⟨_, h1⟩ | ⟨h1, _⟩
    · exact h1
    · rw [hE] at h1; cases h1
  have hts : totsE c P A Z (wksL c ⟨u.lv, u.yr + k, u.ix⟩) = 0 := by
    unfold thOk at hO
    rw [hL] at hO
    simp at hO
    exact hO.2
  have hall := tots_all hts
  have hp : Z.pe (u.yr + k) = 0 := by
    cases hl : wksL c ⟨u.lv, u.yr + k, u.ix⟩ with
    | nil => rw [hl] at hlen; simp at hlen
    | cons x l =>
      have hm : x ∈ wksL c ⟨u.lv, u.yr + k, u.ix⟩ := by rw [hl]; simp
      have h1 := (T_zero (hall x hm)).2.2.1
      rw [(wks_in hV hm).2.1] at h1
      exact h1
  have hS : thS c u k P A Z = (totL c ⟨u.lv, u.yr + k, u.ix⟩ P (Z.f (u.yr + k))).sum := by
    rw [thS, hL, ← tot_wks hV P (Z.f (u.yr + k))]
    refine map_eq _ _ _ fun x hx => ?_
    have := (T_zero (hall x hx)).2.2.2.2
    rw [this, (wks_in hV hx).2.1]
  have hth : thE c u k P A Z = 0 := by
    unfold rwE at h
    rw [if_pos hT] at h
    split at h
    · rename_i h1; exact h1
    · rename_i h1; exact absurd h h1
  rw [thE, if_neg (by rw [hE]; omega), if_pos hE, hL, if_pos hts, hS] at hth
  obtain ⟨t1, t2⟩ := T_ok (Z := Z) hV hC hp
  refine ⟨by omega, by rw [t1]; exact hth, ?_, hO⟩
  rw [t2, thV, if_pos hO, hS]

set_option maxRecDepth 100000 in
set_option maxHeartbeats 6400000 in
theorem vmo_walk (c : Cal) (hn : c.name.size ≤ 9223372036854775807) (u : Un) (k : Int) (v1 v2 : Value) (P : List Po) (A : List Ac) (w : World) (hP : Posts w v1 P) (hA : Accs w v2 A) (hp : ∀ x ∈ P, PoWf x) (ha : ∀ x ∈ A, AcWf x) (hl1 : P.length ≤ 9223372036854775807) (hl2 : A.length ≤ 9223372036854775807) :
    Calls Tryz.prog 17 #[calV c, unitV u, .int .i64 k, .agg #[v1, v2]] w fun e w' => e = .returned (.bool true) ∧ Below w.heap.size w w' := by
  have HP := hide hP
  have HA := hide hA
  have HW := hide (And.intro (fun x h => (hp x h).2) (fun x h => (ha x h).2.2))
  have H0 := hide (ttSt_new c u v1 v2 w)
  clear hp ha
  obtain ⟨ad1, cap1, rfl, _⟩ := hP
  obtain ⟨ad2, cap2, rfl, _⟩ := hA
  simp only [calV, unitV]
  go_enter Tryz.func17, Tryz.ntmps17
  go_wp2_with fail
  refine (live23_any _).mono ?_
  rintro e w1 ⟨rfl, hb1⟩
  have HS1 := hide (H0.out.call hb1)
  clear hb1
  obtain ⟨⟨q0, q1, q2, q3, q4, q5, q6, q7, q8, q9, q10, q11, q12, q13⟩, ⟨u0, u1, u2⟩, ⟨k0, k1⟩, hsz, hBel⟩ := HS1.out.cells
  have hy1 : w.heap.size < w1.heap.size := by omega
  go_wp2_with fail
  refine (few_any c P A _ _ _ (HP.out.call HS1.out.2.2.2.2) (HA.out.call HS1.out.2.2.2.2) hn hl1 hl2).mono ?_
  rintro e w2 ⟨rfl, hb2⟩
  have HS2 := hide (HS1.out.call hb2)
  clear hb2 q0 q1 q2 q3 q4 q5 q6 q7 q8 q9 q10 q11 q12 q13 u0 u1 u2 k0 k1 hsz hBel hy1
  cases hF : fewB c P A
  · have hBel := HS2.out.2.2.2.2
    go_wp2
    go_ret
    exact ⟨rfl, hBel⟩
  obtain ⟨hf1, _, _, hf4⟩ := few_out hF
  have hBel := HS2.out.2.2.2.2
  have HBK := hide (bookF c P A (.slice ad2 A.length cap2) hF HW.out.1 HW.out.2)
  have hnm : c.name.size ≤ 1000 := by omega
  clear hF hf4
  obtain ⟨⟨q0, q1, q2, q3, q4, q5, q6, q7, q8, q9, q10, q11, q12, q13⟩, ⟨u0, u1, u2⟩, ⟨k0, k1⟩, hsz, _⟩ := HS2.out.cells
  have hy1 : w.heap.size < w2.heap.size := by omega
  have hy2 : w.heap.size + 1 < w2.heap.size := by omega
  by_cases h6 : c.kind = 6
  rotate_left
  · have h6b : (c.kind != 6) = true := by simpa using h6
    clear h6
    go_wp2
    all_goals first
      | (exfalso; omega)
      | (go_ret; exact ⟨rfl, hBel⟩)
  by_cases h5 : u.lv = 5
  · have h6b : (c.kind != 6) = false := by simp [h6]
    have h5b : (u.lv == 5) = true := by simpa using h5
    clear h6 h5
    go_wp2
    all_goals first
      | (exfalso; omega)
      | (go_ret; exact ⟨rfl, hBel⟩)
  have h6b : (c.kind != 6) = false := by simp [h6]
  have h5b : (u.lv == 5) = false := by simpa using h5
  have H65 := hide (And.intro h6 h5)
  clear h6 h5
  by_cases hk1 : k < -400
  · go_wp2
    all_goals first
      | (exfalso; omega)
      | (go_ret; exact ⟨rfl, hBel⟩)
  by_cases hk2 : 400 < k
  · go_wp2
    all_goals first
      | (exfalso; omega)
      | (go_ret; exact ⟨rfl, hBel⟩)
  go_wp2_with fail
  all_goals first
    | (exfalso; omega)
    | skip
  refine (vrow_any c u k P A (ZA c A) _ _ _ hnm (HP.out.call HS2.out.2.2.2.2) (HA.out.call HS2.out.2.2.2.2) HBK.out).mono ?_
  rintro e w3 ⟨rfl, hb3⟩
  have HS3 := hide (HS2.out.call hb3)
  clear hb3 q0 q1 q2 q3 q4 q5 q6 q7 q8 q9 q10 q11 q12 q13 u0 u1 u2 k0 k1 hsz hBel hy1
  by_cases hE : rwE c u k P A (ZA c A) = 0
  rotate_left
  · have HV := hide (show rwV c u k P A (ZA c A) = ⟨⟨0, 0, 0⟩, 0, 0, 0, false⟩ by rw [rwV, if_neg hE])
    have hub : (rwE c u k P A (ZA c A) != 0) = true := by simpa using hE
    have hrb := rwB_same 0 0 0 0 0 0 false
    have hBel := HS3.out.2.2.2.2
    have hsz := HS3.out.2.2.2.1
    have hle : w.heap.size ≤ w3.heap.size := by omega
    clear hE
    rw [HV.out]
    simp only [rowCs]
    go_wp2
    go_ret
    exact ⟨ret_bool (by simp), by (repeat' exact bel)⟩
  obtain ⟨hyk, m1, m2, m3⟩ := month_row H65.out.1 H65.out.2 hE
  have HBT := hide (fun W (h1 : Posts W (.slice ad1 P.length cap1) P) (h2 : Accs W (.slice ad2 A.length cap2) A) => btotal_bk c ⟨u.lv, u.yr + k, u.ix⟩ P A (ZA c A) _ _ W hnm h1 h2 HBK.out)
  rw [m1, m2] at HBT
  rw [rwV, if_pos hE, hE, m3]
  obtain ⟨X, hX⟩ : ∃ X, TV c P A (ZA c A) u = X := ⟨_, rfl⟩
  obtain ⟨Y, hY⟩ : ∃ Y, thV c u k P A (ZA c A) = Y := ⟨_, rfl⟩
  rw [hY] at HBT
  rw [hX, hY]
  simp only [rowCs, calV, unitV, Bool.not_true] at HBT ⊢
  have hkw : IntKind.i64.wrap (u.yr + k) = u.yr + k := by rw [IntKind.wrap_i64]; omega
  clear hE m1 m2 m3 hX hY
  obtain ⟨⟨q0, q1, q2, q3, q4, q5, q6, q7, q8, q9, q10, q11, q12, q13⟩, ⟨u0, u1, u2⟩, ⟨k0, k1⟩, hsz, hBel⟩ := HS3.out.cells
  have hy1 : w.heap.size < w3.heap.size := by omega
  have hy2 : w.heap.size + 1 < w3.heap.size := by omega
  have hy3 : w.heap.size + 1 + 1 < w3.heap.size := by omega
  go_wp2_with fail
  obtain ⟨R, hR⟩ : ∃ R : Array Value, #[.int .i64 u.lv, .int .i64 u.yr, .int .i64 u.ix, .int .i64 X, .int .i64 Y, .int .i64 (X - Y), .bool false] = R := ⟨_, rfl⟩
  rw [hR]
  have hbw : Below w.heap.size w ((w3.alloc (.cells R 86)).alloc (.cells #[.int .i64 u.lv, .int .i64 (u.yr + k), .int .i64 u.ix] 27)) := (hBel.alloc (by omega) _).alloc (by simp; omega) _
  refine (HBT.out _ (HP.out.call hbw) (HA.out.call hbw)).mono ?_
  rintro e w4 ⟨rfl, hb4⟩
  have K9 := hide (BlkIs.call ((BlkIs.new w3 R 86).alloc (.cells #[.int .i64 u.lv, .int .i64 (u.yr + k), .int .i64 u.ix] 27)) hb4)
  have hBel4 : Below w.heap.size w w4 := hbw.trans (hb4.mono hbw.size)
  clear hb4 hbw q0 q1 q2 q3 q4 q5 q6 q7 q8 q9 q10 q11 q12 q13 u0 u1 u2 k0 k1 hsz hBel hy1 hy2 hy3
  rw [← hR] at K9
  clear hR
  have c4 := K9.out.cell 4
  have c6 := K9.out.cell 6
  have hz9 := K9.out.lt
  simp at c4 c6
  go_wp2
  go_ret
  exact ⟨ret_bool (by simp), hBel4⟩
end Go.Proofs.YtamnccechaooaaaGreat
