/- The walk of VaryDiff. -/
import Derived.Test.YtamnccechaooaaaGreatMBt
import Derived.Test.YtamnccechaooaaaGreatVaryE
import Derived.Test.YtamnccechaooaaaGreatRowB
namespace Go.Proofs.YtamnccechaooaaaGreat
open Go.RowKit Qd
set_option linter.unusedSimpArgs false
set_option linter.unusedVariables false

theorem row_facts {c : Cal} {u : Un} {k : Int} {P : List Po} {A : List Ac} {Z : Parts} (h : rwE c u k P A Z = 0) : TE c P A Z u = 0 ∧ fitE (TV c P A Z u - thV c u k P A Z) = 0 ∧ in64 (TV c P A Z u - thV c u k P A Z) ∧ ((twE c u k = 0 ∧ thOk c u k P A Z = true) ∨ (twE c u k = 12 ∧ thOk c u k P A Z = false ∧ thV c u k P A Z = 0)) := by
  unfold rwE at h
  split at h
  · rename_i h1
    split at h
    · rename_i h2
      refine ⟨h1, h, ?_, ?_⟩
      · by_cases hi : in64 (TV c P A Z u - thV c u k P A Z)
        · exact hi
        · rw [(fit_no hi).2] at h; cases h
      · unfold thE at h2
        split at h2
        · rename_i h3
          have h4 : thOk c u k P A Z = false := by simp [thOk, h3]
          exact .inr ⟨h3, h4, by simp [thV, h4]⟩
        · split at h2
          · rename_i h3 h4
            split at h2
            · rename_i h5; exact .inl ⟨h4, by simp [thOk, h4, h5]⟩
            · rename_i h5; exact absurd h2 h5
          · rename_i h3 h4; exact absurd h2 h4
    · rename_i h2; exact absurd h h2
  · rename_i h1; exact absurd h h1

set_option maxRecDepth 100000 in
set_option maxHeartbeats 6400000 in
theorem vdf_walk (c : Cal) (hn : c.name.size ≤ 9223372036854775807) (u : Un) (k : Int) (v1 v2 : Value) (P : List Po) (A : List Ac) (w : World) (hP : Posts w v1 P) (hA : Accs w v2 A) (hp : ∀ x ∈ P, PoWf x) (ha : ∀ x ∈ A, AcWf x) (hl1 : P.length ≤ 9223372036854775807) (hl2 : A.length ≤ 9223372036854775807) :
    Calls Tryz.prog 15 #[calV c, unitV u, .int .i64 k, .agg #[v1, v2]] w fun e w' => e = .returned (.bool true) ∧ Below w.heap.size w w' := by
  have HP := hide hP
  have HA := hide hA
  have HW := hide (And.intro (fun x h => (hp x h).2) (fun x h => (ha x h).2.2))
  have H0 := hide (ttSt_new c u v1 v2 w)
  clear hp ha
  obtain ⟨ad1, cap1, rfl, _⟩ := hP
  obtain ⟨ad2, cap2, rfl, _⟩ := hA
  simp only [calV, unitV]
  go_enter Tryz.func15, Tryz.ntmps15
  go_wp2_with fail
  refine (live23_any _).mono ?_
  rintro e w1 ⟨rfl, hb1⟩
  have HS1 := hide (H0.out.call hb1)
  clear hb1
  obtain ⟨⟨q0, q1, q2, q3, q4, q5, q6, q7, q8, q9, q10, q11, q12, q13⟩, ⟨u0, u1, u2⟩, ⟨k0, k1⟩, hsz, hBel⟩ := HS1.out.cells
  have hy1 : w.heap.size < w1.heap.size := by omega
  go_wp2_with fail
  refine (few_any c P A _ _ _ (HP.out.call HS1.out.2.2.2.2) (HA.out.call HS1.out.2.2.2.2) hn hl1 hl2).mono ?_
  rintro e w2 ⟨rfl, hb2⟩
  have HS2 := hide (HS1.out.call hb2)
  clear hb2 q0 q1 q2 q3 q4 q5 q6 q7 q8 q9 q10 q11 q12 q13 u0 u1 u2 k0 k1 hsz hBel hy1
  cases hF : fewB c P A
  · have hBel := HS2.out.2.2.2.2
    go_wp2
    go_ret
    exact ⟨rfl, hBel⟩
  obtain ⟨hf1, _, _, hf4⟩ := few_out hF
  have HBK := hide (bookF c P A (.slice ad2 A.length cap2) hF HW.out.1 HW.out.2)
  have hnm : c.name.size ≤ 1000 := by omega
  clear hF hf4
  obtain ⟨⟨q0, q1, q2, q3, q4, q5, q6, q7, q8, q9, q10, q11, q12, q13⟩, ⟨u0, u1, u2⟩, ⟨k0, k1⟩, hsz, hBel⟩ := HS2.out.cells
  have hy1 : w.heap.size < w2.heap.size := by omega
  go_wp2_with fail
  refine (vrow_any c u k P A (ZA c A) _ _ _ hnm (HP.out.call HS2.out.2.2.2.2) (HA.out.call HS2.out.2.2.2.2) HBK.out).mono ?_
  rintro e w3 ⟨rfl, hb3⟩
  have HS3 := hide (HS2.out.call hb3)
  clear hb3 q0 q1 q2 q3 q4 q5 q6 q7 q8 q9 q10 q11 q12 q13 u0 u1 u2 k0 k1 hsz hBel hy1
  by_cases hE : rwE c u k P A (ZA c A) = 0
  rotate_left
  · have HV := hide (show rwV c u k P A (ZA c A) = ⟨⟨0, 0, 0⟩, 0, 0, 0, false⟩ by rw [rwV, if_neg hE])
    have hub : (rwE c u k P A (ZA c A) != 0) = true := by simpa using hE
    have hrb := rwB_same 0 0 0 0 0 0 false
    have hBel := HS3.out.2.2.2.2
    have hsz := HS3.out.2.2.2.1
    have hle : w.heap.size ≤ w3.heap.size := by omega
    clear hE
    rw [HV.out]
    simp only [rowCs]
    go_wp2
    go_ret
    exact ⟨ret_bool (by simp), by (repeat' exact bel)⟩
  have HR := hide (row_facts hE)
  have HV := hide (show rwV c u k P A (ZA c A) = ⟨u, TV c P A (ZA c A) u, thV c u k P A (ZA c A), TV c P A (ZA c A) u - thV c u k P A (ZA c A), !thOk c u k P A (ZA c A)⟩ by rw [rwV, if_pos hE])
  have HTI := hide (TV_in c P A (ZA c A) u)
  have HHI := hide (thV_in c u k P A (ZA c A))
  rw [HV.out, hE]
  simp only [rowCs]
  have HBT := hide (fun W (h1 : Posts W (.slice ad1 P.length cap1) P) (h2 : Accs W (.slice ad2 A.length cap2) A) => btotal_bk c u P A (ZA c A) _ _ W hnm h1 h2 HBK.out)
  rw [HR.out.1] at HBT
  obtain ⟨X, hX⟩ : ∃ X, TV c P A (ZA c A) u = X := ⟨_, rfl⟩
  obtain ⟨Y, hY⟩ : ∃ Y, thV c u k P A (ZA c A) = Y := ⟨_, rfl⟩
  obtain ⟨O, hO⟩ : ∃ O, thOk c u k P A (ZA c A) = O := ⟨_, rfl⟩
  have HTW := hide (fun w => tweeks_any c u k w hnm)
  have hT := HR.out.2.2.2
  have hI := HR.out.2.2.1
  obtain ⟨T, hT2⟩ : ∃ T, twE c u k = T := ⟨_, rfl⟩
  rw [hX] at HTI HBT
  rw [hY] at HHI
  rw [hX, hY] at hI
  rw [hY, hO, hT2] at hT
  rw [hT2] at HTW
  rw [hX, hY, hO]
  have HSU := hide (fun w => wsub_any X Y w HTI.out HHI.out)
  rw [(fit_yes hI).1, (fit_yes hI).2] at HSU
  simp only [calV, unitV] at HBT HTW
  clear hX hY hO hT2 HV HR hE hI
  obtain ⟨⟨q0, q1, q2, q3, q4, q5, q6, q7, q8, q9, q10, q11, q12, q13⟩, ⟨u0, u1, u2⟩, ⟨k0, k1⟩, hsz, hBel⟩ := HS3.out.cells
  have hy1 : w.heap.size < w3.heap.size := by omega
  have hy2 : w.heap.size + 1 < w3.heap.size := by omega
  have hy3 : w.heap.size + 1 + 1 < w3.heap.size := by omega
  go_wp2_with fail
  have hbw : Below w.heap.size w (w3.alloc (.cells #[.int .i64 u.lv, .int .i64 u.yr, .int .i64 u.ix, .int .i64 X, .int .i64 Y, .int .i64 (X - Y), .bool (!O)] 86)) := hBel.alloc (by omega) _
  refine (HBT.out _ (HP.out.call hbw) (HA.out.call hbw)).mono ?_
  rintro e w4 ⟨rfl, hb4⟩
  have hbb := (Below.refl w3.heap.size w3).alloc (Nat.le_refl _) (.cells #[.int .i64 u.lv, .int .i64 u.yr, .int .i64 u.ix, .int .i64 X, .int .i64 Y, .int .i64 (X - Y), .bool (!O)] 86)
  have HS4 := hide ((HS3.out.call hbb).call hb4)
  have K9 := hide (BlkIs.call (BlkIs.new w3 #[.int .i64 u.lv, .int .i64 u.yr, .int .i64 u.ix, .int .i64 X, .int .i64 Y, .int .i64 (X - Y), .bool (!O)] 86) hb4)
  clear hb4 hbb q0 q1 q2 q3 q4 q5 q6 q7 q8 q9 q10 q11 q12 q13 u0 u1 u2 k0 k1 hsz hBel hy1 hy2 hy3
  have c3 := K9.out.cell 3
  have c4 := K9.out.cell 4
  have hz9 := K9.out.lt
  simp at c3 c4
  go_wp2_with fail
  refine (HSU.out _).mono ?_
  rintro e w5 ⟨rfl, rfl⟩
  clear c3 c4 hz9
  obtain ⟨⟨q0, q1, q2, q3, q4, q5, q6, q7, q8, q9, q10, q11, q12, q13⟩, ⟨u0, u1, u2⟩, ⟨k0, k1⟩, hsz, hBel⟩ := HS4.out.cells
  have hy1 : w.heap.size < w4.heap.size := by omega
  have hy2 : w.heap.size + 1 < w4.heap.size := by omega
  have hy3 : w.heap.size + 1 + 1 < w4.heap.size := by omega
  go_wp2_with fail
  refine (HTW.out _).mono ?_
  rintro e w6 ⟨⟨tv, rfl, _⟩, hb6⟩
  have HS5 := hide (HS4.out.call hb6)
  have K10 := hide (K9.out.call hb6)
  clear hb6 q0 q1 q2 q3 q4 q5 q6 q7 q8 q9 q10 q11 q12 q13 u0 u1 u2 k0 k1 hsz hBel hy1
  obtain ⟨_, ⟨u0, u1, u2⟩, _, hsz, hBel⟩ := HS5.out.cells
  have c0 := K10.out.cell 0
  have c1 := K10.out.cell 1
  have c2 := K10.out.cell 2
  have c3 := K10.out.cell 3
  have c4 := K10.out.cell 4
  have c5 := K10.out.cell 5
  have c6 := K10.out.cell 6
  have hz9 := K10.out.lt
  simp at c0 c1 c2 c3 c4 c5 c6
  have hub : unB u.lv u.yr u.ix u.lv u.yr u.ix = true := by simp [unB]
  rcases hT with ⟨rfl, rfl⟩ | ⟨rfl, rfl, rfl⟩
  · go_wp2
    go_ret
    exact ⟨ret_bool (by simp), by (repeat' exact bel)⟩
  · go_wp2
    go_ret
    exact ⟨ret_bool (by simp), by (repeat' exact bel)⟩
end Go.Proofs.YtamnccechaooaaaGreat
