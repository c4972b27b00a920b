/- The walk of VarySame. -/
import Derived.Test.YtamnccechaooaaaGreatBookW
import Derived.Test.YtamnccechaooaaaGreatVaryE
import Derived.Test.YtamnccechaooaaaGreatRowB
namespace Go.Proofs.YtamnccechaooaaaGreat
open Go.RowKit Qd
set_option linter.unusedSimpArgs false
set_option linter.unusedVariables false

set_option maxRecDepth 100000 in
set_option maxHeartbeats 6400000 in
theorem vsm_walk (c : Cal) (hn : c.name.size ≤ 9223372036854775807) (u : Un) (v1 v2 : Value) (P : List Po) (A : List Ac) (w : World) (hP : Posts w v1 P) (hA : Accs w v2 A) (hp : ∀ x ∈ P, PoWf x) (ha : ∀ x ∈ A, AcWf x) (hl1 : P.length ≤ 9223372036854775807) (hl2 : A.length ≤ 9223372036854775807) :
    Calls Tryz.prog 16 #[calV c, unitV u, .agg #[v1, v2]] w fun e w' => e = .returned (.bool true) ∧ Below w.heap.size w w' := by
  have HP := hide hP
  have HA := hide hA
  have HW := hide (And.intro (fun x h => (hp x h).2) (fun x h => (ha x h).2.2))
  have H0 := hide (ttSt_new c u v1 v2 w)
  clear hp ha
  obtain ⟨ad1, cap1, rfl, _⟩ := hP
  obtain ⟨ad2, cap2, rfl, _⟩ := hA
  simp only [calV, unitV]
  go_enter Tryz.func16, Tryz.ntmps16
  go_wp2_with fail
  refine (live23_any _).mono ?_
  rintro e w1 ⟨rfl, hb1⟩
  have HS1 := hide (H0.out.call hb1)
  clear hb1
  obtain ⟨⟨q0, q1, q2, q3, q4, q5, q6, q7, q8, q9, q10, q11, q12, q13⟩, ⟨u0, u1, u2⟩, ⟨k0, k1⟩, hsz, hBel⟩ := HS1.out.cells
  have hy1 : w.heap.size < w1.heap.size := by omega
  go_wp2_with fail
  refine (few_any c P A _ _ _ (HP.out.call HS1.out.2.2.2.2) (HA.out.call HS1.out.2.2.2.2) hn hl1 hl2).mono ?_
  rintro e w2 ⟨rfl, hb2⟩
  have HS2 := hide (HS1.out.call hb2)
  clear hb2 q0 q1 q2 q3 q4 q5 q6 q7 q8 q9 q10 q11 q12 q13 u0 u1 u2 k0 k1 hsz hBel hy1
  cases hF : fewB c P A
  · have hBel := HS2.out.2.2.2.2
    go_wp2
    go_ret
    exact ⟨rfl, hBel⟩
  obtain ⟨hf1, _, _, hf4⟩ := few_out hF
  have HBK := hide (bookF c P A (.slice ad2 A.length cap2) hF HW.out.1 HW.out.2)
  have hnm : c.name.size ≤ 1000 := by omega
  clear hF hf4
  obtain ⟨⟨q0, q1, q2, q3, q4, q5, q6, q7, q8, q9, q10, q11, q12, q13⟩, ⟨u0, u1, u2⟩, ⟨k0, k1⟩, hsz, hBel⟩ := HS2.out.cells
  have hy1 : w.heap.size < w2.heap.size := by omega
  go_wp2_with fail
  refine (vrow_any c u 0 P A (ZA c A) _ _ _ hnm (HP.out.call HS2.out.2.2.2.2) (HA.out.call HS2.out.2.2.2.2) HBK.out).mono ?_
  rintro e w3 ⟨rfl, hb3⟩
  have HS3 := hide (HS2.out.call hb3)
  clear hb3 q0 q1 q2 q3 q4 q5 q6 q7 q8 q9 q10 q11 q12 q13 u0 u1 u2 k0 k1 hsz hBel hy1
  have HBT := hide (fun W (h1 : Posts W (.slice ad1 P.length cap1) P) (h2 : Accs W (.slice ad2 A.length cap2) A) => btotal_bk c u P A (ZA c A) _ _ W hnm h1 h2 HBK.out)
  have hmain : (∃ E T : Int, TE c P A (ZA c A) u = E ∧ TV c P A (ZA c A) u = T ∧ ((¬ E = 0 ∧ rwE c u 0 P A (ZA c A) = E ∧ rwV c u 0 P A (ZA c A) = ⟨⟨0, 0, 0⟩, 0, 0, 0, false⟩) ∨ (E = 0 ∧ rwE c u 0 P A (ZA c A) = 2 ∧ u.lv < 5 ∧ rwV c u 0 P A (ZA c A) = ⟨⟨0, 0, 0⟩, 0, 0, 0, false⟩) ∨ (E = 0 ∧ rwE c u 0 P A (ZA c A) = 0 ∧ rwV c u 0 P A (ZA c A) = ⟨u, T, T, 0, false⟩))) := by
    refine ⟨_, _, rfl, rfl, ?_⟩
    by_cases h : TE c P A (ZA c A) u = 0
    · rcases same_row h with ⟨h1, h2⟩ | ⟨h1, h2, h3⟩
      · exact .inr (.inr ⟨h, h1, h2⟩)
      · exact .inr (.inl ⟨h, h1, h2, h3⟩)
    · have : rwE c u 0 P A (ZA c A) = TE c P A (ZA c A) u := by rw [rwE, if_neg h]
      exact .inl ⟨h, this, by rw [rwV, if_neg (by rw [this]; exact h)]⟩
  obtain ⟨E, T, hE, hT, hc⟩ := hmain
  rw [hE, hT] at HBT
  simp only [calV, unitV] at HBT
  clear hE hT
  obtain ⟨⟨q0, q1, q2, q3, q4, q5, q6, q7, q8, q9, q10, q11, q12, q13⟩, ⟨u0, u1, u2⟩, ⟨k0, k1⟩, hsz, hBel⟩ := HS3.out.cells
  have hy1 : w.heap.size < w3.heap.size := by omega
  have hy2 : w.heap.size + 1 < w3.heap.size := by omega
  have hy3 : w.heap.size + 1 + 1 < w3.heap.size := by omega
  rcases hc with ⟨hE, hR, hV⟩ | ⟨rfl, hR, hlv, hV⟩ | ⟨rfl, hR, hV⟩
  · rw [hR, hV]
    have hEb : (E != 0) = true := by simpa using hE
    have hrb := rwB_same 0 0 0 0 0 0 false
    simp only [rowCs]
    clear hR hV hE
    go_wp2_with fail
    have hbw : Below w.heap.size w (w3.alloc (.cells rw0 86)) := hBel.alloc (by omega) _
    refine (HBT.out _ (HP.out.call hbw) (HA.out.call hbw)).mono ?_
    rintro e w4 ⟨rfl, hb4⟩
    have K9 := hide (BlkIs.call (BlkIs.new w3 rw0 86) hb4)
    have hBel4 : Below w.heap.size w w4 := (hBel.alloc (by omega) (.cells rw0 86)).trans (hb4.mono (by simp; omega))
    clear hb4 hbw q0 q1 q2 q3 q4 q5 q6 q7 q8 q9 q10 q11 q12 q13 u0 u1 u2 k0 k1
    have c0 := K9.out.cell 0
    have c1 := K9.out.cell 1
    have c2 := K9.out.cell 2
    have c3 := K9.out.cell 3
    have c4 := K9.out.cell 4
    have c5 := K9.out.cell 5
    have c6 := K9.out.cell 6
    have hz9 := K9.out.lt
    simp at c0 c1 c2 c3 c4 c5 c6
    go_wp2
    go_ret
    exact ⟨ret_bool (by simp), hBel4⟩
  · rw [hR, hV]
    have hrb := rwB_same 0 0 0 0 0 0 false
    simp only [rowCs]
    clear hR hV
    go_wp2_with fail
    have hbw : Below w.heap.size w (w3.alloc (.cells rw0 86)) := hBel.alloc (by omega) _
    refine (HBT.out _ (HP.out.call hbw) (HA.out.call hbw)).mono ?_
    rintro e w4 ⟨rfl, hb4⟩
    have K9 := hide (BlkIs.call (BlkIs.new w3 rw0 86) hb4)
    have HS4 := hide ((HS3.out.call ((Below.refl w3.heap.size w3).alloc (Nat.le_refl _) (.cells rw0 86))).call hb4)
    clear hb4 hbw q0 q1 q2 q3 q4 q5 q6 q7 q8 q9 q10 q11 q12 q13 u0 u1 u2 k0 k1 hsz hBel
    obtain ⟨_, ⟨u0, u1, u2⟩, _, hsz, hBel⟩ := HS4.out.cells
    have c0 := K9.out.cell 0
    have c1 := K9.out.cell 1
    have c2 := K9.out.cell 2
    have c3 := K9.out.cell 3
    have c4 := K9.out.cell 4
    have c5 := K9.out.cell 5
    have c6 := K9.out.cell 6
    have hz9 := K9.out.lt
    simp at c0 c1 c2 c3 c4 c5 c6
    go_wp2
    all_goals first
      | (exfalso; omega)
      | (go_ret; exact ⟨ret_bool (by simp), hBel⟩)
  · rw [hR, hV]
    have hrb := rwB_same u.lv u.yr u.ix T T 0 false
    simp only [rowCs]
    clear hR hV
    go_wp2_with fail
    have hbw : Below w.heap.size w (w3.alloc (.cells #[.int .i64 u.lv, .int .i64 u.yr, .int .i64 u.ix, .int .i64 T, .int .i64 T, .int .i64 0, .bool false] 86)) := hBel.alloc (by omega) _
    refine (HBT.out _ (HP.out.call hbw) (HA.out.call hbw)).mono ?_
    rintro e w4 ⟨rfl, hb4⟩
    have K9 := hide (BlkIs.call (BlkIs.new w3 #[.int .i64 u.lv, .int .i64 u.yr, .int .i64 u.ix, .int .i64 T, .int .i64 T, .int .i64 0, .bool false] 86) hb4)
    have HS4 := hide ((HS3.out.call ((Below.refl w3.heap.size w3).alloc (Nat.le_refl _) (.cells #[.int .i64 u.lv, .int .i64 u.yr, .int .i64 u.ix, .int .i64 T, .int .i64 T, .int .i64 0, .bool false] 86))).call hb4)
    clear hb4 hbw q0 q1 q2 q3 q4 q5 q6 q7 q8 q9 q10 q11 q12 q13 u0 u1 u2 k0 k1 hsz hBel
    obtain ⟨_, ⟨u0, u1, u2⟩, _, hsz, hBel⟩ := HS4.out.cells
    have c0 := K9.out.cell 0
    have c1 := K9.out.cell 1
    have c2 := K9.out.cell 2
    have c3 := K9.out.cell 3
    have c4 := K9.out.cell 4
    have c5 := K9.out.cell 5
    have c6 := K9.out.cell 6
    have hz9 := K9.out.lt
    simp at c0 c1 c2 c3 c4 c5 c6
    go_wp2
    go_ret
    exact ⟨ret_bool (by simp), hBel⟩
end Go.Proofs.YtamnccechaooaaaGreat
