/- The walk of BookServed. -/
import Derived.Test.YtamnccechaooaaaGreatMBt
import Derived.Test.YtamnccechaooaaaGreatBookH
import Derived.Test.YtamnccechaooaaaGreatRowB
namespace Go.Proofs.YtamnccechaooaaaGreat
open Go.RowKit Qd
set_option linter.unusedSimpArgs false
set_option linter.unusedVariables false

/-- A calendar, a unit and an accrual in three blocks. -/
def SvSt (c : Cal) (u : Un) (a : Ac) (B : Nat) (w0 w : World) : Prop := CalAt w B c ∧ UnAt w (B + 1) u ∧ BlkIs w (B + 1 + 1) #[.int .i64 a.a, .int .i64 a.b, .int .i64 a.n] 70 ∧ B + 2 < w.heap.size ∧ Below B w0 w
theorem SvSt.call {c : Cal} {u : Un} {a : Ac} {B : Nat} {w0 w w' : World} (h : SvSt c u a B w0 w) (hb : Below w.heap.size w w') : SvSt c u a B w0 w' := by
  obtain ⟨h1, h2, h3, h4, h5⟩ := h
  exact ⟨calAt_below hb (by omega) h1, unAt_below hb (by omega) h2, h3.call hb, Nat.lt_of_lt_of_le h4 hb.size, h5.trans (hb.mono (by omega))⟩
theorem svSt_new (c : Cal) (u : Un) (a : Ac) (w : World) : SvSt c u a w.heap.size w (((w.alloc (calObj c)).alloc (unObj u)).alloc (.cells #[.int .i64 a.a, .int .i64 a.b, .int .i64 a.n] 70)) := by
  refine ⟨calAt_alloc (calAt_alloc (calAt_new w c) (by simp) _) (by simp; omega) _, unAt_alloc (unAt_new w c u) (by simp) _, ?_, by simp, by (repeat' exact bel)⟩
  simpa using BlkIs.new ((w.alloc (calObj c)).alloc (unObj u)) #[.int .i64 a.a, .int .i64 a.b, .int .i64 a.n] 70
/-- A book of one accrual. -/
def Bk1 (a : Ac) (G : Nat) (w : World) : Prop := BlkIs w (G + 1) #[.slice none 0 0, .slice (some ⟨G, 0, none⟩) 1 1] 60 ∧ BlkIs w G #[.int .i64 a.a, .int .i64 a.b, .int .i64 a.n] 70
theorem Bk1.call {a : Ac} {G : Nat} {w w' : World} (h : Bk1 a G w) (hb : Below w.heap.size w w') : Bk1 a G w' := ⟨h.1.call hb, h.2.call hb⟩
theorem bk1_new (a : Ac) (w : World) : Bk1 a w.heap.size ((w.alloc (.cells #[.int .i64 a.a, .int .i64 a.b, .int .i64 a.n] 70)).alloc (.cells #[.slice none 0 0, .slice (some ⟨w.heap.size, 0, none⟩) 1 1] 60)) :=
  ⟨by simpa using BlkIs.new (w.alloc (.cells #[.int .i64 a.a, .int .i64 a.b, .int .i64 a.n] 70)) #[.slice none 0 0, .slice (some ⟨w.heap.size, 0, none⟩) 1 1] 60, (BlkIs.new _ _ _).alloc _⟩
theorem Bk1.accs {a : Ac} {G : Nat} {w : World} (h : Bk1 a G w) : Accs w (.slice (some ⟨G, 0, none⟩) 1 1) [a] := by
  obtain ⟨⟨k0, k1, k2⟩, hl⟩ := blk_three' h.2
  refine ⟨_, _, rfl, fun i x hx => ?_⟩
  match i, hx with
  | 0, hx => simp at hx; subst hx; exact ⟨G, 0, rfl, hl, by simpa using k0, by simpa using k1, by simpa using k2⟩

set_option maxRecDepth 100000 in
set_option maxHeartbeats 6400000 in
theorem bsv_walk (c : Cal) (hn : c.name.size ≤ 9223372036854775807) (u : Un) (a : Ac) (w : World) (ha : AcWf a) :
    Calls Tryz.prog 11 #[calV c, unitV u, acV a] w fun e w' => e = .returned (.bool true) ∧ Below w.heap.size w w' := by
  have HA := hide ha
  clear ha
  simp only [calV, unitV, acV]
  go_enter Tryz.func11, Tryz.ntmps11
  go_wp2_with fail
  refine (live22_any _).mono ?_
  rintro e w1 ⟨rfl, hb1⟩
  have HS1 := hide ((svSt_new c u a w).call hb1)
  clear hb1
  obtain ⟨⟨k0, k1, k2⟩, hz1⟩ := blk_three' HS1.out.2.2.1
  obtain ⟨q0, q1, q2, q3, q4, q5, q6, q7, q8, q9, q10, q11, q12, q13⟩ := HS1.out.1
  have hy1 : w.heap.size < w1.heap.size := by omega
  go_wp2_with fail
  obtain ⟨W, hW⟩ : ∃ W, (w1.alloc (.cells #[.int .i64 a.a, .int .i64 a.b, .int .i64 a.n] 70)).alloc (.cells #[.slice none 0 0, .slice (some ⟨w1.heap.size, 0, none⟩) 1 1] 60) = W := ⟨_, rfl⟩
  have HB := hide (show Bk1 a w1.heap.size W from by rw [← hW]; exact bk1_new a w1)
  have HS2 := hide (show SvSt c u a w.heap.size w W from by rw [← hW]; exact HS1.out.call (by (repeat' exact bel)))
  rw [hW]
  refine (few_any c [] [a] _ _ W (Posts.nil _) HB.out.accs hn (by simp) (by simp)).mono ?_
  rintro e w2 ⟨rfl, hb2⟩
  have HB2 := hide (HB.out.call hb2)
  have HS3 := hide (HS2.out.call hb2)
  clear hb2 k0 k1 k2 hW
  clear q0 q1 q2 q3 q4 q5 q6 q7 q8 q9 q10 q11 q12 q13
  have hBel := HS3.out.2.2.2.2
  cases hF : fewB c [] [a]
  · go_wp2
    go_ret
    exact ⟨rfl, hBel⟩
  obtain ⟨hf1, _, _, hf4⟩ := few_out hF
  have HBK := hide (bookF c [] [a] (.slice (some ⟨w1.heap.size, 0, none⟩) 1 1) hF (by simp) (by intro x hx; simp at hx; subst hx; exact HA.out.2.2))
  have hnm : c.name.size ≤ 1000 := by omega
  clear hF hf4
  have HB2A := hide HB2.out.accs
  obtain ⟨⟨b0, b1⟩, _, _, hzb⟩ := blk_two' HB2.out.1
  go_wp2_with fail
  refine (bcheck_any [] [a] _ _ _ (Posts.nil _) HB2A.out (by simp)).mono ?_
  rintro e w3 ⟨rfl, hb3⟩
  have HB3 := hide (HB2.out.call hb3)
  have HS4 := hide (HS3.out.call hb3)
  clear hb3 b0 b1 hzb HB2A
  have hBel := HS4.out.2.2.2.2
  by_cases hC : chkE [] [a] = 0
  rotate_left
  · have hCb : (chkE [] [a] != 0) = true := by simpa using hC
    clear hC
    go_wp2
    all_goals first
      | (exfalso; omega)
      | (go_ret; exact ⟨rfl, hBel⟩)
  have HC := hide hC
  rw [hC]
  clear hC
  obtain ⟨q0, q1, q2, q3, q4, q5, q6, q7, q8, q9, q10, q11, q12, q13⟩ := HS4.out.1
  obtain ⟨u0, u1, u2⟩ := HS4.out.2.1
  have hz4 := HS4.out.2.2.2.1
  have hy4 : w.heap.size < w3.heap.size := by omega
  have hy5 : w.heap.size + 1 < w3.heap.size := by omega
  go_wp2_with fail
  refine (ucheck_any c u _ hnm).mono ?_
  rintro e w4 ⟨rfl, hb4⟩
  have HB4 := hide (HB3.out.call hb4)
  have HS5 := hide (HS4.out.call hb4)
  clear hb4 u0 u1 u2
  clear q0 q1 q2 q3 q4 q5 q6 q7 q8 q9 q10 q11 q12 q13
  have hBel := HS5.out.2.2.2.2
  by_cases hU : unitE c u = 0
  rotate_left
  · have hUb : (unitE c u != 0) = true := by simpa using hU
    clear hU
    go_wp2
    all_goals first
      | (exfalso; omega)
      | (go_ret; exact ⟨rfl, hBel⟩)
  have HU := hide hU
  have HY := hide (unit_year hU)
  have HT := hide (one_T (c := c) (u := u) (a := a) hU (by have := HC.out; simp [chkE, dayB, accsE] at this; exact Classical.byContradiction fun h => h (this h)) HA.out.2.2)
  have HK := hide (show c.okB = true by simpa [Cal.okB] using (ask_ok (un_lv hU).2.2.2.1).1)
  rw [hU]
  clear hU hy4 hy5 hz4
  obtain ⟨q0, q1, q2, q3, q4, q5, q6, q7, q8, q9, q10, q11, q12, q13⟩ := HS5.out.1
  obtain ⟨u0, u1, u2⟩ := HS5.out.2.1
  have hz4 := HS5.out.2.2.2.1
  have hy4 : w.heap.size < w4.heap.size := by omega
  have hy5 : w.heap.size + 1 < w4.heap.size := by omega
  go_wp2_with fail
  refine (uspan_any c ⟨1, u.yr, 1⟩ _ hnm).mono ?_
  rintro e w5 ⟨rfl, hb5⟩
  rw [HY.out]
  have HB5 := hide (HB4.out.call hb5)
  have HS6 := hide (HS5.out.call hb5)
  clear hb5 u0 u1 u2 hz4 hy4 hy5
  clear q0 q1 q2 q3 q4 q5 q6 q7 q8 q9 q10 q11 q12 q13
  obtain ⟨s, hs⟩ : ∃ s, spV c ⟨1, u.yr, 1⟩ = s := ⟨_, rfl⟩
  rw [hs]
  have HNE := hide (show nearA c u.yr a = decide (s.a ≤ a.b ∧ a.a ≤ s.b) by rw [← hs]; rfl)
  rw [HNE.out] at HT
  clear hs
  simp only [spanV]
  obtain ⟨q0, q1, q2, q3, q4, q5, q6, q7, q8, q9, q10, q11, q12, q13⟩ := HS6.out.1
  have hz4 := HS6.out.2.2.2.1
  have hy4 : w.heap.size < w5.heap.size := by omega
  go_wp2_with fail
  refine (bounds_ok c _ hnm HK.out).mono ?_
  rintro e w6 ⟨rfl, hb6⟩
  have hbb := (Below.refl w5.heap.size w5).alloc (Nat.le_refl _) (.cells #[.int .i64 s.a, .int .i64 s.b] 35)
  have HB6 := hide ((HB5.out.call hbb).call hb6)
  have HS7 := hide ((HS6.out.call hbb).call hb6)
  have HP1 := hide (BlkIs.call (BlkIs.new w5 #[.int .i64 s.a, .int .i64 s.b] 35) hb6)
  have hw56 : w5.heap.size < w6.heap.size := by have := hb6.size; simp at this; omega
  clear hb6 hbb hz4 hy4
  clear q0 q1 q2 q3 q4 q5 q6 q7 q8 q9 q10 q11 q12 q13
  obtain ⟨F, hF⟩ : ∃ F, startV c c.first = F := ⟨_, rfl⟩
  obtain ⟨E, hE⟩ : ∃ E, endV c c.last = E := ⟨_, rfl⟩
  rw [hF, hE] at HT ⊢
  clear hF hE
  obtain ⟨q0, q1, q2, q3, q4, q5, q6, q7, q8, q9, q10, q11, q12, q13⟩ := HS7.out.1
  obtain ⟨u0, u1, u2⟩ := HS7.out.2.1
  obtain ⟨⟨b0, b1⟩, _, _, hzb⟩ := blk_two' HB6.out.1
  have hz4 := HS7.out.2.2.2.1
  have hy4 : w.heap.size < w6.heap.size := by omega
  have hy5 : w.heap.size + 1 < w6.heap.size := by omega
  have HBA := hide HB6.out.accs
  go_wp2_with fail
  refine (btotal_bk c u [] [a] (ZA c [a]) _ _ _ hnm (Posts.nil _) (HBA.out.call (by (repeat' exact bel))) HBK.out).mono ?_
  rintro e w7 ⟨rfl, hb7⟩
  have hbb := (Below.refl w6.heap.size w6).alloc (Nat.le_refl _) (.cells #[.int .i64 F, .int .i64 E] 35)
  have HS8 := hide ((HS7.out.call hbb).call hb7)
  have HP2 := hide ((HP1.out.call hbb).call hb7)
  have HP3 := hide (BlkIs.call (BlkIs.new w6 #[.int .i64 F, .int .i64 E] 35) hb7)
  clear hb7 hbb hz4 hy4 hy5 u0 u1 u2 b0 b1 hzb HBA
  clear q0 q1 q2 q3 q4 q5 q6 q7 q8 q9 q10 q11 q12 q13
  obtain ⟨X, hX⟩ : ∃ X, TV c [] [a] (ZA c [a]) u = X := ⟨_, rfl⟩
  obtain ⟨Y, hY⟩ : ∃ Y, TE c [] [a] (ZA c [a]) u = Y := ⟨_, rfl⟩
  rw [hX, hY] at HT ⊢
  clear hX hY
  obtain ⟨⟨k0, k1, k2⟩, hz1⟩ := blk_three' HS8.out.2.2.1
  obtain ⟨⟨s0, s1⟩, _, _, hzs⟩ := blk_two' HP2.out
  obtain ⟨⟨t0, t1⟩, _, _, hzt⟩ := blk_two' HP3.out
  have hBel := HS8.out.2.2.2.2
  have hT := HT.out
  by_cases n1 : a.a ≤ s.b
  · by_cases n2 : s.a ≤ a.b
    · by_cases n3 : F ≤ a.a
      · by_cases n4 : a.b ≤ E
        · obtain ⟨rfl, _⟩ := hT.2 (fun h => h.2 ⟨n3, n4⟩)
          go_wp2
          all_goals first
            | (exfalso; omega)
            | (go_ret; exact ⟨ret_bool (by simp), hBel⟩)
        · obtain ⟨rfl, rfl⟩ := hT.1 (by simp [n1, n2]) (by simp [n4])
          have m1 : decide (a.a ≤ s.b) = true := decide_eq_true n1
          have m2 : decide (s.a ≤ a.b) = true := decide_eq_true n2
          have m3 : decide (F ≤ a.a) = true := decide_eq_true n3
          have m4 : decide (a.b ≤ E) = false := decide_eq_false n4
          clear hT n1 n2 n3 n4
          go_wp2
          all_goals first
            | (exfalso; omega)
            | (go_ret; exact ⟨ret_bool (by simp), hBel⟩)
      · obtain ⟨rfl, rfl⟩ := hT.1 (by simp [n1, n2]) (by simp [n3])
        go_wp2
        all_goals first
          | (exfalso; omega)
          | (go_ret; exact ⟨ret_bool (by simp), hBel⟩)
    · obtain ⟨rfl, h0⟩ := hT.2 (fun h => n2 (of_decide_eq_true h.1).1)
      obtain rfl := h0 (by simp [n2])
      go_wp2
      all_goals first
        | (exfalso; omega)
        | (go_ret; exact ⟨ret_bool (by simp), hBel⟩)
  · obtain ⟨rfl, h0⟩ := hT.2 (fun h => n1 (of_decide_eq_true h.1).2)
    obtain rfl := h0 (by simp [n1])
    go_wp2
    all_goals first
      | (exfalso; omega)
      | (go_ret; exact ⟨ret_bool (by simp), hBel⟩)
end Go.Proofs.YtamnccechaooaaaGreat
