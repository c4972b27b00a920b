/- The walk of BookFar. -/
import Derived.Test.YtamnccechaooaaaGreatBookX
import Derived.Test.YtamnccechaooaaaGreatBookH
import Derived.Test.YtamnccechaooaaaGreatRowB
namespace Go.Proofs.YtamnccechaooaaaGreat
open Go.RowKit Qd
set_option linter.unusedSimpArgs false
set_option linter.unusedVariables false

/-- The state: what the law was given, the year's span, and the near book so far. -/
structure FrSt (c : Cal) (u : Un) (v1 v2 : Value) (s : Sp) (B B7 Bn : Nat) (vp va : Value) (P : List Po) (A : List Ac) (w0 w : World) : Prop where
  tt : TtSt c u v1 v2 B w0 w
  sp : BlkIs w B7 #[.int .i64 s.a, .int .i64 s.b] 35
  bk : BlkIs w Bn #[vp, va] 60
  po : OwnP w (Bn + 1) vp P
  ac : OwnA w (Bn + 1) va A
  l1 : B + 2 < B7
  l2 : B7 < Bn
theorem FrSt.call {c : Cal} {u : Un} {v1 v2 : Value} {s : Sp} {B B7 Bn : Nat} {vp va : Value} {P : List Po} {A : List Ac} {w0 w w' : World} (h : FrSt c u v1 v2 s B B7 Bn vp va P A w0 w) (hb : Below w.heap.size w w') : FrSt c u v1 v2 s B B7 Bn vp va P A w0 w' :=
  ⟨h.tt.call hb, h.sp.call hb, h.bk.call hb, ownP_call h.po hb, ownA_call h.ac hb, h.l1, h.l2⟩
theorem tt_below {c : Cal} {u : Un} {v1 v2 : Value} {B K : Nat} {w0 w w' : World} (h : TtSt c u v1 v2 B w0 w) (hb : Below K w w') (hK : B + 2 < K) : TtSt c u v1 v2 B w0 w' := by
  obtain ⟨h1, h2, h3, h4, h5⟩ := h
  exact ⟨calAt_below hb (by omega) h1, unAt_below hb (by omega) h2, (hb.block _ (by omega)).trans h3, Nat.lt_of_lt_of_le h4 hb.size, h5.trans (hb.mono (by omega))⟩
theorem FrSt.putP {c : Cal} {u : Un} {v1 v2 : Value} {s : Sp} {B B7 Bn : Nat} {vp va v' : Value} {P : List Po} {A : List Ac} {x : Po} {w0 w w' : World} (h : FrSt c u v1 v2 s B B7 Bn vp va P A w0 w) (ho : OwnP w' (Bn + 1) v' (P ++ [x])) (hb : Below (Bn + 1) w w') (hk : KeepP w w') :
    FrSt c u v1 v2 s B B7 Bn v' va (P ++ [x]) A w0 (w'.setCell ⟨Bn, 0, none⟩ v') := by
  have h1 := h.l1
  have h2 := h.l2
  have hb7 : Below Bn w (w'.setCell ⟨Bn, 0, none⟩ v') := by
    refine Below.setCell ?_ ?_ _
    · exact hb.mono (by omega)
    · exact Nat.le_refl _
  exact ⟨tt_below h.tt hb7 (by omega), (hb7.block B7 (by omega)).trans h.sp, blk_s0 ((hb.block Bn (by omega)).trans h.bk) _, ownP_far ho _ _ (by show Bn < Bn + 1; omega), ownA_far (keepP_ownA hk h.ac) _ _ (by show Bn < Bn + 1; omega), h1, h2⟩
theorem FrSt.putA {c : Cal} {u : Un} {v1 v2 : Value} {s : Sp} {B B7 Bn : Nat} {vp va v' : Value} {P : List Po} {A : List Ac} {x : Ac} {w0 w w' : World} (h : FrSt c u v1 v2 s B B7 Bn vp va P A w0 w) (ho : OwnA w' (Bn + 1) v' (A ++ [x])) (hb : Below (Bn + 1) w w') (hk : KeepA w w') :
    FrSt c u v1 v2 s B B7 Bn vp v' P (A ++ [x]) w0 (w'.setCell ⟨Bn, 1, none⟩ v') := by
  have h1 := h.l1
  have h2 := h.l2
  have hb7 : Below Bn w (w'.setCell ⟨Bn, 1, none⟩ v') := by
    refine Below.setCell ?_ ?_ _
    · exact hb.mono (by omega)
    · exact Nat.le_refl _
  exact ⟨tt_below h.tt hb7 (by omega), (hb7.block B7 (by omega)).trans h.sp, blk_s1 ((hb.block Bn (by omega)).trans h.bk) _, ownP_far (keepA_ownP hk h.po) _ _ (by show Bn < Bn + 1; omega), ownA_far ho _ _ (by show Bn < Bn + 1; omega), h1, h2⟩

set_option maxRecDepth 100000 in
set_option maxHeartbeats 6400000 in
theorem bfr_walk (c : Cal) (hn : c.name.size ≤ 9223372036854775807) (u : Un) (v1 v2 : Value) (P : List Po) (A : List Ac) (w : World) (hP : Posts w v1 P) (hA : Accs w v2 A) (hp : ∀ x ∈ P, PoWf x) (ha : ∀ x ∈ A, AcWf x) (hl1 : P.length ≤ 9223372036854775807) (hl2 : A.length ≤ 9223372036854775807) :
    Calls Tryz.prog 10 #[calV c, unitV u, .agg #[v1, v2]] w fun e w' => e = .returned (.bool true) ∧ Below w.heap.size w w' := by
  have HP := hide hP
  have HA := hide hA
  have HW := hide (And.intro (fun x h => (hp x h).2) (fun x h => (ha x h).2.2))
  have H0 := hide (ttSt_new c u v1 v2 w)
  clear hp ha
  obtain ⟨ad1, cap1, rfl, _⟩ := hP
  obtain ⟨ad2, cap2, rfl, _⟩ := hA
  simp only [calV, unitV]
  go_enter Tryz.func10, Tryz.ntmps10
  go_wp2_with fail
  refine (live22_any _).mono ?_
  rintro e w1 ⟨rfl, hb1⟩
  have HS1 := hide (H0.out.call hb1)
  clear hb1
  obtain ⟨⟨q0, q1, q2, q3, q4, q5, q6, q7, q8, q9, q10, q11, q12, q13⟩, _, ⟨k0, k1⟩, hsz, hBel⟩ := HS1.out.cells
  have hy1 : w.heap.size < w1.heap.size := by omega
  go_wp2_with fail
  refine (few_any c P A _ _ _ (HP.out.call HS1.out.2.2.2.2) (HA.out.call HS1.out.2.2.2.2) hn hl1 hl2).mono ?_
  rintro e w2 ⟨rfl, hb2⟩
  have HS2 := hide (HS1.out.call hb2)
  clear hb2 q0 q1 q2 q3 q4 q5 q6 q7 q8 q9 q10 q11 q12 q13 k0 k1 hsz hBel hy1
  have hBel := HS2.out.2.2.2.2
  cases hF : fewB c P A
  · go_wp2
    go_ret
    exact ⟨rfl, hBel⟩
  obtain ⟨hf1, hf2, hf3, hf4⟩ := few_out hF
  have HF4 := hide hf4
  have HBK := hide (bookF c P A (.slice ad2 A.length cap2) hF HW.out.1 HW.out.2)
  have hnm : c.name.size ≤ 1000 := by omega
  clear hF hf4
  obtain ⟨_, _, ⟨k0, k1⟩, hsz, _⟩ := HS2.out.cells
  go_wp2_with fail
  refine (bcheck_any P A _ _ _ (HP.out.call HS2.out.2.2.2.2) (HA.out.call HS2.out.2.2.2.2) (by omega)).mono ?_
  rintro e w3 ⟨rfl, hb3⟩
  have HS3 := hide (HS2.out.call hb3)
  clear hb3 k0 k1 hsz hBel
  have hBel := HS3.out.2.2.2.2
  by_cases hC : chkE P A = 0
  rotate_left
  · have hCb : (chkE P A != 0) = true := by simpa using hC
    clear hC
    go_wp2
    all_goals first
      | (exfalso; omega)
      | (go_ret; exact ⟨rfl, hBel⟩)
  have HC := hide hC
  rw [hC]
  clear hC
  obtain ⟨⟨q0, q1, q2, q3, q4, q5, q6, q7, q8, q9, q10, q11, q12, q13⟩, ⟨u0, u1, u2⟩, _, hsz, _⟩ := HS3.out.cells
  have hy1 : w.heap.size < w3.heap.size := by omega
  have hy2 : w.heap.size + 1 < w3.heap.size := by omega
  go_wp2_with fail
  refine (uspan_any c ⟨1, u.yr, 1⟩ _ hnm).mono ?_
  rintro e w4 ⟨rfl, hb4⟩
  have HS4 := hide (HS3.out.call hb4)
  clear hb4 q0 q1 q2 q3 q4 q5 q6 q7 q8 q9 q10 q11 q12 q13 u0 u1 u2 hsz hBel hy1 hy2
  have HNT := hide (near_T (c := c) (u := u) HC.out)
  have HYU := hide (fun (h : unitE c u = 0) => unit_year h)
  obtain ⟨s, hs⟩ : ∃ s, spV c ⟨1, u.yr, 1⟩ = s := ⟨_, rfl⟩
  rw [hs] at HNT ⊢
  obtain ⟨Y, hY⟩ : ∃ Y, unitE c ⟨1, u.yr, 1⟩ = Y := ⟨_, rfl⟩
  rw [hY] at HYU ⊢
  clear hs hY
  simp only [spanV]
  have HBT := hide (fun W (h1 : Posts W (.slice ad1 P.length cap1) P) (h2 : Accs W (.slice ad2 A.length cap2) A) => btotal_bk c u P A (ZA c A) _ _ W hnm h1 h2 HBK.out)
  have HTE := hide (fun (h : ¬ unitE c u = 0) => show ¬ TE c P A (ZA c A) u = 0 ∧ TV c P A (ZA c A) u = 0 from by simp [TE, tE, TV, tV, h])
  obtain ⟨X, hX⟩ : ∃ X, TV c P A (ZA c A) u = X := ⟨_, rfl⟩
  obtain ⟨E, hE⟩ : ∃ E, TE c P A (ZA c A) u = E := ⟨_, rfl⟩
  rw [hX, hE] at HBT HTE HNT
  clear hX hE
  simp only [calV, unitV] at HBT
  obtain ⟨⟨q0, q1, q2, q3, q4, q5, q6, q7, q8, q9, q10, q11, q12, q13⟩, ⟨u0, u1, u2⟩, ⟨k0, k1⟩, hsz, hBel⟩ := HS4.out.cells
  have hy1 : w.heap.size < w4.heap.size := by omega
  have hy2 : w.heap.size + 1 < w4.heap.size := by omega
  have hy3 : w.heap.size + 1 + 1 < w4.heap.size := by omega
  go_wp2_with fail
  have hbw : Below w.heap.size w (w4.alloc (.cells #[.int .i64 s.a, .int .i64 s.b] 35)) := hBel.alloc (by omega) _
  refine (HBT.out _ (HP.out.call hbw) (HA.out.call hbw)).mono ?_
  rintro e w5 ⟨rfl, hb5⟩
  have HS5 := hide ((HS4.out.call ((Below.refl w4.heap.size w4).alloc (Nat.le_refl _) (.cells #[.int .i64 s.a, .int .i64 s.b] 35))).call hb5)
  have HPS := hide (BlkIs.call (BlkIs.new w4 #[.int .i64 s.a, .int .i64 s.b] 35) hb5)
  have hw45 : w4.heap.size < w5.heap.size := by have := hb5.size; simp at this; omega
  have h4l := hsz
  clear hb5 hbw q0 q1 q2 q3 q4 q5 q6 q7 q8 q9 q10 q11 q12 q13 u0 u1 u2 k0 k1 hsz hBel hy1 hy2 hy3
  have hBel := HS5.out.2.2.2.2
  by_cases hY0 : Y = 0
  rotate_left
  · obtain ⟨t1, t2⟩ := HTE.out (fun h => hY0 (HYU.out h))
    have hYb : (Y != 0) = true := by simpa using hY0
    have hEb : (E != 0) = true := by simpa using t1
    subst t2
    clear hY0 t1
    go_wp2
    go_ret
    exact ⟨ret_bool (by simp), hBel⟩
  subst hY0
  obtain ⟨_, _, ⟨k0, k1⟩, hsz, _⟩ := HS5.out.cells
  have hy3 : w.heap.size + 1 + 1 < w5.heap.size := by omega
  have HS6 := hide (show FrSt c u (.slice ad1 P.length cap1) (.slice ad2 A.length cap2) s w.heap.size w4.heap.size w5.heap.size (.slice none 0 0) (.slice none 0 0) [] [] w (w5.alloc (.cells #[.slice none 0 0, .slice none 0 0] 60)) from
    ⟨HS5.out.call ((Below.refl w5.heap.size w5).alloc (Nat.le_refl _) _), HPS.out.alloc _, BlkIs.new _ _ _, World.ownsRow_nil _ _ _ _, World.ownsRow_nil _ _ _ _, by omega, hw45⟩)
  go_wp2_with fail
  clear k0 k1 hsz hBel hy3
  go_loopw [55] (fun s55 wr => ∃ j : Nat, s55 = .int .i64 j ∧ j ≤ P.length ∧ Hid (∃ vp, FrSt c u (.slice ad1 P.length cap1) (.slice ad2 A.length cap2) s w.heap.size w4.heap.size w5.heap.size vp (.slice none 0 0) (nearP s (P.take j)) [] w wr)) (fun s55 _ => (P.length + 5 - intOf s55).toNat)
  case atStart => exact ⟨0, rfl, Nat.zero_le _, hide ⟨_, HS6.out⟩⟩
  case round =>
    obtain ⟨j, rfl, hj, HR0⟩ := hrel
    obtain ⟨vp, HR1⟩ := HR0.out
    have HR := hide HR1
    clear HR0 HR1
    have hz := HR.out.bk.lt
    have hy4 : w4.heap.size < wr.heap.size := by omega
    by_cases hlt : j < P.length
    · obtain ⟨x, hx⟩ : ∃ x, P[j]? = some x := ⟨_, List.getElem?_eq_getElem hlt⟩
      obtain ⟨g, o, rfl, hg, d0, d1⟩ := (HP.out.call HR.out.tt.2.2.2.2).at hx
      obtain ⟨⟨s0, s1⟩, _⟩ := blk_two' HR.out.sp
      obtain ⟨⟨b0, b1⟩, _⟩ := blk_two' HR.out.bk
      have hi1 : (0 : Int) ≤ (j : Int) := by omega
      have hi3 : (j : Int) < (P.length : Int) := by omega
      have HX := hide hx
      clear hx
      by_cases hne : s.a ≤ x.day ∧ x.day ≤ s.b
      · have HI := hide (nearP_yes HX.out hne)
        obtain ⟨n1, n2⟩ := hne
        have hln : (nearP s (P.take j)).length ≤ 100000 := Nat.le_trans (List.length_filter_le _ _) (by rw [List.length_take]; omega)
        obtain ⟨Q, hQ⟩ : ∃ Q, nearP s (P.take j) = Q := ⟨_, rfl⟩
        rw [hQ] at HR HI hln
        clear hQ
        go_wp2_with ((at_builtin; refine app_post rfl _ _ rfl (w5.heap.size + 1) _ Q x _ rfl (ownP_call HR.out.po ?hw) rfl (by simp) (by simp) hln ?hz ?_))
        case hw => (repeat' exact bel)
        case hz => simp; omega
        intro v' w' hown' hbel hkeep
        obtain ⟨g', cap', rfl⟩ : ∃ g' cap', v' = .slice (some ⟨g', 0, none⟩) (Q.length + 1) cap' := by
          rcases hown'.2 with ⟨_, h1⟩ | ⟨g', cap', cur, h1, _⟩
          · simp at h1
          · exact ⟨g', cap', by simpa using h1⟩
        have HR1 := hide (HR.out.call (show Below wr.heap.size wr ((wr.alloc (.cells #[.int .i64 x.day, .int .i64 x.n] 63)).alloc (.cells #[.int .i64 x.day, .int .i64 x.n] 63)) by (repeat' exact bel)))
        have HR2 := hide (HR1.out.putP hown' hbel hkeep)
        have K := hide (show BlkIs w' w5.heap.size #[vp, .slice none 0 0] 60 from (hbel.block w5.heap.size (by omega)).trans HR1.out.bk)
        clear hown' hbel hkeep s0 s1 b0 b1 d0 d1
        obtain ⟨⟨b0, b1⟩, bf0, bf1, hzb⟩ := blk_two' K.out
        go_wp2
        go_roundw
        case rel => exact ⟨j + 1, by go_num, by omega, hide ⟨_, by rw [HI.out]; exact HR2.out⟩⟩
        case measure => simp [intOf]; omega
      · have HI := hide (nearP_no HX.out hne)
        rcases (show x.day < s.a ∨ (s.a ≤ x.day ∧ s.b < x.day) by omega) with h1 | ⟨h1, h2⟩
        all_goals
          clear hne
          go_wp2
          all_goals first
            | (exfalso; omega)
            | skip
          go_roundw
          case rel => exact ⟨j + 1, by go_num, by omega, hide ⟨_, by rw [HI.out]; exact HR.out.call ((Below.refl _ _).alloc (Nat.le_refl _) _)⟩⟩
          case measure => simp [intOf]; omega
    · obtain rfl : j = P.length := by omega
      rw [List.take_length] at HR
      obtain ⟨wo, hwo⟩ : ∃ wo : World, wo = wr := ⟨_, rfl⟩
      rw [← hwo] at HR hz hy4 ⊢
      clear hwo
      have HR0 := hide (show ∃ va, FrSt c u (.slice ad1 P.length cap1) (.slice ad2 A.length cap2) s w.heap.size w4.heap.size w5.heap.size vp va (nearP s P) (nearL s (A.take 0)) w wo from ⟨_, HR.out⟩)
      obtain ⟨_, _, ⟨k0, k1⟩, hsz, _⟩ := HR.out.tt.cells
      go_wp2_with fail
      clear k0 k1 hsz
      go_loopw [81] (fun s81 wr => ∃ j : Nat, s81 = .int .i64 j ∧ j ≤ A.length ∧ Hid (∃ va, FrSt c u (.slice ad1 P.length cap1) (.slice ad2 A.length cap2) s w.heap.size w4.heap.size w5.heap.size vp va (nearP s P) (nearL s (A.take j)) w wr)) (fun s81 _ => (A.length + 5 - intOf s81).toNat)
      case atStart => exact ⟨0, rfl, Nat.zero_le _, HR0⟩
      case round =>
        obtain ⟨j, rfl, hj2, HQ0⟩ := hrel
        obtain ⟨va, HQ1⟩ := HQ0.out
        have HQ := hide HQ1
        clear HQ0 HQ1
        have hz2 := HQ.out.bk.lt
        have hy5 : w4.heap.size < wr.heap.size := by omega
        by_cases hlt2 : j < A.length
        · obtain ⟨x, hx⟩ : ∃ x, A[j]? = some x := ⟨_, List.getElem?_eq_getElem hlt2⟩
          obtain ⟨g, o, rfl, hg, d0, d1, d2⟩ := (HA.out.call HQ.out.tt.2.2.2.2).at hx
          obtain ⟨⟨s0, s1⟩, _⟩ := blk_two' HQ.out.sp
          obtain ⟨⟨b0, b1⟩, _⟩ := blk_two' HQ.out.bk
          have hi1 : (0 : Int) ≤ (j : Int) := by omega
          have hi3 : (j : Int) < (A.length : Int) := by omega
          have HX := hide hx
          clear hx
          by_cases hne : s.a ≤ x.b ∧ x.a ≤ s.b
          · have HI := hide (nearL_yes HX.out hne)
            obtain ⟨n1, n2⟩ := hne
            have hln : (nearL s (A.take j)).length ≤ 100000 := Nat.le_trans (List.length_filter_le _ _) (by rw [List.length_take]; omega)
            obtain ⟨Q, hQ⟩ : ∃ Q, nearL s (A.take j) = Q := ⟨_, rfl⟩
            rw [hQ] at HQ HI hln
            clear hQ
            go_wp2_with ((at_builtin; refine app_acc rfl _ _ rfl (w5.heap.size + 1) _ Q x _ rfl (ownA_call HQ.out.ac ?hw) rfl (by simp) (by simp) (by simp) hln ?hz ?_))
            case hw => (repeat' exact bel)
            case hz => simp; omega
            intro v' w' hown' hbel hkeep
            obtain ⟨g', cap', rfl⟩ : ∃ g' cap', v' = .slice (some ⟨g', 0, none⟩) (Q.length + 1) cap' := by
              rcases hown'.2 with ⟨_, h1⟩ | ⟨g', cap', cur, h1, _⟩
              · simp at h1
              · exact ⟨g', cap', by simpa using h1⟩
            have HQ1 := hide (HQ.out.call (show Below wr.heap.size wr ((wr.alloc (.cells #[.int .i64 x.a, .int .i64 x.b, .int .i64 x.n] 70)).alloc (.cells #[.int .i64 x.a, .int .i64 x.b, .int .i64 x.n] 70)) by (repeat' exact bel)))
            have HQ2 := hide (HQ1.out.putA hown' hbel hkeep)
            have K := hide (show BlkIs w' w5.heap.size #[vp, va] 60 from (hbel.block w5.heap.size (by omega)).trans HQ1.out.bk)
            clear hown' hbel hkeep s0 s1 b0 b1 d0 d1 d2
            obtain ⟨⟨b0, b1⟩, bf0, bf1, hzb⟩ := blk_two' K.out
            go_wp2
            go_roundw
            case rel => exact ⟨j + 1, by go_num, by omega, hide ⟨_, by rw [HI.out]; exact HQ2.out⟩⟩
            case measure => simp [intOf]; omega
          · have HI := hide (nearL_no HX.out hne)
            rcases (show s.b < x.a ∨ (x.a ≤ s.b ∧ x.b < s.a) by omega) with h1 | ⟨h1, h2⟩
            all_goals
              clear hne
              go_wp2
              all_goals first
                | (exfalso; omega)
                | skip
              go_roundw
              case rel => exact ⟨j + 1, by go_num, by omega, hide ⟨_, by rw [HI.out]; exact HQ.out.call ((Below.refl _ _).alloc (Nat.le_refl _) _)⟩⟩
              case measure => simp [intOf]; omega
        · obtain rfl : j = A.length := by omega
          rw [List.take_length] at HQ
          have HPN := hide (ownP_posts HQ.out.po)
          have HAN := hide (ownA_accs HQ.out.ac)
          have HBN := hide (bookA c (nearP s P) (nearL s A) va hnm ⟨Nat.le_trans (List.length_filter_le _ _) (by omega), Nat.le_trans (List.length_filter_le _ _) (by omega)⟩ (fun p hp => HW.out.1 p (List.mem_filter.1 hp).1) (fun a ha => HW.out.2 a (List.mem_filter.1 ha).1) (fun a ha h => HF4.out a (List.mem_filter.1 ha).1 h))
          have HBT2 := hide (fun W (h1 : Posts W vp (nearP s P)) (h2 : Accs W va (nearL s A)) => btotal_bk c u (nearP s P) (nearL s A) (ZA c (nearL s A)) _ _ W hnm h1 h2 HBN.out)
          rw [HNT.out.1, HNT.out.2] at HBT2
          simp only [calV, unitV] at HBT2
          obtain ⟨⟨q0, q1, q2, q3, q4, q5, q6, q7, q8, q9, q10, q11, q12, q13⟩, ⟨u0, u1, u2⟩, ⟨k0, k1⟩, hsz, hBel⟩ := HQ.out.tt.cells
          obtain ⟨⟨b0, b1⟩, _⟩ := blk_two' HQ.out.bk
          have hy6 : w.heap.size < wr.heap.size := by omega
          have hy7 : w.heap.size + 1 < wr.heap.size := by omega
          go_wp2_with fail
          refine (HBT2.out _ HPN.out HAN.out).mono ?_
          rintro e w6 ⟨rfl, hb6⟩
          have hBel6 : Below w.heap.size w w6 := hBel.trans (hb6.mono hBel.size)
          clear hb6 q0 q1 q2 q3 q4 q5 q6 q7 q8 q9 q10 q11 q12 q13 u0 u1 u2 k0 k1 b0 b1
          go_wp2
          go_ret
          exact ⟨ret_bool (by simp), hBel6⟩
end Go.Proofs.YtamnccechaooaaaGreat
