/- The sort of the parts: two runs made one. -/
import Derived.Test.YtamnccechaooaaaGreatSortF
import Derived.Deep.DeepCutAuto
namespace Go.Proofs.YtamnccechaooaaaGreat
open Go.RowKit Go.Sort
set_option linter.unusedSimpArgs false
set_option linter.unusedVariables false

/-- What symMerge does with runs of at most N parts together. -/
def SymC (N : Nat) : Prop := ∀ (g cap L : Nat) (p A B r : List Pt) (u v z : Int) (D : List Pt) (w : World), 0 < A.length → 0 < B.length → A.length + B.length ≤ N → Srt A → Srt B → Ahead A B →
    u = (p.length : Int) → v = (p.length : Int) + A.length → z = (p.length : Int) + A.length + B.length → D = p ++ A ++ B ++ r → PartsAt w g D → D.length = L → L ≤ 1000000 →
    Calls Tryz.prog 156 #[.slice (some ⟨g, 0, none⟩) L cap, .int .i64 u, .int .i64 v, .int .i64 z, cmpF] w fun e w' => e = .returned (.tuple #[]) ∧ (∃ s', Put (A ++ B) s' ∧ PartsAt w' g (p ++ s' ++ r)) ∧ Only g w w'

def SyA (g : Nat) (p A1 B1 q : List Pt) (w0 w : World) : Prop := ∃ s1, Put (A1 ++ B1) s1 ∧ PartsAt w g (p ++ s1 ++ q) ∧ Only g w0 w
theorem put_self {l : List Pt} (h : Srt l) : Put l l := ⟨List.Perm.refl _, h⟩
theorem srt_one {A B : List Pt} (hA : Srt A) (hB : Srt B) (h : A.length = 0 ∨ B.length = 0) : Srt (A ++ B) := by
  rcases h with h | h
  · obtain rfl : A = [] := List.length_eq_zero_iff.1 h
    simpa using hB
  · obtain rfl : B = [] := List.length_eq_zero_iff.1 h
    simpa using hA
def CtSt (g : Nat) (p A B r : List Pt) (M s0 r0 : Nat) (w0 w : World) (i j : Nat) : Prop := Cut A B M s0 r0 i j ∧ PartsAt w g (p ++ A ++ B ++ r) ∧ Only g w0 w

set_option maxRecDepth 100000 in
set_option maxHeartbeats 6400000 in
theorem sym_gen (N : Nat) (IH : SymC N) (g cap L : Nat) (p A B r : List Pt) (u v z : Int) (D : List Pt) (w : World) (ha : 1 < A.length) (hb : 1 < B.length) (hN : A.length + B.length ≤ N + 1) (hs : Srt A) (ht : Srt B) (hAB : Ahead A B)
    (hu : u = (p.length : Int)) (hv : v = (p.length : Int) + A.length) (hz : z = (p.length : Int) + A.length + B.length) (hDD : D = p ++ A ++ B ++ r) (hD : PartsAt w g D) (hL : D.length = L) (hl : L ≤ 1000000) :
    Calls Tryz.prog 156 #[.slice (some ⟨g, 0, none⟩) L cap, .int .i64 u, .int .i64 v, .int .i64 z, cmpF] w fun e w' => e = .returned (.tuple #[]) ∧ (∃ s', Put (A ++ B) s' ∧ PartsAt w' g (p ++ s' ++ r)) ∧ Only g w w' := by
  subst hDD
  have hLL : p.length + A.length + B.length + r.length = L := by rw [← hL]; simp; omega
  obtain ⟨P, hP⟩ : ∃ n, p.length = n := ⟨_, rfl⟩
  obtain ⟨na, hna⟩ : ∃ n, A.length = n := ⟨_, rfl⟩
  obtain ⟨nb, hnb⟩ : ∃ n, B.length = n := ⟨_, rfl⟩
  rw [hP] at hu hv hz hLL
  rw [hna] at hv hz hLL ha hN
  rw [hnb] at hz hLL hb hN
  have HPN := hide (And.intro hP (And.intro hna hnb))
  have HS := hide (And.intro hs (And.intro ht hAB))
  have HI := hide IH
  have HD := hide hD
  have hg := hD.lt
  obtain ⟨M, hM⟩ : ∃ M, (na + nb) / 2 = M := ⟨_, rfl⟩
  have hmid : ((P : Int) + ((P : Int) + (na : Int) + (nb : Int))) / 2 = (P : Int) + (M : Int) := by omega
  subst hu hv hz
  clear hD hL hP hna hnb hs ht hAB IH
  go_enter Tryz.func156, Tryz.ntmps156
  have hone : ((P : Int) + (na : Int) - (P : Int) == 1) = false := by rw [beq_eq_false_iff_ne]; omega
  have htwo : ((P : Int) + (na : Int) + (nb : Int) - ((P : Int) + (na : Int)) == 1) = false := by rw [beq_eq_false_iff_ne]; omega
  go_upto_if 140 with (fail)
  go_cut [20, 21] (fun s20 s21 wx => ∃ s0 r0 : Nat, s20 = .int .i64 ((P : Int) + (s0 : Int)) ∧ s21 = .int .i64 ((P : Int) + (r0 : Int)) ∧ (s0 ≤ r0 ∧ r0 ≤ na ∧ r0 ≤ M ∧ M ≤ s0 + nb ∧ (s0 = 0 ∨ s0 + nb = M) ∧ (r0 = M ∨ r0 = na)) ∧ w = wx)
  case first =>
    as_aux_lemma =>
      by_cases hc : (P : Int) + (M : Int) < (P : Int) + (na : Int)
      · go_wp2_with fail
        go_meet
        case rel => exact ⟨M - nb, M, by congr 1; omega, rfl, by omega, rfl⟩
      · go_wp2_with fail
        go_meet
        case rel => exact ⟨0, na, by first | rfl | (congr 1; omega), rfl, by omega, rfl⟩
  case rest =>
    obtain ⟨s0, r0, rfl, rfl, ⟨hs1, hs2, hs3, hs4, hs5, hs6⟩, rfl⟩ := hcut
    have H0 := hide (show CtSt g p A B r M s0 r0 w w s0 r0 from ⟨⟨.inl rfl, .inl rfl⟩, HD.out, Only.refl _ _⟩)
    have HSS := hide (And.intro hs5 hs6)
    clear hs5 hs6 hmid
    go_wp2_with fail
    go_loopw [20, 21] (fun s20 s21 wr => ∃ i j : Nat, s20 = .int .i64 ((P : Int) + (i : Int)) ∧ s21 = .int .i64 ((P : Int) + (j : Int)) ∧ s0 ≤ i ∧ i ≤ j ∧ j ≤ r0 ∧ CtSt g p A B r M s0 r0 w wr i j) (fun s t _ => (intOf t - intOf s).toNat)
    case atStart => exact ⟨s0, r0, rfl, rfl, by omega, by omega, by omega, H0.out⟩
    case round =>
      obtain ⟨i, j, rfl, rfl, hi0, hij, hjn, hSr⟩ := hrel
      have HR := hide hSr
      clear hSr
      by_cases hlt : i < j
      · as_aux_lemma =>
          obtain ⟨H, hH⟩ : ∃ H : Nat, (i + j) / 2 = H := ⟨_, rfl⟩
          have hmid : ((P : Int) + (i : Int) + ((P : Int) + (j : Int))) / 2 = ((P + H : Nat) : Int) := by omega
          have hH1 : i ≤ H ∧ H < j := by omega
          obtain ⟨q, hq⟩ : ∃ q, P + H = q := ⟨_, rfl⟩
          obtain ⟨t, ht⟩ : ∃ t, P + na + (M - 1 - H) = t := ⟨_, rfl⟩
          rw [hq] at hmid
          have hsub : (P : Int) + (M : Int) + ((P : Int) + (na : Int)) - 1 - (q : Int) = (t : Int) := by omega
          obtain ⟨x, hx⟩ : ∃ x, A[H]? = some x := ⟨_, List.getElem?_eq_getElem (by rw [HPN.out.2.1]; omega)⟩
          obtain ⟨y, hy⟩ : ∃ y, B[M - 1 - H]? = some y := ⟨_, List.getElem?_eq_getElem (by rw [HPN.out.2.2]; omega)⟩
          have hD1 : (p ++ A ++ B ++ r)[q]? = some x := by
            rw [List.append_assoc, List.append_assoc, List.getElem?_append_right (by rw [HPN.out.1]; omega), HPN.out.1, show q - P = H by omega, List.getElem?_append_left (by rw [HPN.out.2.1]; omega)]
            exact hx
          have hD2 : (p ++ A ++ B ++ r)[t]? = some y := by
            rw [List.append_assoc, List.getElem?_append_right (by rw [List.length_append, HPN.out.1, HPN.out.2.1]; omega), List.length_append, HPN.out.1, HPN.out.2.1, show t - (P + na) = M - 1 - H by omega, List.getElem?_append_left (by rw [HPN.out.2.2]; omega)]
            exact hy
          obtain ⟨c1, c2⟩ := HR.out.2.1.cell hD1
          obtain ⟨c3, c4⟩ := HR.out.2.1.cell hD2
          have k1 := cell_regrown c1
          have k2 := cell_regrown c2
          have k3 := cell_regrown c3
          have k4 := cell_regrown c4
          have hyx := HS.out.2.2 x (List.mem_of_getElem? hx) y (List.mem_of_getElem? hy)
          have HK := hide (And.intro hx (And.intro hy (And.intro hyx hq)))
          have q1 : (q : Int) < (L : Int) := by omega
          have q2 : (t : Int) < (L : Int) := by omega
          have hgr := HR.out.2.1.lt
          obtain ⟨hH2, hH3⟩ := hH1
          clear hx hy hyx hD1 hD2 hH
          go_wp2_with fail
          try rw [hmid]
          refine wp_region_quiet_below (by kernel_rfl) (by kernel_rfl) ?_
          repeat (go_big_quiet_step (first | exact Calls.regrown_of (cmp_any y x _) | fail))
          refine wpQuiet_nil ?_
          intro _ hw'
          obtain ⟨⟨dq, osq⟩, hw2⟩ := hw'
          subst hw2
          obtain ⟨wq, hwq⟩ : ∃ wq, grow (redrawn wr dq) osq = wq := ⟨_, rfl⟩
          have HBQ := hide (show Below wr.heap.size wr wq by rw [← hwq]; exact below_regrown wr dq osq)
          have HPQ := hide (HR.out.2.1.call HBQ.out)
          have HBG := hide (HR.out.2.2.trans (Only.of HBQ.out g))
          rw [hwq]
          clear k1 k2 k3 k4 c1 c2 c3 c4 hwq
          by_cases hlt2 : cmpI y x < 0
          · have HN := hide (show CtSt g p A B r M s0 r0 w wq i H from ⟨⟨HR.out.1.1, .inr ⟨x, y, by omega, HK.out.1, HK.out.2.1, (Pt.lt_iff HK.out.2.2.1).2 ((cmpI_neg y x).1 hlt2)⟩⟩, HPQ.out, HBG.out⟩)
            rw [decide_eq_true hlt2]
            go_wp2
            go_roundw
            case rel => exact ⟨i, H, rfl, by have := HK.out.2.2.2; congr 1; omega, by omega, by omega, by omega, HN.out⟩
            case measure => have := HK.out.2.2.2; simp [intOf]; omega
          · have HN := hide (show CtSt g p A B r M s0 r0 w wq (H + 1) j from ⟨⟨.inr ⟨x, y, by omega, HK.out.1, by rw [show M - (H + 1) = M - 1 - H by omega]; exact HK.out.2.1, Pt.not_lt (by have := HK.out.2.2.1; omega) (fun e => hlt2 ((cmpI_neg y x).2 ((Pt.lt_iff HK.out.2.2.1).1 e)))⟩, HR.out.1.2⟩, HPQ.out, HBG.out⟩)
            rw [decide_eq_false hlt2]
            go_wp2
            go_roundw
            case rel => exact ⟨H + 1, j, by have := HK.out.2.2.2; congr 1; omega, rfl, by omega, by omega, by omega, HN.out⟩
            case measure => have := HK.out.2.2.2; simp [intOf]; omega
      · obtain rfl : j = i := by omega
        have hjA : j ≤ A.length := by rw [HPN.out.2.1]; omega
        obtain ⟨e1, e2⟩ := HR.out.1.ends (by rw [HPN.out.2.2]; exact HSS.out.1) (by rw [HPN.out.2.1]; exact HSS.out.2) hjA (by omega) (by rw [HPN.out.2.2]; omega)
        obtain ⟨A1, hA1⟩ : ∃ l, A.take j = l := ⟨_, rfl⟩
        obtain ⟨A2, hA2⟩ : ∃ l, A.drop j = l := ⟨_, rfl⟩
        obtain ⟨B1, hB1⟩ : ∃ l, B.take (M - j) = l := ⟨_, rfl⟩
        obtain ⟨B2, hB2⟩ : ∃ l, B.drop (M - j) = l := ⟨_, rfl⟩
        have HA := hide (show A = A1 ++ A2 by rw [← hA1, ← hA2, List.take_append_drop])
        have HB := hide (show B = B1 ++ B2 by rw [← hB1, ← hB2, List.take_append_drop])
        have HLA := hide (show A1.length = j ∧ A2.length = na - j by rw [← hA1, ← hA2, List.length_take, List.length_drop, HPN.out.2.1]; omega)
        have HLB := hide (show B1.length = M - j ∧ B2.length = nb - (M - j) by rw [← hB1, ← hB2, List.length_take, List.length_drop, HPN.out.2.2]; omega)
        rw [hA1, hB2] at e1
        rw [hB1, hA2] at e2
        have HE := hide (And.intro e1 e2)
        have HPT := hide (show PartsAt wr g (p ++ (A1 ++ A2) ++ (B1 ++ B2) ++ r) by rw [← HA.out, ← HB.out]; exact HR.out.2.1)
        have HBL := hide HR.out.2.2
        clear e1 e2 hA1 hA2 hB1 hB2 hjA HR
        have hLA := HLA.out
        have hLB := HLB.out
        obtain ⟨E, hE⟩ : ∃ E : Nat, P + M + (na - j) = E := ⟨_, rfl⟩
        have hEE : (P : Int) + (M : Int) + ((P : Int) + (na : Int)) - ((P : Int) + (j : Int)) = (E : Int) := by omega
        have hEn : P + M ≤ E ∧ E ≤ P + na + nb := by omega
        have HEq := hide hE
        have HST := hide (show Srt (A1 ++ A2) ∧ Srt (B1 ++ B2) ∧ Ahead (A1 ++ A2) (B1 ++ B2) by rw [← HA.out, ← HB.out]; exact HS.out)
        have HJ := hide (fun (s1 s2 : List Pt) => join_put (s1 := s1) (s2 := s2) HST.out.1 HST.out.2.1 HE.out.1 HE.out.2)
        have HLG := hide (show (p ++ (A1 ++ B1) ++ (A2 ++ B2) ++ r).length = L by simp only [List.length_append]; have := HPN.out.1; omega)
        have HLAB := hide (And.intro hLA hLB)
        obtain ⟨hEn1, hEn2⟩ := hEn
        clear hLA hLB hE
        go_upto_region 39 with (fail)
        go_cut [185] (fun b wx => b = .bool (decide (j < na ∧ j < M)) ∧ wr = wx)
        case first =>
          as_aux_lemma =>
            by_cases h1 : j < na
            · by_cases h2 : j < M
              · have h3 : P + na < E := by have := HEq.out; omega
                go_wp2_with fail
                go_meet
                case rel => exact ⟨by simp [h1, h2]; omega, rfl⟩
              · have h3 : E ≤ P + na := by have := HEq.out; omega
                go_wp2_with fail
                go_meet
                case rel => exact ⟨by simp [h1, h2]; omega, rfl⟩
            · go_wp2_with fail
              go_meet
              case rel => exact ⟨by simp [h1], rfl⟩
        case rest =>
          obtain ⟨rfl, rfl⟩ := hcut
          go_upto_if 185 with (fail)
          obtain ⟨bb, hbb⟩ : ∃ bb, decide (j < na ∧ j < M) = bb := ⟨_, rfl⟩
          rw [hbb]
          go_cut [] (fun wx => PartsAt wx g (p ++ (A1 ++ B1) ++ (A2 ++ B2) ++ r) ∧ Only g w wx)
          case first =>
            as_aux_lemma =>
              cases bb
              · have h0 := of_decide_eq_false hbb
                have HN := hide (show PartsAt wr g (p ++ (A1 ++ B1) ++ (A2 ++ B2) ++ r) from by
                  have h := HPT.out
                  have hl := HLAB.out
                  rcases (show na ≤ j ∨ M ≤ j by omega) with h9 | h9
                  · obtain rfl : A2 = [] := List.length_eq_zero_iff.1 (by omega)
                    simpa using h
                  · obtain rfl : B1 = [] := List.length_eq_zero_iff.1 (by omega)
                    simpa using h)
                clear hbb h0
                go_wp2_with fail
                go_meet
                case rel => exact ⟨HN.out, HBL.out⟩
              · have h0 := of_decide_eq_true hbb
                have HROT := hide (rot_any g cap L (p ++ A1) A2 B1 (B2 ++ r) ((P : Int) + (j : Int)) ((P : Int) + (na : Int)) (E : Int) (p ++ (A1 ++ A2) ++ (B1 ++ B2) ++ r) cmpF wr (by have := HLAB.out; omega) (by have := HLAB.out; omega)
                  (by simp only [List.length_append]; have := HLAB.out; have := HPN.out.1; omega) (by simp only [List.length_append]; have := HLAB.out; have := HPN.out.1; omega) (by simp only [List.length_append]; have := HLAB.out; have := HPN.out.1; have := HEq.out; omega) (by simp) HPT.out (by have := HLG.out; simp only [List.length_append] at this ⊢; omega) hl)
                clear hbb h0
                go_wp2_with fail
                refine HROT.out.mono ?_
                rintro e w2 ⟨rfl, hp2, hb2⟩
                have HN := hide (show PartsAt w2 g (p ++ (A1 ++ B1) ++ (A2 ++ B2) ++ r) by simpa using hp2)
                have HNB := hide (HBL.out.trans hb2)
                clear hp2 hb2
                go_wp2_with fail
                go_meet
                case rel => exact ⟨HN.out, HNB.out⟩
          case rest =>
            obtain ⟨hP1, hB1⟩ := hcut
            have HP1 := hide (And.intro hP1 hB1)
            clear hP1 hB1 hbb
            obtain ⟨w3, hw3⟩ : ∃ w3, w3 = wc := ⟨_, rfl⟩
            rw [← hw3] at HP1 ⊢
            clear hw3
            go_upto_region 41 with (fail)
            go_cut [199] (fun b wx => b = .bool (decide (0 < j ∧ j < M)) ∧ w3 = wx)
            case first =>
              as_aux_lemma =>
                by_cases h1 : 0 < j
                · by_cases h2 : j < M
                  · go_wp2_with fail
                    all_goals first
                      | (exfalso; omega)
                      | (go_meet; case rel => exact ⟨by simp [h1, h2]; try omega, rfl⟩)
                  · go_wp2_with fail
                    all_goals first
                      | (exfalso; omega)
                      | (go_meet; case rel => exact ⟨by simp [h1, h2]; try omega, rfl⟩)
                · go_wp2_with fail
                  all_goals first
                    | (exfalso; omega)
                    | (go_meet; case rel => exact ⟨by simp [h1]; try omega, rfl⟩)
            case rest =>
              obtain ⟨rfl, rfl⟩ := hcut
              go_upto_if 199 with (fail)
              obtain ⟨bb, hbb⟩ : ∃ bb, decide (0 < j ∧ j < M) = bb := ⟨_, rfl⟩
              rw [hbb]
              go_cut [] (fun wx => SyA g p A1 B1 (A2 ++ B2 ++ r) w wx)
              case first =>
                as_aux_lemma =>
                  cases bb
                  · have h0 := of_decide_eq_false hbb
                    have HN := hide (show SyA g p A1 B1 (A2 ++ B2 ++ r) w w3 from ⟨A1 ++ B1, put_self (srt_one HST.out.1.left HST.out.2.1.left (by have := HLAB.out; omega)), by simpa using HP1.out.1, HP1.out.2⟩)
                    clear hbb h0
                    go_wp2_with fail
                    go_meet
                    case rel => exact HN.out
                  · have h0 := of_decide_eq_true hbb
                    have HSY := hide (HI.out g cap L p A1 B1 (A2 ++ B2 ++ r) (P : Int) ((P : Int) + (j : Int)) ((P : Int) + (M : Int)) (p ++ (A1 ++ B1) ++ (A2 ++ B2) ++ r) w3 (by have := HLAB.out; omega) (by have := HLAB.out; omega) (by have := HLAB.out; omega)
                      HST.out.1.left HST.out.2.1.left (HST.out.2.2.sub (fun x hx => List.mem_append_left _ hx) (fun x hx => List.mem_append_left _ hx)) (by have := HPN.out.1; omega) (by have := HLAB.out; have := HPN.out.1; omega) (by have := HLAB.out; have := HPN.out.1; omega) (by simp) HP1.out.1 HLG.out hl)
                    clear hbb h0
                    go_wp2_with fail
                    refine HSY.out.mono ?_
                    rintro e w4 ⟨rfl, ⟨s1, hs1, hp4⟩, hb4⟩
                    have HN := hide (show SyA g p A1 B1 (A2 ++ B2 ++ r) w w4 from ⟨s1, hs1, hp4, HP1.out.2.trans hb4⟩)
                    clear hs1 hp4 hb4
                    go_wp2_with fail
                    go_meet
                    case rel => exact HN.out
              case rest =>
                obtain ⟨s1, hs1, hp5, hb5⟩ := hcut
                have HP5 := hide (And.intro hs1 (And.intro hp5 hb5))
                have HL5 := hide (show s1.length = M by rw [hs1.1.length_eq, List.length_append]; have := HLAB.out; omega)
                clear hs1 hp5 hb5 hbb HP1
                obtain ⟨w5, hw5⟩ : ∃ w5, w5 = wc := ⟨_, rfl⟩
                rw [← hw5] at HP5 ⊢
                clear hw5
                by_cases h1 : P + M < E ∧ E < P + na + nb
                · have HSY := hide (HI.out g cap L (p ++ s1) A2 B2 r ((P : Int) + (M : Int)) (E : Int) ((P : Int) + (na : Int) + (nb : Int)) (p ++ s1 ++ (A2 ++ B2 ++ r)) w5 (by have := HLAB.out; have := HEq.out; omega) (by have := HLAB.out; have := HEq.out; omega) (by have := HLAB.out; omega)
                    HST.out.1.right HST.out.2.1.right (HST.out.2.2.sub (fun x hx => List.mem_append_right _ hx) (fun x hx => List.mem_append_right _ hx)) (by rw [List.length_append]; have := HPN.out.1; have := HL5.out; omega) (by rw [List.length_append]; have := HLAB.out; have := HPN.out.1; have := HL5.out; have := HEq.out; omega) (by rw [List.length_append]; have := HLAB.out; have := HPN.out.1; have := HL5.out; omega) (by simp) HP5.out.2.1
                    (by have h6 := HLG.out; simp only [List.length_append] at h6 ⊢; have := HL5.out; have := HLAB.out; omega) hl)
                  obtain ⟨h2, h3⟩ := h1
                  go_wp2_with fail
                  all_goals first
                    | (exfalso; omega)
                    | skip
                  refine HSY.out.mono ?_
                  rintro e w6 ⟨rfl, ⟨s2, hs2, hp6⟩, hb6⟩
                  have HF := hide (show ∃ s', Put (A ++ B) s' ∧ PartsAt w6 g (p ++ s' ++ r) from ⟨s1 ++ s2, by rw [HA.out, HB.out]; exact HJ.out s1 s2 HP5.out.1 hs2, by simpa using hp6⟩)
                  have HFB := hide (HP5.out.2.2.trans hb6)
                  clear hs2 hp6 hb6
                  go_wp2
                  all_goals first
                    | (exfalso; omega)
                    | (go_end0; exact ⟨rfl, by first | exact HF.out | simpa only [List.append_assoc] using HF.out, HFB.out⟩)
                · have HF := hide (show ∃ s', Put (A ++ B) s' ∧ PartsAt w5 g (p ++ s' ++ r) from ⟨s1 ++ (A2 ++ B2), by
                    rw [HA.out, HB.out]
                    exact HJ.out s1 (A2 ++ B2) HP5.out.1 (put_self (srt_one HST.out.1.right HST.out.2.1.right (by have := HLAB.out; have := HEq.out; omega))), by simpa using HP5.out.2.1⟩)
                  have HFB := hide HP5.out.2.2
                  rcases (show E ≤ P + M ∨ (P + M < E ∧ P + na + nb ≤ E) by omega) with h2 | ⟨h2, h3⟩
                  all_goals
                    clear h1
                    go_wp2
                    all_goals first
                      | (exfalso; omega)
                      | (go_end0; exact ⟨rfl, by first | exact HF.out | simpa only [List.append_assoc] using HF.out, HFB.out⟩)
end Go.Proofs.YtamnccechaooaaaGreat
