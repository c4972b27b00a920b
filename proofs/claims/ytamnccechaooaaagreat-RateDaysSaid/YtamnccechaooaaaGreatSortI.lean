/- The sort of the parts: all of it. -/
import Derived.Test.YtamnccechaooaaaGreatSortG
import Derived.Test.YtamnccechaooaaaGreatSortH
namespace Go.Proofs.YtamnccechaooaaaGreat
open Go.RowKit Go.Sort
set_option linter.unusedSimpArgs false
set_option linter.unusedVariables false

theorem sym_all : ∀ N, SymC N := by
  intro N
  induction N with
  | zero =>
    intro g cap L p A B r u v z D w ha hb hN
    omega
  | succ N ih =>
    intro g cap L p A B r u v z D w ha hb hN hs ht hAB hu hv hz hDD hD hL hl
    by_cases h1 : A.length = 1
    · obtain ⟨x, rfl⟩ := List.length_eq_one_iff.1 h1
      refine (sym_one g cap L p B r x u v z D w ht (fun y hy => hAB x (by simp) y hy) hb hu (by simpa using hv) (by simpa using hz) (by simpa using hDD) hD hL hl).mono ?_
      rintro e w' ⟨h3, h4, h5⟩
      exact ⟨h3, by simpa using h4, h5⟩
    · by_cases h2 : B.length = 1
      · obtain ⟨x, rfl⟩ := List.length_eq_one_iff.1 h2
        exact sym_last g cap L p A r x u v z D w hs (fun y hy => hAB y hy x (by simp)) (by omega) hu hv (by simpa using hz) (by simpa using hDD) hD hL hl
      · exact sym_gen N ih g cap L p A B r u v z D w (by omega) (by omega) hN hs ht hAB hu hv hz hDD hD hL hl
theorem ck_split {b i : Nat} {s D : List Pt} (h : D.drop (i * b) = s.drop (i * b)) : D = D.take (i * b) ++ Ck b i s ++ D.drop ((i + 1) * b) := by
  unfold Ck
  rw [← h, show (i + 1) * b = i * b + b from Nat.succ_mul _ _, ← List.drop_drop, List.append_assoc, List.take_append_drop, List.take_append_drop]
theorem ck_incr (b i : Nat) {s : List Pt} (h : Incr s) : Incr (Ck b i s) := List.Pairwise.sublist ((List.take_sublist _ _).trans (List.drop_sublist _ _)) h
def ISt (g : Nat) (s : List Pt) (w0 w : World) (i : Nat) : Prop := ∃ D, InsL 20 s D i ∧ PartsAt w g D ∧ Only g w0 w
def BSt (g b : Nat) (s : List Pt) (w0 w : World) : Prop := ∃ D, D.length = s.length ∧ Bls b s D ∧ PartsAt w g D ∧ Only g w0 w
def SSt (g b : Nat) (s : List Pt) (w0 w : World) (i : Nat) : Prop := ∃ D, SymL b s D i ∧ PartsAt w g D ∧ Only g w0 w

set_option maxRecDepth 100000 in
set_option maxHeartbeats 6400000 in
theorem stable_any (g cap L : Nat) (s : List Pt) (w : World) (hs : Incr s) (hD : PartsAt w g s) (hL : s.length = L) (hl : L ≤ 100000) :
    Calls Tryz.prog 132 #[.slice (some ⟨g, 0, none⟩) L cap, .int .i64 L, cmpF] w fun e w' => e = .returned (.tuple #[]) ∧ (∃ s', Put s s' ∧ PartsAt w' g s') ∧ Only g w w' := by
  have H0 := hide (show ISt g s w w 0 from ⟨s, ⟨rfl, fun c hc => absurd hc (Nat.not_lt_zero _), rfl⟩, hD, Only.refl _ _⟩)
  have HL := hide hL
  have HS := hide hs
  have HSY := hide sym_all
  clear hD hL hs
  go_enter Tryz.func132, Tryz.ntmps132
  go_wp2_with fail
  go_loopw [7, 8] (fun s7 s8 wr => ∃ i a : Nat, s7 = .int .i64 (a : Int) ∧ s8 = .int .i64 ((a + 20 : Nat) : Int) ∧ Hid (a = i * 20) ∧ a ≤ L ∧ ISt g s w wr i) (fun _ s8 _ => (L + 100 - intOf s8).toNat)
  case atStart => exact ⟨0, 0, rfl, rfl, hide rfl, Nat.zero_le _, H0.out⟩
  case round =>
    obtain ⟨i, a, rfl, rfl, HA, haL, D, hI, hP, hB⟩ := hrel
    have HI := hide (And.intro hI (And.intro hP hB))
    have HDD := hide (ck_split hI.2.2)
    have HDL := hide (show D.length = L by rw [hI.1]; exact HL.out)
    have HCL := hide (show (Ck 20 i s).length = min 20 (L - a) by rw [ck_len, HL.out, HA.out])
    have HTL := hide (show (D.take (i * 20)).length = a by rw [List.length_take, HDL.out, HA.out]; have := HA.out; omega)
    have hgr := hP.lt
    clear hI hP hB
    by_cases hlt : a + 20 ≤ L
    · go_wp2_with fail
      all_goals first
        | (exfalso; omega)
        | skip
      refine (ins_any g cap L (D.take (i * 20)) (Ck 20 i s) (D.drop ((i + 1) * 20)) _ _ D _ (ck_incr 20 i HS.out) (by rw [HTL.out]) (by rw [HTL.out, HCL.out]; omega) HDD.out HI.out.2.1 HDL.out (by omega)).mono ?_
      rintro e w2 ⟨rfl, ⟨s', hs', hp2⟩, hb2⟩
      have HN := hide (show ISt g s w w2 (i + 1) from ⟨_, HI.out.1.step hs' hs'.1.length_eq, hp2, HI.out.2.2.trans hb2⟩)
      clear hs' hp2 hb2
      go_wp2
      go_roundw
      case rel => exact ⟨i + 1, a + 20, by first | rfl | (congr 1; omega), by first | rfl | (congr 1; done) | (congr 1; omega), hide (by have := HA.out; omega), hlt, HN.out⟩
      case measure => simp [intOf]; omega
    · go_wp2_with fail
      all_goals first
        | (exfalso; omega)
        | skip
      refine (ins_any g cap L (D.take (i * 20)) (Ck 20 i s) (D.drop ((i + 1) * 20)) _ _ D _ (ck_incr 20 i HS.out) (by rw [HTL.out]) (by rw [HTL.out, HCL.out]; omega) HDD.out HI.out.2.1 HDL.out (by omega)).mono ?_
      rintro e w2 ⟨rfl, ⟨s', hs', hp2⟩, hb2⟩
      have hst := HI.out.1.step hs' hs'.1.length_eq
      have HN := hide (show BSt g 20 s w w2 from ⟨_, hst.1, hst.fin (by rw [HL.out]; have := HA.out; omega), hp2, HI.out.2.2.trans hb2⟩)
      clear hs' hp2 hb2 hst
      go_wp2_with fail
      go_loopw [6] (fun s6 wr => ∃ b : Nat, s6 = .int .i64 (b : Int) ∧ 20 ≤ b ∧ b ≤ 2 * L + 20 ∧ BSt g b s w wr) (fun s6 _ => (L + 100 - intOf s6).toNat)
      case atStart => exact ⟨20, rfl, by omega, by omega, HN.out⟩
      case round =>
        obtain ⟨b, rfl, hb20, hb2L, D, hDL, hBl, hP, hB⟩ := hrel
        have HB := hide (And.intro hDL (And.intro hBl (And.intro hP hB)))
        have hgr := hP.lt
        by_cases hlt2 : b < L
        · have HN0 := hide (show SSt g b s w wr 0 from ⟨D, SymL.start hDL hBl, hP, hB⟩)
          obtain ⟨B2, hB2⟩ : ∃ n : Nat, 2 * b = n := ⟨_, rfl⟩
          have hm1 : (2 : Int) * (b : Int) = (B2 : Int) := by omega
          have hm2 : (b : Int) * 2 = (B2 : Int) := by omega
          have HB2 := hide hB2
          have hB2b : 40 ≤ B2 ∧ B2 ≤ 4 * L + 40 := by omega
          obtain ⟨hB2c, hB2d⟩ := hB2b
          clear hDL hBl hP hB hB2
          obtain ⟨wo, hwo⟩ : ∃ wo : World, wo = wr := ⟨_, rfl⟩
          rw [← hwo] at HN0 ⊢
          clear hwo
          go_wp2_with fail
          go_loopw [7, 8] (fun s7 s8 wr => ∃ i a : Nat, s7 = .int .i64 (a : Int) ∧ s8 = .int .i64 ((a + B2 : Nat) : Int) ∧ Hid (a = i * (2 * b)) ∧ a ≤ L ∧ SSt g b s w wr i) (fun _ s8 _ => (L + B2 + 100 - intOf s8).toNat)
          case atStart => exact ⟨0, 0, rfl, by first | rfl | (congr 1; omega), hide (by simp), Nat.zero_le _, HN0.out⟩
          case round =>
            obtain ⟨i, a, rfl, rfl, HAi, haL2, D2, hI, hP, hB⟩ := hrel
            have HI2 := hide (And.intro hI (And.intro hP hB))
            have HRN := hide (hI.runs HS.out)
            have HD2 := hide (split_at b i D2)
            have HD2L := hide (show D2.length = L by rw [hI.1]; exact HL.out)
            have HAL := hide (show (Ck b (2 * i) D2).length = min b (L - a) by rw [ck_len, HD2L.out, HAi.out]; congr 2; rw [Nat.mul_left_comm, Nat.mul_assoc])
            have HBL := hide (show (Ck b (2 * i + 1) D2).length = min b (L - (a + b)) by rw [ck_len, HD2L.out, HAi.out]; congr 2; rw [Nat.succ_mul]; congr 1; rw [Nat.mul_left_comm, Nat.mul_assoc])
            have HTL2 := hide (show (D2.take (i * (2 * b))).length = a by rw [List.length_take, HD2L.out, ← HAi.out]; omega)
            have hgr2 := hP.lt
            clear hI hP hB
            by_cases hlt3 : a + B2 ≤ L
            · go_wp2_with fail
              all_goals first
                | (exfalso; omega)
                | skip
              refine (HSY.out (2 * b) g cap L (D2.take (i * (2 * b))) (Ck b (2 * i) D2) (Ck b (2 * i + 1) D2) (D2.drop ((i + 1) * (2 * b))) _ _ _ D2 _ (by rw [HAL.out]; have := HB2.out; omega) (by rw [HBL.out]; have := HB2.out; omega) (by rw [HAL.out, HBL.out]; omega) HRN.out.1 HRN.out.2.1 HRN.out.2.2
                (by rw [HTL2.out]) (by rw [HTL2.out, HAL.out]; have := HB2.out; omega) (by rw [HTL2.out, HAL.out, HBL.out]; have := HB2.out; omega) HD2.out HI2.out.2.1 HD2L.out (by omega)).mono ?_
              rintro e w3 ⟨rfl, ⟨s', hs', hp3⟩, hb3⟩
              have HN3 := hide (show SSt g b s w w3 (i + 1) from ⟨_, HI2.out.1.step hs', hp3, HI2.out.2.2.trans hb3⟩)
              clear hs' hp3 hb3
              go_wp2
              go_roundw
              case rel => exact ⟨i + 1, a + B2, by first | rfl | (congr 1; omega), by first | rfl | (congr 1; done) | (congr 1; omega), hide (by have h1 := HAi.out; have h2 := HB2.out; rw [Nat.succ_mul]; omega), hlt3, HN3.out⟩
              case measure => simp [intOf]; omega
            · by_cases hlt4 : a + b < L
              · go_wp2_with fail
                all_goals first
                  | (exfalso; omega)
                  | skip
                refine (HSY.out (2 * b) g cap L (D2.take (i * (2 * b))) (Ck b (2 * i) D2) (Ck b (2 * i + 1) D2) (D2.drop ((i + 1) * (2 * b))) _ _ _ D2 _ (by rw [HAL.out]; have := HB2.out; omega) (by rw [HBL.out]; have := HB2.out; omega) (by rw [HAL.out, HBL.out]; omega) HRN.out.1 HRN.out.2.1 HRN.out.2.2
                  (by rw [HTL2.out]) (by rw [HTL2.out, HAL.out]; have := HB2.out; omega) (by rw [HTL2.out, HAL.out, HBL.out]; have := HB2.out; omega) HD2.out HI2.out.2.1 HD2L.out (by omega)).mono ?_
                rintro e w3 ⟨rfl, ⟨s', hs', hp3⟩, hb3⟩
                have hst := HI2.out.1.step hs'
                have HN3 := hide (show BSt g B2 s w w3 from ⟨_, hst.1, by rw [← HB2.out]; exact hst.fin (by rw [HL.out, Nat.succ_mul]; have := HAi.out; have := HB2.out; omega), hp3, HI2.out.2.2.trans hb3⟩)
                clear hs' hp3 hb3 hst
                go_wp2
                go_roundw
                case rel => exact ⟨B2, by first | rfl | (congr 1; omega), by omega, by have := HB2.out; omega, HN3.out⟩
                case measure => have := HB2.out; simp [intOf]; omega
              · have HN3 := hide (show BSt g B2 s w wr from ⟨_, HI2.out.1.1, by rw [← HB2.out]; exact HI2.out.1.fin (by rw [HL.out, ← HAi.out]; omega), HI2.out.2.1, HI2.out.2.2⟩)
                go_wp2
                all_goals first
                  | (exfalso; omega)
                  | skip
                go_roundw
                case rel => exact ⟨B2, by first | rfl | (congr 1; omega), by omega, by have := HB2.out; omega, HN3.out⟩
                case measure => have := HB2.out; simp [intOf]; omega
        · have HF := hide (show ∃ s', Put s s' ∧ PartsAt wr g s' from ⟨D, hBl.fin hDL (by rw [HL.out]; omega), hP⟩)
          have HFB := hide hB
          clear hDL hBl hP hB
          go_wp2
          all_goals first
            | (exfalso; omega)
            | (go_end0; exact ⟨rfl, HF.out, HFB.out⟩)
set_option maxHeartbeats 1600000 in
theorem sort_any (g cap L : Nat) (s : List Pt) (w : World) (hs : Incr s) (hD : PartsAt w g s) (hL : s.length = L) (hl : L ≤ 100000) :
    Calls Tryz.prog 96 #[.slice (some ⟨g, 0, none⟩) L cap, cmpF] w fun e w' => e = .returned (.tuple #[]) ∧ PartsAt w' g (srtP s) ∧ Only g w w' := by
  have HC := hide (fun w hD => stable_any g cap L s w hs hD hL hl)
  have HU := hide (fun s' (h : Put s s') => Put.uniq h (srtP_put hs))
  have HD := hide hD
  clear hs hD hL
  go_enter Tryz.func96, Tryz.ntmps96
  go_wp2_with fail
  refine (HC.out _ HD.out).mono ?_
  rintro e w1 ⟨rfl, ⟨s', hs', hp⟩, hb⟩
  have HF := hide (show PartsAt w1 g (srtP s) by rw [← HU.out s' hs']; exact hp)
  have HB := hide hb
  clear hs' hp hb
  go_wp2
  go_end0
  exact ⟨rfl, HF.out, HB.out⟩
end Go.Proofs.YtamnccechaooaaaGreat
