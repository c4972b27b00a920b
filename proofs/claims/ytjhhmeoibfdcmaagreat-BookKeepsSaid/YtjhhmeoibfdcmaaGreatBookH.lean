/- Package book: the chapter's example. -/
import Derived.Test.YtjhhmeoibfdcmaaGreatBookG
import Derived.Test.YtjhhmeoibfdcmaaGreatVaryE
import Derived.Test.YtjhhmeoibfdcmaaGreatMFi
namespace Go.Proofs.YtjhhmeoibfdcmaaGreat
open Go.RowKit Qd
set_option linter.unusedSimpArgs false
set_option linter.unusedVariables false

noncomputable def sa22 : Int := (spV nrf23 ⟨5, 2023, 7⟩).a
noncomputable def pd22 : List Po := [⟨sa22, 3⟩, ⟨sa22, 4⟩]
theorem n22_b : isB sa22 = true ∧ unitE nrf23 ⟨5, 2023, 7⟩ = 0 := by decide +kernel
theorem n22_s : servE nrf23 sa22 = 0 ∧ servY nrf23 sa22 = 2023 :=
  serv_yes (by decide +kernel) (by unfold yrOk; decide +kernel) (by decide) (by decide)
theorem n22_x1 : TE nrf23 pd22 [] Z0 ⟨1, 2023, (ixN nrf23 2023 1 (wkN nrf23 2023 sa22) : Int) + 1⟩ = 0 ∧ TV nrf23 pd22 [] Z0 ⟨1, 2023, (ixN nrf23 2023 1 (wkN nrf23 2023 sa22) : Int) + 1⟩ = 7 := by decide +kernel
theorem n22_1 : fdE nrf23 sa22 1 = 0 ∧ TE nrf23 pd22 [] Z0 (fdU nrf23 sa22 1) = 0 ∧ TV nrf23 pd22 [] Z0 (fdU nrf23 sa22 1) = 7 := by
  have h := fd_served n22_s.1 1 (by omega) (by omega)
  rw [fdU, if_pos h, n22_s.2]
  exact ⟨h, n22_x1⟩
theorem n22_x2 : TE nrf23 pd22 [] Z0 ⟨2, 2023, (ixN nrf23 2023 2 (wkN nrf23 2023 sa22) : Int) + 1⟩ = 0 ∧ TV nrf23 pd22 [] Z0 ⟨2, 2023, (ixN nrf23 2023 2 (wkN nrf23 2023 sa22) : Int) + 1⟩ = 7 := by decide +kernel
theorem n22_2 : fdE nrf23 sa22 2 = 0 ∧ TE nrf23 pd22 [] Z0 (fdU nrf23 sa22 2) = 0 ∧ TV nrf23 pd22 [] Z0 (fdU nrf23 sa22 2) = 7 := by
  have h := fd_served n22_s.1 2 (by omega) (by omega)
  rw [fdU, if_pos h, n22_s.2]
  exact ⟨h, n22_x2⟩
theorem n22_x3 : TE nrf23 pd22 [] Z0 ⟨3, 2023, (ixN nrf23 2023 3 (wkN nrf23 2023 sa22) : Int) + 1⟩ = 0 ∧ TV nrf23 pd22 [] Z0 ⟨3, 2023, (ixN nrf23 2023 3 (wkN nrf23 2023 sa22) : Int) + 1⟩ = 7 := by decide +kernel
theorem n22_3 : fdE nrf23 sa22 3 = 0 ∧ TE nrf23 pd22 [] Z0 (fdU nrf23 sa22 3) = 0 ∧ TV nrf23 pd22 [] Z0 (fdU nrf23 sa22 3) = 7 := by
  have h := fd_served n22_s.1 3 (by omega) (by omega)
  rw [fdU, if_pos h, n22_s.2]
  exact ⟨h, n22_x3⟩
theorem n22_x4 : TE nrf23 pd22 [] Z0 ⟨4, 2023, (ixN nrf23 2023 4 (wkN nrf23 2023 sa22) : Int) + 1⟩ = 0 ∧ TV nrf23 pd22 [] Z0 ⟨4, 2023, (ixN nrf23 2023 4 (wkN nrf23 2023 sa22) : Int) + 1⟩ = 7 := by decide +kernel
theorem n22_4 : fdE nrf23 sa22 4 = 0 ∧ TE nrf23 pd22 [] Z0 (fdU nrf23 sa22 4) = 0 ∧ TV nrf23 pd22 [] Z0 (fdU nrf23 sa22 4) = 7 := by
  have h := fd_served n22_s.1 4 (by omega) (by omega)
  rw [fdU, if_pos h, n22_s.2]
  exact ⟨h, n22_x4⟩
theorem n22_x5 : TE nrf23 pd22 [] Z0 ⟨5, 2023, (ixN nrf23 2023 5 (wkN nrf23 2023 sa22) : Int) + 1⟩ = 0 ∧ TV nrf23 pd22 [] Z0 ⟨5, 2023, (ixN nrf23 2023 5 (wkN nrf23 2023 sa22) : Int) + 1⟩ = 7 := by decide +kernel
theorem n22_5 : fdE nrf23 sa22 5 = 0 ∧ TE nrf23 pd22 [] Z0 (fdU nrf23 sa22 5) = 0 ∧ TV nrf23 pd22 [] Z0 (fdU nrf23 sa22 5) = 7 := by
  have h := fd_served n22_s.1 5 (by omega) (by omega)
  rw [fdU, if_pos h, n22_s.2]
  exact ⟨h, n22_x5⟩
theorem n22_all (lv : Int) (h1 : 1 ≤ lv) (h5 : lv ≤ 5) : fdE nrf23 sa22 lv = 0 ∧ TE nrf23 pd22 [] Z0 (fdU nrf23 sa22 lv) = 0 ∧ TV nrf23 pd22 [] Z0 (fdU nrf23 sa22 lv) = 7 := by
  rcases (show lv = 1 ∨ lv = 2 ∨ lv = 3 ∨ lv = 4 ∨ lv = 5 by omega) with rfl | rfl | rfl | rfl | rfl
  · exact n22_1
  · exact n22_2
  · exact n22_3
  · exact n22_4
  · exact n22_5
theorem pd22_ok : (∀ p ∈ pd22, in64 p.n) ∧ pd22.length = 2 ∧ chkE [⟨sa22, 3⟩] [] = 0 ∧ chkE [] [] = 0 := by
  refine ⟨fun p hp => ?_, rfl, ?_, by decide⟩
  · simp [pd22] at hp
    rcases hp with rfl | rfl <;> exact ⟨by decide, by decide⟩
  · simp [chkE, dayB, n22_b.1, accsE]

def St22 (S : Sp) (v2 : Value) (B B2 B6 : Nat) (w0 w : World) : Prop := CalAt w B nrf23 ∧ B < w.heap.size ∧ BlkIs w B2 #[.int .i64 S.a, .int .i64 S.b] 45 ∧ BlkIs w B6 #[v2, .slice none 0 0] 30 ∧ Posts w v2 pd22 ∧ Below B w0 w
theorem St22.call {S : Sp} {v2 : Value} {B B2 B6 : Nat} {w0 w w' : World} (h : St22 S v2 B B2 B6 w0 w) (hb : Below w.heap.size w w') : St22 S v2 B B2 B6 w0 w' :=
  ⟨calAt_below hb h.2.1 h.1, Nat.lt_of_lt_of_le h.2.1 hb.size, h.2.2.1.call hb, h.2.2.2.1.call hb, h.2.2.2.2.1.call hb, h.2.2.2.2.2.trans (hb.mono (Nat.le_of_lt h.2.1))⟩
theorem St22.via {S : Sp} {v2 : Value} {B B2 B6 m : Nat} {w0 w W w' : World} (h : St22 S v2 B B2 B6 w0 w) (hb : Below m W w') (h1 : Below w.heap.size w W := by exact bel) (h2 : w.heap.size ≤ m := by exact sz) : St22 S v2 B B2 B6 w0 w' := h.call (h1.trans (hb.mono h2))

set_option maxRecDepth 100000 in
set_option maxHeartbeats 6400000 in
theorem live22_any (w : World) : Calls Tryz.prog 9 #[] w fun e w' => e = .returned (.bool true) ∧ Below w.heap.size w w' := by
  obtain ⟨g64, gl, gc1, gc0⟩ := pd22_ok
  have HB := hide (book0 nrf23 pd22 (by decide) (by rw [gl]; decide) g64)
  have HN := hide n22_b
  have HGC := hide (And.intro gc1 gc0)
  have HPD := hide (show pd22 = [] ++ [⟨sa22, 3⟩] ++ [⟨sa22, 4⟩] from rfl)
  have HAL := hide n22_all
  obtain ⟨S, hS⟩ : ∃ S, spV nrf23 ⟨5, 2023, 7⟩ = S := ⟨_, rfl⟩
  have HS := hide (show spV nrf23 ⟨5, 2023, 7⟩ = S ∧ sa22 = S.a from ⟨hS, by rw [← hS]; rfl⟩)
  rw [HS.out.2] at HPD HAL HN HGC
  clear hS g64 gl gc1 gc0
  go_enter Tryz.func9, Tryz.ntmps9
  go_wp2_with fail
  refine (uspan_any nrf23 ⟨5, 2023, 7⟩ _ (by decide)).mono ?_
  rintro e w1 ⟨rfl, hb1⟩
  rw [HN.out.2, HS.out.1]
  simp only [spanV]
  have hz1 : w.heap.size < w1.heap.size := by have := hb1.size; simp at this; omega
  have HB1 : Hid (Below w.heap.size w w1) := ww hb1
  have HQ1 := hide (calAt_below hb1 (by simp) (calAt_new w nrf23))
  clear hb1
  go_wp2_with fail
  refine (put_ok [] ⟨S.a, 3⟩ (.slice none 0 0) _ (Posts.nil _) (.inl rfl) (by decide) HGC.out.2 HN.out.1).mono ?_
  rintro e w2 ⟨⟨v1, rfl, ho1⟩, hb2⟩
  have hz2 : w1.heap.size < w2.heap.size := by have := hb2.size; simp at this; omega
  have HB2 : Hid (Below w.heap.size w w2) := by have hp := HB1.out; exact ww hb2
  have HQ2 : Hid (CalAt w2 w.heap.size nrf23) := by have hp := HQ1.out; exact qq hb2
  have HO1 := hide ho1
  have HSP := hide (BlkIs.call (BlkIs.new w1 #[.int .i64 S.a, .int .i64 S.b] 45) hb2)
  clear hb2 ho1
  obtain ⟨⟨s0, s1⟩, _, _, hs0⟩ := blk_two' HSP.out
  obtain ⟨ad1, cap1, rfl, _⟩ := ownP_posts HO1.out
  obtain ⟨g1, o1, rfl, _, _, _⟩ := (ownP_posts HO1.out).at (i := 0) (x := ⟨S.a, 3⟩) rfl
  go_wp2_with fail
  refine (put_ok [⟨S.a, 3⟩] ⟨S.a, 4⟩ (.slice (some ⟨g1, o1, none⟩) 1 cap1) _ ((ownP_posts HO1.out).call (by (repeat' exact bel))) (.inr ⟨_, _, rfl⟩) (by simp) HGC.out.1 HN.out.1).mono ?_
  rintro e w3 ⟨⟨v2, rfl, ho2⟩, hb3⟩
  have hz3 : w2.heap.size < w3.heap.size := by have := hb3.size; simp at this; omega
  have HB3 : Hid (Below w.heap.size w w3) := by have hp := HB2.out; exact ww hb3
  have HQ3 : Hid (CalAt w3 w.heap.size nrf23) := by have hp := HQ2.out; exact qq hb3
  have HSP3 := hide (BlkIs.call (HSP.out.alloc _) hb3)
  have HO2 := hide ho2
  clear hb3 ho2 s0 s1 hs0
  obtain ⟨ad2, cap2, rfl, _⟩ := ownP_posts HO2.out
  have HP3 := hide (show Posts w3 (.slice ad2 2 cap2) pd22 by rw [HPD.out]; exact ownP_posts HO2.out)
  have HS0 := hide (show St22 S (.slice ad2 2 cap2) w.heap.size w1.heap.size w3.heap.size w (w3.alloc (.cells #[.slice ad2 2 cap2, .slice none 0 0] 30)) from by
    have hBel := HB3.out
    exact ⟨calAt_alloc HQ3.out (by omega) _, by simp; omega, HSP3.out.alloc _, BlkIs.new _ _ _, HP3.out.call (by (repeat' exact bel)), by (repeat' exact bel)⟩)
  go_wp2_with fail
  all_goals first
    | (exfalso; omega)
    | skip
  go_loopw [8] (fun s8 wr => ∃ lv : Int, s8 = .int .i64 lv ∧ 1 ≤ lv ∧ lv ≤ 6 ∧ St22 S (.slice ad2 2 cap2) w.heap.size w1.heap.size w3.heap.size w wr) (fun s8 _ => (10 - intOf s8).toNat)
  case atStart => exact ⟨1, rfl, by omega, by omega, HS0.out⟩
  case round =>
    obtain ⟨lv, rfl, h1, h6, hS⟩ := hrel
    have HV1 := hide hS
    clear hS
    obtain ⟨q0, q1, q2, q3, q4, q5, q6, q7, q8, q9, q10, q11, q12, q13⟩ := HV1.out.1
    obtain ⟨⟨s0, s1⟩, _⟩ := blk_two' HV1.out.2.2.1
    have hzB := HV1.out.2.1
    have hBel := HV1.out.2.2.2.2.2
    by_cases hlt : lv ≤ 5
    · have HF := hide (HAL.out lv h1 hlt)
      go_wp2_with fail
      refine (fday_any nrf23 S.a lv _ (by decide)).mono ?_
      rintro e w4 ⟨rfl, hb4⟩
      have HV2 := hide (HV1.out.call (show Below wr.heap.size wr w4 from (ww hb4).out))
      rw [HF.out.1]
      obtain ⟨U, hU⟩ : ∃ U, fdU nrf23 S.a lv = U := ⟨_, rfl⟩
      rw [hU] at HF ⊢
      simp only [unitV]
      clear hb4 hU s0 s1 hBel hzB
      clear q0 q1 q2 q3 q4 q5 q6 q7 q8 q9 q10 q11 q12 q13
      obtain ⟨q0, q1, q2, q3, q4, q5, q6, q7, q8, q9, q10, q11, q12, q13⟩ := HV2.out.1
      obtain ⟨⟨c0, c1⟩, _, _, hz6⟩ := blk_two' HV2.out.2.2.2.1
      have hzB := HV2.out.2.1
      have hBel := HV2.out.2.2.2.2.2
      go_wp2_with fail
      refine (btotal_bk nrf23 U pd22 [] Z0 _ _ (w4.alloc (unObj U)) (by decide) (HV2.out.2.2.2.2.1.call (by (repeat' exact bel))) (Accs.nil _) HB.out).mono ?_
      rintro e w5 ⟨rfl, hb5⟩
      rw [HF.out.2.1, HF.out.2.2]
      have HV3 := hide (HV2.out.call (show Below w4.heap.size w4 w5 from (ww hb5).out))
      clear hb5
      go_wp2
      all_goals first
        | (exfalso; omega)
        | skip
      go_roundw
      case rel => exact ⟨lv + 1, rfl, by omega, by omega, HV3.out⟩
      case measure => simp [intOf]; omega
    · go_wp2
      all_goals first
        | (exfalso; omega)
        | (go_ret; exact ⟨ret_bool (by simp), by (repeat' exact bel)⟩)
end Go.Proofs.YtjhhmeoibfdcmaaGreat
