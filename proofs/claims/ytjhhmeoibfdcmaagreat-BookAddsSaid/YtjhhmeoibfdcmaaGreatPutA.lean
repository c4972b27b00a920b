/- Package book: one posting more, beside any accruals. -/
import Derived.Test.YtjhhmeoibfdcmaaGreatBookX
import Derived.Test.YtjhhmeoibfdcmaaGreatBookK
namespace Go.Proofs.YtjhhmeoibfdcmaaGreat
open Go.RowKit Qd
set_option linter.unusedSimpArgs false
set_option linter.unusedVariables false

theorem grown_keepP {w w' : World} {b : Nat} {v : Value} {l : List Po} (hown : OwnP w b v l) (hg : w.grownBy w' v.ownBlock) : KeepP w w' := by
  refine ⟨hg.size, fun B cs t ht hB => (hg.block B (Array.getElem?_eq_some_iff.1 hB).1 (fun e => ?_)).trans hB⟩
  rcases hown.2 with ⟨h1, _⟩ | ⟨g', cap', cur, h1, _, h3', _⟩
  · rw [h1] at e; simp [Value.ownBlock] at e
  · rw [h1] at e
    obtain rfl : B = g' := by simpa [Value.ownBlock] using e
    rw [h3'] at hB
    cases hB
    exact ht rfl
theorem ownA_base {w : World} {b b' : Nat} {v : Value} {l : List Ac} (h : OwnA w b v l) (hb : b' ≤ b) : OwnA w b' v l := by
  refine ⟨h.1, ?_⟩
  rcases h.2 with h1 | ⟨g', cap', cur, he, h2, h3⟩
  · exact .inl h1
  · exact .inr ⟨g', cap', cur, he, Nat.le_trans hb h2, h3⟩
theorem blk_low {K : Nat} {w w' : World} {B : Nat} {cs : Array Value} {t : TypeId} (h : BlkIs w B cs t) (hb : Below K w w') (hB : B < K) : BlkIs w' B cs t := (hb.block B hB).trans h
/-- The book as it is when the region is through. -/
def PutF (B m b : Nat) (l : List Po) (A : List Ac) (w wx : World) : Prop := ∃ g cap ad2 cap2, BlkIs wx B #[.slice (some ⟨g, 0, none⟩) l.length cap, .slice ad2 A.length cap2] 30 ∧ OwnP wx m (.slice (some ⟨g, 0, none⟩) l.length cap) l ∧ OwnA wx m (.slice ad2 A.length cap2) A ∧ Below b w wx
theorem put_endF {w w2 w4 : World} {B g cap : Nat} {x y : Value} {l : List Po} {A : List Ac} {p : Po} {ad2 : Option Addr} {cap2 : Nat} (h2 : BlkIs w2 B #[x, y] 30) (hw : Below w.heap.size w w2) (h4 : Below w2.heap.size w2 w4) (hB : w.heap.size ≤ B) (hl : B < w2.heap.size)
    (ho : OwnP w4 w2.heap.size (.slice (some ⟨g, 0, none⟩) (l.length + 1) cap) (l ++ [p])) (ha : OwnA w4 w2.heap.size (.slice ad2 A.length cap2) A) :
    PutF B w2.heap.size w.heap.size (l ++ [p]) A w ((w4.setCell ⟨B, 0, none⟩ (.slice (some ⟨g, 0, none⟩) (l.length + 1) cap)).setCell ⟨B, 1, none⟩ (.slice ad2 A.length cap2)) := by
  have ho' : OwnP w4 w2.heap.size (.slice (some ⟨g, 0, none⟩) (l ++ [p]).length cap) (l ++ [p]) := by
    simpa using ho
  refine ⟨g, cap, ad2, cap2, ?_, ownP_far (ownP_far ho' ⟨B, 0, none⟩ _ hl) ⟨B, 1, none⟩ _ hl, ownA_far (ownA_far ha ⟨B, 0, none⟩ _ hl) ⟨B, 1, none⟩ _ hl, ((hw.trans (h4.mono hw.size)).setCell hB _).setCell hB _⟩
  rw [List.length_append]
  exact blk_s1 (blk_s0 (h2.call h4) _) _
theorem ownP_app {w' : World} {m g cap : Nat} {l : List Po} {p : Po} (h : w'.ownsRow m 32 2 (.slice (some ⟨g, 0, none⟩) (l.length + 1) cap) (l.length + 1) (flatP l ++ [.int .i64 p.day, .int .i64 p.n])) : OwnP w' m (.slice (some ⟨g, 0, none⟩) (l.length + 1) cap) (l ++ [p]) := by
  unfold OwnP
  rw [flatP_snoc]
  simpa using h

set_option maxRecDepth 100000 in
set_option maxHeartbeats 12800000 in
theorem put_any (P : List Po) (A : List Ac) (p : Po) (v1 v2 : Value) (w : World) (h1 : Posts w v1 P) (h2 : Accs w v2 A) (hv : v1 = .slice none 0 0 ∨ ∃ ad cap, v1 = .slice (some ad) P.length cap) (hv2 : v2 = .slice none 0 0 ∨ ∃ ad cap, v2 = .slice (some ad) A.length cap) (hl : P.length < 4096) (hl2 : A.length ≤ 4096) (hc : chkE P A = 0) (hd : isB p.day = true) :
    Calls Tryz.prog 11 #[.agg #[v1, v2], .agg #[.int .i64 p.day, .int .i64 p.n]] w fun e w' => (∃ x y, e = .returned (.tuple #[.agg #[x, y], .int .i64 0]) ∧ OwnP w' w.heap.size x (P ++ [p]) ∧ OwnA w' w.heap.size y A) ∧ Below w.heap.size w w' := by
  have H1 := hide h1
  have H2 := hide h2
  have HC := hide hc
  have HV := hide hv
  have HV2 := hide hv2
  have HDY := hide (show daysE [p.day] = 0 by simp [daysE, hd])
  obtain ⟨ad1, cap1, hv1, _⟩ := h1
  obtain ⟨ad2, cap2, hv12, _⟩ := h2
  obtain ⟨i0, hi, hi0, hi1, hi2⟩ := info_parts post_info
  clear hc hd hv hv2
  subst hv1 hv12
  go_enter Tryz.func11, Tryz.ntmps11
  go_wp2_with fail
  refine (broom_ok P A _ _ _ (((w.alloc (.cells #[.slice ad1 P.length cap1, .slice ad2 A.length cap2] 30)).alloc (.cells #[.int .i64 p.day, .int .i64 p.n] 32)).alloc (.cells #[.slice none 0 0, .slice none 0 0] 30)) (H1.out.call (by (repeat' exact bel))) (H2.out.call (by (repeat' exact bel))) (by omega) HC.out (by omega)).mono ?_
  rintro e w1 ⟨rfl, hb1⟩
  have HS1 := hide (show BlkIs w1 w.heap.size #[.slice ad1 P.length cap1, .slice ad2 A.length cap2] 30 ∧ BlkIs w1 (w.heap.size + 1) #[.int .i64 p.day, .int .i64 p.n] 32 ∧ BlkIs w1 (w.heap.size + 1 + 1) #[.slice none 0 0, .slice none 0 0] 30 by
    refine ⟨BlkIs.call (((BlkIs.new w _ _).alloc _).alloc _) hb1, BlkIs.call (BlkIs.alloc ?_ _) hb1, BlkIs.call ?_ hb1⟩
    · simpa using BlkIs.new (w.alloc (.cells #[.slice ad1 P.length cap1, .slice ad2 A.length cap2] 30)) #[.int .i64 p.day, .int .i64 p.n] 32
    · simpa using BlkIs.new ((w.alloc (.cells #[.slice ad1 P.length cap1, .slice ad2 A.length cap2] 30)).alloc (.cells #[.int .i64 p.day, .int .i64 p.n] 32)) #[.slice none 0 0, .slice none 0 0] 30)
  have HB1 : Hid (Below w.heap.size w w1) := ww hb1
  clear hb1
  obtain ⟨⟨k0, k1⟩, _, _, hz0⟩ := blk_two' HS1.out.1
  obtain ⟨⟨p0, p1⟩, _, _, hz1⟩ := blk_two' HS1.out.2.1
  obtain ⟨⟨r0, r1⟩, f0, f1, hz2⟩ := blk_two' HS1.out.2.2
  go_wp2_with fail
  refine (bdays_any w1.heap.size 0 1 [p.day] (w1.alloc (.cells #[.int .i64 p.day] 3)) (by simp) (fun i y hy => by
    match i, hy with
    | 0, hy => simp at hy; subst hy; simp) (by simp)).mono ?_
  rintro e w2 ⟨rfl, hb2⟩
  rw [HDY.out]
  have HB2 : Hid (Below w1.heap.size w1 w2) := ww hb2
  clear hb2 k0 k1 p0 p1 r0 r1 f0 f1 hz0 hz1 hz2
  have HS2 := hide (And.intro (HS1.out.1.call HB2.out) (And.intro (HS1.out.2.1.call HB2.out) (HS1.out.2.2.call HB2.out)))
  have HBW := hide (HB1.out.trans (HB2.out.mono HB1.out.size))
  obtain ⟨⟨k0, k1⟩, _, _, hz0⟩ := blk_two' HS2.out.1
  obtain ⟨⟨p0, p1⟩, _, _, hz1⟩ := blk_two' HS2.out.2.1
  obtain ⟨⟨r0, r1⟩, f0, f1, hz2⟩ := blk_two' HS2.out.2.2
  have HP2 := hide (H1.out.call HBW.out)
  have HA2 := hide (H2.out.call HBW.out)
  have HL := hide (show P.length ≤ 100000 by omega)
  have HLA := hide (show A.length ≤ 100000 by omega)
  go_upto_region 7 with fail
  have hmx : P.length + 1 ≤ maxLen := by unfold maxLen; omega
  have hbx : (P.length + 1) * 16 ≤ 140737488355328 := by omega
  have k7 := hide trivial
  go_cut [5] (fun s5 wx => s5 = .int .i64 0 ∧ PutF (w.heap.size + 1 + 1) w2.heap.size w.heap.size (P ++ [p]) A w wx)
  case first =>
    go_region_held3 (fun w' => ((w'.cell? ⟨w.heap.size, 0, none⟩ = some (.slice ad1 P.length cap1) ∧ w'.cell? ⟨w.heap.size, 1, none⟩ = some (.slice ad2 A.length cap2)) ∧ (w'.cell? ⟨w.heap.size + 1, 0, none⟩ = some (.int .i64 p.day) ∧ w'.cell? ⟨w.heap.size + 1, 1, none⟩ = some (.int .i64 p.n)))) (exact ⟨(blk_two' (blk_low (K := w.heap.size + 1 + 1) HS2.out.1 (by (repeat' exact bel)) (by omega))).1, (blk_two' (blk_low (K := w.heap.size + 1 + 1) HS2.out.2.1 (by (repeat' exact bel)) (by omega))).1⟩)
      (first
      | (go_at_call 45; refine (clonep_any P _ w2.drew (HP2.out.call (by (repeat' exact bel))) HV.out HL.out).mono ?_; rintro e w3 ⟨⟨vc, rfl, hoc⟩, hb3⟩; have HW3 := hide (show Below w2.heap.size w2 w3 from (ww hb3).out); have hbw3 := HW3.out; have hz3 : w2.heap.size ≤ w3.heap.size := HW3.out.size; have HOC := hide (ownP_base hoc (show w2.heap.size ≤ _ by simp)); clear hoc hb3)
      | (go_at_call 45; refine (clonep_any P _ (w2.alloc (.cells #[.int .i64 p.day, .int .i64 p.n] 32)).drew (HP2.out.call (by (repeat' exact bel))) HV.out HL.out).mono ?_; rintro e w3 ⟨⟨vc, rfl, hoc⟩, hb3⟩; have HW3 := hide (show Below w2.heap.size w2 w3 from (ww hb3).out); have k7 := hide (BlkIs.call (show BlkIs (w2.alloc (.cells #[.int .i64 p.day, .int .i64 p.n] 32)).drew w2.heap.size #[.int .i64 p.day, .int .i64 p.n] 32 from BlkIs.new _ _ _) hb3); have hbw3 := HW3.out; have hz3 : w2.heap.size ≤ w3.heap.size := HW3.out.size; have HOC := hide (ownP_base hoc (show w2.heap.size ≤ _ by simp)); clear hoc hb3)
      | (refine step_append_lies w3 rfl (.tmp 27) (.tmp 29) 27 rfl w2.heap.size 32 i0 (.agg #[.int .i64 0, .int .i64 0]) 2 16 Tryz.underlying27 hi hi0 hi1 hi2 rfl (by decide) vc P.length (flatP P) (by simp [Act.eval, Act.put]) HOC.out ⟨w2.heap.size, 0, none⟩ 1 1 [.int .i64 p.day, .int .i64 p.n] (by simp [Act.eval, Act.put]) rfl (cellsN k7.out) int_one (by decide) hmx hbx sz _ rfl ?_; intro g4 cap4 w4 hown4 hgrow4 _ hlt4; have HW4 := hide (show Below w2.heap.size w2 w4 from (show Below w2.heap.size w2 w3 by have hw3 := HW3.out; exact bel).grown hgrow4 sz (ownP_lt (HOC.out))); have HO4 := hide (ownP_app hown4); have hbw4 := HW4.out; have hz4 : w2.heap.size ≤ w4.heap.size := HW4.out.size; clear hown4 hgrow4)
      | (refine step_append_lies (w3.alloc (.cells #[.int .i64 p.day, .int .i64 p.n] 32)) rfl (.tmp 27) (.tmp 29) 27 rfl w2.heap.size 32 i0 (.agg #[.int .i64 0, .int .i64 0]) 2 16 Tryz.underlying27 hi hi0 hi1 hi2 rfl (by decide) vc P.length (flatP P) (by simp [Act.eval, Act.put]) (ownP_call HOC.out (by (repeat' exact bel))) ⟨w3.heap.size, 0, none⟩ 1 1 [.int .i64 p.day, .int .i64 p.n] (by simp [Act.eval, Act.put]) rfl (cellsN (BlkIs.new w3 _ _)) int_one (by decide) hmx hbx sz _ rfl ?_; intro g4 cap4 w4 hown4 hgrow4 _ hlt4; have HW4 := hide (show Below w2.heap.size w2 w4 from (show Below w2.heap.size w2 (w3.alloc (.cells #[.int .i64 p.day, .int .i64 p.n] 32)) by have hw3 := HW3.out; exact bel).grown hgrow4 sz (ownP_lt (HOC.out))); have HO4 := hide (ownP_app hown4); have hbw4 := HW4.out; have hz4 : w2.heap.size ≤ w4.heap.size := HW4.out.size; clear hown4 hgrow4)
      | (go_at_call 46; refine (clonea_any A _ w4 (HA2.out.call HW4.out) HV2.out HLA.out).mono ?_; rintro e w5 ⟨⟨va, rfl, hoa⟩, hb5⟩; have HW5 := hide (HW4.out.trans (hb5.mono HW4.out.size)); have HO5 := hide (ownP_call HO4.out hb5); have HOA := hide (ownA_base hoa HW4.out.size); obtain ⟨⟨c0, c1⟩, d0, d1, hzc⟩ := blk_two' (HS2.out.2.2.call HW5.out); have hbw5 := HW5.out; have hz5 : w2.heap.size ≤ w5.heap.size := HW5.out.size; obtain ⟨ad5, cap5, rfl, _⟩ := ownA_accs hoa; clear hoa hb5))
    all_goals
      go_wp2_with fail
      go_meet
      exact ⟨rfl, put_endF HS2.out.2.2 HBW.out HW5.out (by omega) hz2 HO5.out HOA.out⟩
  case rest =>
    obtain ⟨rfl, hE⟩ := hcut
    obtain ⟨g, cap, ad3, cap3, hk, ho, ha, hb⟩ := hE
    have hbs := hb.size
    obtain ⟨⟨c0, c1⟩, d0, d1, hzc⟩ := blk_two' hk
    have HO5 := hide ho
    have HA5 := hide ha
    have HB5 := hide hb
    have hle := HBW.out.size
    clear hk ho ha hb
    go_wp2
    refine bodyPost_ret (v := .tuple #[.agg #[.slice (some ⟨g, 0, none⟩) (P ++ [p]).length cap, .slice ad3 A.length cap3], .int .i64 0]) (by simp (maxDischargeDepth := 9) [results, Tryz.results11, go_sem, c0, c1, d0, d1, hzc]) rfl ⟨⟨_, _, rfl, ownP_base HO5.out hle, ownA_base HA5.out hle⟩, HB5.out⟩
end Go.Proofs.YtjhhmeoibfdcmaaGreat
