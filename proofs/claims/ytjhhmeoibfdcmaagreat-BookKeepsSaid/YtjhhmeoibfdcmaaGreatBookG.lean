/- Package book: one posting more. -/
import Derived.Test.YtjhhmeoibfdcmaaGreatMBk
import Derived.Test.YtjhhmeoibfdcmaaGreatMSa
namespace Go.Proofs.YtjhhmeoibfdcmaaGreat
open Go.RowKit Qd
set_option linter.unusedSimpArgs false
set_option linter.unusedVariables false

theorem clonep_any (P : List Po) (v : Value) (w : World) (hP : Posts w v P) (hv : v = .slice none 0 0 ∨ ∃ ad cap, v = .slice (some ad) P.length cap) (hl : P.length ≤ 100000) :
    Calls Tryz.prog 45 #[v] w fun e w' => (∃ v, e = .returned v ∧ OwnP w' w.heap.size v P) ∧ Below w.heap.size w w' := by
  rcases hv with rfl | ⟨ad, cap, rfl⟩
  · refine (clonep_nil w).mono ?_
    rintro e w' ⟨rfl, rfl⟩
    obtain ⟨ad, cap, h1, _⟩ := hP
    have h0 : P.length = 0 := by injection h1 with _ h2 _; exact h2.symm
    have : P = [] := List.length_eq_zero_iff.1 h0
    subst this
    exact ⟨⟨_, rfl, World.ownsRow_nil _ _ _ _⟩, Below.refl _ _⟩
  · exact clonep_some P ad cap w hP hl

set_option maxRecDepth 100000 in
set_option maxHeartbeats 1600000 in
theorem broom_ok (P : List Po) (A : List Ac) (v1 v2 : Value) (many : Int) (w : World) (h1 : Posts w v1 P) (h2 : Accs w v2 A) (hl : P.length ≤ 100000 ∧ A.length ≤ 100000) (hc : chkE P A = 0) (hm : many < 4096) : Calls Tryz.prog 43 #[.agg #[v1, v2], .int .i64 many] w fun e w' => e = .returned (.int .i64 0) ∧ Below w.heap.size w w' := by
  have H1 := hide h1
  have H2 := hide h2
  have HC := hide hc
  obtain ⟨ad1, cap1, rfl, _⟩ := h1
  obtain ⟨ad2, cap2, rfl, _⟩ := h2
  clear hc
  have hmb : (many == 4096) = false := by simp; omega
  go_enter Tryz.func43, Tryz.ntmps43
  go_wp2_with fail
  refine (bcheck_any P A _ _ (w.alloc (.cells #[.slice ad1 P.length cap1, .slice ad2 A.length cap2] 30)) (H1.out.call (by (repeat' exact bel))) (H2.out.call (by (repeat' exact bel))) hl).mono ?_
  rintro e w1 ⟨rfl, hb1⟩
  rw [HC.out]
  have HB1 : Hid (Below w.heap.size w w1) := ww hb1
  clear hb1
  have hBel := HB1.out
  go_wp2
  go_ret
  exact ⟨rfl, by (repeat' exact bel)⟩

theorem cellsN {w : World} {B : Nat} {a b : Value} {t : TypeId} (h : BlkIs w B #[a, b] t) : ∀ (j : Nat) (u : Value), [a, b][j]? = some u → w.cell? ((⟨B, 0, none⟩ : Addr).add j) = some u := by
  intro j u hj
  match j, hj with
  | 0, hj => simp at hj; subst hj; simpa [Addr.add] using h.cell 0
  | 1, hj => simp at hj; subst hj; simpa [Addr.add] using h.cell 1
theorem ownP_base {w : World} {b b' : Nat} {v : Value} {l : List Po} (h : OwnP w b v l) (hb : b' ≤ b) : OwnP w b' v l := by
  refine ⟨h.1, ?_⟩
  rcases h.2 with h1 | ⟨g', cap', cur, he, h2, h3⟩
  · exact .inl h1
  · exact .inr ⟨g', cap', cur, he, Nat.le_trans hb h2, h3⟩
theorem ownP_far {w : World} {b : Nat} {v : Value} {l : List Po} (h : OwnP w b v l) (p : Addr) (u : Value) (hp : p.block < b) : OwnP (w.setCell p u) b v l := by
  refine ⟨h.1, ?_⟩
  rcases h.2 with h1 | ⟨g', cap', cur, he, h2, hg', h3⟩
  · exact .inl h1
  · exact .inr ⟨g', cap', cur, he, h2, (Below.heap_setCell w p u g' (by omega)).trans hg', h3⟩
theorem int_one {a b : Int} : ∀ u ∈ [Value.int .i64 a, Value.int .i64 b], u.oneCell' = true := by
  intro u hu; simp at hu; rcases hu with rfl | rfl <;> rfl
theorem ownP_lt {w : World} {b : Nat} {v : Value} {l : List Po} (h : OwnP w b v l) : ∀ k, v.ownBlock = some k → b ≤ k := fun k hk => (h.lt k hk).1

theorem blk_s0 {w : World} {B : Nat} {a b : Value} {t : TypeId} (h : BlkIs w B #[a, b] t) (u : Value) : BlkIs (w.setCell ⟨B, 0, none⟩ u) B #[u, b] t := by
  unfold BlkIs at h ⊢
  simp [World.setCell, Array.getElem?_modify, h]
theorem blk_s1 {w : World} {B : Nat} {a b : Value} {t : TypeId} (h : BlkIs w B #[a, b] t) (u : Value) : BlkIs (w.setCell ⟨B, 1, none⟩ u) B #[a, u] t := by
  unfold BlkIs at h ⊢
  simp [World.setCell, Array.getElem?_modify, h]
/-- The book as it is when the region is through. -/
def PutE (B m b : Nat) (l : List Po) (w wx : World) : Prop := ∃ g cap, BlkIs wx B #[.slice (some ⟨g, 0, none⟩) l.length cap, .slice none 0 0] 30 ∧ OwnP wx m (.slice (some ⟨g, 0, none⟩) l.length cap) l ∧ Below b w wx
theorem put_end {w w2 w4 : World} {B g cap : Nat} {x y : Value} {l : List Po} {p : Po} (h2 : BlkIs w2 B #[x, y] 30) (hw : Below w.heap.size w w2) (h4 : Below w2.heap.size w2 w4) (hB : w.heap.size ≤ B) (hl : B < w2.heap.size)
    (ho : w4.ownsRow w2.heap.size 32 2 (.slice (some ⟨g, 0, none⟩) (l.length + 1) cap) (l.length + 1) (flatP l ++ [.int .i64 p.day, .int .i64 p.n])) :
    PutE B w2.heap.size w.heap.size (l ++ [p]) w ((w4.setCell ⟨B, 0, none⟩ (.slice (some ⟨g, 0, none⟩) (l.length + 1) cap)).setCell ⟨B, 1, none⟩ (.slice none 0 0)) := by
  have ho' : OwnP w4 w2.heap.size (.slice (some ⟨g, 0, none⟩) (l ++ [p]).length cap) (l ++ [p]) := by
    unfold OwnP
    rw [flatP_snoc]
    simpa using ho
  refine ⟨g, cap, ?_, ownP_far (ownP_far ho' ⟨B, 0, none⟩ _ hl) ⟨B, 1, none⟩ _ hl, ((hw.trans (h4.mono hw.size)).setCell hB _).setCell hB _⟩
  rw [List.length_append]
  exact blk_s1 (blk_s0 (h2.call h4) _) _

set_option maxRecDepth 100000 in
set_option maxHeartbeats 6400000 in
theorem put_ok (P : List Po) (p : Po) (v1 : Value) (w : World) (h1 : Posts w v1 P) (hv : v1 = .slice none 0 0 ∨ ∃ ad cap, v1 = .slice (some ad) P.length cap) (hl : P.length < 4096) (hc : chkE P [] = 0) (hd : isB p.day = true) :
    Calls Tryz.prog 11 #[.agg #[v1, .slice none 0 0], .agg #[.int .i64 p.day, .int .i64 p.n]] w fun e w' => (∃ v, e = .returned (.tuple #[.agg #[v, .slice none 0 0], .int .i64 0]) ∧ OwnP w' w.heap.size v (P ++ [p])) ∧ Below w.heap.size w w' := by
  have H1 := hide h1
  have HC := hide hc
  have HV := hide hv
  have HDY := hide (show daysE [p.day] = 0 by simp [daysE, hd])
  obtain ⟨ad1, cap1, hv1, _⟩ := h1
  obtain ⟨i0, hi, hi0, hi1, hi2⟩ := info_parts post_info
  clear hc hd hv
  subst hv1
  go_enter Tryz.func11, Tryz.ntmps11
  go_wp2_with fail
  refine (broom_ok P [] _ _ _ (((w.alloc (.cells #[.slice ad1 P.length cap1, .slice none 0 0] 30)).alloc (.cells #[.int .i64 p.day, .int .i64 p.n] 32)).alloc (.cells #[.slice none 0 0, .slice none 0 0] 30)) (H1.out.call (by (repeat' exact bel))) (Accs.nil _) (by simp; omega) HC.out (by omega)).mono ?_
  rintro e w1 ⟨rfl, hb1⟩
  have HS1 := hide (show BlkIs w1 w.heap.size #[.slice ad1 P.length cap1, .slice none 0 0] 30 ∧ BlkIs w1 (w.heap.size + 1) #[.int .i64 p.day, .int .i64 p.n] 32 ∧ BlkIs w1 (w.heap.size + 1 + 1) #[.slice none 0 0, .slice none 0 0] 30 by
    refine ⟨BlkIs.call (((BlkIs.new w _ _).alloc _).alloc _) hb1, BlkIs.call (BlkIs.alloc ?_ _) hb1, BlkIs.call ?_ hb1⟩
    · simpa using BlkIs.new (w.alloc (.cells #[.slice ad1 P.length cap1, .slice none 0 0] 30)) #[.int .i64 p.day, .int .i64 p.n] 32
    · simpa using BlkIs.new ((w.alloc (.cells #[.slice ad1 P.length cap1, .slice none 0 0] 30)).alloc (.cells #[.int .i64 p.day, .int .i64 p.n] 32)) #[.slice none 0 0, .slice none 0 0] 30)
  have HB1 : Hid (Below w.heap.size w w1) := ww hb1
  clear hb1
  obtain ⟨⟨k0, k1⟩, _, _, hz0⟩ := blk_two' HS1.out.1
  obtain ⟨⟨p0, p1⟩, _, _, hz1⟩ := blk_two' HS1.out.2.1
  obtain ⟨⟨r0, r1⟩, f0, f1, hz2⟩ := blk_two' HS1.out.2.2
  go_wp2_with fail
  refine (bdays_any w1.heap.size 0 1 [p.day] (w1.alloc (.cells #[.int .i64 p.day] 3)) (by simp) (fun i y hy => by
    match i, hy with
    | 0, hy => simp at hy; subst hy; simp) (by simp)).mono ?_
  rintro e w2 ⟨rfl, hb2⟩
  rw [HDY.out]
  have HB2 : Hid (Below w1.heap.size w1 w2) := ww hb2
  clear hb2 k0 k1 p0 p1 r0 r1 f0 f1 hz0 hz1 hz2
  have HS2 := hide (And.intro (HS1.out.1.call HB2.out) (And.intro (HS1.out.2.1.call HB2.out) (HS1.out.2.2.call HB2.out)))
  have HBW := hide (HB1.out.trans (HB2.out.mono HB1.out.size))
  obtain ⟨⟨k0, k1⟩, _, _, hz0⟩ := blk_two' HS2.out.1
  obtain ⟨⟨p0, p1⟩, _, _, hz1⟩ := blk_two' HS2.out.2.1
  obtain ⟨⟨r0, r1⟩, f0, f1, hz2⟩ := blk_two' HS2.out.2.2
  have HP2 := hide (H1.out.call HBW.out)
  have HL := hide (show P.length ≤ 100000 by omega)
  go_upto_region 7 with fail
  have hmx : P.length + 1 ≤ maxLen := by unfold maxLen; omega
  have hbx : (P.length + 1) * 16 ≤ 140737488355328 := by omega
  have k7 := hide trivial
  go_cut [5] (fun s5 wx => s5 = .int .i64 0 ∧ PutE (w.heap.size + 1 + 1) w2.heap.size w.heap.size (P ++ [p]) w wx)
  case first =>
    go_region_law (first
      | (go_simp; go_at_call 46; refine (clonea_nil _).mono ?_; rintro e w5 ⟨rfl, rfl⟩)
      | (go_simp; go_at_call 45; refine (clonep_any P _ w2.drew (HP2.out.call (by (repeat' exact bel))) HV.out HL.out).mono ?_; rintro e w3 ⟨⟨vc, rfl, hoc⟩, hb3⟩; have HW3 := hide (show Below w2.heap.size w2 w3 from (ww hb3).out); obtain ⟨⟨a0, a1⟩, _⟩ := blk_two' (HS2.out.1.call HW3.out); obtain ⟨⟨b0, b1⟩, _⟩ := blk_two' (HS2.out.2.1.call HW3.out); obtain ⟨⟨c0, c1⟩, d0, d1, hzc⟩ := blk_two' (HS2.out.2.2.call HW3.out); have hz3 : w2.heap.size ≤ w3.heap.size := HW3.out.size; have HOC := hide (ownP_base hoc (show w2.heap.size ≤ _ by simp)); clear hoc hb3)
      | (go_simp; go_at_call 45; refine (clonep_any P _ (w2.alloc (.cells #[.int .i64 p.day, .int .i64 p.n] 32)).drew (HP2.out.call (by (repeat' exact bel))) HV.out HL.out).mono ?_; rintro e w3 ⟨⟨vc, rfl, hoc⟩, hb3⟩; have HW3 := hide (show Below w2.heap.size w2 w3 from (ww hb3).out); obtain ⟨⟨a0, a1⟩, _⟩ := blk_two' (HS2.out.1.call HW3.out); obtain ⟨⟨b0, b1⟩, _⟩ := blk_two' (HS2.out.2.1.call HW3.out); obtain ⟨⟨c0, c1⟩, d0, d1, hzc⟩ := blk_two' (HS2.out.2.2.call HW3.out); have hz3 : w2.heap.size ≤ w3.heap.size := HW3.out.size; have HOC := hide (ownP_base hoc (show w2.heap.size ≤ _ by simp)); have k7 := hide (BlkIs.call (show BlkIs (w2.alloc (.cells #[.int .i64 p.day, .int .i64 p.n] 32)).drew w2.heap.size #[.int .i64 p.day, .int .i64 p.n] 32 from BlkIs.new _ _ _) hb3); clear hoc hb3)
      | (refine step_append_lies w3 rfl (.tmp 27) (.tmp 29) 27 rfl w2.heap.size 32 i0 (.agg #[.int .i64 0, .int .i64 0]) 2 16 Tryz.underlying27 hi hi0 hi1 hi2 rfl (by decide) vc P.length (flatP P) (by simp [Act.eval, Act.put]) HOC.out ⟨w2.heap.size, 0, none⟩ 1 1 [.int .i64 p.day, .int .i64 p.n] (by simp [Act.eval, Act.put]) rfl (cellsN k7.out) int_one (by decide) hmx hbx sz _ rfl ?_; intro g4 cap4 w4 hown4 hgrow4 _ hlt4; have HW4 := hide (show Below w2.heap.size w2 w4 from (show Below w2.heap.size w2 w3 by have hw3 := HW3.out; exact bel).grown hgrow4 sz (ownP_lt (HOC.out))); obtain ⟨⟨a0, a1⟩, _⟩ := blk_two' (HS2.out.1.call HW4.out); obtain ⟨⟨b0, b1⟩, _⟩ := blk_two' (HS2.out.2.1.call HW4.out); obtain ⟨⟨c0, c1⟩, d0, d1, hzc⟩ := blk_two' (HS2.out.2.2.call HW4.out); have HO4 := hide hown4; have hz4 : w2.heap.size ≤ w4.heap.size := HW4.out.size; clear hown4 hgrow4)
      | (refine step_append_lies (w3.alloc (.cells #[.int .i64 p.day, .int .i64 p.n] 32)) rfl (.tmp 27) (.tmp 29) 27 rfl w2.heap.size 32 i0 (.agg #[.int .i64 0, .int .i64 0]) 2 16 Tryz.underlying27 hi hi0 hi1 hi2 rfl (by decide) vc P.length (flatP P) (by simp [Act.eval, Act.put]) (ownP_call HOC.out (by (repeat' exact bel))) ⟨w3.heap.size, 0, none⟩ 1 1 [.int .i64 p.day, .int .i64 p.n] (by simp [Act.eval, Act.put]) rfl (cellsN (BlkIs.new w3 _ _)) int_one (by decide) hmx hbx sz _ rfl ?_; intro g4 cap4 w4 hown4 hgrow4 _ hlt4; have HW4 := hide (show Below w2.heap.size w2 w4 from (show Below w2.heap.size w2 (w3.alloc (.cells #[.int .i64 p.day, .int .i64 p.n] 32)) by have hw3 := HW3.out; exact bel).grown hgrow4 sz (ownP_lt (HOC.out))); obtain ⟨⟨a0, a1⟩, _⟩ := blk_two' (HS2.out.1.call HW4.out); obtain ⟨⟨b0, b1⟩, _⟩ := blk_two' (HS2.out.2.1.call HW4.out); obtain ⟨⟨c0, c1⟩, d0, d1, hzc⟩ := blk_two' (HS2.out.2.2.call HW4.out); have HO4 := hide hown4; have hz4 : w2.heap.size ≤ w4.heap.size := HW4.out.size; clear hown4 hgrow4))
    all_goals (go_wp2_with fail; go_meet; exact ⟨rfl, put_end HS2.out.2.2 HBW.out HW4.out (by omega) hz2 HO4.out⟩)
  case rest =>
    obtain ⟨rfl, hE⟩ := hcut
    obtain ⟨g, cap, hk, ho, hb⟩ := hE
    have hbs := hb.size
    obtain ⟨⟨c0, c1⟩, d0, d1, hzc⟩ := blk_two' hk
    have HO5 := hide ho
    have HB5 := hide hb
    have hle := HBW.out.size
    clear hk ho hb
    go_wp2
    refine bodyPost_ret (v := .tuple #[.agg #[.slice (some ⟨g, 0, none⟩) (P ++ [p]).length cap, .slice none 0 0], .int .i64 0]) (by simp (maxDischargeDepth := 9) [results, Tryz.results11, go_sem, c0, c1, d0, d1, hzc]) rfl ⟨⟨_, rfl, ownP_base HO5.out hle⟩, HB5.out⟩
end Go.Proofs.YtjhhmeoibfdcmaaGreat
