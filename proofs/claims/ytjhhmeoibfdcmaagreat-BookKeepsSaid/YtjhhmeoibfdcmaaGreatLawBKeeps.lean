/- The walk of BookKeeps. -/
import Derived.Test.YtjhhmeoibfdcmaaGreatMKp
import Derived.Test.YtjhhmeoibfdcmaaGreatRowC
namespace Go.Proofs.YtjhhmeoibfdcmaaGreat
open Go.RowKit Go.Sort Qd
set_option linter.unusedSimpArgs false
set_option linter.unusedVariables false

/-- The law's three boxes. -/
def KpSt (v1 v2 : Value) (p : Po) (a : Ac) (B : Nat) (w0 w : World) : Prop := BlkIs w B #[v1, v2] 30 ∧ BlkIs w (B + 1) #[.int .i64 p.day, .int .i64 p.n] 32 ∧ BlkIs w (B + 1 + 1) #[.int .i64 a.a, .int .i64 a.b, .int .i64 a.n] 47 ∧ Below B w0 w
theorem KpSt.call {v1 v2 : Value} {p : Po} {a : Ac} {B : Nat} {w0 w w' : World} (h : KpSt v1 v2 p a B w0 w) (hb : Below w.heap.size w w') : KpSt v1 v2 p a B w0 w' := ⟨h.1.call hb, h.2.1.call hb, h.2.2.1.call hb, h.2.2.2.trans (hb.mono (Nat.le_of_lt h.1.lt))⟩
theorem kpSt_new (v1 v2 : Value) (p : Po) (a : Ac) (w : World) : KpSt v1 v2 p a w.heap.size w (((w.alloc (.cells #[v1, v2] 30)).alloc (.cells #[.int .i64 p.day, .int .i64 p.n] 32)).alloc (.cells #[.int .i64 a.a, .int .i64 a.b, .int .i64 a.n] 47)) := by
  refine ⟨((BlkIs.new w _ _).alloc _).alloc _, BlkIs.alloc ?_ _, ?_, by (repeat' exact bel)⟩
  · simpa using BlkIs.new (w.alloc (.cells #[v1, v2] 30)) #[.int .i64 p.day, .int .i64 p.n] 32
  · simpa using BlkIs.new ((w.alloc (.cells #[v1, v2] 30)).alloc (.cells #[.int .i64 p.day, .int .i64 p.n] 32)) #[.int .i64 a.a, .int .i64 a.b, .int .i64 a.n] 47
/-- A book of one's own in a box of one's own. -/
def BxB (w : World) (B m : Nat) (x y : Value) (P : List Po) (A : List Ac) : Prop := BlkIs w B #[x, y] 30 ∧ OwnB w m x y P A ∧ m ≤ B
theorem BxB.call {w w' : World} {B m : Nat} {x y : Value} {P : List Po} {A : List Ac} (h : BxB w B m x y P A) (hb : Below w.heap.size w w') : BxB w' B m x y P A := ⟨h.1.call hb, h.2.1.call hb, h.2.2⟩
def KpE (m : Nat) (P : List Po) (A : List Ac) (W : World) (s7 : Value) (wx : World) : Prop := ∃ B7 ad cap ad2 cap2, s7 = .pointer (some ⟨B7, 0, none⟩) ∧ BxB wx B7 m (.slice ad P.length cap) (.slice ad2 A.length cap2) P A ∧ Below W.heap.size W wx
theorem kpe_put {W wl : World} {m B7 cap cap2 : Nat} {x y : Value} {ad ad2 : Option Addr} {P : List Po} {A : List Ac} (h : BlkIs wl B7 #[x, y] 30) (ho : OwnB wl m (.slice ad P.length cap) (.slice ad2 A.length cap2) P A) (hb : Below W.heap.size W wl) (hm : m ≤ B7) (hW : W.heap.size ≤ B7) :
    KpE m P A W (.pointer (some ⟨B7, 0, none⟩)) ((wl.setCell ⟨B7, 0, none⟩ (.slice ad P.length cap)).setCell ⟨B7, 1, none⟩ (.slice ad2 A.length cap2)) := by
  have h1 := blk_s0 h (.slice ad P.length cap)
  refine ⟨B7, ad, cap, ad2, cap2, rfl, ⟨blk_s1 h1 _, (ho.set h (by decide) (by decide) 0 _).set h1 (by decide) (by decide) 1 _, hm⟩, (hb.setCell hW _).setCell hW _⟩

set_option maxRecDepth 100000 in
set_option maxHeartbeats 12800000 in
theorem bkp_walk (v1 v2 : Value) (P : List Po) (A : List Ac) (p : Po) (a : Ac) (w : World) (h1 : Posts w v1 P) (h2 : Accs w v2 A) (hv : v1 = .slice none 0 0 ∨ ∃ ad cap, v1 = .slice (some ad) P.length cap) (hv2 : v2 = .slice none 0 0 ∨ ∃ ad cap, v2 = .slice (some ad) A.length cap) (hl1 : P.length ≤ 9223372036854775807) (hl2 : A.length ≤ 9223372036854775807) :
    Calls Tryz.prog 4 #[.agg #[v1, v2], poV p, .agg #[.int .i64 a.a, .int .i64 a.b, .int .i64 a.n]] w fun e w' => e = .returned (.bool true) ∧ Below w.heap.size w w' := by
  have H0 := hide (kpSt_new v1 v2 p a w)
  have H1 := hide h1
  have H2 := hide h2
  have HV := hide hv
  have HV2 := hide hv2
  obtain ⟨ad1, cap1, rfl, _⟩ := h1
  obtain ⟨ad2, cap2, rfl, _⟩ := h2
  clear hv hv2
  simp only [poV]
  go_enter Tryz.func4, Tryz.ntmps4
  go_wp2_with fail
  refine (live22_any _).mono ?_
  rintro e w1 ⟨rfl, hb1⟩
  have HS1 := hide (H0.out.call hb1)
  clear hb1
  obtain ⟨⟨k0, k1⟩, _, _, hz1⟩ := blk_two' HS1.out.1
  have hBel := HS1.out.2.2.2
  obtain ⟨bad, hbad⟩ : ∃ bad : Bool, bad = decide (40 < P.length ∧ P.length < 4090 ∨ 4100 < P.length ∨ 40 < A.length ∧ A.length < 4090 ∨ 4100 < A.length) := ⟨_, rfl⟩
  go_upto_region 3 with fail
  go_cut [54] (fun s54 wx => s54 = .bool bad ∧ wx = w1)
  case first =>
    have hcs : (40 < P.length ∧ P.length < 4090) ∨ (4100 < P.length) ∨ ((P.length ≤ 40) ∧ (A.length ≤ 40)) ∨ ((P.length ≤ 40) ∧ (40 < A.length ∧ A.length < 4090)) ∨ ((P.length ≤ 40) ∧ (4090 ≤ A.length ∧ A.length ≤ 4100)) ∨ ((P.length ≤ 40) ∧ (4100 < A.length)) ∨ ((4090 ≤ P.length ∧ P.length ≤ 4100) ∧ (A.length ≤ 40)) ∨ ((4090 ≤ P.length ∧ P.length ≤ 4100) ∧ (40 < A.length ∧ A.length < 4090)) ∨ ((4090 ≤ P.length ∧ P.length ≤ 4100) ∧ (4090 ≤ A.length ∧ A.length ≤ 4100)) ∨ ((4090 ≤ P.length ∧ P.length ≤ 4100) ∧ (4100 < A.length)) := by omega
    rcases hcs with hq | hq | hq | hq | hq | hq | hq | hq | hq | hq
    · have gP1 : decide (40 < (P.length : Int)) = true := by simp; omega
      have gP2 : decide ((P.length : Int) < 4090) = true := by simp; omega
      have hb : bad = true := by rw [hbad]; simp; omega
      clear hbad
      subst hb
      go_wp2_with fail
      go_meet
      exact ⟨rfl, rfl⟩
    · have gP1 : decide (40 < (P.length : Int)) = true := by simp; omega
      have gP2 : decide ((P.length : Int) < 4090) = false := by simp; omega
      have gP3 : decide (4100 < (P.length : Int)) = true := by simp; omega
      have hb : bad = true := by rw [hbad]; simp; omega
      clear hbad
      subst hb
      go_wp2_with fail
      go_meet
      exact ⟨rfl, rfl⟩
    · have gP1 : decide (40 < (P.length : Int)) = false := by simp; omega
      have gP3 : decide (4100 < (P.length : Int)) = false := by simp; omega
      have gA1 : decide (40 < (A.length : Int)) = false := by simp; omega
      have gA3 : decide (4100 < (A.length : Int)) = false := by simp; omega
      have hb : bad = false := by rw [hbad]; simp; omega
      clear hbad
      subst hb
      go_wp2_with fail
      go_meet
      exact ⟨rfl, rfl⟩
    · have gP1 : decide (40 < (P.length : Int)) = false := by simp; omega
      have gP3 : decide (4100 < (P.length : Int)) = false := by simp; omega
      have gA1 : decide (40 < (A.length : Int)) = true := by simp; omega
      have gA2 : decide ((A.length : Int) < 4090) = true := by simp; omega
      have hb : bad = true := by rw [hbad]; simp; omega
      clear hbad
      subst hb
      go_wp2_with fail
      go_meet
      exact ⟨rfl, rfl⟩
    · have gP1 : decide (40 < (P.length : Int)) = false := by simp; omega
      have gP3 : decide (4100 < (P.length : Int)) = false := by simp; omega
      have gA1 : decide (40 < (A.length : Int)) = true := by simp; omega
      have gA2 : decide ((A.length : Int) < 4090) = false := by simp; omega
      have gA3 : decide (4100 < (A.length : Int)) = false := by simp; omega
      have hb : bad = false := by rw [hbad]; simp; omega
      clear hbad
      subst hb
      go_wp2_with fail
      go_meet
      exact ⟨rfl, rfl⟩
    · have gP1 : decide (40 < (P.length : Int)) = false := by simp; omega
      have gP3 : decide (4100 < (P.length : Int)) = false := by simp; omega
      have gA1 : decide (40 < (A.length : Int)) = true := by simp; omega
      have gA2 : decide ((A.length : Int) < 4090) = false := by simp; omega
      have gA3 : decide (4100 < (A.length : Int)) = true := by simp; omega
      have hb : bad = true := by rw [hbad]; simp; omega
      clear hbad
      subst hb
      go_wp2_with fail
      go_meet
      exact ⟨rfl, rfl⟩
    · have gP1 : decide (40 < (P.length : Int)) = true := by simp; omega
      have gP2 : decide ((P.length : Int) < 4090) = false := by simp; omega
      have gP3 : decide (4100 < (P.length : Int)) = false := by simp; omega
      have gA1 : decide (40 < (A.length : Int)) = false := by simp; omega
      have gA3 : decide (4100 < (A.length : Int)) = false := by simp; omega
      have hb : bad = false := by rw [hbad]; simp; omega
      clear hbad
      subst hb
      go_wp2_with fail
      go_meet
      exact ⟨rfl, rfl⟩
    · have gP1 : decide (40 < (P.length : Int)) = true := by simp; omega
      have gP2 : decide ((P.length : Int) < 4090) = false := by simp; omega
      have gP3 : decide (4100 < (P.length : Int)) = false := by simp; omega
      have gA1 : decide (40 < (A.length : Int)) = true := by simp; omega
      have gA2 : decide ((A.length : Int) < 4090) = true := by simp; omega
      have hb : bad = true := by rw [hbad]; simp; omega
      clear hbad
      subst hb
      go_wp2_with fail
      go_meet
      exact ⟨rfl, rfl⟩
    · have gP1 : decide (40 < (P.length : Int)) = true := by simp; omega
      have gP2 : decide ((P.length : Int) < 4090) = false := by simp; omega
      have gP3 : decide (4100 < (P.length : Int)) = false := by simp; omega
      have gA1 : decide (40 < (A.length : Int)) = true := by simp; omega
      have gA2 : decide ((A.length : Int) < 4090) = false := by simp; omega
      have gA3 : decide (4100 < (A.length : Int)) = false := by simp; omega
      have hb : bad = false := by rw [hbad]; simp; omega
      clear hbad
      subst hb
      go_wp2_with fail
      go_meet
      exact ⟨rfl, rfl⟩
    · have gP1 : decide (40 < (P.length : Int)) = true := by simp; omega
      have gP2 : decide ((P.length : Int) < 4090) = false := by simp; omega
      have gP3 : decide (4100 < (P.length : Int)) = false := by simp; omega
      have gA1 : decide (40 < (A.length : Int)) = true := by simp; omega
      have gA2 : decide ((A.length : Int) < 4090) = false := by simp; omega
      have gA3 : decide (4100 < (A.length : Int)) = true := by simp; omega
      have hb : bad = true := by rw [hbad]; simp; omega
      clear hbad
      subst hb
      go_wp2_with fail
      go_meet
      exact ⟨rfl, rfl⟩
  case rest =>
    obtain ⟨rfl, hwc⟩ := hcut
    rw [hwc]
    clear hwc
    cases bad
    rotate_left
    · go_wp2
      go_ret
      exact ⟨rfl, hBel⟩
    have hlen : P.length ≤ 4100 ∧ A.length ≤ 4100 := by simp at hbad; omega
    have HLP := hide (show P.length ≤ 100000 by omega)
    have HLA := hide (show A.length ≤ 100000 by omega)
    have HP1 := hide (H1.out.call hBel)
    have HA1 := hide (H2.out.call hBel)
    have hws : w.heap.size + 1 < w1.heap.size := HS1.out.2.1.lt
    clear hbad
    go_upto_region 5 with fail
    have k7 := hide trivial
    go_cut [7] (fun s7 wx => KpE w1.heap.size P A w1 s7 wx)
    case first =>
      go_region_held3 (fun w' => (w'.cell? ⟨w.heap.size, 0, none⟩ = some (.slice ad1 P.length cap1) ∧ w'.cell? ⟨w.heap.size, 1, none⟩ = some (.slice ad2 A.length cap2))) (exact (blk_two' (blk_low (K := w.heap.size + 1) HS1.out.1 (by (repeat' exact bel)) (by omega))).1)
      (first
      | (refine step_copyP rfl _ rfl P _ w1.drew (by simp [Act.eval, Act.put]) (HP1.out.call (by (repeat' exact bel))) HV.out HLP.out ?_; intro vp wp ho hb; have HOC := hide (ownP_base ho (show w1.heap.size ≤ _ by simp)); have HWP := hide (show Below w1.heap.size w1 wp from (ww hb).out); have hbwp := HWP.out; have hzp : w1.heap.size ≤ wp.heap.size := HWP.out.size; obtain ⟨adp, capp, rfl, _⟩ := ownP_posts ho; clear ho hb)
      | (refine step_copyP rfl _ rfl P _ (w1.alloc (.cells #[.slice none 0 0, .slice none 0 0] 30)).drew (by simp [Act.eval, Act.put]) (HP1.out.call (by (repeat' exact bel))) HV.out HLP.out ?_; intro vp wp ho hb; have HOC := hide (ownP_base ho (show w1.heap.size ≤ _ by simp)); have HWP := hide (show Below w1.heap.size w1 wp from (ww hb).out); have hbwp := HWP.out; have hzp : w1.heap.size ≤ wp.heap.size := HWP.out.size; have k7 := hide (BlkIs.call (show BlkIs (w1.alloc (.cells #[.slice none 0 0, .slice none 0 0] 30)).drew w1.heap.size #[.slice none 0 0, .slice none 0 0] 30 from BlkIs.new _ _ _) hb); obtain ⟨adp, capp, rfl, _⟩ := ownP_posts ho; clear ho hb)
      | (refine step_copyA rfl _ rfl A _ w1.drew (by simp [Act.eval, Act.put]) (HA1.out.call (by (repeat' exact bel))) HV2.out HLA.out ?_; intro va wa ho hb; have HOA := hide (ownA_base ho (show w1.heap.size ≤ _ by simp)); have HWA := hide (show Below w1.heap.size w1 wa from (ww hb).out); have hbwa := HWA.out; have hza : w1.heap.size ≤ wa.heap.size := HWA.out.size; obtain ⟨ada, capa, rfl, _⟩ := ownA_accs ho; clear ho hb)
      | (refine step_copyA rfl _ rfl A _ (w1.alloc (.cells #[.slice none 0 0, .slice none 0 0] 30)).drew (by simp [Act.eval, Act.put]) (HA1.out.call (by (repeat' exact bel))) HV2.out HLA.out ?_; intro va wa ho hb; have HOA := hide (ownA_base ho (show w1.heap.size ≤ _ by simp)); have HWA := hide (show Below w1.heap.size w1 wa from (ww hb).out); have hbwa := HWA.out; have hza : w1.heap.size ≤ wa.heap.size := HWA.out.size; have k7 := hide (BlkIs.call (show BlkIs (w1.alloc (.cells #[.slice none 0 0, .slice none 0 0] 30)).drew w1.heap.size #[.slice none 0 0, .slice none 0 0] 30 from BlkIs.new _ _ _) hb); obtain ⟨ada, capa, rfl, _⟩ := ownA_accs ho; clear ho hb)
      | (refine step_copyA rfl _ rfl A _ wp (by simp [Act.eval, Act.put]) (HA1.out.call (by (repeat' exact bel))) HV2.out HLA.out ?_; intro va wl ho hb; have HOB := hide (show OwnP wl w1.heap.size _ P ∧ OwnA wl w1.heap.size va A from ⟨ownP_call HOC.out (ww hb).out, ownA_base ho (show w1.heap.size ≤ _ by first | omega | (simp; omega))⟩); have HWL := hide (show Below w1.heap.size w1 wl from (ww hb).out); have hbwl := HWL.out; have hzl : w1.heap.size ≤ wl.heap.size := HWL.out.size; have k7 := hide (BlkIs.call k7.out hb); obtain ⟨⟨c0, c1⟩, d0, d1, hzc⟩ := blk_two' k7.out; obtain ⟨ada, capa, rfl, _⟩ := ownA_accs ho; clear ho hb)
      | (refine step_copyA rfl _ rfl A _ wp (by simp [Act.eval, Act.put]) (HA1.out.call (by (repeat' exact bel))) HV2.out HLA.out ?_; intro va wl ho hb; have HOB := hide (show OwnP wl w1.heap.size _ P ∧ OwnA wl w1.heap.size va A from ⟨ownP_call HOC.out (ww hb).out, ownA_base ho (show w1.heap.size ≤ _ by first | omega | (simp; omega))⟩); have HWL := hide (show Below w1.heap.size w1 wl from (ww hb).out); have hbwl := HWL.out; have hzl : w1.heap.size ≤ wl.heap.size := HWL.out.size; obtain ⟨ada, capa, rfl, _⟩ := ownA_accs ho; clear ho hb)
      | (refine step_copyA rfl _ rfl A _ (wp.alloc (.cells #[.slice none 0 0, .slice none 0 0] 30)) (by simp [Act.eval, Act.put]) (HA1.out.call (by (repeat' exact bel))) HV2.out HLA.out ?_; intro va wl ho hb; have HOB := hide (show OwnP wl w1.heap.size _ P ∧ OwnA wl w1.heap.size va A from ⟨ownP_call HOC.out (ww hb).out, ownA_base ho (show w1.heap.size ≤ _ by first | omega | (simp; omega))⟩); have HWL := hide (show Below w1.heap.size w1 wl from (ww hb).out); have hbwl := HWL.out; have hzl : w1.heap.size ≤ wl.heap.size := HWL.out.size; have k7 := hide (BlkIs.call (show BlkIs (wp.alloc (.cells #[.slice none 0 0, .slice none 0 0] 30)) wp.heap.size #[.slice none 0 0, .slice none 0 0] 30 from BlkIs.new _ _ _) hb); obtain ⟨⟨c0, c1⟩, d0, d1, hzc⟩ := blk_two' k7.out; obtain ⟨ada, capa, rfl, _⟩ := ownA_accs ho; clear ho hb)
      | (refine step_copyP rfl _ rfl P _ wa (by simp [Act.eval, Act.put]) (HP1.out.call (by (repeat' exact bel))) HV.out HLP.out ?_; intro vp wl ho hb; have HOB := hide (show OwnP wl w1.heap.size vp P ∧ OwnA wl w1.heap.size _ A from ⟨ownP_base ho (show w1.heap.size ≤ _ by first | omega | (simp; omega)), ownA_call HOA.out (ww hb).out⟩); have HWL := hide (show Below w1.heap.size w1 wl from (ww hb).out); have hbwl := HWL.out; have hzl : w1.heap.size ≤ wl.heap.size := HWL.out.size; have k7 := hide (BlkIs.call k7.out hb); obtain ⟨⟨c0, c1⟩, d0, d1, hzc⟩ := blk_two' k7.out; obtain ⟨adp, capp, rfl, _⟩ := ownP_posts ho; clear ho hb)
      | (refine step_copyP rfl _ rfl P _ wa (by simp [Act.eval, Act.put]) (HP1.out.call (by (repeat' exact bel))) HV.out HLP.out ?_; intro vp wl ho hb; have HOB := hide (show OwnP wl w1.heap.size vp P ∧ OwnA wl w1.heap.size _ A from ⟨ownP_base ho (show w1.heap.size ≤ _ by first | omega | (simp; omega)), ownA_call HOA.out (ww hb).out⟩); have HWL := hide (show Below w1.heap.size w1 wl from (ww hb).out); have hbwl := HWL.out; have hzl : w1.heap.size ≤ wl.heap.size := HWL.out.size; obtain ⟨adp, capp, rfl, _⟩ := ownP_posts ho; clear ho hb)
      | (refine step_copyP rfl _ rfl P _ (wa.alloc (.cells #[.slice none 0 0, .slice none 0 0] 30)) (by simp [Act.eval, Act.put]) (HP1.out.call (by (repeat' exact bel))) HV.out HLP.out ?_; intro vp wl ho hb; have HOB := hide (show OwnP wl w1.heap.size vp P ∧ OwnA wl w1.heap.size _ A from ⟨ownP_base ho (show w1.heap.size ≤ _ by first | omega | (simp; omega)), ownA_call HOA.out (ww hb).out⟩); have HWL := hide (show Below w1.heap.size w1 wl from (ww hb).out); have hbwl := HWL.out; have hzl : w1.heap.size ≤ wl.heap.size := HWL.out.size; have k7 := hide (BlkIs.call (show BlkIs (wa.alloc (.cells #[.slice none 0 0, .slice none 0 0] 30)) wa.heap.size #[.slice none 0 0, .slice none 0 0] 30 from BlkIs.new _ _ _) hb); obtain ⟨⟨c0, c1⟩, d0, d1, hzc⟩ := blk_two' k7.out; obtain ⟨adp, capp, rfl, _⟩ := ownP_posts ho; clear ho hb)
      | fail)
      all_goals
        go_wp2_with fail
        go_meet
        first
          | exact kpe_put k7.out HOB.out HWL.out (by omega) (by omega)
          | exact ⟨_, _, _, _, _, rfl, ⟨BlkIs.new _ _ _, OwnB.call HOB.out ((Below.refl _ _).alloc (Nat.le_refl _) _), by omega⟩, HWL.out.alloc (by omega) _⟩
    case rest =>
      obtain ⟨B7, ad7, cap7, ad8, cap8, rfl, hB7, hbc⟩ := hcut
      have HS2 := hide (HS1.out.call hbc)
      have HB7 := hide hB7
      have hB7lt := hB7.1.lt
      clear k0 k1 hz1 hbc hB7 hBel
      have HPUT := hide (fun W (h1 : Posts W (.slice ad1 P.length cap1) P) (h2 : Accs W (.slice ad2 A.length cap2) A) => put_all P A _ _ W h1 h2 HV.out HV2.out ⟨HLP.out, HLA.out⟩ p)
      have HRPUT := hide (fun W (h1 : Posts W (.slice ad1 P.length cap1) P) (h2 : Accs W (.slice ad2 A.length cap2) A) => r22put_all P A _ _ W h1 h2 HV.out HV2.out ⟨HLP.out, HLA.out⟩ p)
      have HACC := hide (fun W (h1 : Posts W (.slice ad1 P.length cap1) P) (h2 : Accs W (.slice ad2 A.length cap2) A) => accr_all P A _ _ W h1 h2 HV.out HV2.out ⟨HLP.out, HLA.out⟩ a)
      have HRACC := hide (fun W (h1 : Posts W (.slice ad1 P.length cap1) P) (h2 : Accs W (.slice ad2 A.length cap2) A) => r22accr_all P A _ _ W h1 h2 HV.out HV2.out ⟨HLP.out, HLA.out⟩ a)
      have HCK := hide (fun W (h1 : Posts W (.slice ad1 P.length cap1) P) (h2 : Accs W (.slice ad2 A.length cap2) A) => bcheck_any P A _ _ W h1 h2 ⟨HLP.out, HLA.out⟩)
      have HRCK := hide (fun W (h1 : Posts W (.slice ad1 P.length cap1) P) (h2 : Accs W (.slice ad2 A.length cap2) A) => r22check_any P A _ _ W h1 h2 ⟨HLP.out, HLA.out⟩)
      have HN1 := hide (putPL_len (P := P) (A := A) (p := p) (by omega))
      have HN2 := hide (putAL_len (P := P) (A := A) (p := p) (by omega))
      have HN3 := hide (accPL_len (P := P) (A := A) (p := a) (by omega))
      have HN4 := hide (accAL_len (P := P) (A := A) (p := a) (by omega))
      obtain ⟨PX, hPX⟩ : ∃ l, putPL P A p = l := ⟨_, rfl⟩
      obtain ⟨AX, hAX⟩ : ∃ l, putAL P A p = l := ⟨_, rfl⟩
      obtain ⟨PY, hPY⟩ : ∃ l, accPL P A a = l := ⟨_, rfl⟩
      obtain ⟨AY, hAY⟩ : ∃ l, accAL P A a = l := ⟨_, rfl⟩
      obtain ⟨E1, hE1⟩ : ∃ l, putE P A p = l := ⟨_, rfl⟩
      obtain ⟨E2, hE2⟩ : ∃ l, accrE P A a = l := ⟨_, rfl⟩
      obtain ⟨C, hC⟩ : ∃ l, chkE P A = l := ⟨_, rfl⟩
      simp only [hPX, hAX, hE1] at HPUT HRPUT HN1 HN2
      simp only [hPY, hAY, hE2] at HACC HRACC HN3 HN4
      simp only [hC] at HCK HRCK
      clear hPX hAX hPY hAY hE1 hE2 hC
      have HSc := hide HS2.out
      obtain ⟨⟨k0, k1⟩, _, _, hz1⟩ := blk_two' HSc.out.1
      obtain ⟨⟨p0, p1⟩, _, _, hz2⟩ := blk_two' HSc.out.2.1
      obtain ⟨⟨q0, q1, q2⟩, hz3⟩ := blk_three' HSc.out.2.2.1
      have hBel := HSc.out.2.2.2
      have hsz := hBel.size
      have HWc := hide (Below.refl wc.heap.size wc)
      go_wp2_with fail
      refine (HPUT.out _ (H1.out.call (by (repeat' exact bel))) (H2.out.call (by (repeat' exact bel)))).mono ?_
      rintro e w3 ⟨⟨x8, y8, rfl, ho⟩, hb⟩
      obtain ⟨ad8x, cap8x, rfl, _⟩ := ownP_posts ho.1
      obtain ⟨ad8y, cap8y, rfl, _⟩ := ownA_accs ho.2
      have HSn := hide (HSc.out.call (ww hb).out)
      have HWn := hide (show Below wc.heap.size wc w3 by have hp := HWc.out; have hs := hp.size; exact (ww hb).out)
      have HB8 := hide (show BxB (w3.alloc (.cells #[.slice ad8x PX.length cap8x, .slice ad8y AX.length cap8y] 30)) w3.heap.size wc.heap.size _ _ PX AX from ⟨BlkIs.new _ _ _, ho.call ((Below.refl _ _).alloc (Nat.le_refl _) _), hb.size⟩)
      clear k0 k1 p0 p1 q0 q1 q2 hz1 hz2 hz3 hBel hsz hb ho
      have HSc := hide HSn.out
      have HWc := hide HWn.out
      clear HSn HWn
      obtain ⟨⟨k0, k1⟩, _, _, hz1⟩ := blk_two' HSc.out.1
      obtain ⟨⟨p0, p1⟩, _, _, hz2⟩ := blk_two' HSc.out.2.1
      obtain ⟨⟨q0, q1, q2⟩, hz3⟩ := blk_three' HSc.out.2.2.1
      have hBel := HSc.out.2.2.2
      have hsz := hBel.size
      go_wp2_with fail
      refine (HRPUT.out _ (H1.out.call (by (repeat' exact bel))) (H2.out.call (by (repeat' exact bel)))).mono ?_
      rintro e w4 ⟨⟨x10, y10, rfl, ho⟩, hb⟩
      obtain ⟨ad10x, cap10x, rfl, _⟩ := ownP_posts ho.1
      obtain ⟨ad10y, cap10y, rfl, _⟩ := ownA_accs ho.2
      have HSn := hide (HSc.out.call (ww hb).out)
      have HWn := hide (show Below wc.heap.size wc w4 by have hp := HWc.out; have hs := hp.size; exact (ww hb).out)
      have HB8 := hide (HB8.out.call hb)
      have HB10 := hide (show BxB (w4.alloc (.cells #[.slice ad10x PX.length cap10x, .slice ad10y AX.length cap10y] 30)) w4.heap.size (w3.alloc (.cells #[.slice ad8x PX.length cap8x, .slice ad8y AX.length cap8y] 30)).heap.size _ _ PX AX from ⟨BlkIs.new _ _ _, ho.call ((Below.refl _ _).alloc (Nat.le_refl _) _), hb.size⟩)
      have HB8 := hide (show BxB (w4.alloc (.cells #[.slice ad10x PX.length cap10x, .slice ad10y AX.length cap10y] 30)) _ _ _ _ _ _ from HB8.out.call ((Below.refl _ _).alloc (Nat.le_refl _) _))
      clear k0 k1 p0 p1 q0 q1 q2 hz1 hz2 hz3 hBel hsz hb ho
      have HSc := hide HSn.out
      have HWc := hide HWn.out
      clear HSn HWn
      obtain ⟨⟨k0, k1⟩, _, _, hz1⟩ := blk_two' HSc.out.1
      obtain ⟨⟨p0, p1⟩, _, _, hz2⟩ := blk_two' HSc.out.2.1
      obtain ⟨⟨q0, q1, q2⟩, hz3⟩ := blk_three' HSc.out.2.2.1
      have hBel := HSc.out.2.2.2
      have hsz := hBel.size
      go_wp2_with fail
      refine (HACC.out _ (H1.out.call (by (repeat' exact bel))) (H2.out.call (by (repeat' exact bel)))).mono ?_
      rintro e w5 ⟨⟨x12, y12, rfl, ho⟩, hb⟩
      obtain ⟨ad12x, cap12x, rfl, _⟩ := ownP_posts ho.1
      obtain ⟨ad12y, cap12y, rfl, _⟩ := ownA_accs ho.2
      have hm12 : wc.heap.size ≤ (w4.alloc (.cells #[.slice ad10x PX.length cap10x, .slice ad10y AX.length cap10y] 30)).heap.size := by have := HWc.out.size; simp; omega
      have HSn := hide (HSc.out.call (ww hb).out)
      have HWn := hide (show Below wc.heap.size wc w5 by have hp := HWc.out; have hs := hp.size; exact (ww hb).out)
      have HB8 := hide (HB8.out.call hb)
      have HB10 := hide (HB10.out.call hb)
      have HB12 := hide (show BxB (w5.alloc (.cells #[.slice ad12x PY.length cap12x, .slice ad12y AY.length cap12y] 30)) w5.heap.size (w4.alloc (.cells #[.slice ad10x PX.length cap10x, .slice ad10y AX.length cap10y] 30)).heap.size _ _ PY AY from ⟨BlkIs.new _ _ _, ho.call ((Below.refl _ _).alloc (Nat.le_refl _) _), hb.size⟩)
      have HB8 := hide (show BxB (w5.alloc (.cells #[.slice ad12x PY.length cap12x, .slice ad12y AY.length cap12y] 30)) _ _ _ _ _ _ from HB8.out.call ((Below.refl _ _).alloc (Nat.le_refl _) _))
      have HB10 := hide (show BxB (w5.alloc (.cells #[.slice ad12x PY.length cap12x, .slice ad12y AY.length cap12y] 30)) _ _ _ _ _ _ from HB10.out.call ((Below.refl _ _).alloc (Nat.le_refl _) _))
      clear k0 k1 p0 p1 q0 q1 q2 hz1 hz2 hz3 hBel hsz hb ho
      have HSc := hide HSn.out
      have HWc := hide HWn.out
      clear HSn HWn
      obtain ⟨⟨k0, k1⟩, _, _, hz1⟩ := blk_two' HSc.out.1
      obtain ⟨⟨p0, p1⟩, _, _, hz2⟩ := blk_two' HSc.out.2.1
      obtain ⟨⟨q0, q1, q2⟩, hz3⟩ := blk_three' HSc.out.2.2.1
      have hBel := HSc.out.2.2.2
      have hsz := hBel.size
      go_wp2_with fail
      refine (HRACC.out _ (H1.out.call (by (repeat' exact bel))) (H2.out.call (by (repeat' exact bel)))).mono ?_
      rintro e w6 ⟨⟨x14, y14, rfl, ho⟩, hb⟩
      obtain ⟨ad14x, cap14x, rfl, _⟩ := ownP_posts ho.1
      obtain ⟨ad14y, cap14y, rfl, _⟩ := ownA_accs ho.2
      have HSn := hide (HSc.out.call (ww hb).out)
      have HWn := hide (show Below wc.heap.size wc w6 by have hp := HWc.out; have hs := hp.size; exact (ww hb).out)
      have HB8 := hide (HB8.out.call hb)
      have HB10 := hide (HB10.out.call hb)
      have HB12 := hide (HB12.out.call hb)
      have HB14 := hide (show BxB (w6.alloc (.cells #[.slice ad14x PY.length cap14x, .slice ad14y AY.length cap14y] 30)) w6.heap.size (w5.alloc (.cells #[.slice ad12x PY.length cap12x, .slice ad12y AY.length cap12y] 30)).heap.size _ _ PY AY from ⟨BlkIs.new _ _ _, ho.call ((Below.refl _ _).alloc (Nat.le_refl _) _), hb.size⟩)
      have HB8 := hide (show BxB (w6.alloc (.cells #[.slice ad14x PY.length cap14x, .slice ad14y AY.length cap14y] 30)) _ _ _ _ _ _ from HB8.out.call ((Below.refl _ _).alloc (Nat.le_refl _) _))
      have HB10 := hide (show BxB (w6.alloc (.cells #[.slice ad14x PY.length cap14x, .slice ad14y AY.length cap14y] 30)) _ _ _ _ _ _ from HB10.out.call ((Below.refl _ _).alloc (Nat.le_refl _) _))
      have HB12 := hide (show BxB (w6.alloc (.cells #[.slice ad14x PY.length cap14x, .slice ad14y AY.length cap14y] 30)) _ _ _ _ _ _ from HB12.out.call ((Below.refl _ _).alloc (Nat.le_refl _) _))
      clear k0 k1 p0 p1 q0 q1 q2 hz1 hz2 hz3 hBel hsz hb ho
      have HSc := hide HSn.out
      have HWc := hide HWn.out
      clear HSn HWn
      obtain ⟨⟨k0, k1⟩, _, _, hz1⟩ := blk_two' HSc.out.1
      obtain ⟨⟨p0, p1⟩, _, _, hz2⟩ := blk_two' HSc.out.2.1
      obtain ⟨⟨q0, q1, q2⟩, hz3⟩ := blk_three' HSc.out.2.2.1
      have hBel := HSc.out.2.2.2
      have hsz := hBel.size
      have HWd := hide (HWc.out.alloc (by have := HWc.out.size; omega) (.cells #[.slice ad14x PY.length cap14x, .slice ad14y AY.length cap14y] 30))
      have HSd := hide (HSc.out.call ((Below.refl _ _).alloc (Nat.le_refl _) (.cells #[.slice ad14x PY.length cap14x, .slice ad14y AY.length cap14y] 30)))
      obtain ⟨W, hW⟩ : ∃ W, (w6.alloc (.cells #[.slice ad14x PY.length cap14x, .slice ad14y AY.length cap14y] 30)) = W := ⟨_, rfl⟩
      rw [hW] at HWd HSd HB8 HB10 HB12 HB14
      go_upto_region 10 with fail
      clear hW k0 k1 p0 p1 q0 q1 q2 hz1 hz2 hz3 hBel hsz
      obtain ⟨⟨c0, c1⟩, _, _, hz8⟩ := blk_two' HB8.out.1
      obtain ⟨⟨d0, d1⟩, _, _, hz10⟩ := blk_two' HB10.out.1
      obtain ⟨⟨e0, e1⟩, _, _, hz12⟩ := blk_two' HB12.out.1
      obtain ⟨⟨f0, f1⟩, _, _, hz14⟩ := blk_two' HB14.out.1
      obtain ⟨⟨k0, k1⟩, _, _, hz1⟩ := blk_two' HSd.out.1
      have r0 := cell_regrown k0
      have r1 := cell_regrown k1
      have r2 := cell_regrown c0
      have r3 := cell_regrown c1
      have r4 := cell_regrown d0
      have r5 := cell_regrown d1
      have r6 := cell_regrown e0
      have r7 := cell_regrown e1
      have r8 := cell_regrown f0
      have r9 := cell_regrown f1
      have HSM1 := hide (fun (d : Nat) (os : Array Obj) => r22same_yes PX AX _ _ _ _ (grow (redrawn W d) os) ((ownP_posts HB8.out.2.1.1).call (below_regrown W d os)) ((ownA_accs HB8.out.2.1.2).call (below_regrown W d os)) ((ownP_posts HB10.out.2.1.1).call (below_regrown W d os)) ((ownA_accs HB10.out.2.1.2).call (below_regrown W d os)) (by have := HN1.out; omega) (by have := HN2.out; omega))
      have HSM2 := hide (fun (d : Nat) (os : Array Obj) => r22same_yes PY AY _ _ _ _ (grow (redrawn W d) os) ((ownP_posts HB12.out.2.1.1).call (below_regrown W d os)) ((ownA_accs HB12.out.2.1.2).call (below_regrown W d os)) ((ownP_posts HB14.out.2.1.1).call (below_regrown W d os)) ((ownA_accs HB14.out.2.1.2).call (below_regrown W d os)) (by have := HN3.out; omega) (by have := HN4.out; omega))
      have HCK1 := hide (fun (d : Nat) (os : Array Obj) => HCK.out (grow (redrawn W d) os) ((H1.out.call HSd.out.2.2.2).call (below_regrown W d os)) ((H2.out.call HSd.out.2.2.2).call (below_regrown W d os)))
      have HCK2 := hide (fun (d : Nat) (os : Array Obj) => HRCK.out (grow (redrawn W d) os) ((H1.out.call HSd.out.2.2.2).call (below_regrown W d os)) ((H2.out.call HSd.out.2.2.2).call (below_regrown W d os)))
      have g1 : (E1 == E1) = true := by simp
      have g2 : (E2 == E2) = true := by simp
      have g3 : (C == C) = true := by simp
      refine wp_region_quiet_below (by kernel_rfl) (by kernel_rfl) ?_
      repeat (go_big_quiet_step (first | with_reducible exact Calls.regrown_of (HSM1.out _ _) | with_reducible exact Calls.regrown_of (HSM2.out _ _) | with_reducible exact Calls.regrown_of (HCK1.out _ _) | with_reducible exact Calls.regrown_of (HCK2.out _ _) | fail))
      refine wpQuiet_nil ?_
      intro _ hw'
      obtain ⟨⟨dq, osq⟩, hw2⟩ := hw'
      subst hw2
      obtain ⟨wq, hwq⟩ : ∃ wq, grow (redrawn W dq) osq = wq := ⟨_, rfl⟩
      have HBQ := hide (show Below W.heap.size W wq by rw [← hwq]; exact below_regrown W dq osq)
      rw [hwq]
      clear hwq r0 r1 r2 r3 r4 r5 r6 r7 r8 r9 c0 c1 d0 d1 e0 e1 f0 f1 k0 k1 hz1 hz8 hz10 hz12 hz14 g1 g2 g3
      have HB8 := hide (HB8.out.call HBQ.out)
      have HB12 := hide (HB12.out.call HBQ.out)
      have HWq := hide (HWd.out.trans (HBQ.out.mono HWd.out.size))
      obtain ⟨⟨c0, c1⟩, _, _, hz8⟩ := blk_two' HB8.out.1
      go_wp2_with fail
      go_loopw [114] (fun s wr => ∃ (j : Nat) (L : List Po), s = .int .i64 j ∧ j ≤ PX.length ∧ L.length = PX.length ∧ OwnP wr wc.heap.size (.slice ad8x L.length cap8x) L ∧ KeepP wq wr ∧ Below wc.heap.size wq wr) (fun s _ => (6000 - intOf s).toNat)
      case atStart => exact ⟨0, PX, rfl, Nat.zero_le _, rfl, HB8.out.2.1.1, KeepP.refl _, Below.refl _ _⟩
      case round =>
        obtain ⟨j, L, rfl, hj, hL, hO, hK, hb⟩ := hrel
        have HO := hide hO
        have HK := hide hK
        have HBr := hide hb
        have HLL := hide hL
        have HB8r := hide (hK.blk HB8.out.1)
        clear c0 c1 hz8
        obtain ⟨⟨c0, c1⟩, _, _, hz8⟩ := blk_two' HB8r.out
        have hP5 := HN1.out
        by_cases hlt : j < PX.length
        · obtain ⟨x, hx⟩ : ∃ x, L[j]? = some x := ⟨_, List.getElem?_eq_getElem (by omega)⟩
          obtain ⟨g, cap, hf, hg1, hg2⟩ := World.ownsRow.form hO (by omega)
          cases hf
          have e1 : wr.cell? ⟨g, j * 2 + 1, none⟩ = some (.int .i64 x.n) := by
            rw [World.ownsRow.cellAt hO (j * 2 + 1) (by omega)]; exact (flatP_get hx).2
          have f1 : wr.frozen? ⟨g, j * 2 + 1, none⟩ = false := World.ownsRow.frozenAt hO _
          have hi3 : (0 : Int) ≤ (j : Int) := by omega
          have hi4 : (j : Int) < (PX.length : Int) := by omega
          have HXX := hide hx
          clear hO hK hb hL hx
          go_wp2
          all_goals first
            | (exfalso; omega)
            | skip
          go_roundw
          case rel =>
            have k1 : OwnP (wr.setCell ⟨g, j * 2 + 1, none⟩ (.int .i64 (wrap64 (x.n + 1)))) wc.heap.size (.slice (some ⟨g, 0, none⟩) (L.set j ⟨x.day, wrap64 (x.n + 1)⟩).length cap8x) (L.set j ⟨x.day, wrap64 (x.n + 1)⟩) := by
              rw [List.length_set]; exact ownP_set HO.out rfl HXX.out _
            exact ⟨j + 1, L.set j ⟨x.day, wrap64 (x.n + 1)⟩, by go_num, by omega, by rw [List.length_set]; exact HLL.out, k1, HK.out.trans (keepP_store HO.out _), HBr.out.setCell hg1 _⟩
          case measure => simp [intOf]; omega
        · have HF1 := hide (HWq.out.trans HBr.out)
          have HY1 := hide (keepP_ownA HK.out HB12.out.2.1.2)
          have HB12r := hide (HK.out.blk HB12.out.1)
          clear c0 c1 hz8 hO hK hb hL hj
          obtain ⟨wo, hwo⟩ : ∃ wo : World, wo = wr := ⟨_, rfl⟩
          rw [← hwo] at HF1 HY1 HB12r ⊢
          clear HO HK HBr HB8r hwo
          obtain ⟨⟨e0, e1⟩, _, _, hz12⟩ := blk_two' HB12r.out
          go_wp2_with fail
          go_loopw [130] (fun s wr => ∃ (j : Nat) (L : List Ac), s = .int .i64 j ∧ j ≤ AY.length ∧ L.length = AY.length ∧ OwnA wr wc.heap.size (.slice ad12y L.length cap12y) L ∧ KeepA wo wr ∧ Below wc.heap.size wo wr) (fun s _ => (6000 - intOf s).toNat)
          case atStart => exact ⟨0, AY, rfl, Nat.zero_le _, rfl, ownA_base HY1.out hm12, KeepA.refl _, Below.refl _ _⟩
          case round =>
            obtain ⟨j, L, rfl, hj, hL, hO, hK, hb⟩ := hrel
            have HO := hide hO
            have HK := hide hK
            have HBr := hide hb
            have HLL := hide hL
            have HB12s := hide (hK.blk HB12r.out)
            clear e0 e1 hz12
            obtain ⟨⟨e0, e1⟩, _, _, hz12⟩ := blk_two' HB12s.out
            have hP5 := HN4.out
            by_cases hlt : j < AY.length
            · obtain ⟨x, hx⟩ : ∃ x, L[j]? = some x := ⟨_, List.getElem?_eq_getElem (by omega)⟩
              obtain ⟨g, cap, hf, hg1, hg2⟩ := World.ownsRow.form hO (by omega)
              cases hf
              have c1 : wr.cell? ⟨g, j * 3 + 2, none⟩ = some (.int .i64 x.n) := by
                rw [World.ownsRow.cellAt hO (j * 3 + 2) (by omega)]; exact (flatA_get hx).2.2
              have f1 : wr.frozen? ⟨g, j * 3 + 2, none⟩ = false := World.ownsRow.frozenAt hO _
              have hi3 : (0 : Int) ≤ (j : Int) := by omega
              have hi4 : (j : Int) < (AY.length : Int) := by omega
              have HXX := hide hx
              clear hO hK hb hL hx
              go_wp2
              all_goals first
                | (exfalso; omega)
                | skip
              go_roundw
              case rel =>
                have k1 : OwnA (wr.setCell ⟨g, j * 3 + 2, none⟩ (.int .i64 (wrap64 (x.n + 1)))) wc.heap.size (.slice (some ⟨g, 0, none⟩) (L.set j ⟨x.a, x.b, wrap64 (x.n + 1)⟩).length cap12y) (L.set j ⟨x.a, x.b, wrap64 (x.n + 1)⟩) := by
                  rw [List.length_set]; exact ownA_set HO.out rfl HXX.out _
                exact ⟨j + 1, L.set j ⟨x.a, x.b, wrap64 (x.n + 1)⟩, by go_num, by omega, by rw [List.length_set]; exact HLL.out, k1, HK.out.trans (keepA_store HO.out _), HBr.out.setCell hg1 _⟩
              case measure => simp [intOf]; omega
            · have HF2 := hide (HF1.out.trans HBr.out)
              have HBF := hide (HS2.out.2.2.2.trans (HF2.out.mono HS2.out.2.2.2.size))
              have HSM3 := hide (fun (W : World) (hb : Below wr.heap.size wr W) => r22same_yes P A _ _ _ _ W ((H1.out.call HBF.out).call hb) ((H2.out.call HBF.out).call hb) (((ownP_posts HB7.out.2.1.1).call HF2.out).call hb) (((ownA_accs HB7.out.2.1.2).call HF2.out).call hb) HLP.out HLA.out)
              obtain ⟨⟨k0, k1⟩, _, _, hz1⟩ := blk_two' (HS2.out.1.call HF2.out)
              obtain ⟨⟨b0, b1⟩, _, _, hz7⟩ := blk_two' (HB7.out.1.call HF2.out)
              clear e0 e1 hz12 hO hK hb hL hj
              go_wp2_with fail
              refine (HSM3.out _ (Below.refl _ _)).mono ?_
              rintro e w9 ⟨rfl, hb9⟩
              have HB9 := hide (HBF.out.trans (hb9.mono HBF.out.size))
              clear hb9
              go_wp2
              go_ret
              exact ⟨rfl, HB9.out⟩
end Go.Proofs.YtjhhmeoibfdcmaaGreat
