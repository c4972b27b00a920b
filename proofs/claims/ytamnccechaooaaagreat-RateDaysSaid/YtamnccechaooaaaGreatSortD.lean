/- The sort of the parts: two runs made one, where the first one is a single part. -/
import Derived.Test.YtamnccechaooaaaGreatSortC
namespace Go.Proofs.YtamnccechaooaaaGreat
open Go.RowKit Go.Sort
set_option linter.unusedSimpArgs false
set_option linter.unusedVariables false

/-- A search in a run: what stands ahead of i comes before x, what stands from j on does not. -/
def SrSt (g : Nat) (p B r : List Pt) (x : Pt) (w0 w : World) (i j : Nat) : Prop := (∀ k y, B[k]? = some y → k < i → y.lt x) ∧ (∀ k y, B[k]? = some y → j ≤ k → ¬ y.lt x) ∧ PartsAt w g (p ++ x :: B ++ r) ∧ Only g w0 w
/-- x has been moved behind k of the run. -/
def MvSt (g : Nat) (p B r : List Pt) (x : Pt) (w0 w : World) (k : Nat) : Prop := PartsAt w g (p ++ B.take k ++ [x] ++ B.drop k ++ r) ∧ Only g w0 w
theorem MvSt.step {g : Nat} {p B r : List Pt} {x y : Pt} {w0 w : World} {k : Nat} (h : MvSt g p B r x w0 w k) (hy : B[k]? = some y) (q : Nat) (hq : q = p.length + k) (hg : g < w.heap.size) :
    MvSt g p B r x w0 ((((w.setCell ⟨g, q * 2, none⟩ (.int .i64 y.pos)).setCell ⟨g, q * 2 + 1, none⟩ (.int .i64 y.ab)).setCell ⟨g, (q + 1) * 2, none⟩ (.int .i64 x.pos)).setCell ⟨g, (q + 1) * 2 + 1, none⟩ (.int .i64 x.ab)) (k + 1) := by
  have hk : k < B.length := (List.getElem?_eq_some_iff.1 hy).1
  have hd : B.drop k = y :: B.drop (k + 1) := by rw [List.drop_eq_getElem_cons hk]; congr 1; exact Option.some.inj ((List.getElem?_eq_getElem hk).symm.trans hy)
  have ht : B.take (k + 1) = B.take k ++ [y] := by rw [List.take_add_one, hy]; rfl
  have hl : (B.take k).length = k := by simp; omega
  refine ⟨?_, (((h.2.setCell (Nat.le_refl _) _).setCell (Nat.le_refl _) _).setCell (Nat.le_refl _) _).setCell (Nat.le_refl _) _⟩
  have h1 := h.1
  rw [hd] at h1
  have hpl : (p ++ B.take k).length = q := by rw [List.length_append, hl, hq]
  have h2 := (h1.put q y (by simp only [List.length_append, List.length_cons, List.length_nil, hl]; omega)).put (q + 1) x (by simp only [List.length_set, List.length_append, List.length_cons, List.length_nil, hl]; omega)
  have e : ((p ++ B.take k ++ [x] ++ (y :: B.drop (k + 1)) ++ r).set q y).set (q + 1) x = p ++ B.take (k + 1) ++ [x] ++ B.drop (k + 1) ++ r := by
    rw [ht, show p ++ B.take k ++ [x] ++ (y :: B.drop (k + 1)) ++ r = (p ++ B.take k) ++ x :: y :: (B.drop (k + 1) ++ r) by simp]
    rw [← hpl, List.set_append_right _ _ (Nat.le_refl _), Nat.sub_self, List.set_append_right _ _ (by omega), show (p ++ B.take k).length + 1 - (p ++ B.take k).length = 1 by omega]
    simp
  rw [e] at h2
  exact h2
theorem Srt.get {B : List Pt} (h : Srt B) {k H : Nat} {t y : Pt} (hk : B[k]? = some t) (hH : B[H]? = some y) (hle : k ≤ H) : t = y ∨ t.lt y := by
  rcases Nat.lt_or_ge k H with h1 | h1
  · right
    obtain ⟨a, rfl⟩ := List.getElem?_eq_some_iff.1 hk
    obtain ⟨b, rfl⟩ := List.getElem?_eq_some_iff.1 hH
    exact List.pairwise_iff_getElem.1 h k H a b h1
  · left
    obtain rfl : k = H := by omega
    exact Option.some.inj (hk.symm.trans hH)
/-- The end of the search. -/
theorem SrSt.out {g : Nat} {p B r : List Pt} {x : Pt} {w0 w : World} {i : Nat} (h : SrSt g p B r x w0 w i i) (hs : Srt B) (hx : ∀ y ∈ B, x.pos < y.pos) (hi : i ≤ B.length) : Put (x :: B) (B.take i ++ [x] ++ B.drop i) := by
  have e : B.take i ++ B.drop i = B := List.take_append_drop i B
  refine ⟨?_, ?_⟩
  · conv => rhs; rw [← e]
    simp only [List.append_assoc, List.singleton_append]
    exact List.perm_middle
  · have := put_front (x := x) (r1 := B.take i) (r2 := B.drop i) (by rw [e]; exact hs) (fun y hy => by
      obtain ⟨k, hk⟩ := List.mem_iff_getElem?.1 hy
      rw [List.getElem?_take] at hk
      split at hk
      · exact h.1 k y hk (by omega)
      · cases hk) (fun y hy => by
      obtain ⟨k, hk⟩ := List.mem_iff_getElem?.1 hy
      rw [List.getElem?_drop] at hk
      have hne := hx y (List.mem_of_getElem? hk)
      exact Pt.not_lt (by omega) (h.2.1 (i + k) y hk (by omega)))
    simpa using this

set_option maxRecDepth 100000 in
set_option maxHeartbeats 6400000 in
theorem sym_one (g cap L : Nat) (p B r : List Pt) (x : Pt) (u v z : Int) (D : List Pt) (w : World) (hs : Srt B) (hx : ∀ y ∈ B, x.pos < y.pos) (hb : 0 < B.length) (hu : u = (p.length : Int)) (hv : v = (p.length : Int) + 1) (hz : z = (p.length : Int) + 1 + B.length) (hDD : D = p ++ x :: B ++ r) (hD : PartsAt w g D) (hL : D.length = L) (hl : L ≤ 1000000) :
    Calls Tryz.prog 156 #[.slice (some ⟨g, 0, none⟩) L cap, .int .i64 u, .int .i64 v, .int .i64 z, cmpF] w fun e w' => e = .returned (.tuple #[]) ∧ (∃ s', Put (x :: B) s' ∧ PartsAt w' g (p ++ s' ++ r)) ∧ Only g w w' := by
  subst hDD
  have hLL : p.length + 1 + B.length + r.length = L := by rw [← hL]; simp; omega
  obtain ⟨P, hP⟩ : ∃ n, p.length = n := ⟨_, rfl⟩
  obtain ⟨n, hn⟩ : ∃ n, B.length = n := ⟨_, rfl⟩
  have H0 := hide (show SrSt g p B r x w w 0 n from ⟨fun _ _ _ h => by omega, fun k y hk h => by have := (List.getElem?_eq_some_iff.1 hk).1; omega, hD, Only.refl _ _⟩)
  rw [hP] at hu hv hz hLL
  rw [hn] at hz hLL hb
  have HPN := hide (And.intro hP hn)
  have HS := hide hs
  have HX := hide hx
  have hg := hD.lt
  subst hu hv hz
  clear hD hL hP hn hs hx
  go_enter Tryz.func156, Tryz.ntmps156
  have hone : ((P : Int) + 1 - (P : Int) == 1) = true := by rw [beq_iff_eq]; omega
  go_wp2_with fail
  try rw [hone]
  clear hone
  go_loopw [10, 11] (fun s10 s11 wr => ∃ i j : Nat, s10 = .int .i64 ((P : Int) + 1 + (i : Int)) ∧ s11 = .int .i64 ((P : Int) + 1 + (j : Int)) ∧ i ≤ j ∧ j ≤ n ∧ SrSt g p B r x w wr i j) (fun s t _ => (intOf t - intOf s).toNat)
  case atStart => exact ⟨0, n, by first | rfl | (congr 1; omega), by first | rfl | (congr 1; omega), by omega, by omega, H0.out⟩
  case round =>
    obtain ⟨i, j, rfl, rfl, hij, hjn, hSr⟩ := hrel
    have HR := hide hSr
    clear hSr
    by_cases hlt : i < j
    · obtain ⟨H, hH⟩ : ∃ H : Nat, (i + j) / 2 = H := ⟨_, rfl⟩
      have hmid : ((P : Int) + 1 + (i : Int) + ((P : Int) + 1 + (j : Int))) / 2 = ((P + 1 + H : Nat) : Int) := by omega
      have hH1 : i ≤ H ∧ H < j := by omega
      obtain ⟨q, hq⟩ : ∃ q, P + 1 + H = q := ⟨_, rfl⟩
      rw [hq] at hmid
      obtain ⟨y, hy⟩ : ∃ y, B[H]? = some y := ⟨_, List.getElem?_eq_getElem (by rw [HPN.out.2]; omega)⟩
      have hD1 : (p ++ x :: B ++ r)[q]? = some y := by
        rw [List.append_assoc, List.getElem?_append_right (by rw [HPN.out.1]; omega), HPN.out.1, List.cons_append, show q - P = H + 1 by omega, List.getElem?_cons_succ, List.getElem?_append_left (by rw [HPN.out.2]; omega)]
        exact hy
      have hD2 : (p ++ x :: B ++ r)[P]? = some x := by
        rw [List.append_assoc, List.getElem?_append_right (by rw [HPN.out.1]; omega), HPN.out.1, Nat.sub_self]
        rfl
      obtain ⟨c1, c2⟩ := HR.out.2.2.1.cell hD1
      obtain ⟨c3, c4⟩ := HR.out.2.2.1.cell hD2
      have k1 := cell_regrown c1
      have k2 := cell_regrown c2
      have k3 := cell_regrown c3
      have k4 := cell_regrown c4
      have hyx := HX.out y (List.mem_of_getElem? hy)
      have HK := hide (And.intro hy (And.intro hyx hq))
      have q1 : (q : Int) < (L : Int) := by omega
      have q2 : (P : Int) < (L : Int) := by omega
      have hgr := HR.out.2.2.1.lt
      obtain ⟨hH2, hH3⟩ := hH1
      clear hy hyx hD1 hD2 hH
      go_wp2_with fail
      try rw [hmid]
      refine wp_region_quiet_below (by kernel_rfl) (by kernel_rfl) ?_
      repeat (go_big_quiet_step (first | exact Calls.regrown_of (cmp_any y x _) | fail))
      refine wpQuiet_nil ?_
      intro _ hw'
      obtain ⟨⟨dq, osq⟩, hw2⟩ := hw'
      subst hw2
      obtain ⟨wq, hwq⟩ : ∃ wq, grow (redrawn wr dq) osq = wq := ⟨_, rfl⟩
      have HBQ := hide (show Below wr.heap.size wr wq by rw [← hwq]; exact below_regrown wr dq osq)
      have HPQ := hide (HR.out.2.2.1.call HBQ.out)
      have HBG := hide (HR.out.2.2.2.trans (Only.of HBQ.out g))
      rw [hwq]
      clear k1 k2 k3 k4 c1 c2 c3 c4 hwq
      by_cases hlt2 : cmpI y x < 0
      · have HN := hide (show SrSt g p B r x w wq (H + 1) j from ⟨fun k t hk hkl => by
            rcases Nat.lt_or_ge k i with h | h
            · exact HR.out.1 k t hk h
            · have hl := (Pt.lt_iff HK.out.2.1).2 ((cmpI_neg y x).1 hlt2)
              rcases HS.out.get hk HK.out.1 (by omega) with rfl | e
              · exact hl
              · exact Pt.lt_trans e hl, HR.out.2.1, HPQ.out, HBG.out⟩)
        go_wp2
        go_roundw
        case rel => exact ⟨H + 1, j, by have := HK.out.2.2; congr 1; omega, rfl, by omega, by omega, HN.out⟩
        case measure => have := HK.out.2.2; simp [intOf]; omega
      · have HN := hide (show SrSt g p B r x w wq i H from ⟨HR.out.1, fun k t hk hkl => by
            have hn : ¬ y.lt x := fun e => hlt2 ((cmpI_neg y x).2 ((Pt.lt_iff HK.out.2.1).1 e))
            intro ht
            rcases HS.out.get HK.out.1 hk hkl with rfl | e
            · exact hn ht
            · exact hn (Pt.lt_trans e ht), HPQ.out, HBG.out⟩)
        go_wp2
        go_roundw
        case rel => exact ⟨i, H, rfl, by have := HK.out.2.2; congr 1; omega, by omega, by omega, HN.out⟩
        case measure => have := HK.out.2.2; simp [intOf]; omega
    · obtain rfl : j = i := by omega
      have HPUT := hide (HR.out.out HS.out HX.out (by rw [HPN.out.2]; exact hjn))
      have HM0 := hide (show MvSt g p B r x w wr 0 from ⟨by simpa using HR.out.2.2.1, HR.out.2.2.2⟩)
      have HSR := hide (show ∀ k, k < j → ∃ y, B[k]? = some y from fun k hk => ⟨_, List.getElem?_eq_getElem (by rw [HPN.out.2]; omega)⟩)
      clear HR
      obtain ⟨wo, hwo⟩ : ∃ wo : World, wo = wr := ⟨_, rfl⟩
      rw [← hwo] at HM0 ⊢
      clear hwo
      go_wp2_with fail
      go_loopw [13] (fun s13 wr => ∃ k : Nat, s13 = .int .i64 ((P : Int) + (k : Int)) ∧ k ≤ j ∧ MvSt g p B r x w wr k) (fun s _ => (L + 5 - intOf s).toNat)
      case atStart => exact ⟨0, by first | rfl | (congr 1; omega), by omega, HM0.out⟩
      case round =>
        obtain ⟨k, rfl, hkj, hM⟩ := hrel
        have HM := hide hM
        have hgm := hM.1.lt
        clear hM
        by_cases hkl : k < j
        · obtain ⟨y, hy⟩ := HSR.out k hkl
          obtain ⟨q, hq⟩ : ∃ q, P + k = q := ⟨_, rfl⟩
          have hj : (P : Int) + (k : Int) = (q : Int) := by omega
          have HN := hide (HM.out.step hy q (by rw [HPN.out.1]; exact hq.symm) hgm)
          have hk : k < B.length := (List.getElem?_eq_some_iff.1 hy).1
          have hdd : p ++ B.take k ++ [x] ++ B.drop k ++ r = (p ++ B.take k) ++ x :: y :: (B.drop (k + 1) ++ r) := by
            rw [show B.drop k = y :: B.drop (k + 1) by rw [List.drop_eq_getElem_cons hk]; congr 1; exact Option.some.inj ((List.getElem?_eq_getElem hk).symm.trans hy)]
            simp
          have hpl : (p ++ B.take k).length = q := by rw [List.length_append, HPN.out.1, List.length_take]; omega
          have hPt := HM.out.1
          rw [hdd] at hPt
          obtain ⟨c1, c2⟩ := hPt.cell (i := q) (p := x) (by rw [← hpl]; exact get_at _ _ _)
          obtain ⟨c3, c4⟩ := hPt.cell (i := q + 1) (p := y) (by rw [← hpl, List.getElem?_append_right (by omega), show (p ++ B.take k).length + 1 - (p ++ B.take k).length = 1 by omega]; rfl)
          have f1 := hPt.frozen (q * 2)
          have f2 := hPt.frozen (q * 2 + 1)
          have f3 := hPt.frozen ((q + 1) * 2)
          have f4 := hPt.frozen ((q + 1) * 2 + 1)
          have q1 : (0 : Int) ≤ (q : Int) + 1 := by omega
          have q2 : ((q : Int) + 1).toNat = q + 1 := by omega
          have q3 : (q : Int) + 1 < (L : Int) := by have := HPN.out.2; omega
          have q4 : (0 : Int) ≤ (q : Int) := by omega
          have q6 : (q : Int) < (L : Int) := by omega
          have q8 : IntKind.i64.wrap ((q : Int) + 1) = (q : Int) + 1 := by simp [IntKind.wrap, IntKind.bits, IntKind.signed]; omega
          have HQ := hide hq
          have hguard : (q : Int) < (P : Int) + 1 + (j : Int) - 1 := by omega
          rw [hj]
          clear hy hq hj hk hdd hpl hPt
          go_wp2_with fail
          go_region
          all_goals
            go_simp
            go_wp2
            go_roundw
            case rel =>
              exact ⟨k + 1, by have := HQ.out; congr 1; omega, by omega, HN.out.1.drew, HN.out.2.drew⟩
            case measure => simp [intOf]; omega
        · obtain rfl : k = j := by omega
          have HF := hide (show ∃ s', Put (x :: B) s' ∧ PartsAt wr g (p ++ s' ++ r) from ⟨_, HPUT.out, by simpa using HM.out.1⟩)
          have HFB := hide HM.out.2
          go_wp2
          all_goals first
            | (exfalso; omega)
            | (refine bodyPost_ret (results_none rfl _ _ _) rfl ?_; exact ⟨rfl, HF.out, HFB.out⟩)
end Go.Proofs.YtamnccechaooaaaGreat
