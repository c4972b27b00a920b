/- The sort of the parts: two runs made one, where the second one is a single part. -/
import Derived.Test.YtamnccechaooaaaGreatSortD
namespace Go.Proofs.YtamnccechaooaaaGreat
open Go.RowKit Go.Sort
set_option linter.unusedSimpArgs false
set_option linter.unusedVariables false

/-- A search in the first run: what stands ahead of i does not come behind x, what stands from j on does. -/
def SlSt (g : Nat) (p A r : List Pt) (x : Pt) (w0 w : World) (i j : Nat) : Prop := (∀ k y, A[k]? = some y → k < i → ¬ x.lt y) ∧ (∀ k y, A[k]? = some y → j ≤ k → x.lt y) ∧ PartsAt w g (p ++ A ++ x :: r) ∧ Only g w0 w
/-- x has been moved down to place k of the run. -/
def MdSt (g : Nat) (p A r : List Pt) (x : Pt) (w0 w : World) (k : Nat) : Prop := PartsAt w g (p ++ A.take k ++ [x] ++ A.drop k ++ r) ∧ Only g w0 w
theorem MdSt.step {g : Nat} {p A r : List Pt} {x y : Pt} {w0 w : World} {k : Nat} (h : MdSt g p A r x w0 w (k + 1)) (hy : A[k]? = some y) (q : Nat) (hq : q = p.length + k) :
    MdSt g p A r x w0 ((((w.setCell ⟨g, (q + 1) * 2, none⟩ (.int .i64 y.pos)).setCell ⟨g, (q + 1) * 2 + 1, none⟩ (.int .i64 y.ab)).setCell ⟨g, q * 2, none⟩ (.int .i64 x.pos)).setCell ⟨g, q * 2 + 1, none⟩ (.int .i64 x.ab)) k := by
  have hk : k < A.length := (List.getElem?_eq_some_iff.1 hy).1
  have hd : A.drop k = y :: A.drop (k + 1) := by rw [List.drop_eq_getElem_cons hk]; congr 1; exact Option.some.inj ((List.getElem?_eq_getElem hk).symm.trans hy)
  have ht : A.take (k + 1) = A.take k ++ [y] := by rw [List.take_add_one, hy]; rfl
  have hl : (A.take k).length = k := by simp; omega
  refine ⟨?_, (((h.2.setCell (Nat.le_refl _) _).setCell (Nat.le_refl _) _).setCell (Nat.le_refl _) _).setCell (Nat.le_refl _) _⟩
  have h1 := h.1.down (p := p) (s1 := A.take k) (s2 := A.drop (k + 1)) (r := r) (x := x) (y := y) (by rw [ht]) q (by rw [hl]; exact hq)
  rw [hd]
  exact h1
theorem SlSt.out {g : Nat} {p A r : List Pt} {x : Pt} {w0 w : World} {i : Nat} (h : SlSt g p A r x w0 w i i) (hs : Srt A) (hx : ∀ y ∈ A, y.pos < x.pos) : Put (A ++ [x]) (A.take i ++ [x] ++ A.drop i) := by
  have e : A.take i ++ A.drop i = A := List.take_append_drop i A
  refine ⟨?_, ?_⟩
  · conv => rhs; rw [← e]
    simp only [List.append_assoc]
    refine List.Perm.append_left _ ?_
    exact List.perm_append_comm
  · have := put_front (x := x) (r1 := A.take i) (r2 := A.drop i) (by rw [e]; exact hs) (fun y hy => by
      obtain ⟨k, hk⟩ := List.mem_iff_getElem?.1 hy
      rw [List.getElem?_take] at hk
      split at hk
      · have hne := hx y (List.mem_of_getElem? hk)
        exact Pt.not_lt (by omega) (h.1 k y hk (by omega))
      · cases hk) (fun y hy => by
      obtain ⟨k, hk⟩ := List.mem_iff_getElem?.1 hy
      rw [List.getElem?_drop] at hk
      exact h.2.1 (i + k) y hk (by omega))
    simpa using this

set_option maxRecDepth 100000 in
set_option maxHeartbeats 6400000 in
theorem sym_last (g cap L : Nat) (p A r : List Pt) (x : Pt) (u v z : Int) (D : List Pt) (w : World) (hs : Srt A) (hx : ∀ y ∈ A, y.pos < x.pos) (ha : 1 < A.length) (hu : u = (p.length : Int)) (hv : v = (p.length : Int) + A.length) (hz : z = (p.length : Int) + A.length + 1) (hDD : D = p ++ A ++ x :: r) (hD : PartsAt w g D) (hL : D.length = L) (hl : L ≤ 1000000) :
    Calls Tryz.prog 156 #[.slice (some ⟨g, 0, none⟩) L cap, .int .i64 u, .int .i64 v, .int .i64 z, cmpF] w fun e w' => e = .returned (.tuple #[]) ∧ (∃ s', Put (A ++ [x]) s' ∧ PartsAt w' g (p ++ s' ++ r)) ∧ Only g w w' := by
  subst hDD
  have hLL : p.length + A.length + 1 + r.length = L := by rw [← hL]; simp; omega
  obtain ⟨P, hP⟩ : ∃ n, p.length = n := ⟨_, rfl⟩
  obtain ⟨n, hn⟩ : ∃ n, A.length = n := ⟨_, rfl⟩
  have H0 := hide (show SlSt g p A r x w w 0 n from ⟨fun _ _ _ h => by omega, fun k y hk h => by have := (List.getElem?_eq_some_iff.1 hk).1; omega, hD, Only.refl _ _⟩)
  rw [hP] at hu hv hz hLL
  rw [hn] at hv hz hLL ha
  have HPN := hide (And.intro hP hn)
  have HS := hide hs
  have HX := hide hx
  have hg := hD.lt
  subst hu hv hz
  clear hD hL hP hn hs hx
  go_enter Tryz.func156, Tryz.ntmps156
  have hone : ((P : Int) + (n : Int) - (P : Int) == 1) = false := by rw [beq_eq_false_iff_ne]; omega
  have htwo : ((P : Int) + (n : Int) + 1 - ((P : Int) + (n : Int)) == 1) = true := by rw [beq_iff_eq]; omega
  go_wp2_with fail
  try rw [hone]
  try rw [htwo]
  clear hone htwo
  go_loopw [14, 15] (fun s14 s15 wr => ∃ i j : Nat, s14 = .int .i64 ((P : Int) + (i : Int)) ∧ s15 = .int .i64 ((P : Int) + (j : Int)) ∧ i ≤ j ∧ j ≤ n ∧ SlSt g p A r x w wr i j) (fun s t _ => (intOf t - intOf s).toNat)
  case atStart => exact ⟨0, n, by first | rfl | (congr 1; omega), by first | rfl | (congr 1; omega), by omega, by omega, H0.out⟩
  case round =>
    obtain ⟨i, j, rfl, rfl, hij, hjn, hSr⟩ := hrel
    have HR := hide hSr
    clear hSr
    by_cases hlt : i < j
    · obtain ⟨H, hH⟩ : ∃ H : Nat, (i + j) / 2 = H := ⟨_, rfl⟩
      have hmid : ((P : Int) + (i : Int) + ((P : Int) + (j : Int))) / 2 = ((P + H : Nat) : Int) := by omega
      have hH1 : i ≤ H ∧ H < j := by omega
      obtain ⟨q, hq⟩ : ∃ q, P + H = q := ⟨_, rfl⟩
      obtain ⟨t, ht⟩ : ∃ t, P + n = t := ⟨_, rfl⟩
      rw [hq] at hmid
      obtain ⟨y, hy⟩ : ∃ y, A[H]? = some y := ⟨_, List.getElem?_eq_getElem (by rw [HPN.out.2]; omega)⟩
      have hD1 : (p ++ A ++ x :: r)[q]? = some y := by
        rw [List.append_assoc, List.getElem?_append_right (by rw [HPN.out.1]; omega), HPN.out.1, show q - P = H by omega, List.getElem?_append_left (by rw [HPN.out.2]; omega)]
        exact hy
      have hD2 : (p ++ A ++ x :: r)[t]? = some x := by
        have h := get_at (p ++ A) r x
        rw [List.length_append, HPN.out.1, HPN.out.2, ht] at h
        exact h
      obtain ⟨c1, c2⟩ := HR.out.2.2.1.cell hD1
      obtain ⟨c3, c4⟩ := HR.out.2.2.1.cell hD2
      have k1 := cell_regrown c1
      have k2 := cell_regrown c2
      have k3 := cell_regrown c3
      have k4 := cell_regrown c4
      have hyx := HX.out y (List.mem_of_getElem? hy)
      have HK := hide (And.intro hy (And.intro hyx hq))
      have q1 : (q : Int) < (L : Int) := by omega
      have q2 : (P : Int) + (n : Int) < (L : Int) := by omega
      have q3 : ((P : Int) + (n : Int)).toNat = t := by omega
      have q4 : (0 : Int) ≤ (P : Int) + (n : Int) := by omega
      have hgr := HR.out.2.2.1.lt
      obtain ⟨hH2, hH3⟩ := hH1
      clear hy hyx hD1 hD2 hH
      go_wp2_with fail
      try rw [hmid]
      refine wp_region_quiet_below (by kernel_rfl) (by kernel_rfl) ?_
      repeat (go_big_quiet_step (first | exact Calls.regrown_of (cmp_any x y _) | fail))
      refine wpQuiet_nil ?_
      intro _ hw'
      obtain ⟨⟨dq, osq⟩, hw2⟩ := hw'
      subst hw2
      obtain ⟨wq, hwq⟩ : ∃ wq, grow (redrawn wr dq) osq = wq := ⟨_, rfl⟩
      have HBQ := hide (show Below wr.heap.size wr wq by rw [← hwq]; exact below_regrown wr dq osq)
      have HPQ := hide (HR.out.2.2.1.call HBQ.out)
      have HBG := hide (HR.out.2.2.2.trans (Only.of HBQ.out g))
      rw [hwq]
      clear k1 k2 k3 k4 c1 c2 c3 c4 hwq
      by_cases hlt2 : cmpI x y < 0
      · have HN := hide (show SlSt g p A r x w wq i H from ⟨HR.out.1, fun k t hk hkl => by
            have hl := (Pt.lt_iff HK.out.2.1).2 ((cmpI_neg x y).1 hlt2)
            rcases HS.out.get HK.out.1 hk hkl with rfl | e
            · exact hl
            · exact Pt.lt_trans hl e, HPQ.out, HBG.out⟩)
        rw [decide_eq_true hlt2]
        go_wp2
        go_roundw
        case rel => exact ⟨i, H, rfl, by have := HK.out.2.2; congr 1; omega, by omega, by omega, HN.out⟩
        case measure => have := HK.out.2.2; simp [intOf]; omega
      · have HN := hide (show SlSt g p A r x w wq (H + 1) j from ⟨fun k t hk hkl => by
            have hn : ¬ x.lt y := fun e => hlt2 ((cmpI_neg x y).2 ((Pt.lt_iff HK.out.2.1).1 e))
            intro ht
            rcases HS.out.get hk HK.out.1 (by omega) with rfl | e
            · exact hn ht
            · exact hn (Pt.lt_trans ht e), HR.out.2.1, HPQ.out, HBG.out⟩)
        rw [decide_eq_false hlt2]
        go_wp2
        go_roundw
        case rel => exact ⟨H + 1, j, by have := HK.out.2.2; congr 1; omega, rfl, by omega, by omega, HN.out⟩
        case measure => have := HK.out.2.2; simp [intOf]; omega
    · obtain rfl : j = i := by omega
      have HPUT := hide (HR.out.out HS.out HX.out)
      have HM0 := hide (show MdSt g p A r x w wr n from ⟨by
        rw [List.take_of_length_le (by rw [HPN.out.2]; omega), List.drop_eq_nil_of_le (by rw [HPN.out.2]; omega)]
        simpa using HR.out.2.2.1, HR.out.2.2.2⟩)
      have HSR := hide (show ∀ k, k < n → ∃ y, A[k]? = some y from fun k hk => ⟨_, List.getElem?_eq_getElem (by rw [HPN.out.2]; omega)⟩)
      clear HR
      obtain ⟨wo, hwo⟩ : ∃ wo : World, wo = wr := ⟨_, rfl⟩
      rw [← hwo] at HM0 ⊢
      clear hwo
      go_wp2_with fail
      go_loopw [17] (fun s17 wr => ∃ k : Nat, s17 = .int .i64 ((P : Int) + (k : Int)) ∧ j ≤ k ∧ k ≤ n ∧ MdSt g p A r x w wr k) (fun s _ => (intOf s + 5).toNat)
      case atStart => exact ⟨n, by first | rfl | (congr 1; omega), by omega, by omega, HM0.out⟩
      case round =>
        obtain ⟨k0, rfl, hkj, hkn, hM⟩ := hrel
        have HM := hide hM
        have hgm := hM.1.lt
        clear hM
        by_cases hkl : j < k0
        · obtain ⟨k, rfl⟩ : ∃ k, k0 = k + 1 := ⟨k0 - 1, by omega⟩
          obtain ⟨y, hy⟩ := HSR.out k (by omega)
          obtain ⟨q, hq⟩ : ∃ q, P + k = q := ⟨_, rfl⟩
          have hj : (P : Int) + ((k + 1 : Nat) : Int) = (q : Int) + 1 := by omega
          have HN := hide (HM.out.step hy q (by rw [HPN.out.1]; exact hq.symm))
          have hk : k < A.length := (List.getElem?_eq_some_iff.1 hy).1
          have hdd : p ++ A.take (k + 1) ++ [x] ++ A.drop (k + 1) ++ r = (p ++ A.take k) ++ y :: x :: (A.drop (k + 1) ++ r) := by
            rw [show A.take (k + 1) = A.take k ++ [y] by rw [List.take_add_one, hy]; rfl]
            simp
          have hpl : (p ++ A.take k).length = q := by rw [List.length_append, HPN.out.1, List.length_take]; omega
          have hPt := HM.out.1
          rw [hdd] at hPt
          obtain ⟨c1, c2⟩ := hPt.cell (i := q) (p := y) (by rw [← hpl]; exact get_at _ _ _)
          obtain ⟨c3, c4⟩ := hPt.cell (i := q + 1) (p := x) (by rw [← hpl, List.getElem?_append_right (by omega), show (p ++ A.take k).length + 1 - (p ++ A.take k).length = 1 by omega]; rfl)
          have f1 := hPt.frozen (q * 2)
          have f2 := hPt.frozen (q * 2 + 1)
          have f3 := hPt.frozen ((q + 1) * 2)
          have f4 := hPt.frozen ((q + 1) * 2 + 1)
          have q1 : (0 : Int) ≤ (q : Int) + 1 := by omega
          have q2 : ((q : Int) + 1).toNat = q + 1 := by omega
          have q3 : (q : Int) + 1 < (L : Int) := by have := HPN.out.2; omega
          have q4 : (0 : Int) ≤ (q : Int) := by omega
          have q6 : (q : Int) < (L : Int) := by omega
          have q7 : IntKind.i64.wrap (q : Int) = (q : Int) := by simp [IntKind.wrap, IntKind.bits, IntKind.signed]; omega
          have q8 : IntKind.i64.wrap ((q : Int) + 1 - 1) = (q : Int) := by simp [IntKind.wrap, IntKind.bits, IntKind.signed]; omega
          have q9 : (q : Int) + 1 - 1 = (q : Int) := by omega
          have HQ := hide hq
          have hguard : (P : Int) + (j : Int) < (q : Int) + 1 := by omega
          rw [hj]
          clear hy hq hj hk hdd hpl hPt
          go_wp2_with fail
          go_region
          all_goals
            go_simp
            go_wp2
            go_roundw
            case rel => exact ⟨k, by have := HQ.out; congr 1; omega, by omega, by omega, HN.out.1.drew, HN.out.2.drew⟩
            case measure => have := HQ.out; simp [intOf]; omega
        · obtain rfl : k0 = j := by omega
          have HF := hide (show ∃ s', Put (A ++ [x]) s' ∧ PartsAt wr g (p ++ s' ++ r) from ⟨_, HPUT.out, by simpa using HM.out.1⟩)
          have HFB := hide HM.out.2
          go_wp2
          all_goals first
            | (exfalso; omega)
            | (refine bodyPost_ret (results_none rfl _ _ _) rfl ?_; exact ⟨rfl, HF.out, HFB.out⟩)
end Go.Proofs.YtamnccechaooaaaGreat
