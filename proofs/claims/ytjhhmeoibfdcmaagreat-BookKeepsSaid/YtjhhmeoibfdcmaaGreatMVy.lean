/- Package vary: what the comparable weeks come to. Package vary: the contract of that. Package vary: the contract of Row. -/
import Derived.Test.YtjhhmeoibfdcmaaGreatMBk
import Derived.Test.YtjhhmeoibfdcmaaGreatNTwinE
import Derived.Test.YtjhhmeoibfdcmaaGreatMWi
import Derived.Laws.Tables
import Derived.Laws.CopyOwn
namespace Go.Proofs.YtjhhmeoibfdcmaaGreat
open Go.RowKit Qd
set_option linter.unusedSimpArgs false
set_option linter.unusedVariables false

set_option maxHeartbeats 800000 in
theorem wsub_any (a b : Int) (w : World) (ha : in64 a) (hb : in64 b) : Calls Tryz.prog 76 #[.int .i64 a, .int .i64 b] w fun e w' => e = .returned (.tuple #[.int .i64 (fitV (a - b)), .int .i64 (fitE (a - b))]) ∧ w = w' := by
  obtain ⟨n, hn⟩ : ∃ n, IntKind.i64.wrap (a - b) = n := ⟨_, rfl⟩
  have hn2 := hn
  rw [IntKind.wrap_i64] at hn2
  have hni : in64 n := by unfold in64; omega
  have har := around2 ha hb hni
  by_cases hf : in64 (a - b)
  · have HV := hide (fit_yes hf).1
    have HE := hide (fit_yes hf).2
    have hnn : n = a - b := by unfold in64 at hf; omega
    have hs : ¬ (bits .and .i64 (bits .xor .i64 a b) (bits .xor .i64 a n) < 0) := by rw [har]; unfold in64 at ha hb hf; omega
    have HN := hide hnn
    have hs2 : decide (bits .and .i64 (bits .xor .i64 a b) (bits .xor .i64 a n) < 0) = false := by simpa using hs
    clear hnn har hn2 hni hf hs
    go_enter Tryz.func76, Tryz.ntmps76
    go_wp2
    go_ret2
    exact ⟨ret_int2 (by rw [HV.out, HN.out]) HE.out.symm, rfl⟩
  · have HV := hide (fit_no hf).1
    have HE := hide (fit_no hf).2
    have hs : (bits .and .i64 (bits .xor .i64 a b) (bits .xor .i64 a n) < 0) := by rw [har]; unfold in64 at ha hb hf; omega
    have hs2 : decide (bits .and .i64 (bits .xor .i64 a b) (bits .xor .i64 a n) < 0) = true := by simpa using hs
    clear har hn2 hni hf hs
    go_enter Tryz.func76, Tryz.ntmps76
    go_wp2
    go_ret2
    exact ⟨ret_int2 HV.out.symm HE.out.symm, rfl⟩

/-- What the accruals are to a year: why they can not be split, and what falls to each week. -/
structure Parts where
  pe : Int → Int
  f : Int → Un → List Int
def TV (c : Cal) (P : List Po) (A : List Ac) (Z : Parts) (x : Un) : Int := tV c x P A (Z.pe x.yr) (Z.f x.yr)
def TE (c : Cal) (P : List Po) (A : List Ac) (Z : Parts) (x : Un) : Int := tE c x P A (Z.pe x.yr) (Z.f x.yr)
def totsE (c : Cal) (P : List Po) (A : List Ac) (Z : Parts) : List Un → Int
  | [] => 0
  | x :: l => if TE c P A Z x = 0 then totsE c P A Z l else TE c P A Z x
/-- What is known of a book in a calendar. -/
def BookOk (c : Cal) (P : List Po) (A : List Ac) (v2 : Value) (Z : Parts) : Prop := (P.length ≤ 5000 ∧ A.length ≤ 5000) ∧ (∀ p ∈ P, in64 p.n) ∧
  ∀ u : Un, unitE c u = 0 → chkE P A = 0 → PartsOk c u.yr A v2 (Z.pe u.yr) (Z.f u.yr) ∧ (Z.pe u.yr = 0 → (∀ x, ∀ n ∈ Z.f u.yr x, in64 n) ∧ (wkNs (Z.f u.yr) u.yr (cutA c u) (cutB c u - cutA c u)).length ≤ 500000)
theorem btotal_bk (c : Cal) (u : Un) (P : List Po) (A : List Ac) (Z : Parts) (v1 v2 : Value) (w : World) (hn : c.name.size ≤ 1000) (hP : Posts w v1 P) (hA : Accs w v2 A) (hB : BookOk c P A v2 Z) :
    Calls Tryz.prog 12 #[calV c, unitV u, .agg #[v1, v2]] w fun e w' => e = .returned (.tuple #[.int .i64 (TV c P A Z u), .int .i64 (TE c P A Z u)]) ∧ Below w.heap.size w w' :=
  btotal_any c u P A (Z.pe u.yr) (Z.f u.yr) v1 v2 w hn hP hA hB.1 hB.2.1 (fun h1 h2 => (hB.2.2 u h1 h2).1) (fun h1 h2 h3 => (hB.2.2 u h1 h2).2 h3)
theorem totsE_take {c : Cal} {P : List Po} {A : List Ac} {Z : Parts} {L : List Un} {j : Nat} {x : Un} (hx : L[j]? = some x) (h : totsE c P A Z (L.take j) = 0) (h0 : TE c P A Z x = 0) : totsE c P A Z (L.take (j + 1)) = 0 := by
  induction L generalizing j with
  | nil => simp at hx
  | cons y l ih =>
    cases j with
    | zero => simp at hx; subst hx; simp [totsE, h0]
    | succ j =>
      simp only [List.take_succ_cons, totsE] at h ⊢
      by_cases hy : TE c P A Z y = 0
      · rw [if_pos hy] at h ⊢; exact ih (by simpa using hx) h
      · rw [if_neg hy] at h; exact absurd h hy
theorem totsE_no {c : Cal} {P : List Po} {A : List Ac} {Z : Parts} {L : List Un} {j : Nat} {x : Un} (hx : L[j]? = some x) (h : totsE c P A Z (L.take j) = 0) (h0 : ¬ TE c P A Z x = 0) : totsE c P A Z L = TE c P A Z x := by
  induction L generalizing j with
  | nil => simp at hx
  | cons y l ih =>
    cases j with
    | zero => simp at hx; subst hx; simp [totsE, h0]
    | succ j =>
      simp only [List.take_succ_cons, totsE] at h ⊢
      by_cases hy : TE c P A Z y = 0
      · rw [if_pos hy] at h ⊢; exact ih (by simpa using hx) h
      · rw [if_neg hy] at h; exact absurd h hy
/-- What the comparable weeks come to. -/
def thS (c : Cal) (u : Un) (k : Int) (P : List Po) (A : List Ac) (Z : Parts) : Int := ((twL c u k).map (TV c P A Z)).sum
def thOk (c : Cal) (u : Un) (k : Int) (P : List Po) (A : List Ac) (Z : Parts) : Bool := decide (twE c u k = 0) && decide (totsE c P A Z (twL c u k) = 0)
def thV (c : Cal) (u : Un) (k : Int) (P : List Po) (A : List Ac) (Z : Parts) : Int := if thOk c u k P A Z then fitV (thS c u k P A Z) else 0
def thE (c : Cal) (u : Un) (k : Int) (P : List Po) (A : List Ac) (Z : Parts) : Int := if twE c u k = 12 then 0 else if twE c u k = 0 then (if totsE c P A Z (twL c u k) = 0 then fitE (thS c u k P A Z) else totsE c P A Z (twL c u k)) else twE c u k
def donL (L : List Int) (j : Nat) : List Int := L.take j ++ List.replicate (L.length - j) 0
theorem donL_len (L : List Int) (j : Nat) (h : j ≤ L.length) : (donL L j).length = L.length := by simp [donL]; omega
theorem donL_set (L : List Int) (j : Nat) (x : Int) (h : L[j]? = some x) : (donL L j).set j x = donL L (j + 1) := by
  have hj := (List.getElem?_eq_some_iff.1 h).1
  unfold donL
  have h1 : (L.take j).length = j := by rw [List.length_take]; omega
  rw [List.set_append_right _ _ (by omega), h1, Nat.sub_self, show L.length - j = (L.length - (j + 1)) + 1 by omega, List.replicate_succ, List.set_cons_zero, List.take_add_one, h]
  simp
theorem donL_full (L : List Int) : donL L L.length = L := by simp [donL]
theorem donL_zero (L : List Int) : donL L 0 = List.replicate L.length 0 := by simp [donL]

end Go.Proofs.YtjhhmeoibfdcmaaGreat

namespace Go.Proofs.YtjhhmeoibfdcmaaGreat
open Go.RowKit Qd
set_option linter.unusedSimpArgs false
set_option linter.unusedVariables false
theorem TV_in (c : Cal) (P : List Po) (A : List Ac) (Z : Parts) (x : Un) : in64 (TV c P A Z x) := by
  unfold TV tV
  split
  · exact fit_in _
  · exact ⟨by decide, by decide⟩
theorem donL_next {L : List Int} {j : Nat} (h : j < L.length) : (donL L j)[j]? = some 0 := by
  unfold donL
  have h1 : (L.take j).length = j := by rw [List.length_take]; omega
  rw [List.getElem?_append_right (by omega), h1, Nat.sub_self, List.getElem?_replicate, if_pos (by omega)]
/-- What is kept in the loop: the calendar, the unit, the book, the weeks, their totals so far. -/
def ThSt (c : Cal) (u : Un) (v1 v2 : Value) (L : List Un) (g cap G B : Nat) (l : List Int) (w0 w : World) : Prop := TtSt c u v1 v2 B w0 w ∧ UnsAt w g cap L ∧ g < w.heap.size ∧ LongsAt w G l ∧ B + 2 < G
theorem ThSt.via {c : Cal} {u : Un} {v1 v2 : Value} {L : List Un} {g cap G B m : Nat} {l : List Int} {w0 w W w' : World} (h : ThSt c u v1 v2 L g cap G B l w0 w) (hb : Below m W w') (h1 : Below w.heap.size w W := by exact bel) (h2 : w.heap.size ≤ m := by exact sz) : ThSt c u v1 v2 L g cap G B l w0 w' := by
  have hb2 := h1.trans (hb.mono h2)
  exact ⟨h.1.call hb2, h.2.1.call hb2, Nat.lt_of_lt_of_le h.2.2.1 hb2.size, h.2.2.2.1.call hb2, h.2.2.2.2⟩
theorem ThSt.set {c : Cal} {u : Un} {v1 v2 : Value} {L : List Un} {g cap G B j : Nat} {l : List Int} {w0 w : World} {x : Int} (h : ThSt c u v1 v2 L g cap G B (donL l j) w0 w) (hx : l[j]? = some x) : ThSt c u v1 v2 L g cap G B (donL l (j + 1)) w0 (w.setCell ⟨G, j, none⟩ (.int .i64 x)) := by
  obtain ⟨⟨h1, h2, h3, h4, h5⟩, h6, h7, h8, h9⟩ := h
  have hb : Below G w (w.setCell ⟨G, j, none⟩ (.int .i64 x)) := (Below.refl G w).setCell (show G ≤ (⟨G, j, none⟩ : Addr).block from Nat.le_refl _) _
  have hne : g ≠ G := by
    rintro rfl
    rcases h6.2 with ⟨e, _⟩ | ⟨g', cap', cur, e, _, h3', _⟩
    · cases e
    · cases e
      unfold LongsAt at h8
      rw [h8] at h3'
      cases h3'
  refine ⟨⟨calAt_below hb (by omega) h1, unAt_below hb (by omega) h2, h3.below hb (by omega), by simpa using h4, h5.trans (hb.mono (by omega))⟩, ?_, by simpa using h7, by rw [← donL_set l j x hx]; exact h8.set j x, h9⟩
  refine ⟨h6.1, ?_⟩
  rcases h6.2 with h10 | ⟨g', cap', cur, he, h2', hg', h3'⟩
  · exact .inl h10
  · cases he
    exact .inr ⟨g, cap, cur, rfl, h2', (Below.heap_setCell w ⟨G, j, none⟩ _ g hne).trans hg', h3'⟩

set_option maxRecDepth 100000 in
set_option maxHeartbeats 6400000 in
theorem that_any (c : Cal) (u : Un) (k : Int) (P : List Po) (A : List Ac) (Z : Parts) (v1 v2 : Value) (w : World) (hn : c.name.size ≤ 1000) (hP : Posts w v1 P) (hA : Accs w v2 A) (hB : BookOk c P A v2 Z) :
    Calls Tryz.prog 75 #[calV c, unitV u, .int .i64 k, .agg #[v1, v2]] w fun e w' => e = .returned (.tuple #[.int .i64 (thV c u k P A Z), .bool (thOk c u k P A Z), .int .i64 (thE c u k P A Z)]) ∧ Below w.heap.size w w' := by
  have HP := hide hP
  have HA := hide hA
  have HB := hide hB
  have H0 := hide (ttSt_new c u v1 v2 w)
  obtain ⟨ad1, cap1, rfl, _⟩ := hP
  obtain ⟨ad2, cap2, rfl, _⟩ := hA
  clear hB
  by_cases h12 : twE c u k = 12
  · have HV := hide (show thV c u k P A Z = 0 by simp [thV, thOk, h12])
    have HO := hide (show thOk c u k P A Z = false by simp [thOk, h12])
    have HE := hide (show thE c u k P A Z = 0 by simp [thE, h12])
    have HL := hide (tw_no (show ¬ twE c u k = 0 by omega))
    have H12 := hide h12
    clear h12
    simp only [calV, unitV]
    go_enter Tryz.func75, Tryz.ntmps75
    go_wp2_with fail
    refine (tweeks_any c u k _ hn).mono ?_
    rintro e w1 ⟨⟨v, rfl, hv⟩, hb1⟩
    rw [H12.out]
    obtain rfl := twV_nil HL.out hv
    clear hv
    have HS1 := hide (H0.out.via hb1)
    have HP1 := hide (HP.out.call (HS1.out.2.2.2.2))
    have HA1 := hide (HA.out.call (HS1.out.2.2.2.2))
    clear hb1
    obtain ⟨⟨q0, q1, q2, q3, q4, q5, q6, q7, q8, q9, q10, q11, q12, q13⟩, ⟨u0, u1, u2⟩, ⟨k0, k1⟩, hsz, hBel⟩ := HS1.out.cells
    go_wp2
    go_ret3
    rw [HV.out, HO.out, HE.out]
    exact ⟨rfl, hBel⟩
  · by_cases h0 : twE c u k = 0
    · have hlen : (twL c u k).length ≤ 60 ∧ 0 < (twL c u k).length := by
        obtain ⟨f0, g0, m0, n0, hm0, hmn, hlen, _⟩ := tw_form h0
        omega
      have H0E := hide h0
      have hTH := hide (And.intro (show thV c u k P A Z = if totsE c P A Z (twL c u k) = 0 then fitV (thS c u k P A Z) else 0 by simp [thV, thOk, h0]) (And.intro (show thOk c u k P A Z = decide (totsE c P A Z (twL c u k) = 0) by simp [thOk, h0]) (show thE c u k P A Z = if totsE c P A Z (twL c u k) = 0 then fitE (thS c u k P A Z) else totsE c P A Z (twL c u k) by simp [thE, h0])))
      have hTS := hide (show thS c u k P A Z = ((twL c u k).map (TV c P A Z)).sum from rfl)
      obtain ⟨L, hL⟩ : ∃ L, twL c u k = L := ⟨_, rfl⟩
      have HLL := hide hL
      rw [hL] at hTH hTS hlen
      have hL60 : L.length ≤ 60 ∧ 0 < L.length := by omega
      have hmk := fun w => make_longs L.length (by omega) w
      clear h12 h0 hL hlen
      simp only [calV, unitV]
      go_enter Tryz.func75, Tryz.ntmps75
      go_wp2_with fail
      refine (tweeks_any c u k _ hn).mono ?_
      rintro e w1 ⟨⟨v, rfl, hv⟩, hb1⟩
      rw [H0E.out]
      rw [HLL.out] at hv
      obtain ⟨g, cap, rfl, _, hun⟩ := twV_some hL60.2 hv
      have hgl := hun.lt hL60.2
      have HN1 := hide hun
      clear hv hun
      have HS1 := hide (H0.out.via hb1)
      clear hb1
      obtain ⟨⟨q0, q1, q2, q3, q4, q5, q6, q7, q8, q9, q10, q11, q12, q13⟩, ⟨u0, u1, u2⟩, ⟨k0, k1⟩, hsz, hBel⟩ := HS1.out.cells
      obtain ⟨L2, hL2⟩ : ∃ L2, L.map (TV c P A Z) = L2 := ⟨_, rfl⟩
      have hl2 : L2.length = L.length := by rw [← hL2]; simp
      have HL2 := hide (And.intro hL2 hl2)
      have HT1 := hide (show ThSt c u (.slice ad1 P.length cap1) (.slice ad2 A.length cap2) L g cap w1.heap.size w.heap.size (donL L2 0) w (w1.alloc (zeroObj64 L.length)) from ⟨HS1.out.call (by (repeat' exact bel)), HN1.out.alloc _, by simp; omega, by rw [donL_zero, hl2]; exact LongsAt.new _ _, by omega⟩)
      clear hL2 hl2
      go_wp2_with fail
      clear q0 q1 q2 q3 q4 q5 q6 q7 q8 q9 q10 q11 q12 q13 u0 u1 u2 k0 k1 hsz hBel
      go_loopw [12, 34] (fun s12 s34 wr => ∃ j : Nat, s34 = .int .i64 j ∧ s12 = .int .i64 0 ∧ j ≤ L.length ∧ Hid (totsE c P A Z (L.take j) = 0) ∧ ThSt c u (.slice ad1 P.length cap1) (.slice ad2 A.length cap2) L g cap w1.heap.size w.heap.size (donL L2 j) w wr) (fun _ s34 _ => (500 - intOf s34).toNat)
      case atStart => exact ⟨0, rfl, rfl, Nat.zero_le _, hide rfl, HT1.out⟩
      case round =>
        obtain ⟨j, rfl, rfl, hj, HZ, hS⟩ := hrel
        have HS := hide hS
        clear hS
        obtain ⟨⟨q0, q1, q2, q3, q4, q5, q6, q7, q8, q9, q10, q11, q12, q13⟩, ⟨u0, u1, u2⟩, ⟨k0, k1⟩, hsz, hBel⟩ := HS.out.1.cells
        have hG := HS.out.2.2.2.1.lt
        have hy0 : w.heap.size < wr.heap.size ∧ w.heap.size + 1 < wr.heap.size ∧ w.heap.size + 1 + 1 < wr.heap.size := by omega
        obtain ⟨hy0, hy1, hy2⟩ := hy0
        by_cases hlt : j < L.length
        · obtain ⟨x, hx⟩ : ∃ x, L[j]? = some x := ⟨_, List.getElem?_eq_getElem hlt⟩
          obtain ⟨a0, a1, a2⟩ := UnsAt.cell HS.out.2.1 hx
          have hgl2 := HS.out.2.2.1
          have hx2 : L2[j]? = some (TV c P A Z x) := by rw [← HL2.out.1]; simp [hx]
          have HX := hide (And.intro hx hx2)
          have HP2 := hide (HP.out.call hBel)
          have HA2 := hide (HA.out.call hBel)
          clear hx hx2
          have hi1 : (0 : Int) ≤ (j : Int) := by omega
          have hi3 : (j : Int) < (L.length : Int) := by omega
          go_wp2_with fail
          refine (btotal_bk c x P A Z _ _ (wr.alloc (unObj x)) hn (HP2.out.call (by (repeat' exact bel))) (HA2.out.call (by (repeat' exact bel))) HB.out).mono ?_
          rintro e w2 ⟨rfl, hb2⟩
          have HS2 := hide (HS.out.via hb2)
          clear hb2 q0 q1 q2 q3 q4 q5 q6 q7 q8 q9 q10 q11 q12 q13 u0 u1 u2 k0 k1 hsz hBel hG a0 a1 a2 hy0 hy1 hy2
          obtain ⟨⟨q0, q1, q2, q3, q4, q5, q6, q7, q8, q9, q10, q11, q12, q13⟩, ⟨u0, u1, u2⟩, ⟨k0, k1⟩, hsz, hBel⟩ := HS2.out.1.cells
          have hc2 := HS2.out.2.2.2.1.cell (donL_next (L := L2) (j := j) (by have := HL2.out.2; omega))
          have hf2 := HS2.out.2.2.2.1.frozen j
          have hG := HS2.out.2.2.2.1.lt
          have hGw := HS2.out.2.2.2.2
          by_cases hTE : TE c P A Z x = 0
          · have HTE := hide hTE
            rw [HTE.out]
            have HN := hide (HS2.out.set HX.out.2)
            have HT := hide (totsE_take HX.out.1 HZ.out hTE)
            clear hTE
            go_wp2
            go_roundw
            case rel => exact ⟨j + 1, by go_num, rfl, by omega, HT, HN.out⟩
            case measure => simp [intOf]; omega
          · have HNE := hide (totsE_no HX.out.1 HZ.out hTE)
            have HTE := hide hTE
            have hbE : (TE c P A Z x != 0) = true := by simpa using hTE
            clear hTE
            go_wp2
            go_ret3
            rw [hTH.out.1, hTH.out.2.1, hTH.out.2.2, HNE.out, if_neg HTE.out, if_neg HTE.out, decide_eq_false HTE.out]
            exact ⟨rfl, hBel.setCell (by simp; omega) _⟩
        · have hjl : j = L.length := by omega
          subst hjl
          have HT0 := hide (show totsE c P A Z L = 0 by have h := HZ.out; rwa [List.take_length] at h)
          have HNN := hide (show Nums wr (.slice (some ⟨w1.heap.size, 0, none⟩) L.length L.length) L2 by
            have h := HS.out.2.2.2.1
            have hl2 := HL2.out.2
            rw [← hl2, donL_full] at h
            rw [← hl2]
            exact h.nums)
          have h64 := hide (show ∀ y ∈ L2, in64 y from fun y hy => by
            rw [← HL2.out.1] at hy
            obtain ⟨z, _, rfl⟩ := List.mem_map.1 hy
            exact TV_in _ _ _ _ _)
          have hl2b := hide (show L2.length ≤ 1000000 by have := HL2.out.2; omega)
          go_wp2_with fail
          refine (wsum_any _ L2 _ HNN.out h64.out hl2b.out).mono ?_
          rintro e w2 ⟨rfl, hb2⟩
          have HB2 := hide (hBel.trans (hb2.mono (by have := hBel.size; omega)))
          clear hb2
          go_wp2
          go_ret3
          rw [hTH.out.1, hTH.out.2.1, hTH.out.2.2, HT0.out, if_pos rfl, if_pos rfl, hTS.out, HL2.out.1, decide_eq_true rfl]
          exact ⟨rfl, HB2.out⟩
    · have HV := hide (show thV c u k P A Z = 0 by simp [thV, thOk, h0])
      have HO := hide (show thOk c u k P A Z = false by simp [thOk, h0])
      have HE := hide (show thE c u k P A Z = twE c u k by simp [thE, h0, h12])
      have HL := hide (tw_no h0)
      have hb12 : (twE c u k == 12) = false := by simpa using h12
      have hb0 : (twE c u k != 0) = true := by simpa using h0
      clear h12 h0
      simp only [calV, unitV]
      go_enter Tryz.func75, Tryz.ntmps75
      go_wp2_with fail
      refine (tweeks_any c u k _ hn).mono ?_
      rintro e w1 ⟨⟨v, rfl, hv⟩, hb1⟩
      obtain rfl := twV_nil HL.out hv
      clear hv
      have HS1 := hide (H0.out.via hb1)
      have HP1 := hide (HP.out.call (HS1.out.2.2.2.2))
      have HA1 := hide (HA.out.call (HS1.out.2.2.2.2))
      clear hb1
      obtain ⟨⟨q0, q1, q2, q3, q4, q5, q6, q7, q8, q9, q10, q11, q12, q13⟩, ⟨u0, u1, u2⟩, ⟨k0, k1⟩, hsz, hBel⟩ := HS1.out.cells
      go_wp2
      go_ret3
      rw [HV.out, HO.out, HE.out]
      exact ⟨rfl, hBel⟩
end Go.Proofs.YtjhhmeoibfdcmaaGreat

namespace Go.Proofs.YtjhhmeoibfdcmaaGreat
open Go.RowKit Qd
set_option linter.unusedSimpArgs false
set_option linter.unusedVariables false

abbrev rw0 : Array Value := #[.int .i64 0, .int .i64 0, .int .i64 0, .int .i64 0, .int .i64 0, .int .i64 0, .bool false]
def RwSt (c : Cal) (u : Un) (v1 v2 : Value) (B : Nat) (w0 w : World) : Prop := TtSt c u v1 v2 B w0 w ∧ BlkIs w (B + 1 + 1 + 1) rw0 69
theorem RwSt.via {c : Cal} {u : Un} {v1 v2 : Value} {B m : Nat} {w0 w W w' : World} (h : RwSt c u v1 v2 B w0 w) (hb : Below m W w') (h1 : Below w.heap.size w W := by exact bel) (h2 : w.heap.size ≤ m := by exact sz) : RwSt c u v1 v2 B w0 w' :=
  ⟨h.1.call (h1.trans (hb.mono h2)), h.2.call (h1.trans (hb.mono h2))⟩
theorem rwSt_new (c : Cal) (u : Un) (v1 v2 : Value) (w : World) : RwSt c u v1 v2 w.heap.size w ((((w.alloc (calObj c)).alloc (unObj u)).alloc (.cells #[v1, v2] 30)).alloc (.cells rw0 69)) := by
  refine ⟨(ttSt_new c u v1 v2 w).call (by (repeat' exact bel)), ?_⟩
  have h := BlkIs.new (((w.alloc (calObj c)).alloc (unObj u)).alloc (.cells #[v1, v2] 30)) rw0 69
  simpa using h
theorem res_row {tmps : Array Value} {W : World} {B : Nat} {a b c d e f x : Int} {g : Bool} (h8 : tmps[8]? = some (.pointer (some ⟨B, 0, none⟩))) (h9 : tmps[9]? = some (.int .i64 x))
    (k : W.heap[B]? = some (.cells #[.int .i64 a, .int .i64 b, .int .i64 c, .int .i64 d, .int .i64 e, .int .i64 f, .bool g] 69 (0, 0))) :
    (results Tryz.f36 tmps).run Tryz.prog W = .ok (.tuple #[.agg #[.int .i64 a, .int .i64 b, .int .i64 c, .int .i64 d, .int .i64 e, .int .i64 f, .bool g], .int .i64 x]) W := by
  have k2 : BlkIs W B #[.int .i64 a, .int .i64 b, .int .i64 c, .int .i64 d, .int .i64 e, .int .i64 f, .bool g] 69 := k
  have c0 := k2.cell 0
  have c1 := k2.cell 1
  have c2 := k2.cell 2
  have c3 := k2.cell 3
  have c4 := k2.cell 4
  have c5 := k2.cell 5
  have c6 := k2.cell 6
  simp at c0 c1 c2 c3 c4 c5 c6
  simp [results, Tryz.results36, go_sem, h8, h9, c0, c1, c2, c3, c4, c5, c6]
theorem thV_in (c : Cal) (u : Un) (k : Int) (P : List Po) (A : List Ac) (Z : Parts) : in64 (thV c u k P A Z) := by
  unfold thV
  split
  · exact fit_in _
  · exact ⟨by decide, by decide⟩
/-- A row. -/
structure Rw where
  u : Un
  this : Int
  that : Int
  diff : Int
  gone : Bool
abbrev rowCs (r : Rw) : Array Value := #[.int .i64 r.u.lv, .int .i64 r.u.yr, .int .i64 r.u.ix, .int .i64 r.this, .int .i64 r.that, .int .i64 r.diff, .bool r.gone]
def rwE (c : Cal) (u : Un) (k : Int) (P : List Po) (A : List Ac) (Z : Parts) : Int := if TE c P A Z u = 0 then (if thE c u k P A Z = 0 then fitE (TV c P A Z u - thV c u k P A Z) else thE c u k P A Z) else TE c P A Z u
def rwV (c : Cal) (u : Un) (k : Int) (P : List Po) (A : List Ac) (Z : Parts) : Rw := if rwE c u k P A Z = 0 then ⟨u, TV c P A Z u, thV c u k P A Z, TV c P A Z u - thV c u k P A Z, !thOk c u k P A Z⟩ else ⟨⟨0, 0, 0⟩, 0, 0, 0, false⟩

set_option maxRecDepth 100000 in
set_option maxHeartbeats 6400000 in
theorem vrow_any (c : Cal) (u : Un) (k : Int) (P : List Po) (A : List Ac) (Z : Parts) (v1 v2 : Value) (w : World) (hn : c.name.size ≤ 1000) (hP : Posts w v1 P) (hA : Accs w v2 A) (hB : BookOk c P A v2 Z) :
    Calls Tryz.prog 36 #[calV c, unitV u, .int .i64 k, .agg #[v1, v2]] w fun e w' => e = .returned (.tuple #[.agg (rowCs (rwV c u k P A Z)), .int .i64 (rwE c u k P A Z)]) ∧ Below w.heap.size w w' := by
  have HP := hide hP
  have HA := hide hA
  have HB := hide hB
  have H0 := hide (rwSt_new c u v1 v2 w)
  obtain ⟨ad1, cap1, rfl, _⟩ := hP
  obtain ⟨ad2, cap2, rfl, _⟩ := hA
  clear hB
  by_cases hT : TE c P A Z u = 0
  · have HT := hide hT
    by_cases hH : thE c u k P A Z = 0
    · have HH := hide hH
      by_cases hF : in64 (TV c P A Z u - thV c u k P A Z)
      · have HF := hide (fit_yes hF)
        have HE := hide (show rwE c u k P A Z = 0 by rw [rwE, if_pos hT, if_pos hH, (fit_yes hF).2])
        have HV := hide (show rwV c u k P A Z = ⟨u, TV c P A Z u, thV c u k P A Z, TV c P A Z u - thV c u k P A Z, !thOk c u k P A Z⟩ by rw [rwV, if_pos HE.out])
        clear hT hH hF
        simp only [calV, unitV]
        go_enter Tryz.func36, Tryz.ntmps36
        go_wp2_with fail
        refine (btotal_bk c u P A Z _ _ ((((w.alloc (calObj c)).alloc (unObj u)).alloc (.cells #[.slice ad1 P.length cap1, .slice ad2 A.length cap2] 30)).alloc (.cells rw0 69)) hn (HP.out.call (by (repeat' exact bel))) (HA.out.call (by (repeat' exact bel))) HB.out).mono ?_
        rintro e w1 ⟨rfl, hb1⟩
        rw [HT.out]
        have HS1 := hide (H0.out.via hb1)
        have HP1 := hide (HP.out.call (HS1.out.1.2.2.2.2))
        have HA1 := hide (HA.out.call (HS1.out.1.2.2.2.2))
        clear hb1
        obtain ⟨⟨q0, q1, q2, q3, q4, q5, q6, q7, q8, q9, q10, q11, q12, q13⟩, ⟨u0, u1, u2⟩, ⟨k0, k1⟩, hsz, hBel⟩ := HS1.out.1.cells
        have KR := HS1.out.2
        go_wp2_with fail
        refine (that_any c u k P A Z _ _ _ hn HP1.out HA1.out HB.out).mono ?_
        rintro e w2 ⟨rfl, hb2⟩
        clear q0 q1 q2 q3 q4 q5 q6 q7 q8 q9 q10 q11 q12 q13 u0 u1 u2 k0 k1 hsz hBel KR
        rw [HH.out]
        have HS2 := hide (HS1.out.via hb2)
        have HP2 := hide (HP.out.call (HS2.out.1.2.2.2.2))
        have HA2 := hide (HA.out.call (HS2.out.1.2.2.2.2))
        clear hb2
        obtain ⟨⟨q0, q1, q2, q3, q4, q5, q6, q7, q8, q9, q10, q11, q12, q13⟩, ⟨u0, u1, u2⟩, ⟨k0, k1⟩, hsz, hBel⟩ := HS2.out.1.cells
        have KR := HS2.out.2
        go_wp2_with fail
        refine (wsub_any (TV c P A Z u) (thV c u k P A Z) _ (TV_in _ _ _ _ _) (thV_in _ _ _ _ _ _)).mono ?_
        rintro e w3 ⟨rfl, rfl⟩
        rw [HF.out.1, HF.out.2]
        go_wp2_with (refine wpList_store_row rfl _ _ _ rfl (w.heap.size + 1 + 1 + 1) #[.int .i64 u.lv, .int .i64 u.yr, .int .i64 u.ix, .int .i64 (TV c P A Z u), .int .i64 (thV c u k P A Z), .int .i64 (TV c P A Z u - thV c u k P A Z), .bool (!thOk c u k P A Z)] rfl rfl _ _ KR (by kernel_rfl) rfl (by simp [Value.oneCell']) ?_)
        go_wp2
        exact bodyPost_ret (v := .tuple #[.agg #[.int .i64 u.lv, .int .i64 u.yr, .int .i64 u.ix, .int .i64 (TV c P A Z u), .int .i64 (thV c u k P A Z), .int .i64 (TV c P A Z u - thV c u k P A Z), .bool (!thOk c u k P A Z)], .int .i64 0]) (by exact res_row rfl rfl (setRow_heap _ _ _ _ _ _ KR)) rfl ⟨by rw [HV.out, HE.out], below_setRow hBel (by omega) _⟩
      · have HF := hide (fit_no hF)
        have HE := hide (show rwE c u k P A Z = 2 by rw [rwE, if_pos hT, if_pos hH, (fit_no hF).2])
        have HV := hide (show rwV c u k P A Z = ⟨⟨0, 0, 0⟩, 0, 0, 0, false⟩ by rw [rwV, HE.out]; rfl)
        clear hT hH hF
        simp only [calV, unitV]
        go_enter Tryz.func36, Tryz.ntmps36
        go_wp2_with fail
        refine (btotal_bk c u P A Z _ _ ((((w.alloc (calObj c)).alloc (unObj u)).alloc (.cells #[.slice ad1 P.length cap1, .slice ad2 A.length cap2] 30)).alloc (.cells rw0 69)) hn (HP.out.call (by (repeat' exact bel))) (HA.out.call (by (repeat' exact bel))) HB.out).mono ?_
        rintro e w1 ⟨rfl, hb1⟩
        rw [HT.out]
        have HS1 := hide (H0.out.via hb1)
        have HP1 := hide (HP.out.call (HS1.out.1.2.2.2.2))
        have HA1 := hide (HA.out.call (HS1.out.1.2.2.2.2))
        clear hb1
        obtain ⟨⟨q0, q1, q2, q3, q4, q5, q6, q7, q8, q9, q10, q11, q12, q13⟩, ⟨u0, u1, u2⟩, ⟨k0, k1⟩, hsz, hBel⟩ := HS1.out.1.cells
        have KR := HS1.out.2
        go_wp2_with fail
        refine (that_any c u k P A Z _ _ _ hn HP1.out HA1.out HB.out).mono ?_
        rintro e w2 ⟨rfl, hb2⟩
        clear q0 q1 q2 q3 q4 q5 q6 q7 q8 q9 q10 q11 q12 q13 u0 u1 u2 k0 k1 hsz hBel KR
        rw [HH.out]
        have HS2 := hide (HS1.out.via hb2)
        have HP2 := hide (HP.out.call (HS2.out.1.2.2.2.2))
        have HA2 := hide (HA.out.call (HS2.out.1.2.2.2.2))
        clear hb2
        obtain ⟨⟨q0, q1, q2, q3, q4, q5, q6, q7, q8, q9, q10, q11, q12, q13⟩, ⟨u0, u1, u2⟩, ⟨k0, k1⟩, hsz, hBel⟩ := HS2.out.1.cells
        have KR := HS2.out.2
        go_wp2_with fail
        refine (wsub_any (TV c P A Z u) (thV c u k P A Z) _ (TV_in _ _ _ _ _) (thV_in _ _ _ _ _ _)).mono ?_
        rintro e w3 ⟨rfl, rfl⟩
        rw [HF.out.1, HF.out.2]
        go_wp2_with (refine wpList_store_row rfl _ _ _ rfl (w.heap.size + 1 + 1 + 1) #[.int .i64 0, .int .i64 0, .int .i64 0, .int .i64 0, .int .i64 0, .int .i64 0, .bool false] rfl rfl _ _ KR (by kernel_rfl) rfl (by simp [Value.oneCell']) ?_)
        go_wp2
        exact bodyPost_ret (v := .tuple #[.agg #[.int .i64 0, .int .i64 0, .int .i64 0, .int .i64 0, .int .i64 0, .int .i64 0, .bool false], .int .i64 2]) (by exact res_row rfl rfl (setRow_heap _ _ _ _ _ _ KR)) rfl ⟨by rw [HV.out, HE.out], below_setRow hBel (by omega) _⟩
    · have HE := hide (show rwE c u k P A Z = thE c u k P A Z by rw [rwE, if_pos hT, if_neg hH])
      have HV := hide (show rwV c u k P A Z = ⟨⟨0, 0, 0⟩, 0, 0, 0, false⟩ by rw [rwV, HE.out, if_neg hH])
      have hbH : (thE c u k P A Z != 0) = true := by simpa using hH
      clear hT hH
      simp only [calV, unitV]
      go_enter Tryz.func36, Tryz.ntmps36
      go_wp2_with fail
      refine (btotal_bk c u P A Z _ _ ((((w.alloc (calObj c)).alloc (unObj u)).alloc (.cells #[.slice ad1 P.length cap1, .slice ad2 A.length cap2] 30)).alloc (.cells rw0 69)) hn (HP.out.call (by (repeat' exact bel))) (HA.out.call (by (repeat' exact bel))) HB.out).mono ?_
      rintro e w1 ⟨rfl, hb1⟩
      rw [HT.out]
      have HS1 := hide (H0.out.via hb1)
      have HP1 := hide (HP.out.call (HS1.out.1.2.2.2.2))
      have HA1 := hide (HA.out.call (HS1.out.1.2.2.2.2))
      clear hb1
      obtain ⟨⟨q0, q1, q2, q3, q4, q5, q6, q7, q8, q9, q10, q11, q12, q13⟩, ⟨u0, u1, u2⟩, ⟨k0, k1⟩, hsz, hBel⟩ := HS1.out.1.cells
      have KR := HS1.out.2
      go_wp2_with fail
      refine (that_any c u k P A Z _ _ _ hn HP1.out HA1.out HB.out).mono ?_
      rintro e w2 ⟨rfl, hb2⟩
      clear q0 q1 q2 q3 q4 q5 q6 q7 q8 q9 q10 q11 q12 q13 u0 u1 u2 k0 k1 hsz hBel KR
      have HS2 := hide (HS1.out.via hb2)
      have HP2 := hide (HP.out.call (HS2.out.1.2.2.2.2))
      have HA2 := hide (HA.out.call (HS2.out.1.2.2.2.2))
      clear hb2
      obtain ⟨⟨q0, q1, q2, q3, q4, q5, q6, q7, q8, q9, q10, q11, q12, q13⟩, ⟨u0, u1, u2⟩, ⟨k0, k1⟩, hsz, hBel⟩ := HS2.out.1.cells
      have KR := HS2.out.2
      go_wp2_with (refine wpList_store_row rfl _ _ _ rfl (w.heap.size + 1 + 1 + 1) #[.int .i64 0, .int .i64 0, .int .i64 0, .int .i64 0, .int .i64 0, .int .i64 0, .bool false] rfl rfl _ _ KR (by kernel_rfl) rfl (by simp [Value.oneCell']) ?_)
      go_wp2
      exact bodyPost_ret (v := .tuple #[.agg #[.int .i64 0, .int .i64 0, .int .i64 0, .int .i64 0, .int .i64 0, .int .i64 0, .bool false], .int .i64 (thE c u k P A Z)]) (by exact res_row rfl rfl (setRow_heap _ _ _ _ _ _ KR)) rfl ⟨by rw [HV.out, HE.out], below_setRow hBel (by omega) _⟩
  · have HE := hide (show rwE c u k P A Z = TE c P A Z u by rw [rwE, if_neg hT])
    have HV := hide (show rwV c u k P A Z = ⟨⟨0, 0, 0⟩, 0, 0, 0, false⟩ by rw [rwV, HE.out, if_neg hT])
    have hbT : (TE c P A Z u != 0) = true := by simpa using hT
    clear hT
    simp only [calV, unitV]
    go_enter Tryz.func36, Tryz.ntmps36
    go_wp2_with fail
    refine (btotal_bk c u P A Z _ _ ((((w.alloc (calObj c)).alloc (unObj u)).alloc (.cells #[.slice ad1 P.length cap1, .slice ad2 A.length cap2] 30)).alloc (.cells rw0 69)) hn (HP.out.call (by (repeat' exact bel))) (HA.out.call (by (repeat' exact bel))) HB.out).mono ?_
    rintro e w1 ⟨rfl, hb1⟩
    have HS1 := hide (H0.out.via hb1)
    have HP1 := hide (HP.out.call (HS1.out.1.2.2.2.2))
    have HA1 := hide (HA.out.call (HS1.out.1.2.2.2.2))
    clear hb1
    obtain ⟨⟨q0, q1, q2, q3, q4, q5, q6, q7, q8, q9, q10, q11, q12, q13⟩, ⟨u0, u1, u2⟩, ⟨k0, k1⟩, hsz, hBel⟩ := HS1.out.1.cells
    have KR := HS1.out.2
    go_wp2_with (refine wpList_store_row rfl _ _ _ rfl (w.heap.size + 1 + 1 + 1) #[.int .i64 0, .int .i64 0, .int .i64 0, .int .i64 0, .int .i64 0, .int .i64 0, .bool false] rfl rfl _ _ KR (by kernel_rfl) rfl (by simp [Value.oneCell']) ?_)
    go_wp2
    exact bodyPost_ret (v := .tuple #[.agg #[.int .i64 0, .int .i64 0, .int .i64 0, .int .i64 0, .int .i64 0, .int .i64 0, .bool false], .int .i64 (TE c P A Z u)]) (by exact res_row rfl rfl (setRow_heap _ _ _ _ _ _ KR)) rfl ⟨by rw [HV.out, HE.out], below_setRow hBel (by omega) _⟩
end Go.Proofs.YtjhhmeoibfdcmaaGreat
