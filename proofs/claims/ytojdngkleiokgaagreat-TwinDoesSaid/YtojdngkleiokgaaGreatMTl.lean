/- Twin, sixth part: the contract of twin.Runs. Twin: the chapter's example, and what a list of units is as a value. -/
import Derived.Test.YtojdngkleiokgaaGreatNTwinE
import Derived.Test.YtojdngkleiokgaaGreatMUn
namespace Go.Proofs.YtojdngkleiokgaaGreat
open Go.RowKit Go.Shelf Qd
set_option linter.unusedSimpArgs false
set_option linter.unusedVariables false

/-- Spans as cells. -/
def flatS (l : List Sp) : List Value := l.flatMap fun s => [.int .i64 s.a, .int .i64 s.b]
theorem flatS_snoc (l : List Sp) (s : Sp) : flatS (l ++ [s]) = flatS l ++ [.int .i64 s.a, .int .i64 s.b] := by simp [flatS]
theorem flatS_len (l : List Sp) : (flatS l).length = l.length * 2 := by
  induction l with
  | nil => rfl
  | cons a l ih => simp only [flatS, List.flatMap_cons, List.length_append, List.length_cons, List.length_nil] at ih ⊢; omega
def SpsAt (w : World) (g cap : Nat) (l : List Sp) : Prop := w.ownsRow 0 26 2 (.slice (some ⟨g, 0, none⟩) l.length cap) l.length (flatS l)
theorem span_info : (Tryz.prog.info? 26).map (fun i => (i.zero, i.size, i.bytes)) = some (some (.agg #[.int .i64 0, .int .i64 0]), 2, 16) := by kernel_rfl
theorem flatS_last (R : List Sp) (p : Sp) : (flatS (R ++ [p]))[R.length * 2 + 1]? = some (.int .i64 p.b) := by
  rw [flatS_snoc, List.getElem?_append_right (by rw [flatS_len]; omega), flatS_len, show R.length * 2 + 1 - R.length * 2 = 1 by omega]
  rfl
theorem flatS_set (R : List Sp) (p : Sp) (x : Int) : (flatS (R ++ [p])).set (R.length * 2 + 1) (.int .i64 x) = flatS (R ++ [⟨p.a, x⟩]) := by
  rw [flatS_snoc, flatS_snoc, List.set_append_right _ _ (by rw [flatS_len]; omega), flatS_len, show R.length * 2 + 1 - R.length * 2 = 1 by omega]
  rfl
/-- A cell of a row, set. -/
theorem owns_set {w : World} {base size n g cap i : Nat} {e : TypeId} {xs : List Value} (h : w.ownsRow base e size (.slice (some ⟨g, 0, none⟩) n cap) n xs) (hi : i < n * size) (u : Value) :
    (w.setCell ⟨g, i, none⟩ u).ownsRow base e size (.slice (some ⟨g, 0, none⟩) n cap) n (xs.set i u) := by
  refine ⟨by rw [List.length_set]; exact h.1, .inr ?_⟩
  rcases h.2 with ⟨h1, _⟩ | ⟨g2, cap2, cur, h1, h2, h3, h4, h5, h6, h7⟩
  · cases h1
  · cases h1
    refine ⟨g, cap, cur.setIfInBounds i u, rfl, h2, ?_, h4, h5, by simpa using h6, ?_⟩
    · have hlt := (Array.getElem?_eq_some_iff.1 h3).1
      simp only [World.setCell, Array.getElem?_modify, if_pos rfl, h3]
      simp
    · rw [Array.toList_setIfInBounds, ← h7, List.take_set]
theorem owns_fz {w : World} {base size n g cap : Nat} {e : TypeId} {xs : List Value} (h : w.ownsRow base e size (.slice (some ⟨g, 0, none⟩) n cap) n xs) (i : Nat) : w.frozen? ⟨g, i, none⟩ = false := by
  rcases h.2 with ⟨h1, _⟩ | ⟨g2, cap2, cur, h1, h2, h3, _⟩
  · cases h1
  · cases h1
    simp [World.frozen?, h3]
theorem runs_len (l : List Sp) : (runsL l).length ≤ l.length := by
  have key : ∀ (l r : List Sp), (l.foldl runAdd r).length ≤ r.length + l.length := by
    intro l
    induction l with
    | nil => intro r; simp
    | cons s l ih =>
      intro r
      rw [List.foldl_cons]
      have h1 := ih (runAdd r s)
      have h2 : (runAdd r s).length ≤ r.length + 1 := by
        rcases List.eq_nil_or_concat r with rfl | ⟨r0, p, rfl⟩
        · simp [runAdd_nil]
        · by_cases hp : p.b = s.a - 1
          · rw [List.concat_eq_append, runAdd_join _ _ _ hp]; simp
          · rw [List.concat_eq_append, runAdd_new _ _ _ hp]; simp
      simp only [List.length_cons] at h1 ⊢
      omega
  simpa [runsL] using key l []
/-- What is kept in the loop of twin.Runs: the calendar, the weeks, the runs. -/
def RnSt (c : Cal) (L : List Un) (g cap B Bo : Nat) (R : List Sp) (v : Value) (w0 w : World) : Prop := CalAt w B c ∧ B < w.heap.size ∧ UnsAt w g cap L ∧ g < Bo ∧ Bo ≤ w.heap.size ∧ (w.ownsRow Bo 26 2 v R.length (flatS R) ∧ (v = .slice none 0 0 ↔ R = [])) ∧ B < Bo ∧ Below B w0 w
theorem RnSt.call {c : Cal} {L : List Un} {g cap B Bo : Nat} {R : List Sp} {v : Value} {w0 w w' : World} (h : RnSt c L g cap B Bo R v w0 w) (hb : Below w.heap.size w w') : RnSt c L g cap B Bo R v w0 w' := ⟨calAt_below hb h.2.1 h.1, Nat.lt_of_lt_of_le h.2.1 hb.size, h.2.2.1.call hb, h.2.2.2.1, Nat.le_trans h.2.2.2.2.1 hb.size, ⟨owns_call h.2.2.2.2.2.1.1 hb, h.2.2.2.2.2.1.2⟩, h.2.2.2.2.2.2.1, h.2.2.2.2.2.2.2.trans (hb.mono (Nat.le_of_lt h.2.1))⟩
theorem RnSt.alloc {c : Cal} {L : List Un} {g cap B Bo : Nat} {R : List Sp} {v : Value} {w0 w : World} (h : RnSt c L g cap B Bo R v w0 w) (o : Obj) : RnSt c L g cap B Bo R v w0 (w.alloc o) := h.call ((Below.refl _ _).alloc (Nat.le_refl _) _)
theorem uns_base {w w' : World} {Bo g cap : Nat} {L : List Un} (h : UnsAt w g cap L) (hg : g < Bo) (hb : Below Bo w w') : UnsAt w' g cap L := by
  refine ⟨h.1, ?_⟩
  rcases h.2 with h1 | ⟨g', cap', cur, he, h2, hg', h3⟩
  · exact .inl h1
  · cases he
    exact .inr ⟨g, cap, cur, rfl, h2, (hb.block g hg).trans hg', h3⟩
theorem cells_new2 (W : World) (a b : Value) (t : TypeId) : ∀ (j : Nat) (u : Value), [a, b][j]? = some u → (W.alloc (.cells #[a, b] t)).cell? ((⟨W.heap.size, 0, none⟩ : Addr).add j) = some u := by
  intro j u h
  match j, h with
  | 0, h => simpa [World.cell?_alloc_at, Addr.add] using h
  | 1, h => simpa [World.cell?_alloc_at, Addr.add] using h
theorem wrapIn (n : Int) (h0 : -9223372036854775808 ≤ n) (h1 : n < 9223372036854775808) : IntKind.i64.wrap n = n := by
  simp [IntKind.wrap, IntKind.bits, IntKind.signed]; omega
theorem cells_new2' (W : World) (N : Nat) (a b : Value) (t : TypeId) (hN : W.heap.size = N) : ∀ (j : Nat) (u : Value), [a, b][j]? = some u → (W.alloc (.cells #[a, b] t)).cell? ((⟨N, 0, none⟩ : Addr).add j) = some u := by
  subst hN; exact cells_new2 W a b t
theorem owns_succ_sp {w : World} {base n : Nat} {v : Value} {xs : List Value} (h : w.ownsRow base 26 2 v (n + 1) xs) : ∃ g cap, v = .slice (some ⟨g, 0, none⟩) (n + 1) cap := by
  obtain ⟨g, cap, h1, _⟩ := owns_pos h (by omega)
  exact ⟨g, cap, h1⟩

theorem RnSt.set {c : Cal} {L : List Un} {g cap B Bo g2 cap2 : Nat} {R0 : List Sp} {p : Sp} {w0 w : World} (h : RnSt c L g cap B Bo (R0 ++ [p]) (.slice (some ⟨g2, 0, none⟩) (R0.length + 1) cap2) w0 w) (x : Int) :
    RnSt c L g cap B Bo (R0 ++ [⟨p.a, x⟩]) (.slice (some ⟨g2, 0, none⟩) (R0.length + 1) cap2) w0 (w.setCell ⟨g2, R0.length * 2 + 1, none⟩ (.int .i64 x)) := by
  obtain ⟨h1, h2, h3, h4, h5, ⟨h6, h7⟩, h8, h9⟩ := h
  have hl : (R0 ++ [p]).length = R0.length + 1 := by simp
  have hl2 : (R0 ++ [(⟨p.a, x⟩ : Sp)]).length = R0.length + 1 := by simp
  rw [hl] at h6
  have hg2 : Bo ≤ g2 := by
    rcases h6.2 with ⟨e, _⟩ | ⟨g', cap', cur, e, hb, _⟩
    · cases e
    · cases e; exact hb
  have hb : Below Bo w (w.setCell ⟨g2, R0.length * 2 + 1, none⟩ (.int .i64 x)) := (Below.refl _ _).setCell hg2 _
  have ho := owns_set h6 (i := R0.length * 2 + 1) (by omega) (.int .i64 x)
  rw [flatS_set] at ho
  refine ⟨calAt_below hb h8 h1, by simpa using h2, uns_base h3 h4 hb, h4, by simpa using h5, ⟨?_, by simp⟩, h8, h9.trans (hb.mono (by omega))⟩
  rw [hl2]
  exact ho
theorem RnSt.grow {c : Cal} {L : List Un} {g cap B Bo : Nat} {R : List Sp} {S : Sp} {v v' : Value} {w0 W w' : World} (h : RnSt c L g cap B Bo R v w0 W) (o : Obj)
    (ho : w'.ownsRow Bo 26 2 v' (R.length + 1) (flatS R ++ [.int .i64 S.a, .int .i64 S.b])) (hgrow : (W.alloc o).grownBy w' v.ownBlock) :
    RnSt c L g cap B Bo (R ++ [S]) v' w0 w' := by
  obtain ⟨h1, h2, h3, h4, h5, ⟨h6, h7⟩, h8, h9⟩ := h
  have hb : Below Bo W w' := ((Below.refl Bo W).alloc h5 o).grown hgrow (by simp; omega) (fun k hk => by have := (h6.lt k hk).1; omega)
  obtain ⟨g3, cap3, rfl⟩ := owns_succ_sp ho
  have hs : W.heap.size ≤ w'.heap.size := by have := hgrow.size; simp at this; omega
  refine ⟨calAt_below hb h8 h1, by omega, uns_base h3 h4 hb, h4, by omega, ⟨?_, by simp⟩, h8, h9.trans (hb.mono (by omega))⟩
  rw [flatS_snoc]
  simpa using ho

set_option maxRecDepth 100000 in
set_option maxHeartbeats 1600000 in
theorem runs_no (c : Cal) (u : Un) (k : Int) (w : World) (hn : c.name.size ≤ 1000) (hE : ¬ twE c u k = 0) :
    Calls Tryz.prog 30 #[calV c, unitV u, .int .i64 k] w fun e w' => e = .returned (.tuple #[.slice none 0 0, .int .i64 (twE c u k)]) ∧ Below w.heap.size w w' := by
  have hEb : (twE c u k != 0) = true := by simpa using hE
  have HL := hide (tw_no hE)
  clear hE
  simp only [calV, unitV]
  go_enter Tryz.func30, Tryz.ntmps30
  go_wp2_with fail
  refine (tweeks_any c u k _ hn).mono ?_
  rintro e w1 ⟨⟨v, rfl, hv⟩, hb1⟩
  obtain rfl := twV_nil HL.out hv
  clear hv
  have hz1 : w.heap.size + 1 < w1.heap.size := by have := hb1.size; simp at this; omega
  have HB1 : Hid (Below w.heap.size w w1) := ww hb1
  have HQ1 := hide (calAt_below hb1 (by simp; omega) (calAt_alloc (calAt_new w c) (by simp) _))
  have HU1 := hide (unAt_below hb1 (by simp) (unAt_new w c u))
  obtain ⟨q0, q1, q2, q3, q4, q5, q6, q7, q8, q9, q10, q11, q12, q13⟩ := HQ1.out
  obtain ⟨u0, u1, u2⟩ := HU1.out
  have hy1 : w.heap.size < w1.heap.size := by omega
  clear hb1
  have hBel := HB1.out
  go_wp2
  go_ret2
  exact ⟨rfl, by (repeat' exact bel)⟩

set_option maxRecDepth 100000 in
set_option maxHeartbeats 6400000 in
theorem runs_yes (c : Cal) (u : Un) (k : Int) (w : World) (hn : c.name.size ≤ 1000) (hE : twE c u k = 0) :
    Calls Tryz.prog 30 #[calV c, unitV u, .int .i64 k] w fun e w' => (∃ g cap, e = .returned (.tuple #[.slice (some ⟨g, 0, none⟩) (rnL c u k).length cap, .int .i64 0]) ∧ SpsAt w' g cap (rnL c u k)) ∧ Below w.heap.size w w' := by
  obtain ⟨f, g0, m, n, hm, hmn, hlen, hmap, q1x, q2x, q3x, hun⟩ := tw_form hE
  have hr0 : rnL c u k ≠ [] := by
    have : rnL c u k = runsL (adjS f m ++ adjS g0 n) := by rw [rnL, hmap]
    rw [this, rn_form hm (by assumption)]
    split <;> simp
  have HE := hide hE
  have HR := hide (show rnL c u k = runsL ((twL c u k).map (spV c)) from rfl)
  obtain ⟨L, hL⟩ : ∃ L, twL c u k = L := ⟨_, rfl⟩
  obtain ⟨RR, hRR⟩ : ∃ R, rnL c u k = R := ⟨_, rfl⟩
  rw [hL] at hun hlen HR
  rw [hRR] at hr0 HR ⊢
  have HU := hide (show ∀ (j : Nat) (x : Un), L[j]? = some x → unitE c x = 0 ∧ 0 ≤ (spV c x).a ∧ (spV c x).a ≤ (spV c x).b ∧ (spV c x).b ≤ 3068037 from fun j x hx => ⟨(hun x (List.mem_of_getElem? hx)).1, sp_bd2 (hun x (List.mem_of_getElem? hx)).1⟩)
  have HLL := hide hL
  have hL60 : L.length ≤ 60 ∧ 0 < L.length := by omega
  obtain ⟨i0, hi, hi0, hi1, hi2⟩ := info_parts span_info
  clear q1x q2x q3x hun hmap hlen hm hmn hE hL hRR f g0 m n
  simp only [calV, unitV]
  go_enter Tryz.func30, Tryz.ntmps30
  go_wp2_with fail
  refine (tweeks_any c u k _ hn).mono ?_
  rintro e w1 ⟨⟨v, rfl, hv⟩, hb1⟩
  rw [HE.out]
  rw [HLL.out] at hv
  obtain ⟨g, cap, rfl, _, hun⟩ := twV_some hL60.2 hv
  have hgl := hun.lt hL60.2
  have HN1 := hide hun
  clear hv hun
  have hz1 : w.heap.size + 1 < w1.heap.size := by have := hb1.size; simp at this; omega
  have HB1 : Hid (Below w.heap.size w w1) := ww hb1
  have HQ1 := hide (calAt_below hb1 (by simp; omega) (calAt_alloc (calAt_new w c) (by simp) _))
  have HU1 := hide (unAt_below hb1 (by simp) (unAt_new w c u))
  obtain ⟨q0, q1, q2, q3, q4, q5, q6, q7, q8, q9, q10, q11, q12, q13⟩ := HQ1.out
  obtain ⟨u0, u1, u2⟩ := HU1.out
  have hy1 : w.heap.size < w1.heap.size := by omega
  clear hb1
  have HS1 := hide (show RnSt c L g cap w.heap.size w1.heap.size [] (.slice none 0 0) w w1 from ⟨HQ1.out, by omega, HN1.out, hgl.1, Nat.le_refl _, ⟨World.ownsRow_nil _ _ _ _, by simp⟩, by omega, HB1.out⟩)
  clear u0 u1 u2
  go_wp2_with fail
  go_loopw [10, 28] (fun s10 s28 wr => ∃ j : Nat, s28 = .int .i64 j ∧ j ≤ L.length ∧ RnSt c L g cap w.heap.size w1.heap.size (runsL ((L.take j).map (spV c))) s10 w wr) (fun _ s28 _ => (500 - intOf s28).toNat)
  case atStart => exact ⟨0, rfl, Nat.zero_le _, by simpa [runsL] using HS1.out⟩
  case round =>
    obtain ⟨j, rfl, hj, hS⟩ := hrel
    have HS := hide hS
    clear hS
    clear q0 q1 q2 q3 q4 q5 q6 q7 q8 q9 q10 q11 q12 q13
    obtain ⟨q0, q1, q2, q3, q4, q5, q6, q7, q8, q9, q10, q11, q12, q13⟩ := HS.out.1
    have hB2 := HS.out.2.1
    have hG2 : g < wr.heap.size := by have h1 := HS.out.2.2.2.1; have h2 := HS.out.2.2.2.2.1; omega
    by_cases hlt : j < L.length
    · obtain ⟨x, hx⟩ : ∃ x, L[j]? = some x := ⟨_, List.getElem?_eq_getElem hlt⟩
      have hxs := HU.out j x hx
      obtain ⟨a0, a1, a2⟩ := UnsAt.cell HS.out.2.2.1 hx
      have HTK := hide (show (L.take (j + 1)).map (spV c) = (L.take j).map (spV c) ++ [spV c x] by rw [List.take_add_one, hx]; simp)
      clear hx
      have hi3 : (0 : Int) ≤ (j : Int) := by omega
      have hi4 : (j : Int) < (L.length : Int) := by omega
      obtain ⟨S, hSS⟩ : ∃ S, spV c x = S := ⟨_, rfl⟩
      rw [hSS] at hxs HTK
      have HSS := hide hSS
      have HXE := hide hxs.1
      clear hSS
      go_wp2_with fail
      refine (uspan_any c x _ hn).mono ?_
      rintro e w3 ⟨rfl, hb3⟩
      rw [HSS.out, HXE.out]
      simp only [spanV]
      have HS3 := hide ((HS.out.alloc _).call hb3)
      have hs3 := hb3.size
      clear hb3
      clear q0 q1 q2 q3 q4 q5 q6 q7 q8 q9 q10 q11 q12 q13
      obtain ⟨R, hR⟩ : ∃ R, runsL ((L.take j).map (spV c)) = R := ⟨_, rfl⟩
      have HRR := hide hR
      rw [hR] at HS3
      have hRl : R.length ≤ 60 := by
        have h1 := runs_len ((L.take j).map (spV c))
        rw [hR, List.length_map, List.length_take] at h1
        omega
      clear hR
      have hBo : w1.heap.size ≤ w3.heap.size := HS3.out.2.2.2.2.1
      have hsA : 0 ≤ S.a ∧ S.a ≤ 3068037 := by omega
      have HRN := hide (show runsL ((L.take (j + 1)).map (spV c)) = runAdd R S by rw [HTK.out, runs_snoc, HRR.out])
      rcases List.eq_nil_or_concat R with hRn | ⟨R0, p, hRp⟩
      · subst hRn
        obtain rfl := HS3.out.2.2.2.2.2.1.2.2 rfl
        go_wp2_with fail
        go_quiet (fail)
        have HS4 := hide (HS3.out.call (show Below w3.heap.size w3 ((w3.alloc (.cells #[.int .i64 S.a, .int .i64 S.b] 26)).drewN nq) by (repeat' exact bel)))
        go_wp2_with ((at_builtin; refine wpList_append_own _ rfl _ _ 48 rfl w1.heap.size 26 i0 (.agg #[.int .i64 0, .int .i64 0]) 2 16 Tryz.underlying48 hi hi0 hi1 hi2 rfl (by decide) _ _ _ rfl (HS4.out.2.2.2.2.2.1.1.alloc _) ⟨w3.heap.size + 1, 0, none⟩ 1 1 [.int .i64 S.a, .int .i64 S.b] rfl rfl ?c1a ?c2a ?c3a ?c4a ?c5a ?_))
        case c1a => exact cells_new2' _ _ _ _ _ (by simp)
        case c2a => intro u hu; simp at hu; rcases hu with rfl | rfl <;> rfl
        case c3a => unfold maxLen; (try simp only [List.length_nil, List.length_append, List.length_cons]); omega
        case c4a => (try simp only [List.length_nil, List.length_append, List.length_cons]); omega
        case c5a => simp; omega
        · intro v' w' hown' hgrow _
          have HG := hide (HS4.out.grow (S := S) _ (by simpa using hown') hgrow)
          clear hown' hgrow
          go_wp2
          go_roundw
          case rel => exact ⟨j + 1, by go_num, by omega, by rw [HRN.out, runAdd_nil]; exact HG.out⟩
          case measure => simp [intOf]; omega
      · rw [List.concat_eq_append] at hRp
        subst hRp
        have hRl0 : R0.length ≤ 59 := by simp at hRl; omega
        have hown3 := HS3.out.2.2.2.2.2.1.1
        rw [show (R0 ++ [p]).length = R0.length + 1 by simp] at hown3
        obtain ⟨g2, cap2, rfl⟩ := owns_succ_sp hown3
        have hc3 : w3.cell? ⟨g2, R0.length * 2 + 1, none⟩ = some (.int .i64 p.b) := by have h := hown3.cells (g := g2) rfl _ _ (flatS_last R0 p); simp only [Addr.add] at h; simpa using h
        have hf3 := owns_fz hown3 (R0.length * 2 + 1)
        have hg2 : g2 < w3.heap.size := by
          rcases hown3.2 with ⟨e, _⟩ | ⟨g', cap', cur, e, _, h3, _⟩
          · cases e
          · cases e; exact (Array.getElem?_eq_some_iff.1 h3).1
        have HO3 := hide hown3
        clear hown3
        have hi5 : (0 : Int) ≤ (R0.length : Int) := by omega
        have hi6 : (R0.length : Int) < (R0.length : Int) + 1 := by omega
        have hi7 : (0 : Int) < (R0.length : Int) + 1 := by omega
        have hwr : IntKind.i64.wrap (R0.length : Int) = (R0.length : Int) := wrapIn _ (by omega) (by omega)
        by_cases hpe : p.b = S.a - 1
        · have HPE := hide hpe
          have hpb : (p.b == S.a - 1) = true := by simpa using hpe
          clear hpe
          go_wp2_with fail
          go_quiet (fail)
          have HS4 := hide (HS3.out.call (show Below w3.heap.size w3 ((w3.alloc (.cells #[.int .i64 S.a, .int .i64 S.b] 26)).drewN nq) by (repeat' exact bel)))
          go_wp2
          go_roundw
          case rel => exact ⟨j + 1, by go_num, by omega, by rw [HRN.out, runAdd_join _ _ _ HPE.out]; first | exact HS4.out.set S.b | exact (HS3.out.set S.b).alloc _⟩
          case measure => simp [intOf]; omega
        · have HPE := hide hpe
          have hpb : (p.b == S.a - 1) = false := by simpa using hpe
          clear hpe
          go_wp2_with fail
          go_quiet (fail)
          have HS4 := hide (HS3.out.call (show Below w3.heap.size w3 ((w3.alloc (.cells #[.int .i64 S.a, .int .i64 S.b] 26)).drewN nq) by (repeat' exact bel)))
          go_wp2_with ((at_builtin; refine wpList_append_own _ rfl _ _ 48 rfl w1.heap.size 26 i0 (.agg #[.int .i64 0, .int .i64 0]) 2 16 Tryz.underlying48 hi hi0 hi1 hi2 rfl (by decide) _ _ _ rfl ((show ((w3.alloc (.cells #[.int .i64 S.a, .int .i64 S.b] 26)).drewN nq).ownsRow w1.heap.size 26 2 (.slice (some ⟨g2, 0, none⟩) (R0.length + 1) cap2) (R0.length + 1) (flatS (R0 ++ [p])) from owns_call HO3.out (by (repeat' exact bel))).alloc _) ⟨w3.heap.size + 1, 0, none⟩ 1 1 [.int .i64 S.a, .int .i64 S.b] rfl rfl ?c1b ?c2b ?c3b ?c4b ?c5b ?_))
          case c1b => exact cells_new2' _ _ _ _ _ (by simp)
          case c2b => intro u hu; simp at hu; rcases hu with rfl | rfl <;> rfl
          case c3b => unfold maxLen; (try simp only [List.length_nil, List.length_append, List.length_cons]); omega
          case c4b => (try simp only [List.length_nil, List.length_append, List.length_cons]); omega
          case c5b => simp; omega
          · intro v' w' hown' hgrow _
            have HG := hide (HS4.out.grow (S := S) _ (by simpa using hown') hgrow)
            clear hown' hgrow
            go_wp2
            go_roundw
            case rel => exact ⟨j + 1, by go_num, by omega, by rw [HRN.out, runAdd_new _ _ _ HPE.out]; exact HG.out⟩
            case measure => simp [intOf]; omega
    · have hjl : j = L.length := by omega
      subst hjl
      have hown := HS.out.2.2.2.2.2.1
      rw [List.take_length, ← HR.out] at hown
      obtain ⟨g2, cap2, rfl, hg2⟩ := owns_pos hown.1 (List.length_pos_iff.2 hr0)
      have hBel := HS.out.2.2.2.2.2.2.2
      go_wp2
      go_ret2
      exact ⟨⟨g2, cap2, rfl, hown.1.base (Nat.zero_le _)⟩, hBel⟩
end Go.Proofs.YtojdngkleiokgaaGreat

namespace Go.Proofs.YtojdngkleiokgaaGreat
open Go.RowKit Qd
set_option linter.unusedSimpArgs false
set_option linter.unusedVariables false

theorem SpsAt.cell {w : World} {g cap : Nat} {l : List Sp} (h : SpsAt w g cap l) {i : Nat} {s : Sp} (hi : l[i]? = some s) : w.cell? ⟨g, i * 2, none⟩ = some (.int .i64 s.a) ∧ w.cell? ⟨g, i * 2 + 1, none⟩ = some (.int .i64 s.b) := by
  have hc := h.cells (g := g) rfl
  have key : (flatS l)[i * 2]? = some (.int .i64 s.a) ∧ (flatS l)[i * 2 + 1]? = some (.int .i64 s.b) := by
    clear hc h
    induction l generalizing i with
    | nil => simp at hi
    | cons a l ih =>
      cases i with
      | zero =>
        obtain rfl : a = s := by simpa using hi
        exact ⟨rfl, rfl⟩
      | succ i =>
        have h := ih (i := i) (by simpa using hi)
        have e : flatS (a :: l) = .int .i64 a.a :: .int .i64 a.b :: flatS l := rfl
        rw [e, show (i + 1) * 2 = i * 2 + 1 + 1 by omega, show i * 2 + 1 + 1 + 1 = i * 2 + 1 + 1 + 1 from rfl]
        simpa using h
  have h0 := hc _ _ key.1
  have h1 := hc _ _ key.2
  have e : ∀ k : Nat, (⟨g, 0, none⟩ : Addr).add k = ⟨g, k, none⟩ := by intro k; cases k <;> simp [Addr.add]
  rw [e] at h0 h1
  exact ⟨h0, h1⟩
theorem spsLt {w : World} {g cap : Nat} {l : List Sp} (h : SpsAt w g cap l) (h0 : 0 < l.length) : g < w.heap.size ∧ l.length ≤ cap := by
  rcases h.2 with ⟨h1, _⟩ | ⟨g', cap', cur, he, h2, hg, h3, _⟩
  · cases h1
  · cases he
    exact ⟨(Array.getElem?_eq_some_iff.1 hg).1, h3⟩
theorem SpsAt.call {w w' : World} {g cap : Nat} {l : List Sp} (h : SpsAt w g cap l) (hb : Below w.heap.size w w') : SpsAt w' g cap l := owns_call h hb

def nrf20 : Cal := ⟨⟨#[120]⟩, 3, 6, 1, 1, 1, 4, 5, 4, 0, 12, 2000, 2030, 3⟩
theorem n20_e : twE nrf20 ⟨4, 2023, 12⟩ (-1) = 0 := by decide +kernel
theorem n20_w : (twL nrf20 ⟨4, 2023, 12⟩ (-1)).map (fun u => (u.lv, u.yr, u.ix)) = [(5, 2022, 49), (5, 2022, 50), (5, 2022, 51), (5, 2022, 52)] := by decide +kernel
theorem n20_l : (twL nrf20 ⟨4, 2023, 12⟩ (-1)).length = 4 := by have := congrArg List.length n20_w; simpa using this
theorem n20_0 : (twL nrf20 ⟨4, 2023, 12⟩ (-1))[0]? = some ⟨5, 2022, 49⟩ := by
  have h := n20_w
  generalize twL nrf20 ⟨4, 2023, 12⟩ (-1) = L at h
  match L, h with
  | x :: _, h =>
    simp only [List.map_cons, List.cons.injEq, Prod.mk.injEq] at h
    obtain ⟨⟨h1, h2, h3⟩, _⟩ := h
    obtain ⟨a, b, d⟩ := x
    simp only at h1 h2 h3
    subst h1 h2 h3
    rfl
theorem n20_r : ∃ s : Sp, rnL nrf20 ⟨4, 2023, 12⟩ (-1) = [s] ∧ s.b = s.a + 27 ∧ 0 ≤ s.a ∧ s.a ≤ 3068037 := by
  have h : (rnL nrf20 ⟨4, 2023, 12⟩ (-1)).map (fun s => decide (s.b = s.a + 27 ∧ 0 ≤ s.a ∧ s.a ≤ 3068037)) = [true] := by decide +kernel
  generalize rnL nrf20 ⟨4, 2023, 12⟩ (-1) = R at h
  cases R with
  | nil => simp at h
  | cons s R =>
    cases R with
    | nil => exact ⟨s, rfl, by simpa using h⟩
    | cons a b => simp at h

set_option maxRecDepth 100000 in
set_option maxHeartbeats 1600000 in
theorem live20_any (w : World) :
    Calls Tryz.prog 27 #[] w fun e w' => e = .returned (.bool true) ∧ Below w.heap.size w w' := by
  obtain ⟨s, hr, hs, hs1, hs2⟩ := n20_r
  have HR := hide hr
  clear hr
  go_enter Tryz.func27, Tryz.ntmps27
  go_wp2_with fail
  refine (tweeks_any nrf20 ⟨4, 2023, 12⟩ (-1) _ (by decide)).mono ?_
  rintro e w1 ⟨⟨v, rfl, hv⟩, hb1⟩
  rw [n20_e]
  obtain ⟨g, cap, rfl, _, hun⟩ := twV_some (by rw [n20_l]; decide) hv
  rw [n20_l]
  have HUN := hide hun
  clear hv
  have hz1 : w.heap.size < w1.heap.size := by have := hb1.size; simp at this; omega
  have HB1 := hide (show Below w.heap.size w w1 by refine Below.trans ?_ (hb1.mono (by simp)); (repeat' exact bel))
  have HQ1 := hide (calAt_below hb1 (by simp) (calAt_new w nrf20))
  clear hb1 hun
  obtain ⟨q0, q1, q2, q3, q4, q5, q6, q7, q8, q9, q10, q11, q12, q13⟩ := HQ1.out
  simp only [nrf20] at q0 q1 q2 q3 q4 q5 q6 q7 q8 q9 q10 q11 q12 q13
  go_wp2_with fail
  refine (runs_yes nrf20 ⟨4, 2023, 12⟩ (-1) _ (by decide) n20_e).mono ?_
  rintro e w2 ⟨⟨g2, cap2, rfl, hsp⟩, hb2⟩
  rw [HR.out] at hsp ⊢
  have hu2 := HUN.out.call hb2
  have HB2 := hide (HB1.out.trans (hb2.mono (by omega)))
  clear hb2
  obtain ⟨a0, a1, a2⟩ := UnsAt.cell hu2 n20_0
  obtain ⟨b0, b1⟩ := SpsAt.cell hsp (i := 0) (s := s) rfl
  simp only [Nat.zero_mul, Nat.zero_add] at a0 a1 a2 b0 b1
  have hub := unB_same 5 2022 49
  have hw : IntKind.i64.wrap (s.b - s.a) = 27 := by rw [hs, show s.a + 27 - s.a = 27 by omega]; decide
  have hBel := HB2.out
  simp only [List.length_cons, List.length_nil, Nat.zero_add]
  go_wp2_with fail
  go_quiet (fail)
  go_wp2
  go_ret
  exact ⟨ret_bool (by simp; omega), by (repeat' exact bel)⟩
end Go.Proofs.YtojdngkleiokgaaGreat
