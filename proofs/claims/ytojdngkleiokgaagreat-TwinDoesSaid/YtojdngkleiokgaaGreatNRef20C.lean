/- Contracts of the references: on which days the weeks lie with which a unit is compared, and when lists are the same (layer 20). -/
import Derived.Test.YtojdngkleiokgaaGreatNRef20B
import Derived.Test.YtojdngkleiokgaaGreatMTl
import Derived.Test.YtojdngkleiokgaaGreatMRq
namespace Go.Proofs.YtojdngkleiokgaaGreat
open Go.RowKit Go.Shelf Qd
set_option linter.unusedSimpArgs false
set_option linter.unusedVariables false

theorem runs_mem (P : Int → Prop) (l : List Sp) (h : ∀ s ∈ l, P s.b) : ∀ p ∈ runsL l, P p.b := by
  have step : ∀ (r : List Sp) (s : Sp), (∀ p ∈ r, P p.b) → P s.b → ∀ p ∈ runAdd r s, P p.b := by
    intro r s hr hs p hp
    rcases List.eq_nil_or_concat r with rfl | ⟨r0, q, rfl⟩
    · rw [runAdd_nil] at hp; simp at hp; rw [hp]; exact hs
    · rw [List.concat_eq_append] at hr hp
      by_cases hq : q.b = s.a - 1
      · rw [runAdd_join _ _ _ hq] at hp
        rcases List.mem_append.1 hp with h1 | h1
        · exact hr p (List.mem_append_left _ h1)
        · simp at h1; rw [h1]; exact hs
      · rw [runAdd_new _ _ _ hq] at hp
        rcases List.mem_append.1 hp with h1 | h1
        · exact hr p h1
        · simp at h1; rw [h1]; exact hs
  have key : ∀ (l r : List Sp), (∀ p ∈ r, P p.b) → (∀ s ∈ l, P s.b) → ∀ p ∈ l.foldl runAdd r, P p.b := by
    intro l
    induction l with
    | nil => intro r hr _; exact hr
    | cons s l ih => intro r hr hl; rw [List.foldl_cons]; exact ih _ (step r s hr (hl s (by simp))) (fun x hx => hl x (by simp [hx]))
  exact key l [] (by simp) h
def RrSt (c : Cal) (L : List Un) (g o B Bo : Nat) (R : List Sp) (v : Value) (w0 w : World) : Prop := CalAt w B c ∧ B < w.heap.size ∧ RdU w g o L ∧ g < Bo ∧ Bo ≤ w.heap.size ∧ (w.ownsRow Bo 26 2 v R.length (flatS R) ∧ (v = .slice none 0 0 ↔ R = [])) ∧ B < Bo ∧ Below B w0 w
theorem RrSt.call {c : Cal} {L : List Un} {g o B Bo : Nat} {R : List Sp} {v : Value} {w0 w w' : World} (h : RrSt c L g o B Bo R v w0 w) (hb : Below w.heap.size w w') : RrSt c L g o B Bo R v w0 w' := ⟨calAt_below hb h.2.1 h.1, Nat.lt_of_lt_of_le h.2.1 hb.size, h.2.2.1.call hb, h.2.2.2.1, Nat.le_trans h.2.2.2.2.1 hb.size, ⟨owns_call h.2.2.2.2.2.1.1 hb, h.2.2.2.2.2.1.2⟩, h.2.2.2.2.2.2.1, h.2.2.2.2.2.2.2.trans (hb.mono (Nat.le_of_lt h.2.1))⟩
theorem RrSt.alloc {c : Cal} {L : List Un} {g o B Bo : Nat} {R : List Sp} {v : Value} {w0 w : World} (h : RrSt c L g o B Bo R v w0 w) (ob : Obj) : RrSt c L g o B Bo R v w0 (w.alloc ob) := h.call ((Below.refl _ _).alloc (Nat.le_refl _) _)
theorem RrSt.set {c : Cal} {L : List Un} {g o B Bo g2 cap2 : Nat} {R0 : List Sp} {p : Sp} {w0 w : World} (h : RrSt c L g o B Bo (R0 ++ [p]) (.slice (some ⟨g2, 0, none⟩) (R0.length + 1) cap2) w0 w) (x : Int) :
    RrSt c L g o B Bo (R0 ++ [⟨p.a, x⟩]) (.slice (some ⟨g2, 0, none⟩) (R0.length + 1) cap2) w0 (w.setCell ⟨g2, R0.length * 2 + 1, none⟩ (.int .i64 x)) := by
  obtain ⟨h1, h2, h3, h4, h5, ⟨h6, h7⟩, h8, h9⟩ := h
  have hl : (R0 ++ [p]).length = R0.length + 1 := by simp
  have hl2 : (R0 ++ [(⟨p.a, x⟩ : Sp)]).length = R0.length + 1 := by simp
  rw [hl] at h6
  have hg2 : Bo ≤ g2 := by
    rcases h6.2 with ⟨e, _⟩ | ⟨g', cap', cur, e, hb, _⟩
    · cases e
    · cases e; exact hb
  have hb : Below Bo w (w.setCell ⟨g2, R0.length * 2 + 1, none⟩ (.int .i64 x)) := (Below.refl _ _).setCell hg2 _
  have ho := owns_set h6 (i := R0.length * 2 + 1) (by omega) (.int .i64 x)
  rw [flatS_set] at ho
  refine ⟨calAt_below hb h8 h1, by simpa using h2, h3.below hb h4, h4, by simpa using h5, ⟨?_, by simp⟩, h8, h9.trans (hb.mono (by omega))⟩
  rw [hl2]
  exact ho
theorem RrSt.grow {c : Cal} {L : List Un} {g o B Bo : Nat} {R : List Sp} {S : Sp} {v v' : Value} {w0 W w' : World} (h : RrSt c L g o B Bo R v w0 W) (ob : Obj)
    (ho : w'.ownsRow Bo 26 2 v' (R.length + 1) (flatS R ++ [.int .i64 S.a, .int .i64 S.b])) (hgrow : (W.alloc ob).grownBy w' v.ownBlock) :
    RrSt c L g o B Bo (R ++ [S]) v' w0 w' := by
  obtain ⟨h1, h2, h3, h4, h5, ⟨h6, h7⟩, h8, h9⟩ := h
  have hb : Below Bo W w' := ((Below.refl Bo W).alloc h5 ob).grown hgrow (by simp; omega) (fun k hk => by have := (h6.lt k hk).1; omega)
  obtain ⟨g3, cap3, rfl⟩ := owns_succ_sp ho
  have hs : W.heap.size ≤ w'.heap.size := by have := hgrow.size; simp at this; omega
  refine ⟨calAt_below hb h8 h1, by omega, h3.below hb h4, h4, by omega, ⟨?_, by simp⟩, h8, h9.trans (hb.mono (by omega))⟩
  rw [flatS_snoc]
  simpa using ho

set_option maxRecDepth 100000 in
set_option maxHeartbeats 1600000 in
theorem r20runs_no (c : Cal) (u : Un) (k : Int) (w : World) (hn : c.name.size ≤ 1000) (hE : ¬ twE c u k = 0) :
    Calls Tryz.prog 31 #[calV c, unitV u, .int .i64 k] w fun e w' => e = .returned (.tuple #[.slice none 0 0, .int .i64 (twE c u k)]) ∧ Below w.heap.size w w' := by
  have hEb : (twE c u k != 0) = true := by simpa using hE
  have HL := hide (tw_no hE)
  clear hE
  simp only [calV, unitV]
  go_enter Tryz.func31, Tryz.ntmps31
  go_wp2_with fail
  refine (r20weeks_any c u k _ hn).mono ?_
  rintro e w1 ⟨a, n, cap, rfl, hv, hb1⟩
  clear hv
  have hz1 : w.heap.size + 1 < w1.heap.size := by have := hb1.size; simp at this; omega
  have HB1 : Hid (Below w.heap.size w w1) := ww hb1
  have HQ1 := hide (calAt_below hb1 (by simp; omega) (calAt_alloc (calAt_new w c) (by simp) _))
  have HU1 := hide (unAt_below hb1 (by simp) (unAt_new w c u))
  obtain ⟨q0, q1, q2, q3, q4, q5, q6, q7, q8, q9, q10, q11, q12, q13⟩ := HQ1.out
  obtain ⟨u0, u1, u2⟩ := HU1.out
  have hy1 : w.heap.size < w1.heap.size := by omega
  clear hb1
  have hBel := HB1.out
  go_wp2
  go_ret2
  exact ⟨rfl, by (repeat' exact bel)⟩

set_option maxRecDepth 100000 in
set_option maxHeartbeats 6400000 in
theorem r20runs_yes (c : Cal) (u : Un) (k : Int) (w : World) (hn : c.name.size ≤ 1000) (hE : twE c u k = 0) :
    Calls Tryz.prog 31 #[calV c, unitV u, .int .i64 k] w fun e w' => (∃ g cap, e = .returned (.tuple #[.slice (some ⟨g, 0, none⟩) (rnL c u k).length cap, .int .i64 0]) ∧ SpsAt w' g cap (rnL c u k)) ∧ Below w.heap.size w w' := by
  obtain ⟨f, g0, m, n, hm, hmn, hlen, hmap, q1x, q2x, q3x, hun⟩ := tw_form hE
  have hr0 : rnL c u k ≠ [] := by
    have : rnL c u k = runsL (adjS f m ++ adjS g0 n) := by rw [rnL, hmap]
    rw [this, rn_form hm (by assumption)]
    split <;> simp
  have HE := hide hE
  have HR := hide (show rnL c u k = runsL ((twL c u k).map (spV c)) from rfl)
  obtain ⟨L, hL⟩ : ∃ L, twL c u k = L := ⟨_, rfl⟩
  obtain ⟨RR, hRR⟩ : ∃ R, rnL c u k = R := ⟨_, rfl⟩
  rw [hL] at hun hlen HR
  rw [hRR] at hr0 HR ⊢
  have HU := hide (show ∀ (j : Nat) (x : Un), L[j]? = some x → unitE c x = 0 ∧ 0 ≤ (spV c x).a ∧ (spV c x).a ≤ (spV c x).b ∧ (spV c x).b ≤ 3068037 from fun j x hx => ⟨(hun x (List.mem_of_getElem? hx)).1, sp_bd2 (hun x (List.mem_of_getElem? hx)).1⟩)
  have HLL := hide hL
  have HPB := hide (show ∀ (j : Nat) (p : Sp), p ∈ runsL ((L.take j).map (spV c)) → 0 ≤ p.b ∧ p.b ≤ 3068037 from fun j p hp => runs_mem (fun z => 0 ≤ z ∧ z ≤ 3068037) _ (fun s hs => by
    obtain ⟨x, hx, rfl⟩ := List.mem_map.1 hs
    obtain ⟨n, hn⟩ := List.getElem?_of_mem (List.mem_of_mem_take hx)
    have := HU.out n x hn
    omega) p hp)
  have hL60 : L.length ≤ 60 ∧ 0 < L.length := by omega
  obtain ⟨i0, hi, hi0, hi1, hi2⟩ := info_parts span_info
  clear q1x q2x q3x hun hmap hlen hm hmn hE hL hRR f g0 m n
  simp only [calV, unitV]
  go_enter Tryz.func31, Tryz.ntmps31
  go_wp2_with fail
  refine (r20weeks_any c u k _ hn).mono ?_
  rintro e w1 ⟨a, n, cap, rfl, hv, hb1⟩
  rw [HE.out]
  rw [HLL.out] at hv
  obtain ⟨g, o, rfl, rfl, hun⟩ : ∃ g o, a = some ⟨g, o, none⟩ ∧ n = L.length ∧ RdU w1 g o L := by
    rcases hv with ⟨h, _⟩ | ⟨_, h1, g, o, h2, h3⟩
    · have := hL60.2; rw [h] at this; simp at this
    · exact ⟨g, o, h2, h1, h3⟩
  have hgl := hun.1
  have HN1 := hide hun
  clear hv hun
  have hz1 : w.heap.size + 1 < w1.heap.size := by have := hb1.size; simp at this; omega
  have HB1 : Hid (Below w.heap.size w w1) := ww hb1
  have HQ1 := hide (calAt_below hb1 (by simp; omega) (calAt_alloc (calAt_new w c) (by simp) _))
  have HU1 := hide (unAt_below hb1 (by simp) (unAt_new w c u))
  obtain ⟨q0, q1, q2, q3, q4, q5, q6, q7, q8, q9, q10, q11, q12, q13⟩ := HQ1.out
  obtain ⟨u0, u1, u2⟩ := HU1.out
  have hy1 : w.heap.size < w1.heap.size := by omega
  clear hb1
  have HS1 := hide (show RrSt c L g o w.heap.size w1.heap.size [] (.slice none 0 0) w w1 from ⟨HQ1.out, by omega, HN1.out, hgl, Nat.le_refl _, ⟨World.ownsRow_nil _ _ _ _, by simp⟩, by omega, HB1.out⟩)
  clear u0 u1 u2
  go_wp2_with fail
  go_loopw [10, 27] (fun s10 s27 wr => ∃ j : Nat, s27 = .int .i64 j ∧ j ≤ L.length ∧ RrSt c L g o w.heap.size w1.heap.size (runsL ((L.take j).map (spV c))) s10 w wr) (fun _ s27 _ => (500 - intOf s27).toNat)
  case atStart => exact ⟨0, rfl, Nat.zero_le _, by simpa [runsL] using HS1.out⟩
  case round =>
    obtain ⟨j, rfl, hj, hS⟩ := hrel
    have HS := hide hS
    clear hS
    clear q0 q1 q2 q3 q4 q5 q6 q7 q8 q9 q10 q11 q12 q13
    obtain ⟨q0, q1, q2, q3, q4, q5, q6, q7, q8, q9, q10, q11, q12, q13⟩ := HS.out.1
    have hB2 := HS.out.2.1
    have hG2 : g < wr.heap.size := by have h1 := HS.out.2.2.2.1; have h2 := HS.out.2.2.2.2.1; omega
    by_cases hlt : j < L.length
    · obtain ⟨x, hx⟩ : ∃ x, L[j]? = some x := ⟨_, List.getElem?_eq_getElem hlt⟩
      have hxs := HU.out j x hx
      obtain ⟨a0, a1, a2⟩ := HS.out.2.2.1.2 j x hx
      have HTK := hide (show (L.take (j + 1)).map (spV c) = (L.take j).map (spV c) ++ [spV c x] by rw [List.take_add_one, hx]; simp)
      clear hx
      have hi3 : (0 : Int) ≤ (j : Int) := by omega
      have hi4 : (j : Int) < (L.length : Int) := by omega
      obtain ⟨S, hSS⟩ : ∃ S, spV c x = S := ⟨_, rfl⟩
      rw [hSS] at hxs HTK
      have HSS := hide hSS
      have HXE := hide hxs.1
      clear hSS
      go_wp2_with fail
      refine (r16span_any c x _ hn).mono ?_
      rintro e w3 ⟨rfl, hb3⟩
      rw [HSS.out, HXE.out]
      simp only [spanV]
      have HS3 := hide ((HS.out.alloc _).call hb3)
      have hs3 := hb3.size
      clear hb3
      clear q0 q1 q2 q3 q4 q5 q6 q7 q8 q9 q10 q11 q12 q13
      obtain ⟨R, hR⟩ : ∃ R, runsL ((L.take j).map (spV c)) = R := ⟨_, rfl⟩
      have HRR := hide hR
      rw [hR] at HS3
      have hRl : R.length ≤ 60 := by
        have h1 := runs_len ((L.take j).map (spV c))
        rw [hR, List.length_map, List.length_take] at h1
        omega
      clear hR
      have hBo : w1.heap.size ≤ w3.heap.size := HS3.out.2.2.2.2.1
      have hsA : 0 ≤ S.a ∧ S.a ≤ 3068037 := by omega
      have HRN := hide (show runsL ((L.take (j + 1)).map (spV c)) = runAdd R S by rw [HTK.out, runs_snoc, HRR.out])
      rcases List.eq_nil_or_concat R with hRn | ⟨R0, p, hRp⟩
      · subst hRn
        obtain rfl := HS3.out.2.2.2.2.2.1.2.2 rfl
        go_wp2_with fail
        go_quiet (fail)
        have HS4 := hide (HS3.out.call (show Below w3.heap.size w3 ((w3.alloc (.cells #[.int .i64 S.a, .int .i64 S.b] 26)).drewN nq) by (repeat' exact bel)))
        go_wp2_with ((at_builtin; refine wpList_append_own _ rfl _ _ 48 rfl w1.heap.size 26 i0 (.agg #[.int .i64 0, .int .i64 0]) 2 16 Tryz.underlying48 hi hi0 hi1 hi2 rfl (by decide) _ _ _ rfl (HS4.out.2.2.2.2.2.1.1.alloc _) ⟨w3.heap.size + 1, 0, none⟩ 1 1 [.int .i64 S.a, .int .i64 S.b] rfl rfl ?c1a ?c2a ?c3a ?c4a ?c5a ?_))
        case c1a => exact cells_new2' _ _ _ _ _ (by simp)
        case c2a => intro u hu; simp at hu; rcases hu with rfl | rfl <;> rfl
        case c3a => unfold maxLen; (try simp only [List.length_nil, List.length_append, List.length_cons]); omega
        case c4a => (try simp only [List.length_nil, List.length_append, List.length_cons]); omega
        case c5a => simp; omega
        · intro v' w' hown' hgrow _
          have HG := hide (HS4.out.grow (S := S) _ (by simpa using hown') hgrow)
          clear hown' hgrow
          go_wp2
          go_roundw
          case rel => exact ⟨j + 1, by go_num, by omega, by rw [HRN.out, runAdd_nil]; exact HG.out⟩
          case measure => simp [intOf]; omega
      · rw [List.concat_eq_append] at hRp
        subst hRp
        have hRl0 : R0.length ≤ 59 := by simp at hRl; omega
        have hpbd := HPB.out j p (by rw [HRR.out]; simp)
        obtain ⟨hpb1, hpb2⟩ := hpbd
        have hown3 := HS3.out.2.2.2.2.2.1.1
        rw [show (R0 ++ [p]).length = R0.length + 1 by simp] at hown3
        obtain ⟨g2, cap2, rfl⟩ := owns_succ_sp hown3
        have hc3 : w3.cell? ⟨g2, R0.length * 2 + 1, none⟩ = some (.int .i64 p.b) := by have h := hown3.cells (g := g2) rfl _ _ (flatS_last R0 p); simp only [Addr.add] at h; simpa using h
        have hf3 := owns_fz hown3 (R0.length * 2 + 1)
        have hg2 : g2 < w3.heap.size := by
          rcases hown3.2 with ⟨e, _⟩ | ⟨g', cap', cur, e, _, h3, _⟩
          · cases e
          · cases e; exact (Array.getElem?_eq_some_iff.1 h3).1
        have HO3 := hide hown3
        clear hown3
        have hi5 : (0 : Int) ≤ (R0.length : Int) := by omega
        have hi6 : (R0.length : Int) < (R0.length : Int) + 1 := by omega
        have hi7 : (0 : Int) < (R0.length : Int) + 1 := by omega
        have hwr : IntKind.i64.wrap (R0.length : Int) = (R0.length : Int) := wrapIn _ (by omega) (by omega)
        by_cases hpe : p.b = S.a - 1
        · have HPE := hide hpe
          have hpb : (p.b + 1 == S.a) = true := by simp; omega
          clear hpe
          go_wp2_with fail
          go_quiet (fail)
          have HS4 := hide (HS3.out.call (show Below w3.heap.size w3 ((w3.alloc (.cells #[.int .i64 S.a, .int .i64 S.b] 26)).drewN nq) by (repeat' exact bel)))
          go_wp2
          go_roundw
          case rel => exact ⟨j + 1, by go_num, by omega, by rw [HRN.out, runAdd_join _ _ _ HPE.out]; first | exact HS4.out.set S.b | exact (HS3.out.set S.b).alloc _⟩
          case measure => simp [intOf]; omega
        · have HPE := hide hpe
          have hpb : (p.b + 1 == S.a) = false := by simp; omega
          clear hpe
          go_wp2_with fail
          go_quiet (fail)
          have HS4 := hide (HS3.out.call (show Below w3.heap.size w3 ((w3.alloc (.cells #[.int .i64 S.a, .int .i64 S.b] 26)).drewN nq) by (repeat' exact bel)))
          go_wp2_with ((at_builtin; refine wpList_append_own _ rfl _ _ 48 rfl w1.heap.size 26 i0 (.agg #[.int .i64 0, .int .i64 0]) 2 16 Tryz.underlying48 hi hi0 hi1 hi2 rfl (by decide) _ _ _ rfl ((show ((w3.alloc (.cells #[.int .i64 S.a, .int .i64 S.b] 26)).drewN nq).ownsRow w1.heap.size 26 2 (.slice (some ⟨g2, 0, none⟩) (R0.length + 1) cap2) (R0.length + 1) (flatS (R0 ++ [p])) from owns_call HO3.out (by (repeat' exact bel))).alloc _) ⟨w3.heap.size + 1, 0, none⟩ 1 1 [.int .i64 S.a, .int .i64 S.b] rfl rfl ?c1b ?c2b ?c3b ?c4b ?c5b ?_))
          case c1b => exact cells_new2' _ _ _ _ _ (by simp)
          case c2b => intro u hu; simp at hu; rcases hu with rfl | rfl <;> rfl
          case c3b => unfold maxLen; (try simp only [List.length_nil, List.length_append, List.length_cons]); omega
          case c4b => (try simp only [List.length_nil, List.length_append, List.length_cons]); omega
          case c5b => simp; omega
          · intro v' w' hown' hgrow _
            have HG := hide (HS4.out.grow (S := S) _ (by simpa using hown') hgrow)
            clear hown' hgrow
            go_wp2
            go_roundw
            case rel => exact ⟨j + 1, by go_num, by omega, by rw [HRN.out, runAdd_new _ _ _ HPE.out]; exact HG.out⟩
            case measure => simp [intOf]; omega
    · have hjl : j = L.length := by omega
      subst hjl
      have hown := HS.out.2.2.2.2.2.1
      rw [List.take_length, ← HR.out] at hown
      obtain ⟨g2, cap2, rfl, hg2⟩ := owns_pos hown.1 (List.length_pos_iff.2 hr0)
      have hBel := HS.out.2.2.2.2.2.2.2
      go_wp2
      go_ret2
      exact ⟨⟨g2, cap2, rfl, hown.1.base (Nat.zero_le _)⟩, hBel⟩


def RS (w : World) (a : Option Addr) (n cap : Nat) (L : List Sp) : Prop := (L = [] ∧ a = none ∧ n = 0 ∧ cap = 0) ∨ (0 < L.length ∧ n = L.length ∧ ∃ g, a = some ⟨g, 0, none⟩ ∧ SpsAt w g cap L)
theorem RS.call {w w' : World} {a : Option Addr} {n cap : Nat} {L : List Sp} (h : RS w a n cap L) (hb : Below w.heap.size w w') : RS w' a n cap L := by
  rcases h with h | ⟨h0, h1, g, h2, h3⟩
  · exact .inl h
  · exact .inr ⟨h0, h1, g, h2, h3.call hb⟩
def RSPost (L : List Sp) (E : Int) (w : World) (e : Ending) (w' : World) : Prop := ∃ a n cap, e = .returned (.tuple #[.slice a n cap, .int .i64 E]) ∧ RS w' a n cap L ∧ Below w.heap.size w w'
theorem rn_pos {c : Cal} {u : Un} {k : Int} (hE : twE c u k = 0) : 0 < (rnL c u k).length ∧ (rnL c u k).length ≤ 60 := by
  obtain ⟨f, g0, m, n, hm, hmn, hlen, hmap, q1x, q2x, q3x, hun⟩ := tw_form hE
  have h1 : rnL c u k = runsL (adjS f m ++ adjS g0 n) := by rw [rnL, hmap]
  rw [h1, rn_form hm (by assumption)]
  split <;> simp
theorem rn_none {c : Cal} {u : Un} {k : Int} (hE : ¬ twE c u k = 0) : rnL c u k = [] := by rw [rnL, tw_no hE]; rfl
theorem runs_rs (c : Cal) (u : Un) (k : Int) (w : World) (hn : c.name.size ≤ 1000) : Calls Tryz.prog 30 #[calV c, unitV u, .int .i64 k] w (RSPost (rnL c u k) (twE c u k) w) := by
  by_cases hE : twE c u k = 0
  · rw [hE]
    refine (runs_yes c u k w hn hE).mono ?_
    rintro e w1 ⟨⟨g, cap, rfl, hs⟩, hb⟩
    exact ⟨_, _, _, rfl, .inr ⟨(rn_pos hE).1, rfl, g, rfl, hs⟩, hb⟩
  · rw [rn_none hE]
    refine (runs_no c u k w hn hE).mono ?_
    rintro e w1 ⟨rfl, hb⟩
    exact ⟨_, _, _, rfl, .inl ⟨rfl, rfl, rfl, rfl⟩, hb⟩
theorem r20runs_rs (c : Cal) (u : Un) (k : Int) (w : World) (hn : c.name.size ≤ 1000) : Calls Tryz.prog 31 #[calV c, unitV u, .int .i64 k] w (RSPost (rnL c u k) (twE c u k) w) := by
  by_cases hE : twE c u k = 0
  · rw [hE]
    refine (r20runs_yes c u k w hn hE).mono ?_
    rintro e w1 ⟨⟨g, cap, rfl, hs⟩, hb⟩
    exact ⟨_, _, _, rfl, .inr ⟨(rn_pos hE).1, rfl, g, rfl, hs⟩, hb⟩
  · rw [rn_none hE]
    refine (r20runs_no c u k w hn hE).mono ?_
    rintro e w1 ⟨rfl, hb⟩
    exact ⟨_, _, _, rfl, .inl ⟨rfl, rfl, rfl, rfl⟩, hb⟩
theorem tweeks_rw (c : Cal) (u : Un) (k : Int) (w : World) (hn : c.name.size ≤ 1000) : Calls Tryz.prog 28 #[calV c, unitV u, .int .i64 k] w (RWPost (twL c u k) (twE c u k) w) := by
  refine (tweeks_any c u k w hn).mono ?_
  rintro e w1 ⟨⟨v, rfl, hv⟩, hb⟩
  rcases hv with ⟨h1, rfl⟩ | ⟨g, cap, rfl, h0, hu⟩
  · exact ⟨_, _, _, rfl, .inl ⟨h1, rfl, rfl, rfl⟩, hb⟩
  · exact ⟨_, _, _, rfl, hu.ru h0, hb⟩
theorem tw_few (c : Cal) (u : Un) (k : Int) : (twL c u k).length ≤ 60 := by
  by_cases hE : twE c u k = 0
  · obtain ⟨hU, ht, hin, hlen, hL⟩ := tw_ok hE
    rw [hL]; exact tw0_len hU ht
  · rw [tw_no hE]; simp

set_option maxRecDepth 100000 in
set_option maxHeartbeats 3200000 in
theorem same20_rs (L : List Sp) (a1 a2 : Option Addr) (n1 c1 n2 c2 : Nat) (w : World) (h1 : RS w a1 n1 c1 L) (h2 : RS w a2 n2 c2 L) (hl : L.length ≤ 100000) :
    Calls Tryz.prog 33 #[.slice a1 n1 c1, .slice a2 n2 c2] w fun e w' => e = .returned (.bool true) ∧ Below w.heap.size w w' := by
  rcases h1 with ⟨k1, rfl, rfl, rfl⟩ | ⟨k1, rfl, g1, rfl, k2⟩
  · rcases h2 with ⟨_, rfl, rfl, rfl⟩ | ⟨k3, _⟩
    · go_enter Tryz.func33, Tryz.ntmps33
      go_wp2_with fail
      go_loopw [13] (fun s wr => s = .int .i64 0 ∧ Below w.heap.size w wr) (fun s _ => (5 - intOf s).toNat)
      case atStart => exact ⟨rfl, Below.refl _ _⟩
      case round =>
        obtain ⟨rfl, hBel⟩ := hrel
        go_wp2
        go_ret
        exact ⟨rfl, by (repeat' exact bel)⟩
    · rw [k1] at k3; simp at k3
  · rcases h2 with ⟨k3, _⟩ | ⟨_, rfl, g2, rfl, k4⟩
    · rw [k3] at k1; simp at k1
    · have H1 := hide k2
      have H2 := hide k4
      have hg1 := (spsLt k2 k1).1
      have hg2 := (spsLt k4 k1).1
      clear k2 k4
      go_enter Tryz.func33, Tryz.ntmps33
      go_wp2_with fail
      go_loopw [13] (fun s wr => ∃ j : Nat, s = .int .i64 j ∧ j ≤ L.length ∧ Below w.heap.size w wr) (fun s _ => (1000001 - intOf s).toNat)
      case atStart => exact ⟨0, rfl, Nat.zero_le _, Below.refl _ _⟩
      case round =>
        obtain ⟨j, rfl, hj, hBel⟩ := hrel
        have hsz := hBel.size
        by_cases hlt : j < L.length
        · obtain ⟨x, hx⟩ : ∃ x, L[j]? = some x := ⟨_, List.getElem?_eq_getElem hlt⟩
          obtain ⟨a0, a1⟩ := SpsAt.cell (H1.out.call hBel) hx
          obtain ⟨b0, b1⟩ := SpsAt.cell (H2.out.call hBel) hx
          clear hx
          have hi3 : (0 : Int) ≤ (j : Int) := by omega
          have hi4 : (j : Int) < (L.length : Int) := by omega
          have hub := spB_same x.a x.b
          go_wp2_with fail
          go_quiet (fail)
          go_wp2
          all_goals first
            | (exfalso; omega)
            | skip
          go_roundw
          case rel => exact ⟨j + 1, by go_num, by omega, by (repeat' exact bel)⟩
          case measure => simp [intOf]; omega
        · go_wp2
          all_goals first
            | (exfalso; omega)
            | (go_ret; exact ⟨rfl, by (repeat' exact bel)⟩)
set_option maxHeartbeats 1600000 in
theorem sameu20_ru (L : List Un) (a1 a2 : Option Addr) (n1 c1 n2 c2 : Nat) (w : World) (h1 : RU w a1 n1 c1 L) (h2 : RU w a2 n2 c2 L) (hl : L.length ≤ 1000000) :
    Calls Tryz.prog 32 #[.slice a1 n1 c1, .slice a2 n2 c2] w fun e w' => e = .returned (.bool true) ∧ Below w.heap.size w w' := by
  have H1 := hide h1
  have H2 := hide h2
  clear h1 h2
  go_enter Tryz.func32, Tryz.ntmps32
  go_wp2_with fail
  refine (same17_ru L a1 a2 n1 c1 n2 c2 _ H1.out H2.out hl).mono ?_
  rintro e w1 ⟨rfl, hb1⟩
  have hBel := hb1
  go_wp2
  go_ret
  exact ⟨rfl, by (repeat' exact bel)⟩
end Go.Proofs.YtojdngkleiokgaaGreat
