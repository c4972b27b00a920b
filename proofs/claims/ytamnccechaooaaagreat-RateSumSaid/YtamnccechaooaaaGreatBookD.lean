/- Package book: the sum of a unit. -/
import Derived.Test.YtamnccechaooaaaGreatBookC
namespace Go.Proofs.YtamnccechaooaaaGreat
open Go.RowKit Qd
set_option linter.unusedSimpArgs false
set_option linter.unusedVariables false

theorem ix5w (c : Cal) (y : Int) (hA : askE c y 1601 = 0) (i : Nat) (hi : i < nWk c y) : ixN c y 5 i = i := ix_eq c y hA 5 (by omega) (by omega) i i (by rw [cnt_5]; exact hi) (by simp [cutN]) (by simp [cutN])
theorem dn5w {c : Cal} {u : Un} (h : unitE c u = 0) : dnE c u 5 = 0 ∧ dnA c u 5 = ⟨5, u.yr, (cutA c u : Int) + 1⟩ ∧ dnB c u 5 = ⟨5, u.yr, (cutB c u : Int)⟩ := by
  obtain ⟨hf, l1, l5, hA, _, _⟩ := un_lv h
  have hab := cutAB h
  have e : dnE c u 5 = 0 := by simp [dnE, h, l5]
  refine ⟨e, ?_, ?_⟩
  · rw [dnA, if_pos e, ix5w c u.yr hA _ (by omega)]
  · rw [dnB, if_pos e, ix5w c u.yr hA _ (by omega)]
    congr 1
    omega
/-- What falls to the weeks of a unit; what is posted on its days. -/
def wkNs (f : Un → List Int) (y : Int) (a : Nat) : Nat → List Int
  | 0 => []
  | k + 1 => wkNs f y a k ++ f ⟨5, y, (a : Int) + 1 + k⟩
def inD (s : Sp) (P : List Po) : List Int := (P.filter fun p => decide (s.a ≤ p.day) && decide (p.day ≤ s.b)).map Po.n
theorem inD_yes {s : Sp} {P : List Po} {j : Nat} {x : Po} (hx : P[j]? = some x) (h : s.a ≤ x.day ∧ x.day ≤ s.b) : inD s (P.take (j + 1)) = inD s (P.take j) ++ [x.n] := by
  rw [List.take_add_one, hx, inD, inD]; simp [h]
theorem inD_no {s : Sp} {P : List Po} {j : Nat} {x : Po} (hx : P[j]? = some x) (h : ¬ (s.a ≤ x.day ∧ x.day ≤ s.b)) : inD s (P.take (j + 1)) = inD s (P.take j) := by
  rw [List.take_add_one, hx, inD, inD]
  have : (decide (s.a ≤ x.day) && decide (x.day ≤ s.b)) = false := by
    rw [Bool.and_eq_false_iff, decide_eq_false_iff_not, decide_eq_false_iff_not]; omega
  simp [this]
theorem inD_len (s : Sp) (P : List Po) : (inD s P).length ≤ P.length := by rw [inD, List.length_map]; exact List.length_filter_le _ _
theorem inD_mem {s : Sp} {P : List Po} {n : Int} (h : n ∈ inD s P) : ∃ p ∈ P, p.n = n := by
  simp only [inD, List.mem_map, List.mem_filter] at h
  obtain ⟨p, ⟨h1, _⟩, h2⟩ := h
  exact ⟨p, h1, h2⟩
theorem wkNs_mono (f : Un → List Int) (y : Int) (a : Nat) {k n : Nat} (h : k ≤ n) : (wkNs f y a k).length ≤ (wkNs f y a n).length := by
  induction n with
  | zero => obtain rfl : k = 0 := by omega
            exact Nat.le_refl _
  | succ n ih =>
    rcases Nat.lt_or_ge k (n + 1) with hk | hk
    · have := ih (by omega); simp only [wkNs, List.length_append]; omega
    · obtain rfl : k = n + 1 := by omega
      exact Nat.le_refl _
theorem wkNs_mem {f : Un → List Int} {y : Int} {a n : Nat} {x : Int} (h : x ∈ wkNs f y a n) : ∃ w, x ∈ f w := by
  induction n with
  | zero => simp [wkNs] at h
  | succ n ih =>
    rw [wkNs, List.mem_append] at h
    rcases h with h | h
    · exact ih h
    · exact ⟨_, h⟩
/-- What a unit comes to. -/
def totL (c : Cal) (u : Un) (P : List Po) (f : Un → List Int) : List Int := wkNs f u.yr (cutA c u) (cutB c u - cutA c u) ++ inD (spV c u) P

/-- What is kept in the loops: the span, the last week, and the numbers so far. -/
def SuSt (c : Cal) (u : Un) (B10 B13 Bo : Nat) (l : List Int) (v : Value) (w0 w : World) : Prop :=
  BlkIs w B10 #[.int .i64 (spV c u).a, .int .i64 (spV c u).b] 35 ∧ BlkIs w B13 #[.int .i64 5, .int .i64 u.yr, .int .i64 (cutB c u : Int)] 27 ∧ B10 < Bo ∧ B13 < Bo ∧ Bo ≤ w.heap.size ∧
  w.ownsRow Bo 2 1 v l.length (intsC l) ∧ w0.heap.size ≤ Bo ∧ Below w0.heap.size w0 w
theorem ownsI_call {w w' : World} {base : Nat} {v : Value} {l : List Int} (h : w.ownsRow base 2 1 v l.length (intsC l)) (hb : Below w.heap.size w w') : w'.ownsRow base 2 1 v l.length (intsC l) := by
  refine ⟨h.1, ?_⟩
  rcases h.2 with h1 | ⟨g', cap', cur, he, h2, hg', h3⟩
  · exact .inl h1
  · exact .inr ⟨g', cap', cur, he, h2, (hb.block g' (Array.getElem?_eq_some_iff.1 hg').1).trans hg', h3⟩
theorem SuSt.call {c : Cal} {u : Un} {B10 B13 Bo : Nat} {l : List Int} {v : Value} {w0 w w' : World} (h : SuSt c u B10 B13 Bo l v w0 w) (hb : Below w.heap.size w w') : SuSt c u B10 B13 Bo l v w0 w' := by
  obtain ⟨h1, h2, h3, h4, h5, h6, h7, h8⟩ := h
  exact ⟨h1.call hb, h2.call hb, h3, h4, Nat.le_trans h5 hb.size, ownsI_call h6 hb, h7, h8.trans (hb.mono (by omega))⟩
theorem SuSt.app {c : Cal} {u : Un} {B10 B13 Bo : Nat} {l l' : List Int} {v v' : Value} {w0 w w' : World} (h : SuSt c u B10 B13 Bo l v w0 w) (ho : w'.ownsRow Bo 2 1 v' l'.length (intsC l')) (hb : Below Bo w w') : SuSt c u B10 B13 Bo l' v' w0 w' := by
  obtain ⟨h1, h2, h3, h4, h5, h6, h7, h8⟩ := h
  exact ⟨h1.below hb h3, h2.below hb h4, h3, h4, Nat.le_trans h5 hb.size, ho, h7, h8.trans (hb.mono h7)⟩
theorem blk_three' {a b c : Value} {t : TypeId} {B : Nat} {w : World} (h : BlkIs w B #[a, b, c] t) : (w.cell? ⟨B, 0, none⟩ = some a ∧ w.cell? ⟨B, 1, none⟩ = some b ∧ w.cell? ⟨B, 2, none⟩ = some c) ∧ B < w.heap.size := ⟨⟨h.cell 0, h.cell 1, h.cell 2⟩, h.lt⟩
theorem KeepI.blk {w w' : World} {B : Nat} {cs : Array Value} {t : TypeId} (hk : KeepI w w') (h : BlkIs w B cs t) (ht : t ≠ 2 := by decide) : BlkIs w' B cs t := hk.2 B cs t ht h

/-- The number of the unit to which a slot points. -/
def cellI (w : World) (v : Value) : Int := match v with
  | .pointer (some p) => (match w.cell? ⟨p.block, 2, none⟩ with | some (.int _ n) => n | _ => 0)
  | _ => 0
theorem cellI_of {w : World} {B : Nat} {a b : Value} {n : Int} {t : TypeId} (h : BlkIs w B #[a, b, .int .i64 n] t) : cellI w (.pointer (some ⟨B, 0, none⟩)) = n := by
  have h2 : w.cell? ⟨B, 2, none⟩ = some (.int .i64 n) := h.cell 2
  simp [cellI, h2]

set_option maxRecDepth 100000 in
set_option maxHeartbeats 6400000 in
theorem bsum_any (c : Cal) (u : Un) (P : List Po) (f : Un → List Int) (vp m : Value) (w : World) (hn : c.name.size ≤ 1000) (hU : unitE c u = 0) (hP : Posts w vp P) (hm : PMap w m f) (hp : P.length ≤ 5000) (hp64 : ∀ p ∈ P, in64 p.n)
    (hf64 : ∀ x, ∀ n ∈ f x, in64 n) (hfl : (wkNs f u.yr (cutA c u) (cutB c u - cutA c u)).length ≤ 500000) :
    Calls Tryz.prog 69 #[calV c, unitV u, vp, m] w fun e w' => e = .returned (.tuple #[.int .i64 (fitV (totL c u P f).sum), .int .i64 (fitE (totL c u P f).sum)]) ∧ Below w.heap.size w w' := by
  obtain ⟨e0, eA, eB⟩ := dn5w hU
  have hab := cutAB hU
  have hnb := nWk_bd c u.yr (un_lv hU).2.2.2.1
  have HU := hide hU
  have HD := hide (And.intro e0 (And.intro eA eB))
  have HP := hide hP
  have HM := hide hm
  obtain ⟨ad, cap, rfl, _⟩ := hP
  obtain ⟨M, _, _, rfl, _⟩ := hm
  have HF := hide (And.intro hp64 hf64)
  obtain ⟨a, ha⟩ : ∃ a, cutA c u = a := ⟨_, rfl⟩
  obtain ⟨b, hb⟩ : ∃ b, cutB c u = b := ⟨_, rfl⟩
  have HAB := hide (And.intro ha hb)
  rw [ha, hb] at hab hfl HD
  have HFL := hide hfl
  obtain ⟨sa, hsa⟩ : ∃ x, (spV c u).a = x := ⟨_, rfl⟩
  obtain ⟨sb, hsb⟩ : ∃ x, (spV c u).b = x := ⟨_, rfl⟩
  have HSP := hide (And.intro hsa hsb)
  clear hU e0 eA eB hp64 hf64 ha hb hfl hsa hsb
  have hab2 : a < b ∧ b ≤ 60 := by omega
  clear hab hnb
  simp only [calV, unitV]
  go_enter Tryz.func69, Tryz.ntmps69
  go_wp2_with fail
  refine (uspan_any c u _ hn).mono ?_
  rintro e w1 ⟨rfl, hb1⟩
  rw [HU.out]
  simp only [spanV]
  rw [HSP.out.1, HSP.out.2]
  have hz1 : w.heap.size + 1 < w1.heap.size := by have := hb1.size; simp at this; omega
  have HB1 : Hid (Below w.heap.size w w1) := ww hb1
  have HQ1 := hide (calAt_below hb1 (by simp; omega) (calAt_alloc (calAt_new w c) (by simp) _))
  have HU1 := hide (unAt_below hb1 (by simp) (unAt_new w c u))
  obtain ⟨q0, q1, q2, q3, q4, q5, q6, q7, q8, q9, q10, q11, q12, q13⟩ := HQ1.out
  obtain ⟨u0, u1, u2⟩ := HU1.out
  have hy1 : w.heap.size < w1.heap.size := by omega
  clear hb1
  go_wp2_with fail
  refine (down_any c u 5 _ hn).mono ?_
  rintro e w2 ⟨rfl, hb2⟩
  rw [HD.out.1, HD.out.2.1, HD.out.2.2]
  simp only [unitV]
  have HB2 : Hid (Below w.heap.size w w2) := by have hp := HB1.out; exact ww hb2
  have K10 := hide (BlkIs.call (BlkIs.new w1 #[.int .i64 sa, .int .i64 sb] 35) hb2)
  have hz2 : w1.heap.size < w2.heap.size := K10.out.lt
  clear hb2
  go_wp2_with fail
  obtain ⟨W, hW⟩ : ∃ W : World, W = ((w2.alloc (.cells #[.int .i64 5, .int .i64 u.yr, .int .i64 ((a : Int) + 1)] 27)).alloc (.cells #[.int .i64 5, .int .i64 u.yr, .int .i64 (b : Int)] 27)).alloc (.cells #[.int .i64 5, .int .i64 u.yr, .int .i64 ((a : Int) + 1)] 27) := ⟨_, rfl⟩
  have H0 := hide (show BlkIs W (w2.heap.size + 2) #[.int .i64 5, .int .i64 u.yr, .int .i64 ((a : Int) + 1 + (0 : Nat))] 27 ∧ SuSt c u w1.heap.size (w2.heap.size + 1) (w2.heap.size + 3) (wkNs f u.yr a 0) (.slice none 0 0) w W by
    have hBel := HB2.out
    rw [hW]
    refine ⟨?_, ?_, ?_, by omega, by omega, by simp, ?_, by omega, by (repeat' exact bel)⟩
    · rw [Int.natCast_zero, Int.add_zero]
      have h := BlkIs.new ((w2.alloc (.cells #[.int .i64 5, .int .i64 u.yr, .int .i64 ((a : Int) + 1)] 27)).alloc (.cells #[.int .i64 5, .int .i64 u.yr, .int .i64 (b : Int)] 27)) #[.int .i64 5, .int .i64 u.yr, .int .i64 ((a : Int) + 1)] 27
      simpa using h
    · rw [HSP.out.1, HSP.out.2]; exact ((K10.out.alloc _).alloc _).alloc _
    · rw [HAB.out.2]
      have h := (BlkIs.new (w2.alloc (.cells #[.int .i64 5, .int .i64 u.yr, .int .i64 ((a : Int) + 1)] 27)) #[.int .i64 5, .int .i64 u.yr, .int .i64 (b : Int)] 27).alloc (.cells #[.int .i64 5, .int .i64 u.yr, .int .i64 ((a : Int) + 1)] 27)
      simpa using h
    · exact World.ownsRow_nil _ _ _ _)
  rw [← hW]
  clear hW
  go_loopw [14, 15] (fun s14 s15 wr => ∃ (k B15 : Nat), s15 = .pointer (some ⟨B15, 0, none⟩) ∧ k ≤ b - a ∧ BlkIs wr B15 #[.int .i64 5, .int .i64 u.yr, .int .i64 ((a : Int) + 1 + (k : Nat))] 27 ∧ SuSt c u w1.heap.size (w2.heap.size + 1) (w2.heap.size + 3) (wkNs f u.yr a k) s14 w wr) (fun _ s15 wr => (1000 - cellI wr s15).toNat)
  case atStart => exact ⟨0, _, rfl, Nat.zero_le _, H0.out⟩
  case round =>
    obtain ⟨k, B15, rfl, hk, hB15, hS⟩ := hrel
    have HS := hide hS
    have K15 := hide hB15
    clear hS hB15
    obtain ⟨⟨a0, a1, a2⟩, a3⟩ := blk_three' K15.out
    obtain ⟨⟨b0, b1, b2⟩, b3⟩ := blk_three' HS.out.2.1
    rw [HAB.out.2] at b2
    by_cases hlt : k < b - a
    · obtain ⟨vv, hlk, hnn⟩ := (HM.out.call (HS.out.2.2.2.2.2.2.2)).look ⟨5, u.yr, (a : Int) + 1 + (k : Nat)⟩
      simp only [unitV] at hlk
      have HN := hide hnn
      clear hnn
      have HWK := hide (show wkNs f u.yr a (k + 1) = wkNs f u.yr a k ++ f ⟨5, u.yr, (a : Int) + 1 + (k : Nat)⟩ from rfl)
      have hlen := wkNs_mono f u.yr a (show k + 1 ≤ b - a by omega)
      rw [HWK.out, List.length_append] at hlen
      have hfl2 := HFL.out
      go_wp2_with ((at_builtin; refine app_nums rfl _ _ rfl (w2.heap.size + 3) _ _ _ _ rfl HS.out.2.2.2.2.2.1 rfl HN.out (by omega) HS.out.2.2.2.2.1 ?_))
      intro v' w' hown' hbel hkeep
      have K15' := hide (hkeep.blk K15.out)
      have HS' := hide (HS.out.app (l' := wkNs f u.yr a k ++ f ⟨5, u.yr, (a : Int) + 1 + (k : Nat)⟩) (by rw [List.length_append]; exact hown') hbel)
      clear hown' hbel hkeep a0 a1 a2 a3 b0 b1 b2 b3 hlk
      obtain ⟨⟨a0, a1, a2⟩, a3⟩ := blk_three' K15'.out
      have KN := hide (show BlkIs (w'.alloc (.cells #[.int .i64 5, .int .i64 u.yr, .int .i64 ((a : Int) + 1 + ((k + 1 : Nat) : Int))] 27)) w'.heap.size #[.int .i64 5, .int .i64 u.yr, .int .i64 ((a : Int) + 1 + ((k + 1 : Nat) : Int))] 27 from BlkIs.new _ _ _)
      have ek : (a : Int) + 1 + ((k + 1 : Nat) : Int) = (a : Int) + 1 + (k : Int) + 1 := by omega
      have HS2 := hide (HS'.out.call (show Below w'.heap.size w' (w'.alloc (.cells #[.int .i64 5, .int .i64 u.yr, .int .i64 ((a : Int) + 1 + ((k + 1 : Nat) : Int))] 27)) by (repeat' exact bel)))
      rw [ek] at KN HS2
      have hm1 := hide (cellI_of KN.out)
      have hm2 := hide (cellI_of K15.out)
      go_wp2
      go_roundw
      case rel => exact ⟨k + 1, _, rfl, by omega, by rw [ek]; exact KN.out, by rw [HWK.out]; exact HS2.out⟩
      case measure => rw [hm1.out, hm2.out]; omega
    · have hkn : k = b - a := by omega
      subst hkn
      clear a0 a1 a2 a3
      obtain ⟨wo, hwo⟩ : ∃ wo : World, wo = wr := ⟨_, rfl⟩
      rw [← hwo] at HS b0 b1 b2 b3 K15 ⊢
      obtain ⟨⟨a0, a1, a2⟩, a3⟩ := blk_three' K15.out
      clear hwo
      go_wp2_with fail
      go_loopw [14, 55] (fun s14 s55 wr => ∃ j : Nat, s55 = .int .i64 j ∧ j ≤ P.length ∧ SuSt c u w1.heap.size (w2.heap.size + 1) (w2.heap.size + 3) (wkNs f u.yr a (b - a) ++ inD (spV c u) (P.take j)) s14 w wr) (fun _ s55 _ => (6000 - intOf s55).toNat)
      case atStart => exact ⟨0, rfl, Nat.zero_le _, by simpa [inD] using HS.out⟩
      case round =>
        obtain ⟨j, rfl, hj, hS2⟩ := hrel
        have HS2 := hide hS2
        clear hS2
        have hl2 := inD_len (spV c u) (P.take j)
        rw [List.length_take] at hl2
        have hfl3 := HFL.out
        by_cases hlt2 : j < P.length
        · obtain ⟨x, hx⟩ : ∃ x, P[j]? = some x := ⟨_, List.getElem?_eq_getElem hlt2⟩
          obtain ⟨g, o, rfl, hg, d0, d1⟩ := (HP.out.call HS2.out.2.2.2.2.2.2.2).at hx
          obtain ⟨⟨z0, z1⟩, _⟩ := blk_two' HS2.out.1
          rw [HSP.out.1] at z0
          rw [HSP.out.2] at z1
          have zB := HS2.out.1.lt
          have hi1 : (0 : Int) ≤ (j : Int) := by omega
          have hi3 : (j : Int) < (P.length : Int) := by omega
          have HX := hide hx
          clear hx
          by_cases hd : sa ≤ x.day ∧ x.day ≤ sb
          · have HI := hide (show inD (spV c u) (P.take (j + 1)) = inD (spV c u) (P.take j) ++ [x.n] from inD_yes HX.out (by rw [HSP.out.1, HSP.out.2]; exact hd))
            obtain ⟨hd1, hd2⟩ := hd
            go_wp2_with ((at_builtin; refine app_nums rfl _ _ rfl (w2.heap.size + 3) _ _ _ [x.n] rfl (ownsI_call HS2.out.2.2.2.2.2.1 ?hw) rfl (.inr ⟨_, _, by simp, rfl, ?hl, ?hc⟩) (by simp; omega) ?hz ?_))
            case hw => (repeat' exact bel)
            case hl => simp
            case hc =>
              intro i y hy
              match i, hy with
              | 0, hy => simp at hy; subst hy; simp
            case hz => have := HS2.out.2.2.2.2.1; simp; omega
            intro v' w' hown' hbel hkeep
            have HS3 := hide ((HS2.out.call (show Below wr.heap.size wr ((wr.alloc (.cells #[.int .i64 x.day, .int .i64 x.n] 63)).alloc (.cells #[.int .i64 x.n] 2)) by (repeat' exact bel))).app (l' := wkNs f u.yr a (b - a) ++ inD (spV c u) (P.take j) ++ [x.n]) (by simpa using hown') hbel)
            clear hown' hbel hkeep
            go_wp2
            go_roundw
            case rel => exact ⟨j + 1, by go_num, by omega, by rw [HI.out, ← List.append_assoc]; exact HS3.out⟩
            case measure => simp [intOf]; omega
          · have HI := hide (show inD (spV c u) (P.take (j + 1)) = inD (spV c u) (P.take j) from inD_no HX.out (by rw [HSP.out.1, HSP.out.2]; exact hd))
            rcases (show x.day < sa ∨ (sa ≤ x.day ∧ sb < x.day) by omega) with hd2 | ⟨hd2, hd3⟩
            all_goals
              go_wp2
              all_goals first
                | (exfalso; omega)
                | skip
              go_roundw
              case rel => exact ⟨j + 1, by go_num, by omega, by rw [HI.out]; exact HS2.out.call (by (repeat' exact bel))⟩
              case measure => simp [intOf]; omega
        · have HT := hide (show totL c u P f = wkNs f u.yr a (b - a) ++ inD (spV c u) (P.take j) by
            rw [List.take_of_length_le (by omega), totL, HAB.out.1, HAB.out.2])
          have HN := hide (owns_nums HS2.out.2.2.2.2.2.1)
          rw [← HT.out] at HN
          have h64 := hide (show ∀ y ∈ totL c u P f, in64 y from fun y hy => by
            rcases List.mem_append.1 hy with h | h
            · obtain ⟨z, hz⟩ := wkNs_mem h; exact HF.out.2 z y hz
            · obtain ⟨p, hp1, rfl⟩ := inD_mem h; exact HF.out.1 p hp1)
          have hlen := hide (show (totL c u P f).length ≤ 1000000 by rw [HT.out, List.length_append]; omega)
          have hBel := HS2.out.2.2.2.2.2.2.2
          clear hfl3 hl2
          go_wp2_with fail
          refine (wsum_any _ (totL c u P f) _ HN.out h64.out hlen.out).mono ?_
          rintro e w3 ⟨rfl, hb3⟩
          have HB3 := hide (hBel.trans (hb3.mono hBel.size))
          clear hb3
          go_wp2
          go_ret2
          exact ⟨rfl, HB3.out⟩
end Go.Proofs.YtamnccechaooaaaGreat
