/- Package rate: days and parts of a span. -/
import Derived.Test.YtamnccechaooaaaGreatRateA
import Derived.Test.YtamnccechaooaaaGreatShareB
namespace Go.Proofs.YtamnccechaooaaaGreat
open Go.RowKit Qd
set_option linter.unusedSimpArgs false
set_option linter.unusedVariables false

set_option maxRecDepth 100000 in
set_option maxHeartbeats 1600000 in
theorem pieces_no (c : Cal) (lv : Int) (s : Sp) (w : World) (hn : c.name.size ≤ 1000) (h : ¬ meetsE c lv s = 0) :
    Calls Tryz.prog 56 #[calV c, .int .i64 lv, spanV s] w fun e w' => e = .returned (.tuple #[.slice none 0 0, .slice none 0 0, .int .i64 (meetsE c lv s)]) ∧ Below w.heap.size w w' := by
  have HM := hide (fun w => meets_any_no c lv s w hn h)
  have hE : (meetsE c lv s != 0) = true := by simpa using h
  obtain ⟨E, hEE⟩ : ∃ E, meetsE c lv s = E := ⟨_, rfl⟩
  rw [hEE] at HM hE ⊢
  clear h hEE
  simp only [calV, spanV] at HM ⊢
  go_enter Tryz.func56, Tryz.ntmps56
  go_wp2_with fail
  refine (HM.out _).mono ?_
  rintro e w1 ⟨rfl, hb1⟩
  have HB1 : Hid (Below w.heap.size w w1) := ww hb1
  clear hb1
  go_wp2
  exact bodyPost_ret (v := .tuple #[.slice none 0 0, .slice none 0 0, .int .i64 E]) (by simp [results, Tryz.results56, go_sem]) rfl ⟨rfl, HB1.out⟩
set_option maxRecDepth 100000 in
set_option maxHeartbeats 1600000 in
theorem rdays_no (c : Cal) (lv : Int) (s : Sp) (w : World) (hn : c.name.size ≤ 1000) (h : ¬ meetsE c lv s = 0) :
    Calls Tryz.prog 26 #[calV c, .int .i64 lv, spanV s] w fun e w' => e = .returned (.tuple #[.slice none 0 0, .int .i64 (meetsE c lv s)]) ∧ Below w.heap.size w w' := by
  have HM := hide (fun w => pieces_no c lv s w hn h)
  obtain ⟨E, hEE⟩ : ∃ E, meetsE c lv s = E := ⟨_, rfl⟩
  rw [hEE] at HM ⊢
  clear h hEE
  simp only [calV, spanV] at HM ⊢
  go_enter Tryz.func26, Tryz.ntmps26
  go_wp2_with fail
  refine (HM.out _).mono ?_
  rintro e w1 ⟨rfl, hb1⟩
  have HB1 : Hid (Below w.heap.size w w1) := ww hb1
  clear hb1
  go_wp2
  go_ret2
  exact ⟨rfl, HB1.out⟩
set_option maxRecDepth 100000 in
set_option maxHeartbeats 1600000 in
theorem rdays_yes (c : Cal) (lv : Int) (s : Sp) (w : World) (hn : c.name.size ≤ 1000) (h : meetsE c lv s = 0) (hl : (meetsL c lv s).length ≤ 100000) :
    Calls Tryz.prog 26 #[calV c, .int .i64 lv, spanV s] w fun e w' => (∃ g, e = .returned (.tuple #[.slice (some ⟨g, 0, none⟩) (meetsL c lv s).length (meetsL c lv s).length, .int .i64 0]) ∧ LongsAt w' g (dysL c lv s) ∧ w.heap.size ≤ g) ∧ Below w.heap.size w w' := by
  have HM := hide (fun w => pieces_yes c lv s w hn h hl)
  obtain ⟨L, hL⟩ : ∃ n, (meetsL c lv s).length = n := ⟨_, rfl⟩
  rw [hL] at HM ⊢
  clear h hL hl
  simp only [calV, spanV] at HM ⊢
  go_enter Tryz.func26, Tryz.ntmps26
  go_wp2_with fail
  refine (HM.out _).mono ?_
  rintro e w1 ⟨⟨g1, g2, rfl, hP, hD, hg1, hg2, hne⟩, hb1⟩
  have HB1 : Hid (Below w.heap.size w w1) := ww hb1
  have HD := hide (And.intro hD (show w.heap.size ≤ g2 by simp at hg2; omega))
  clear hb1 hP hD hg1 hg2 hne
  go_wp2
  go_ret2
  exact ⟨⟨g2, rfl, HD.out⟩, HB1.out⟩
set_option maxRecDepth 100000 in
set_option maxHeartbeats 1600000 in
theorem rsplit_no (c : Cal) (lv a : Int) (s : Sp) (w : World) (hn : c.name.size ≤ 1000) (h : ¬ meetsE c lv s = 0) :
    Calls Tryz.prog 22 #[calV c, .int .i64 lv, .int .i64 a, spanV s] w fun e w' => e = .returned (.tuple #[.slice none 0 0, .int .i64 (meetsE c lv s)]) ∧ Below w.heap.size w w' := by
  have HM := hide (fun w => pieces_no c lv s w hn h)
  have hE : (meetsE c lv s != 0) = true := by simpa using h
  obtain ⟨E, hEE⟩ : ∃ E, meetsE c lv s = E := ⟨_, rfl⟩
  rw [hEE] at HM hE ⊢
  clear h hEE
  simp only [calV, spanV] at HM ⊢
  go_enter Tryz.func22, Tryz.ntmps22
  go_wp2_with fail
  refine (HM.out _).mono ?_
  rintro e w1 ⟨rfl, hb1⟩
  have HB1 : Hid (Below w.heap.size w w1) := ww hb1
  clear hb1
  go_wp2
  go_ret2
  exact ⟨rfl, HB1.out⟩
/-- The parts of an amount of a span, each with its unit. -/
noncomputable def shL (c : Cal) (lv a : Int) (s : Sp) : List (Un × Int) := (meetsL c lv s).zip (outV a (dysL c lv s))
theorem shL_len (c : Cal) (lv a : Int) (s : Sp) : (shL c lv a s).length = (meetsL c lv s).length := by simp [shL, outV_len, dysL_len]
structure ShSt (P : List (Un × Sp)) (N : List Int) (S : List (Un × Int)) (g1 g2 g3 K : Nat) (w1 w : World) : Prop where
  pcs : PcsAt w g1 P
  nms : LongsAt w g2 N
  shs : ShrAt w g3 S
  ne : g3 ≠ g1 ∧ g3 ≠ g2
  ord : K ≤ g3
  bel : Below K w1 w
theorem ShSt.call {P : List (Un × Sp)} {N : List Int} {S : List (Un × Int)} {g1 g2 g3 K : Nat} {w1 w w' : World} (h : ShSt P N S g1 g2 g3 K w1 w) (hb : Below w.heap.size w w') : ShSt P N S g1 g2 g3 K w1 w' :=
  ⟨h.pcs.call hb, h.nms.call hb, h.shs.call hb, h.ne, h.ord, h.bel.trans (hb.mono (by have := h.ord; have := h.shs.lt; omega))⟩
theorem ShSt.put {P : List (Un × Sp)} {N : List Int} {S : List (Un × Int)} {g1 g2 g3 K : Nat} {w1 w : World} (h : ShSt P N S g1 g2 g3 K w1 w) (j : Nat) (x : Un × Int) (hj : j < S.length) : ShSt P N (S.set j x) g1 g2 g3 K w1 (shPut w g3 j x) :=
  ⟨(shPut_far (Ne.symm h.ne.1)).trans h.pcs, (shPut_far (Ne.symm h.ne.2)).trans h.nms, h.shs.put j x hj, h.ne, h.ord, shPut_below h.bel h.ord⟩

set_option maxRecDepth 100000 in
set_option maxHeartbeats 3200000 in
theorem rsplit_yes (c : Cal) (lv a : Int) (s : Sp) (w : World) (hn : c.name.size ≤ 1000) (h : meetsE c lv s = 0) (hl : (meetsL c lv s).length ≤ 4096) (ha : in64 a) :
    Calls Tryz.prog 22 #[calV c, .int .i64 lv, .int .i64 a, spanV s] w fun e w' => (∃ g, e = .returned (.tuple #[.slice (some ⟨g, 0, none⟩) (meetsL c lv s).length (meetsL c lv s).length, .int .i64 0]) ∧ ShrAt w' g (shL c lv a s) ∧ w.heap.size ≤ g) ∧ Below w.heap.size w w' := by
  have HM := hide (fun w => pieces_yes c lv s w hn h (by omega))
  have hdf := dys_facts h
  have hok := meets_ok h
  have hsd : s.b - s.a + 1 ≤ 3068037 := by
    have h1 := (fd_ok hok.2.2.2.2.1).2.2.2.2.1
    have h2 := (fd_ok hok.2.2.2.2.2).2.2.2.2.1
    simp [isB] at h1 h2
    omega
  have HSP := hide (fun v w (hv : Nums w v (dysL c lv s)) => ssplit_any a v (dysL c lv s) w ha hv (fun x hx => by have := hdf.2 x hx; omega) (by rw [dysL_len]; exact hl) (by rw [hdf.1]; omega) (by rw [hdf.1]; omega))
  obtain ⟨L, hL⟩ : ∃ n, (meetsL c lv s).length = n := ⟨_, rfl⟩
  rw [dysL_len] at HSP
  rw [hL] at HM HSP hl ⊢
  have HL := hide hL
  have hmk := fun w => make_sh L (by omega) w
  clear h hL hdf hok hsd
  simp only [calV, spanV] at HM ⊢
  go_enter Tryz.func22, Tryz.ntmps22
  go_wp2_with fail
  refine (HM.out _).mono ?_
  rintro e w1 ⟨⟨g1, g2, rfl, hP, hD, hg1, hg2, hne⟩, hb1⟩
  have HB1 : Hid (Below w.heap.size w w1) := ww hb1
  have HP1 := hide hP
  have HD1 := hide hD
  have hz1 : w.heap.size ≤ w1.heap.size := by have := hb1.size; simp at this; omega
  clear hb1 hP hD hg1 hg2 hne
  go_wp2_with fail
  refine (HSP.out _ _ (by have h := HD1.out.nums (cap := L); rwa [dysL_len, HL.out] at h)).mono ?_
  rintro e w2 ⟨⟨g3, rfl, hO, hg3⟩, hb2⟩
  have HP2 := hide (HP1.out.call hb2)
  have HB2 : Hid (Below w.heap.size w w2) := by have hp := HB1.out; exact ww hb2
  have hz2 := hb2.size
  have H0 := hide (show ShSt (pcL c lv s) (outV a (dysL c lv s)) (fillL shZ (shL c lv a s) 0) g1 g3 w2.heap.size w2.heap.size w2 (w2.alloc (shObj L)) from
    ⟨HP2.out.call ((Below.refl _ _).alloc (Nat.le_refl _) _), hO.call ((Below.refl _ _).alloc (Nat.le_refl _) _), by rw [fill_zero, shL_len, HL.out]; exact ShrAt.new w2 L, ⟨by have := HP2.out.lt; omega, by have := hO.lt; omega⟩, Nat.le_refl _, (Below.refl _ _).alloc (Nat.le_refl _) _⟩)
  have hgl : g1 < w2.heap.size ∧ g3 < w2.heap.size := ⟨HP2.out.lt, hO.lt⟩
  clear hb2 hO hg3
  go_wp2_with fail
  go_loopw [42] (fun s42 wr => ∃ j : Nat, s42 = .int .i64 j ∧ j ≤ L ∧ ShSt (pcL c lv s) (outV a (dysL c lv s)) (fillL shZ (shL c lv a s) j) g1 g3 w2.heap.size w2.heap.size w2 wr) (fun s42 _ => (L + 5 - intOf s42).toNat)
  case atStart => exact ⟨0, rfl, Nat.zero_le _, H0.out⟩
  case round =>
    obtain ⟨j, rfl, hj, hS⟩ := hrel
    have HS := hide hS
    clear hS
    by_cases hlt : j < L
    · obtain ⟨u, hu⟩ : ∃ u, (meetsL c lv s)[j]? = some u := ⟨_, List.getElem?_eq_getElem (by rw [HL.out]; exact hlt)⟩
      obtain ⟨n, hnn⟩ : ∃ n, (outV a (dysL c lv s))[j]? = some n := ⟨_, List.getElem?_eq_getElem (by rw [outV_len, dysL_len, HL.out]; exact hlt)⟩
      have hp : (pcL c lv s)[j]? = some (pieceV c s u) := by rw [pcL, List.getElem?_map, hu]; rfl
      have hsh : (shL c lv a s)[j]? = some (u, n) := by
        unfold shL
        rw [List.getElem?_zip_eq_some]
        exact ⟨hu, hnn⟩
      obtain ⟨k0, k1, k2, k3, k4⟩ := HS.out.pcs.cell hp
      have c0 := HS.out.nms.cell hnn
      obtain ⟨s0, s1, s2, s3⟩ := HS.out.shs.cell (fill_at shZ (shL c lv a s) j (by rw [shL_len, HL.out]; exact hlt))
      have n0 := HS.out.shs.frozen (j * 4)
      have n1 := HS.out.shs.frozen (j * 4 + 1)
      have n2 := HS.out.shs.frozen (j * 4 + 2)
      have n3 := HS.out.shs.frozen (j * 4 + 3)
      simp only [pieceV] at k0 k1 k2 k3 k4 s0 s1 s2 s3
      obtain ⟨X, hX⟩ : ∃ X, max s.a (spV c u).a = X := ⟨_, rfl⟩
      obtain ⟨Y, hY⟩ : ∃ X, min s.b (spV c u).b = X := ⟨_, rfl⟩
      rw [hX] at k3
      rw [hY] at k4
      have hsz := HS.out.bel.size
      have hg1r := HS.out.pcs.lt
      have hg3r := HS.out.nms.lt
      have hgsr := HS.out.shs.lt
      have hi1 : (0 : Int) ≤ (j : Int) := by omega
      have hi3 : (j : Int) < (L : Int) := by omega
      have hne1 := HS.out.ne.1
      have hne2 := HS.out.ne.2
      have HN := hide (show ShSt (pcL c lv s) (outV a (dysL c lv s)) (fillL shZ (shL c lv a s) (j + 1)) g1 g3 w2.heap.size w2.heap.size w2 (shPut wr w2.heap.size j (u, n)) from by
        have h := HS.out.put j (u, n) (by rw [fill_len _ _ _ (by rw [shL_len, HL.out]; omega), shL_len, HL.out]; exact hlt)
        rwa [fill_set _ _ _ _ hsh] at h)
      unfold shPut at HN
      simp only at HN
      clear hu hnn hp hsh hX hY
      go_upto_region 11 with (fail)
      go_region
      all_goals
        go_simp
        go_wp2
        go_roundw
        case rel => exact ⟨j + 1, by go_num, by omega, HN.out.call (((Below.refl _ _).alloc (Nat.le_refl _) _).drew)⟩
        case measure => simp [intOf]; omega
    · obtain rfl : j = L := by omega
      have HFI := hide (show ShrAt wr w2.heap.size (shL c lv a s) from by
        have h := HS.out.shs
        have e1 := fill_full shZ (shL c lv a s)
        rw [shL_len, HL.out] at e1
        rwa [e1] at h)
      have HBF := hide (HB2.out.trans (HS.out.bel.mono (by omega)))
      go_wp2
      all_goals first
        | (exfalso; omega)
        | (go_ret2; exact ⟨⟨_, rfl, HFI.out, by omega⟩, HBF.out⟩)
end Go.Proofs.YtamnccechaooaaaGreat
