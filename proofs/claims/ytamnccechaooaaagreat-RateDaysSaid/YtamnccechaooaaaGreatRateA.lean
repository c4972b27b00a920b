/- Package rate: the pieces of a span. -/
import Derived.Test.YtamnccechaooaaaGreatRateR
import Derived.Test.YtamnccechaooaaaGreatMUn
import Derived.Test.YtamnccechaooaaaGreatShareQ
import Derived.Lib.QuietBelow
import Derived.BigQuiet
import Derived.Deep.DeepCutAuto
namespace Go.Proofs.YtamnccechaooaaaGreat
open Go.RowKit Qd
set_option linter.unusedSimpArgs false
set_option linter.unusedVariables false

theorem pdays_any (u : Un) (s : Sp) (w : World) (h : -100000000 ≤ s.a ∧ s.a ≤ 100000000 ∧ -100000000 ≤ s.b ∧ s.b ≤ 100000000) :
    Calls Tryz.prog 93 #[.agg #[.int .i64 u.lv, .int .i64 u.yr, .int .i64 u.ix, .int .i64 s.a, .int .i64 s.b]] w fun e w' => e = .returned (.int .i64 (s.b - s.a + 1)) ∧ Below w.heap.size w w' := by
  obtain ⟨h1, h2, h3, h4⟩ := h
  go_enter Tryz.func93, Tryz.ntmps93
  go_wp2
  go_ret
  exact ⟨rfl, by (repeat' exact bel)⟩
/-- The pieces of a span. -/
def pieceV (c : Cal) (s : Sp) (u : Un) : Un × Sp := (u, ⟨max s.a (spV c u).a, min s.b (spV c u).b⟩)
noncomputable def pcL (c : Cal) (lv : Int) (s : Sp) : List (Un × Sp) := (meetsL c lv s).map (pieceV c s)
theorem pcL_len (c : Cal) (lv : Int) (s : Sp) : (pcL c lv s).length = (meetsL c lv s).length := by simp [pcL]
theorem dayW_bd (c : Cal) (y : Int) (hA : askE c y 1601 = 0) (i : Nat) (hi : i ≤ nWk c y) : 0 ≤ dayW c y i ∧ dayW c y i ≤ 3068038 := by
  have h1 := dayW_le c y hA (Nat.zero_le i) hi
  have h2 := dayW_le c y hA hi (Nat.le_refl _)
  rw [dayW_0] at h1
  rw [dayW_end c y hA] at h2
  have := year_bd c y hA
  omega
theorem fill_at {α : Type} (z : α) (l : List α) (j : Nat) (hj : j < l.length) : (fillL z l j)[j]? = some z := by
  have h1 : (l.take j).length = j := by rw [List.length_take]; omega
  unfold fillL
  rw [List.getElem?_append_right (by omega), h1, Nat.sub_self, List.getElem?_replicate, if_pos (by omega)]
def PkSt (L : Nat) (w1 : World) (s8 s9 : Value) (wx : World) : Prop := ∃ g1 g2, s8 = .slice (some ⟨g1, 0, none⟩) L L ∧ s9 = .slice (some ⟨g2, 0, none⟩) L L ∧ g1 ≠ g2 ∧ w1.heap.size ≤ g1 ∧ w1.heap.size ≤ g2 ∧ PcsAt wx g1 (List.replicate L pcZ) ∧ LongsAt wx g2 (List.replicate L 0) ∧ Below w1.heap.size w1 wx
/-- The frame of a year, in a box; the rows; all lies above K. -/
def FrBox (w : World) (F : Nat) : Prop := ∃ a b d, BlkIs w F #[a, b, d] 102
def FrF (c : Cal) (y : Int) (F : Nat) (w : World) : Prop := ∃ h1 h2 cp, BlkIs w F #[.int .i64 y, .slice (some ⟨h1, 0, none⟩) (nWk c y) cp, .slice (some ⟨h2, 0, none⟩) (nPer c y) (nPer c y)] 102 ∧ FrameAt w h1 h2 c y ∧ nWk c y ≤ cp ∧ F < h1 ∧ F < h2
theorem FrBox.call {w w' : World} {F : Nat} (h : FrBox w F) (hb : Below w.heap.size w w') : FrBox w' F := by
  obtain ⟨a, b, d, h⟩ := h
  exact ⟨a, b, d, h.call hb⟩
theorem FrF.call {c : Cal} {y : Int} {F : Nat} {w w' : World} (h : FrF c y F w) (hb : Below w.heap.size w w') : FrF c y F w' := by
  obtain ⟨h1, h2, cp, a, b, d, e, f⟩ := h
  exact ⟨h1, h2, cp, a.call hb, b.call hb, d, e, f⟩
theorem FrF.box {c : Cal} {y : Int} {F : Nat} {w : World} (h : FrF c y F w) : FrBox w F := by
  obtain ⟨h1, h2, cp, a, _⟩ := h
  exact ⟨_, _, _, a⟩
/-- Blocks below F are turned: the frame stays. -/
theorem FrF.same {c : Cal} {y : Int} {F : Nat} {w w' : World} (h : FrF c y F w) (hs : w.heap.size ≤ w'.heap.size) (hb : ∀ k, F ≤ k → w'.heap[k]? = w.heap[k]?) : FrF c y F w' := by
  obtain ⟨h1, h2, cp, a, ⟨b1, b2⟩, d, e, f⟩ := h
  refine ⟨h1, h2, cp, (hb F (Nat.le_refl _)).trans a, ⟨⟨Nat.lt_of_lt_of_le b1.1 hs, fun i hi => ?_⟩, (hb h2 (Nat.le_of_lt f)).trans b2⟩, d, e, f⟩
  have hc := b1.2 i hi
  exact ⟨(World.cell?_of_block (hb h1 (Nat.le_of_lt e))).trans hc.1, (World.cell?_of_block (hb h1 (Nat.le_of_lt e))).trans hc.2⟩
structure PcSt (c : Cal) (P : List (Un × Sp)) (D : List Int) (g1 g2 F K : Nat) (w1 w : World) : Prop where
  pcs : PcsAt w g1 P
  dys : LongsAt w g2 D
  box : FrBox w F
  ne : g1 ≠ g2
  ord : K ≤ g1 ∧ K ≤ g2 ∧ g1 < F ∧ g2 < F
  bel : Below K w1 w
theorem PcSt.call {c : Cal} {P : List (Un × Sp)} {D : List Int} {g1 g2 F K : Nat} {w1 w w' : World} (h : PcSt c P D g1 g2 F K w1 w) (hb : Below w.heap.size w w') : PcSt c P D g1 g2 F K w1 w' :=
  ⟨h.pcs.call hb, h.dys.call hb, h.box.call hb, h.ne, h.ord, h.bel.trans (hb.mono (by have := h.ord; have := h.pcs.lt; omega))⟩

def RgSt (c : Cal) (u : Un) (P : List (Un × Sp)) (D : List Int) (g1 g2 F K B : Nat) (w1 : World) (b : Value) (w : World) : Prop := ∃ nb, b = .bool nb ∧ (nb = false → FrF c u.yr F w) ∧ PcSt c P D g1 g2 F K w1 w ∧ UnAt w B u ∧ F < B ∧ B < w.heap.size
def RhSt (c : Cal) (u : Un) (P : List (Un × Sp)) (D : List Int) (g1 g2 F K B : Nat) (w1 w : World) : Prop := FrF c u.yr F w ∧ PcSt c P D g1 g2 F K w1 w ∧ UnAt w B u ∧ F < B ∧ B < w.heap.size

theorem PcSt.putP {c : Cal} {P : List (Un × Sp)} {D : List Int} {g1 g2 F K : Nat} {w1 w : World} (h : PcSt c P D g1 g2 F K w1 w) (j : Nat) (x : Un × Sp) (hj : j < P.length) : PcSt c (P.set j x) D g1 g2 F K w1 (pcPut w g1 j x) := by
  obtain ⟨p1, p2, ⟨a, b, d, p3⟩, p4, ⟨o1, o2, o3, o4⟩, p6⟩ := h
  exact ⟨p1.put j x hj, (pcPut_far (Ne.symm p4)).trans p2, ⟨a, b, d, (pcPut_far (by omega)).trans p3⟩, p4, ⟨o1, o2, o3, o4⟩, pcPut_below p6 o1⟩
theorem PcSt.putD {c : Cal} {P : List (Un × Sp)} {D : List Int} {g1 g2 F K : Nat} {w1 w : World} (h : PcSt c P D g1 g2 F K w1 w) (j : Nat) (d : Int) : PcSt c P (D.set j d) g1 g2 F K w1 (w.setCell ⟨g2, j, none⟩ (.int .i64 d)) := by
  obtain ⟨p1, p2, ⟨a, b, e, p3⟩, p4, ⟨o1, o2, o3, o4⟩, p6⟩ := h
  exact ⟨p1.far p4 _, p2.set j d, ⟨a, b, e, (Below.heap_setCell _ _ _ _ (by show F ≠ g2; omega)).trans p3⟩, p4, ⟨o1, o2, o3, o4⟩, p6.setCell o2 _⟩
theorem set3_block {w : World} {F b : Nat} {x y z : Value} (hb : b ≠ F) : (((w.setCell ⟨F, 0, none⟩ x).setCell ⟨F, 1, none⟩ y).setCell ⟨F, 2, none⟩ z).heap[b]? = w.heap[b]? := by
  rw [Below.heap_setCell _ _ _ _ hb, Below.heap_setCell _ _ _ _ hb, Below.heap_setCell _ _ _ _ hb]
theorem frame_of {w w' : World} {h1 h2 : Nat} {c : Cal} {y : Int} (h : FrameAt w h1 h2 c y) (hs : w.heap.size ≤ w'.heap.size) (e1 : w'.heap[h1]? = w.heap[h1]?) (e2 : w'.heap[h2]? = w.heap[h2]?) : FrameAt w' h1 h2 c y :=
  ⟨⟨Nat.lt_of_lt_of_le h.1.1 hs, fun i hi => ⟨(World.cell?_of_block e1).trans (h.1.2 i hi).1, (World.cell?_of_block e1).trans (h.1.2 i hi).2⟩⟩, e2.trans h.2⟩
theorem un_of {w w' : World} {B : Nat} {u : Un} (h : UnAt w B u) (e : w'.heap[B]? = w.heap[B]?) : UnAt w' B u := unAt_same (fun o => World.cell?_of_block e) h
/-- A frame stored into its box. -/
theorem PcSt.frame {c : Cal} {u : Un} {P : List (Un × Sp)} {D : List Int} {g1 g2 F K B h1 h2 cp : Nat} {w1 w : World} (h : PcSt c P D g1 g2 F K w1 w) (hu : UnAt w B u) (hFB : F < B) (hB : B < w.heap.size) (hf : FrameAt w h1 h2 c u.yr) (hcp : nWk c u.yr ≤ cp) (hh1 : F < h1) (hh2 : F < h2) :
    RhSt c u P D g1 g2 F K B w1 (((w.setCell ⟨F, 0, none⟩ (.int .i64 u.yr)).setCell ⟨F, 1, none⟩ (.slice (some ⟨h1, 0, none⟩) (nWk c u.yr) cp)).setCell ⟨F, 2, none⟩ (.slice (some ⟨h2, 0, none⟩) (nPer c u.yr) (nPer c u.yr))) := by
  obtain ⟨p1, p2, ⟨a, b, d, p3⟩, p4, ⟨o1, o2, o3, o4⟩, p6⟩ := h
  have hbx := BlkIs.set123 p3 (.int .i64 u.yr) (.slice (some ⟨h1, 0, none⟩) (nWk c u.yr) cp) (.slice (some ⟨h2, 0, none⟩) (nPer c u.yr) (nPer c u.yr))
  refine ⟨⟨h1, h2, cp, hbx, frame_of hf (by simp) (set3_block (by omega)) (set3_block (by omega)), hcp, hh1, hh2⟩, ⟨(set3_block (by omega)).trans p1, (set3_block (by omega)).trans p2, ⟨_, _, _, hbx⟩, p4, ⟨o1, o2, o3, o4⟩, ((p6.setCell (by show K ≤ F; omega) _).setCell (by show K ≤ F; omega) _).setCell (by show K ≤ F; omega) _⟩, un_of hu (set3_block (by omega)), hFB, by simpa using hB⟩

set_option maxRecDepth 100000 in
set_option maxHeartbeats 6400000 in
theorem pieces_yes (c : Cal) (lv : Int) (s : Sp) (w : World) (hn : c.name.size ≤ 1000) (h : meetsE c lv s = 0) (hl : (meetsL c lv s).length ≤ 100000) :
    Calls Tryz.prog 56 #[calV c, .int .i64 lv, spanV s] w fun e w' => (∃ g1 g2, e = .returned (.tuple #[.slice (some ⟨g1, 0, none⟩) (meetsL c lv s).length (meetsL c lv s).length, .slice (some ⟨g2, 0, none⟩) (meetsL c lv s).length (meetsL c lv s).length, .int .i64 0]) ∧ PcsAt w' g1 (pcL c lv s) ∧ LongsAt w' g2 (dysL c lv s) ∧ w.heap.size ≤ g1 ∧ w.heap.size ≤ g2 ∧ g1 ≠ g2) ∧ Below w.heap.size w w' := by
  have HM := hide (fun w => meets_yes c lv s w hn h)
  have HMM := hide (fun u hu => meets_mem (c := c) (lv := lv) (s := s) (u := u) h hu)
  have HOK := hide (meets_ok h)
  have hlv : 1 ≤ lv ∧ lv ≤ 5 := by have := HOK.out; omega
  have hsd : 0 ≤ s.a ∧ s.a < 3068037 ∧ 0 ≤ s.b ∧ s.b < 3068037 := by
    have h1 := (fd_ok HOK.out.2.2.2.2.1).2.2.2.2.1
    have h2 := (fd_ok HOK.out.2.2.2.2.2).2.2.2.2.1
    simp [isB] at h1 h2
    omega
  obtain ⟨L, hL⟩ : ∃ n, (meetsL c lv s).length = n := ⟨_, rfl⟩
  rw [hL] at HM hl ⊢
  have HL := hide hL
  have hmk1 := fun w => make_longs L hl w
  have hmk2 := fun w => make_pc L hl w
  obtain ⟨hlv1, hlv5⟩ := hlv
  obtain ⟨hs1, hs2, hs3, hs4⟩ := hsd
  clear h hL
  simp only [calV, spanV] at HM ⊢
  go_enter Tryz.func56, Tryz.ntmps56
  go_wp2_with fail
  refine (HM.out _).mono ?_
  rintro e w1 ⟨g, cap, rfl, hU, hg, hb1⟩
  have HU := hide hU
  have HB1 : Hid (Below w.heap.size w w1) := ww hb1
  have HQ1 := hide (calAt_below hb1 (by simp; omega) (calAt_alloc (calAt_new w c) (by simp) _))
  have HS1 := hide (show SpAt w1 (w.heap.size + 1) s from spAt_below hb1 (by simp) (by have := spAt_fresh (w.alloc (calObj c)) s; simpa using this))
  have hz1 : w.heap.size + 1 < w1.heap.size := by have := hb1.size; simp at this; omega
  clear hU hb1
  go_upto_region 4 with (fail)
  go_cut [11, 12] (fun s8 s9 wx => PkSt L w1 s8 s9 wx)
  case first =>
    go_region
    all_goals
      go_wp2_with fail
      go_meet
    case rel =>
      refine ⟨w1.heap.size, w1.heap.size + 1, rfl, rfl, by omega, Nat.le_refl _, by omega, ?_, ?_, by (repeat' exact bel)⟩
      · exact (PcsAt.new w1 L).call (by (repeat' exact bel))
      · have h := LongsAt.new (w1.alloc (pcObj L)) L
        rw [show (w1.alloc (pcObj L)).heap.size = w1.heap.size + 1 by simp] at h
        exact h.call ((Below.refl _ _).drew)
    case rel =>
      refine ⟨w1.heap.size + 1, w1.heap.size, rfl, rfl, by omega, by omega, Nat.le_refl _, ?_, ?_, by (repeat' exact bel)⟩
      · have h := PcsAt.new (w1.alloc (zeroObj64 L)) L
        rw [show (w1.alloc (zeroObj64 L)).heap.size = w1.heap.size + 1 by simp] at h
        exact h.call ((Below.refl _ _).drew)
      · exact (LongsAt.new w1 L).call (by (repeat' exact bel))
  case rest =>
    obtain ⟨g1, g2, rfl, rfl, hne, hg1, hg2, hP1, hD2, hb2⟩ := hcut
    have hgl1 := hP1.lt
    have hgl2 := hD2.lt
    have H0 := hide (show PcSt c (fillL pcZ (pcL c lv s) 0) (fillL 0 (dysL c lv s) 0) g1 g2 wc.heap.size w1.heap.size w1 (wc.alloc (.cells #[.int .i64 0, .slice none 0 0, .slice none 0 0] 102)) from
      ⟨by rw [fill_zero, pcL_len, HL.out]; exact hP1.call ((Below.refl _ _).alloc (Nat.le_refl _) _), by rw [fill_zero, dysL_len, HL.out]; exact hD2.call ((Below.refl _ _).alloc (Nat.le_refl _) _), ⟨_, _, _, BlkIs.new _ _ _⟩, hne, ⟨hg1, hg2, hgl1, hgl2⟩, hb2.alloc hb2.size _⟩)
    obtain ⟨F, hF⟩ : ∃ F, F = wc.heap.size := ⟨_, rfl⟩
    have hFw : w1.heap.size ≤ F := by rw [hF]; exact hb2.size
    clear hP1 hD2 hb2
    go_wp2_with fail
    rw [← hF] at H0 ⊢
    clear hF
    go_loopw [38] (fun s38 wr => ∃ j : Nat, s38 = .int .i64 j ∧ j ≤ L ∧ PcSt c (fillL pcZ (pcL c lv s) j) (fillL 0 (dysL c lv s) j) g1 g2 F w1.heap.size w1 wr ∧ Hid (∀ u, 0 < j → (meetsL c lv s)[j - 1]? = some u → FrF c u.yr F wr)) (fun s38 _ => (L + 5 - intOf s38).toNat)
    case atStart => exact ⟨0, rfl, Nat.zero_le _, H0.out, hide (fun u h => absurd h (Nat.lt_irrefl 0))⟩
    case round =>
      obtain ⟨j, rfl, hj, hS, HFR⟩ := hrel
      have HS := hide hS
      clear hS
      have hszr := HS.out.bel.size
      by_cases hlt : j < L
      · obtain ⟨u, hu⟩ : ∃ u, (meetsL c lv s)[j]? = some u := ⟨_, List.getElem?_eq_getElem (by rw [HL.out]; exact hlt)⟩
        have hug := (UnsAt.lt HU.out (by rw [HL.out]; omega)).1
        have hcell : ∀ o, wr.cell? ⟨g, o, none⟩ = w1.cell? ⟨g, o, none⟩ := fun o => HS.out.bel.cell (p := ⟨g, o, none⟩) hug
        obtain ⟨a0, a1, a2⟩ := UnsAt.cell HU.out hu
        rw [← hcell] at a0 a1 a2
        have HUM := hide (HMM.out u (List.mem_of_getElem? hu))
        have HX := hide hu
        have HCL := hide hcell
        have hugr : g < wr.heap.size := by omega
        have hi1 : (0 : Int) ≤ (j : Int) := by omega
        have hi3 : (j : Int) < (L : Int) := by omega
        have HW := hide (show PcSt c (fillL pcZ (pcL c lv s) j) (fillL 0 (dysL c lv s) j) g1 g2 F w1.heap.size w1 (wr.alloc (unObj u)) ∧ UnAt (wr.alloc (unObj u)) wr.heap.size u ∧ (∀ v, 0 < j → (meetsL c lv s)[j - 1]? = some v → FrF c v.yr F (wr.alloc (unObj u))) from ⟨HS.out.call ((Below.refl _ _).alloc (Nat.le_refl _) _), unAt_fresh wr u, fun v h1 h2 => (HFR.out v h1 h2).call ((Below.refl _ _).alloc (Nat.le_refl _) _)⟩)
        clear hcell hu
        have HDR := hide (fun n => below_drewN (Below.refl (wr.alloc (unObj u)).heap.size (wr.alloc (unObj u))) n)
        have hFB : F < wr.heap.size := by obtain ⟨_, _, _, hb⟩ := HS.out.box; exact hb.lt
        go_upto_region 9 with (fail)
        go_cut [55] (fun b wx => RgSt c u (fillL pcZ (pcL c lv s) j) (fillL 0 (dysL c lv s) j) g1 g2 F w1.heap.size wr.heap.size w1 b wx)
        case first =>
          rcases Nat.eq_zero_or_pos j with rfl | hj0
          · go_quiet (fail)
            go_wp2_with fail
            go_meet
            case rel => exact ⟨true, rfl, by simp, HW.out.1.call (HDR.out _), unAt_below (HDR.out _) (by simp) HW.out.2.1, hFB, by simp⟩
          · obtain ⟨i, rfl⟩ : ∃ i, j = i + 1 := ⟨j - 1, by omega⟩
            obtain ⟨v, hv⟩ : ∃ v, (meetsL c lv s)[i]? = some v := ⟨_, List.getElem?_eq_getElem (by rw [HL.out]; omega)⟩
            obtain ⟨b0, b1, b2⟩ := UnsAt.cell HU.out hv
            rw [← HCL.out] at b1
            have hz : ((i : Int) + 1 == 0) = false := by rw [beq_eq_false_iff_ne]; omega
            have hii : (0 : Int) ≤ (i : Int) := by omega
            have hii3 : (i : Int) < (L : Int) := by omega
            have q7 : IntKind.i64.wrap (i : Int) = (i : Int) := by simp [IntKind.wrap, IntKind.bits, IntKind.signed]; omega
            have q8 : IntKind.i64.wrap ((i : Int) + 1 - 1) = (i : Int) := by simp [IntKind.wrap, IntKind.bits, IntKind.signed]; omega
            have q9 : (i : Int) + 1 - 1 = (i : Int) := by omega
            have HFV := hide (HW.out.2.2 v (by omega) hv)
            clear b0 b2 hv
            by_cases hy : u.yr = v.yr
            · have hyb : (u.yr != v.yr) = false := by simp [hy]
              have HY := hide hy
              clear hy
              go_quiet (fail)
              go_wp2_with fail
              go_meet
              case rel => exact ⟨false, rfl, fun _ => by simpa only [unObj, HY.out] using HFV.out.call (HDR.out nq), HW.out.1.call (HDR.out _), unAt_below (HDR.out _) (by simp) HW.out.2.1, hFB, by simp⟩
            · have hyb : (u.yr != v.yr) = true := by simp [hy]
              go_quiet (fail)
              go_wp2_with fail
              go_meet
              case rel => exact ⟨true, rfl, by simp, HW.out.1.call (HDR.out _), unAt_below (HDR.out _) (by simp) HW.out.2.1, hFB, by simp⟩
        case rest =>
          obtain ⟨nb, rfl, hnf, hpc, hub, hFB2, hBl⟩ := hcut
          have HN := hide (And.intro hnf (And.intro hpc (And.intro hub (And.intro hFB2 hBl))))
          obtain ⟨w4, hw4⟩ : ∃ w4, w4 = wc := ⟨_, rfl⟩
          obtain ⟨B, hB⟩ : ∃ B, B = wr.heap.size := ⟨_, rfl⟩
          rw [← hw4] at HN ⊢
          rw [← hB] at HN ⊢
          have HKK := hide (And.intro hnf (And.intro hpc hub))
          clear hw4 hnf hpc hub HW HDR HS HFR a0 a1 a2 hB HCL HKK hFB hugr hFB2 hBl
          go_upto_if 55 with (fail)
          go_cut [] (fun wx => RhSt c u (fillL pcZ (pcL c lv s) j) (fillL 0 (dysL c lv s) j) g1 g2 F w1.heap.size B w1 wx)
          case first =>
            cases nb
            · have HFF := hide (HN.out.1 (by simp))
              go_wp2_with fail
              go_meet
              case rel => exact ⟨HFF.out, HN.out.2.1, HN.out.2.2⟩
            · have HMK := hide (fun w => make_yes c lv u.yr w hn (by have h1 := un_lv HUM.out.1; rw [← HUM.out.2]; exact h1.1))
              have hBel := HN.out.2.1.bel
              obtain ⟨q0, q1, q2, q3, q4, q5, q6, q7, q8, q9, q10, q11, q12, q13⟩ := calAt_below hBel (by omega) HQ1.out
              obtain ⟨u0, u1, u2⟩ := HN.out.2.2.1
              have hB1 := HN.out.2.2.2.2
              go_wp2_with fail
              refine (HMK.out _).mono ?_
              rintro e w5 ⟨h1, cp, h2, hh1, hh2, rfl, hc1, hc2, hFr, hb5⟩
              have HP5 := hide (HN.out.2.1.call hb5)
              have HU5 := hide (unAt_below hb5 hB1 HN.out.2.2.1)
              obtain ⟨ka, kb, kd, hbx⟩ := HP5.out.box
              have k0 := hbx.cell 0
              have k1 := hbx.cell 1
              have k2 := hbx.cell 2
              have k3 := hbx.frozen 0
              have k4 := hbx.frozen 1
              have k5 := hbx.frozen 2
              have hF4 := HN.out.2.2.2.1
              have HF5 := hide (HP5.out.frame HU5.out hF4 (Nat.lt_of_lt_of_le hB1 hb5.size) hFr hc1 (by omega) (by omega))
              clear hb5 hbx hFr hh1 hh2 hBel u0 u1 u2
              clear q0 q1 q2 q3 q4 q5 q6 q7 q8 q9 q10 q11 q12 q13
              simp at k0 k1 k2
              go_wp2_with fail
              go_meet
              case rel => exact HF5.out
          case rest =>
            obtain ⟨hff, hpc, hub, hFB, hBl⟩ := hcut
            obtain ⟨h1, h2, cp, hbx, hfr, hcp, f1, f2⟩ := hff
            obtain ⟨w6, hw6⟩ : ∃ w6, w6 = wc := ⟨_, rfl⟩
            rw [← hw6] at hbx hfr hpc hub hBl ⊢
            clear hw6 HN
            obtain ⟨hf, l1, l5, hA, hx, hi⟩ := un_lv HUM.out.1
            have hab := cutAB HUM.out.1
            have hsp := sp_get HUM.out.1
            obtain ⟨A, hAA⟩ : ∃ A, cutA c u = A := ⟨_, rfl⟩
            obtain ⟨Z, hZZ⟩ : ∃ Z, cutB c u = Z + 1 := ⟨cutB c u - 1, by omega⟩
            have HWK := hide (fun w hI => fweeks_yes c u.yr u w cp h1 h2 l1 l5 hA hI (uI u) hx hi)
            rw [show cutN c u.yr u.lv (uI u) = A from hAA, show cutN c u.yr u.lv (uI u + 1) = Z + 1 from hZZ] at HWK
            rw [hAA, hZZ] at hab hsp
            have HSN := hide (fun w hF => fspan_any c u.yr w cp h1 h2 hA hcp hF A Z (by omega) (by omega))
            rw [← hsp] at HSN
            obtain ⟨t, ht⟩ : ∃ t, spV c u = t := ⟨_, rfl⟩
            rw [ht] at HSN
            have htb : -100000000 ≤ t.a ∧ t.a ≤ 100000000 ∧ -100000000 ≤ t.b ∧ t.b ≤ 100000000 := by
              have h1 := dayW_bd c u.yr hA A (by omega)
              have h2 := dayW_bd c u.yr hA (Z + 1) (by omega)
              rw [← ht, hsp]
              simp only
              omega
            obtain ⟨ht1, ht2, ht3, ht4⟩ := htb
            have HTT := hide ht
            have HCP := hide (And.intro hcp (And.intro f1 f2))
            have HFR := hide hfr
            have HPC := hide hpc
            have HUB := hide hub
            have HBX := hide hbx
            have k0 := hbx.cell 0
            have k1 := hbx.cell 1
            have k2 := hbx.cell 2
            obtain ⟨u0, u1, u2⟩ := hub
            simp at k0 k1 k2
            simp only [yearV, unitV, spanV] at HWK HSN
            clear hf l1 l5 hA hx hi hab hsp hAA hZZ ht hfr hpc hbx hcp
            go_wp2_with fail
            refine (HWK.out _ HFR.out.2).mono ?_
            rintro e w7 ⟨rfl, hb7⟩
            have HFR7 := hide (HFR.out.call hb7)
            have HPC7 := hide (HPC.out.call hb7)
            have HUB7 := hide (unAt_below hb7 hBl HUB.out)
            have HBX7 := hide (HBX.out.call hb7)
            have hBl7 : B < w7.heap.size := Nat.lt_of_lt_of_le hBl hb7.size
            clear hb7 k0 k1 k2 u0 u1 u2 HFR HPC HUB
            have k0 := HBX7.out.cell 0
            have k1 := HBX7.out.cell 1
            have k2 := HBX7.out.cell 2
            simp at k0 k1 k2
            go_wp2_with fail
            refine (HSN.out _ HFR7.out).mono ?_
            rintro e w8 ⟨rfl, hb8⟩
            have HPC8 := hide (HPC7.out.call hb8)
            have HUB8 := hide (unAt_below hb8 hBl7 HUB7.out)
            have HBX8 := hide (HBX7.out.call hb8)
            have HFR8 := hide (HFR7.out.call hb8)
            have hBl8 : B < w8.heap.size := Nat.lt_of_lt_of_le hBl7 hb8.size
            clear hb8 k0 k1 k2 HFR7 HPC7 HUB7 HBX7 hBl7
            have hplen : j < (pcL c lv s).length := by rw [pcL_len, HL.out]; exact hlt
            have hdlen : j < (dysL c lv s).length := by rw [dysL_len, HL.out]; exact hlt
            obtain ⟨k0, k1, k2, k3, k4⟩ := HPC8.out.pcs.cell (fill_at pcZ (pcL c lv s) j hplen)
            have n0 := HPC8.out.pcs.frozen (j * 5)
            have n1 := HPC8.out.pcs.frozen (j * 5 + 1)
            have n2 := HPC8.out.pcs.frozen (j * 5 + 2)
            have n3 := HPC8.out.pcs.frozen (j * 5 + 3)
            have n4 := HPC8.out.pcs.frozen (j * 5 + 4)
            simp only at k0 k1 k2 k3 k4
            obtain ⟨u0, u1, u2⟩ := HUB8.out
            obtain ⟨p0, p1⟩ := spAt_below HPC8.out.bel (by omega) HS1.out
            have hg1l := HPC8.out.pcs.lt
            have hg2l := HPC8.out.dys.lt
            have hszB : w.heap.size + 1 < w8.heap.size := by have := HPC8.out.bel.size; omega
            obtain ⟨X, hX⟩ : ∃ X, (if s.a < t.a then t.a else s.a) = X := ⟨_, rfl⟩
            obtain ⟨Y, hY⟩ : ∃ Y, (if t.b < s.b then t.b else s.b) = Y := ⟨_, rfl⟩
            have hXY : -100000000 ≤ X ∧ X ≤ 100000000 ∧ -100000000 ≤ Y ∧ Y ≤ 100000000 := by rw [← hX, ← hY]; refine ⟨?_, ?_, ?_, ?_⟩ <;> split <;> omega
            have HXM := hide (show X = max s.a t.a ∧ Y = min s.b t.b by rw [← hX, ← hY]; constructor <;> split <;> omega)
            have hg1B : g1 ≠ B := by have := HPC8.out.ord; omega
            have hg1s : w.heap.size + 1 ≠ g1 := by have := HPC8.out.ord; omega
            clear hplen hdlen
            have hpx : (pcL c lv s)[j]? = some (u, ⟨X, Y⟩) := by
              rw [pcL, List.getElem?_map, HX.out]
              simp only [Option.map_some, pieceV, HTT.out, HXM.out.1, HXM.out.2]
            have hdx : (dysL c lv s)[j]? = some (Y - X + 1) := by
              rw [dysL_get HX.out, HTT.out, HXM.out.1, HXM.out.2]; rfl
            have HW9 := hide (show PcSt c (fillL pcZ (pcL c lv s) (j + 1)) (fillL 0 (dysL c lv s) j) g1 g2 F w1.heap.size w1 ((pcPut w8 g1 j (u, ⟨X, Y⟩)).alloc (.cells #[.int .i64 t.a, .int .i64 t.b] 35)) from by
              have h := HPC8.out.putP j (u, ⟨X, Y⟩) (by rw [fill_len _ _ _ (by rw [pcL_len, HL.out]; omega), pcL_len, HL.out]; exact hlt)
              rw [fill_set _ _ _ _ hpx] at h
              exact h.call ((Below.refl _ _).alloc (Nat.le_refl _) _))
            have HF9 := hide (show FrF c u.yr F ((pcPut w8 g1 j (u, ⟨X, Y⟩)).alloc (.cells #[.int .i64 t.a, .int .i64 t.b] 35)) from by
              have h : FrF c u.yr F w8 := ⟨h1, h2, cp, HBX8.out, HFR8.out, HCP.out.1, HCP.out.2.1, HCP.out.2.2⟩
              have ho := HPC8.out.ord
              exact (h.same (by rw [pcPut_size]; exact Nat.le_refl _) (fun k hk => pcPut_far (by omega))).call ((Below.refl _ _).alloc (Nat.le_refl _) _))
            unfold pcPut at HW9 HF9
            simp only at HW9 HF9
            have HXD := hide (And.intro hpx hdx)
            clear hpx hdx HPC8 HUB8 HBX8 HFR8
            go_upto_region 16 with (fail)
            clear k0 k1 k2 k3 k4 n0 n1 n2 n3 n4 u0 u1 u2 p0 p1 hX hY
            generalize ((((((w8.setCell ⟨g1, j * 5, none⟩ (.int .i64 u.lv)).setCell ⟨g1, j * 5 + 1, none⟩ (.int .i64 u.yr)).setCell ⟨g1, j * 5 + 2, none⟩ (.int .i64 u.ix)).setCell ⟨g1, j * 5 + 3, none⟩ (.int .i64 X)).setCell ⟨g1, j * 5 + 4, none⟩ (.int .i64 Y)).alloc (.cells #[.int .i64 t.a, .int .i64 t.b] 35)) = w9 at HW9 HF9 ⊢
            have hfx : (fillL pcZ (pcL c lv s) (j + 1))[j]? = some (u, ⟨X, Y⟩) := by
              have h1 : j < (pcL c lv s).length := by rw [pcL_len, HL.out]; exact hlt
              unfold fillL
              rw [List.getElem?_append_left (by rw [List.length_take]; omega), List.getElem?_take, if_pos (by omega)]
              exact HXD.out.1
            obtain ⟨k0, k1, k2, k3, k4⟩ := HW9.out.pcs.cell hfx
            simp only at k0 k1 k2 k3 k4
            have HPD := hide (fun w => pdays_any u ⟨X, Y⟩ w hXY)
            simp only at HPD
            clear hfx
            go_wp2_with fail
            refine (HPD.out _).mono ?_
            rintro e w10 ⟨rfl, hb10⟩
            have HW10 := hide (HW9.out.call hb10)
            have HF10 := hide (HF9.out.call hb10)
            have hdlen : j < (dysL c lv s).length := by rw [dysL_len, HL.out]; exact hlt
            have d0 := HW10.out.dys.cell (fill_at 0 (dysL c lv s) j hdlen)
            have d1 := HW10.out.dys.frozen j
            have HNX := hide (show PcSt c (fillL pcZ (pcL c lv s) (j + 1)) (fillL 0 (dysL c lv s) (j + 1)) g1 g2 F w1.heap.size w1 (w10.setCell ⟨g2, j, none⟩ (.int .i64 (Y - X + 1))) from by
              have h := HW10.out.putD j (Y - X + 1)
              rwa [fill_set _ _ _ _ HXD.out.2] at h)
            have HFX := hide (show FrF c u.yr F (w10.setCell ⟨g2, j, none⟩ (.int .i64 (Y - X + 1))) from by
              have ho := HW10.out.ord
              exact HF10.out.same (by simp) (fun k hk => Below.heap_setCell _ _ _ _ (by show k ≠ g2; omega)))
            clear hb10 k0 k1 k2 k3 k4 hdlen HW10 HF10 HW9 HF9
            go_wp2_with fail
            go_roundw
            case rel => exact ⟨j + 1, by go_num, by omega, HNX.out, hide (fun v h1 h2 => by
              rw [show j + 1 - 1 = j by omega, HX.out] at h2
              cases h2
              exact HFX.out)⟩
            case measure => simp [intOf]; omega
      · obtain rfl : j = L := by omega
        have HFI := hide (show PcSt c (pcL c lv s) (dysL c lv s) g1 g2 F w1.heap.size w1 wr from by
          have h := HS.out
          have e1 := fill_full pcZ (pcL c lv s)
          have e2 := fill_full 0 (dysL c lv s)
          rw [pcL_len, HL.out] at e1
          rw [dysL_len, HL.out] at e2
          rwa [e1, e2] at h)
        go_wp2
        all_goals first
          | (exfalso; omega)
          | exact bodyPost_ret (v := .tuple #[.slice (some ⟨g1, 0, none⟩) j j, .slice (some ⟨g2, 0, none⟩) j j, .int .i64 0]) (by simp [results, Tryz.results56, go_sem]) rfl ⟨⟨g1, g2, rfl, HFI.out.pcs, HFI.out.dys, by have := HFI.out.ord; omega, by have := HFI.out.ord; omega, HFI.out.ne⟩, HB1.out.trans (HFI.out.bel.mono (by omega))⟩
end Go.Proofs.YtamnccechaooaaaGreat
