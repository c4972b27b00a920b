/- Package share: an amount cut. -/
import Derived.Test.YtamnccechaooaaaGreatShareA
import Derived.Test.YtamnccechaooaaaGreatShareQ
import Derived.Test.YtamnccechaooaaaGreatSortI
namespace Go.Proofs.YtamnccechaooaaaGreat
open Go.RowKit Go.Sort
set_option linter.unusedSimpArgs false
set_option linter.unusedVariables false

theorem part_info : (Tryz.prog.info? 158).map (fun i => (i.zero, i.size, i.bytes)) = some (some (.agg #[.int .i64 0, .int .i64 0]), 2, 16) := by kernel_rfl
def zeroPt (n : Nat) : Obj := .cells ((List.replicate n (⟨0, 0⟩ : Pt)).flatMap ptC).toArray 158
theorem flat_zero (n : Nat) : (List.replicate n (⟨0, 0⟩ : Pt)).flatMap ptC = List.replicate (n * 2) (Value.int .i64 0) := by
  induction n with
  | zero => rfl
  | succ n ih =>
    rw [List.replicate_succ, List.flatMap_cons, ih, show (n + 1) * 2 = n * 2 + 1 + 1 by omega, List.replicate_succ, List.replicate_succ]
    rfl
theorem PartsAt.new (w : World) (n : Nat) : PartsAt (w.alloc (zeroPt n)) w.heap.size (List.replicate n ⟨0, 0⟩) := by
  unfold PartsAt zeroPt
  rw [heap_alloc_new]
theorem make_parts (n : Nat) (hn : n ≤ 100000) (w : World) : (Instr.makeSlice 156 (.int .i64 (n : Int)) (.int .i64 (n : Int))).run Tryz.prog w = .ok (.slice (some ⟨w.heap.size, 0, none⟩) n n) (w.alloc (zeroPt n)) := by
  obtain ⟨i0, hi, hz0, hz1, hz2⟩ := info_parts part_info
  have hr := run_make (P := Tryz.prog) w 156 158 i0 (.agg #[.int .i64 0, .int .i64 0]) Tryz.underlying156 hi hz0 .i64 .i64 n n (by omega) (by omega) (by rw [hz2]; omega) (by omega)
  rw [hr, hz1]
  have e : madeCells (Value.agg #[.int .i64 0, .int .i64 0]).cells (((n : Int)).toNat * 2) = ((List.replicate n (⟨0, 0⟩ : Pt)).flatMap ptC).toArray := by
    rw [flat_zero]
    apply Array.ext
    · simp [madeCells]
    · intro i h1 h2
      rcases Nat.mod_two_eq_zero_or_one i with h | h <;> simp [madeCells, Value.cells, h]
  rw [e]
  simp [zeroPt]
/-- What is kept while the amount is cut: two rows, what is left. -/
def SpSt (O : List Int) (D : List Pt) (left : Int) (g1 g2 B : Nat) (w0 w : World) : Prop :=
  LongsAt w g1 O ∧ PartsAt w g2 D ∧ BlkIs w B (wideCs left) 121 ∧ (g1 ≠ g2 ∧ g1 ≠ B ∧ g2 ≠ B) ∧ (w0.heap.size ≤ g1 ∧ w0.heap.size ≤ g2 ∧ w0.heap.size ≤ B) ∧ Below w0.heap.size w0 w
theorem SpSt.call {O : List Int} {D : List Pt} {left : Int} {g1 g2 B : Nat} {w0 w w' : World} (h : SpSt O D left g1 g2 B w0 w) (hb : Below w.heap.size w w') : SpSt O D left g1 g2 B w0 w' := by
  obtain ⟨h1, h2, h3, h4, h5, h7⟩ := h
  exact ⟨h1.call hb, h2.call hb, h3.call hb, h4, h5, h7.trans (hb.mono h7.size)⟩
theorem blk_far {cs : Array Value} {t : TypeId} {B : Nat} {w : World} (h : BlkIs w B cs t) {p : Addr} (hp : B ≠ p.block) (u : Value) : BlkIs (w.setCell p u) B cs t := (Below.heap_setCell w p u B hp).trans h
theorem parts_far {D : List Pt} {g : Nat} {w : World} (h : PartsAt w g D) {p : Addr} (hp : g ≠ p.block) (u : Value) : PartsAt (w.setCell p u) g D := (Below.heap_setCell w p u g hp).trans h
theorem SpSt.put {O : List Int} {D : List Pt} {left : Int} {g1 g2 B : Nat} {w0 w : World} (h : SpSt O D left g1 g2 B w0 w) (j : Nat) (q : Int) (p : Pt) (hj : j < D.length) :
    SpSt (O.set j q) (D.set j p) left g1 g2 B w0 (((w.setCell ⟨g1, j, none⟩ (.int .i64 q)).setCell ⟨g2, j * 2, none⟩ (.int .i64 p.pos)).setCell ⟨g2, j * 2 + 1, none⟩ (.int .i64 p.ab)) := by
  obtain ⟨h1, h2, h3, ⟨n1, n2, n3⟩, h5, h7⟩ := h
  refine ⟨((h1.set j q).far n1 _).far n1 _, (parts_far h2 (Ne.symm n1) _).put j p hj, blk_far (blk_far (blk_far h3 (Ne.symm n2) _) (Ne.symm n3) _) (Ne.symm n3) _, ⟨n1, n2, n3⟩, h5, ((h7.setCell h5.1 _).setCell h5.2.1 _).setCell h5.2.1 _⟩
theorem SpSt.left {O : List Int} {D : List Pt} {left : Int} {g1 g2 B : Nat} {w0 w : World} (h : SpSt O D left g1 g2 B w0 w) (m : Int) :
    SpSt O D m g1 g2 B w0 ((w.setCell ⟨B, 0, none⟩ (.int .i64 (m / 18446744073709551616))).setCell ⟨B, 1, none⟩ (.int .u64 (m % 18446744073709551616))) := by
  obtain ⟨h1, h2, h3, ⟨n1, n2, n3⟩, h5, h7⟩ := h
  refine ⟨(h1.far n2 _).far n2 _, parts_far (parts_far h2 n3 _) n3 _, ?_, ⟨n1, n2, n3⟩, h5, (h7.setCell h5.2.2 _).setCell h5.2.2 _⟩
  unfold BlkIs at h3 ⊢
  simp [World.setCell, Array.getElem?_modify, h3]

def MkPr (L : Nat) (w1 : World) (s8 s9 : Value) (wx : World) : Prop := ∃ g1 g2, s8 = .slice (some ⟨g1, 0, none⟩) L L ∧ s9 = .slice (some ⟨g2, 0, none⟩) L L ∧ g1 ≠ g2 ∧ w1.heap.size ≤ g1 ∧ w1.heap.size ≤ g2 ∧ LongsAt wx g1 (List.replicate L 0) ∧ PartsAt wx g2 (List.replicate L ⟨0, 0⟩) ∧ Below w1.heap.size w1 wx

set_option maxRecDepth 100000 in
set_option maxHeartbeats 6400000 in
theorem ssplit_any (a : Int) (v : Value) (ws : List Int) (w : World) (ha : in64 a) (hv : Nums w v ws) (hl : ∀ x ∈ ws, 0 ≤ x) (hn : ws.length ≤ 4096) (h0 : 0 < ws.sum) (hs : ws.sum < 4294967296) :
    Calls Tryz.prog 57 #[.int .i64 a, v] w fun e w' => (∃ g, e = .returned (.tuple #[.slice (some ⟨g, 0, none⟩) ws.length ws.length, .int .i64 0]) ∧ LongsAt w' g (outV a ws) ∧ w.heap.size ≤ g) ∧ Below w.heap.size w w' := by
  have hle := pos_sum hl
  have h64 : ∀ x ∈ ws, in64 x := fun x hx => by have := hl x hx; have := hle x hx; unfold in64; omega
  have hs64 : in64 ws.sum := by unfold in64; omega
  have HALL := hide (shall_yes v ws w hv hl hn h64 hs64 h0)
  obtain ⟨n, hnn⟩ : ∃ n, ws.sum = n := ⟨_, rfl⟩
  obtain ⟨L, hL⟩ : ∃ n, ws.length = n := ⟨_, rfl⟩
  have HPL := hide (fun x (hx : x ∈ ws) => And.intro (hl x hx) (show x ≤ n by rw [← hnn]; exact hle x hx))
  have HV := hide hv
  have HA := hide ha
  have HNN := hide (And.intro hnn hL)
  rw [hnn] at h0 hs HALL
  rw [hL] at hn ⊢
  have hmk1 := fun w => make_longs L (by omega) w
  have hmk2 := fun w => make_parts L (by omega) w
  obtain ⟨ad, cap, rfl, hc⟩ := hv
  rw [hL] at HALL HV ⊢
  clear hl hle h64 hs64 ha hnn hL hc
  go_enter Tryz.func57, Tryz.ntmps57
  go_wp2_with fail
  refine HALL.out.mono ?_
  rintro e w1 ⟨rfl, hb1⟩
  have HB1 := hide hb1
  have HV1 := hide (HV.out.call hb1)
  have hz1 := hb1.size
  clear hb1
  go_upto_region 4 with (fail)
  go_cut [8, 9] (fun s8 s9 wx => MkPr L w1 s8 s9 wx)
  case first =>
    go_region
    all_goals
      go_wp2_with fail
      go_meet
    case rel =>
      refine ⟨w1.heap.size, w1.heap.size + 1, rfl, rfl, by omega, Nat.le_refl _, by omega, ?_, ?_, by (repeat' exact bel)⟩
      · exact (LongsAt.new w1 L).call (by (repeat' exact bel))
      · have h := PartsAt.new (w1.alloc (zeroObj64 L)) L
        rw [show (w1.alloc (zeroObj64 L)).heap.size = w1.heap.size + 1 by simp] at h
        exact h.drew
    case rel =>
      refine ⟨w1.heap.size + 1, w1.heap.size, rfl, rfl, by omega, by omega, Nat.le_refl _, ?_, ?_, by (repeat' exact bel)⟩
      · have h := LongsAt.new (w1.alloc (zeroPt L)) L
        rw [show (w1.alloc (zeroPt L)).heap.size = w1.heap.size + 1 by simp] at h
        exact h.call (by (repeat' exact bel))
      · exact ((PartsAt.new w1 L).call (by (repeat' exact bel))).drew
  case rest =>
    obtain ⟨g1, g2, rfl, rfl, hne, hg1, hg2, hL1, hP2, hb2⟩ := hcut
    have hq64 := qL_in HA.out h0 HPL.out
    have HOF := hide (fun w => wof_any a w HA.out)
    simp only [wideV] at HOF
    have HB2 := hide (HB1.out.trans (hb2.mono hz1))
    have HV2 := hide (HV1.out.call hb2)
    have hz2 := hb2.size
    have HR := hide (And.intro hL1 hP2)
    have hgs : g1 < wc.heap.size ∧ g2 < wc.heap.size := ⟨hL1.lt, hP2.lt⟩
    clear hL1 hP2 hb2
    go_wp2_with fail
    refine (HOF.out _).mono ?_
    rintro e w3 ⟨rfl, hb3⟩
    have HB3 := hide (HB2.out.trans (hb3.mono (by have := HB2.out.size; omega)))
    have hz3 := hb3.size
    have H0 := hide (show SpSt (fillL 0 (qL a n ws) 0) (fillL ⟨0, 0⟩ (ptL a n ws) 0) (a - ((qL a n ws).take 0).sum) g1 g2 w3.heap.size w (w3.alloc (.cells #[.int .i64 (a / 18446744073709551616), .int .u64 (a % 18446744073709551616)] 121)) from by
      have hbb : Below wc.heap.size wc (w3.alloc (.cells #[.int .i64 (a / 18446744073709551616), .int .u64 (a % 18446744073709551616)] 121)) := hb3.alloc hb3.size _
      have hB3 := HB3.out
      refine ⟨?_, ?_, ?_, ⟨hne, by omega, by omega⟩, ⟨by omega, by omega, by omega⟩, by (repeat' exact bel)⟩
      · rw [fill_zero, qL_len, HNN.out.2]; exact HR.out.1.call hbb
      · rw [fill_zero, ptL_len, HNN.out.2]; exact HR.out.2.call hbb
      · rw [List.take_zero, List.sum_nil, Int.sub_zero]; exact BlkIs.new _ _ _)
    clear hb3 HR HV2 HV1
    have hB0 : w.heap.size ≤ w3.heap.size := by have := HB3.out.size; omega
    go_wp2_with fail
    go_loopw [38] (fun s wr => ∃ j : Nat, s = .int .i64 j ∧ j ≤ L ∧ SpSt (fillL 0 (qL a n ws) j) (fillL ⟨0, 0⟩ (ptL a n ws) j) (a - ((qL a n ws).take j).sum) g1 g2 w3.heap.size w wr) (fun s _ => (L + 5 - intOf s).toNat)
    case atStart => exact ⟨0, rfl, Nat.zero_le _, H0.out⟩
    case round =>
      obtain ⟨j, rfl, hj, hS⟩ := hrel
      have HS := hide hS
      clear hS
      by_cases hlt : j < L
      · obtain ⟨x, hx⟩ : ∃ x, ws[j]? = some x := ⟨_, List.getElem?_eq_getElem (by rw [HNN.out.2]; exact hlt)⟩
        obtain ⟨hx0, hxn⟩ := HPL.out x (List.mem_of_getElem? hx)
        have hqx := qL_at (a := a) (n := n) hx
        have hpx := ptL_at (a := a) (n := n) hx
        obtain ⟨q, hq⟩ : ∃ q, a * x / n = q := ⟨_, rfl⟩
        obtain ⟨r, hr⟩ : ∃ q, a * x % n = q := ⟨_, rfl⟩
        have HMD := hide (fun w => wmd_any a x n w HA.out hx0 hxn h0 hs)
        rw [hq, hr] at HMD
        rw [hq] at hqx
        rw [hr] at hpx
        have hq1 : in64 q := hq64 q (List.mem_of_getElem? hqx)
        have hw1 := left_wd HA.out hq64 (by rw [HNN.out.2]; omega) j
        have hw2 := left_wd HA.out hq64 (by rw [HNN.out.2]; omega) (j + 1)
        have hst := sum_take _ j q hqx
        obtain ⟨lf, hlf⟩ : ∃ y, a - ((qL a n ws).take j).sum = y := ⟨_, rfl⟩
        have hlf2 : a - ((qL a n ws).take (j + 1)).sum = lf + -q := by omega
        rw [hlf] at hw1 HS
        rw [hlf2] at hw2
        have hnq : wideOk (-q) := by unfold in64 at hq1; unfold wideOk; omega
        have HOQ := hide (fun w => wof_any q w hq1)
        have HNQ := hide (fun w => wneg_ok q w (in_wd hq1) hnq)
        have HAD := hide (fun w => wadd_ok lf (-q) w hw1 hnq hw2)
        simp only [wideV] at HOQ HNQ HAD
        have HLF := hide hlf2
        have HQX := hide (And.intro hqx hpx)
        obtain ⟨gv, ov, rfl, hgv, a0⟩ : ∃ gv ov, ad = some ⟨gv, ov, none⟩ ∧ gv < wr.heap.size ∧ wr.cell? ⟨gv, ov + j, none⟩ = some (.int .i64 x) := by
          obtain ⟨ad', cap', e1, e2⟩ := HV.out
          cases e1
          obtain ⟨gv, ov, e3, e4, e5⟩ := e2 j x hx
          have hbS := HS.out.2.2.2.2.2
          exact ⟨gv, ov, e3, Nat.lt_of_lt_of_le e4 hbS.size, (hbS.cell (p := ⟨gv, ov + j, none⟩) e4).trans e5⟩
        have hi1 : (0 : Int) ≤ (j : Int) := by omega
        have hi3 : (j : Int) < (L : Int) := by omega
        clear hx hqx hpx hq hr hq1 hw1 hw2 hst hlf hlf2 hnq
        go_wp2_with fail
        refine (HMD.out _).mono ?_
        rintro e w4 ⟨rfl, hb4⟩
        have HS4 := hide (HS.out.call hb4)
        clear hb4 a0
        have hfl : (fillL 0 (qL a n ws) j)[j]? = some 0 := by
          have h1 : (List.take j (qL a n ws)).length = j := by rw [List.length_take, qL_len, HNN.out.2]; omega
          unfold fillL
          rw [List.getElem?_append_right (by omega), h1, Nat.sub_self, List.getElem?_replicate, if_pos (by rw [qL_len, HNN.out.2]; omega)]
        have hfp : (fillL ⟨0, 0⟩ (ptL a n ws) j)[j]? = some ⟨0, 0⟩ := by
          have h1 : (List.take j (ptL a n ws)).length = j := by rw [List.length_take, ptL_len, HNN.out.2]; omega
          unfold fillL
          rw [List.getElem?_append_right (by omega), h1, Nat.sub_self, List.getElem?_replicate, if_pos (by rw [ptL_len, HNN.out.2]; omega)]
        have c0 := HS4.out.1.cell hfl
        have f0 := HS4.out.1.frozen j
        obtain ⟨c1, c2⟩ := HS4.out.2.1.cell hfp
        have f1 := HS4.out.2.1.frozen (j * 2)
        have f2 := HS4.out.2.1.frozen (j * 2 + 1)
        have HNE := hide hne
        clear hfl hfp
        have HS5 := hide (show SpSt (fillL 0 (qL a n ws) (j + 1)) (fillL ⟨0, 0⟩ (ptL a n ws) (j + 1)) lf g1 g2 w3.heap.size w (((w4.setCell ⟨g1, j, none⟩ (.int .i64 q)).setCell ⟨g2, j * 2, none⟩ (.int .i64 (j : Int))).setCell ⟨g2, j * 2 + 1, none⟩ (.int .i64 r)) from by
          have h := HS4.out.put j q ⟨(j : Int), r⟩ (by rw [fill_len _ _ _ (by rw [ptL_len, HNN.out.2]; omega), ptL_len, HNN.out.2]; exact hlt)
          rw [fill_set _ _ _ _ HQX.out.1, fill_set _ _ _ _ HQX.out.2] at h
          exact h)
        go_wp2_with fail
        obtain ⟨W5, hW5⟩ : ∃ W5, (((w4.setCell ⟨g1, j, none⟩ (.int .i64 q)).setCell ⟨g2, j * 2, none⟩ (.int .i64 (j : Int))).setCell ⟨g2, j * 2 + 1, none⟩ (.int .i64 r)) = W5 := ⟨_, rfl⟩
        rw [hW5] at HS5 ⊢
        clear hW5 c0 c1 c2 f0 f1 f2
        refine (HOQ.out _).mono ?_
        rintro e w6 ⟨rfl, hb6⟩
        have HS6 := hide (HS5.out.call hb6)
        clear hb6
        go_wp2_with fail
        refine (HNQ.out _).mono ?_
        rintro e w7 ⟨rfl, hb7⟩
        have HS7 := hide (HS6.out.call hb7)
        clear hb7
        obtain ⟨⟨k0, k1⟩, k2, k3, k4⟩ := blk_two HS7.out.2.2.1
        go_wp2_with fail
        refine (HAD.out _).mono ?_
        rintro e w8 ⟨rfl, hb8⟩
        have HS8 := hide (HS7.out.call (hb8.mono (by simp) |> fun h => ((Below.refl _ _).alloc (Nat.le_refl _) _).trans h))
        clear hb8 k0 k1 k2 k3 k4
        obtain ⟨⟨k0, k1⟩, k2, k3, k4⟩ := blk_two HS8.out.2.2.1
        have HS9 := hide (HS8.out.left (lf + -q))
        go_wp2_with fail
        go_roundw
        case rel => exact ⟨j + 1, by go_num, by omega, by rw [HLF.out]; exact HS9.out⟩
        case measure => simp [intOf]; omega
      · obtain rfl : j = L := by omega
        obtain ⟨M, hM⟩ : ∃ M, moreV a n ws = M := ⟨_, rfl⟩
        have hMb := more_bd (a := a) h0 HNN.out.1
        rw [hM, HNN.out.2] at hMb
        have HE := hide (show SpSt (qL a n ws) (ptL a n ws) M g1 g2 w3.heap.size w wr from by
          have h := HS.out
          have e1 : fillL 0 (qL a n ws) j = qL a n ws := by have := fill_full 0 (qL a n ws); rwa [qL_len, HNN.out.2] at this
          have e2 : fillL ⟨0, 0⟩ (ptL a n ws) j = ptL a n ws := by have := fill_full (⟨0, 0⟩ : Pt) (ptL a n ws); rwa [ptL_len, HNN.out.2] at this
          have e3 : (qL a n ws).take j = qL a n ws := List.take_of_length_le (by rw [qL_len, HNN.out.2]; omega)
          rw [e1, e2, e3] at h
          unfold moreV at hM
          rw [hM] at h
          exact h)
        obtain ⟨hM0, hM1⟩ := hMb
        have hM64 : in64 M := by unfold in64; omega
        have HFI := hide (fun w => wfit_any M w (in_wd hM64))
        rw [(fit_yes hM64).1, (fit_yes hM64).2] at HFI
        simp only [wideV] at HFI
        have HMM := hide hM
        obtain ⟨m, rfl⟩ := Int.eq_ofNat_of_zero_le hM0
        obtain ⟨⟨k0, k1⟩, k2, k3, k4⟩ := blk_two HE.out.2.2.1
        clear hM64 hM hq64
        go_wp2_with fail
        refine (HFI.out _).mono ?_
        rintro e w4 ⟨rfl, hb4⟩
        have HE4 := hide (HE.out.call hb4)
        clear hb4 k0 k1 k2 k3 k4
        go_wp2_with fail
        refine (sort_any g2 j j (ptL a n ws) w4 (ptL_incr a n ws) HE4.out.2.1 (by rw [ptL_len, HNN.out.2]) (by omega)).mono ?_
        rintro e w5 ⟨rfl, hp5, ho5⟩
        have HE5 := hide (show LongsAt w5 g1 (bumpL (qL a n ws) (((srtP (ptL a n ws)).take m).take 0)) ∧ PartsAt w5 g2 (srtP (ptL a n ws)) ∧ Below w.heap.size w w5 from
          ⟨by rw [List.take_zero, bumpL_nil]; exact (ho5.block g1 HE4.out.1.lt hne).trans HE4.out.1, hp5, HE4.out.2.2.2.2.2.trans (ho5.below HE4.out.2.2.2.2.1.2.1 HE4.out.2.2.2.2.2.size)⟩)
        clear hp5 ho5
        have hmt : (moreV a n ws).toNat = m := by rw [HMM.out]; exact Int.toNat_natCast m
        have HBA := hide (fun (k : Nat) (p : Pt) (hk : ((srtP (ptL a n ws)).take (moreV a n ws).toNat)[k]? = some p) => bump_at (a := a) h0 HNN.out.1 (srtP_put (ptL_incr a n ws)) (j := k) (p := p) hk)
        rw [hmt] at HBA
        have HSL := hide (show (srtP (ptL a n ws)).length = j by rw [(srtP_perm _).length_eq, ptL_len, HNN.out.2])
        have HOV := hide (show outV a ws = bumpL (qL a n ws) ((srtP (ptL a n ws)).take m) by unfold outV outL; rw [HNN.out.1, hmt])
        clear hmt
        have HGG := hide HE4.out.2.2.2.2.1
        clear HE HE4 HS HFI HMM
        go_wp2_with fail
        go_loopw [100] (fun s wr => ∃ k : Nat, s = .int .i64 k ∧ k ≤ m ∧ LongsAt wr g1 (bumpL (qL a n ws) (((srtP (ptL a n ws)).take m).take k)) ∧ PartsAt wr g2 (srtP (ptL a n ws)) ∧ Below w.heap.size w wr) (fun s _ => (m + 5 - intOf s).toNat)
        case atStart => exact ⟨0, rfl, Nat.zero_le _, HE5.out⟩
        case round =>
          obtain ⟨k, rfl, hk, hL6, hP6, hB6⟩ := hrel
          have HE6 := hide (And.intro hL6 (And.intro hP6 hB6))
          clear hL6 hP6 hB6
          by_cases hlt : k < m
          · obtain ⟨p, hp⟩ : ∃ p, (srtP (ptL a n ws))[k]? = some p := ⟨_, List.getElem?_eq_getElem (by rw [HSL.out]; omega)⟩
            have hpT : ((srtP (ptL a n ws)).take m)[k]? = some p := by rw [List.getElem?_take, if_pos hlt]; exact hp
            obtain ⟨x, hx, hp0, hpl, hg, hr⟩ := HBA.out k p hpT
            rw [HNN.out.2] at hpl
            obtain ⟨hx0, hxn⟩ := HPL.out x (List.mem_of_getElem? hx)
            have hy := plus_in HA.out hx0 hxn h0 hr
            obtain ⟨y, hyy⟩ : ∃ y, a * x / n = y := ⟨_, rfl⟩
            rw [hyy] at hg hy
            obtain ⟨c1, c2⟩ := HE6.out.2.1.cell hp
            obtain ⟨pos, ab⟩ := p
            simp only at hp0 hpl hg c1 c2
            obtain ⟨q, rfl⟩ := Int.eq_ofNat_of_zero_le hp0
            rw [show ((q : Int)).toNat = q from rfl] at hg
            have c0 := HE6.out.1.cell hg
            have f0 := HE6.out.1.frozen q
            have HN := hide (show LongsAt ((wr.setCell ⟨g1, q, none⟩ (.int .i64 (y + 1))).alloc (.cells #[.int .i64 (q : Int), .int .i64 ab] 158)) g1 (bumpL (qL a n ws) (((srtP (ptL a n ws)).take m).take (k + 1))) from by
              have h := HE6.out.1.set q (y + 1)
              rw [set_modify _ _ _ hg] at h
              rw [List.take_add_one, hpT, Option.toList_some, bumpL_snoc]
              exact h.call ((Below.refl _ _).alloc (Nat.le_refl _) _))
            have hgl := HE6.out.1.lt
            have hgl2 := HE6.out.2.1.lt
            unfold in64 at hy
            obtain ⟨hy1, hy2⟩ := hy
            have hq1 : (0 : Int) ≤ (q : Int) := by omega
            have hk1 : (0 : Int) ≤ (k : Int) := by omega
            have hk3 : (k : Int) < (m : Int) := by omega
            have hyb : -9223372036854775808 ≤ y ∧ y ≤ 9223372036854775806 := by
              have := muldiv_bd HA.out hx0 hxn h0
              unfold in64 at this
              omega
            obtain ⟨hyb1, hyb2⟩ := hyb
            clear hp hpT hx hg hr hyy
            go_wp2_with fail
            go_roundw
            case rel => exact ⟨k + 1, by go_num, by omega, HN.out, (parts_far HE6.out.2.1 (Ne.symm hne) _).call ((Below.refl _ _).alloc (Nat.le_refl _) _), (HE6.out.2.2.setCell HGG.out.1 _).alloc (by simp; exact HE6.out.2.2.size) _⟩
            case measure => simp [intOf]; omega
          · obtain rfl : k = m := by omega
            have HF := hide (show LongsAt wr g1 (outV a ws) by
              have h := HE6.out.1
              rw [List.take_of_length_le (by rw [List.length_take]; omega)] at h
              rw [HOV.out]; exact h)
            go_wp2
            all_goals first
              | (exfalso; omega)
              | (go_ret2; exact ⟨⟨g1, rfl, HF.out, HGG.out.1⟩, HE6.out.2.2⟩)
end Go.Proofs.YtamnccechaooaaaGreat
