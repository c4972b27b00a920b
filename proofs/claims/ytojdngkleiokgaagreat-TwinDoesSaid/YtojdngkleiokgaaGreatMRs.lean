/- Contracts of the references: in which unit one lies, and which lie in it (layer 16). Contracts of the references: which units lie in one (layer 16). -/
import Derived.Test.YtojdngkleiokgaaGreatMRq
import Derived.Test.YtojdngkleiokgaaGreatMUn
import Derived.Lib.QuietBelow
namespace Go.Proofs.YtojdngkleiokgaaGreat
open Go.Sort Go.RowKit Qd
set_option linter.unusedSimpArgs false
set_option linter.unusedVariables false

set_option maxHeartbeats 800000 in
theorem rin_any (a b x y : Int) (w : World) (r : Bool) (hr : (r = true ∧ x ≤ a ∧ b ≤ y) ∨ (r = false ∧ a < x) ∨ (r = false ∧ x ≤ a ∧ y < b)) :
    Calls Tryz.prog 139 #[.agg #[.int .i64 a, .int .i64 b], .agg #[.int .i64 x, .int .i64 y]] w fun e w' => e = .returned (.bool r) ∧ Below w.heap.size w w' := by
  rcases hr with ⟨rfl, h1, h2⟩ | ⟨rfl, h1⟩ | ⟨rfl, h1, h2⟩
  all_goals
    go_enter Tryz.func139, Tryz.ntmps139
    go_wp2
    all_goals first
      | (exfalso; omega)
      | (go_ret; exact ⟨ret_bool (by first | rfl | (simp; done) | (simp; omega)), by (repeat' exact bel)⟩)

/-- Where the unit lies among the days of a coarser level. -/
theorem up_in {c : Cal} {u : Un} {lv : Int} (h : unitE c u = 0) (h1 : 1 ≤ lv) (h2 : lv ≤ u.lv) :
    ixN c u.yr lv (cutA c u) < cntL c u.yr lv ∧ (∀ i, i < ixN c u.yr lv (cutA c u) → dayW c u.yr (cutN c u.yr lv (i + 1)) - 1 < spanT c u ∧ dayW c u.yr (cutN c u.yr lv i) ≤ spanF c u) ∧
    dayW c u.yr (cutN c u.yr lv (ixN c u.yr lv (cutA c u))) ≤ spanF c u ∧ spanT c u ≤ dayW c u.yr (cutN c u.yr lv (ixN c u.yr lv (cutA c u) + 1)) - 1 := by
  obtain ⟨hf, hl1, hl5, hA, hx, hi⟩ := un_lv h
  obtain ⟨e1, e2, e3⟩ := up_ok c u.yr hA lv u.lv h1 h2 hl5 (uI u) hi
  obtain ⟨c1, c2⟩ := cutAB h
  have h5 : lv ≤ 5 := by omega
  have e2' : cutN c u.yr lv (ixN c u.yr lv (cutA c u)) ≤ cutA c u := e2
  have e3' : cutB c u ≤ cutN c u.yr lv (ixN c u.yr lv (cutA c u) + 1) := e3
  have e1' : ixN c u.yr lv (cutA c u) < cntL c u.yr lv := e1
  have hend := cut_le_nWk c u.yr hA lv h1 h5 (ixN c u.yr lv (cutA c u) + 1) (by omega)
  refine ⟨e1', fun i hi2 => ?_, ?_, ?_⟩
  · have m1 := cut_mono c u.yr hA lv h1 h5 (show i + 1 ≤ ixN c u.yr lv (cutA c u) by omega) (by omega)
    have m2 := dayW_le c u.yr hA (show cutN c u.yr lv (i + 1) ≤ cutA c u by omega) (by omega)
    have m3 := dayW_lt c u.yr hA c1 c2
    have m4 := cut_mono c u.yr hA lv h1 h5 (show i ≤ ixN c u.yr lv (cutA c u) by omega) (by omega)
    have m5 := dayW_le c u.yr hA (show cutN c u.yr lv i ≤ cutA c u by omega) (by omega)
    unfold spanT spanF
    omega
  · exact dayW_le c u.yr hA e2' (by omega)
  · have := dayW_le c u.yr hA e3' hend
    unfold spanT
    omega
/-- Which of a finer level lie in the unit. -/
theorem down_in {c : Cal} {u : Un} {lv : Int} (h : unitE c u = 0) (h2 : u.lv ≤ lv) (h5 : lv ≤ 5) :
    ixN c u.yr lv (cutA c u) ≤ ixN c u.yr lv (cutB c u - 1) ∧ ixN c u.yr lv (cutB c u - 1) < cntL c u.yr lv ∧
    (∀ i, i < ixN c u.yr lv (cutA c u) → dayW c u.yr (cutN c u.yr lv i) < spanF c u) ∧
    (∀ i, ixN c u.yr lv (cutA c u) ≤ i → i < cntL c u.yr lv → spanF c u ≤ dayW c u.yr (cutN c u.yr lv i)) ∧
    (∀ i, i ≤ ixN c u.yr lv (cutB c u - 1) → dayW c u.yr (cutN c u.yr lv (i + 1)) - 1 ≤ spanT c u) ∧
    (∀ i, ixN c u.yr lv (cutB c u - 1) < i → i < cntL c u.yr lv → spanT c u < dayW c u.yr (cutN c u.yr lv (i + 1)) - 1) := by
  obtain ⟨hf, hl1, hl5, hA, hx, hi⟩ := un_lv h
  have h1 : 1 ≤ lv := by omega
  obtain ⟨c1, c2⟩ := cutAB h
  obtain ⟨a, ha1, ha2⟩ := cut_finer c u.yr hA u.lv lv hl1 h2 h5 (uI u) (by omega)
  obtain ⟨b, hb1, hb2⟩ := cut_finer c u.yr hA u.lv lv hl1 h2 h5 (uI u + 1) (by omega)
  have ha2' : cutA c u = cutN c u.yr lv a := ha2
  have hb2' : cutB c u = cutN c u.yr lv b := hb2
  have hab : a < b := by
    rcases Nat.lt_or_ge a b with hh | hh
    · exact hh
    · have := cut_mono c u.yr hA lv h1 h5 hh ha1
      omega
  have haN : a < cntL c u.yr lv := by omega
  have l1 := cut_lt c u.yr hA lv h1 h5 a haN
  have eA : ixN c u.yr lv (cutA c u) = a := ix_eq c u.yr hA lv h1 h5 _ a haN (by omega) (by omega)
  have l2 := cut_lt c u.yr hA lv h1 h5 (b - 1) (by omega)
  rw [show b - 1 + 1 = b by omega] at l2
  have eB : ixN c u.yr lv (cutB c u - 1) = b - 1 := ix_eq c u.yr hA lv h1 h5 _ (b - 1) (by omega) (by omega) (by rw [show b - 1 + 1 = b by omega]; omega)
  have W := fun i (hi : i ≤ cntL c u.yr lv) => cut_le_nWk c u.yr hA lv h1 h5 i hi
  rw [eA, eB]
  refine ⟨by omega, by omega, fun i hi1 => ?_, fun i hi1 hi2 => ?_, fun i hi1 => ?_, fun i hi1 hi2 => ?_⟩
  · have m := cut_slt c u.yr hA lv h1 h5 hi1 (by omega)
    have := dayW_lt c u.yr hA (show cutN c u.yr lv i < cutA c u by omega) (by omega)
    unfold spanF
    omega
  · have m := cut_mono c u.yr hA lv h1 h5 hi1 (by omega)
    have := dayW_le c u.yr hA (show cutA c u ≤ cutN c u.yr lv i by omega) (W i (by omega))
    unfold spanF
    omega
  · have m := cut_mono c u.yr hA lv h1 h5 (show i + 1 ≤ b by omega) hb1
    have := dayW_le c u.yr hA (show cutN c u.yr lv (i + 1) ≤ cutB c u by omega) (by omega)
    unfold spanT
    omega
  · have m := cut_slt c u.yr hA lv h1 h5 (show b < i + 1 by omega) (by omega)
    have := dayW_lt c u.yr hA (show cutB c u < cutN c u.yr lv (i + 1) by omega) (W (i + 1) (by omega))
    unfold spanT
    omega

set_option maxRecDepth 100000 in
set_option maxHeartbeats 1600000 in
theorem r16up_bad (c : Cal) (u : Un) (lv : Int) (w : World) (hn : c.name.size ≤ 1000) (hE : ¬ unitE c u = 0) :
    Calls Tryz.prog 104 #[calV c, unitV u, .int .i64 lv] w fun e w' => e = .returned (.tuple #[.agg #[.int .i64 0, .int .i64 0, .int .i64 0], .int .i64 (unitE c u)]) ∧ Below w.heap.size w w' := by
  have hE' : (unitE c u != 0) = true := by simpa using hE
  have HE := hide hE
  clear hE
  simp only [calV, unitV]
  go_enter Tryz.func104, Tryz.ntmps104
  go_wp2_with fail
  refine (r16span_no c u _ hn HE.out).mono ?_
  rintro e w1 ⟨rfl, hb1⟩
  have r0 : w1.cell? ⟨w.heap.size + 1 + 1, 0, none⟩ = some (.int .i64 0) := by rw [hb1.cell (p := ⟨w.heap.size + 1 + 1, 0, none⟩) (by simp; try omega)]; simp [World.cell?_alloc_at, World.cell?_alloc_past, World.frozen?_alloc_at, World.frozen?_alloc_past]
  have f0 : w1.frozen? ⟨w.heap.size + 1 + 1, 0, none⟩ = false := by rw [hb1.frozen (p := ⟨w.heap.size + 1 + 1, 0, none⟩) (by simp; try omega)]; simp [World.cell?_alloc_at, World.cell?_alloc_past, World.frozen?_alloc_at, World.frozen?_alloc_past]
  have r1 : w1.cell? ⟨w.heap.size + 1 + 1, 1, none⟩ = some (.int .i64 0) := by rw [hb1.cell (p := ⟨w.heap.size + 1 + 1, 1, none⟩) (by simp; try omega)]; simp [World.cell?_alloc_at, World.cell?_alloc_past, World.frozen?_alloc_at, World.frozen?_alloc_past]
  have f1 : w1.frozen? ⟨w.heap.size + 1 + 1, 1, none⟩ = false := by rw [hb1.frozen (p := ⟨w.heap.size + 1 + 1, 1, none⟩) (by simp; try omega)]; simp [World.cell?_alloc_at, World.cell?_alloc_past, World.frozen?_alloc_at, World.frozen?_alloc_past]
  have r2 : w1.cell? ⟨w.heap.size + 1 + 1, 2, none⟩ = some (.int .i64 0) := by rw [hb1.cell (p := ⟨w.heap.size + 1 + 1, 2, none⟩) (by simp; try omega)]; simp [World.cell?_alloc_at, World.cell?_alloc_past, World.frozen?_alloc_at, World.frozen?_alloc_past]
  have f2 : w1.frozen? ⟨w.heap.size + 1 + 1, 2, none⟩ = false := by rw [hb1.frozen (p := ⟨w.heap.size + 1 + 1, 2, none⟩) (by simp; try omega)]; simp [World.cell?_alloc_at, World.cell?_alloc_past, World.frozen?_alloc_at, World.frozen?_alloc_past]
  have hsz : w.heap.size + 1 + 1 < w1.heap.size := by have := hb1.size; simp at this; omega
  have hsz1 : w.heap.size + 1 < w1.heap.size := by omega
  have HW := hide (show Below w.heap.size w w1 by (repeat' exact bel))
  clear hb1
  go_wp2
  exact bodyPost_ret (v := .tuple #[.agg #[.int .i64 0, .int .i64 0, .int .i64 0], .int .i64 (unitE c u)]) (by simp (maxDischargeDepth := 9) [results, Tryz.results104, go_sem, r0, r1, r2, f0, f1, f2, hsz]) rfl ⟨rfl, by have hWo := HW.out; (repeat' exact bel)⟩

set_option maxRecDepth 100000 in
set_option maxHeartbeats 1600000 in
theorem r16up_arg (c : Cal) (u : Un) (lv : Int) (w : World) (hn : c.name.size ≤ 1000) (hE : unitE c u = 0) (hl : lv < 1 ∨ (1 ≤ lv ∧ u.lv < lv)) :
    Calls Tryz.prog 104 #[calV c, unitV u, .int .i64 lv] w fun e w' => e = .returned (.tuple #[.agg #[.int .i64 0, .int .i64 0, .int .i64 0], .int .i64 1]) ∧ Below w.heap.size w w' := by
  have HE := hide hE
  clear hE
  rcases hl with hl | ⟨hl1, hl⟩
  all_goals
    simp only [calV, unitV]
    go_enter Tryz.func104, Tryz.ntmps104
    go_wp2_with fail
    refine (r16span_yes c u _ hn HE.out).mono ?_
    rintro e w1 ⟨rfl, hb1⟩
    have r0 : w1.cell? ⟨w.heap.size + 1 + 1, 0, none⟩ = some (.int .i64 0) := by rw [hb1.cell (p := ⟨w.heap.size + 1 + 1, 0, none⟩) (by simp; try omega)]; simp [World.cell?_alloc_at, World.cell?_alloc_past, World.frozen?_alloc_at, World.frozen?_alloc_past]
    have f0 : w1.frozen? ⟨w.heap.size + 1 + 1, 0, none⟩ = false := by rw [hb1.frozen (p := ⟨w.heap.size + 1 + 1, 0, none⟩) (by simp; try omega)]; simp [World.cell?_alloc_at, World.cell?_alloc_past, World.frozen?_alloc_at, World.frozen?_alloc_past]
    have r1 : w1.cell? ⟨w.heap.size + 1 + 1, 1, none⟩ = some (.int .i64 0) := by rw [hb1.cell (p := ⟨w.heap.size + 1 + 1, 1, none⟩) (by simp; try omega)]; simp [World.cell?_alloc_at, World.cell?_alloc_past, World.frozen?_alloc_at, World.frozen?_alloc_past]
    have f1 : w1.frozen? ⟨w.heap.size + 1 + 1, 1, none⟩ = false := by rw [hb1.frozen (p := ⟨w.heap.size + 1 + 1, 1, none⟩) (by simp; try omega)]; simp [World.cell?_alloc_at, World.cell?_alloc_past, World.frozen?_alloc_at, World.frozen?_alloc_past]
    have r2 : w1.cell? ⟨w.heap.size + 1 + 1, 2, none⟩ = some (.int .i64 0) := by rw [hb1.cell (p := ⟨w.heap.size + 1 + 1, 2, none⟩) (by simp; try omega)]; simp [World.cell?_alloc_at, World.cell?_alloc_past, World.frozen?_alloc_at, World.frozen?_alloc_past]
    have f2 : w1.frozen? ⟨w.heap.size + 1 + 1, 2, none⟩ = false := by rw [hb1.frozen (p := ⟨w.heap.size + 1 + 1, 2, none⟩) (by simp; try omega)]; simp [World.cell?_alloc_at, World.cell?_alloc_past, World.frozen?_alloc_at, World.frozen?_alloc_past]
    have u0 : w1.cell? ⟨w.heap.size + 1, 0, none⟩ = some (.int .i64 u.lv) := by rw [hb1.cell (p := ⟨w.heap.size + 1, 0, none⟩) (by simp; try omega)]; simp [World.cell?_alloc_at, World.cell?_alloc_past, World.frozen?_alloc_at, World.frozen?_alloc_past]
    have hsz : w.heap.size + 1 + 1 < w1.heap.size := by have := hb1.size; simp at this; omega
    have hsz1 : w.heap.size + 1 < w1.heap.size := by omega
    have HW := hide (show Below w.heap.size w w1 by (repeat' exact bel))
    clear hb1
    go_wp2
    all_goals first
      | (exfalso; omega)
      | exact bodyPost_ret (v := .tuple #[.agg #[.int .i64 0, .int .i64 0, .int .i64 0], .int .i64 1]) (by simp (maxDischargeDepth := 9) [results, Tryz.results104, go_sem, r0, r1, r2, f0, f1, f2, hsz]) rfl ⟨rfl, by have hWo := HW.out; (repeat' exact bel)⟩

set_option maxRecDepth 100000 in
set_option maxHeartbeats 3200000 in
theorem r16up_yes (c : Cal) (u : Un) (lv : Int) (w : World) (hn : c.name.size ≤ 1000) (hE : unitE c u = 0) (h1 : 1 ≤ lv) (h2 : lv ≤ u.lv) :
    Calls Tryz.prog 104 #[calV c, unitV u, .int .i64 lv] w fun e w' => e = .returned (.tuple #[.agg #[.int .i64 lv, .int .i64 u.yr, .int .i64 ((ixN c u.yr lv (cutA c u) : Int) + 1)], .int .i64 0]) ∧ Below w.heap.size w w' := by
  obtain ⟨hf, hl1, hl5, hA, hx, hi⟩ := un_lv hE
  have HF := hide (frame_lv hf lv h1 (by omega))
  obtain ⟨hK, hno, hy1, hy2⟩ := up_in hE h1 h2
  have hcb := cnt_bd c u.yr hA lv
  obtain ⟨K, hKK⟩ : ∃ K, ixN c u.yr lv (cutA c u) = K := ⟨_, rfl⟩
  obtain ⟨N, hNN⟩ : ∃ N, cntL c u.yr lv = N := ⟨_, rfl⟩
  rw [hKK] at hK hno hy1 hy2 ⊢
  rw [hNN] at hK hcb
  have HNN := hide hNN
  obtain ⟨S1, hS1⟩ : ∃ X, spanF c u = X := ⟨_, rfl⟩
  obtain ⟨S2, hS2⟩ : ∃ X, spanT c u = X := ⟨_, rfl⟩
  rw [hS1] at hno hy1
  rw [hS2] at hno hy2
  have HNO := hide hno
  have HYES := hide (And.intro hy1 hy2)
  have HS := hide (And.intro hS1 hS2)
  have HE := hide hE
  obtain ⟨hcb1, hcb2⟩ := hcb
  clear hE hf hl5 hA hx hi hno hy1 hy2 hS1 hS2 hKK hNN
  simp only [calV, unitV]
  go_enter Tryz.func104, Tryz.ntmps104
  go_wp2_with fail
  refine (r16span_yes c u _ hn HE.out).mono ?_
  rintro e w1 ⟨rfl, hb1⟩
  rw [HS.out.1, HS.out.2]
  have hz1 : w.heap.size + 1 + 1 < w1.heap.size := by have := hb1.size; simp at this; omega
  have hz1' : w.heap.size + 1 < w1.heap.size := by omega
  have hz1'' : w.heap.size < w1.heap.size := by omega
  have HB1 := hide (show Below w.heap.size w w1 by (repeat' exact bel))
  have HQ1 := hide (calAt_below (B := w.heap.size) (c := c) hb1 (by simp; omega) (calAt_alloc (calAt_alloc (calAt_new w c) (by simp) _) (by simp; omega) _))
  have HU1 := hide (unAt_below (B := w.heap.size + 1) (u := u) hb1 (by simp) (unAt_alloc (unAt_new w c u) (by simp) _))
  have HR1 := hide (show BlkIs w1 (w.heap.size + 1 + 1) #[.int .i64 0, .int .i64 0, .int .i64 0] 38 from BlkIs.below (by simpa using BlkIs.new ((w.alloc (calObj c)).alloc (unObj u)) #[.int .i64 0, .int .i64 0, .int .i64 0] 38) hb1 (by simp))
  obtain ⟨q0, q1, q2, q3, q4, q5, q6, q7, q8, q9, q10, q11, q12, q13⟩ := HQ1.out
  obtain ⟨u0, u1, u2⟩ := HU1.out
  clear hb1
  go_wp2_with fail
  all_goals first
    | (exfalso; omega)
    | skip
  refine (r16spans_yes c lv u.yr _ hn HF.out).mono ?_
  rintro e w2 ⟨g, cap, rfl, hg, hcap, hsp, hb2⟩
  rw [HNN.out] at hcap ⊢
  clear q0 q1 q2 q3 q4 q5 q6 q7 q8 q9 q10 q11 q12 q13
  clear u0 u1 u2
  have hz2 : w1.heap.size < w2.heap.size := by have := hb2.size; simp at this; omega
  have HB2 := hide (show Below w.heap.size w w2 by have hp := HB1.out; refine Below.trans ?_ (hb2.mono (by simp; omega)); (repeat' exact bel))
  have HU2 := hide (unAt_below (B := w.heap.size + 1) (u := u) hb2 (by simp; omega) (unAt_alloc HU1.out (by omega) _))
  have HR2 := hide ((HR1.out.alloc (.cells #[.int .i64 S1, .int .i64 S2] 26)).call hb2)
  have HS2 := hide (spAt_below (B := w1.heap.size) (s := ⟨S1, S2⟩) hb2 (by simp) (spAt_fresh w1 ⟨S1, S2⟩))
  have HSP2 := hide hsp
  have hg2 := hsp.1
  clear hb2 hsp
  go_wp2_with fail
  go_loopw [12] (fun s wr => ∃ j : Nat, s = .int .i64 j ∧ j ≤ K ∧ Below w2.heap.size w2 wr) (fun s _ => (100 - intOf s).toNat)
  case atStart => exact ⟨0, rfl, Nat.zero_le _, Below.refl _ _⟩
  case round =>
    obtain ⟨j, rfl, hj, hB⟩ := hrel
    have hsz := hB.size
    have HBr := hide hB
    obtain ⟨d1, d2⟩ := spans_at (HSP2.out.below hB hg2) j (by rw [HNN.out]; omega)
    obtain ⟨e1, e2⟩ := spAt_below hB hz2 HS2.out
    simp only at e1 e2
    have HNOj := hide (HNO.out j)
    have hyes := HYES.out
    obtain ⟨X1, hX1⟩ : ∃ X, dayW c u.yr (cutN c u.yr lv j) = X := ⟨_, rfl⟩
    obtain ⟨X2, hX2⟩ : ∃ X, dayW c u.yr (cutN c u.yr lv (j + 1)) - 1 = X := ⟨_, rfl⟩
    rw [hX1] at d1 HNOj
    rw [hX2] at d2 HNOj
    have hgr : g < wr.heap.size := by omega
    have hwr : w1.heap.size < wr.heap.size := by omega
    have k1 := cell_regrown d1
    have k2 := cell_regrown d2
    have k3 := cell_regrown e1
    have k4 := cell_regrown e2
    have hi3 : (0 : Int) ≤ (j : Int) := by omega
    have hi4 : (j : Int) < (N : Int) := by omega
    clear hB d1 d2 e1 e2
    by_cases hlt : j < K
    · have hno := HNOj.out hlt
      have cI := fun dd os => Calls.regrown_of (d := dd) (os := os) (w := wr) (rin_any S1 S2 X1 X2 (grow (redrawn wr dd) os) false (.inr (.inr ⟨rfl, hno.2, hno.1⟩)))
      clear hX1 hX2 hyes hno
      go_wp2_with fail
      refine wp_region_quiet_below (by kernel_rfl) (by kernel_rfl) ?_
      repeat (quiet_step (exact cI _ _))
      refine wpQuiet_nil ?_
      intro _ hw'
      obtain ⟨⟨dq, osq⟩, hw2⟩ := hw'
      subst hw2
      have HBq := hide (HBr.out.trans ((below_regrown wr dq osq).mono (by omega)))
      clear k1 k2 k3 k4 cI
      go_wp2
      go_roundw
      case rel => exact ⟨j + 1, by go_num, by omega, HBq.out⟩
      case measure => simp [intOf]; omega
    · obtain rfl : j = K := by omega
      rw [hX1, hX2] at hyes
      have cI := fun dd os => Calls.regrown_of (d := dd) (os := os) (w := wr) (rin_any S1 S2 X1 X2 (grow (redrawn wr dd) os) true (.inl ⟨rfl, hyes.1, hyes.2⟩))
      clear hX1 hX2 hyes
      go_wp2_with fail
      refine wp_region_quiet_below (by kernel_rfl) (by kernel_rfl) ?_
      repeat (quiet_step (exact cI _ _))
      refine wpQuiet_nil ?_
      intro _ hw'
      obtain ⟨⟨dq, osq⟩, hw2⟩ := hw'
      subst hw2
      have hBq := HBr.out.trans ((below_regrown wr dq osq).mono (by omega))
      have HBq := hide hBq
      obtain ⟨u0, u1, u2⟩ := unAt_below hBq (by omega) HU2.out
      have hR := HR2.out.below hBq (by omega)
      obtain ⟨W, hW⟩ : ∃ W, grow (redrawn wr dq) osq = W := ⟨_, rfl⟩
      rw [hW] at hR u0 u1 u2 HBq
      rw [hW]
      have r0 : W.cell? ⟨w.heap.size + 1 + 1, 0, none⟩ = some (.int .i64 0) := hR.cell 0
      have r1 : W.cell? ⟨w.heap.size + 1 + 1, 1, none⟩ = some (.int .i64 0) := hR.cell 1
      have r2 : W.cell? ⟨w.heap.size + 1 + 1, 2, none⟩ = some (.int .i64 0) := hR.cell 2
      have f0 := hR.frozen 0
      have f1 := hR.frozen 1
      have f2 := hR.frozen 2
      have hWs : w2.heap.size ≤ W.heap.size := HBq.out.size
      have hWz : w.heap.size + 1 + 1 < W.heap.size := by omega
      have HWB := hide (HB2.out.trans (HBq.out.mono (by omega)))
      clear k1 k2 k3 k4 cI hBq hR hW
      go_wp2
      exact bodyPost_ret (v := .tuple #[.agg #[.int .i64 lv, .int .i64 u.yr, .int .i64 ((j : Int) + 1)], .int .i64 0]) (by simp (maxDischargeDepth := 9) [results, Tryz.results104, go_sem, r0, r1, r2, f0, f1, f2, hWz]) rfl ⟨rfl, by have hWo := HWB.out; (repeat' exact bel)⟩
theorem r16up_any (c : Cal) (u : Un) (lv : Int) (w : World) (hn : c.name.size ≤ 1000) :
    Calls Tryz.prog 104 #[calV c, unitV u, .int .i64 lv] w fun e w' => e = .returned (.tuple #[unitV (upV c u lv), .int .i64 (upE c u lv)]) ∧ Below w.heap.size w w' := by
  by_cases hE : unitE c u = 0
  · by_cases hl : 1 ≤ lv ∧ lv ≤ u.lv
    · have h0 : upE c u lv = 0 := by unfold upE; rw [if_pos hE, if_pos hl]
      refine (r16up_yes c u lv w hn hE hl.1 hl.2).mono ?_
      rintro e w1 ⟨rfl, hb⟩
      exact ⟨by rw [upV, if_pos h0, h0], hb⟩
    · have h0 : upE c u lv = 1 := by unfold upE; rw [if_pos hE, if_neg hl]
      refine (r16up_arg c u lv w hn hE (by omega)).mono ?_
      rintro e w1 ⟨rfl, hb⟩
      exact ⟨by rw [upV, if_neg (by omega), h0], hb⟩
  · have h0 : upE c u lv = unitE c u := by unfold upE; rw [if_neg hE]
    refine (r16up_bad c u lv w hn hE).mono ?_
    rintro e w1 ⟨rfl, hb⟩
    exact ⟨by rw [upV, if_neg (by omega), h0], hb⟩

theorem rres_down {tmps : Array Value} {W : World} {B6 B7 : Nat} {a0 a1 a2 b0 b1 b2 e : Int} (h6 : tmps[6]? = some (.pointer (some ⟨B6, 0, none⟩))) (h7 : tmps[7]? = some (.pointer (some ⟨B7, 0, none⟩))) (h8 : tmps[8]? = some (.int .i64 e))
    (g6 : BlkIs W B6 #[.int .i64 a0, .int .i64 a1, .int .i64 a2] 38) (g7 : BlkIs W B7 #[.int .i64 b0, .int .i64 b1, .int .i64 b2] 38) :
    (results Tryz.f105 tmps).run Tryz.prog W = .ok (.tuple #[.agg #[.int .i64 a0, .int .i64 a1, .int .i64 a2], .agg #[.int .i64 b0, .int .i64 b1, .int .i64 b2], .int .i64 e]) W := by
  have c0 := g6.cell 0
  have c1 := g6.cell 1
  have c2 := g6.cell 2
  have d0 := g7.cell 0
  have d1 := g7.cell 1
  have d2 := g7.cell 2
  simp at c0 c1 c2 d0 d1 d2
  simp [results, Tryz.results105, go_sem, h6, h7, h8, c0, c1, c2, d0, d1, d2]
set_option maxRecDepth 100000 in
set_option maxHeartbeats 1600000 in
theorem r16down_bad (c : Cal) (u : Un) (lv : Int) (w : World) (hn : c.name.size ≤ 1000) (hE : ¬ unitE c u = 0) :
    Calls Tryz.prog 105 #[calV c, unitV u, .int .i64 lv] w fun e w' => e = .returned (.tuple #[.agg #[.int .i64 0, .int .i64 0, .int .i64 0], .agg #[.int .i64 0, .int .i64 0, .int .i64 0], .int .i64 (unitE c u)]) ∧ Below w.heap.size w w' := by
  have hE' : (unitE c u != 0) = true := by simpa using hE
  have HE := hide hE
  clear hE
  simp only [calV, unitV]
  go_enter Tryz.func105, Tryz.ntmps105
  go_wp2_with fail
  refine (r16span_no c u _ hn HE.out).mono ?_
  rintro e w1 ⟨rfl, hb1⟩
  have hsz3 : w.heap.size + 1 + 1 + 1 < w1.heap.size := by have := hb1.size; simp at this; omega
  have hsz1 : w.heap.size + 1 < w1.heap.size := by omega
  have HW := hide (show Below w.heap.size w w1 by (repeat' exact bel))
  have G6 : UnBx w1 (w.heap.size + 1 + 1) := UnBx.below (UnBx.alloc (by simpa using UnBx.new ((w.alloc (calObj c)).alloc (.cells #[.int .i64 u.lv, .int .i64 u.yr, .int .i64 u.ix] 38)) (.int .i64 0) (.int .i64 0) (.int .i64 0)) _) hb1 (by simp)
  have G7 : UnBx w1 (w.heap.size + 1 + 1 + 1) := UnBx.below (by simpa using UnBx.new (((w.alloc (calObj c)).alloc (.cells #[.int .i64 u.lv, .int .i64 u.yr, .int .i64 u.ix] 38)).alloc (.cells #[.int .i64 0, .int .i64 0, .int .i64 0] 38)) (.int .i64 0) (.int .i64 0) (.int .i64 0)) hb1 (by simp)
  have G6z : BlkIs w1 (w.heap.size + 1 + 1) #[.int .i64 0, .int .i64 0, .int .i64 0] 38 := BlkIs.below (BlkIs.alloc (by simpa using BlkIs.new ((w.alloc (calObj c)).alloc (.cells #[.int .i64 u.lv, .int .i64 u.yr, .int .i64 u.ix] 38)) #[.int .i64 0, .int .i64 0, .int .i64 0] 38) _) hb1 (by simp)
  have G7z : BlkIs w1 (w.heap.size + 1 + 1 + 1) #[.int .i64 0, .int .i64 0, .int .i64 0] 38 := BlkIs.below (by simpa using BlkIs.new (((w.alloc (calObj c)).alloc (.cells #[.int .i64 u.lv, .int .i64 u.yr, .int .i64 u.ix] 38)).alloc (.cells #[.int .i64 0, .int .i64 0, .int .i64 0] 38)) #[.int .i64 0, .int .i64 0, .int .i64 0] 38) hb1 (by simp)
  have hk6 : w.heap.size ≤ w.heap.size + 1 + 1 := by omega
  have hk7 : w.heap.size ≤ w.heap.size + 1 + 1 + 1 := by omega
  have hne : w.heap.size + 1 + 1 ≠ w.heap.size + 1 + 1 + 1 := by omega
  have hne' : w.heap.size + 1 + 1 + 1 ≠ w.heap.size + 1 + 1 := by omega
  have hlt7 : w.heap.size + 1 + 1 + 1 < w1.heap.size := by omega
  have hlt6 : w.heap.size + 1 + 1 < w1.heap.size := by omega
  clear hsz3
  clear hb1
  generalize w.heap.size + 1 + 1 + 1 = B7 at *
  generalize w.heap.size + 1 + 1 = B6 at *
  go_wp2_with (first
    | (refine wpList_store_row rfl _ _ _ rfl B6 #[.int .i64 0, .int .i64 0, .int .i64 0] rfl rfl _ _ (G6z.alloc _) (by kernel_rfl) rfl (by simp [Value.oneCell']) ?_)
    | (refine wpList_store_row rfl _ _ _ rfl B7 #[.int .i64 0, .int .i64 0, .int .i64 0] rfl rfl _ _ ((G7z.alloc _).rowOther hne' _) (by kernel_rfl) rfl (by simp [Value.oneCell']) ?_))
  all_goals first
    | (exfalso; omega)
    | exact bodyPost_ret (v := .tuple #[.agg #[.int .i64 0, .int .i64 0, .int .i64 0], .agg #[.int .i64 0, .int .i64 0, .int .i64 0], .int .i64 (unitE c u)]) (by exact rres_down rfl rfl rfl ((BlkIs.row (G6.alloc _) _).rowOther hne _) (BlkIs.row ((G7.alloc _).rowOther hne' _) _)) rfl ⟨rfl, below_setRow (below_setRow (HW.out.alloc (by omega) _) hk6 _) hk7 _⟩

set_option maxRecDepth 100000 in
set_option maxHeartbeats 1600000 in
theorem r16down_arg (c : Cal) (u : Un) (lv : Int) (w : World) (hn : c.name.size ≤ 1000) (hE : unitE c u = 0) (hl : lv < u.lv ∨ (u.lv ≤ lv ∧ 5 < lv)) :
    Calls Tryz.prog 105 #[calV c, unitV u, .int .i64 lv] w fun e w' => e = .returned (.tuple #[.agg #[.int .i64 0, .int .i64 0, .int .i64 0], .agg #[.int .i64 0, .int .i64 0, .int .i64 0], .int .i64 1]) ∧ Below w.heap.size w w' := by
  have HE := hide hE
  clear hE
  rcases hl with hl | ⟨hl1, hl⟩
  all_goals
    simp only [calV, unitV]
    go_enter Tryz.func105, Tryz.ntmps105
    go_wp2_with fail
    refine (r16span_yes c u _ hn HE.out).mono ?_
    rintro e w1 ⟨rfl, hb1⟩
    have u0 : w1.cell? ⟨w.heap.size + 1, 0, none⟩ = some (.int .i64 u.lv) := by rw [hb1.cell (p := ⟨w.heap.size + 1, 0, none⟩) (by simp; try omega)]; simp [World.cell?_alloc_at, World.cell?_alloc_past, World.frozen?_alloc_at, World.frozen?_alloc_past]
    have hsz3 : w.heap.size + 1 + 1 + 1 < w1.heap.size := by have := hb1.size; simp at this; omega
    have hsz1 : w.heap.size + 1 < w1.heap.size := by omega
    have HW := hide (show Below w.heap.size w w1 by (repeat' exact bel))
    have G6 : UnBx w1 (w.heap.size + 1 + 1) := UnBx.below (UnBx.alloc (by simpa using UnBx.new ((w.alloc (calObj c)).alloc (.cells #[.int .i64 u.lv, .int .i64 u.yr, .int .i64 u.ix] 38)) (.int .i64 0) (.int .i64 0) (.int .i64 0)) _) hb1 (by simp)
    have G7 : UnBx w1 (w.heap.size + 1 + 1 + 1) := UnBx.below (by simpa using UnBx.new (((w.alloc (calObj c)).alloc (.cells #[.int .i64 u.lv, .int .i64 u.yr, .int .i64 u.ix] 38)).alloc (.cells #[.int .i64 0, .int .i64 0, .int .i64 0] 38)) (.int .i64 0) (.int .i64 0) (.int .i64 0)) hb1 (by simp)
    have G6z : BlkIs w1 (w.heap.size + 1 + 1) #[.int .i64 0, .int .i64 0, .int .i64 0] 38 := BlkIs.below (BlkIs.alloc (by simpa using BlkIs.new ((w.alloc (calObj c)).alloc (.cells #[.int .i64 u.lv, .int .i64 u.yr, .int .i64 u.ix] 38)) #[.int .i64 0, .int .i64 0, .int .i64 0] 38) _) hb1 (by simp)
    have G7z : BlkIs w1 (w.heap.size + 1 + 1 + 1) #[.int .i64 0, .int .i64 0, .int .i64 0] 38 := BlkIs.below (by simpa using BlkIs.new (((w.alloc (calObj c)).alloc (.cells #[.int .i64 u.lv, .int .i64 u.yr, .int .i64 u.ix] 38)).alloc (.cells #[.int .i64 0, .int .i64 0, .int .i64 0] 38)) #[.int .i64 0, .int .i64 0, .int .i64 0] 38) hb1 (by simp)
    have hk6 : w.heap.size ≤ w.heap.size + 1 + 1 := by omega
    have hk7 : w.heap.size ≤ w.heap.size + 1 + 1 + 1 := by omega
    have hne : w.heap.size + 1 + 1 ≠ w.heap.size + 1 + 1 + 1 := by omega
    have hne' : w.heap.size + 1 + 1 + 1 ≠ w.heap.size + 1 + 1 := by omega
    have hlt7 : w.heap.size + 1 + 1 + 1 < w1.heap.size := by omega
    have hlt6 : w.heap.size + 1 + 1 < w1.heap.size := by omega
    clear hsz3
    clear hb1
    generalize w.heap.size + 1 + 1 + 1 = B7 at *
    generalize w.heap.size + 1 + 1 = B6 at *
    go_wp2_with (first
      | (refine wpList_store_row rfl _ _ _ rfl B6 #[.int .i64 0, .int .i64 0, .int .i64 0] rfl rfl _ _ (G6z.alloc _) (by kernel_rfl) rfl (by simp [Value.oneCell']) ?_)
      | (refine wpList_store_row rfl _ _ _ rfl B7 #[.int .i64 0, .int .i64 0, .int .i64 0] rfl rfl _ _ ((G7z.alloc _).rowOther hne' _) (by kernel_rfl) rfl (by simp [Value.oneCell']) ?_))
    all_goals first
      | (exfalso; omega)
      | exact bodyPost_ret (v := .tuple #[.agg #[.int .i64 0, .int .i64 0, .int .i64 0], .agg #[.int .i64 0, .int .i64 0, .int .i64 0], .int .i64 1]) (by exact rres_down rfl rfl rfl ((BlkIs.row (G6.alloc _) _).rowOther hne _) (BlkIs.row ((G7.alloc _).rowOther hne' _) _)) rfl ⟨rfl, below_setRow (below_setRow (HW.out.alloc (by omega) _) hk6 _) hk7 _⟩

set_option maxRecDepth 100000 in
set_option maxHeartbeats 6400000 in
theorem r16down_yes (c : Cal) (u : Un) (lv : Int) (w : World) (hn : c.name.size ≤ 1000) (hE : unitE c u = 0) (h1 : u.lv ≤ lv) (h5 : lv ≤ 5) :
    Calls Tryz.prog 105 #[calV c, unitV u, .int .i64 lv] w fun e w' => e = .returned (.tuple #[.agg #[.int .i64 lv, .int .i64 u.yr, .int .i64 ((ixN c u.yr lv (cutA c u) : Int) + 1)], .agg #[.int .i64 lv, .int .i64 u.yr, .int .i64 ((ixN c u.yr lv (cutB c u - 1) : Int) + 1)], .int .i64 0]) ∧ Below w.heap.size w w' := by
  obtain ⟨hf, hl1, hl5, hA, hx, hi⟩ := un_lv hE
  have HF := hide (frame_lv hf lv (by omega) h5)
  obtain ⟨hKM, hM, d1, d2, d3, d4⟩ := down_in hE h1 h5
  have hcb := cnt_bd c u.yr hA lv
  obtain ⟨K, hKK⟩ : ∃ K, ixN c u.yr lv (cutA c u) = K := ⟨_, rfl⟩
  obtain ⟨M, hMM⟩ : ∃ K, ixN c u.yr lv (cutB c u - 1) = K := ⟨_, rfl⟩
  obtain ⟨N, hNN⟩ : ∃ N, cntL c u.yr lv = N := ⟨_, rfl⟩
  rw [hKK] at hKM d1 d2 ⊢
  rw [hMM] at hKM hM d3 d4 ⊢
  rw [hNN] at hM d2 d4 hcb
  have HNN := hide hNN
  obtain ⟨S1, hS1⟩ : ∃ X, spanF c u = X := ⟨_, rfl⟩
  obtain ⟨S2, hS2⟩ : ∃ X, spanT c u = X := ⟨_, rfl⟩
  rw [hS1] at d1 d2
  rw [hS2] at d3 d4
  have HD := hide (And.intro (And.intro d1 d2) (And.intro d3 d4))
  have HS := hide (And.intro hS1 hS2)
  have HE := hide hE
  obtain ⟨hcb1, hcb2⟩ := hcb
  clear hE hf hl5 hA hx hi d1 d2 d3 d4 hS1 hS2 hKK hNN hMM
  simp only [calV, unitV]
  go_enter Tryz.func105, Tryz.ntmps105
  go_wp2_with fail
  refine (r16span_yes c u _ hn HE.out).mono ?_
  rintro e w1 ⟨rfl, hb1⟩
  rw [HS.out.1, HS.out.2]
  have hz1 : w.heap.size + 1 + 1 + 1 < w1.heap.size := by have := hb1.size; simp at this; omega
  have hz1' : w.heap.size + 1 < w1.heap.size := by omega
  have hz1'' : w.heap.size < w1.heap.size := by omega
  have HB1 := hide (show Below w.heap.size w w1 by (repeat' exact bel))
  have HQ1 := hide (calAt_below (B := w.heap.size) (c := c) hb1 (by first | omega | (simp; done) | (simp; omega)) (calAt_alloc (calAt_alloc (calAt_alloc (calAt_new w c) (by first | omega | (simp; done) | (simp; omega)) _) (by first | omega | (simp; done) | (simp; omega)) _) (by first | omega | (simp; done) | (simp; omega)) _))
  have HU1 := hide (unAt_below (B := w.heap.size + 1) (u := u) hb1 (by first | omega | (simp; done) | (simp; omega)) (unAt_alloc (unAt_alloc (unAt_new w c u) (by first | omega | (simp; done) | (simp; omega)) _) (by first | omega | (simp; done) | (simp; omega)) _))
  have HR1 := hide (show BlkIs w1 (w.heap.size + 1 + 1) #[.int .i64 0, .int .i64 0, .int .i64 0] 38 from BlkIs.below (BlkIs.alloc (by simpa using BlkIs.new ((w.alloc (calObj c)).alloc (unObj u)) #[.int .i64 0, .int .i64 0, .int .i64 0] 38) _) hb1 (by simp))
  have HT1 := hide (show BlkIs w1 (w.heap.size + 1 + 1 + 1) #[.int .i64 0, .int .i64 0, .int .i64 0] 38 from BlkIs.below (by simpa using BlkIs.new (((w.alloc (calObj c)).alloc (unObj u)).alloc (.cells #[.int .i64 0, .int .i64 0, .int .i64 0] 38)) #[.int .i64 0, .int .i64 0, .int .i64 0] 38) hb1 (by simp))
  obtain ⟨q0, q1, q2, q3, q4, q5, q6, q7, q8, q9, q10, q11, q12, q13⟩ := HQ1.out
  obtain ⟨u0, u1, u2⟩ := HU1.out
  clear hb1
  go_wp2_with fail
  all_goals first
    | (exfalso; omega)
    | skip
  refine (r16spans_yes c lv u.yr _ hn HF.out).mono ?_
  rintro e w2 ⟨g, cap, rfl, hg, hcap, hsp, hb2⟩
  rw [HNN.out] at hcap ⊢
  clear q0 q1 q2 q3 q4 q5 q6 q7 q8 q9 q10 q11 q12 q13
  clear u0 u1 u2
  have hz2 : w1.heap.size < w2.heap.size := by have := hb2.size; simp at this; omega
  have HB2 := hide (show Below w.heap.size w w2 by have hp := HB1.out; refine Below.trans ?_ (hb2.mono (by simp; omega)); (repeat' exact bel))
  have HU2 := hide (unAt_below (B := w.heap.size + 1) (u := u) hb2 (by simp; omega) (unAt_alloc HU1.out (by omega) _))
  have HR2 := hide ((HR1.out.alloc (.cells #[.int .i64 S1, .int .i64 S2] 26)).call hb2)
  have HT2 := hide ((HT1.out.alloc (.cells #[.int .i64 S1, .int .i64 S2] 26)).call hb2)
  have HS2 := hide (spAt_below (B := w1.heap.size) (s := ⟨S1, S2⟩) hb2 (by simp) (spAt_fresh w1 ⟨S1, S2⟩))
  have HSP2 := hide hsp
  have hg2 := hsp.1
  clear hb2 hsp
  go_wp2_with fail
  go_loopw [13, 14, 48] (fun s13 s14 s48 wr => ∃ j : Nat, s48 = .int .i64 j ∧ j ≤ N ∧ ((j ≤ K ∧ s13 = .int .i64 0 ∧ s14 = .int .i64 0) ∨ (K < j ∧ j ≤ M + 1 ∧ s13 = .int .i64 ((K : Int) + 1) ∧ s14 = .int .i64 j) ∨ (M + 1 < j ∧ s13 = .int .i64 ((K : Int) + 1) ∧ s14 = .int .i64 ((M : Int) + 1))) ∧ Below w2.heap.size w2 wr) (fun _ _ s _ => (100 - intOf s).toNat)
  case atStart => exact ⟨0, rfl, Nat.zero_le _, .inl ⟨Nat.zero_le _, rfl, rfl⟩, Below.refl _ _⟩
  case round =>
    obtain ⟨j, rfl, hj, hcase, hB⟩ := hrel
    have hsz := hB.size
    have HBr := hide hB
    by_cases hlt : j < N
    · obtain ⟨d1, d2⟩ := spans_at (HSP2.out.below hB hg2) j (by rw [HNN.out]; omega)
      obtain ⟨e1, e2⟩ := spAt_below hB hz2 HS2.out
      simp only at e1 e2
      obtain ⟨⟨x1, x2⟩, ⟨x3, x4⟩⟩ := HD.out
      have y1 := x1 j
      have y2 := fun h => x2 j h hlt
      have y3 := x3 j
      have y4 := fun h => x4 j h hlt
      clear x1 x2 x3 x4
      obtain ⟨X1, hX1⟩ : ∃ X, dayW c u.yr (cutN c u.yr lv j) = X := ⟨_, rfl⟩
      obtain ⟨X2, hX2⟩ : ∃ X, dayW c u.yr (cutN c u.yr lv (j + 1)) - 1 = X := ⟨_, rfl⟩
      rw [hX1] at d1 y1 y2
      rw [hX2] at d2 y3 y4
      have hgr : g < wr.heap.size := by omega
      have hwr : w1.heap.size < wr.heap.size := by omega
      have hi3 : (0 : Int) ≤ (j : Int) := by omega
      have hi4 : (j : Int) < (N : Int) := by omega
      have HCS := hide hcase
      clear hB hX1 hX2 hcase
      by_cases hjk : j < K
      · have hno := y1 hjk
        obtain ⟨rfl, rfl⟩ : _ ∧ _ := by
          rcases HCS.out with ⟨_, h1, h2⟩ | ⟨h1, _⟩ | ⟨h1, _⟩
          · exact ⟨h1, h2⟩
          · exact absurd h1 (by omega)
          · exact absurd h1 (by omega)
        clear HCS y1 y2 y3 y4
        go_wp2_with fail
        refine (rin_any X1 X2 S1 S2 _ false (.inr (.inl ⟨rfl, hno⟩))).mono ?_
        rintro e w3 ⟨rfl, hb3⟩
        have HB3 := hide (show Below w2.heap.size w2 w3 by have hp := HBr.out; refine Below.trans ?_ (hb3.mono (by simp; omega)); (repeat' exact bel))
        clear hb3 d1 d2 e1 e2
        go_wp2
        go_roundw
        case rel => exact ⟨j + 1, by go_num, by omega, .inl ⟨by omega, rfl, rfl⟩, HB3.out⟩
        case measure => simp [intOf]; omega
      · by_cases hjm : j ≤ M
        · have hy1 := y2 (by omega)
          have hy2 := y3 hjm
          by_cases hjK : j = K
          · subst hjK
            obtain ⟨rfl, rfl⟩ : _ ∧ _ := by
              rcases HCS.out with ⟨_, h1, h2⟩ | ⟨h1, _⟩ | ⟨h1, _⟩
              · exact ⟨h1, h2⟩
              · exact absurd h1 (by omega)
              · exact absurd h1 (by omega)
            clear HCS y1 y2 y3 y4
            go_wp2_with fail
            refine (rin_any X1 X2 S1 S2 _ true (.inl ⟨rfl, hy1, hy2⟩)).mono ?_
            rintro e w3 ⟨rfl, hb3⟩
            have HB3 := hide (show Below w2.heap.size w2 w3 by have hp := HBr.out; refine Below.trans ?_ (hb3.mono (by simp; omega)); (repeat' exact bel))
            clear hb3 d1 d2 e1 e2
            go_wp2
            go_roundw
            case rel => exact ⟨j + 1, by go_num, by omega, .inr (.inl ⟨by omega, by omega, rfl, by go_num⟩), HB3.out⟩
            case measure => simp [intOf]; omega
          · obtain ⟨rfl, rfl⟩ : _ ∧ _ := by
              rcases HCS.out with ⟨h0, _⟩ | ⟨_, _, h1, h2⟩ | ⟨h1, _⟩
              · exact absurd h0 (by omega)
              · exact ⟨h1, h2⟩
              · exact absurd h1 (by omega)
            have hKp : ((K : Int) + 1 == 0) = false := by simp; omega
            clear HCS y1 y2 y3 y4
            go_wp2_with fail
            refine (rin_any X1 X2 S1 S2 _ true (.inl ⟨rfl, hy1, hy2⟩)).mono ?_
            rintro e w3 ⟨rfl, hb3⟩
            have HB3 := hide (show Below w2.heap.size w2 w3 by have hp := HBr.out; refine Below.trans ?_ (hb3.mono (by simp; omega)); (repeat' exact bel))
            clear hb3 d1 d2 e1 e2
            go_wp2
            all_goals first
              | (exfalso; omega)
              | skip
            go_roundw
            case rel => exact ⟨j + 1, by go_num, by omega, .inr (.inl ⟨by omega, by omega, rfl, by go_num⟩), HB3.out⟩
            case measure => simp [intOf]; omega
        · have hy1 := y2 (by omega)
          have hno := y4 (by omega)
          obtain ⟨hfs, hls⟩ : u13 = .int .i64 ((K : Int) + 1) ∧ u14 = .int .i64 ((M : Int) + 1) := by
            rcases HCS.out with ⟨h0, _⟩ | ⟨_, h0, h1, h2⟩ | ⟨_, h1, h2⟩
            · exact absurd h0 (by omega)
            · have : j = M + 1 := by omega
              exact ⟨h1, by rw [h2, this]; go_num⟩
            · exact ⟨h1, h2⟩
          subst hfs hls
          clear HCS y1 y2 y3 y4
          go_wp2_with fail
          refine (rin_any X1 X2 S1 S2 _ false (.inr (.inr ⟨rfl, hy1, hno⟩))).mono ?_
          rintro e w3 ⟨rfl, hb3⟩
          have HB3 := hide (show Below w2.heap.size w2 w3 by have hp := HBr.out; refine Below.trans ?_ (hb3.mono (by simp; omega)); (repeat' exact bel))
          clear hb3 d1 d2 e1 e2
          go_wp2
          go_roundw
          case rel => exact ⟨j + 1, by go_num, by omega, .inr (.inr ⟨by omega, rfl, rfl⟩), HB3.out⟩
          case measure => simp [intOf]; omega
    · obtain rfl : j = N := by omega
      obtain ⟨hfs, hls⟩ : u13 = .int .i64 ((K : Int) + 1) ∧ u14 = .int .i64 ((M : Int) + 1) := by
        rcases hcase with ⟨h0, _⟩ | ⟨_, h0, h1, h2⟩ | ⟨_, h1, h2⟩
        · exact absurd h0 (by omega)
        · have : j = M + 1 := by omega
          exact ⟨h1, by rw [h2, this]; go_num⟩
        · exact ⟨h1, h2⟩
      subst hfs hls
      obtain ⟨u0, u1, u2⟩ := unAt_below hB (by omega) HU2.out
      have hR := HR2.out.below hB (by omega)
      have hT := HT2.out.below hB (by omega)
      have r0 : wr.cell? ⟨w.heap.size + 1 + 1, 0, none⟩ = some (.int .i64 0) := hR.cell 0
      have r1 : wr.cell? ⟨w.heap.size + 1 + 1, 1, none⟩ = some (.int .i64 0) := hR.cell 1
      have r2 : wr.cell? ⟨w.heap.size + 1 + 1, 2, none⟩ = some (.int .i64 0) := hR.cell 2
      have f0 := hR.frozen 0
      have f1 := hR.frozen 1
      have f2 := hR.frozen 2
      have t0 : wr.cell? ⟨w.heap.size + 1 + 1 + 1, 0, none⟩ = some (.int .i64 0) := hT.cell 0
      have t1 : wr.cell? ⟨w.heap.size + 1 + 1 + 1, 1, none⟩ = some (.int .i64 0) := hT.cell 1
      have t2 : wr.cell? ⟨w.heap.size + 1 + 1 + 1, 2, none⟩ = some (.int .i64 0) := hT.cell 2
      have v0 := hT.frozen 0
      have v1 := hT.frozen 1
      have v2 := hT.frozen 2
      have hWz : w.heap.size + 1 + 1 + 1 < wr.heap.size := by omega
      have hWz2 : w.heap.size + 1 + 1 < wr.heap.size := by omega
      have HWB := hide (HB2.out.trans (hB.mono (by omega)))
      clear hB hR hT hcase
      go_wp2_with fail
      go_region
      all_goals
        go_wp2
        exact bodyPost_ret (v := .tuple #[.agg #[.int .i64 lv, .int .i64 u.yr, .int .i64 ((K : Int) + 1)], .agg #[.int .i64 lv, .int .i64 u.yr, .int .i64 ((M : Int) + 1)], .int .i64 0]) (by simp (maxDischargeDepth := 9) [results, Tryz.results105, go_sem, r0, r1, r2, f0, f1, f2, t0, t1, t2, v0, v1, v2, hWz, hWz2]) rfl ⟨rfl, by have hWo := HWB.out; (repeat' exact bel)⟩
theorem r16down_any (c : Cal) (u : Un) (lv : Int) (w : World) (hn : c.name.size ≤ 1000) :
    Calls Tryz.prog 105 #[calV c, unitV u, .int .i64 lv] w fun e w' => e = .returned (.tuple #[unitV (dnA c u lv), unitV (dnB c u lv), .int .i64 (dnE c u lv)]) ∧ Below w.heap.size w w' := by
  by_cases hE : unitE c u = 0
  · by_cases hl : u.lv ≤ lv ∧ lv ≤ 5
    · have h0 : dnE c u lv = 0 := by unfold dnE; rw [if_pos hE, if_pos hl]
      refine (r16down_yes c u lv w hn hE hl.1 hl.2).mono ?_
      rintro e w1 ⟨rfl, hb⟩
      exact ⟨by rw [dnA, dnB, if_pos h0, if_pos h0, h0], hb⟩
    · have h0 : dnE c u lv = 1 := by unfold dnE; rw [if_pos hE, if_neg hl]
      refine (r16down_arg c u lv w hn hE (by omega)).mono ?_
      rintro e w1 ⟨rfl, hb⟩
      exact ⟨by rw [dnA, dnB, if_neg (by omega), if_neg (by omega), h0], hb⟩
  · have h0 : dnE c u lv = unitE c u := by unfold dnE; rw [if_neg hE]
    refine (r16down_bad c u lv w hn hE).mono ?_
    rintro e w1 ⟨rfl, hb⟩
    exact ⟨by rw [dnA, dnB, if_neg (by omega), if_neg (by omega), h0], hb⟩
end Go.Proofs.YtojdngkleiokgaaGreat
