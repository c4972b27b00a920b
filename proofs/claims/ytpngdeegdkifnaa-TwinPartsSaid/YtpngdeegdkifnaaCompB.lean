/- Contracts of comp.Week. -/
import Derived.Test.YtpngdeegdkifnaaCompA
import Derived.Test.YtpngdeegdkifnaaFindA
namespace Go.Proofs.Ytpngdeegdkifnaa
open Go.RowKit Qd
set_option linter.unusedSimpArgs false
set_option linter.unusedVariables false

set_option maxRecDepth 100000 in
set_option maxHeartbeats 1600000 in
theorem served2_any (c : Cal) (y : Int) (w : World) : Calls Try.prog 56 #[calV c, .int .i64 y] w fun e w' => e = .returned (.bool (decide (c.first ≤ y ∧ y ≤ c.last))) ∧ Below w.heap.size w w' := by
  simp only [calV]
  go_enter Try.func56, Try.ntmps56
  go_wp2
  all_goals (go_ret; refine ⟨ret_bool ?_, by (repeat' (first | (with_reducible exact Below.refl _ _) | (with_reducible assumption) | (with_reducible refine Below.alloc ?_ ?_ _) | (with_reducible refine below_drewN ?_ _) | (with_reducible refine Below.drew ?_) | (with_reducible refine Below.setCell ?_ ?_ _) | (with_reducible refine Below.trans ?_ (Below.mono (by assumption) ?_)) | go_size | (simp at *; omega)))⟩; simp; try omega)

abbrev srv (c : Cal) (y : Int) : Prop := c.first ≤ y ∧ y ≤ c.last
theorem wks_srv {c : Cal} {y : Int} (hk : c.okB = true) (hk6 : c.kind ≠ 6) (h : srv c y) : wksE c y = 0 ∧ askE c y 1601 = 0 ∧ (wksV c y = 52 ∨ wksV c y = 53) := by
  have hok : c.Ok := by simpa [Cal.okB] using hk
  obtain ⟨_, _, b1, b2, _⟩ := ok_years hk
  obtain ⟨h1, h2⟩ := h
  have hA : askE c y 1601 = 0 := ask_2 hok (by omega) (by omega)
  have hE : wksE c y = 0 := by simp [wksE, wksB, hk, hk6, hA]
  exact ⟨hE, hA, (wks_ok hE).2.2.2.2.2.1⟩
theorem le_end (c : Cal) (y : Int) (hE : askE c y 1601 = 0) (k : Nat) (hk : k < (endsL c y).length) : endAt c y k ≤ endV c y := by
  have h1 : ∀ m, k + 1 + m ≤ (endsL c y).length → endAt c y k + 1 ≤ fromAt c y (k + 1 + m) := by
    intro m
    induction m with
    | zero => intro _; rw [Nat.add_zero, from_succ]; omega
    | succ m ih =>
      intro hm
      have h2 := ih (by omega)
      have h3 := period_1 c y hE (k + 1 + m) (by omega)
      rw [show k + 1 + (m + 1) = (k + 1 + m) + 1 by omega, from_succ]
      omega
  have h2 := h1 ((endsL c y).length - (k + 1)) (by omega)
  rw [show k + 1 + ((endsL c y).length - (k + 1)) = (endsL c y).length by omega] at h2
  have := (last_end c y hE).1
  omega
theorem added_bd {c : Cal} {y : Int} (hk : c.okB = true) (hk6 : c.kind ≠ 6) (h : srv c y) : 0 ≤ addedV c y ∧ addedV c y ≤ 53 ∧ (addedV c y = 0 ↔ wksV c y = 52) := by
  obtain ⟨hE, hA, h5⟩ := wks_srv hk hk6 h
  obtain ⟨hok, _, _, _, hv, _, hd⟩ := wks_ok hE
  unfold addedV
  by_cases h53 : wksV c y = 53
  · rw [if_pos ⟨hE, h53⟩]
    obtain ⟨x1, x2⟩ := extra_bd hok hk6
    have hl := ends_len c y hk
    have hlt : (c.extra - 1).toNat < (endsL c y).length := by omega
    have hp := period_1 c y hA _ hlt
    have hf := from_bd c y hA _ (Nat.le_of_lt hlt)
    have he := le_end c y hA _ hlt
    have hdv : daysV c y = endV c y - startV c y + 1 := by simp [daysV, hA]
    have h7 := hp.2.2 hk6
    omega
  · rw [if_neg (fun h => h53 h.2)]
    omega

theorem policies_any2 (w : World) : Calls Try.prog 58 #[] w fun e w' => (∃ M, e = .returned (.map (some M)) ∧ w'.heap[M]? = some (.map polEs 3)) ∧ Below w.heap.size w w' := by
  refine (policies_any w).mono ?_
  rintro e w' ⟨rfl, rfl⟩
  exact ⟨⟨_, rfl, heap_alloc_new w _⟩, (Below.refl _ _).alloc (Nat.le_refl _) _⟩
theorem res_paired {tmps : Array Value} {W : World} {B : Nat} {a0 a1 a2 a3 e : Int} (h6 : tmps[6]? = some (.pointer (some ⟨B, 0, none⟩))) (h7 : tmps[7]? = some (.int .i64 e))
    (g6 : BlkIs W B #[.int .i64 a0, .int .i64 a1, .int .i64 a2, .int .i64 a3] 87) :
    (results Try.f57 tmps).run Try.prog W = .ok (.tuple #[.agg #[.int .i64 a0, .int .i64 a1, .int .i64 a2, .int .i64 a3], .int .i64 e]) W := by
  have c0 := g6.cell 0
  have c1 := g6.cell 1
  have c2 := g6.cell 2
  have c3 := g6.cell 3
  simp at c0 c1 c2 c3
  simp [results, Try.results57, go_sem, h6, h7, c0, c1, c2, c3]
theorem calAt_far {W : World} {B : Nat} {c : Cal} (Q : CalAt W B c) {p : Addr} (h : B ≠ p.block) (u : Value) : CalAt (W.setCell p u) B c :=
  calAt_same (fun o => World.cell?_of_block (a := ⟨B, o, none⟩) (Below.heap_setCell W p u B h)) Q
theorem BlkIs.p0 {w : World} {B : Nat} {a b c d : Value} {t : TypeId} (h : BlkIs w B #[a, b, c, d] t) (y : Value) : BlkIs (w.setCell ⟨B, 0, none⟩ y) B #[y, b, c, d] t := by
  unfold BlkIs at h ⊢
  simp [World.setCell, Array.getElem?_modify, h]
theorem BlkIs.p1 {w : World} {B : Nat} {a b c d : Value} {t : TypeId} (h : BlkIs w B #[a, b, c, d] t) (y : Value) : BlkIs (w.setCell ⟨B, 1, none⟩ y) B #[a, y, c, d] t := by
  unfold BlkIs at h ⊢
  simp [World.setCell, Array.getElem?_modify, h]
theorem BlkIs.p2 {w : World} {B : Nat} {a b c d : Value} {t : TypeId} (h : BlkIs w B #[a, b, c, d] t) (y : Value) : BlkIs (w.setCell ⟨B, 2, none⟩ y) B #[a, b, y, d] t := by
  unfold BlkIs at h ⊢
  simp [World.setCell, Array.getElem?_modify, h]
theorem BlkIs.p3 {w : World} {B : Nat} {a b c d : Value} {t : TypeId} (h : BlkIs w B #[a, b, c, d] t) (y : Value) : BlkIs (w.setCell ⟨B, 3, none⟩ y) B #[a, b, c, y] t := by
  unfold BlkIs at h ⊢
  simp [World.setCell, Array.getElem?_modify, h]
theorem BlkIs.four {w : World} {B : Nat} {a b c d : Value} {t : TypeId} (h : BlkIs w B #[a, b, c, d] t) :
    (w.cell? ⟨B, 0, none⟩ = some a ∧ w.cell? ⟨B, 1, none⟩ = some b ∧ w.cell? ⟨B, 2, none⟩ = some c ∧ w.cell? ⟨B, 3, none⟩ = some d) ∧ (w.frozen? ⟨B, 0, none⟩ = false ∧ w.frozen? ⟨B, 1, none⟩ = false ∧ w.frozen? ⟨B, 2, none⟩ = false ∧ w.frozen? ⟨B, 3, none⟩ = false) :=
  ⟨⟨h.cell 0, h.cell 1, h.cell 2, h.cell 3⟩, h.frozen 0, h.frozen 1, h.frozen 2, h.frozen 3⟩

set_option maxRecDepth 100000 in
set_option maxHeartbeats 3200000 in
theorem paired_ok (c : Cal) (y t : Int) (w : World) (hn : c.name.size ≤ 1000) (hy : wksE c y = 0) (ht : wksE c t = 0) :
    Calls Try.prog 57 #[calV c, .int .i64 y, .int .i64 t] w fun e w' => e = .returned (.tuple #[prV (wksV c y) (wksV c t) (addedV c y) (addedV c t), .int .i64 0]) ∧ Below w.heap.size w w' := by
  have HY := hide hy
  have HT := hide ht
  clear hy ht
  simp only [calV, prV]
  go_enter Try.func57, Try.ntmps57
  go_wp2_with fail
  refine (aweeks_any c y _ hn).mono ?_
  rintro e w1 ⟨rfl, hb1⟩
  rw [HY.out]
  have G := (show BlkIs w1 (w.heap.size + 1) #[.int .i64 0, .int .i64 0, .int .i64 0, .int .i64 0] 87 from BlkIs.below (by simpa using BlkIs.new (w.alloc (calObj c)) #[.int .i64 0, .int .i64 0, .int .i64 0, .int .i64 0] 87) hb1 (by simp))
  have HQ1 := hide (show CalAt w1 w.heap.size c from calAt_below hb1 (by simp; omega) (calAt_alloc (calAt_new w c) (by simp) _))
  have HW1 := hide (show Below w.heap.size w w1 by (repeat' (first | (with_reducible exact Below.refl _ _) | (with_reducible assumption) | (with_reducible refine Below.alloc ?_ ?_ _) | (with_reducible refine below_drewN ?_ _) | (with_reducible refine Below.drew ?_) | (with_reducible refine Below.setCell ?_ ?_ _) | (with_reducible refine Below.trans ?_ (Below.mono (by assumption) ?_)) | go_size | (simp at *; omega))))
  have hz1 : w.heap.size < w1.heap.size := by have := hb1.size; simp at this; omega
  have hkB : w.heap.size ≤ w.heap.size + 1 := by omega
  have hne : w.heap.size ≠ w.heap.size + 1 := by omega
  clear hb1
  generalize w.heap.size + 1 = R at *
  have hR1 := G.lt
  have HG1 := hide G
  obtain ⟨⟨r0, r1, r2, r3⟩, f0, f1, f2, f3⟩ := G.four
  clear G
  obtain ⟨q0, q1, q2, q3, q4, q5, q6, q7, q8, q9, q10, q11, q12, q13⟩ := HQ1.out
  go_wp2_with fail
  refine (aweeks_any c t _ hn).mono ?_
  rintro e w2 ⟨rfl, hb2⟩
  rw [HT.out]
  have G := (HG1.out.p0 (.int .i64 (wksV c y))).call hb2
  have HQ2 := hide (show CalAt w2 w.heap.size c from calAt_below hb2 (by simp; omega) (calAt_far HQ1.out (by exact hne) _))
  have HW2 := hide ((HW1.out.setCell hkB _).trans (hb2.mono (by simp; omega)) : Below w.heap.size w w2)
  have hz2 : w.heap.size < w2.heap.size := by have := hb2.size; simp at this; omega
  clear q0 q1 q2 q3 q4 q5 q6 q7 q8 q9 q10 q11 q12 q13
  clear hb2 r0 r1 r2 r3 f0 f1 f2 f3
  have hR2 := G.lt
  have HG2 := hide G
  obtain ⟨⟨r0, r1, r2, r3⟩, f0, f1, f2, f3⟩ := G.four
  clear G
  obtain ⟨q0, q1, q2, q3, q4, q5, q6, q7, q8, q9, q10, q11, q12, q13⟩ := HQ2.out
  go_wp2_with fail
  refine (added_any c y _ hn).mono ?_
  rintro e w3 ⟨rfl, hb3⟩
  rw [HY.out]
  have G := (HG2.out.p1 (.int .i64 (wksV c t))).call hb3
  have HQ3 := hide (show CalAt w3 w.heap.size c from calAt_below hb3 (by simp; omega) (calAt_far HQ2.out (by exact hne) _))
  have HW3 := hide ((HW2.out.setCell hkB _).trans (hb3.mono (by simp; omega)) : Below w.heap.size w w3)
  have hz3 : w.heap.size < w3.heap.size := by have := hb3.size; simp at this; omega
  clear q0 q1 q2 q3 q4 q5 q6 q7 q8 q9 q10 q11 q12 q13
  clear hb3 r0 r1 r2 r3 f0 f1 f2 f3
  have hR3 := G.lt
  have HG3 := hide G
  obtain ⟨⟨r0, r1, r2, r3⟩, f0, f1, f2, f3⟩ := G.four
  clear G
  obtain ⟨q0, q1, q2, q3, q4, q5, q6, q7, q8, q9, q10, q11, q12, q13⟩ := HQ3.out
  go_wp2_with fail
  refine (added_any c t _ hn).mono ?_
  rintro e w4 ⟨rfl, hb4⟩
  rw [HT.out]
  have G := (HG3.out.p2 (.int .i64 (addedV c y))).call hb4
  have HQ4 := hide (show CalAt w4 w.heap.size c from calAt_below hb4 (by simp; omega) (calAt_far HQ3.out (by exact hne) _))
  have HW4 := hide ((HW3.out.setCell hkB _).trans (hb4.mono (by simp; omega)) : Below w.heap.size w w4)
  have hz4 : w.heap.size < w4.heap.size := by have := hb4.size; simp at this; omega
  clear q0 q1 q2 q3 q4 q5 q6 q7 q8 q9 q10 q11 q12 q13
  clear hb4 r0 r1 r2 r3 f0 f1 f2 f3
  have hR4 := G.lt
  have HG4 := hide G
  obtain ⟨⟨r0, r1, r2, r3⟩, f0, f1, f2, f3⟩ := G.four
  clear G
  obtain ⟨q0, q1, q2, q3, q4, q5, q6, q7, q8, q9, q10, q11, q12, q13⟩ := HQ4.out
  clear q0 q1 q2 q3 q4 q5 q6 q7 q8 q9 q10 q11 q12 q13
  have hRR := hR4
  go_wp2
  exact bodyPost_ret (v := .tuple #[.agg #[.int .i64 (wksV c y), .int .i64 (wksV c t), .int .i64 (addedV c y), .int .i64 (addedV c t)], .int .i64 0]) (by exact res_paired rfl rfl (((((HG4.out.p3 _).p0 _).p1 _).p2 _).p3 _)) rfl ⟨rfl, ((((HW4.out.setCell hkB _).setCell hkB _).setCell hkB _).setCell hkB _).setCell hkB _⟩

set_option maxRecDepth 100000 in
set_option maxHeartbeats 3200000 in
theorem cpweek_cal (c : Cal) (y t x : Int) (w : World) (hn : c.name.size ≤ 1000) (hk : c.okB = false) :
    Calls Try.prog 34 #[calV c, .int .i64 y, .int .i64 t, .int .i64 x] w fun e w' => e = .returned (.tuple #[.int .i64 0, .int .i64 1]) ∧ Below w.heap.size w w' := by
  have HO := hide (show okE c = 1 by simp [okE, hk])
  clear hk
  simp only [calV]
  go_enter Try.func34, Try.ntmps34
  go_wp2_with fail
  refine (check_any c _ hn).mono ?_
  rintro e w1 ⟨rfl, hb1⟩
  rw [HO.out]
  have hz1 : w.heap.size < w1.heap.size := by have := hb1.size; simp at this; omega
  have HB1 := hide (show Below w.heap.size w w1 by refine Below.trans ?_ (hb1.mono (by simp)); (repeat' (first | (with_reducible exact Below.refl _ _) | (with_reducible assumption) | (with_reducible refine Below.alloc ?_ ?_ _) | (with_reducible refine below_drewN ?_ _) | (with_reducible refine Below.drew ?_) | (with_reducible refine Below.setCell ?_ ?_ _) | (with_reducible refine Below.trans ?_ (Below.mono (by assumption) ?_)) | go_size | (simp at *; omega))))
  have HQ1 := hide (calAt_below hb1 (by simp) (calAt_new w c))
  obtain ⟨q0, q1, q2, q3, q4, q5, q6, q7, q8, q9, q10, q11, q12, q13⟩ := HQ1.out
  clear hb1
  clear q0 q1 q2 q3 q4 q5 q6 q7 q8 q9 q10 q11 q12 q13
  go_wp2
  go_ret2
  exact ⟨rfl, HB1.out⟩

set_option maxRecDepth 100000 in
set_option maxHeartbeats 3200000 in
theorem cpweek_mon (c : Cal) (y t x : Int) (w : World) (hn : c.name.size ≤ 1000) (hk : c.okB = true) (hk6 : c.kind = 6) :
    Calls Try.prog 34 #[calV c, .int .i64 y, .int .i64 t, .int .i64 x] w fun e w' => e = .returned (.tuple #[.int .i64 0, .int .i64 1]) ∧ Below w.heap.size w w' := by
  have HO := hide (show okE c = 0 by simp [okE, hk])
  have hkb : (c.kind == 6) = true := by simp [hk6]
  clear hk hk6
  simp only [calV]
  go_enter Try.func34, Try.ntmps34
  go_wp2_with fail
  refine (check_any c _ hn).mono ?_
  rintro e w1 ⟨rfl, hb1⟩
  rw [HO.out]
  have hz1 : w.heap.size < w1.heap.size := by have := hb1.size; simp at this; omega
  have HB1 := hide (show Below w.heap.size w w1 by refine Below.trans ?_ (hb1.mono (by simp)); (repeat' (first | (with_reducible exact Below.refl _ _) | (with_reducible assumption) | (with_reducible refine Below.alloc ?_ ?_ _) | (with_reducible refine below_drewN ?_ _) | (with_reducible refine Below.drew ?_) | (with_reducible refine Below.setCell ?_ ?_ _) | (with_reducible refine Below.trans ?_ (Below.mono (by assumption) ?_)) | go_size | (simp at *; omega))))
  have HQ1 := hide (calAt_below hb1 (by simp) (calAt_new w c))
  obtain ⟨q0, q1, q2, q3, q4, q5, q6, q7, q8, q9, q10, q11, q12, q13⟩ := HQ1.out
  clear hb1
  go_wp2
  go_ret2
  exact ⟨rfl, HB1.out⟩

set_option maxRecDepth 100000 in
set_option maxHeartbeats 3200000 in
theorem cpweek_y (c : Cal) (y t x : Int) (w : World) (hn : c.name.size ≤ 1000) (hk : c.okB = true) (hk6 : c.kind ≠ 6) (hy : ¬ srv c y) :
    Calls Try.prog 34 #[calV c, .int .i64 y, .int .i64 t, .int .i64 x] w fun e w' => e = .returned (.tuple #[.int .i64 0, .int .i64 11]) ∧ Below w.heap.size w w' := by
  have HO := hide (show okE c = 0 by simp [okE, hk])
  have hkb : (c.kind == 6) = false := by simpa using hk6
  have HY := hide (show decide (c.first ≤ y ∧ y ≤ c.last) = false by simpa using hy)
  clear hk hk6 hy
  simp only [calV]
  go_enter Try.func34, Try.ntmps34
  go_wp2_with fail
  refine (check_any c _ hn).mono ?_
  rintro e w1 ⟨rfl, hb1⟩
  rw [HO.out]
  have hz1 : w.heap.size < w1.heap.size := by have := hb1.size; simp at this; omega
  have HB1 := hide (show Below w.heap.size w w1 by refine Below.trans ?_ (hb1.mono (by simp)); (repeat' (first | (with_reducible exact Below.refl _ _) | (with_reducible assumption) | (with_reducible refine Below.alloc ?_ ?_ _) | (with_reducible refine below_drewN ?_ _) | (with_reducible refine Below.drew ?_) | (with_reducible refine Below.setCell ?_ ?_ _) | (with_reducible refine Below.trans ?_ (Below.mono (by assumption) ?_)) | go_size | (simp at *; omega))))
  have HQ1 := hide (calAt_below hb1 (by simp) (calAt_new w c))
  obtain ⟨q0, q1, q2, q3, q4, q5, q6, q7, q8, q9, q10, q11, q12, q13⟩ := HQ1.out
  clear hb1
  go_wp2_with fail
  refine (served2_any c y _).mono ?_
  rintro e w2 ⟨rfl, hb2⟩
  rw [HY.out]
  have hz2 : w.heap.size < w2.heap.size := Nat.lt_of_lt_of_le hz1 hb2.size
  have HB2 := hide (HB1.out.trans (hb2.mono (Nat.le_of_lt hz1)))
  have HQ2 := hide (calAt_below hb2 hz1 HQ1.out)
  clear q0 q1 q2 q3 q4 q5 q6 q7 q8 q9 q10 q11 q12 q13
  obtain ⟨q0, q1, q2, q3, q4, q5, q6, q7, q8, q9, q10, q11, q12, q13⟩ := HQ2.out
  clear hb2
  clear q0 q1 q2 q3 q4 q5 q6 q7 q8 q9 q10 q11 q12 q13
  go_wp2
  go_ret2
  exact ⟨rfl, HB2.out⟩

set_option maxRecDepth 100000 in
set_option maxHeartbeats 3200000 in
theorem cpweek_t (c : Cal) (y t x : Int) (w : World) (hn : c.name.size ≤ 1000) (hk : c.okB = true) (hk6 : c.kind ≠ 6) (hy : srv c y) (ht : ¬ srv c t) :
    Calls Try.prog 34 #[calV c, .int .i64 y, .int .i64 t, .int .i64 x] w fun e w' => e = .returned (.tuple #[.int .i64 0, .int .i64 11]) ∧ Below w.heap.size w w' := by
  have HO := hide (show okE c = 0 by simp [okE, hk])
  have hkb : (c.kind == 6) = false := by simpa using hk6
  have HY := hide (show decide (c.first ≤ y ∧ y ≤ c.last) = true by simpa using hy)
  have HT := hide (show decide (c.first ≤ t ∧ t ≤ c.last) = false by simpa using ht)
  clear hk hk6 hy ht
  simp only [calV]
  go_enter Try.func34, Try.ntmps34
  go_wp2_with fail
  refine (check_any c _ hn).mono ?_
  rintro e w1 ⟨rfl, hb1⟩
  rw [HO.out]
  have hz1 : w.heap.size < w1.heap.size := by have := hb1.size; simp at this; omega
  have HB1 := hide (show Below w.heap.size w w1 by refine Below.trans ?_ (hb1.mono (by simp)); (repeat' (first | (with_reducible exact Below.refl _ _) | (with_reducible assumption) | (with_reducible refine Below.alloc ?_ ?_ _) | (with_reducible refine below_drewN ?_ _) | (with_reducible refine Below.drew ?_) | (with_reducible refine Below.setCell ?_ ?_ _) | (with_reducible refine Below.trans ?_ (Below.mono (by assumption) ?_)) | go_size | (simp at *; omega))))
  have HQ1 := hide (calAt_below hb1 (by simp) (calAt_new w c))
  obtain ⟨q0, q1, q2, q3, q4, q5, q6, q7, q8, q9, q10, q11, q12, q13⟩ := HQ1.out
  clear hb1
  go_wp2_with fail
  refine (served2_any c y _).mono ?_
  rintro e w2 ⟨rfl, hb2⟩
  rw [HY.out]
  have hz2 : w.heap.size < w2.heap.size := Nat.lt_of_lt_of_le hz1 hb2.size
  have HB2 := hide (HB1.out.trans (hb2.mono (Nat.le_of_lt hz1)))
  have HQ2 := hide (calAt_below hb2 hz1 HQ1.out)
  clear q0 q1 q2 q3 q4 q5 q6 q7 q8 q9 q10 q11 q12 q13
  obtain ⟨q0, q1, q2, q3, q4, q5, q6, q7, q8, q9, q10, q11, q12, q13⟩ := HQ2.out
  clear hb2
  go_wp2_with fail
  refine (served2_any c t _).mono ?_
  rintro e w3 ⟨rfl, hb3⟩
  rw [HT.out]
  have hz3 : w.heap.size < w3.heap.size := Nat.lt_of_lt_of_le hz2 hb3.size
  have HB3 := hide (HB2.out.trans (hb3.mono (Nat.le_of_lt hz2)))
  have HQ3 := hide (calAt_below hb3 hz2 HQ2.out)
  clear q0 q1 q2 q3 q4 q5 q6 q7 q8 q9 q10 q11 q12 q13
  obtain ⟨q0, q1, q2, q3, q4, q5, q6, q7, q8, q9, q10, q11, q12, q13⟩ := HQ3.out
  clear hb3
  clear q0 q1 q2 q3 q4 q5 q6 q7 q8 q9 q10 q11 q12 q13
  go_wp2
  go_ret2
  exact ⟨rfl, HB3.out⟩

set_option maxRecDepth 100000 in
set_option maxHeartbeats 3200000 in
theorem cpweek_none (c : Cal) (y t x : Int) (w : World) (hn : c.name.size ≤ 1000) (hk : c.okB = true) (hk6 : c.kind ≠ 6) (hy : srv c y) (ht : srv c t) (hx : x < 1 ∨ (1 ≤ x ∧ wksV c y < x)) :
    Calls Try.prog 34 #[calV c, .int .i64 y, .int .i64 t, .int .i64 x] w fun e w' => e = .returned (.tuple #[.int .i64 0, .int .i64 13]) ∧ Below w.heap.size w w' := by
  have HO := hide (show okE c = 0 by simp [okE, hk])
  have hkb : (c.kind == 6) = false := by simpa using hk6
  have HY := hide (show decide (c.first ≤ y ∧ y ≤ c.last) = true by simpa using hy)
  have HT := hide (show decide (c.first ≤ t ∧ t ≤ c.last) = true by simpa using ht)
  obtain ⟨wy, _, wy2⟩ := wks_srv hk hk6 hy
  obtain ⟨wt, _, wt2⟩ := wks_srv hk hk6 ht
  have hay := added_bd hk hk6 hy
  have hat := added_bd hk hk6 ht
  have WY := hide wy
  have WT := hide wt
  obtain ⟨ny, hny⟩ : ∃ n, n = wksV c y := ⟨_, rfl⟩
  obtain ⟨nt, hnt⟩ : ∃ n, n = wksV c t := ⟨_, rfl⟩
  obtain ⟨ay, hay'⟩ : ∃ n, n = addedV c y := ⟨_, rfl⟩
  obtain ⟨ta, hat'⟩ : ∃ n, n = addedV c t := ⟨_, rfl⟩
  rw [← hny] at wy2 hay hx
  rw [← hnt] at wt2 hat
  rw [← hay'] at hay
  rw [← hat'] at hat
  have HNY := hide hny
  have HNT := hide hnt
  have HAY := hide hay'
  have HAT := hide hat'
  have hb1 : 0 ≤ ay ∧ ay ≤ 53 ∧ 0 ≤ ta ∧ ta ≤ 53 ∧ 52 ≤ ny ∧ ny ≤ 53 ∧ 52 ≤ nt ∧ nt ≤ 53 := by omega
  clear hk hk6 hy ht wy wt wy2 wt2 hay hat hny hnt hay' hat'
  simp only [calV]
  go_enter Try.func34, Try.ntmps34
  go_wp2_with fail
  refine (check_any c _ hn).mono ?_
  rintro e w1 ⟨rfl, hb1⟩
  rw [HO.out]
  have hz1 : w.heap.size < w1.heap.size := by have := hb1.size; simp at this; omega
  have HB1 := hide (show Below w.heap.size w w1 by refine Below.trans ?_ (hb1.mono (by simp)); (repeat' (first | (with_reducible exact Below.refl _ _) | (with_reducible assumption) | (with_reducible refine Below.alloc ?_ ?_ _) | (with_reducible refine below_drewN ?_ _) | (with_reducible refine Below.drew ?_) | (with_reducible refine Below.setCell ?_ ?_ _) | (with_reducible refine Below.trans ?_ (Below.mono (by assumption) ?_)) | go_size | (simp at *; omega))))
  have HQ1 := hide (calAt_below hb1 (by simp) (calAt_new w c))
  obtain ⟨q0, q1, q2, q3, q4, q5, q6, q7, q8, q9, q10, q11, q12, q13⟩ := HQ1.out
  clear hb1
  go_wp2_with fail
  refine (served2_any c y _).mono ?_
  rintro e w2 ⟨rfl, hb2⟩
  rw [HY.out]
  have hz2 : w.heap.size < w2.heap.size := Nat.lt_of_lt_of_le hz1 hb2.size
  have HB2 := hide (HB1.out.trans (hb2.mono (Nat.le_of_lt hz1)))
  have HQ2 := hide (calAt_below hb2 hz1 HQ1.out)
  clear q0 q1 q2 q3 q4 q5 q6 q7 q8 q9 q10 q11 q12 q13
  obtain ⟨q0, q1, q2, q3, q4, q5, q6, q7, q8, q9, q10, q11, q12, q13⟩ := HQ2.out
  clear hb2
  go_wp2_with fail
  refine (served2_any c t _).mono ?_
  rintro e w3 ⟨rfl, hb3⟩
  rw [HT.out]
  have hz3 : w.heap.size < w3.heap.size := Nat.lt_of_lt_of_le hz2 hb3.size
  have HB3 := hide (HB2.out.trans (hb3.mono (Nat.le_of_lt hz2)))
  have HQ3 := hide (calAt_below hb3 hz2 HQ2.out)
  clear q0 q1 q2 q3 q4 q5 q6 q7 q8 q9 q10 q11 q12 q13
  obtain ⟨q0, q1, q2, q3, q4, q5, q6, q7, q8, q9, q10, q11, q12, q13⟩ := HQ3.out
  clear hb3
  go_wp2_with fail
  refine (paired_ok c y t _ hn WY.out WT.out).mono ?_
  rintro e w4 ⟨rfl, hb4⟩
  simp only [prV]
  rw [← HNY.out, ← HNT.out, ← HAY.out, ← HAT.out]
  have hz4 : w.heap.size < w4.heap.size := Nat.lt_of_lt_of_le hz3 hb4.size
  have HB4 := hide (HB3.out.trans (hb4.mono (Nat.le_of_lt hz3)))
  have HQ4 := hide (calAt_below hb4 hz3 HQ3.out)
  clear q0 q1 q2 q3 q4 q5 q6 q7 q8 q9 q10 q11 q12 q13
  obtain ⟨q0, q1, q2, q3, q4, q5, q6, q7, q8, q9, q10, q11, q12, q13⟩ := HQ4.out
  clear hb4
  clear q0 q1 q2 q3 q4 q5 q6 q7 q8 q9 q10 q11 q12 q13
  rcases hx with hx | ⟨hx1, hx2⟩
  · go_wp2
    all_goals first
      | (exfalso; omega)
      | (have hBel := HB4.out; go_ret2; exact ⟨rfl, by (repeat' (first | (with_reducible exact Below.refl _ _) | (with_reducible assumption) | (with_reducible refine Below.alloc ?_ ?_ _) | (with_reducible refine below_drewN ?_ _) | (with_reducible refine Below.drew ?_) | (with_reducible refine Below.setCell ?_ ?_ _) | (with_reducible refine Below.trans ?_ (Below.mono (by assumption) ?_)) | go_size | (simp at *; omega)))⟩)
  · go_wp2
    all_goals first
      | (exfalso; omega)
      | (have hBel := HB4.out; go_ret2; exact ⟨rfl, by (repeat' (first | (with_reducible exact Below.refl _ _) | (with_reducible assumption) | (with_reducible refine Below.alloc ?_ ?_ _) | (with_reducible refine below_drewN ?_ _) | (with_reducible refine Below.drew ?_) | (with_reducible refine Below.setCell ?_ ?_ _) | (with_reducible refine Below.trans ?_ (Below.mono (by assumption) ?_)) | go_size | (simp at *; omega)))⟩)

end Go.Proofs.Ytpngdeegdkifnaa
