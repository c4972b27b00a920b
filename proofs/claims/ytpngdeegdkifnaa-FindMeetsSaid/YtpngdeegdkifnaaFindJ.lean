/- The contract of find.Meets. -/
import Derived.Test.YtpngdeegdkifnaaFindI
namespace Go.Proofs.Ytpngdeegdkifnaa
open Go.RowKit Go.Shelf Qd
set_option linter.unusedSimpArgs false
set_option linter.unusedVariables false
attribute [local go_sem] Oper.semAt_some

theorem res_meets {tmps : Array Value} {W : World} {B1 B2 g n cap : Nat} {e : Int} (h8 : tmps[6]? = some (.pointer (some ⟨B1, 0, none⟩))) (h9 : tmps[7]? = some (.pointer (some ⟨B2, 0, none⟩)))
    (g1 : BlkIs W B1 #[.slice (some ⟨g, 0, none⟩) n cap] 40) (g2 : BlkIs W B2 #[.int .i64 e] 26) :
    (results Try.f25 tmps).run Try.prog W = .ok (.tuple #[.slice (some ⟨g, 0, none⟩) n cap, .int .i64 e]) W := by
  have c0 := g1.cell 0
  have c1 := g2.cell 0
  simp at c0 c1
  simp [results, Try.results25, go_sem, h8, h9, c0, c1]
theorem app_keep {W w1 : World} {n₀ B : Nat} {size : Nat} {v v' : Value} {k : Nat} {xs : List Value} {tmp : Obj}
    (hv : Boxed W B 40 v) (hrow : W.ownsRow n₀ 31 size v k xs)
    (hgrow : (W.alloc tmp).grownBy w1 v.ownBlock) : KeepTy 31 40 W (w1.setCell ⟨B, 0, none⟩ v') := by
  have hv1 : Boxed w1 B 40 v := (hv.alloc tmp).kept hgrow (hv.not_row (by decide) hrow)
  refine ((KeepTy.alloc W tmp).trans (.turn hgrow (fun r e cs t z hk => .inl ?_))).trans (.turn (grownBy_setCell' w1 B v') (fun r e cs t z hk => ?_))
  · rcases (hrow.alloc tmp).2 with ⟨rfl, _⟩ | ⟨g, cap, cur, rfl, _, hgb, _⟩
    · simp [Value.ownBlock] at e
    · obtain rfl : g = r := by simpa [Value.ownBlock] using e
      rw [hgb] at hk; cases hk; rfl
  · cases e
    rw [show w1.heap[B]? = _ from hv1] at hk; cases hk; exact .inr rfl

/-- What lies ahead of a row stays as it lies at an append to it. -/
theorem app_other {W w1 : World} {n₀ B X size k : Nat} {e : TypeId} {v v' : Value} {xs : List Value} {tmp : Obj} {cs : Array Value} {t : TypeId} (hrow : W.ownsRow n₀ e size v k xs) (hgrow : (W.alloc tmp).grownBy w1 v.ownBlock) (hX : X < n₀) (hXB : X ≠ B) (hb : BlkIs W X cs t) :
    BlkIs (w1.setCell ⟨B, 0, none⟩ v') X cs t := by
  have h1 : BlkIs w1 X cs t := (hb.alloc tmp).own hgrow (by
    rcases hrow.2 with ⟨rfl, _⟩ | ⟨g, cap, cur, rfl, hg, _⟩
    · simp [Value.ownBlock]
    · intro e
      have : g = X := by simpa [Value.ownBlock] using e
      omega)
  exact h1.far hXB _
theorem filter_yes {α : Type} (p : α → Bool) (l : List α) (x : α) (h : p x = true) : (l ++ [x]).filter p = l.filter p ++ [x] := by simp [h]
theorem filter_no {α : Type} (p : α → Bool) (l : List α) (x : α) (h : ¬ p x = true) : (l ++ [x]).filter p = l.filter p := by simp [h]

theorem keep_split (a b x : Un) : (keepU a b x = true ∧ (((x.yr == a.yr) = false ∧ (x.yr == b.yr) = false) ∨ ((x.yr == a.yr) = false ∧ (x.yr == b.yr) = true ∧ decide (b.ix < x.ix) = false) ∨ ((x.yr == a.yr) = true ∧ decide (x.ix < a.ix) = false ∧ (x.yr == b.yr) = false) ∨ ((x.yr == a.yr) = true ∧ decide (x.ix < a.ix) = false ∧ (x.yr == b.yr) = true ∧ decide (b.ix < x.ix) = false))) ∨
    (¬ keepU a b x = true ∧ (((x.yr == a.yr) = true ∧ decide (x.ix < a.ix) = true) ∨ ((x.yr == a.yr) = false ∧ (x.yr == b.yr) = true ∧ decide (b.ix < x.ix) = true) ∨ ((x.yr == a.yr) = true ∧ decide (x.ix < a.ix) = false ∧ (x.yr == b.yr) = true ∧ decide (b.ix < x.ix) = true))) := by
  unfold keepU
  cases (x.yr == a.yr) <;> cases decide (x.ix < a.ix) <;> cases (x.yr == b.yr) <;> cases decide (b.ix < x.ix) <;> simp

set_option maxRecDepth 100000 in
set_option maxHeartbeats 8000000 in
theorem meets_yes (c : Cal) (lv : Int) (s : Sp) (w : World) (hn : c.name.size ≤ 1000) (h : meetsE c lv s = 0) :
    Calls Try.prog 25 #[calV c, .int .i64 lv, spanV s] w fun e w' => ∃ g cap, e = .returned (.tuple #[.slice (some ⟨g, 0, none⟩) (meetsL c lv s).length cap, .int .i64 0]) ∧ UnsAt w' g cap (meetsL c lv s) ∧ w.heap.size ≤ g ∧ Below w.heap.size w w' := by
  obtain ⟨hk, l1, l5, hab, ha, hb⟩ := meets_ok h
  obtain ⟨n0, hny, hE, _⟩ := meets_facts h
  have hch := meets_chain h
  have HO := hide (show okE c = 0 by simp [okE, hk])
  have hlb : decide (1 ≤ lv ∧ lv ≤ 5) = true := by simp; omega
  have hyb : -10000 ≤ servY c s.a ∧ servY c s.b ≤ 20000 := by
    have h1 := ask_ok (fd_ok ha).2.2.2.2.2.1.1
    have h2 := ask_ok (fd_ok hb).2.2.2.2.2.1.1
    omega
  have hay : (fdU c s.a lv).yr = servY c s.a := by obtain ⟨i, e, _⟩ := fd_in ha; rw [e]
  have hby : (fdU c s.b lv).yr = servY c s.b := by obtain ⟨i, e, _⟩ := fd_in hb; rw [e]
  obtain ⟨i0, hi, hi0, hi1, hi2⟩ := info_parts unit_info
  have hL : meetsL c lv s = (allUp c lv (servY c s.a) (meetsN c lv s)).filter (keepU (fdU c s.a lv) (fdU c s.b lv)) := by rw [meetsL, if_pos h]
  have hL0 := hch.2.2.2.1
  have hNb : meetsN c lv s ≤ 30001 := by unfold meetsN; omega
  obtain ⟨ua, hua⟩ : ∃ ua, fdU c s.a lv = ua := ⟨_, rfl⟩
  obtain ⟨ub, hub⟩ : ∃ ub, fdU c s.b lv = ub := ⟨_, rfl⟩
  obtain ⟨ny, hN⟩ : ∃ ny, meetsN c lv s = ny := ⟨_, rfl⟩
  obtain ⟨L, hLL⟩ : ∃ L, meetsL c lv s = L := ⟨_, rfl⟩
  rw [hLL] at hL hL0 ⊢
  rw [hua] at hL hay
  rw [hub] at hL hby
  rw [hN] at hL hny hE hNb
  rw [← hay] at hL hyb hny hE
  rw [← hby] at hyb hny
  have HL := hide (And.intro hL hL0)
  have HF := hide (And.intro (And.intro ha hua) (And.intro hb hub))
  have HE := hide hE
  have HNY := hide (And.intro hny (And.intro hyb hNb))
  clear h hch hE hny hyb n0 ha hb hk hay hby hua hub hN hLL hL hL0 hNb
  simp only [calV, spanV]
  refine (callsIn_wide (n := 5)).1 ?_
  refine callsIn_of_wp_marks Try.func25 rfl trivial ?_ rfl
  simp only [Try.ntmps25, List.size_toArray, List.length_cons, List.length_nil, Nat.reduceAdd, Nat.reduceSub, Array.replicate_succ, Array.replicate_zero, List.push_toArray, List.append_toArray, List.nil_append, List.cons_append]
  gi_wp2_with fail
  refine ⟨trivial, (callsIn_wide.2 (check_any c _ hn)).mono ?_⟩
  rintro e w1 ⟨rfl, hb1⟩
  rw [HO.out]
  have HM1 := hide ((mtSt_new c s w).call (by exact hb1))
  have HB1 := hide (show Below w.heap.size w w1 by (repeat' (first | (with_reducible exact Below.refl _ _) | (with_reducible assumption) | (with_reducible refine Below.alloc ?_ ?_ _) | (with_reducible refine below_drewN ?_ _) | (with_reducible refine Below.drew ?_) | (with_reducible refine Below.setCell ?_ ?_ _) | (with_reducible refine Below.trans ?_ (Below.mono (by assumption) ?_)) | go_size | (simp at *; omega))))
  clear hb1
  obtain ⟨q0, q1, q2, q3, q4, q5, q6, q7, q8, q9, q10, q11, q12, q13⟩ := HM1.out.1.cal
  obtain ⟨p0, p1⟩ := HM1.out.sp
  gi_wp2_with fail
  refine ⟨trivial, (callsIn_wide.2 (levelled_any lv _)).mono ?_⟩
  rintro e w' ⟨rfl, rfl⟩
  rw [hlb]
  gi_wp2_with fail
  refine ⟨trivial, (callsIn_wide.2 (fday_any c s.a lv _ hn)).mono ?_⟩
  rintro e w2 ⟨rfl, hb2⟩
  clear q0 q1 q2 q3 q4 q5 q6 q7 q8 q9 q10 q11 q12 q13
  rw [HF.out.1.1, HF.out.1.2]
  clear p0 p1
  have HM2 := hide (HM1.out.call hb2)
  have HB2 := hide (HB1.out.trans (hb2.mono (by have := HM1.out.lt; omega)))
  clear hb2
  have hz0 : w.heap.size < w2.heap.size := by have := HM2.out.lt; omega
  have hz1 : w.heap.size + 1 < w2.heap.size := by have := HM2.out.lt; omega
  obtain ⟨q0, q1, q2, q3, q4, q5, q6, q7, q8, q9, q10, q11, q12, q13⟩ := HM2.out.1.cal
  obtain ⟨p0, p1⟩ := HM2.out.sp
  gi_wp2_with fail
  refine ⟨trivial, (callsIn_wide.2 (fday_any c s.b lv _ hn)).mono ?_⟩
  rintro e w3 ⟨rfl, hb3⟩
  clear q0 q1 q2 q3 q4 q5 q6 q7 q8 q9 q10 q11 q12 q13
  rw [HF.out.2.1, HF.out.2.2]
  clear p0 p1
  have HM3 := hide ((HM2.out.alloc _).call hb3)
  have HB3 := hide ((HB2.out.alloc (by have := HM2.out.lt; omega) _).trans (hb3.mono (by have := HM2.out.lt; simp; omega)))
  have GA := hide ((BlkIs.new w2 #[.int .i64 ua.lv, .int .i64 ua.yr, .int .i64 ua.ix] 31).call hb3)
  clear hb3 hz0 hz1
  have hz0 : w.heap.size < w3.heap.size := by have := HM3.out.lt; omega
  have hz1 : w.heap.size + 1 < w3.heap.size := by have := HM3.out.lt; omega
  obtain ⟨q0, q1, q2, q3, q4, q5, q6, q7, q8, q9, q10, q11, q12, q13⟩ := HM3.out.1.cal
  have ha1 : w3.cell? ⟨w2.heap.size, 1, none⟩ = some (.int .i64 ua.yr) := GA.out.cell 1
  have hl2 : w2.heap.size < w3.heap.size := GA.out.lt
  gi_wp2_with fail
  refine ⟨trivial, (each_any _ c lv ua.yr ub.yr _).mono ?_⟩
  rintro e w4 ⟨rfl, rfl⟩
  gi_wp2_with fail
  obtain ⟨W5, hW5⟩ : ∃ W5 : World, W5 = ((((((w3.alloc (.cells #[.int .i64 ub.lv, .int .i64 ub.yr, .int .i64 ub.ix] 31)).alloc (.cells #[.slice none 0 0] 40)).alloc (.cells (calCs c) 24)).alloc (.cells #[.int .i64 lv] 3)).alloc (.cells #[.int .i64 ua.yr] 3)).alloc (.cells #[.int .i64 ub.yr] 3)) := ⟨_, rfl⟩
  have hsz : W5.heap.size = w3.heap.size + 6 := by rw [hW5]; simp
  have s0 : BlkIs W5 (w3.heap.size + 2) (calCs c) 24 := by
    rw [hW5]
    have := (((BlkIs.new ((w3.alloc (.cells #[.int .i64 ub.lv, .int .i64 ub.yr, .int .i64 ub.ix] 31)).alloc (.cells #[.slice none 0 0] 40)) (calCs c) 24).alloc (.cells #[.int .i64 lv] 3)).alloc (.cells #[.int .i64 ua.yr] 3)).alloc (.cells #[.int .i64 ub.yr] 3)
    simpa using this
  have s1 : BlkIs W5 (w3.heap.size + 3) #[.int .i64 lv] 3 := by
    rw [hW5]
    have := ((BlkIs.new (((w3.alloc (.cells #[.int .i64 ub.lv, .int .i64 ub.yr, .int .i64 ub.ix] 31)).alloc (.cells #[.slice none 0 0] 40)).alloc (.cells (calCs c) 24)) #[.int .i64 lv] 3).alloc (.cells #[.int .i64 ua.yr] 3)).alloc (.cells #[.int .i64 ub.yr] 3)
    simpa using this
  have s2 : BlkIs W5 (w3.heap.size + 4) #[.int .i64 ua.yr] 3 := by
    rw [hW5]
    have := (BlkIs.new ((((w3.alloc (.cells #[.int .i64 ub.lv, .int .i64 ub.yr, .int .i64 ub.ix] 31)).alloc (.cells #[.slice none 0 0] 40)).alloc (.cells (calCs c) 24)).alloc (.cells #[.int .i64 lv] 3)) #[.int .i64 ua.yr] 3).alloc (.cells #[.int .i64 ub.yr] 3)
    simpa using this
  have s3 : BlkIs W5 (w3.heap.size + 5) #[.int .i64 ub.yr] 3 := by
    rw [hW5]
    have := BlkIs.new (((((w3.alloc (.cells #[.int .i64 ub.lv, .int .i64 ub.yr, .int .i64 ub.ix] 31)).alloc (.cells #[.slice none 0 0] 40)).alloc (.cells (calCs c) 24)).alloc (.cells #[.int .i64 lv] 3)).alloc (.cells #[.int .i64 ua.yr] 3)) #[.int .i64 ub.yr] 3
    simpa using this
  have sO : Boxed W5 (w3.heap.size + 1) 40 (.slice none 0 0) := by
    rw [hW5]
    have := ((((Boxed.new (w3.alloc (.cells #[.int .i64 ub.lv, .int .i64 ub.yr, .int .i64 ub.ix] 31)) 40 (.slice none 0 0)).alloc (.cells (calCs c) 24)).alloc (.cells #[.int .i64 lv] 3)).alloc (.cells #[.int .i64 ua.yr] 3)).alloc (.cells #[.int .i64 ub.yr] 3)
    simpa using this
  have sB : BlkIs W5 w3.heap.size #[.int .i64 ub.lv, .int .i64 ub.yr, .int .i64 ub.ix] 31 := by
    rw [hW5]; exact (((((BlkIs.new w3 _ _).alloc _).alloc _).alloc _).alloc _).alloc _
  have sA : BlkIs W5 w2.heap.size #[.int .i64 ua.lv, .int .i64 ua.yr, .int .i64 ua.ix] 31 := by
    rw [hW5]; exact (((((GA.out.alloc _).alloc _).alloc _).alloc _).alloc _).alloc _
  have hM5 : MtSt c s w.heap.size W5 := by
    rw [hW5]; exact (((((HM3.out.alloc _).alloc _).alloc _).alloc _).alloc _).alloc _
  have r1 : BlkIs W5 (w.heap.size + 1 + 1) #[.slice none 0 0] 40 := hM5.2.2.1
  have r2 : BlkIs W5 (w.heap.size + 1 + 1 + 1) #[.int .i64 0] 26 := hM5.2.2.2
  have hz3 : w.heap.size + 3 < w2.heap.size := HM2.out.lt
  have hBW : Below w.heap.size w W5 := by
    have b1 := HB3.out
    rw [hW5]
    refine Below.alloc (Below.alloc (Below.alloc (Below.alloc (Below.alloc (Below.alloc b1 ?_ _) ?_ _) ?_ _) ?_ _) ?_ _) ?_ _ <;> first | omega | (simp; omega)
  rw [← hW5]
  clear hW5 hM5
  have hlen := all_len c lv ua.yr ny HE.out
  refine wpIn_rangeFunc_ownH (α := Un) rfl (by omega) (gf := 68) (lb := #[.pointer (some ⟨w3.heap.size + 4, 0, none⟩), .pointer (some ⟨w3.heap.size + 5, 0, none⟩), .pointer (some ⟨w3.heap.size + 2, 0, none⟩), .pointer (some ⟨w3.heap.size + 3, 0, none⟩)]) rfl trivial (enters_of Try.func68 (by kernel_rfl) rfl)
    (each_stops c lv ua.yr ub.yr ny hn HNY.out.1 HNY.out.2.1 HE.out (w3.heap.size + 4) (w3.heap.size + 5) (w3.heap.size + 2) (w3.heap.size + 3) W5 s0 s2 s3 s1)
    KeepTy.trans (fun W l o o' _ h1 h2 _ => keepTy_putObj W l o o' h1 h2) (Below.refl _ _) (fun _ => rfl)
    (fun (pre : List Un) W => (((((∃ v, Boxed W (w3.heap.size + 1) 40 v ∧ W.ownsRow (w3.heap.size + 1) 31 3 v (pre.filter (keepU ua ub)).length (flatU (pre.filter (keepU ua ub))) ∧ (v = .slice none 0 0 ↔ pre.filter (keepU ua ub) = [])) ∧ BlkIs W (w.heap.size + 1 + 1) #[.slice none 0 0] 40) ∧ BlkIs W (w.heap.size + 1 + 1 + 1) #[.int .i64 0] 26) ∧ BlkIs W w2.heap.size #[.int .i64 ua.lv, .int .i64 ua.yr, .int .i64 ua.ix] 31) ∧ BlkIs W w3.heap.size #[.int .i64 ub.lv, .int .i64 ub.yr, .int .i64 ub.ix] 31) ∧ Below w.heap.size w W)
    (fun _ _ _ => False)
    (OwnFrom.and (OwnFrom.and (OwnFrom.and (OwnFrom.and (OwnFrom.and (Own.from (holdsRow_own (w3.heap.size + 1) (w3.heap.size + 1) _ _ 3 (fun (pre : List Un) => (pre.filter (keepU ua ub)).length) (fun (pre : List Un) => flatU (pre.filter (keepU ua ub))) (fun (pre : List Un) v => v = .slice none 0 0 ↔ pre.filter (keepU ua ub) = [])) _) (Own.from (blkIs_own _ _ _) _)) (Own.from (blkIs_own _ _ _) _)) (Own.from (blkIs_own _ _ _) _)) (Own.from (blkIs_own _ _ _) _)) (ownFrom_below (Nat.le_refl _) (by omega)))
    (fun _ _ _ _ _ hs _ _ => hs)
    ⟨⟨⟨⟨⟨⟨_, sO, World.ownsRow_nil _ _ _ _, by simp⟩, r1⟩, r2⟩, sA⟩, sB⟩, hBW⟩
    (AxU (w3.heap.size + 1) ?a1) (fun x a' => axU_own _ _ x a' _)
    ?assign ?body ?done ?stop
  case assign =>
    rintro l pre x W K ⟨⟨⟨⟨⟨⟨v, hv, hrow, hnil⟩, k1⟩, k2⟩, k3⟩, k4⟩, hB⟩ hK
    have hK2 := hide hK
    clear hK
    obtain ⟨Bx, hBx⟩ : ∃ Bx, Bx = W.heap.size := ⟨_, rfl⟩
    simp only [encU, unitV]
    gi_wp2
    rw [← hBx]
    have hK3 := fun a' (h : a' = _) => hK2.out a' _ ((KeepsOthers.alloc _ _).from _) (KeepTy.alloc _ _) ⟨⟨⟨⟨⟨⟨v, hv.alloc _, hrow.alloc _, hnil⟩, k1.alloc _⟩, k2.alloc _⟩, k3.alloc _⟩, k4.alloc _⟩, hB.alloc hB.size _⟩ ⟨Bx, by rw [hBx]; exact hv.lt, by rw [hBx]; exact BlkIs.new W #[.int .i64 x.lv, .int .i64 x.yr, .int .i64 x.ix] 31, h⟩
    have hK4 := hK3 _ rfl
    exact hK4
  case body =>
    rintro l pre x a' W hl ⟨r, hr⟩ ⟨⟨⟨⟨⟨⟨v, hv, hrow, hnil⟩, k1⟩, k2⟩, k3⟩, k4⟩, hB⟩ ⟨Bx, hBx, bX, rfl⟩ hlt
    have hc := hv.cell
    have hbx0 : W.cell? ⟨Bx, 0, none⟩ = some (.int .i64 x.lv) := bX.cell 0
    have hbx1 : W.cell? ⟨Bx, 1, none⟩ = some (.int .i64 x.yr) := bX.cell 1
    have hbx2 : W.cell? ⟨Bx, 2, none⟩ = some (.int .i64 x.ix) := bX.cell 2
    have hka1 : W.cell? ⟨w2.heap.size, 1, none⟩ = some (.int .i64 ua.yr) := k3.cell 1
    have hka2 : W.cell? ⟨w2.heap.size, 2, none⟩ = some (.int .i64 ua.ix) := k3.cell 2
    have hkb1 : W.cell? ⟨w3.heap.size, 1, none⟩ = some (.int .i64 ub.yr) := k4.cell 1
    have hkb2 : W.cell? ⟨w3.heap.size, 2, none⟩ = some (.int .i64 ub.ix) := k4.cell 2
    have hWz := hB.size
    have hWb : w3.heap.size + 1 ≤ W.heap.size := Nat.le_of_lt hv.lt
    have hpl : (pre.filter (keepU ua ub)).length + 1 ≤ 2000000 := by have := List.length_filter_le (keepU ua ub) pre; have := HNY.out.2.2; omega
    have HPL := hide hlt
    have HK3 := hide k3
    have HK4 := hide k4
    clear hlt
    rcases keep_split ua ub x with ⟨hkp, hh⟩ | ⟨hkp, hh⟩
    · have HKQ := hide hkp
      clear hkp
      rcases hh with ⟨e1, e2⟩ | ⟨e1, e2, e3⟩ | ⟨e1, e2, e3⟩ | ⟨e1, e2, e3, e4⟩
      all_goals
        gi_wp2_with (gi_at_builtin; refine wpListIn_append_own _ rfl _ _ 40 rfl (w3.heap.size + 1) 31 i0 (.agg #[.int .i64 0, .int .i64 0, .int .i64 0]) 3 24 Try.underlying40 hi hi0 hi1 hi2 rfl (by decide) _ _ _ rfl (hrow.alloc _) ⟨W.heap.size, 0, none⟩ 1 1 [.int .i64 x.lv, .int .i64 x.yr, .int .i64 x.ix] rfl rfl (cells_new3 _ _ _ _ _) (by simp [Value.oneCell']) (by unfold maxLen; omega) (by omega) (by simp; omega) ?_; intro v' w6 hown' hgrow hnil'; obtain ⟨g', cap', rfl⟩ := ownsRow_succ hown'; obtain ⟨hv1, hv2, hr2, hk2, hb2⟩ := hv.appended (by decide) hrow hWb (by omega) hown' hgrow; have hc1 := hv1.cell; have hf1 := hv1.frozen)
        obtain ⟨hkt, hoth⟩ := app_step (v' := .slice (some ⟨g', 0, none⟩) ((pre.filter (keepU ua ub)).length + 1) cap') hv hrow hgrow
        exact ⟨hk2.from _, hkt, ⟨⟨⟨⟨⟨⟨_, hv2, by rw [filter_yes (keepU ua ub) pre x HKQ.out, flatU_snoc]; simpa using hr2, by rw [filter_yes (keepU ua ub) pre x HKQ.out]; simp⟩, hoth _ _ _ (by omega) (by decide) k1⟩, hoth _ _ _ (by omega) (by decide) k2⟩, app_other hrow hgrow (by omega) (by omega) HK3.out⟩, app_other hrow hgrow (by omega) (by omega) HK4.out⟩, hB.trans (hb2.mono (by omega))⟩⟩
    · have HKQ := hide hkp
      clear hkp
      rcases hh with ⟨e1, e2⟩ | ⟨e1, e2, e3⟩ | ⟨e1, e2, e3, e4⟩
      all_goals
        gi_wp2
        exact ⟨(KeepsOthers.refl _).from _, KeepTy.refl _ _ _, ⟨⟨⟨⟨⟨⟨v, hv, by rw [filter_no (keepU ua ub) pre x HKQ.out]; exact hrow, by rw [filter_no (keepU ua ub) pre x HKQ.out]; exact hnil⟩, k1⟩, k2⟩, HK3.out⟩, HK4.out⟩, hB⟩⟩
  case done =>
    rintro D xs W hD rfl ⟨⟨⟨⟨⟨⟨v, hv, hrow, hnil⟩, k1⟩, k2⟩, k3⟩, k4⟩, hB⟩ hK
    rw [← HL.out.1] at hrow
    obtain ⟨g, cap, rfl, hg⟩ := owns_pos hrow HL.out.2
    have hc := hv.cell
    have m1 : W.cell? ⟨w.heap.size + 1 + 1, 0, none⟩ = some (.slice none 0 0) := k1.cell 0
    have m2 : W.cell? ⟨w.heap.size + 1 + 1 + 1, 0, none⟩ = some (.int .i64 0) := k2.cell 0
    have f1 : W.frozen? ⟨w.heap.size + 1 + 1, 0, none⟩ = false := by simp [World.frozen?, show W.heap[w.heap.size + 1 + 1]? = _ from k1]
    have f2 : W.frozen? ⟨w.heap.size + 1 + 1 + 1, 0, none⟩ = false := by simp [World.frozen?, show W.heap[w.heap.size + 1 + 1 + 1]? = _ from k2]
    gi_wp2
    have hK2 : ((W.setCell ⟨w.heap.size + 1 + 1, 0, none⟩ (.slice (some ⟨g, 0, none⟩) L.length cap)).setCell ⟨w.heap.size + 1 + 1 + 1, 0, none⟩ (.int .i64 0)).heap[D]? = some (.deferred (some [])) := ((KeepsOthers.setCell _ _ _).trans (KeepsOthers.setCell _ _ _)).same _ _ hK rfl
    refine ⟨by simp, .inl ⟨_, _, rfl, run_takeDeferred hK2, ?_⟩⟩
    have hgp := grownBy_putObj' ((W.setCell ⟨w.heap.size + 1 + 1, 0, none⟩ (.slice (some ⟨g, 0, none⟩) L.length cap)).setCell ⟨w.heap.size + 1 + 1 + 1, 0, none⟩ (.int .i64 0)) D (.deferred none)
    have j1 := blk_own ((k1.set0 (.slice (some ⟨g, 0, none⟩) L.length cap)).far (p := ⟨w.heap.size + 1 + 1 + 1, 0, none⟩) (by simp) (.int .i64 0)) hgp (fun r e => by cases e; exact ⟨_, hK2, rfl⟩)
    have j2 := blk_own ((k2.far (p := ⟨w.heap.size + 1 + 1, 0, none⟩) (by simp) (.slice (some ⟨g, 0, none⟩) L.length cap)).set0 (.int .i64 0)) hgp (fun r e => by cases e; exact ⟨_, hK2, rfl⟩)
    refine ⟨_, res_meets rfl rfl j1 j2, g, cap, rfl, ?_, by omega, ?_⟩
    · refine ownsRow_putObj ?_ _ hK2 rfl
      have hr1 := hrow.kept (grownBy_setCell' W (w.heap.size + 1 + 1) (.slice (some ⟨g, 0, none⟩) L.length cap)) (.inr (hv1row hrow k1))
      have hr2 := hr1.kept (grownBy_setCell' _ (w.heap.size + 1 + 1 + 1) (.int .i64 0)) (.inr (hv1row hr1 (k2.far (p := ⟨w.heap.size + 1 + 1, 0, none⟩) (by simp) _)))
      exact hr2.base (Nat.zero_le _)
    · exact ((hB.setCell (by simp; omega) _).setCell (by simp; omega) _).trans (belowK_b (w := w) (Nat.le_refl _) _ D _ _ (by omega) hK2 rfl rfl)
  case stop =>
    rintro D cc pre W _ _ h _
    exact h.elim
end Go.Proofs.Ytpngdeegdkifnaa
