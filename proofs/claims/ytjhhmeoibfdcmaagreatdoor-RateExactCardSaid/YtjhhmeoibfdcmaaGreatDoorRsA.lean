/- Package ratio: sums. -/
import Derived.Test.YtjhhmeoibfdcmaaGreatDoorGcW
import Derived.Test.YtjhhmeoibfdcmaaGreatDoorRtE
import Derived.Test.YtjhhmeoibfdcmaaGreatDoorRtQ
import Derived.Deep.RegionHeld3
namespace Go.Proofs.YtjhhmeoibfdcmaaGreatDoor
open Go.RowKit Qd
set_option linter.unusedSimpArgs false
set_option linter.unusedVariables false

theorem blk2_set0 {w : World} {B : Nat} {a b : Value} {t : TypeId} (h : BlkIs w B #[a, b] t) (x : Value) : BlkIs (w.setCell ⟨B, 0, none⟩ x) B #[x, b] t := by
  unfold BlkIs at h ⊢
  simp [World.setCell, Array.getElem?_modify, h]
theorem blk2_set1 {w : World} {B : Nat} {a b : Value} {t : TypeId} (h : BlkIs w B #[a, b] t) (x : Value) : BlkIs (w.setCell ⟨B, 1, none⟩ x) B #[a, x] t := by
  unfold BlkIs at h ⊢
  simp [World.setCell, Array.getElem?_modify, h]
theorem blk_far2 {w : World} {B : Nat} {cs : Array Value} {t : TypeId} (h : BlkIs w B cs t) {p : Addr} (hp : B ≠ p.block) (x : Value) : BlkIs (w.setCell p x) B cs t := (Below.heap_setCell w p x B hp).trans h
/-- Two ratios that came in, any ones. -/
def RtD2 (P N : Int) (Q D : Nat) (B1 B2 : Nat) (w : World) : Prop := BlkIs w B1 #[.int .i64 P, .int .i64 (Q : Int)] 37 ∧ BlkIs w B2 #[.int .i64 N, .int .i64 (D : Int)] 37
theorem RtD2.call {P N : Int} {Q D B1 B2 : Nat} {w w' : World} (h : RtD2 P N Q D B1 B2 w) (hb : Below w.heap.size w w') : RtD2 P N Q D B1 B2 w' := ⟨h.1.call hb, h.2.call hb⟩
theorem RtD2.cells {P N : Int} {Q D B1 B2 : Nat} {w : World} (h : RtD2 P N Q D B1 B2 w) : (w.cell? ⟨B1, 0, none⟩ = some (.int .i64 P) ∧ w.cell? ⟨B1, 1, none⟩ = some (.int .i64 (Q : Int))) ∧ (w.cell? ⟨B2, 0, none⟩ = some (.int .i64 N) ∧ w.cell? ⟨B2, 1, none⟩ = some (.int .i64 (D : Int))) :=
  ⟨⟨h.1.cell 0, h.1.cell 1⟩, h.2.cell 0, h.2.cell 1⟩
def SuS (P N : Int) (Q D : Nat) (w0 w : World) : Prop := RtD2 P N Q D w0.heap.size (w0.heap.size + 1) w ∧ BlkIs w (w0.heap.size + 1 + 1) #[.int .i64 0, .int .i64 0] 37 ∧ Below w0.heap.size w0 w
theorem suS_new (P N : Int) (Q D : Nat) (w : World) : SuS P N Q D w (((w.alloc (.cells #[.int .i64 P, .int .i64 (Q : Int)] 37)).alloc (.cells #[.int .i64 N, .int .i64 (D : Int)] 37)).alloc (.cells #[.int .i64 0, .int .i64 0] 37)) := by
  refine ⟨⟨((BlkIs.new w _ _).alloc _).alloc _, ?_⟩, ?_, by (repeat' exact bel)⟩
  · have h := (BlkIs.new (w.alloc (.cells #[.int .i64 P, .int .i64 (Q : Int)] 37)) #[.int .i64 N, .int .i64 (D : Int)] 37).alloc (.cells #[.int .i64 0, .int .i64 0] 37)
    simpa using h
  · have h := BlkIs.new ((w.alloc (.cells #[.int .i64 P, .int .i64 (Q : Int)] 37)).alloc (.cells #[.int .i64 N, .int .i64 (D : Int)] 37)) #[.int .i64 0, .int .i64 0] 37
    simpa using h
theorem SuS.call {P N : Int} {Q D : Nat} {w0 w w' : World} (h : SuS P N Q D w0 w) (hb : Below w.heap.size w w') : SuS P N Q D w0 w' :=
  ⟨h.1.call hb, h.2.1.call hb, h.2.2.trans (hb.mono h.2.2.size)⟩
theorem SuS.put {P N : Int} {Q D : Nat} {w0 w : World} (h : SuS P N Q D w0 w) {b : Nat} (hb : w0.heap.size + 1 + 1 < b) (x y : Value) : SuS P N Q D w0 ((w.setCell ⟨b, 0, none⟩ x).setCell ⟨b, 1, none⟩ y) := by
  refine ⟨⟨blk_far2 (blk_far2 h.1.1 ?_ _) ?_ _, blk_far2 (blk_far2 h.1.2 ?_ _) ?_ _⟩, blk_far2 (blk_far2 h.2.1 ?_ _) ?_ _, (h.2.2.setCell ?_ _).setCell ?_ _⟩
  all_goals (simp only; omega)
def adV (P N : Int) (Q D : Nat) : Value := if fitE (adN P N Q D) = 0 then ratV (adN P N Q D) (adM P N Q D) else ratV 0 0
theorem ad_form (P N : Int) (Q D : Nat) : ∃ x y : Int, adV P N Q D = .agg #[.int .i64 x, .int .i64 y] := by
  unfold adV ratV
  split <;> exact ⟨_, _, rfl⟩
theorem ad_gcd (t : Int) (g : Nat) (hg : 0 < g) : Nat.gcd (t % g).toNat g = Nat.gcd t.natAbs g := by
  have h0 : 0 ≤ t % (g : Int) := Int.emod_nonneg _ (by omega)
  have h1 : ((t % (g : Int)).toNat : Int) = t % g := Int.toNat_of_nonneg h0
  have h2 := Int.emod_add_mul_ediv t g
  apply Nat.dvd_antisymm
  · refine Nat.dvd_gcd ?_ (Nat.gcd_dvd_right _ _)
    have b1 := Nat.gcd_dvd_right (t % g).toNat g
    have b2 := Nat.gcd_dvd_left (t % g).toNat g
    generalize Nat.gcd (t % g).toNat g = G at *
    have a1 : (G : Int) ∣ (g : Int) := Int.natCast_dvd_natCast.2 b1
    have a2 : (G : Int) ∣ t % g := by rw [← h1]; exact Int.natCast_dvd_natCast.2 b2
    have a3 : (G : Int) ∣ t % g + g * (t / g) := Int.dvd_add a2 (Int.dvd_mul_of_dvd_left a1)
    rw [h2] at a3
    exact Int.ofNat_dvd_left.1 a3
  · refine Nat.dvd_gcd ?_ (Nat.gcd_dvd_right _ _)
    have b1 := Nat.gcd_dvd_right t.natAbs g
    have b2 := Nat.gcd_dvd_left t.natAbs g
    generalize Nat.gcd t.natAbs g = G at *
    have a1 : (G : Int) ∣ (g : Int) := Int.natCast_dvd_natCast.2 b1
    have a2 : (G : Int) ∣ t := Int.ofNat_dvd_left.2 b2
    have a3 : (G : Int) ∣ t - g * (t / g) := Int.dvd_sub a2 (Int.dvd_mul_of_dvd_left a1)
    rw [show t - g * (t / g) = t % (g : Int) by omega, ← h1] at a3
    exact Int.natCast_dvd_natCast.1 a3
theorem cast_sm {n : Nat} (h : n < 2147483648) : 0 ≤ (n : Int) ∧ (n : Int) ≤ 9223372036854775807 := by omega
theorem prod_wide {P : Int} {d : Nat} (hP : in64 P) (hd : d < 2147483648) : wideOk (P * d) ∧ -19807040628566084398385987584 ≤ P * (d : Int) ∧ P * (d : Int) ≤ 19807040628566084398385987584 := by
  unfold in64 at hP
  have h1 : (P * (d : Int)).natAbs = P.natAbs * d := by rw [Int.natAbs_mul, Int.natAbs_natCast]
  have h2 : P.natAbs * d ≤ 9223372036854775808 * 2147483648 := Nat.mul_le_mul (by omega) (by omega)
  unfold wideOk
  omega
theorem quo_wide {N : Int} {g : Int} (hg : 0 < g) (h1 : -170141183460469231731687303715884105728 ≤ N) (h2 : N < 170141183460469231731687303715884105728) : wideOk (N / g) := by
  have h3 := Int.natAbs_ediv_le_natAbs N g
  unfold wideOk
  rcases Int.lt_or_le N 0 with h | h
  · have h4 : N / g < 0 := Int.ediv_neg_of_neg_of_pos h hg
    omega
  · have h4 : 0 ≤ N / g := Int.ediv_nonneg h (by omega)
    omega

set_option maxRecDepth 100000 in
set_option maxHeartbeats 12800000 in
theorem rsum_any (P N : Int) (Q D : Nat) (w : World) (hP : in64 P) (hN : in64 N) (hQ : 1 ≤ Q) (hQ2 : Q < 2147483648) (hD : 1 ≤ D) (hD2 : D < 2147483648) (hT : TabW w) :
    Calls Tryz.prog 23 #[ratV P Q, ratV N D, .bool false] w fun e w' => e = .returned (.tuple #[adV P N Q D, .int .i64 (fitE (adN P N Q D))]) ∧ Below w.heap.size w w' := by
  have H0 := hide (suS_new P N Q D w)
  have HT0 := hide hT
  have hgp : 0 < adG Q D := Nat.gcd_pos_of_pos_left _ (by omega)
  have hgl : adG Q D ≤ Q := Nat.le_of_dvd (by omega) (Nat.gcd_dvd_left _ _)
  have HG := hide (fun W h => show Calls Tryz.prog 33 #[.int .i64 Q, .int .i64 D] W fun e w' => e = .returned (.tuple #[.int .i64 (adG Q D : Int), .int .i64 0]) ∧ Below W.heap.size W w' from wgcd_any Q D W hQ (by omega) hD (by omega) h)
  have hql : Q / adG Q D < 2147483648 := Nat.lt_of_le_of_lt (Nat.div_le_self _ _) hQ2
  have hdl : D / adG Q D < 2147483648 := Nat.lt_of_le_of_lt (Nat.div_le_self _ _) hD2
  obtain ⟨pw, p1, p2⟩ := prod_wide hP hdl
  obtain ⟨nw, n1, n2⟩ := prod_wide hN hql
  have HMA := hide (fun W => wmul_any P ((D / adG Q D : Nat) : Int) W hP (cast_sm hdl).1 (cast_sm hdl).2)
  have HMB := hide (fun W => wmul_any N ((Q / adG Q D : Nat) : Int) W hN (cast_sm hql).1 (cast_sm hql).2)
  have htw : wideOk (adT P N Q D) := by unfold adT wideOk; omega
  have HAD := hide (fun W => wadd_ok (P * ((D / adG Q D : Nat) : Int)) (N * ((Q / adG Q D : Nat) : Int)) W pw nw htw)
  have hr0 : 0 ≤ adT P N Q D % (adG Q D : Int) := Int.emod_nonneg _ (by omega)
  have hr1 : adT P N Q D % (adG Q D : Int) < (adG Q D : Int) := Int.emod_lt_of_pos _ (by omega)
  have hk := ad_gcd (adT P N Q D) (adG Q D) hgp
  have HDG := hide (fun W => wdiv_any (adT P N Q D) (adG Q D : Int) W htw (by omega) (by omega))
  have hkp : 0 < adK P N Q D := Nat.gcd_pos_of_pos_right _ hgp
  have hkl : adK P N Q D ≤ adG Q D := Nat.le_of_dvd hgp (Nat.gcd_dvd_right _ _)
  have HDK := hide (fun W => wdiv_any (adT P N Q D) (adK P N Q D : Int) W htw (by omega) (by omega))
  have hnw : wideOk (adN P N Q D) := by
    unfold wideOk at htw
    exact quo_wide (by omega) (by omega) (by omega)
  have HFT := hide (fun W => wfit_any (adN P N Q D) W hnw)
  have HFV := hide (show fitE (adN P N Q D) = 0 → fitV (adN P N Q D) = adN P N Q D from fun h => by
    by_cases hf : in64 (adN P N Q D)
    · exact (fit_yes hf).1
    · rw [(fit_no hf).2] at h; exact absurd h (by decide))
  have hdk : D / adK P N Q D < 2147483648 := Nat.lt_of_le_of_lt (Nat.div_le_self _ _) hD2
  have hmm : Q / adG Q D * (D / adK P N Q D) ≤ 2147483648 * 2147483648 := Nat.mul_le_mul (by omega) (by omega)
  have HWM := hide (fun W => show Calls Tryz.prog 39 #[.int .i64 ((Q / adG Q D : Nat) : Int), .int .i64 ((D / adK P N Q D : Nat) : Int)] W fun e w' => e = .returned (.tuple #[.int .i64 (adM P N Q D : Int), .int .i64 0]) ∧ Below W.heap.size W w' from wmul_small _ _ W (by omega) (by omega) (by omega))
  have HV := hide (show adV P N Q D = if fitE (adN P N Q D) = 0 then ratV (adN P N Q D) (adM P N Q D) else ratV 0 0 from rfl)
  have htq := nat_tdiv Q (adG Q D)
  have htd := nat_tdiv D (adG Q D)
  have htk := nat_tdiv D (adK P N Q D)
  have HKE := hide (show adK P N Q D = Nat.gcd (adT P N Q D % (adG Q D : Int)).toNat (adG Q D) from hk.symm)
  obtain ⟨R, hR⟩ := Int.eq_ofNat_of_zero_le hr0
  rw [hR] at hr1 HDG HKE
  simp only [Int.toNat_natCast] at HKE
  have hRl : R < adG Q D := by omega
  have HCM := hide (fun W => show Calls Tryz.prog 16 #[.int .u64 (R : Int), .int .u64 (adG Q D : Int)] W fun e w' => e = .returned (.int .u64 (adK P N Q D : Int)) ∧ Below W.heap.size W w' from by
    have h := rcommon_any R (adG Q D) W (by omega) (by omega)
    rwa [← HKE.out] at h)
  have HTE := hide (show P * ((D / adG Q D : Nat) : Int) + N * ((Q / adG Q D : Nat) : Int) = adT P N Q D from rfl)
  have HNE := hide (show adT P N Q D / (adK P N Q D : Int) = adN P N Q D from rfl)
  rw [HTE.out] at HAD
  rw [HNE.out] at HDK
  obtain ⟨rk, hrk⟩ : ∃ r, adT P N Q D % (adK P N Q D : Int) = r := ⟨_, rfl⟩
  obtain ⟨qg, hqg⟩ : ∃ r, adT P N Q D / (adG Q D : Int) = r := ⟨_, rfl⟩
  rw [hrk] at HDK
  rw [hqg] at HDG
  clear hrk hqg hk hR hr0 hT htw hnw pw nw p1 p2 n1 n2 HTE HNE HKE hmm
  obtain ⟨V, hV⟩ : ∃ V, adV P N Q D = V := ⟨_, rfl⟩
  rw [hV] at HV ⊢
  generalize adN P N Q D = U at *
  generalize adM P N Q D = M at *
  generalize adT P N Q D = T at *
  generalize adK P N Q D = k at *
  generalize adG Q D = g at *
  obtain ⟨qg', hqg'⟩ : ∃ x, Q / g = x := ⟨_, rfl⟩
  obtain ⟨dg', hdg'⟩ : ∃ x, D / g = x := ⟨_, rfl⟩
  obtain ⟨dk', hdk'⟩ : ∃ x, D / k = x := ⟨_, rfl⟩
  rw [hqg'] at HMB HAD HWM htq hql
  rw [hdg'] at HMA HAD htd hdl
  rw [hdk'] at HWM htk hdk
  obtain ⟨XA, hXA⟩ : ∃ x, P * (dg' : Int) = x := ⟨_, rfl⟩
  obtain ⟨XB, hXB⟩ : ∃ x, N * (qg' : Int) = x := ⟨_, rfl⟩
  rw [hXA] at HMA HAD
  rw [hXB] at HMB HAD
  clear hV hqg' hdg' hdk' hXA hXB
  have hgz : ¬ (g : Int) = 0 := by omega
  have hgz2 : ¬ g = 0 := by omega
  have hkz : ¬ (k : Int) = 0 := by omega
  have hkz2 : ¬ k = 0 := by omega
  have hwR := m64_wrap R (by omega)
  have hwdg : IntKind.i64.wrap (dg' : Int) = dg' := IntWalk.i64_in _ (by omega)
  have hwqg : IntKind.i64.wrap (qg' : Int) = qg' := IntWalk.i64_in _ (by omega)
  have hwdk : IntKind.i64.wrap (dk' : Int) = dk' := IntWalk.i64_in _ (by omega)
  have hwg := m64_wrap g (by omega)
  simp only [ratV, wideV] at HMA HMB HAD HDG HDK HFT HV ⊢
  go_enter Tryz.func23, Tryz.ntmps23
  go_wp2_with fail
  refine (HG.out _ (HT0.out.call (by (repeat' exact bel)))).mono ?_
  rintro e w1 ⟨rfl, hb1⟩
  have HS1 := hide (H0.out.call hb1)
  clear hb1
  go_wp2_with fail
  go_cut [10, 11] (fun s10 s11 wx => ∃ b1 b2, s10 = .pointer (some ⟨b1, 0, none⟩) ∧ s11 = .pointer (some ⟨b2, 0, none⟩) ∧ Hid (SuS P N Q D w wx ∧ BlkIs wx b1 (wideCs XA) 88 ∧ BlkIs wx b2 (wideCs XB) 88))
  case first =>
    have HSZ := hide (HS1.out.call (by (repeat' exact bel) : Below w1.heap.size w1 w1.drew))
    have HSW := hide HSZ.out.1.cells
    refine wp_region_held_drew (S := fun w' => (w'.cell? ⟨w.heap.size, 0, none⟩ = some (.int .i64 P) ∧ w'.cell? ⟨w.heap.size, 1, none⟩ = some (.int .i64 (Q : Int))) ∧ (w'.cell? ⟨w.heap.size + 1, 0, none⟩ = some (.int .i64 N) ∧ w'.cell? ⟨w.heap.size + 1, 1, none⟩ = some (.int .i64 (D : Int)))) (by kernel_rfl) HSW.out (fun _ => ?_)
    generalize w1.drew = w2 at *
    refine wpAnyH_take (i := 0) (v := ?_) rfl (by kernel_rfl) (by kernel_rfl) (by kernel_rfl) (fun _ _ _ h => h) (Or.inl ⟨by rfl, ?_⟩) (HSW.out) ?_
    rotate_left
    · (intro wz hz; obtain ⟨⟨z0, z1⟩, z2, z3⟩ := hz; go_simp; try with_reducible rfl)
    refine wpAnyH_take (i := 1) (v := ?_) rfl (by kernel_rfl) (by kernel_rfl) (by kernel_rfl) (fun _ _ _ h => h) (Or.inl ⟨by rfl, ?_⟩) (HSW.out) ?_
    rotate_left
    · (intro wz hz; obtain ⟨⟨z0, z1⟩, z2, z3⟩ := hz; go_simp; try with_reducible rfl)
    refine wpAnyH_take (i := 2) (v := ?_) rfl (by kernel_rfl) (by kernel_rfl) (by kernel_rfl) (fun _ _ _ h => h) (Or.inl ⟨by rfl, ?_⟩) (HSW.out) ?_
    rotate_left
    · (intro wz hz; obtain ⟨⟨z0, z1⟩, z2, z3⟩ := hz; go_simp; try with_reducible rfl)
    refine wpAnyH_take (i := 3) (v := ?_) rfl (by kernel_rfl) (by kernel_rfl) (by kernel_rfl) (fun _ _ _ h => h) (Or.inl ⟨by rfl, ?_⟩) (HSW.out) ?_
    rotate_left
    · (intro wz hz; obtain ⟨⟨z0, z1⟩, z2, z3⟩ := hz; go_simp; try with_reducible rfl)
    refine wpAnyH_take (i := 4) (v := ?_) rfl (by kernel_rfl) (by kernel_rfl) (by kernel_rfl) (fun _ _ _ h => h) (Or.inl ⟨by rfl, ?_⟩) (HSW.out) ?_
    rotate_left
    · (intro wz hz; obtain ⟨⟨z0, z1⟩, z2, z3⟩ := hz; go_simp; try with_reducible rfl)
    refine wpAnyH_take (i := 5) (v := ?_) rfl (by kernel_rfl) (by kernel_rfl) (by kernel_rfl) (fun _ _ _ h => h) (Or.inl ⟨by rfl, ?_⟩) (HSW.out) ?_
    rotate_left
    · (intro wz hz; obtain ⟨⟨z0, z1⟩, z2, z3⟩ := hz; go_simp; try with_reducible rfl)
    refine wpAnyH_take (i := 7) (v := ?_) rfl (by kernel_rfl) (by kernel_rfl) (by kernel_rfl) (fun _ _ _ h => h) (Or.inl ⟨by rfl, ?_⟩) (HSW.out) ?_
    rotate_left
    · (intro wz hz; obtain ⟨⟨z0, z1⟩, z2, z3⟩ := hz; go_simp; try with_reducible rfl)
    refine wpAnyH_take (i := 8) (v := ?_) rfl (by kernel_rfl) (by kernel_rfl) (by kernel_rfl) (fun _ _ _ h => h) (Or.inl ⟨by rfl, ?_⟩) (HSW.out) ?_
    rotate_left
    · (intro wz hz; obtain ⟨⟨z0, z1⟩, z2, z3⟩ := hz; go_simp; try with_reducible rfl)
    refine wpAnyH_take (i := 9) (v := ?_) rfl (by kernel_rfl) (by kernel_rfl) (by kernel_rfl) (fun _ _ _ h => h) (Or.inl ⟨by rfl, ?_⟩) (HSW.out) ?_
    rotate_left
    · (intro wz hz; obtain ⟨⟨z0, z1⟩, z2, z3⟩ := hz; go_simp; try with_reducible rfl)
    refine wpAnyH_take (i := 10) (v := ?_) rfl (by kernel_rfl) (by kernel_rfl) (by kernel_rfl) (fun _ _ _ h => h) (Or.inl ⟨by rfl, ?_⟩) (HSW.out) ?_
    rotate_left
    · (intro wz hz; obtain ⟨⟨z0, z1⟩, z2, z3⟩ := hz; go_simp; try with_reducible rfl)
    refine wpAnyH_take (i := 11) (v := ?_) rfl (by kernel_rfl) (by kernel_rfl) (by kernel_rfl) (fun _ _ _ h => h) (Or.inl ⟨by rfl, ?_⟩) (HSW.out) ?_
    rotate_left
    · (intro wz hz; obtain ⟨⟨z0, z1⟩, z2, z3⟩ := hz; go_simp; try with_reducible rfl)
    refine wpAnyH_take (i := 12) (v := ?_) rfl (by kernel_rfl) (by kernel_rfl) (by kernel_rfl) (fun _ _ _ h => h) (Or.inl ⟨by rfl, ?_⟩) (HSW.out) ?_
    rotate_left
    · (intro wz hz; obtain ⟨⟨z0, z1⟩, z2, z3⟩ := hz; go_simp; try with_reducible rfl)
    refine wpAnyH_ready (rs := [6, 14, 15]) (by kernel_rfl) (by simp) ?_
    refine AllReadyH.cons rfl (fun K hK => ?_) ?_
    · go_simp
      refine (HMA.out _).mono ?_
      rintro e w11 ⟨rfl, hb⟩
      have HS11 := hide (HSZ.out.call hb)
      clear hb
      have hsw := hide HS11.out.1.cells
      refine hK.out _ _ hsw.out (fun _ => ?_)
      clear hK K
      refine wpAnyH_ready (rs := [13, 14, 15]) (by kernel_rfl) (by simp) ?_
      refine AllReadyH.cons rfl (fun K hK => ?_) ?_
      · go_simp
        refine (HMB.out _).mono ?_
        rintro e w12 ⟨rfl, hb⟩
        have HS12 := hide (HS11.out.call hb)
        clear hb
        have hsw := hide HS12.out.1.cells
        refine hK.out _ _ hsw.out (fun _ => ?_)
        clear hK K
        refine wpAnyH_ready (rs := [14, 15]) (by kernel_rfl) (by simp) ?_
        refine AllReadyH.cons rfl (fun K hK => ?_) ?_
        · go_simp
          have HS13 := hide (HS12.out.call (by (repeat' exact bel) : Below w12.heap.size w12 (w12.alloc (.cells #[.int .i64 0, .int .u64 0] 88))))
          have K1_13 := hide (BlkIs.new w12 #[.int .i64 0, .int .u64 0] 88)
          have hq1 := HS12.out.2.1.lt
          have hsw := hide HS13.out.1.cells
          refine hK.out _ _ hsw.out (fun _ => ?_)
          clear hK K
          generalize w12.alloc (.cells #[.int .i64 0, .int .u64 0] 88) = w13 at *
          refine wpAnyH_ready (rs := [15]) (by kernel_rfl) (by simp) ?_
          refine AllReadyH.cons rfl (fun K hK => ?_) AllReadyH.nil
          go_simp
          have HS14 := hide (HS13.out.call (by (repeat' exact bel) : Below w13.heap.size w13 (w13.alloc (.cells #[.int .i64 0, .int .u64 0] 88))))
          have K2_14 := hide (BlkIs.new w13 #[.int .i64 0, .int .u64 0] 88)
          have hq2 := HS13.out.2.1.lt
          have hne := K1_13.out.lt
          have K1_14 := hide (K1_13.out.alloc (.cells #[.int .i64 0, .int .u64 0] 88))
          have hsw := hide HS14.out.1.cells
          refine hK.out _ _ hsw.out (fun _ => ?_)
          clear hK K
          generalize w13.alloc (.cells #[.int .i64 0, .int .u64 0] 88) = w14 at *
          have hbb : w12.heap.size ≠ w13.heap.size := by omega
          obtain ⟨⟨x0, x1⟩, y0, y1, yz⟩ := rat_blk K1_14.out
          refine wpAnyH_ready (rs := [16]) (by kernel_rfl) (by simp) ?_
          refine AllReadyH.cons rfl (fun K hK => ?_) AllReadyH.nil
          go_simp
          have HT1 := hide (HS14.out.put hq1 (.int .i64 (XA / 18446744073709551616)) (.int .u64 (XA % 18446744073709551616)))
          have KA := hide (blk2_set1 (blk2_set0 K1_14.out (.int .i64 (XA / 18446744073709551616))) (.int .u64 (XA % 18446744073709551616)))
          have KB := hide (blk_far2 (blk_far2 K2_14.out (p := ⟨w12.heap.size, 0, none⟩) (fun e => hbb e.symm) (.int .i64 (XA / 18446744073709551616))) (p := ⟨w12.heap.size, 1, none⟩) (fun e => hbb e.symm) (.int .u64 (XA % 18446744073709551616)))
          have hsw := hide HT1.out.1.cells
          refine hK.out _ _ (hsw.out) (fun _ => ?_)
          clear hK K
          generalize ((w14.setCell ⟨w12.heap.size, 0, none⟩ (.int .i64 (XA / 18446744073709551616))).setCell ⟨w12.heap.size, 1, none⟩ (.int .u64 (XA % 18446744073709551616))) = wa at *
          obtain ⟨⟨x0, x1⟩, y0, y1, yz⟩ := rat_blk KB.out
          refine wpAnyH_ready (rs := [17]) (by kernel_rfl) (by simp) ?_
          refine AllReadyH.cons rfl (fun K hK => ?_) AllReadyH.nil
          go_simp
          have HT2 := hide (HT1.out.put hq2 (.int .i64 (XB / 18446744073709551616)) (.int .u64 (XB % 18446744073709551616)))
          have KD := hide (blk2_set1 (blk2_set0 KB.out (.int .i64 (XB / 18446744073709551616))) (.int .u64 (XB % 18446744073709551616)))
          have KC := hide (blk_far2 (blk_far2 KA.out (p := ⟨w13.heap.size, 0, none⟩) hbb (.int .i64 (XB / 18446744073709551616))) (p := ⟨w13.heap.size, 1, none⟩) hbb (.int .u64 (XB % 18446744073709551616)))
          have hsw2 := hide HT2.out.1.cells
          refine hK.out _ _ (hsw2.out) (fun _ => ?_)
          clear hK K
          refine wpAnyH_done (by kernel_rfl) ?_ _
          go_wp2_with fail
          go_meet
          exact ⟨_, _, rfl, rfl, hide ⟨HT2.out, KC.out, KD.out⟩⟩
        refine AllReadyH.cons rfl (fun K hK => ?_) AllReadyH.nil
        go_simp
        have HS15 := hide (HS12.out.call (by (repeat' exact bel) : Below w12.heap.size w12 (w12.alloc (.cells #[.int .i64 0, .int .u64 0] 88))))
        have K2_15 := hide (BlkIs.new w12 #[.int .i64 0, .int .u64 0] 88)
        have hq2 := HS12.out.2.1.lt
        have hsw := hide HS15.out.1.cells
        refine hK.out _ _ hsw.out (fun _ => ?_)
        clear hK K
        generalize w12.alloc (.cells #[.int .i64 0, .int .u64 0] 88) = w15 at *
        refine wpAnyH_ready (rs := [14]) (by kernel_rfl) (by simp) ?_
        refine AllReadyH.cons rfl (fun K hK => ?_) AllReadyH.nil
        go_simp
        have HS16 := hide (HS15.out.call (by (repeat' exact bel) : Below w15.heap.size w15 (w15.alloc (.cells #[.int .i64 0, .int .u64 0] 88))))
        have K1_16 := hide (BlkIs.new w15 #[.int .i64 0, .int .u64 0] 88)
        have hq1 := HS15.out.2.1.lt
        have hne := K2_15.out.lt
        have K2_16 := hide (K2_15.out.alloc (.cells #[.int .i64 0, .int .u64 0] 88))
        have hsw := hide HS16.out.1.cells
        refine hK.out _ _ hsw.out (fun _ => ?_)
        clear hK K
        generalize w15.alloc (.cells #[.int .i64 0, .int .u64 0] 88) = w16 at *
        have hbb : w15.heap.size ≠ w12.heap.size := by omega
        obtain ⟨⟨x0, x1⟩, y0, y1, yz⟩ := rat_blk K1_16.out
        refine wpAnyH_ready (rs := [16]) (by kernel_rfl) (by simp) ?_
        refine AllReadyH.cons rfl (fun K hK => ?_) AllReadyH.nil
        go_simp
        have HT1 := hide (HS16.out.put hq1 (.int .i64 (XA / 18446744073709551616)) (.int .u64 (XA % 18446744073709551616)))
        have KA := hide (blk2_set1 (blk2_set0 K1_16.out (.int .i64 (XA / 18446744073709551616))) (.int .u64 (XA % 18446744073709551616)))
        have KB := hide (blk_far2 (blk_far2 K2_16.out (p := ⟨w15.heap.size, 0, none⟩) (fun e => hbb e.symm) (.int .i64 (XA / 18446744073709551616))) (p := ⟨w15.heap.size, 1, none⟩) (fun e => hbb e.symm) (.int .u64 (XA % 18446744073709551616)))
        have hsw := hide HT1.out.1.cells
        refine hK.out _ _ (hsw.out) (fun _ => ?_)
        clear hK K
        generalize ((w16.setCell ⟨w15.heap.size, 0, none⟩ (.int .i64 (XA / 18446744073709551616))).setCell ⟨w15.heap.size, 1, none⟩ (.int .u64 (XA % 18446744073709551616))) = wa at *
        obtain ⟨⟨x0, x1⟩, y0, y1, yz⟩ := rat_blk KB.out
        refine wpAnyH_ready (rs := [17]) (by kernel_rfl) (by simp) ?_
        refine AllReadyH.cons rfl (fun K hK => ?_) AllReadyH.nil
        go_simp
        have HT2 := hide (HT1.out.put hq2 (.int .i64 (XB / 18446744073709551616)) (.int .u64 (XB % 18446744073709551616)))
        have KD := hide (blk2_set1 (blk2_set0 KB.out (.int .i64 (XB / 18446744073709551616))) (.int .u64 (XB % 18446744073709551616)))
        have KC := hide (blk_far2 (blk_far2 KA.out (p := ⟨w12.heap.size, 0, none⟩) hbb (.int .i64 (XB / 18446744073709551616))) (p := ⟨w12.heap.size, 1, none⟩) hbb (.int .u64 (XB % 18446744073709551616)))
        have hsw2 := hide HT2.out.1.cells
        refine hK.out _ _ (hsw2.out) (fun _ => ?_)
        clear hK K
        refine wpAnyH_done (by kernel_rfl) ?_ _
        go_wp2_with fail
        go_meet
        exact ⟨_, _, rfl, rfl, hide ⟨HT2.out, KC.out, KD.out⟩⟩
      refine AllReadyH.cons rfl (fun K hK => ?_) ?_
      · go_simp
        have HS17 := hide (HS11.out.call (by (repeat' exact bel) : Below w11.heap.size w11 (w11.alloc (.cells #[.int .i64 0, .int .u64 0] 88))))
        have K1_17 := hide (BlkIs.new w11 #[.int .i64 0, .int .u64 0] 88)
        have hq1 := HS11.out.2.1.lt
        have hsw := hide HS17.out.1.cells
        refine hK.out _ _ hsw.out (fun _ => ?_)
        clear hK K
        generalize w11.alloc (.cells #[.int .i64 0, .int .u64 0] 88) = w17 at *
        refine wpAnyH_ready (rs := [13, 15]) (by kernel_rfl) (by simp) ?_
        refine AllReadyH.cons rfl (fun K hK => ?_) ?_
        · go_simp
          refine (HMB.out _).mono ?_
          rintro e w18 ⟨rfl, hb⟩
          have HS18 := hide (HS17.out.call hb)
          have K1_18 := hide (K1_17.out.call hb)
          clear hb
          have hsw := hide HS18.out.1.cells
          refine hK.out _ _ hsw.out (fun _ => ?_)
          clear hK K
          refine wpAnyH_ready (rs := [15]) (by kernel_rfl) (by simp) ?_
          refine AllReadyH.cons rfl (fun K hK => ?_) AllReadyH.nil
          go_simp
          have HS19 := hide (HS18.out.call (by (repeat' exact bel) : Below w18.heap.size w18 (w18.alloc (.cells #[.int .i64 0, .int .u64 0] 88))))
          have K2_19 := hide (BlkIs.new w18 #[.int .i64 0, .int .u64 0] 88)
          have hq2 := HS18.out.2.1.lt
          have hne := K1_18.out.lt
          have K1_19 := hide (K1_18.out.alloc (.cells #[.int .i64 0, .int .u64 0] 88))
          have hsw := hide HS19.out.1.cells
          refine hK.out _ _ hsw.out (fun _ => ?_)
          clear hK K
          generalize w18.alloc (.cells #[.int .i64 0, .int .u64 0] 88) = w19 at *
          have hbb : w11.heap.size ≠ w18.heap.size := by omega
          obtain ⟨⟨x0, x1⟩, y0, y1, yz⟩ := rat_blk K1_19.out
          refine wpAnyH_ready (rs := [16]) (by kernel_rfl) (by simp) ?_
          refine AllReadyH.cons rfl (fun K hK => ?_) AllReadyH.nil
          go_simp
          have HT1 := hide (HS19.out.put hq1 (.int .i64 (XA / 18446744073709551616)) (.int .u64 (XA % 18446744073709551616)))
          have KA := hide (blk2_set1 (blk2_set0 K1_19.out (.int .i64 (XA / 18446744073709551616))) (.int .u64 (XA % 18446744073709551616)))
          have KB := hide (blk_far2 (blk_far2 K2_19.out (p := ⟨w11.heap.size, 0, none⟩) (fun e => hbb e.symm) (.int .i64 (XA / 18446744073709551616))) (p := ⟨w11.heap.size, 1, none⟩) (fun e => hbb e.symm) (.int .u64 (XA % 18446744073709551616)))
          have hsw := hide HT1.out.1.cells
          refine hK.out _ _ (hsw.out) (fun _ => ?_)
          clear hK K
          generalize ((w19.setCell ⟨w11.heap.size, 0, none⟩ (.int .i64 (XA / 18446744073709551616))).setCell ⟨w11.heap.size, 1, none⟩ (.int .u64 (XA % 18446744073709551616))) = wa at *
          obtain ⟨⟨x0, x1⟩, y0, y1, yz⟩ := rat_blk KB.out
          refine wpAnyH_ready (rs := [17]) (by kernel_rfl) (by simp) ?_
          refine AllReadyH.cons rfl (fun K hK => ?_) AllReadyH.nil
          go_simp
          have HT2 := hide (HT1.out.put hq2 (.int .i64 (XB / 18446744073709551616)) (.int .u64 (XB % 18446744073709551616)))
          have KD := hide (blk2_set1 (blk2_set0 KB.out (.int .i64 (XB / 18446744073709551616))) (.int .u64 (XB % 18446744073709551616)))
          have KC := hide (blk_far2 (blk_far2 KA.out (p := ⟨w18.heap.size, 0, none⟩) hbb (.int .i64 (XB / 18446744073709551616))) (p := ⟨w18.heap.size, 1, none⟩) hbb (.int .u64 (XB % 18446744073709551616)))
          have hsw2 := hide HT2.out.1.cells
          refine hK.out _ _ (hsw2.out) (fun _ => ?_)
          clear hK K
          refine wpAnyH_done (by kernel_rfl) ?_ _
          go_wp2_with fail
          go_meet
          exact ⟨_, _, rfl, rfl, hide ⟨HT2.out, KC.out, KD.out⟩⟩
        refine AllReadyH.cons rfl (fun K hK => ?_) AllReadyH.nil
        go_simp
        have HS20 := hide (HS17.out.call (by (repeat' exact bel) : Below w17.heap.size w17 (w17.alloc (.cells #[.int .i64 0, .int .u64 0] 88))))
        have K2_20 := hide (BlkIs.new w17 #[.int .i64 0, .int .u64 0] 88)
        have hq2 := HS17.out.2.1.lt
        have hne := K1_17.out.lt
        have K1_20 := hide (K1_17.out.alloc (.cells #[.int .i64 0, .int .u64 0] 88))
        have hsw := hide HS20.out.1.cells
        refine hK.out _ _ hsw.out (fun _ => ?_)
        clear hK K
        generalize w17.alloc (.cells #[.int .i64 0, .int .u64 0] 88) = w20 at *
        refine wpAnyH_ready (rs := [13]) (by kernel_rfl) (by simp) ?_
        refine AllReadyH.cons rfl (fun K hK => ?_) AllReadyH.nil
        go_simp
        refine (HMB.out _).mono ?_
        rintro e w21 ⟨rfl, hb⟩
        have HS21 := hide (HS20.out.call hb)
        have K1_21 := hide (K1_20.out.call hb)
        have K2_21 := hide (K2_20.out.call hb)
        clear hb
        have hsw := hide HS21.out.1.cells
        refine hK.out _ _ hsw.out (fun _ => ?_)
        clear hK K
        have hbb : w11.heap.size ≠ w17.heap.size := by omega
        obtain ⟨⟨x0, x1⟩, y0, y1, yz⟩ := rat_blk K1_21.out
        refine wpAnyH_ready (rs := [16]) (by kernel_rfl) (by simp) ?_
        refine AllReadyH.cons rfl (fun K hK => ?_) AllReadyH.nil
        go_simp
        have HT1 := hide (HS21.out.put hq1 (.int .i64 (XA / 18446744073709551616)) (.int .u64 (XA % 18446744073709551616)))
        have KA := hide (blk2_set1 (blk2_set0 K1_21.out (.int .i64 (XA / 18446744073709551616))) (.int .u64 (XA % 18446744073709551616)))
        have KB := hide (blk_far2 (blk_far2 K2_21.out (p := ⟨w11.heap.size, 0, none⟩) (fun e => hbb e.symm) (.int .i64 (XA / 18446744073709551616))) (p := ⟨w11.heap.size, 1, none⟩) (fun e => hbb e.symm) (.int .u64 (XA % 18446744073709551616)))
        have hsw := hide HT1.out.1.cells
        refine hK.out _ _ (hsw.out) (fun _ => ?_)
        clear hK K
        generalize ((w21.setCell ⟨w11.heap.size, 0, none⟩ (.int .i64 (XA / 18446744073709551616))).setCell ⟨w11.heap.size, 1, none⟩ (.int .u64 (XA % 18446744073709551616))) = wa at *
        obtain ⟨⟨x0, x1⟩, y0, y1, yz⟩ := rat_blk KB.out
        refine wpAnyH_ready (rs := [17]) (by kernel_rfl) (by simp) ?_
        refine AllReadyH.cons rfl (fun K hK => ?_) AllReadyH.nil
        go_simp
        have HT2 := hide (HT1.out.put hq2 (.int .i64 (XB / 18446744073709551616)) (.int .u64 (XB % 18446744073709551616)))
        have KD := hide (blk2_set1 (blk2_set0 KB.out (.int .i64 (XB / 18446744073709551616))) (.int .u64 (XB % 18446744073709551616)))
        have KC := hide (blk_far2 (blk_far2 KA.out (p := ⟨w17.heap.size, 0, none⟩) hbb (.int .i64 (XB / 18446744073709551616))) (p := ⟨w17.heap.size, 1, none⟩) hbb (.int .u64 (XB % 18446744073709551616)))
        have hsw2 := hide HT2.out.1.cells
        refine hK.out _ _ (hsw2.out) (fun _ => ?_)
        clear hK K
        refine wpAnyH_done (by kernel_rfl) ?_ _
        go_wp2_with fail
        go_meet
        exact ⟨_, _, rfl, rfl, hide ⟨HT2.out, KC.out, KD.out⟩⟩
      refine AllReadyH.cons rfl (fun K hK => ?_) AllReadyH.nil
      go_simp
      have HS22 := hide (HS11.out.call (by (repeat' exact bel) : Below w11.heap.size w11 (w11.alloc (.cells #[.int .i64 0, .int .u64 0] 88))))
      have K2_22 := hide (BlkIs.new w11 #[.int .i64 0, .int .u64 0] 88)
      have hq2 := HS11.out.2.1.lt
      have hsw := hide HS22.out.1.cells
      refine hK.out _ _ hsw.out (fun _ => ?_)
      clear hK K
      generalize w11.alloc (.cells #[.int .i64 0, .int .u64 0] 88) = w22 at *
      refine wpAnyH_ready (rs := [13, 14]) (by kernel_rfl) (by simp) ?_
      refine AllReadyH.cons rfl (fun K hK => ?_) ?_
      · go_simp
        refine (HMB.out _).mono ?_
        rintro e w23 ⟨rfl, hb⟩
        have HS23 := hide (HS22.out.call hb)
        have K2_23 := hide (K2_22.out.call hb)
        clear hb
        have hsw := hide HS23.out.1.cells
        refine hK.out _ _ hsw.out (fun _ => ?_)
        clear hK K
        refine wpAnyH_ready (rs := [14]) (by kernel_rfl) (by simp) ?_
        refine AllReadyH.cons rfl (fun K hK => ?_) AllReadyH.nil
        go_simp
        have HS24 := hide (HS23.out.call (by (repeat' exact bel) : Below w23.heap.size w23 (w23.alloc (.cells #[.int .i64 0, .int .u64 0] 88))))
        have K1_24 := hide (BlkIs.new w23 #[.int .i64 0, .int .u64 0] 88)
        have hq1 := HS23.out.2.1.lt
        have hne := K2_23.out.lt
        have K2_24 := hide (K2_23.out.alloc (.cells #[.int .i64 0, .int .u64 0] 88))
        have hsw := hide HS24.out.1.cells
        refine hK.out _ _ hsw.out (fun _ => ?_)
        clear hK K
        generalize w23.alloc (.cells #[.int .i64 0, .int .u64 0] 88) = w24 at *
        have hbb : w23.heap.size ≠ w11.heap.size := by omega
        obtain ⟨⟨x0, x1⟩, y0, y1, yz⟩ := rat_blk K1_24.out
        refine wpAnyH_ready (rs := [16]) (by kernel_rfl) (by simp) ?_
        refine AllReadyH.cons rfl (fun K hK => ?_) AllReadyH.nil
        go_simp
        have HT1 := hide (HS24.out.put hq1 (.int .i64 (XA / 18446744073709551616)) (.int .u64 (XA % 18446744073709551616)))
        have KA := hide (blk2_set1 (blk2_set0 K1_24.out (.int .i64 (XA / 18446744073709551616))) (.int .u64 (XA % 18446744073709551616)))
        have KB := hide (blk_far2 (blk_far2 K2_24.out (p := ⟨w23.heap.size, 0, none⟩) (fun e => hbb e.symm) (.int .i64 (XA / 18446744073709551616))) (p := ⟨w23.heap.size, 1, none⟩) (fun e => hbb e.symm) (.int .u64 (XA % 18446744073709551616)))
        have hsw := hide HT1.out.1.cells
        refine hK.out _ _ (hsw.out) (fun _ => ?_)
        clear hK K
        generalize ((w24.setCell ⟨w23.heap.size, 0, none⟩ (.int .i64 (XA / 18446744073709551616))).setCell ⟨w23.heap.size, 1, none⟩ (.int .u64 (XA % 18446744073709551616))) = wa at *
        obtain ⟨⟨x0, x1⟩, y0, y1, yz⟩ := rat_blk KB.out
        refine wpAnyH_ready (rs := [17]) (by kernel_rfl) (by simp) ?_
        refine AllReadyH.cons rfl (fun K hK => ?_) AllReadyH.nil
        go_simp
        have HT2 := hide (HT1.out.put hq2 (.int .i64 (XB / 18446744073709551616)) (.int .u64 (XB % 18446744073709551616)))
        have KD := hide (blk2_set1 (blk2_set0 KB.out (.int .i64 (XB / 18446744073709551616))) (.int .u64 (XB % 18446744073709551616)))
        have KC := hide (blk_far2 (blk_far2 KA.out (p := ⟨w11.heap.size, 0, none⟩) hbb (.int .i64 (XB / 18446744073709551616))) (p := ⟨w11.heap.size, 1, none⟩) hbb (.int .u64 (XB % 18446744073709551616)))
        have hsw2 := hide HT2.out.1.cells
        refine hK.out _ _ (hsw2.out) (fun _ => ?_)
        clear hK K
        refine wpAnyH_done (by kernel_rfl) ?_ _
        go_wp2_with fail
        go_meet
        exact ⟨_, _, rfl, rfl, hide ⟨HT2.out, KC.out, KD.out⟩⟩
      refine AllReadyH.cons rfl (fun K hK => ?_) AllReadyH.nil
      go_simp
      have HS25 := hide (HS22.out.call (by (repeat' exact bel) : Below w22.heap.size w22 (w22.alloc (.cells #[.int .i64 0, .int .u64 0] 88))))
      have K1_25 := hide (BlkIs.new w22 #[.int .i64 0, .int .u64 0] 88)
      have hq1 := HS22.out.2.1.lt
      have hne := K2_22.out.lt
      have K2_25 := hide (K2_22.out.alloc (.cells #[.int .i64 0, .int .u64 0] 88))
      have hsw := hide HS25.out.1.cells
      refine hK.out _ _ hsw.out (fun _ => ?_)
      clear hK K
      generalize w22.alloc (.cells #[.int .i64 0, .int .u64 0] 88) = w25 at *
      refine wpAnyH_ready (rs := [13]) (by kernel_rfl) (by simp) ?_
      refine AllReadyH.cons rfl (fun K hK => ?_) AllReadyH.nil
      go_simp
      refine (HMB.out _).mono ?_
      rintro e w26 ⟨rfl, hb⟩
      have HS26 := hide (HS25.out.call hb)
      have K2_26 := hide (K2_25.out.call hb)
      have K1_26 := hide (K1_25.out.call hb)
      clear hb
      have hsw := hide HS26.out.1.cells
      refine hK.out _ _ hsw.out (fun _ => ?_)
      clear hK K
      have hbb : w22.heap.size ≠ w11.heap.size := by omega
      obtain ⟨⟨x0, x1⟩, y0, y1, yz⟩ := rat_blk K1_26.out
      refine wpAnyH_ready (rs := [16]) (by kernel_rfl) (by simp) ?_
      refine AllReadyH.cons rfl (fun K hK => ?_) AllReadyH.nil
      go_simp
      have HT1 := hide (HS26.out.put hq1 (.int .i64 (XA / 18446744073709551616)) (.int .u64 (XA % 18446744073709551616)))
      have KA := hide (blk2_set1 (blk2_set0 K1_26.out (.int .i64 (XA / 18446744073709551616))) (.int .u64 (XA % 18446744073709551616)))
      have KB := hide (blk_far2 (blk_far2 K2_26.out (p := ⟨w22.heap.size, 0, none⟩) (fun e => hbb e.symm) (.int .i64 (XA / 18446744073709551616))) (p := ⟨w22.heap.size, 1, none⟩) (fun e => hbb e.symm) (.int .u64 (XA % 18446744073709551616)))
      have hsw := hide HT1.out.1.cells
      refine hK.out _ _ (hsw.out) (fun _ => ?_)
      clear hK K
      generalize ((w26.setCell ⟨w22.heap.size, 0, none⟩ (.int .i64 (XA / 18446744073709551616))).setCell ⟨w22.heap.size, 1, none⟩ (.int .u64 (XA % 18446744073709551616))) = wa at *
      obtain ⟨⟨x0, x1⟩, y0, y1, yz⟩ := rat_blk KB.out
      refine wpAnyH_ready (rs := [17]) (by kernel_rfl) (by simp) ?_
      refine AllReadyH.cons rfl (fun K hK => ?_) AllReadyH.nil
      go_simp
      have HT2 := hide (HT1.out.put hq2 (.int .i64 (XB / 18446744073709551616)) (.int .u64 (XB % 18446744073709551616)))
      have KD := hide (blk2_set1 (blk2_set0 KB.out (.int .i64 (XB / 18446744073709551616))) (.int .u64 (XB % 18446744073709551616)))
      have KC := hide (blk_far2 (blk_far2 KA.out (p := ⟨w11.heap.size, 0, none⟩) hbb (.int .i64 (XB / 18446744073709551616))) (p := ⟨w11.heap.size, 1, none⟩) hbb (.int .u64 (XB % 18446744073709551616)))
      have hsw2 := hide HT2.out.1.cells
      refine hK.out _ _ (hsw2.out) (fun _ => ?_)
      clear hK K
      refine wpAnyH_done (by kernel_rfl) ?_ _
      go_wp2_with fail
      go_meet
      exact ⟨_, _, rfl, rfl, hide ⟨HT2.out, KC.out, KD.out⟩⟩
    refine AllReadyH.cons rfl (fun K hK => ?_) ?_
    · go_simp
      have HS27 := hide (HSZ.out.call (by (repeat' exact bel) : Below w2.heap.size w2 (w2.alloc (.cells #[.int .i64 0, .int .u64 0] 88))))
      have K1_27 := hide (BlkIs.new w2 #[.int .i64 0, .int .u64 0] 88)
      have hq1 := HSZ.out.2.1.lt
      have hsw := hide HS27.out.1.cells
      refine hK.out _ _ hsw.out (fun _ => ?_)
      clear hK K
      generalize w2.alloc (.cells #[.int .i64 0, .int .u64 0] 88) = w27 at *
      refine wpAnyH_ready (rs := [6, 15]) (by kernel_rfl) (by simp) ?_
      refine AllReadyH.cons rfl (fun K hK => ?_) ?_
      · go_simp
        refine (HMA.out _).mono ?_
        rintro e w28 ⟨rfl, hb⟩
        have HS28 := hide (HS27.out.call hb)
        have K1_28 := hide (K1_27.out.call hb)
        clear hb
        have hsw := hide HS28.out.1.cells
        refine hK.out _ _ hsw.out (fun _ => ?_)
        clear hK K
        refine wpAnyH_ready (rs := [13, 15]) (by kernel_rfl) (by simp) ?_
        refine AllReadyH.cons rfl (fun K hK => ?_) ?_
        · go_simp
          refine (HMB.out _).mono ?_
          rintro e w29 ⟨rfl, hb⟩
          have HS29 := hide (HS28.out.call hb)
          have K1_29 := hide (K1_28.out.call hb)
          clear hb
          have hsw := hide HS29.out.1.cells
          refine hK.out _ _ hsw.out (fun _ => ?_)
          clear hK K
          refine wpAnyH_ready (rs := [15]) (by kernel_rfl) (by simp) ?_
          refine AllReadyH.cons rfl (fun K hK => ?_) AllReadyH.nil
          go_simp
          have HS30 := hide (HS29.out.call (by (repeat' exact bel) : Below w29.heap.size w29 (w29.alloc (.cells #[.int .i64 0, .int .u64 0] 88))))
          have K2_30 := hide (BlkIs.new w29 #[.int .i64 0, .int .u64 0] 88)
          have hq2 := HS29.out.2.1.lt
          have hne := K1_29.out.lt
          have K1_30 := hide (K1_29.out.alloc (.cells #[.int .i64 0, .int .u64 0] 88))
          have hsw := hide HS30.out.1.cells
          refine hK.out _ _ hsw.out (fun _ => ?_)
          clear hK K
          generalize w29.alloc (.cells #[.int .i64 0, .int .u64 0] 88) = w30 at *
          have hbb : w2.heap.size ≠ w29.heap.size := by omega
          obtain ⟨⟨x0, x1⟩, y0, y1, yz⟩ := rat_blk K1_30.out
          refine wpAnyH_ready (rs := [16]) (by kernel_rfl) (by simp) ?_
          refine AllReadyH.cons rfl (fun K hK => ?_) AllReadyH.nil
          go_simp
          have HT1 := hide (HS30.out.put hq1 (.int .i64 (XA / 18446744073709551616)) (.int .u64 (XA % 18446744073709551616)))
          have KA := hide (blk2_set1 (blk2_set0 K1_30.out (.int .i64 (XA / 18446744073709551616))) (.int .u64 (XA % 18446744073709551616)))
          have KB := hide (blk_far2 (blk_far2 K2_30.out (p := ⟨w2.heap.size, 0, none⟩) (fun e => hbb e.symm) (.int .i64 (XA / 18446744073709551616))) (p := ⟨w2.heap.size, 1, none⟩) (fun e => hbb e.symm) (.int .u64 (XA % 18446744073709551616)))
          have hsw := hide HT1.out.1.cells
          refine hK.out _ _ (hsw.out) (fun _ => ?_)
          clear hK K
          generalize ((w30.setCell ⟨w2.heap.size, 0, none⟩ (.int .i64 (XA / 18446744073709551616))).setCell ⟨w2.heap.size, 1, none⟩ (.int .u64 (XA % 18446744073709551616))) = wa at *
          obtain ⟨⟨x0, x1⟩, y0, y1, yz⟩ := rat_blk KB.out
          refine wpAnyH_ready (rs := [17]) (by kernel_rfl) (by simp) ?_
          refine AllReadyH.cons rfl (fun K hK => ?_) AllReadyH.nil
          go_simp
          have HT2 := hide (HT1.out.put hq2 (.int .i64 (XB / 18446744073709551616)) (.int .u64 (XB % 18446744073709551616)))
          have KD := hide (blk2_set1 (blk2_set0 KB.out (.int .i64 (XB / 18446744073709551616))) (.int .u64 (XB % 18446744073709551616)))
          have KC := hide (blk_far2 (blk_far2 KA.out (p := ⟨w29.heap.size, 0, none⟩) hbb (.int .i64 (XB / 18446744073709551616))) (p := ⟨w29.heap.size, 1, none⟩) hbb (.int .u64 (XB % 18446744073709551616)))
          have hsw2 := hide HT2.out.1.cells
          refine hK.out _ _ (hsw2.out) (fun _ => ?_)
          clear hK K
          refine wpAnyH_done (by kernel_rfl) ?_ _
          go_wp2_with fail
          go_meet
          exact ⟨_, _, rfl, rfl, hide ⟨HT2.out, KC.out, KD.out⟩⟩
        refine AllReadyH.cons rfl (fun K hK => ?_) AllReadyH.nil
        go_simp
        have HS31 := hide (HS28.out.call (by (repeat' exact bel) : Below w28.heap.size w28 (w28.alloc (.cells #[.int .i64 0, .int .u64 0] 88))))
        have K2_31 := hide (BlkIs.new w28 #[.int .i64 0, .int .u64 0] 88)
        have hq2 := HS28.out.2.1.lt
        have hne := K1_28.out.lt
        have K1_31 := hide (K1_28.out.alloc (.cells #[.int .i64 0, .int .u64 0] 88))
        have hsw := hide HS31.out.1.cells
        refine hK.out _ _ hsw.out (fun _ => ?_)
        clear hK K
        generalize w28.alloc (.cells #[.int .i64 0, .int .u64 0] 88) = w31 at *
        refine wpAnyH_ready (rs := [13]) (by kernel_rfl) (by simp) ?_
        refine AllReadyH.cons rfl (fun K hK => ?_) AllReadyH.nil
        go_simp
        refine (HMB.out _).mono ?_
        rintro e w32 ⟨rfl, hb⟩
        have HS32 := hide (HS31.out.call hb)
        have K1_32 := hide (K1_31.out.call hb)
        have K2_32 := hide (K2_31.out.call hb)
        clear hb
        have hsw := hide HS32.out.1.cells
        refine hK.out _ _ hsw.out (fun _ => ?_)
        clear hK K
        have hbb : w2.heap.size ≠ w28.heap.size := by omega
        obtain ⟨⟨x0, x1⟩, y0, y1, yz⟩ := rat_blk K1_32.out
        refine wpAnyH_ready (rs := [16]) (by kernel_rfl) (by simp) ?_
        refine AllReadyH.cons rfl (fun K hK => ?_) AllReadyH.nil
        go_simp
        have HT1 := hide (HS32.out.put hq1 (.int .i64 (XA / 18446744073709551616)) (.int .u64 (XA % 18446744073709551616)))
        have KA := hide (blk2_set1 (blk2_set0 K1_32.out (.int .i64 (XA / 18446744073709551616))) (.int .u64 (XA % 18446744073709551616)))
        have KB := hide (blk_far2 (blk_far2 K2_32.out (p := ⟨w2.heap.size, 0, none⟩) (fun e => hbb e.symm) (.int .i64 (XA / 18446744073709551616))) (p := ⟨w2.heap.size, 1, none⟩) (fun e => hbb e.symm) (.int .u64 (XA % 18446744073709551616)))
        have hsw := hide HT1.out.1.cells
        refine hK.out _ _ (hsw.out) (fun _ => ?_)
        clear hK K
        generalize ((w32.setCell ⟨w2.heap.size, 0, none⟩ (.int .i64 (XA / 18446744073709551616))).setCell ⟨w2.heap.size, 1, none⟩ (.int .u64 (XA % 18446744073709551616))) = wa at *
        obtain ⟨⟨x0, x1⟩, y0, y1, yz⟩ := rat_blk KB.out
        refine wpAnyH_ready (rs := [17]) (by kernel_rfl) (by simp) ?_
        refine AllReadyH.cons rfl (fun K hK => ?_) AllReadyH.nil
        go_simp
        have HT2 := hide (HT1.out.put hq2 (.int .i64 (XB / 18446744073709551616)) (.int .u64 (XB % 18446744073709551616)))
        have KD := hide (blk2_set1 (blk2_set0 KB.out (.int .i64 (XB / 18446744073709551616))) (.int .u64 (XB % 18446744073709551616)))
        have KC := hide (blk_far2 (blk_far2 KA.out (p := ⟨w28.heap.size, 0, none⟩) hbb (.int .i64 (XB / 18446744073709551616))) (p := ⟨w28.heap.size, 1, none⟩) hbb (.int .u64 (XB % 18446744073709551616)))
        have hsw2 := hide HT2.out.1.cells
        refine hK.out _ _ (hsw2.out) (fun _ => ?_)
        clear hK K
        refine wpAnyH_done (by kernel_rfl) ?_ _
        go_wp2_with fail
        go_meet
        exact ⟨_, _, rfl, rfl, hide ⟨HT2.out, KC.out, KD.out⟩⟩
      refine AllReadyH.cons rfl (fun K hK => ?_) AllReadyH.nil
      go_simp
      have HS33 := hide (HS27.out.call (by (repeat' exact bel) : Below w27.heap.size w27 (w27.alloc (.cells #[.int .i64 0, .int .u64 0] 88))))
      have K2_33 := hide (BlkIs.new w27 #[.int .i64 0, .int .u64 0] 88)
      have hq2 := HS27.out.2.1.lt
      have hne := K1_27.out.lt
      have K1_33 := hide (K1_27.out.alloc (.cells #[.int .i64 0, .int .u64 0] 88))
      have hsw := hide HS33.out.1.cells
      refine hK.out _ _ hsw.out (fun _ => ?_)
      clear hK K
      generalize w27.alloc (.cells #[.int .i64 0, .int .u64 0] 88) = w33 at *
      refine wpAnyH_ready (rs := [6]) (by kernel_rfl) (by simp) ?_
      refine AllReadyH.cons rfl (fun K hK => ?_) AllReadyH.nil
      go_simp
      refine (HMA.out _).mono ?_
      rintro e w34 ⟨rfl, hb⟩
      have HS34 := hide (HS33.out.call hb)
      have K1_34 := hide (K1_33.out.call hb)
      have K2_34 := hide (K2_33.out.call hb)
      clear hb
      have hsw := hide HS34.out.1.cells
      refine hK.out _ _ hsw.out (fun _ => ?_)
      clear hK K
      refine wpAnyH_ready (rs := [13]) (by kernel_rfl) (by simp) ?_
      refine AllReadyH.cons rfl (fun K hK => ?_) AllReadyH.nil
      go_simp
      refine (HMB.out _).mono ?_
      rintro e w35 ⟨rfl, hb⟩
      have HS35 := hide (HS34.out.call hb)
      have K1_35 := hide (K1_34.out.call hb)
      have K2_35 := hide (K2_34.out.call hb)
      clear hb
      have hsw := hide HS35.out.1.cells
      refine hK.out _ _ hsw.out (fun _ => ?_)
      clear hK K
      have hbb : w2.heap.size ≠ w27.heap.size := by omega
      obtain ⟨⟨x0, x1⟩, y0, y1, yz⟩ := rat_blk K1_35.out
      refine wpAnyH_ready (rs := [16]) (by kernel_rfl) (by simp) ?_
      refine AllReadyH.cons rfl (fun K hK => ?_) AllReadyH.nil
      go_simp
      have HT1 := hide (HS35.out.put hq1 (.int .i64 (XA / 18446744073709551616)) (.int .u64 (XA % 18446744073709551616)))
      have KA := hide (blk2_set1 (blk2_set0 K1_35.out (.int .i64 (XA / 18446744073709551616))) (.int .u64 (XA % 18446744073709551616)))
      have KB := hide (blk_far2 (blk_far2 K2_35.out (p := ⟨w2.heap.size, 0, none⟩) (fun e => hbb e.symm) (.int .i64 (XA / 18446744073709551616))) (p := ⟨w2.heap.size, 1, none⟩) (fun e => hbb e.symm) (.int .u64 (XA % 18446744073709551616)))
      have hsw := hide HT1.out.1.cells
      refine hK.out _ _ (hsw.out) (fun _ => ?_)
      clear hK K
      generalize ((w35.setCell ⟨w2.heap.size, 0, none⟩ (.int .i64 (XA / 18446744073709551616))).setCell ⟨w2.heap.size, 1, none⟩ (.int .u64 (XA % 18446744073709551616))) = wa at *
      obtain ⟨⟨x0, x1⟩, y0, y1, yz⟩ := rat_blk KB.out
      refine wpAnyH_ready (rs := [17]) (by kernel_rfl) (by simp) ?_
      refine AllReadyH.cons rfl (fun K hK => ?_) AllReadyH.nil
      go_simp
      have HT2 := hide (HT1.out.put hq2 (.int .i64 (XB / 18446744073709551616)) (.int .u64 (XB % 18446744073709551616)))
      have KD := hide (blk2_set1 (blk2_set0 KB.out (.int .i64 (XB / 18446744073709551616))) (.int .u64 (XB % 18446744073709551616)))
      have KC := hide (blk_far2 (blk_far2 KA.out (p := ⟨w27.heap.size, 0, none⟩) hbb (.int .i64 (XB / 18446744073709551616))) (p := ⟨w27.heap.size, 1, none⟩) hbb (.int .u64 (XB % 18446744073709551616)))
      have hsw2 := hide HT2.out.1.cells
      refine hK.out _ _ (hsw2.out) (fun _ => ?_)
      clear hK K
      refine wpAnyH_done (by kernel_rfl) ?_ _
      go_wp2_with fail
      go_meet
      exact ⟨_, _, rfl, rfl, hide ⟨HT2.out, KC.out, KD.out⟩⟩
    refine AllReadyH.cons rfl (fun K hK => ?_) AllReadyH.nil
    go_simp
    have HS36 := hide (HSZ.out.call (by (repeat' exact bel) : Below w2.heap.size w2 (w2.alloc (.cells #[.int .i64 0, .int .u64 0] 88))))
    have K2_36 := hide (BlkIs.new w2 #[.int .i64 0, .int .u64 0] 88)
    have hq2 := HSZ.out.2.1.lt
    have hsw := hide HS36.out.1.cells
    refine hK.out _ _ hsw.out (fun _ => ?_)
    clear hK K
    generalize w2.alloc (.cells #[.int .i64 0, .int .u64 0] 88) = w36 at *
    refine wpAnyH_ready (rs := [6, 14]) (by kernel_rfl) (by simp) ?_
    refine AllReadyH.cons rfl (fun K hK => ?_) ?_
    · go_simp
      refine (HMA.out _).mono ?_
      rintro e w37 ⟨rfl, hb⟩
      have HS37 := hide (HS36.out.call hb)
      have K2_37 := hide (K2_36.out.call hb)
      clear hb
      have hsw := hide HS37.out.1.cells
      refine hK.out _ _ hsw.out (fun _ => ?_)
      clear hK K
      refine wpAnyH_ready (rs := [13, 14]) (by kernel_rfl) (by simp) ?_
      refine AllReadyH.cons rfl (fun K hK => ?_) ?_
      · go_simp
        refine (HMB.out _).mono ?_
        rintro e w38 ⟨rfl, hb⟩
        have HS38 := hide (HS37.out.call hb)
        have K2_38 := hide (K2_37.out.call hb)
        clear hb
        have hsw := hide HS38.out.1.cells
        refine hK.out _ _ hsw.out (fun _ => ?_)
        clear hK K
        refine wpAnyH_ready (rs := [14]) (by kernel_rfl) (by simp) ?_
        refine AllReadyH.cons rfl (fun K hK => ?_) AllReadyH.nil
        go_simp
        have HS39 := hide (HS38.out.call (by (repeat' exact bel) : Below w38.heap.size w38 (w38.alloc (.cells #[.int .i64 0, .int .u64 0] 88))))
        have K1_39 := hide (BlkIs.new w38 #[.int .i64 0, .int .u64 0] 88)
        have hq1 := HS38.out.2.1.lt
        have hne := K2_38.out.lt
        have K2_39 := hide (K2_38.out.alloc (.cells #[.int .i64 0, .int .u64 0] 88))
        have hsw := hide HS39.out.1.cells
        refine hK.out _ _ hsw.out (fun _ => ?_)
        clear hK K
        generalize w38.alloc (.cells #[.int .i64 0, .int .u64 0] 88) = w39 at *
        have hbb : w38.heap.size ≠ w2.heap.size := by omega
        obtain ⟨⟨x0, x1⟩, y0, y1, yz⟩ := rat_blk K1_39.out
        refine wpAnyH_ready (rs := [16]) (by kernel_rfl) (by simp) ?_
        refine AllReadyH.cons rfl (fun K hK => ?_) AllReadyH.nil
        go_simp
        have HT1 := hide (HS39.out.put hq1 (.int .i64 (XA / 18446744073709551616)) (.int .u64 (XA % 18446744073709551616)))
        have KA := hide (blk2_set1 (blk2_set0 K1_39.out (.int .i64 (XA / 18446744073709551616))) (.int .u64 (XA % 18446744073709551616)))
        have KB := hide (blk_far2 (blk_far2 K2_39.out (p := ⟨w38.heap.size, 0, none⟩) (fun e => hbb e.symm) (.int .i64 (XA / 18446744073709551616))) (p := ⟨w38.heap.size, 1, none⟩) (fun e => hbb e.symm) (.int .u64 (XA % 18446744073709551616)))
        have hsw := hide HT1.out.1.cells
        refine hK.out _ _ (hsw.out) (fun _ => ?_)
        clear hK K
        generalize ((w39.setCell ⟨w38.heap.size, 0, none⟩ (.int .i64 (XA / 18446744073709551616))).setCell ⟨w38.heap.size, 1, none⟩ (.int .u64 (XA % 18446744073709551616))) = wa at *
        obtain ⟨⟨x0, x1⟩, y0, y1, yz⟩ := rat_blk KB.out
        refine wpAnyH_ready (rs := [17]) (by kernel_rfl) (by simp) ?_
        refine AllReadyH.cons rfl (fun K hK => ?_) AllReadyH.nil
        go_simp
        have HT2 := hide (HT1.out.put hq2 (.int .i64 (XB / 18446744073709551616)) (.int .u64 (XB % 18446744073709551616)))
        have KD := hide (blk2_set1 (blk2_set0 KB.out (.int .i64 (XB / 18446744073709551616))) (.int .u64 (XB % 18446744073709551616)))
        have KC := hide (blk_far2 (blk_far2 KA.out (p := ⟨w2.heap.size, 0, none⟩) hbb (.int .i64 (XB / 18446744073709551616))) (p := ⟨w2.heap.size, 1, none⟩) hbb (.int .u64 (XB % 18446744073709551616)))
        have hsw2 := hide HT2.out.1.cells
        refine hK.out _ _ (hsw2.out) (fun _ => ?_)
        clear hK K
        refine wpAnyH_done (by kernel_rfl) ?_ _
        go_wp2_with fail
        go_meet
        exact ⟨_, _, rfl, rfl, hide ⟨HT2.out, KC.out, KD.out⟩⟩
      refine AllReadyH.cons rfl (fun K hK => ?_) AllReadyH.nil
      go_simp
      have HS40 := hide (HS37.out.call (by (repeat' exact bel) : Below w37.heap.size w37 (w37.alloc (.cells #[.int .i64 0, .int .u64 0] 88))))
      have K1_40 := hide (BlkIs.new w37 #[.int .i64 0, .int .u64 0] 88)
      have hq1 := HS37.out.2.1.lt
      have hne := K2_37.out.lt
      have K2_40 := hide (K2_37.out.alloc (.cells #[.int .i64 0, .int .u64 0] 88))
      have hsw := hide HS40.out.1.cells
      refine hK.out _ _ hsw.out (fun _ => ?_)
      clear hK K
      generalize w37.alloc (.cells #[.int .i64 0, .int .u64 0] 88) = w40 at *
      refine wpAnyH_ready (rs := [13]) (by kernel_rfl) (by simp) ?_
      refine AllReadyH.cons rfl (fun K hK => ?_) AllReadyH.nil
      go_simp
      refine (HMB.out _).mono ?_
      rintro e w41 ⟨rfl, hb⟩
      have HS41 := hide (HS40.out.call hb)
      have K2_41 := hide (K2_40.out.call hb)
      have K1_41 := hide (K1_40.out.call hb)
      clear hb
      have hsw := hide HS41.out.1.cells
      refine hK.out _ _ hsw.out (fun _ => ?_)
      clear hK K
      have hbb : w37.heap.size ≠ w2.heap.size := by omega
      obtain ⟨⟨x0, x1⟩, y0, y1, yz⟩ := rat_blk K1_41.out
      refine wpAnyH_ready (rs := [16]) (by kernel_rfl) (by simp) ?_
      refine AllReadyH.cons rfl (fun K hK => ?_) AllReadyH.nil
      go_simp
      have HT1 := hide (HS41.out.put hq1 (.int .i64 (XA / 18446744073709551616)) (.int .u64 (XA % 18446744073709551616)))
      have KA := hide (blk2_set1 (blk2_set0 K1_41.out (.int .i64 (XA / 18446744073709551616))) (.int .u64 (XA % 18446744073709551616)))
      have KB := hide (blk_far2 (blk_far2 K2_41.out (p := ⟨w37.heap.size, 0, none⟩) (fun e => hbb e.symm) (.int .i64 (XA / 18446744073709551616))) (p := ⟨w37.heap.size, 1, none⟩) (fun e => hbb e.symm) (.int .u64 (XA % 18446744073709551616)))
      have hsw := hide HT1.out.1.cells
      refine hK.out _ _ (hsw.out) (fun _ => ?_)
      clear hK K
      generalize ((w41.setCell ⟨w37.heap.size, 0, none⟩ (.int .i64 (XA / 18446744073709551616))).setCell ⟨w37.heap.size, 1, none⟩ (.int .u64 (XA % 18446744073709551616))) = wa at *
      obtain ⟨⟨x0, x1⟩, y0, y1, yz⟩ := rat_blk KB.out
      refine wpAnyH_ready (rs := [17]) (by kernel_rfl) (by simp) ?_
      refine AllReadyH.cons rfl (fun K hK => ?_) AllReadyH.nil
      go_simp
      have HT2 := hide (HT1.out.put hq2 (.int .i64 (XB / 18446744073709551616)) (.int .u64 (XB % 18446744073709551616)))
      have KD := hide (blk2_set1 (blk2_set0 KB.out (.int .i64 (XB / 18446744073709551616))) (.int .u64 (XB % 18446744073709551616)))
      have KC := hide (blk_far2 (blk_far2 KA.out (p := ⟨w2.heap.size, 0, none⟩) hbb (.int .i64 (XB / 18446744073709551616))) (p := ⟨w2.heap.size, 1, none⟩) hbb (.int .u64 (XB % 18446744073709551616)))
      have hsw2 := hide HT2.out.1.cells
      refine hK.out _ _ (hsw2.out) (fun _ => ?_)
      clear hK K
      refine wpAnyH_done (by kernel_rfl) ?_ _
      go_wp2_with fail
      go_meet
      exact ⟨_, _, rfl, rfl, hide ⟨HT2.out, KC.out, KD.out⟩⟩
    refine AllReadyH.cons rfl (fun K hK => ?_) AllReadyH.nil
    go_simp
    have HS42 := hide (HS36.out.call (by (repeat' exact bel) : Below w36.heap.size w36 (w36.alloc (.cells #[.int .i64 0, .int .u64 0] 88))))
    have K1_42 := hide (BlkIs.new w36 #[.int .i64 0, .int .u64 0] 88)
    have hq1 := HS36.out.2.1.lt
    have hne := K2_36.out.lt
    have K2_42 := hide (K2_36.out.alloc (.cells #[.int .i64 0, .int .u64 0] 88))
    have hsw := hide HS42.out.1.cells
    refine hK.out _ _ hsw.out (fun _ => ?_)
    clear hK K
    generalize w36.alloc (.cells #[.int .i64 0, .int .u64 0] 88) = w42 at *
    refine wpAnyH_ready (rs := [6]) (by kernel_rfl) (by simp) ?_
    refine AllReadyH.cons rfl (fun K hK => ?_) AllReadyH.nil
    go_simp
    refine (HMA.out _).mono ?_
    rintro e w43 ⟨rfl, hb⟩
    have HS43 := hide (HS42.out.call hb)
    have K2_43 := hide (K2_42.out.call hb)
    have K1_43 := hide (K1_42.out.call hb)
    clear hb
    have hsw := hide HS43.out.1.cells
    refine hK.out _ _ hsw.out (fun _ => ?_)
    clear hK K
    refine wpAnyH_ready (rs := [13]) (by kernel_rfl) (by simp) ?_
    refine AllReadyH.cons rfl (fun K hK => ?_) AllReadyH.nil
    go_simp
    refine (HMB.out _).mono ?_
    rintro e w44 ⟨rfl, hb⟩
    have HS44 := hide (HS43.out.call hb)
    have K2_44 := hide (K2_43.out.call hb)
    have K1_44 := hide (K1_43.out.call hb)
    clear hb
    have hsw := hide HS44.out.1.cells
    refine hK.out _ _ hsw.out (fun _ => ?_)
    clear hK K
    have hbb : w36.heap.size ≠ w2.heap.size := by omega
    obtain ⟨⟨x0, x1⟩, y0, y1, yz⟩ := rat_blk K1_44.out
    refine wpAnyH_ready (rs := [16]) (by kernel_rfl) (by simp) ?_
    refine AllReadyH.cons rfl (fun K hK => ?_) AllReadyH.nil
    go_simp
    have HT1 := hide (HS44.out.put hq1 (.int .i64 (XA / 18446744073709551616)) (.int .u64 (XA % 18446744073709551616)))
    have KA := hide (blk2_set1 (blk2_set0 K1_44.out (.int .i64 (XA / 18446744073709551616))) (.int .u64 (XA % 18446744073709551616)))
    have KB := hide (blk_far2 (blk_far2 K2_44.out (p := ⟨w36.heap.size, 0, none⟩) (fun e => hbb e.symm) (.int .i64 (XA / 18446744073709551616))) (p := ⟨w36.heap.size, 1, none⟩) (fun e => hbb e.symm) (.int .u64 (XA % 18446744073709551616)))
    have hsw := hide HT1.out.1.cells
    refine hK.out _ _ (hsw.out) (fun _ => ?_)
    clear hK K
    generalize ((w44.setCell ⟨w36.heap.size, 0, none⟩ (.int .i64 (XA / 18446744073709551616))).setCell ⟨w36.heap.size, 1, none⟩ (.int .u64 (XA % 18446744073709551616))) = wa at *
    obtain ⟨⟨x0, x1⟩, y0, y1, yz⟩ := rat_blk KB.out
    refine wpAnyH_ready (rs := [17]) (by kernel_rfl) (by simp) ?_
    refine AllReadyH.cons rfl (fun K hK => ?_) AllReadyH.nil
    go_simp
    have HT2 := hide (HT1.out.put hq2 (.int .i64 (XB / 18446744073709551616)) (.int .u64 (XB % 18446744073709551616)))
    have KD := hide (blk2_set1 (blk2_set0 KB.out (.int .i64 (XB / 18446744073709551616))) (.int .u64 (XB % 18446744073709551616)))
    have KC := hide (blk_far2 (blk_far2 KA.out (p := ⟨w2.heap.size, 0, none⟩) hbb (.int .i64 (XB / 18446744073709551616))) (p := ⟨w2.heap.size, 1, none⟩) hbb (.int .u64 (XB % 18446744073709551616)))
    have hsw2 := hide HT2.out.1.cells
    refine hK.out _ _ (hsw2.out) (fun _ => ?_)
    clear hK K
    refine wpAnyH_done (by kernel_rfl) ?_ _
    go_wp2_with fail
    go_meet
    exact ⟨_, _, rfl, rfl, hide ⟨HT2.out, KC.out, KD.out⟩⟩
  case rest =>
    obtain ⟨b1, b2, rfl, rfl, HC⟩ := hcut
    have HSU := hide HC.out.1
    obtain ⟨⟨c0, c1⟩, _, _, hza⟩ := rat_blk HC.out.2.1
    obtain ⟨⟨d0, d1⟩, _, _, hzb⟩ := rat_blk HC.out.2.2
    clear HC
    go_wp2_with fail
    refine (HAD.out _).mono ?_
    rintro e w5 ⟨rfl, hb5⟩
    have HS5 := hide (HSU.out.call hb5)
    clear hb5 c0 c1 d0 d1 hza hzb
    go_wp2_with fail
    refine (HDG.out _).mono ?_
    rintro e w6 ⟨rfl, hb6⟩
    have HS6 := hide (HS5.out.call (ww hb6).out)
    have K6 := hide ((BlkIs.new w5 (wideCs T) 88).call hb6)
    have hl6 : w5.heap.size < w6.heap.size := K6.out.lt
    clear hb6
    go_wp2_with fail
    refine (HCM.out _).mono ?_
    rintro e w7 ⟨rfl, hb7⟩
    have HS7 := hide (HS6.out.call (ww hb7).out)
    have K7 := hide (K6.out.call (ww hb7).out)
    have hl7 : w5.heap.size < w7.heap.size := K7.out.lt
    clear hb7
    obtain ⟨⟨c0, c1⟩, _, _, hza⟩ := rat_blk K7.out
    go_wp2_with fail
    refine (HDK.out _).mono ?_
    rintro e w8 ⟨rfl, hb8⟩
    have HS8 := hide (HS7.out.call hb8)
    clear hb8 c0 c1 hza
    go_wp2_with fail
    refine (HFT.out _).mono ?_
    rintro e w9 ⟨rfl, hb9⟩
    have HS9 := hide (HS8.out.call (ww hb9).out)
    clear hb9
    by_cases hE : fitE U = 0
    rotate_left
    · have hEb : (fitE U != 0) = true := by simpa using hE
      have HVE := hide (show V = .agg #[.int .i64 0, .int .i64 0] by rw [HV.out, if_neg hE])
      obtain ⟨⟨r0, r1⟩, f0, f1, hsz⟩ := rat_blk HS9.out.2.1
      have hBel := HS9.out.2.2
      have hle := hBel.size
      clear hE
      obtain ⟨E, hEE⟩ : ∃ E, fitE U = E := ⟨_, rfl⟩
      have HEE := hide hEE
      rw [hEE] at hEb ⊢
      clear hEE
      go_wp2
      exact bodyPost_ret (v := .tuple #[.agg #[.int .i64 0, .int .i64 0], .int .i64 E]) (by simp (maxDischargeDepth := 9) [results, Tryz.results23, go_sem, r0, r1, f0, f1, hsz]) rfl ⟨by rw [HVE.out, HEE.out], by (repeat' exact bel)⟩
    have HVE := hide (show V = .agg #[.int .i64 U, .int .i64 (M : Int)] by rw [HV.out, if_pos hE])
    have HEE := hide hE
    rw [hE, HFV.out hE]
    clear hE
    go_wp2_with fail
    have HSZ2 := hide (HS9.out.call (by (repeat' exact bel) : Below w9.heap.size w9 w9.drew))
    have HSW2 := hide HSZ2.out.1.cells
    refine wp_region_held_drew (S := fun w' => (w'.cell? ⟨w.heap.size, 0, none⟩ = some (.int .i64 P) ∧ w'.cell? ⟨w.heap.size, 1, none⟩ = some (.int .i64 (Q : Int))) ∧ (w'.cell? ⟨w.heap.size + 1, 0, none⟩ = some (.int .i64 N) ∧ w'.cell? ⟨w.heap.size + 1, 1, none⟩ = some (.int .i64 (D : Int)))) (by kernel_rfl) HSW2.out (fun _ => ?_)
    generalize w9.drew = w10 at *
    refine wpAnyH_take (i := 0) (v := ?_) rfl (by kernel_rfl) (by kernel_rfl) (by kernel_rfl) (fun _ _ _ h => h) (Or.inl ⟨by rfl, ?_⟩) (HSW2.out) ?_
    rotate_left
    · (intro wz hz; obtain ⟨⟨z0, z1⟩, z2, z3⟩ := hz; go_simp; try with_reducible rfl)
    refine wpAnyH_take (i := 1) (v := ?_) rfl (by kernel_rfl) (by kernel_rfl) (by kernel_rfl) (fun _ _ _ h => h) (Or.inl ⟨by rfl, ?_⟩) (HSW2.out) ?_
    rotate_left
    · (intro wz hz; obtain ⟨⟨z0, z1⟩, z2, z3⟩ := hz; go_simp; try with_reducible rfl)
    refine wpAnyH_take (i := 2) (v := ?_) rfl (by kernel_rfl) (by kernel_rfl) (by kernel_rfl) (fun _ _ _ h => h) (Or.inl ⟨by rfl, ?_⟩) (HSW2.out) ?_
    rotate_left
    · (intro wz hz; obtain ⟨⟨z0, z1⟩, z2, z3⟩ := hz; go_simp; try with_reducible rfl)
    refine wpAnyH_take (i := 3) (v := ?_) rfl (by kernel_rfl) (by kernel_rfl) (by kernel_rfl) (fun _ _ _ h => h) (Or.inl ⟨by rfl, ?_⟩) (HSW2.out) ?_
    rotate_left
    · (intro wz hz; obtain ⟨⟨z0, z1⟩, z2, z3⟩ := hz; go_simp; try with_reducible rfl)
    refine wpAnyH_take (i := 4) (v := ?_) rfl (by kernel_rfl) (by kernel_rfl) (by kernel_rfl) (fun _ _ _ h => h) (Or.inl ⟨by rfl, ?_⟩) (HSW2.out) ?_
    rotate_left
    · (intro wz hz; obtain ⟨⟨z0, z1⟩, z2, z3⟩ := hz; go_simp; try with_reducible rfl)
    refine wpAnyH_take (i := 5) (v := ?_) rfl (by kernel_rfl) (by kernel_rfl) (by kernel_rfl) (fun _ _ _ h => h) (Or.inl ⟨by rfl, ?_⟩) (HSW2.out) ?_
    rotate_left
    · (intro wz hz; obtain ⟨⟨z0, z1⟩, z2, z3⟩ := hz; go_simp; try with_reducible rfl)
    refine wpAnyH_take (i := 6) (v := ?_) rfl (by kernel_rfl) (by kernel_rfl) (by kernel_rfl) (fun _ _ _ h => h) (Or.inl ⟨by rfl, ?_⟩) (HSW2.out) ?_
    rotate_left
    · (intro wz hz; obtain ⟨⟨z0, z1⟩, z2, z3⟩ := hz; go_simp; try with_reducible rfl)
    refine wpAnyH_take (i := 7) (v := ?_) rfl (by kernel_rfl) (by kernel_rfl) (by kernel_rfl) (fun _ _ _ h => h) (Or.inl ⟨by rfl, ?_⟩) (HSW2.out) ?_
    rotate_left
    · (intro wz hz; obtain ⟨⟨z0, z1⟩, z2, z3⟩ := hz; go_simp; try with_reducible rfl)
    refine wpAnyH_ready (rs := [8]) (by kernel_rfl) (by simp) ?_
    refine AllReadyH.cons rfl (fun K hK => ?_) AllReadyH.nil
    go_simp
    refine (HWM.out _).mono ?_
    rintro e w11 ⟨rfl, hb11⟩
    have HS11 := hide (HSZ2.out.call hb11)
    have HSW11 := hide HS11.out.1.cells
    clear hb11
    refine hK.out _ _ (HSW11.out) (fun _ => ?_)
    clear hK K
    refine wpAnyH_take (i := 9) (v := ?_) rfl (by kernel_rfl) (by kernel_rfl) (by kernel_rfl) (fun _ _ _ h => h) (Or.inl ⟨by rfl, ?_⟩) (HSW11.out) ?_
    rotate_left
    · (intro wz hz; obtain ⟨⟨z0, z1⟩, z2, z3⟩ := hz; go_simp; try with_reducible rfl)
    refine wpAnyH_take (i := 10) (v := ?_) rfl (by kernel_rfl) (by kernel_rfl) (by kernel_rfl) (fun _ _ _ h => h) (Or.inl ⟨by rfl, ?_⟩) (HSW11.out) ?_
    rotate_left
    · (intro wz hz; obtain ⟨⟨z0, z1⟩, z2, z3⟩ := hz; go_simp; try with_reducible rfl)
    refine wpAnyH_take (i := 11) (v := ?_) rfl (by kernel_rfl) (by kernel_rfl) (by kernel_rfl) (fun _ _ _ h => h) (Or.inl ⟨by rfl, ?_⟩) (HSW11.out) ?_
    rotate_left
    · (intro wz hz; obtain ⟨⟨z0, z1⟩, z2, z3⟩ := hz; go_simp; try with_reducible rfl)
    refine wpAnyH_take (i := 12) (v := ?_) rfl (by kernel_rfl) (by kernel_rfl) (by kernel_rfl) (fun _ _ _ h => h) (Or.inl ⟨by rfl, ?_⟩) (HSW11.out) ?_
    rotate_left
    · (intro wz hz; obtain ⟨⟨z0, z1⟩, z2, z3⟩ := hz; go_simp; try with_reducible rfl)
    refine wpAnyH_take (i := 13) (v := ?_) rfl (by kernel_rfl) (by kernel_rfl) (by kernel_rfl) (fun _ _ _ h => h) (Or.inl ⟨by rfl, ?_⟩) (HSW11.out) ?_
    rotate_left
    · (intro wz hz; obtain ⟨⟨z0, z1⟩, z2, z3⟩ := hz; go_simp; try with_reducible rfl)
    refine wpAnyH_done (by kernel_rfl) ?_ _
    obtain ⟨⟨r0, r1⟩, f0, f1, hsz⟩ := rat_blk HS11.out.2.1
    have hBel := HS11.out.2.2
    have hle := hBel.size
    go_simp
    go_wp2
    exact bodyPost_ret (v := .tuple #[.agg #[.int .i64 U, .int .i64 (M : Int)], .int .i64 0]) (by simp (maxDischargeDepth := 9) [results, Tryz.results23, go_sem, r0, r1, f0, f1, hsz]) rfl ⟨by rw [HVE.out, HEE.out], by (repeat' exact bel)⟩
end Go.Proofs.YtjhhmeoibfdcmaaGreatDoor
