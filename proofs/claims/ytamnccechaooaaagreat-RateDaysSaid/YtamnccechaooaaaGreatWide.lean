/- Numbers of two words: contracts of package wide. -/
import Derived.Test.YtamnccechaooaaaGreatWidePl
import Derived.Laws.Externs
import Derived.Lib.QuietBelow
import Derived.BigQuiet
namespace Go.Proofs.YtamnccechaooaaaGreat
open Go.RowKit Go.Sort
set_option linter.unusedSimpArgs false
set_option linter.unusedVariables false

theorem eqWide (d : Nat) (a b x y : Int) (w : World) : (Op.equalIn (d + 2) 121 (.agg #[.int .i64 a, .int .u64 b]) (.agg #[.int .i64 x, .int .u64 y])).run Tryz.prog w = .ok (a == x && b == y) w := by
  have u3 := Tryz.underlying2
  have a3 := Tryz.isAgg2
  have z3 := Tryz.sizeOf2
  have u4 := Tryz.underlying119
  have a4 := Tryz.isAgg119
  have z4 := Tryz.sizeOf119
  rw [run_equalIn_struct w _ _ _ _ (by simp [Program.fieldsOf, Tryz.underlying121]) (by kernel_rfl)]
  simp only [Program.fieldsOf, Tryz.underlying121]
  go_simp
  by_cases h1 : a = x <;> by_cases h2 : b = y <;> simp [h1, h2]
@[go_sem high] theorem eql_wide (a b x y : Int) (w : World) : (binOp .eql 121 (.agg #[.int .i64 a, .int .u64 b]) (.agg #[.int .i64 x, .int .u64 y])).run Tryz.prog w = .ok (.bool (a == x && b == y)) w := by
  rw [run_eql_struct, eqWide 9998]; rfl
theorem add64_run (x y c : Int) (h : 0 ≤ x ∧ 0 ≤ y ∧ 0 ≤ c ∧ c ≤ 1) (w : World) :
    (callFunc 102 #[.int .u64 x, .int .u64 y, .int .u64 c]).run Tryz.prog w = .ok (.value (.tuple #[.int .u64 ((x + y + c) % 18446744073709551616), .int .u64 ((x + y + c) / 18446744073709551616)])) w := by
  obtain ⟨h1, h2, h3, h4⟩ := h
  obtain ⟨a, rfl⟩ := Int.eq_ofNat_of_zero_le h1
  obtain ⟨b, rfl⟩ := Int.eq_ofNat_of_zero_le h2
  obtain ⟨d, rfl⟩ := Int.eq_ofNat_of_zero_le h3
  rw [run_callFunc_extern Tryz.func102 (by kernel_rfl) (by kernel_rfl) (by kernel_rfl) (e := add64Entry) (by kernel_rfl), run_add64 a b d (by omega) (by omega) (by omega) (by omega)]
  simp only [Result.andThen]

set_option maxHeartbeats 800000 in
theorem wof_any (a : Int) (w : World) (h : in64 a) : Calls Tryz.prog 65 #[.int .i64 a] w fun e w' => e = .returned (wideV a) ∧ Below w.heap.size w w' := by
  unfold in64 at h
  go_enter Tryz.func65, Tryz.ntmps65
  go_wp2
  exact bodyPost_ret (v := .agg #[.int .i64 (a / 9223372036854775808), .int .u64 (a % 18446744073709551616)]) (by simp [results, Tryz.results65, go_sem, IntKind.wrap_u64]) rfl ⟨ret_wd (by omega) rfl, by (repeat' exact bel)⟩

set_option maxRecDepth 100000 in
set_option maxHeartbeats 1600000 in
theorem wadd_ok (M N : Int) (w : World) (hM : wideOk M) (hN : wideOk N) (hS : wideOk (M + N)) : Calls Tryz.prog 64 #[wideV M, wideV N] w fun e w' => e = .returned (.tuple #[wideV (M + N), .int .i64 0]) ∧ Below w.heap.size w w' := by
  have ha := wd_hi hM
  have hb := wd_hi hN
  have hs := wd_hi hS
  obtain ⟨ah, hah⟩ : ∃ x, M / 18446744073709551616 = x := ⟨_, rfl⟩
  obtain ⟨al, hal⟩ : ∃ x, M % 18446744073709551616 = x := ⟨_, rfl⟩
  obtain ⟨bh, hbh⟩ : ∃ x, N / 18446744073709551616 = x := ⟨_, rfl⟩
  obtain ⟨bl, hbl⟩ : ∃ x, N % 18446744073709551616 = x := ⟨_, rfl⟩
  obtain ⟨sh, hsh⟩ : ∃ x, (M + N) / 18446744073709551616 = x := ⟨_, rfl⟩
  obtain ⟨sl, hsl⟩ : ∃ x, (M + N) % 18446744073709551616 = x := ⟨_, rfl⟩
  have k1 : 0 ≤ al ∧ al < 18446744073709551616 ∧ 0 ≤ bl ∧ bl < 18446744073709551616 := by omega
  obtain ⟨cr, hcr⟩ : ∃ x, (al + bl + 0) / 18446744073709551616 = x := ⟨_, rfl⟩
  have hlo : (al + bl + 0) % 18446744073709551616 = sl := by omega
  have k2 : 0 ≤ cr ∧ cr ≤ 1 := by omega
  have k3 : sh = ah + bh + cr := by omega
  rw [hah] at ha; rw [hbh] at hb; rw [hsh] at hs
  have e1 := fun w => add64_run al bl 0 (by omega) w
  rw [hlo, hcr] at e1
  have e2 := fun w => add64_run (IntKind.u64.wrap ah) (IntKind.u64.wrap bh) cr (by simp only [IntKind.wrap_u64]; omega) w
  obtain ⟨hu, hhu⟩ : ∃ x, (IntKind.u64.wrap ah + IntKind.u64.wrap bh + cr) % 18446744073709551616 = x := ⟨_, rfl⟩
  rw [hhu] at e2
  have hsw : IntKind.i64.wrap hu = sh := by unfold in64 at hs; rw [IntKind.wrap_i64]; simp only [IntKind.wrap_u64] at hhu; omega
  have HSG := hide (show ¬ (bits .and .i64 (bits .xor .i64 ah sh) (bits .xor .i64 bh sh) < 0) by rw [around ha hb hs]; omega)
  simp only [wideV, hah, hal, hbh, hbl, hsh, hsl]
  clear hhu hM hN hS hah hal hbh hbl hsh hsl k3
  go_enter Tryz.func64, Tryz.ntmps64
  go_wp2
  exact bodyPost_ret (v := .tuple #[.agg #[.int .i64 sh, .int .u64 sl], .int .i64 0]) (by simp [results, Tryz.results64, go_sem]) rfl ⟨rfl, by (repeat' exact bel)⟩

set_option maxRecDepth 100000 in
set_option maxHeartbeats 1600000 in
theorem wneg_ok (N : Int) (w : World) (hN : wideOk N) (h : wideOk (-N)) : Calls Tryz.prog 95 #[wideV N] w fun e w' => e = .returned (.tuple #[wideV (-N), .int .i64 0]) ∧ Below w.heap.size w w' := by
  have hh := wd_hi hN
  have e1 := not_i64 hh
  have e2 := not_u64 (b := N % 18446744073709551616) (by omega) (by omega)
  have k1 : -1 - N / 18446744073709551616 = (-N - 1) / 18446744073709551616 := by omega
  have k2 : 18446744073709551615 - N % 18446744073709551616 = (-N - 1) % 18446744073709551616 := by omega
  rw [k1] at e1
  rw [k2] at e2
  have HC := hide (fun w => wadd_ok (-N - 1) 1 w (by unfold wideOk at *; omega) (by unfold wideOk; omega) (by unfold wideOk at *; omega))
  have e3 : -N - 1 + 1 = -N := by omega
  rw [e3] at HC
  simp only [wideV] at HC ⊢
  simp only [show (1 : Int) / 18446744073709551616 = 0 by decide, show (1 : Int) % 18446744073709551616 = 1 by decide] at HC
  clear hh k1 k2 e3 hN h
  go_enter Tryz.func95, Tryz.ntmps95
  go_wp2_with fail
  refine (HC.out _).mono ?_
  rintro e w1 ⟨rfl, hb1⟩
  have r0 : w1.cell? ⟨w.heap.size + 1, 0, none⟩ = some (.int .i64 0) := by rw [hb1.cell (p := ⟨w.heap.size + 1, 0, none⟩) (by simp)]; simp
  have r1 : w1.cell? ⟨w.heap.size + 1, 1, none⟩ = some (.int .u64 0) := by rw [hb1.cell (p := ⟨w.heap.size + 1, 1, none⟩) (by simp)]; simp
  have f0 : w1.frozen? ⟨w.heap.size + 1, 0, none⟩ = false := by rw [hb1.frozen (p := ⟨w.heap.size + 1, 0, none⟩) (by simp)]; simp
  have f1 : w1.frozen? ⟨w.heap.size + 1, 1, none⟩ = false := by rw [hb1.frozen (p := ⟨w.heap.size + 1, 1, none⟩) (by simp)]; simp
  have hz1 : w.heap.size + 1 < w1.heap.size := by have := hb1.size; simp at this; omega
  have HB1 : Hid (Below w.heap.size w w1) := ww hb1
  clear hb1
  go_wp2
  exact bodyPost_ret (v := .tuple #[.agg #[.int .i64 (-N / 18446744073709551616), .int .u64 (-N % 18446744073709551616)], .int .i64 0]) (by simp (maxDischargeDepth := 9) [results, Tryz.results95, go_sem, r0, r1, f0, f1, hz1]) rfl ⟨rfl, (HB1.out.setCell (by simp) _).setCell (by simp) _⟩

set_option maxRecDepth 100000 in
set_option maxHeartbeats 1600000 in
theorem wfit_any (n : Int) (w : World) (h : wideOk n) : Calls Tryz.prog 63 #[wideV n] w fun e w' => e = .returned (.tuple #[.int .i64 (fitV n), .int .i64 (fitE n)]) ∧ Below w.heap.size w w' := by
  obtain ⟨m, hm⟩ : ∃ m, IntKind.i64.wrap (n % 18446744073709551616) = m := ⟨_, rfl⟩
  have hm2 := hm
  rw [IntKind.wrap_i64] at hm2
  have hmi : in64 m := by unfold in64; omega
  have HB := hide (show (m / 18446744073709551616 == n / 18446744073709551616 && m % 18446744073709551616 == n % 18446744073709551616) = fitB n by
    unfold fitB
    unfold wideOk at h
    rw [Bool.eq_iff_iff]
    simp only [Bool.and_eq_true, beq_iff_eq, decide_eq_true_eq]
    constructor <;> intro hh <;> omega)
  have HM := hide (show fitB n = true → m = n by unfold fitB; simp; omega)
  obtain ⟨nh, hnh⟩ : ∃ x, n / 18446744073709551616 = x := ⟨_, rfl⟩
  obtain ⟨nl, hnl⟩ : ∃ x, n % 18446744073709551616 = x := ⟨_, rfl⟩
  simp only [wideV]
  rw [hnl] at hm
  rw [hnh, hnl] at HB ⊢
  have HI := hide hmi
  clear hm2 hmi hnh hnl h
  go_enter Tryz.func63, Tryz.ntmps63
  go_wp2_with fail
  generalize hW : w.alloc (.cells #[.int .i64 nh, .int .u64 nl] 121) = W
  have c0 : W.cell? ⟨w.heap.size, 0, none⟩ = some (.int .i64 nh) := by rw [← hW]; simp
  have c1 : W.cell? ⟨w.heap.size, 1, none⟩ = some (.int .u64 nl) := by rw [← hW]; simp
  have HW := hide (show Below w.heap.size w W by rw [← hW]; (repeat' exact bel))
  clear hW
  have k0 := cell_regrown c0
  have k1 := cell_regrown c1
  have cS := fun dd os => Calls.regrown_of (d := dd) (os := os) (w := W) (wof_any m (grow (redrawn W dd) os) HI.out)
  simp only [wideV] at cS
  refine wp_region_quiet_below (by kernel_rfl) (by kernel_rfl) ?_
  repeat (go_big_quiet_step (first | exact cS _ _ | fail))
  refine wpQuiet_nil ?_
  intro _ hw'
  obtain ⟨⟨dq, osq⟩, hw2⟩ := hw'
  subst hw2
  have HBQ := hide (show Below w.heap.size w (grow (redrawn W dq) osq) from HW.out.trans ((below_regrown W dq osq).mono HW.out.size))
  clear k0 k1 cS
  generalize grow (redrawn W dq) osq = wq at *
  have HBB := HB.out
  cases hf : fitB n
  · rw [hf] at HBB
    go_wp2
    all_goals first
      | (exfalso; simp_all; done)
      | (go_ret2; exact ⟨ret_int2 (by simp [fitV, hf]) (by simp [fitE, hf]), HBQ.out⟩)
  · rw [hf] at HBB
    have hmn := HM.out hf
    have HMN := hide hmn
    clear hmn
    go_wp2
    all_goals first
      | (exfalso; simp_all; done)
      | (go_ret2; exact ⟨ret_int2 (by simp [fitV, hf, HMN.out]) (by simp [fitE, hf]), HBQ.out⟩)
end Go.Proofs.YtamnccechaooaaaGreat
