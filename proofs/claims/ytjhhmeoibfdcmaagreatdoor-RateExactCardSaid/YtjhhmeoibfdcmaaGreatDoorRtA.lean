/- Package ratio: sizes, what is common, what is made of them. -/
import Derived.Test.YtjhhmeoibfdcmaaGreatDoorMDv
namespace Go.Proofs.YtjhhmeoibfdcmaaGreatDoor
open Go.RowKit Qd
set_option linter.unusedSimpArgs false
set_option linter.unusedVariables false

set_option maxHeartbeats 800000 in
theorem rsize_any (a : Int) (w : World) (h : in64 a) : Calls Tryz.prog 17 #[.int .i64 a] w fun e w' => e = .returned (.int .u64 (a.natAbs : Int)) ∧ w = w' := by
  unfold in64 at h
  obtain ⟨h1, h2⟩ := h
  by_cases h0 : a < 0
  · have HN := hide (show (a.natAbs : Int) = -a by omega)
    go_enter Tryz.func17, Tryz.ntmps17
    go_wp2
    all_goals first
      | (exfalso; omega)
      | (go_ret; exact ⟨ret_int (by rw [HN.out]; simp only [IntKind.wrap_u64]; omega), rfl⟩)
  · have HN := hide (show (a.natAbs : Int) = a by omega)
    go_enter Tryz.func17, Tryz.ntmps17
    go_wp2
    all_goals first
      | (exfalso; omega)
      | (go_ret; exact ⟨ret_int (by rw [HN.out] <;> first | rfl | (simp only [IntKind.wrap_u64]; omega)), rfl⟩)
theorem nat_tmod (x y : Nat) : (x : Int).tmod (y : Int) = ((x % y : Nat) : Int) := by
  rw [Int.tmod_eq_emod_of_nonneg (by omega)]; rfl
theorem nat_tdiv (x y : Nat) : (x : Int).tdiv (y : Int) = ((x / y : Nat) : Int) := by
  rw [Int.tdiv_eq_ediv_of_nonneg (by omega)]; rfl
theorem gcd_step (x y : Nat) : Nat.gcd y (x % y) = Nat.gcd x y := by
  rw [Nat.gcd_comm y, ← Nat.gcd_rec, Nat.gcd_comm]

set_option maxRecDepth 100000 in
set_option maxHeartbeats 1600000 in
theorem rcommon_any (a b : Nat) (w : World) (ha : a < 18446744073709551616) (hb : b < 18446744073709551616) : Calls Tryz.prog 16 #[.int .u64 a, .int .u64 b] w fun e w' => e = .returned (.int .u64 ((Nat.gcd a b : Nat) : Int)) ∧ Below w.heap.size w w' := by
  obtain ⟨G, hG⟩ : ∃ G, Nat.gcd a b = G := ⟨_, rfl⟩
  have HG := hide hG
  rw [hG]
  clear hG
  go_enter Tryz.func16, Tryz.ntmps16
  go_wp2_with fail
  go_loopw [0, 1] (fun s0 s1 wr => ∃ x y : Nat, s0 = .int .u64 x ∧ s1 = .int .u64 y ∧ x < 18446744073709551616 ∧ y < 18446744073709551616 ∧ Hid (Nat.gcd x y = G ∧ Below w.heap.size w wr)) (fun _ s1 _ => (intOf s1).toNat)
  case atStart => exact ⟨a, b, rfl, rfl, ha, hb, hide ⟨HG.out, Below.refl _ _⟩⟩
  case round =>
    obtain ⟨x, y, rfl, rfl, hx, hy, HQ⟩ := hrel
    by_cases h0 : 0 < y
    · have hy0 : ¬ (y : Int) = 0 := by omega
      have hlt := Nat.mod_lt x h0
      go_wp2_with fail
      all_goals first
        | (exfalso; omega)
        | skip
      go_quiet (fail)
      go_wp2
      go_roundw
      case rel => exact ⟨y, x % y, rfl, by first | rfl | (rw [nat_tmod]), hy, by omega, hide ⟨by rw [gcd_step]; exact HQ.out.1, below_drewN HQ.out.2 _⟩⟩
      case measure => simp [intOf, nat_tmod]; omega
    · obtain rfl : y = 0 := by omega
      have HX := hide (show x = G by have := HQ.out.1; rwa [Nat.gcd_zero_right] at this)
      go_wp2
      all_goals first
        | (exfalso; omega)
        | skip
      go_ret
      exact ⟨ret_int (by rw [HX.out]), HQ.out.2⟩

theorem rat_blk {a b : Value} {t : TypeId} {B : Nat} {w : World} (h : BlkIs w B #[a, b] t) : (w.cell? ⟨B, 0, none⟩ = some a ∧ w.cell? ⟨B, 1, none⟩ = some b) ∧ w.frozen? ⟨B, 0, none⟩ = false ∧ w.frozen? ⟨B, 1, none⟩ = false ∧ B < w.heap.size := ⟨⟨h.cell 0, h.cell 1⟩, by simp [World.frozen?, show w.heap[B]? = _ from h], by simp [World.frozen?, show w.heap[B]? = _ from h], h.lt⟩
/-- What a ratio of sizes is. -/
def mkE (b : Bool) (n d high : Nat) : Int := if high > 0 ∨ d > 9223372036854775807 ∨ n > 9223372036854775808 ∨ (n > 9223372036854775807 ∧ b = false) then 2 else 0
def ratV (n d : Int) : Value := .agg #[.int .i64 n, .int .i64 d]
def mkV (b : Bool) (n d high : Nat) : Value := if mkE b n d high = 0 then ratV (if b then -(n : Int) else n) d else ratV 0 0

theorem neg_back (n : Nat) (h : n ≤ 9223372036854775808) : wrap64 (IntKind.u64.wrap (-(n : Int))) = -(n : Int) := by
  simp only [IntKind.wrap_u64]
  unfold wrap64
  omega
set_option maxRecDepth 100000 in
set_option maxHeartbeats 3200000 in
theorem rmade_any (b : Bool) (n d high : Nat) (w : World) (h1 : n < 18446744073709551616) (h2 : d < 18446744073709551616) (h3 : high < 18446744073709551616) : Calls Tryz.prog 18 #[.bool b, .int .u64 n, .int .u64 d, .int .u64 high] w fun e w' => e = .returned (.tuple #[mkV b n d high, .int .i64 (mkE b n d high)]) ∧ Below w.heap.size w w' := by
  obtain ⟨⟨r0, r1⟩, f0, f1, hsz⟩ := rat_blk (BlkIs.new w #[.int .i64 0, .int .i64 0] 37)
  by_cases h : high > 0 ∨ d > 9223372036854775807 ∨ n > 9223372036854775808 ∨ (n > 9223372036854775807 ∧ b = false)
  · have HE := hide (show mkE b n d high = 2 by rw [mkE, if_pos h])
    have hv := hide (show mkV b n d high = .agg #[.int .i64 0, .int .i64 0] by rw [mkV, HE.out]; rfl)
    obtain ⟨E, hE⟩ : ∃ E, mkE b n d high = E := ⟨_, rfl⟩
    obtain ⟨V, hV⟩ : ∃ V, mkV b n d high = V := ⟨_, rfl⟩
    rw [hE] at HE ⊢
    rw [hV] at hv ⊢
    clear hE hV
    cases b
    all_goals
      simp at h
      rcases (show 0 < high ∨ (high = 0 ∧ 9223372036854775807 < d) ∨ (high = 0 ∧ d ≤ 9223372036854775807 ∧ 9223372036854775808 < n) ∨ (high = 0 ∧ d ≤ 9223372036854775807 ∧ n = 9223372036854775808) by omega) with g1 | ⟨rfl, g2⟩ | ⟨rfl, g2, g3⟩ | ⟨rfl, g2, g3⟩
      all_goals
        go_enter Tryz.func18, Tryz.ntmps18
        go_wp2
        all_goals first
          | (exfalso; omega)
          | exact bodyPost_ret (v := .tuple #[.agg #[.int .i64 0, .int .i64 0], .int .i64 2]) (by simp (maxDischargeDepth := 9) [results, Tryz.results18, go_sem, r0, r1, f0, f1, hsz]) rfl ⟨by rw [hv.out, HE.out], by (repeat' exact bel)⟩
  · have HE := hide (show mkE b n d high = 0 by rw [mkE, if_neg h])
    have hv := hide (show mkV b n d high = .agg #[.int .i64 (if b then -(n : Int) else n), .int .i64 d] by rw [mkV, if_pos HE.out]; rfl)
    obtain ⟨E, hE⟩ : ∃ E, mkE b n d high = E := ⟨_, rfl⟩
    obtain ⟨V, hV⟩ : ∃ V, mkV b n d high = V := ⟨_, rfl⟩
    rw [hE] at HE ⊢
    rw [hV] at hv ⊢
    clear hE hV
    have hnb := neg_back n (by omega)
    cases b
    all_goals
      simp at h
      obtain ⟨g1, g2, g3⟩ := h
      have HNB := hide hnb
      clear hnb
      go_enter Tryz.func18, Tryz.ntmps18
      go_wp2
      all_goals first
        | (exfalso; omega)
        | exact bodyPost_ret (v := .tuple #[.agg #[.int .i64 (n : Int), .int .i64 d], .int .i64 0]) (by simp (maxDischargeDepth := 9) [results, Tryz.results18, go_sem, r0, r1, f0, f1, hsz]) rfl ⟨by rw [hv.out, HE.out]; rfl, by (repeat' exact bel)⟩
        | (rw [HNB.out]; exact bodyPost_ret (v := .tuple #[.agg #[.int .i64 (-(n : Int)), .int .i64 d], .int .i64 0]) (by simp (maxDischargeDepth := 9) [results, Tryz.results18, go_sem, r0, r1, f0, f1, hsz]) rfl ⟨by rw [hv.out, HE.out]; rfl, by (repeat' exact bel)⟩)
end Go.Proofs.YtjhhmeoibfdcmaaGreatDoor
