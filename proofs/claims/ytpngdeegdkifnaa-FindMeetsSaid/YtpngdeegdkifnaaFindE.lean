/- The iterator of find.each. -/
import Derived.Test.YtpngdeegdkifnaaFindB
import Derived.Test.YtpngdeegdkifnaaShapeC
import Derived.RangeFuncNested
namespace Go.Proofs.Ytpngdeegdkifnaa
open Go.RowKit Go.Shelf Qd
set_option linter.unusedSimpArgs false
set_option linter.unusedVariables false
attribute [local go_sem] Oper.semAt_some

/-- The units of a year, so many of them. -/
def yU (lv y : Int) (i : Nat) : List Un := upto (fun j : Nat => (⟨lv, y, (j : Int) + 1⟩ : Un)) i
/-- The units of some years. -/
def allUp (c : Cal) (lv from_ : Int) : Nat → List Un
  | 0 => []
  | a + 1 => allUp c lv from_ a ++ yU lv (from_ + a) (cntL c (from_ + a) lv)
theorem allUp_mono (c : Cal) (lv f : Int) (a m : Nat) : (allUp c lv f a).length ≤ (allUp c lv f (a + m)).length := by
  induction m with
  | zero => exact Nat.le_refl _
  | succ m ih => rw [← Nat.add_assoc, allUp, List.length_append]; omega
theorem yU_len (lv y : Int) (i : Nat) : (yU lv y i).length = i := by simp [yU, upto_length]
theorem pre_lt (c : Cal) (lv f : Int) (a ny i : Nat) (ha : a < ny) (hi : i < cntL c (f + a) lv) : (allUp c lv f a ++ yU lv (f + a) i).length < (allUp c lv f ny).length := by
  have h1 := allUp_mono c lv f (a + 1) (ny - (a + 1))
  rw [show a + 1 + (ny - (a + 1)) = ny by omega, allUp, List.length_append, yU_len] at h1
  rw [List.length_append, yU_len]
  omega
def encU (u : Un) : Array Value := #[unitV u, .int .i64 0]

theorem yU_lt (lv y : Int) (i n : Nat) (h : i < n) : yU lv y (i + 1) = yU lv y i ++ [⟨lv, y, (i : Int) + 1⟩] := upto_succ _ _
/-- Whatever cells are of neither type lie as they lay. -/
def KeepTy (t1 t2 : TypeId) (W W' : World) : Prop := W.heap.size ≤ W'.heap.size ∧ ∀ (B : Nat) (cs : Array Value) (t : TypeId) (z : Nat × Nat), t ≠ t1 → t ≠ t2 → W.heap[B]? = some (.cells cs t z) → W'.heap[B]? = some (.cells cs t z)
theorem KeepTy.refl (t1 t2 : TypeId) (W : World) : KeepTy t1 t2 W W := ⟨Nat.le_refl _, fun _ _ _ _ _ _ h => h⟩
theorem KeepTy.trans {t1 t2 : TypeId} {A B C : World} (h : KeepTy t1 t2 A B) (k : KeepTy t1 t2 B C) : KeepTy t1 t2 A C := ⟨Nat.le_trans h.1 k.1, fun i cs t z h1 h2 hi => k.2 i cs t z h1 h2 (h.2 i cs t z h1 h2 hi)⟩
theorem KeepTy.alloc {t1 t2 : TypeId} (W : World) (o : Obj) : KeepTy t1 t2 W (W.alloc o) := ⟨by simp, fun i cs t z _ _ hi => (Below.heap_alloc W o i (Array.getElem?_eq_some_iff.1 hi).1).trans hi⟩
theorem KeepTy.turn {t1 t2 : TypeId} {W W' : World} {row : Option Nat} (hg : W.grownBy W' row) (hr : ∀ r, row = some r → ∀ cs t z, W.heap[r]? = some (.cells cs t z) → t = t1 ∨ t = t2) : KeepTy t1 t2 W W' :=
  ⟨hg.size, fun i cs t z h1 h2 hi => (hg.block i (Array.getElem?_eq_some_iff.1 hi).1 (fun e => by rcases hr i e.symm cs t z hi with h | h <;> contradiction)).trans hi⟩
theorem keepTy_putObj {t1 t2 : TypeId} (W : World) (l : Nat) (o o' : Obj) (h : W.heap[l]? = some o) (ho : o.isCells = false) : KeepTy t1 t2 W (W.putObj l o') :=
  .turn (grownBy_putObj' W l o') (fun r e cs t z hk => by cases e; rw [h] at hk; cases hk; cases ho)
theorem BlkIs.ty {w w' : World} {t1 t2 : TypeId} {B : Nat} {cs : Array Value} {t : TypeId} (h : BlkIs w B cs t) (hk : KeepTy t1 t2 w w') (h1 : t ≠ t1) (h2 : t ≠ t2) : BlkIs w' B cs t := hk.2 B cs t (0, 0) h1 h2 h

set_option maxRecDepth 100000 in
set_option maxHeartbeats 4000000 in
theorem each_stops (c : Cal) (lv f t : Int) (ny : Nat) (hn : c.name.size ≤ 1000) (hny : f + (ny : Int) = t + 1) (hfb : -10000 ≤ f ∧ t ≤ 20000) (hE : ∀ a : Nat, a < ny → frameE c lv (f + a) = 0)
    (Bf Bt Bc Bl : Nat) (w : World)
    (g0 : BlkIs w Bc (calCs c) 24) (g1 : BlkIs w Bf #[.int .i64 f] 3) (g2 : BlkIs w Bt #[.int .i64 t] 3) (g3 : BlkIs w Bl #[.int .i64 lv] 3) :
    SeqStopsK Fence.wide 4 Try.prog 68 #[.pointer (some ⟨Bf, 0, none⟩), .pointer (some ⟨Bt, 0, none⟩), .pointer (some ⟨Bc, 0, none⟩), .pointer (some ⟨Bl, 0, none⟩)] encU (KeepTy 31 40)
      (fun xs => xs = allUp c lv f ny) (fun _ => True) (allUp c lv f ny).length w := fun l J Jx W hW hJ hJx hY h0 => by
  have G0 := hide (g0.call hW)
  have G1 := hide (g1.call hW)
  have G2 := hide (g2.call hW)
  have G3 := hide (g3.call hW)
  have HE := hide hE
  have HCB := hide (fun (a : Nat) (ha : a < ny) => cnt_bd c (f + a) (frame_ok (hE a ha)).2.2.2.2.2.2 lv)
  have HY := hide hY
  have r1 : W.cell? ⟨Bf, 0, none⟩ = some (.int .i64 f) := (G1.out).cell 0
  clear hE hY
  refine callsIn_of_wp Try.func68 rfl trivial ?_ rfl
  simp only [Try.ntmps68, List.size_toArray, List.length_cons, List.length_nil, Nat.reduceAdd, Nat.reduceSub, Array.replicate_succ, Array.replicate_zero, List.push_toArray, List.append_toArray, List.nil_append, List.cons_append]
  gi_wp2_with fail
  gi_loopw [6] (fun s wr => ∃ a : Nat, a ≤ ny ∧ s = .int .i64 (f + a) ∧ Hid (J (allUp c lv f a) wr) ∧ BlkIs wr Bc (calCs c) 24 ∧ BlkIs wr Bt #[.int .i64 t] 3 ∧ BlkIs wr Bl #[.int .i64 lv] 3)
    (fun s _ => (t + 1 - intOf s).toNat)
  case atStart => exact ⟨0, Nat.zero_le _, by simp, hide h0, G0.out, G2.out, G3.out⟩
  case round =>
    obtain ⟨a, ha, rfl, HJs, b0, b2, b3⟩ := hrel
    have x2 : wr.cell? ⟨Bt, 0, none⟩ = some (.int .i64 t) := b2.cell 0
    by_cases hlt : a < ny
    · have x3 : wr.cell? ⟨Bl, 0, none⟩ = some (.int .i64 lv) := b3.cell 0
      obtain ⟨q0, q1, q2, q3, q4, q5, q6, q7, q8, q9, q10, q11, q12, q13⟩ := b0.cal
      have B0 := hide b0
      have B2 := hide b2
      have B3 := hide b3
      clear b0 b2 b3
      gi_wp2_with fail
      refine ⟨trivial, (callsIn_wide.2 (count_any c lv _ _ hn)).mono ?_⟩
      rintro e w1 ⟨rfl, hb1⟩
      have B01 := hide (B0.out.call hb1)
      have B21 := hide (B2.out.call hb1)
      have B31 := hide (B3.out.call hb1)
      have HJ1 := hide (hJ _ _ _ none HJs.out (only_of_below hb1 none) (by intro r e; cases e))
      clear hb1
      have hcv : countV c lv (f + a) = (cntL c (f + a) lv : Int) := by simp [countV, HE.out a hlt]
      rw [hcv, HE.out a hlt]
      have hcb := HCB.out a hlt
      generalize hk : cntL c (f + a) lv = n at *
      have HK := hide hk
      clear hcv hk
      gi_wp2_with fail
      gi_loopw [30] (fun s wr => ∃ i : Nat, i ≤ n ∧ s = .int .i64 (i : Int) ∧ Hid (J (allUp c lv f a ++ yU lv (f + a) i) wr) ∧ BlkIs wr Bc (calCs c) 24 ∧ BlkIs wr Bt #[.int .i64 t] 3 ∧ BlkIs wr Bl #[.int .i64 lv] 3)
        (fun s _ => (n - intOf s).toNat)
      case atStart => exact ⟨0, Nat.zero_le _, rfl, by simpa [yU, upto] using HJ1, B01.out, B21.out, B31.out⟩
      case round =>
        obtain ⟨i, hi, rfl, HJr, b0, b2, b3⟩ := hrel
        have x3 : wr.cell? ⟨Bl, 0, none⟩ = some (.int .i64 lv) := b3.cell 0
        by_cases hli : i < n
        · obtain ⟨fn, tmps, assign, body, hy, hR⟩ := HY.out _ ⟨lv, f + a, (i : Int) + 1⟩ wr HJr.out (pre_lt c lv f a ny i hlt (by rw [HK.out]; exact hli))
          simp only [encU, unitV] at hy
          gi_wp2
          refine hR.mono ?_
          rintro e W3 (⟨rfl, hJ3, hk3⟩ | ⟨rfl, hJx3⟩)
          · have HJ3 := hide hJ3
            have b03 := b0.ty hk3 (by decide) (by decide)
            have b23 := b2.ty hk3 (by decide) (by decide)
            have b33 := b3.ty hk3 (by decide) (by decide)
            clear hJ3 hk3
            gi_wp2
            go_roundw
            case rel => exact ⟨i + 1, by omega, by go_num, hide (by rw [yU_lt _ _ _ _ hli, ← List.append_assoc]; exact HJ3.out), b03, b23, b33⟩
            case measure => simp [intOf]; omega
          · have HJ3 := hide hJx3
            clear hJx3
            gi_wp2
            refine bodyPost_ret (results_none rfl _ _ _) rfl ?_
            exact ⟨⟨_, rfl⟩, .inr ⟨_, trivial, HJ3.out⟩⟩
        · have hin : i = n := by omega
          subst hin
          gi_wp2
          go_roundw
          case rel => exact ⟨a + 1, by omega, by simp; omega, hide (by have h := HJr.out; rw [← HK.out] at h; exact h), b0, b2, b3⟩
          case measure => simp [intOf]; omega
    · have han : a = ny := by omega
      subst han
      gi_wp2
      go_end0
      exact ⟨⟨_, rfl⟩, .inl ⟨_, rfl, HJs.out⟩⟩
end Go.Proofs.Ytpngdeegdkifnaa
