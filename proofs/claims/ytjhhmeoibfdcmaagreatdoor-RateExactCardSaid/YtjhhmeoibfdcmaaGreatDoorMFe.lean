/- The iterator of find.each. Contracts of find.each and find.All. Plain facts of the units of some years; units that lie in a row. -/
import Derived.Test.YtjhhmeoibfdcmaaGreatDoorMFi
import Derived.Test.YtjhhmeoibfdcmaaGreatDoorMSa
import Derived.RangeFuncNested
namespace Go.Proofs.YtjhhmeoibfdcmaaGreatDoor
open Go.RowKit Go.Shelf Qd
set_option linter.unusedSimpArgs false
set_option linter.unusedVariables false
attribute [local go_sem] Oper.semAt_some

/-- The units of a year, so many of them. -/
def yU (lv y : Int) (i : Nat) : List Un := upto (fun j : Nat => (⟨lv, y, (j : Int) + 1⟩ : Un)) i
/-- The units of some years. -/
def allUp (c : Cal) (lv from_ : Int) : Nat → List Un
  | 0 => []
  | a + 1 => allUp c lv from_ a ++ yU lv (from_ + a) (cntL c (from_ + a) lv)
theorem allUp_mono (c : Cal) (lv f : Int) (a m : Nat) : (allUp c lv f a).length ≤ (allUp c lv f (a + m)).length := by
  induction m with
  | zero => exact Nat.le_refl _
  | succ m ih => rw [← Nat.add_assoc, allUp, List.length_append]; omega
theorem yU_len (lv y : Int) (i : Nat) : (yU lv y i).length = i := by simp [yU, upto_length]
theorem pre_lt (c : Cal) (lv f : Int) (a ny i : Nat) (ha : a < ny) (hi : i < cntL c (f + a) lv) : (allUp c lv f a ++ yU lv (f + a) i).length < (allUp c lv f ny).length := by
  have h1 := allUp_mono c lv f (a + 1) (ny - (a + 1))
  rw [show a + 1 + (ny - (a + 1)) = ny by omega, allUp, List.length_append, yU_len] at h1
  rw [List.length_append, yU_len]
  omega
def encU (u : Un) : Array Value := #[unitV u, .int .i64 0]

theorem yU_lt (lv y : Int) (i n : Nat) (h : i < n) : yU lv y (i + 1) = yU lv y i ++ [⟨lv, y, (i : Int) + 1⟩] := upto_succ _ _
/-- Whatever cells are of neither type lie as they lay. -/
def KeepTy (t1 t2 : TypeId) (W W' : World) : Prop := W.heap.size ≤ W'.heap.size ∧ ∀ (B : Nat) (cs : Array Value) (t : TypeId) (z : Nat × Nat), t ≠ t1 → t ≠ t2 → W.heap[B]? = some (.cells cs t z) → W'.heap[B]? = some (.cells cs t z)
theorem KeepTy.refl (t1 t2 : TypeId) (W : World) : KeepTy t1 t2 W W := ⟨Nat.le_refl _, fun _ _ _ _ _ _ h => h⟩
theorem KeepTy.trans {t1 t2 : TypeId} {A B C : World} (h : KeepTy t1 t2 A B) (k : KeepTy t1 t2 B C) : KeepTy t1 t2 A C := ⟨Nat.le_trans h.1 k.1, fun i cs t z h1 h2 hi => k.2 i cs t z h1 h2 (h.2 i cs t z h1 h2 hi)⟩
theorem KeepTy.alloc {t1 t2 : TypeId} (W : World) (o : Obj) : KeepTy t1 t2 W (W.alloc o) := ⟨by simp, fun i cs t z _ _ hi => (Below.heap_alloc W o i (Array.getElem?_eq_some_iff.1 hi).1).trans hi⟩
theorem KeepTy.turn {t1 t2 : TypeId} {W W' : World} {row : Option Nat} (hg : W.grownBy W' row) (hr : ∀ r, row = some r → ∀ cs t z, W.heap[r]? = some (.cells cs t z) → t = t1 ∨ t = t2) : KeepTy t1 t2 W W' :=
  ⟨hg.size, fun i cs t z h1 h2 hi => (hg.block i (Array.getElem?_eq_some_iff.1 hi).1 (fun e => by rcases hr i e.symm cs t z hi with h | h <;> contradiction)).trans hi⟩
theorem keepTy_putObj {t1 t2 : TypeId} (W : World) (l : Nat) (o o' : Obj) (h : W.heap[l]? = some o) (ho : o.isCells = false) : KeepTy t1 t2 W (W.putObj l o') :=
  .turn (grownBy_putObj' W l o') (fun r e cs t z hk => by cases e; rw [h] at hk; cases hk; cases ho)
theorem BlkIs.ty {w w' : World} {t1 t2 : TypeId} {B : Nat} {cs : Array Value} {t : TypeId} (h : BlkIs w B cs t) (hk : KeepTy t1 t2 w w') (h1 : t ≠ t1) (h2 : t ≠ t2) : BlkIs w' B cs t := hk.2 B cs t (0, 0) h1 h2 h

set_option maxRecDepth 100000 in
set_option maxHeartbeats 4000000 in
theorem each_stops (c : Cal) (lv f t : Int) (ny : Nat) (hn : c.name.size ≤ 1000) (hny : f + (ny : Int) = t + 1) (hfb : -10000 ≤ f ∧ t ≤ 20000) (hE : ∀ a : Nat, a < ny → frameE c lv (f + a) = 0)
    (Bf Bt Bc Bl : Nat) (w : World)
    (g0 : BlkIs w Bc (calCs c) 24) (g1 : BlkIs w Bf #[.int .i64 f] 3) (g2 : BlkIs w Bt #[.int .i64 t] 3) (g3 : BlkIs w Bl #[.int .i64 lv] 3) :
    SeqStopsK Fence.wide 4 Tryz.prog 68 #[.pointer (some ⟨Bf, 0, none⟩), .pointer (some ⟨Bt, 0, none⟩), .pointer (some ⟨Bc, 0, none⟩), .pointer (some ⟨Bl, 0, none⟩)] encU (KeepTy 46 74)
      (fun xs => xs = allUp c lv f ny) (fun _ => True) (allUp c lv f ny).length w := fun l J Jx W hW hJ hJx hY h0 => by
  have G0 := hide (g0.call hW)
  have G1 := hide (g1.call hW)
  have G2 := hide (g2.call hW)
  have G3 := hide (g3.call hW)
  have HE := hide hE
  have HCB := hide (fun (a : Nat) (ha : a < ny) => cnt_bd c (f + a) (frame_ok (hE a ha)).2.2.2.2.2.2 lv)
  have HY := hide hY
  have r1 : W.cell? ⟨Bf, 0, none⟩ = some (.int .i64 f) := (G1.out).cell 0
  clear hE hY
  refine callsIn_of_wp Tryz.func68 rfl trivial ?_ rfl
  simp only [Tryz.ntmps68, List.size_toArray, List.length_cons, List.length_nil, Nat.reduceAdd, Nat.reduceSub, Array.replicate_succ, Array.replicate_zero, List.push_toArray, List.append_toArray, List.nil_append, List.cons_append]
  gi_wp2_with fail
  gi_loopw [6] (fun s wr => ∃ a : Nat, a ≤ ny ∧ s = .int .i64 (f + a) ∧ Hid (J (allUp c lv f a) wr) ∧ BlkIs wr Bc (calCs c) 24 ∧ BlkIs wr Bt #[.int .i64 t] 3 ∧ BlkIs wr Bl #[.int .i64 lv] 3)
    (fun s _ => (t + 1 - intOf s).toNat)
  case atStart => exact ⟨0, Nat.zero_le _, by simp, hide h0, G0.out, G2.out, G3.out⟩
  case round =>
    obtain ⟨a, ha, rfl, HJs, b0, b2, b3⟩ := hrel
    have x2 : wr.cell? ⟨Bt, 0, none⟩ = some (.int .i64 t) := b2.cell 0
    by_cases hlt : a < ny
    · have x3 : wr.cell? ⟨Bl, 0, none⟩ = some (.int .i64 lv) := b3.cell 0
      obtain ⟨q0, q1, q2, q3, q4, q5, q6, q7, q8, q9, q10, q11, q12, q13⟩ := b0.cal
      have B0 := hide b0
      have B2 := hide b2
      have B3 := hide b3
      clear b0 b2 b3
      gi_wp2_with fail
      refine ⟨trivial, (callsIn_wide.2 (count_any c lv _ _ hn)).mono ?_⟩
      rintro e w1 ⟨rfl, hb1⟩
      have B01 := hide (B0.out.call hb1)
      have B21 := hide (B2.out.call hb1)
      have B31 := hide (B3.out.call hb1)
      have HJ1 := hide (hJ _ _ _ none HJs.out (only_of_below hb1 none) (by intro r e; cases e))
      clear hb1
      have hcv : countV c lv (f + a) = (cntL c (f + a) lv : Int) := by simp [countV, HE.out a hlt]
      rw [hcv, HE.out a hlt]
      have hcb := HCB.out a hlt
      generalize hk : cntL c (f + a) lv = n at *
      have HK := hide hk
      clear hcv hk
      gi_wp2_with fail
      gi_loopw [30] (fun s wr => ∃ i : Nat, i ≤ n ∧ s = .int .i64 (i : Int) ∧ Hid (J (allUp c lv f a ++ yU lv (f + a) i) wr) ∧ BlkIs wr Bc (calCs c) 24 ∧ BlkIs wr Bt #[.int .i64 t] 3 ∧ BlkIs wr Bl #[.int .i64 lv] 3)
        (fun s _ => (n - intOf s).toNat)
      case atStart => exact ⟨0, Nat.zero_le _, rfl, by simpa [yU, upto] using HJ1, B01.out, B21.out, B31.out⟩
      case round =>
        obtain ⟨i, hi, rfl, HJr, b0, b2, b3⟩ := hrel
        have x3 : wr.cell? ⟨Bl, 0, none⟩ = some (.int .i64 lv) := b3.cell 0
        by_cases hli : i < n
        · obtain ⟨fn, tmps, assign, body, hy, hR⟩ := HY.out _ ⟨lv, f + a, (i : Int) + 1⟩ wr HJr.out (pre_lt c lv f a ny i hlt (by rw [HK.out]; exact hli))
          simp only [encU, unitV] at hy
          gi_wp2
          refine hR.mono ?_
          rintro e W3 (⟨rfl, hJ3, hk3⟩ | ⟨rfl, hJx3⟩)
          · have HJ3 := hide hJ3
            have b03 := b0.ty hk3 (by decide) (by decide)
            have b23 := b2.ty hk3 (by decide) (by decide)
            have b33 := b3.ty hk3 (by decide) (by decide)
            clear hJ3 hk3
            gi_wp2
            go_roundw
            case rel => exact ⟨i + 1, by omega, by go_num, hide (by rw [yU_lt _ _ _ _ hli, ← List.append_assoc]; exact HJ3.out), b03, b23, b33⟩
            case measure => simp [intOf]; omega
          · have HJ3 := hide hJx3
            clear hJx3
            gi_wp2
            refine bodyPost_ret (results_none rfl _ _ _) rfl ?_
            exact ⟨⟨_, rfl⟩, .inr ⟨_, trivial, HJ3.out⟩⟩
        · have hin : i = n := by omega
          subst hin
          gi_wp2
          go_roundw
          case rel => exact ⟨a + 1, by omega, by simp; omega, hide (by have h := HJr.out; rw [← HK.out] at h; exact h), b0, b2, b3⟩
          case measure => simp [intOf]; omega
    · have han : a = ny := by omega
      subst han
      gi_wp2
      go_end0
      exact ⟨⟨_, rfl⟩, .inl ⟨_, rfl, HJs.out⟩⟩

attribute [local go_sem] Oper.semAt_some

set_option maxHeartbeats 800000 in
theorem each_any (m : Nat) (c : Cal) (lv f t : Int) (w : World) :
    CallsIn Fence.wide m Tryz.prog 48 #[calV c, .int .i64 lv, .int .i64 f, .int .i64 t] w fun e w' =>
      e = .returned (.func (.func 68) #[] #[.pointer (some ⟨w.heap.size + 2, 0, none⟩), .pointer (some ⟨w.heap.size + 3, 0, none⟩), .pointer (some ⟨w.heap.size, 0, none⟩), .pointer (some ⟨w.heap.size + 1, 0, none⟩)]) ∧
      w' = (((w.alloc (.cells (calCs c) 24)).alloc (.cells #[.int .i64 lv] 3)).alloc (.cells #[.int .i64 f] 3)).alloc (.cells #[.int .i64 t] 3) := by
  refine callsIn_wide.2 ?_
  simp only [calV]
  go_enter Tryz.func48, Tryz.ntmps48
  go_wp2
  go_ret
  exact ⟨rfl, rfl⟩

/-- Units as cells, and a slice of them. -/
def flatU (l : List Un) : List Value := l.flatMap fun u => [.int .i64 u.lv, .int .i64 u.yr, .int .i64 u.ix]
theorem flatU_snoc (l : List Un) (u : Un) : flatU (l ++ [u]) = flatU l ++ [.int .i64 u.lv, .int .i64 u.yr, .int .i64 u.ix] := by simp [flatU]
theorem flatU_len (l : List Un) : (flatU l).length = l.length * 3 := by
  induction l with
  | nil => rfl
  | cons a l ih => simp only [flatU, List.flatMap_cons, List.length_append, List.length_cons, List.length_nil] at ih ⊢; omega
def UnsAt (w : World) (g cap : Nat) (l : List Un) : Prop := w.ownsRow 0 46 3 (.slice (some ⟨g, 0, none⟩) l.length cap) l.length (flatU l)

theorem app_step {W w1 : World} {n₀ B : Nat} {size : Nat} {v v' : Value} {k : Nat} {xs : List Value} {tmp : Obj}
    (hv : Boxed W B 74 v) (hrow : W.ownsRow n₀ 46 size v k xs)
    (hgrow : (W.alloc tmp).grownBy w1 v.ownBlock) :
    KeepTy 46 74 W (w1.setCell ⟨B, 0, none⟩ v') ∧
    ∀ (X : Nat) (cs : Array Value) (t : TypeId), X ≠ B → t ≠ 46 → BlkIs W X cs t → BlkIs (w1.setCell ⟨B, 0, none⟩ v') X cs t := by
  have hv1 : Boxed w1 B 74 v := (hv.alloc tmp).kept hgrow (hv.not_row (by decide) hrow)
  have hrow' : ∀ r, v.ownBlock = some r → ∀ cs t z, (W.alloc tmp).heap[r]? = some (.cells cs t z) → t = 46 := by
    intro r e cs t z hk
    rcases (hrow.alloc tmp).2 with ⟨rfl, _⟩ | ⟨g, cap, cur, rfl, _, hgb, _⟩
    · simp [Value.ownBlock] at e
    · obtain rfl : g = r := by simpa [Value.ownBlock] using e
      rw [hgb] at hk; cases hk; rfl
  refine ⟨((KeepTy.alloc W tmp).trans (.turn hgrow (fun r e cs t z hk => .inl (hrow' r e cs t z hk)))).trans (.turn (grownBy_setCell' w1 B v') (fun r e cs t z hk => ?_)), ?_⟩
  · cases e
    rw [show w1.heap[B]? = _ from hv1] at hk; cases hk; exact .inr rfl
  · intro X cs t hX ht hb
    have h1 : BlkIs w1 X cs t := by
      refine (hgrow.block X (hb.alloc tmp).lt (fun e => ht ?_)).trans (hb.alloc tmp)
      exact hrow' X e.symm cs t (0, 0) (hb.alloc tmp)
    exact h1.far hX _

theorem blkIs_own {β : Type} (B : Nat) (cs : Array Value) (t : TypeId) : Own (fun (_ : β) W => BlkIs W B cs t) := fun _ _ _ _ hs hg hrow => blk_own hs hg hrow
theorem all_len (c : Cal) (lv f : Int) (ny : Nat) (hE : ∀ a : Nat, a < ny → frameE c lv (f + a) = 0) : (allUp c lv f ny).length ≤ 60 * ny ∧ ny ≤ (allUp c lv f ny).length := by
  induction ny with
  | zero => simp [allUp]
  | succ n ih =>
    have h := ih (fun a ha => hE a (by omega))
    have hb := cnt_bd c (f + n) (frame_ok (hE n (by omega))).2.2.2.2.2.2 lv
    rw [allUp, List.length_append, yU_len]
    omega

/-- The frame of a round whose unit lies in a block of its own. -/
def AxU (lo : Nat) (T : Un → Nat → Act) (x : Un) (a' : Act) (W : World) : Prop := ∃ Bx, lo < Bx ∧ BlkIs W Bx #[.int .i64 x.lv, .int .i64 x.yr, .int .i64 x.ix] 46 ∧ a' = T x Bx
theorem axU_own (lo : Nat) (T : Un → Nat → Act) (x : Un) (a' : Act) (B : Nat) : OwnFrom B (fun (_ : Unit) W => AxU lo T x a' W) := fun _ X Y row hs hg hr => by
  obtain ⟨Bx, h1, h2, h3⟩ := hs
  exact ⟨Bx, h1, blk_own h2 hg (fun r e => (hr r e).2), h3⟩

theorem cells_new3 (W : World) (a b d : Value) (t : TypeId) : ∀ (j : Nat) (u : Value), [a, b, d][j]? = some u → (W.alloc (.cells #[a, b, d] t)).cell? ((⟨W.heap.size, 0, none⟩ : Addr).add j) = some u := by
  intro j u h
  match j, h with
  | 0, h => simpa [World.cell?_alloc_at, Addr.add] using h
  | 1, h => simpa [World.cell?_alloc_at, Addr.add] using h
  | 2, h => simpa [World.cell?_alloc_at, Addr.add] using h
theorem hv1row {W : World} {X n₀ size k : Nat} {cs : Array Value} {t : TypeId} {v : Value} {xs : List Value} (hrow : W.ownsRow n₀ 46 size v k xs) (hb : BlkIs W X cs t) (ht : t ≠ 46 := by decide) : v.ownBlock ≠ some X := by
  rcases hrow.2 with ⟨rfl, _⟩ | ⟨g, cap, cur, rfl, _, hgb, _⟩
  · simp [Value.ownBlock]
  · intro e
    obtain rfl : g = X := by simpa [Value.ownBlock] using e
    unfold BlkIs at hb
    rw [hgb] at hb
    cases hb
    exact ht rfl
theorem _root_.Go.World.ownsRow.base {w : World} {b b' size n : Nat} {e : TypeId} {v : Value} {xs : List Value} (h : w.ownsRow b e size v n xs) (hb : b' ≤ b) : w.ownsRow b' e size v n xs := by
  refine ⟨h.1, ?_⟩
  rcases h.2 with h2 | ⟨g, cap, cur, h1, h2, h3⟩
  · exact .inl h2
  · exact .inr ⟨g, cap, cur, h1, by omega, h3⟩
theorem unit_info : (Tryz.prog.info? 46).map (fun i => (i.zero, i.size, i.bytes)) = some (some (.agg #[.int .i64 0, .int .i64 0, .int .i64 0]), 3, 24) := by kernel_rfl

end Go.Proofs.YtjhhmeoibfdcmaaGreatDoor

namespace Go.Proofs.YtjhhmeoibfdcmaaGreatDoor
open Go.RowKit Qd
set_option linter.unusedSimpArgs false
set_option linter.unusedVariables false

/-- Each unit of a list is the one behind the one ahead. -/
def ChainU (c : Cal) (l : List Un) : Prop := ∀ (j : Nat) (u v : Un), l[j]? = some u → l[j + 1]? = some v → nxE c u = 0 ∧ nxU c u = v
theorem chain_app {c : Cal} {l1 l2 : List Un} (h1 : ChainU c l1) (h2 : ChainU c l2) (h : ∀ u v, l1[l1.length - 1]? = some u → l2[0]? = some v → nxE c u = 0 ∧ nxU c u = v) : ChainU c (l1 ++ l2) := by
  intro j u v hu hv
  by_cases hj : j + 1 < l1.length
  · rw [List.getElem?_append_left (by omega)] at hu
    rw [List.getElem?_append_left (by omega)] at hv
    exact h1 j u v hu hv
  · by_cases hj2 : j + 1 = l1.length
    · rw [List.getElem?_append_left (by omega)] at hu
      rw [List.getElem?_append_right (by omega)] at hv
      refine h u v ?_ ?_
      · rw [show l1.length - 1 = j by omega]; exact hu
      · rw [show j + 1 - l1.length = 0 by omega] at hv; exact hv
    · rw [List.getElem?_append_right (by omega)] at hu
      rw [List.getElem?_append_right (by omega)] at hv
      rw [show j + 1 - l1.length = (j - l1.length) + 1 by omega] at hv
      exact h2 _ u v hu hv
theorem yU_get (lv y : Int) (n j : Nat) (hj : j < n) : (yU lv y n)[j]? = some ⟨lv, y, (j : Int) + 1⟩ := by
  induction n with
  | zero => omega
  | succ n ih =>
    rw [yU_lt lv y n (n + 1) (by omega)]
    by_cases h : j < n
    · rw [List.getElem?_append_left (by rw [yU_len]; exact h)]
      exact ih h
    · obtain rfl : j = n := by omega
      rw [List.getElem?_append_right (by rw [yU_len]; omega), yU_len]
      simp
theorem yU_some {lv y : Int} {n j : Nat} {u : Un} (h : (yU lv y n)[j]? = some u) : j < n ∧ u = ⟨lv, y, (j : Int) + 1⟩ := by
  have hj : j < n := by
    have := (List.getElem?_eq_some_iff.1 h).1
    rwa [yU_len] at this
  rw [yU_get lv y n j hj] at h
  exact ⟨hj, (Option.some.inj h).symm⟩
theorem un_here {c : Cal} {lv y : Int} {j : Nat} (hf : frameE c lv y = 0) (hj : j < cntL c y lv) : unitE c ⟨lv, y, (j : Int) + 1⟩ = 0 := by
  have h1 : (1 : Int) ≤ (j : Int) + 1 ∧ (j : Int) + 1 ≤ (cntL c y lv : Int) := by omega
  simp only [unitE]
  rw [if_pos hf, if_pos h1]
theorem yU_chain {c : Cal} {lv y : Int} (hf : frameE c lv y = 0) : ChainU c (yU lv y (cntL c y lv)) := by
  intro j u v hu hv
  obtain ⟨h1, rfl⟩ := yU_some hu
  obtain ⟨h2, rfl⟩ := yU_some hv
  have e1 := un_here hf h1
  have e2 := un_here hf h2
  have e3 : nxU0 ⟨lv, y, (j : Int) + 1⟩ = ⟨lv, y, ((j + 1 : Nat) : Int) + 1⟩ := by simp [nxU0]
  simp only [nxE, nxU, e1, e3, e2, if_true, and_self]
theorem link_ok {c : Cal} {lv y : Int} (hf : frameE c lv y = 0) (hf2 : frameE c lv (y + 1) = 0) (n : Nat) (hn : n + 1 = cntL c y lv) (h0 : 0 < cntL c (y + 1) lv) :
    nxE c ⟨lv, y, (n : Int) + 1⟩ = 0 ∧ nxU c ⟨lv, y, (n : Int) + 1⟩ = ⟨lv, y + 1, ((0 : Nat) : Int) + 1⟩ := by
  have e1 := un_here hf (show n < cntL c y lv by omega)
  have e2 := un_here hf2 h0
  have e3 : nxU1 ⟨lv, y, (n : Int) + 1⟩ = ⟨lv, y + 1, ((0 : Nat) : Int) + 1⟩ := by simp [nxU1]
  have e4 : ¬ unitE c (nxU0 ⟨lv, y, (n : Int) + 1⟩) = 0 := by
    have h1 : ¬ ((1 : Int) ≤ (n : Int) + 1 + 1 ∧ (n : Int) + 1 + 1 ≤ (cntL c y lv : Int)) := by omega
    have h2 : unitE c (nxU0 ⟨lv, y, (n : Int) + 1⟩) = 13 := by
      show (if frameE c lv y = 0 then (if 1 ≤ (n : Int) + 1 + 1 ∧ (n : Int) + 1 + 1 ≤ (cntL c y lv : Int) then (0 : Int) else 13) else frameE c lv y) = 13
      rw [if_pos hf, if_neg h1]
    omega
  simp only [nxE, nxU, e1, e3, e2, if_true, if_neg e4, and_self]

/-- The units of some years: their first one, their last one, and that they are a chain. -/
theorem all_facts (c : Cal) (lv f : Int) (ny : Nat) (h0 : 0 < ny) (hE : ∀ a : Nat, a < ny → frameE c lv (f + a) = 0) :
    ChainU c (allUp c lv f ny) ∧ (allUp c lv f ny)[0]? = some ⟨lv, f, 1⟩ ∧ (allUp c lv f ny)[(allUp c lv f ny).length - 1]? = some ⟨lv, f + (ny : Int) - 1, (cntL c (f + (ny : Int) - 1) lv : Int)⟩ := by
  induction ny with
  | zero => omega
  | succ n ih =>
    have hfn := hE n (by omega)
    have hb := cnt_bd c (f + n) (frame_ok hfn).2.2.2.2.2.2 lv
    have hl : (allUp c lv f (n + 1)).length = (allUp c lv f n).length + cntL c (f + n) lv := by rw [allUp, List.length_append, yU_len]
    have hlast : (allUp c lv f (n + 1))[(allUp c lv f (n + 1)).length - 1]? = some ⟨lv, f + ((n + 1 : Nat) : Int) - 1, (cntL c (f + ((n + 1 : Nat) : Int) - 1) lv : Int)⟩ := by
      rw [hl, allUp, List.getElem?_append_right (by omega), yU_get _ _ _ _ (by omega)]
      rw [show f + ((n + 1 : Nat) : Int) - 1 = f + n by omega]
      congr 2
      omega
    by_cases hn : n = 0
    · subst hn
      refine ⟨?_, ?_, hlast⟩
      · have h := yU_chain hfn
        simpa [allUp] using h
      · rw [allUp, List.getElem?_append_right (by simp [allUp]), yU_get _ _ _ _ (by simp only [allUp, List.length_nil] at hb ⊢; omega)]
        simp [allUp]
    · obtain ⟨i1, i2, i3⟩ := ih (by omega) (fun a ha => hE a (by omega))
      refine ⟨?_, ?_, hlast⟩
      · rw [allUp]
        refine chain_app i1 (yU_chain hfn) ?_
        intro u v hu hv
        rw [i3] at hu
        cases hu
        obtain ⟨h1, rfl⟩ := yU_some hv
        have hfp := hE (n - 1) (by omega)
        have e1 : f + ((n - 1 : Nat) : Int) = f + (n : Int) - 1 := by omega
        rw [e1] at hfp
        have hbp := cnt_bd c (f + (n : Int) - 1) (frame_ok hfp).2.2.2.2.2.2 lv
        have hk := link_ok (y := f + (n : Int) - 1) hfp (by rw [show f + (n : Int) - 1 + 1 = f + n by omega]; exact hfn) (cntL c (f + (n : Int) - 1) lv - 1) (by omega) (by rw [show f + (n : Int) - 1 + 1 = f + n by omega]; exact h1)
        rw [show f + (n : Int) - 1 + 1 = f + n by omega, show (((cntL c (f + (n : Int) - 1) lv - 1 : Nat) : Int)) + 1 = (cntL c (f + (n : Int) - 1) lv : Int) by omega] at hk
        exact hk
      · rw [allUp, List.getElem?_append_left ?_]
        · exact i2
        · exact (List.getElem?_eq_some_iff.1 i2).1

theorem flatU_get (l : List Un) (i : Nat) (u : Un) (h : l[i]? = some u) : (flatU l)[i * 3]? = some (.int .i64 u.lv) ∧ (flatU l)[i * 3 + 1]? = some (.int .i64 u.yr) ∧ (flatU l)[i * 3 + 2]? = some (.int .i64 u.ix) := by
  induction l generalizing i with
  | nil => simp at h
  | cons a l ih =>
    cases i with
    | zero => simp at h; subst h; simp [flatU]
    | succ i =>
      have h2 := ih i (by simpa using h)
      have e : flatU (a :: l) = .int .i64 a.lv :: .int .i64 a.yr :: .int .i64 a.ix :: flatU l := rfl
      rw [e, show (i + 1) * 3 = i * 3 + 1 + 1 + 1 by omega]
      simp only [List.getElem?_cons_succ, show i * 3 + 1 + 1 + 1 + 1 = (i * 3 + 1) + 1 + 1 + 1 by omega, show i * 3 + 1 + 1 + 1 + 2 = (i * 3 + 2) + 1 + 1 + 1 by omega]
      exact h2
theorem UnsAt.cell {w : World} {g cap : Nat} {l : List Un} (h : UnsAt w g cap l) {i : Nat} {u : Un} (hi : l[i]? = some u) :
    w.cell? ⟨g, i * 3, none⟩ = some (.int .i64 u.lv) ∧ w.cell? ⟨g, i * 3 + 1, none⟩ = some (.int .i64 u.yr) ∧ w.cell? ⟨g, i * 3 + 2, none⟩ = some (.int .i64 u.ix) := by
  have hil := (List.getElem?_eq_some_iff.1 hi).1
  rcases h.2 with ⟨h1, _⟩ | ⟨g', cap', cur, he, _, hg, hn, _, hs, ht⟩
  · cases h1
  · cases he
    obtain ⟨f0, f1, f2⟩ := flatU_get l i u hi
    have hc : ∀ k, k < l.length * 3 → w.cell? ⟨g, k, none⟩ = (flatU l)[k]? := by
      intro k hk
      rw [cell_of_row w g k cur _ (0, 0) hg, ← ht, List.getElem?_take, if_pos hk]
      simp
    exact ⟨(hc _ (by omega)).trans f0, (hc _ (by omega)).trans f1, (hc _ (by omega)).trans f2⟩
theorem UnsAt.call {w w' : World} {g cap : Nat} {l : List Un} (h : UnsAt w g cap l) (hb : Below w.heap.size w w') : UnsAt w' g cap l := by
  refine ⟨h.1, ?_⟩
  rcases h.2 with h1 | ⟨g', cap', cur, he, h2, hg, h3⟩
  · exact .inl h1
  · exact .inr ⟨g', cap', cur, he, h2, (hb.block g' (Array.getElem?_eq_some_iff.1 hg).1).trans hg, h3⟩
theorem UnsAt.alloc {w : World} {g cap : Nat} {l : List Un} (h : UnsAt w g cap l) (o : Obj) : UnsAt (w.alloc o) g cap l := h.call (((Below.refl _ w).alloc (Nat.le_refl _) o))
theorem UnsAt.lt {w : World} {g cap : Nat} {l : List Un} (h : UnsAt w g cap l) (h0 : 0 < l.length) : g < w.heap.size ∧ l.length ≤ cap := by
  rcases h.2 with ⟨h1, _⟩ | ⟨g', cap', cur, he, h2, hg, h3, _⟩
  · cases h1
  · cases he
    exact ⟨(Array.getElem?_eq_some_iff.1 hg).1, h3⟩
end Go.Proofs.YtjhhmeoibfdcmaaGreatDoor
