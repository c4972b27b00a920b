/- Ratios in memory. -/
import Derived.Test.YtjhhmeoibfdcmaaGreatDoorRtP
import Derived.Test.YtjhhmeoibfdcmaaGreatDoorMSr
namespace Go.Proofs.YtjhhmeoibfdcmaaGreatDoor
open Go.RowKit Qd
set_option linter.unusedSimpArgs false
set_option linter.unusedVariables false

def rtC (x : Int × Int) : List Value := [.int .i64 x.1, .int .i64 x.2]
def RtsAt (w : World) (g : Nat) (D : List (Int × Int)) : Prop := w.heap[g]? = some (.cells (D.flatMap rtC).toArray 37 (0, 0))
theorem RtsAt.lt {w : World} {g : Nat} {D : List (Int × Int)} (h : RtsAt w g D) : g < w.heap.size := (Array.getElem?_eq_some_iff.1 h).1
theorem rt_get (D : List (Int × Int)) (i : Nat) (x : Int × Int) (h : D[i]? = some x) : (D.flatMap rtC)[i * 2]? = some (.int .i64 x.1) ∧ (D.flatMap rtC)[i * 2 + 1]? = some (.int .i64 x.2) := by
  induction D generalizing i with
  | nil => simp at h
  | cons y l ih =>
    cases i with
    | zero => simp at h; subst h; simp [rtC]
    | succ i =>
      have := ih i (by simpa using h)
      rw [show (i + 1) * 2 = i * 2 + 1 + 1 by omega]
      simpa [rtC] using this
theorem rt_set (D : List (Int × Int)) (i : Nat) (x : Int × Int) (h : i < D.length) : ((D.flatMap rtC).set (i * 2) (.int .i64 x.1)).set (i * 2 + 1) (.int .i64 x.2) = (D.set i x).flatMap rtC := by
  induction D generalizing i with
  | nil => simp at h
  | cons y l ih =>
    cases i with
    | zero => simp [rtC]
    | succ i =>
      have := ih i (by simpa using h)
      rw [show (i + 1) * 2 = i * 2 + 1 + 1 by omega]
      simpa [rtC] using this
theorem RtsAt.cell {w : World} {g : Nat} {D : List (Int × Int)} (h : RtsAt w g D) {i : Nat} {x : Int × Int} (hi : D[i]? = some x) : w.cell? ⟨g, i * 2, none⟩ = some (.int .i64 x.1) ∧ w.cell? ⟨g, i * 2 + 1, none⟩ = some (.int .i64 x.2) := by
  have := rt_get D i x hi
  simp [World.cell?, show w.heap[g]? = _ from h, this]
theorem RtsAt.frozen {w : World} {g : Nat} {D : List (Int × Int)} (h : RtsAt w g D) (k : Nat) : w.frozen? ⟨g, k, none⟩ = false := by simp [World.frozen?, show w.heap[g]? = _ from h]
theorem RtsAt.call {w w' : World} {g : Nat} {D : List (Int × Int)} (h : RtsAt w g D) (hb : Below w.heap.size w w') : RtsAt w' g D := (hb.block g h.lt).trans h
def rtPut (w : World) (g i : Nat) (x : Int × Int) : World := (w.setCell ⟨g, i * 2, none⟩ (.int .i64 x.1)).setCell ⟨g, i * 2 + 1, none⟩ (.int .i64 x.2)
theorem RtsAt.put {w : World} {g : Nat} {D : List (Int × Int)} (h : RtsAt w g D) (i : Nat) (x : Int × Int) (hi : i < D.length) : RtsAt (rtPut w g i x) g (D.set i x) := by
  unfold RtsAt rtPut at *
  rw [← rt_set D i x hi]
  simp [World.setCell, Array.getElem?_modify, h]
theorem rtPut_below {w0 w : World} {K g i : Nat} {x : Int × Int} (h : Below K w0 w) (hg : K ≤ g) : Below K w0 (rtPut w g i x) := (h.setCell hg _).setCell hg _
theorem rt_info : (Tryz.prog.info? 37).map (fun i => (i.zero, i.size, i.bytes)) = some (some (.agg #[.int .i64 0, .int .i64 0]), 2, 16) := by kernel_rfl
abbrev rtZ : Int × Int := (0, 0)
def rtObj (n : Nat) : Obj := .cells ((List.replicate n rtZ).flatMap rtC).toArray 37
theorem RtsAt.new (w : World) (n : Nat) : RtsAt (w.alloc (rtObj n)) w.heap.size (List.replicate n rtZ) := by
  unfold RtsAt rtObj
  rw [heap_alloc_new]
theorem rt_flen : ∀ D : List (Int × Int), (D.flatMap rtC).length = D.length * 2 := by
  intro D
  induction D with
  | nil => rfl
  | cons x D ih => simp only [List.flatMap_cons, List.length_append, List.length_cons, ih, rtC, List.length_nil]; omega
theorem rt_flat_at (n i : Nat) (h : i < n * 2) : ((List.replicate n rtZ).flatMap rtC)[i]? = some (.int .i64 0) := by
  have hd : i / 2 < n := by omega
  have hr : (List.replicate n rtZ)[i / 2]? = some rtZ := by simp [hd]
  obtain ⟨g0, g1⟩ := rt_get _ _ _ hr
  rcases (show i % 2 = 0 ∨ i % 2 = 1 by omega) with h | h
  · have e : i / 2 * 2 = i := by omega
    rw [e] at g0
    exact g0
  · have e : i / 2 * 2 + 1 = i := by omega
    rw [e] at g1
    exact g1
theorem make_rt (n : Nat) (hn : n ≤ 100000) (w : World) : (Instr.makeSlice 29 (.int .i64 (n : Int)) (.int .i64 (n : Int))).run Tryz.prog w = .ok (.slice (some ⟨w.heap.size, 0, none⟩) n n) (w.alloc (rtObj n)) := by
  obtain ⟨i0, hi, hz0, hz1, hz2⟩ := info_parts rt_info
  have hr := run_make (P := Tryz.prog) w 29 37 i0 (.agg #[.int .i64 0, .int .i64 0]) Tryz.underlying29 hi hz0 .i64 .i64 n n (by omega) (by omega) (by rw [hz2]; omega) (by omega)
  rw [hr, hz1]
  have e : madeCells (Value.agg #[.int .i64 0, .int .i64 0]).cells (((n : Int)).toNat * 2) = ((List.replicate n rtZ).flatMap rtC).toArray := by
    apply Array.ext
    · simp [madeCells, rtC]
    · intro i h1 h2
      have h3 : i < n * 2 := by simpa [rtC] using h2
      have h4 := rt_flat_at n i h3
      have h5 := (List.getElem?_eq_some_iff.1 h4).2
      have h6 : ((List.replicate n rtZ).flatMap rtC).toArray[i]'h2 = Value.int .i64 0 := by
        rw [List.getElem_toArray]; exact h5
      rw [h6]
      rcases (show i % 2 = 0 ∨ i % 2 = 1 by omega) with h | h <;> simp [madeCells, Value.cells, h]
  rw [e]
  simp [rtObj]
/-- Ratios of one's own. -/
abbrev OwnQ (w : World) (b : Nat) (v : Value) (D : List (Int × Int)) : Prop := w.ownsRow b 37 2 v D.length (D.flatMap rtC)
theorem ownQ_call {w w' : World} {b : Nat} {v : Value} {l : List (Int × Int)} (h : OwnQ w b v l) (hb : Below w.heap.size w w') : OwnQ w' b v l := by
  refine ⟨h.1, ?_⟩
  rcases h.2 with h1 | ⟨g', cap', cur, he, h2, hg', h3⟩
  · exact .inl h1
  · exact .inr ⟨g', cap', cur, he, h2, (hb.block g' (Array.getElem?_eq_some_iff.1 hg').1).trans hg', h3⟩
set_option maxRecDepth 100000 in
/-- One ratio more. -/
theorem app_rt {ops : Array Oper} {rest : List Oper} {o : Oper} {a : Act} {Q : Exit → Act → World → Prop} {w : World} (hgd : o.guard = none) (s x : Operand)
    (ho : o.op = .call { callee := .builtin .append, args := #[s, x], argTypes := #[29, 29] }) (base : Nat) (v : Value) (m : List (Int × Int)) (r : Int × Int) (B : Nat)
    (hs : a.eval s = v) (hown : OwnQ w base v m) (hx : a.eval x = .slice (some ⟨B, 0, none⟩) 1 1) (hB : BlkIs w B #[.int .i64 r.1, .int .i64 r.2] 37) (hml : m.length ≤ 100000) (hbase : base ≤ w.heap.size)
    (h : ∀ v' w', OwnQ w' base v' (m ++ [r]) → Below base w w' → wpList Tryz.prog ops Q rest (a.put o.dst v') w') : wpList Tryz.prog ops Q (o :: rest) a w := by
  obtain ⟨i0, hi, hi0, hi1, hi2⟩ := info_parts rt_info
  have hfl := rt_flen
  refine wpList_append_own w hgd s x 29 ho base 37 i0 (.agg #[.int .i64 0, .int .i64 0]) 2 16 Tryz.underlying29 hi hi0 hi1 hi2 rfl (by decide) v m.length (m.flatMap rtC) hs hown ⟨B, 0, none⟩ 1 1 (rtC r) hx rfl ?_ ?_ (by unfold maxLen; omega) (by omega) hbase ?_
  · intro j y hj
    match j, hj with
    | 0, hj => simp [rtC] at hj; subst hj; simpa [Addr.add] using hB.cell 0
    | 1, hj => simp [rtC] at hj; subst hj; simpa [Addr.add] using hB.cell 1
  · intro y hy
    simp [rtC] at hy
    rcases hy with rfl | rfl <;> rfl
  · intro v' w' ho' hg _
    exact h v' w' (by unfold OwnQ; rw [List.length_append, List.flatMap_append]; simpa using ho') ((Below.refl base w).grown hg hbase fun k hk => (hown.lt k hk).1)
/-- Ratios that can be read. -/
def Rts (w : World) (v : Value) (D : List (Int × Int)) : Prop := ∃ ad cap, v = .slice ad D.length cap ∧ ∀ (i : Nat) (x : Int × Int), D[i]? = some x → ∃ g, ad = some ⟨g, 0, none⟩ ∧ g < w.heap.size ∧ w.cell? ⟨g, i * 2, none⟩ = some (.int .i64 x.1) ∧ w.cell? ⟨g, i * 2 + 1, none⟩ = some (.int .i64 x.2)
theorem Rts.call {w w' : World} {v : Value} {D : List (Int × Int)} (h : Rts w v D) (hb : Below w.heap.size w w') : Rts w' v D := by
  obtain ⟨ad, cap, h1, h2⟩ := h
  refine ⟨ad, cap, h1, fun i x hx => ?_⟩
  obtain ⟨g, e, hg, c0, c1⟩ := h2 i x hx
  exact ⟨g, e, Nat.lt_of_lt_of_le hg hb.size, (hb.cell (p := ⟨g, _, none⟩) hg).trans c0, (hb.cell (p := ⟨g, _, none⟩) hg).trans c1⟩
theorem RtsAt.rts {w : World} {g : Nat} {D : List (Int × Int)} (h : RtsAt w g D) (cap : Nat) : Rts w (.slice (some ⟨g, 0, none⟩) D.length cap) D :=
  ⟨_, _, rfl, fun i x hx => ⟨g, rfl, h.lt, h.cell hx⟩⟩
theorem rts_nil (w : World) : Rts w (.slice none 0 0) [] := ⟨none, 0, rfl, fun i x hx => by simp at hx⟩
theorem ownQ_rts {w : World} {b : Nat} {v : Value} {D : List (Int × Int)} (h : OwnQ w b v D) : Rts w v D := by
  have hfl := rt_flen
  rcases h.2 with ⟨h1, h2⟩ | ⟨g, cap, cur, h1, h2, h3, h4, h5, h6, h7⟩
  · have hl : D = [] := List.length_eq_zero_iff.1 h2
    subst hl
    exact ⟨none, 0, h1, fun i x hx => by simp at hx⟩
  · refine ⟨_, _, h1, fun i x hx => ⟨g, rfl, (Array.getElem?_eq_some_iff.1 h3).1, ?_⟩⟩
    subst h1
    have hi := (List.getElem?_eq_some_iff.1 hx).1
    have h8 := hfl D
    obtain ⟨s0, s1⟩ := rt_get D i x hx
    refine ⟨?_, ?_⟩
    · rw [h.cellAt _ (by omega)]; simp [s0]
    · rw [h.cellAt _ (by omega)]; simp [s1]
theorem eqRatio (n : Nat) (a b x y : Int) (w : World) : (Op.equalIn (n + 2) 37 (.agg #[.int .i64 a, .int .i64 b]) (.agg #[.int .i64 x, .int .i64 y])).run Tryz.prog w = .ok (a == x && b == y) w := by
  have u3 := Tryz.underlying2
  have a3 := Tryz.isAgg2
  have z3 := Tryz.sizeOf2
  rw [run_equalIn_struct w _ _ _ _ (by simp [Program.fieldsOf, Tryz.underlying37]) (by kernel_rfl)]
  simp only [Program.fieldsOf, Tryz.underlying37]
  go_simp
  by_cases h1 : a = x <;> by_cases h2 : b = y <;> simp [h1, h2]
@[go_sem high] theorem neq_ratio (a b x y : Int) (w : World) : (binOp .neq 37 (.agg #[.int .i64 a, .int .i64 b]) (.agg #[.int .i64 x, .int .i64 y])).run Tryz.prog w = .ok (.bool (!(a == x && b == y))) w := by
  rw [run_neq_struct, eqRatio 9998]; rfl

/-! The exact shares. -/
def exQ (a n x : Int) : Int × Int := (exN a (x.toNat / Nat.gcd x.toNat n.toNat) (n.toNat / Nat.gcd x.toNat n.toNat), (exM a (n.toNat / Nat.gcd x.toNat n.toNat) : Int))
def exsL (a : Int) (ws : List Int) : List (Int × Int) := ws.map (exQ a ws.sum)
def exsR (a n : Int) : List Int → Int
  | [] => 0
  | x :: l => if fitE (exQ a n x).1 = 0 then exsR a n l else fitE (exQ a n x).1
def exsE (a : Int) (ws : List Int) : Int := exsR a ws.sum ws
theorem exsL_len (a : Int) (ws : List Int) : (exsL a ws).length = ws.length := by simp [exsL]
theorem exsR_take {a n : Int} {L : List Int} {j : Nat} {x : Int} (hx : L[j]? = some x) (h : exsR a n (L.take j) = 0) (h0 : fitE (exQ a n x).1 = 0) : exsR a n (L.take (j + 1)) = 0 := by
  induction L generalizing j with
  | nil => simp at hx
  | cons y l ih =>
    cases j with
    | zero => simp at hx; subst hx; simp [exsR, h0]
    | succ j =>
      simp only [List.take_succ_cons, exsR] at h ⊢
      by_cases hy : fitE (exQ a n y).1 = 0
      · rw [if_pos hy] at h ⊢; exact ih (by simpa using hx) h
      · rw [if_neg hy] at h; exact absurd h hy
theorem exsR_no {a n : Int} {L : List Int} {j : Nat} {x : Int} (hx : L[j]? = some x) (h : exsR a n (L.take j) = 0) (h0 : ¬ fitE (exQ a n x).1 = 0) : exsR a n L = fitE (exQ a n x).1 := by
  induction L generalizing j with
  | nil => simp at hx
  | cons y l ih =>
    cases j with
    | zero => simp at hx; subst hx; simp [exsR, h0]
    | succ j =>
      simp only [List.take_succ_cons, exsR] at h ⊢
      by_cases hy : fitE (exQ a n y).1 = 0
      · rw [if_pos hy] at h ⊢; exact ih (by simpa using hx) h
      · rw [if_neg hy] at h; exact absurd h hy
/-- What both sides need of a weight. -/
theorem ex_facts {n x : Int} (h0 : 0 ≤ x) (h1 : x ≤ n) (hn : 0 < n) (hn2 : n < 4294967296) :
    x = (x.toNat : Int) ∧ n = (n.toNat : Int) ∧ 1 ≤ n.toNat ∧ n.toNat < 4294967296 ∧ x.toNat < 4294967296 ∧ 1 ≤ n.toNat / Nat.gcd x.toNat n.toNat ∧ n.toNat / Nat.gcd x.toNat n.toNat < 4294967296 ∧ x.toNat / Nat.gcd x.toNat n.toNat < 4294967296 ∧ Nat.gcd (x.toNat / Nat.gcd x.toNat n.toNat) (n.toNat / Nat.gcd x.toNat n.toNat) = 1 := by
  have hg : 0 < Nat.gcd x.toNat n.toNat := Nat.gcd_pos_of_pos_right _ (by omega)
  refine ⟨by omega, by omega, by omega, by omega, by omega, ?_, Nat.lt_of_le_of_lt (Nat.div_le_self _ _) (by omega), Nat.lt_of_le_of_lt (Nat.div_le_self _ _) (by omega), ?_⟩
  · exact (Nat.one_le_div_iff hg).2 (Nat.le_of_dvd (by omega) (Nat.gcd_dvd_right _ _))
  · exact Nat.coprime_div_gcd_div_gcd hg
theorem exV_get (a n x : Int) (h : fitE (exQ a n x).1 = 0) : exV a (x.toNat / Nat.gcd x.toNat n.toNat) (n.toNat / Nat.gcd x.toNat n.toNat) = .agg #[.int .i64 (exQ a n x).1, .int .i64 (exQ a n x).2] := by
  have h' : fitE (exN a (x.toNat / Nat.gcd x.toNat n.toNat) (n.toNat / Nat.gcd x.toNat n.toNat)) = 0 := h
  unfold exV
  rw [if_pos h']
  rfl
end Go.Proofs.YtjhhmeoibfdcmaaGreatDoor
