/- Twin, plain: so many weeks, and how spans are joined. Twin, first part: what rows of units keep, and the iterator of twin.weeks. Twin, second part: twin.place, and where a week stands that is counted from a year's first one. Twin, plain: with which weeks a unit of a year of weeks is compared. Twin, third part: what is kept where weeks are gone through. -/
import Derived.Test.YtjhhmeoibfdcmaaGreatMSa
import Derived.Test.YtjhhmeoibfdcmaaGreatUnitV
import Derived.Test.YtjhhmeoibfdcmaaGreatMFe
import Derived.Test.YtjhhmeoibfdcmaaGreatMCo
import Derived.ArgAppend
import Derived.Test.YtjhhmeoibfdcmaaGreatMUn
namespace Go.Proofs.YtjhhmeoibfdcmaaGreat
open Go.RowKit Qd
set_option linter.unusedSimpArgs false
set_option linter.unusedVariables false

/-- So many weeks, from one on. -/
def wkU (u : Un) (n : Nat) : List Un := upto (fun j : Nat => (⟨u.lv, u.yr, u.ix + (j : Int)⟩ : Un)) n
theorem wkU_succ (u : Un) (n : Nat) : wkU u (n + 1) = wkU u n ++ [⟨u.lv, u.yr, u.ix + (n : Int)⟩] := upto_succ _ _
theorem wkU_len (u : Un) (n : Nat) : (wkU u n).length = n := by simp [wkU, upto_length]
theorem upto_add {α : Type} (f : Nat → α) (m n : Nat) : upto f (m + n) = upto f m ++ upto (fun j => f (m + j)) n := by
  induction n with
  | zero => simp [upto]
  | succ n ih => rw [← Nat.add_assoc, upto_succ, ih, upto_succ, List.append_assoc]
theorem upto_congr {α : Type} {f g : Nat → α} {n : Nat} (h : ∀ j, j < n → f j = g j) : upto f n = upto g n := by
  unfold upto
  exact List.map_congr_left fun j hj => h j (List.mem_range.1 hj)
theorem upto_get {α : Type} (f : Nat → α) (n j : Nat) (h : j < n) : (upto f n)[j]? = some (f j) := by simp [upto, h]
theorem upto_some {α : Type} {f : Nat → α} {n j : Nat} {x : α} (h : (upto f n)[j]? = some x) : j < n ∧ x = f j := by
  have hj : j < n := by have := (List.getElem?_eq_some_iff.1 h).1; simpa [upto_length] using this
  rw [upto_get f n j hj] at h
  exact ⟨hj, (Option.some.inj h).symm⟩
theorem upto_zero {α : Type} (f : Nat → α) : upto f 0 = [] := by simp [upto]
theorem wkU_add (u : Un) (m n : Nat) : wkU u (m + n) = wkU u m ++ wkU ⟨u.lv, u.yr, u.ix + (m : Int)⟩ n := by
  rw [wkU, upto_add]
  congr 1
  refine upto_congr fun j _ => ?_
  simp only [Un.mk.injEq, true_and]
  omega

/-- A span more, joined to the last one where it adjoins it. -/
def runAdd (r : List Sp) (s : Sp) : List Sp := match r.getLast? with
  | some p => if p.b = s.a - 1 then r.dropLast ++ [⟨p.a, s.b⟩] else r ++ [s]
  | none => [s]
theorem runAdd_nil (s : Sp) : runAdd [] s = [s] := rfl
theorem runAdd_join (r : List Sp) (p s : Sp) (h : p.b = s.a - 1) : runAdd (r ++ [p]) s = r ++ [⟨p.a, s.b⟩] := by simp [runAdd, h]
theorem runAdd_new (r : List Sp) (p s : Sp) (h : ¬ p.b = s.a - 1) : runAdd (r ++ [p]) s = r ++ [p] ++ [s] := by simp [runAdd, h]
/-- Spans, joined. -/
def runsL (l : List Sp) : List Sp := l.foldl runAdd []
theorem runs_snoc (l : List Sp) (s : Sp) : runsL (l ++ [s]) = runAdd (runsL l) s := by simp [runsL]
/-- Spans that adjoin each other are one. -/
theorem fold_run (f : Nat → Int) (m : Nat) (r : List Sp) (a : Int) : (upto (fun j => (⟨f j, f (j + 1) - 1⟩ : Sp)) m).foldl runAdd (r ++ [⟨a, f 0 - 1⟩]) = r ++ [⟨a, f m - 1⟩] := by
  induction m with
  | zero => simp [upto]
  | succ m ih =>
    rw [upto_succ, List.foldl_append, ih]
    exact runAdd_join _ _ _ rfl
theorem runs_one (f : Nat → Int) (m : Nat) (h : 0 < m) : runsL (upto (fun j => (⟨f j, f (j + 1) - 1⟩ : Sp)) m) = [⟨f 0, f m - 1⟩] := by
  obtain ⟨n, rfl⟩ : ∃ n, m = n + 1 := ⟨m - 1, by omega⟩
  induction n with
  | zero => simp [upto, runsL, runAdd]
  | succ n ih =>
    rw [upto_succ, runs_snoc, ih (by omega)]
    exact runAdd_join [] _ _ rfl
theorem runs_two (f g : Nat → Int) (m n : Nat) (h : 0 < m) (hn : 0 < n) (hg : ¬ f m = g 0) :
    runsL (upto (fun j => (⟨f j, f (j + 1) - 1⟩ : Sp)) m ++ upto (fun j => (⟨g j, g (j + 1) - 1⟩ : Sp)) n) = [⟨f 0, f m - 1⟩, ⟨g 0, g n - 1⟩] := by
  obtain ⟨k, rfl⟩ : ∃ k, n = k + 1 := ⟨n - 1, by omega⟩
  induction k with
  | zero =>
    rw [show upto (fun j => (⟨g j, g (j + 1) - 1⟩ : Sp)) (0 + 1) = [⟨g 0, g (0 + 1) - 1⟩] by simp [upto], runs_snoc, runs_one f m h]
    exact runAdd_new [] _ _ (by simp only; omega)
  | succ k ih =>
    rw [upto_succ, ← List.append_assoc, runs_snoc, ih (by omega)]
    exact runAdd_join [⟨f 0, f m - 1⟩] _ _ rfl
end Go.Proofs.YtjhhmeoibfdcmaaGreat

namespace Go.Proofs.YtjhhmeoibfdcmaaGreat
open Go.RowKit Go.Shelf Qd
set_option linter.unusedSimpArgs false
set_option linter.unusedVariables false
attribute [local go_sem] Oper.semAt_some

/-- An append turns the row that it is given only where that one has room. -/
theorem run_append_room_or (w : World) {P : Program} (base : Nat) (t ty e : TypeId) (i : TypeInfo) (z : Value) (size bytes : Nat) (ht : P.underlying t = some (.slice e)) (hi : P.info? e = some i) (hz : i.zero = some z)
    (hsize : i.size = size) (hby : i.bytes = bytes) (hzs : z.cells.size = size) (hsz : 0 < size)
    (v : Value) (n : Nat) (xs : List Value) (hown : w.ownsRow base e size v n xs)
    (a : Addr) (m c : Nat) (news : List Value) (hl : news.length = m * size) (hnews : ∀ j u, news[j]? = some u → w.cell? (a.add j) = some u) (h1 : ∀ u ∈ news, u.oneCell' = true)
    (h63 : n + m ≤ maxLen) (hbytes : (n + m) * bytes ≤ 140737488355328) (hbase : base ≤ w.heap.size) (hm : 0 < m) :
    ∃ v' w', (Builtin.append_ #[t, t] ty #[v, .slice (some a) m c]).run P w = .ok v' w' ∧ w'.ownsRow base e size v' (n + m) (xs ++ news) ∧ w.grownBy w' v.ownBlock ∧
      (w.grownBy w' none ∨ ∃ g cap cur, v = .slice (some ⟨g, 0, none⟩) n cap ∧ n + m ≤ cap ∧ w.heap[g]? = some (.cells cur e (0, 0)) ∧ cur.size = cap * size) := by
  rcases hown.2 with ⟨rfl, hn0⟩ | ⟨g, cap, cur, rfl, hbg, hg, hnc, hcm, hcs, htake⟩
  · obtain ⟨v', w', r1, r2, r3, r4⟩ := run_append_own (P := P) w base t ty e i z size bytes ht hi hz hsize hby hzs hsz _ n xs hown a m c news hl hnews h1 h63 hbytes hbase
    exact ⟨v', w', r1, r2, r3, .inl r3⟩
  · by_cases hroom : n + m ≤ cap
    · obtain ⟨v', w', r1, r2, r3, r4⟩ := run_append_own (P := P) w base t ty e i z size bytes ht hi hz hsize hby hzs hsz _ n xs hown a m c news hl hnews h1 h63 hbytes hbase
      exact ⟨v', w', r1, r2, r3, .inr ⟨g, cap, cur, rfl, hroom, hg, hcs⟩⟩
    · obtain ⟨v', w', r1, r2, r3⟩ := run_append_arg_grows (P := P) w t ty e i z size bytes ht hi hz hsize hby hzs hsz ⟨g, 0, none⟩ n cap xs hown.1 (hown.cells (g := g) rfl) a m c news hl hnews (by omega) h63 hbytes
      exact ⟨v', w', r1, r2.base hbase, ⟨r3.os, r3.tape, r3.output, r3.size, fun k hk _ => r3.block k hk (by simp)⟩, .inl r3⟩
theorem wpListIn_append_or {F : Fence} {n : Nat} {P : Program} (w : World) {ops : Array Oper} {rest : List Oper} {o : Oper} {a : Act} {Q : Exit → Act → World → Prop}
    (hg : o.guard = none) (s x : Operand) (t : TypeId) (hop : o.op = Op.call { callee := Callee.builtin Builtin.append, args := #[s, x], argTypes := #[t, t] })
    (base : Nat) (e : TypeId) (i : TypeInfo) (z : Value) (size bytes : Nat) (h1 : P.underlying t = some (.slice e)) (h2 : P.info? e = some i) (h3 : i.zero = some z) (h4 : i.size = size) (h5 : i.bytes = bytes) (h6 : z.cells.size = size) (h7 : 0 < size)
    (v : Value) (k : Nat) (xs : List Value) (hs : a.eval s = v) (hown : w.ownsRow base e size v k xs) (ad : Addr) (m c : Nat) (news : List Value) (hx : a.eval x = .slice (some ad) m c) (hn : news.length = m * size)
    (hc : ∀ j u, news[j]? = some u → w.cell? (ad.add j) = some u) (h1c : ∀ u ∈ news, u.oneCell' = true) (b1 : k + m ≤ maxLen) (b2 : (k + m) * bytes ≤ 140737488355328) (b3 : base ≤ w.heap.size) (hm : 0 < m)
    (hK : ∀ v' w', w'.ownsRow base e size v' (k + m) (xs ++ news) → w.grownBy w' v.ownBlock → (w.grownBy w' none ∨ ∃ g cap cur, v = .slice (some ⟨g, 0, none⟩) k cap ∧ k + m ≤ cap ∧ w.heap[g]? = some (.cells cur e (0, 0)) ∧ cur.size = cap * size) → wpListIn F n P ops Q rest (a.put o.dst v') w') :
    wpListIn F n P ops Q (o :: rest) a w := by
  refine wpListIn_plain hg fun K hK' => ?_
  obtain ⟨v', w', hrun, r1, r2, r3⟩ := run_append_room_or (P := P) w base t o.type e i z size bytes h1 h2 h3 h4 h5 h6 h7 v k xs hown ad m c news hn hc h1c b1 b2 b3 hm
  unfold Oper.wpIn
  refine ⟨?_, ?_⟩
  · simp [Oper.about, hop, resolve, Target.leads, Sem.run_pure]
  · rw [Oper.semAt_plain F _ _ (by rw [hop]; intro c hc'; cases hc')]
    simp [execOp, hop, resolve, invoke, builtin, hs, hx, hrun, Result.andThen]
    exact hK' _ _ (hK v' w' r1 r2 r3)

/-- All cells lie as they lay, but boxes of slices of units, and rows of more units than one. -/
def KeepBx (W W' : World) : Prop := W.heap.size ≤ W'.heap.size ∧ ∀ (B : Nat) (cs : Array Value) (t : TypeId) (z : Nat × Nat), t ≠ 115 → (t = 26 → cs.size = 3) → W.heap[B]? = some (.cells cs t z) → W'.heap[B]? = some (.cells cs t z)
theorem KeepBx.trans {A B C : World} (h : KeepBx A B) (k : KeepBx B C) : KeepBx A C := ⟨Nat.le_trans h.1 k.1, fun i cs t z h1 h2 hi => k.2 i cs t z h1 h2 (h.2 i cs t z h1 h2 hi)⟩
theorem KeepBx.below {W W' : World} (h : Below W.heap.size W W') : KeepBx W W' := ⟨h.size, fun i cs t z _ _ hi => (h.block i (Array.getElem?_eq_some_iff.1 hi).1).trans hi⟩
theorem KeepBx.alloc (W : World) (o : Obj) : KeepBx W (W.alloc o) := .below ((Below.refl _ _).alloc (Nat.le_refl _) _)
theorem KeepBx.turn {W W' : World} {row : Option Nat} (hg : W.grownBy W' row) (hr : ∀ r, row = some r → ∀ cs t z, W.heap[r]? = some (.cells cs t z) → t = 115 ∨ (t = 26 ∧ cs.size ≠ 3)) : KeepBx W W' :=
  ⟨hg.size, fun i cs t z h1 h2 hi => (hg.block i (Array.getElem?_eq_some_iff.1 hi).1 (fun e => by rcases hr i e.symm cs t z hi with h | h; exact h1 h; exact h.2 (h2 h.1))).trans hi⟩
theorem keepBx_putObj (W : World) (l : Nat) (o o' : Obj) (h : W.heap[l]? = some o) (ho : o.isCells = false) : KeepBx W (W.putObj l o') :=
  .turn (grownBy_putObj' W l o') (fun r e cs t z hk => by cases e; rw [h] at hk; cases hk; cases ho)
theorem BlkIs.bx {w w' : World} {B : Nat} {cs : Array Value} {t : TypeId} (h : BlkIs w B cs t) (hk : KeepBx w w') (h1 : t ≠ 115) (h2 : t = 26 → cs.size = 3) : BlkIs w' B cs t := hk.2 B cs t (0, 0) h1 h2 h
/-- An append to a row of units, and the store behind it, keep so much. -/
theorem app_bx {W w1 : World} {n₀ B : Nat} {v v' : Value} {k : Nat} {xs : List Value} {tmp : Obj}
    (hv : Boxed W B 115 v) (hrow : W.ownsRow n₀ 26 3 v k xs) (hk : v = .slice none 0 0 ∨ 0 < k)
    (hgrow : (W.alloc tmp).grownBy w1 v.ownBlock) (hor : (W.alloc tmp).grownBy w1 none ∨ ∃ g cap cur, v = .slice (some ⟨g, 0, none⟩) k cap ∧ k + 1 ≤ cap ∧ (W.alloc tmp).heap[g]? = some (.cells cur 26 (0, 0)) ∧ cur.size = cap * 3) :
    KeepBx W (w1.setCell ⟨B, 0, none⟩ v') := by
  have hv1 : Boxed w1 B 115 v := (hv.alloc tmp).kept hgrow (hv.not_row (by decide) hrow)
  refine ((KeepBx.alloc W tmp).trans ?_).trans (.turn (grownBy_setCell' w1 B v') (fun r e cs t z hk => ?_))
  · rcases hor with h | ⟨g, cap, cur, rfl, hc, hg, hs⟩
    · exact .turn h (fun r e => by cases e)
    · refine .turn hgrow (fun r e cs t z hk2 => ?_)
      obtain rfl : g = r := by simpa [Value.ownBlock] using e
      rw [hg] at hk2; cases hk2
      have : 0 < k := by rcases hk with h | h; cases h; exact h
      exact .inr ⟨rfl, by omega⟩
  · cases e
    rw [show w1.heap[B]? = _ from hv1] at hk; cases hk; exact .inl rfl

set_option maxHeartbeats 800000 in
theorem weeks_fn (m : Nat) (u v : Un) (w : World) :
    CallsIn Fence.wide m Tryz.prog 223 #[unitV u, unitV v] w fun e w' =>
      e = .returned (.func (.func 236) #[] #[.pointer (some ⟨w.heap.size, 0, none⟩), .pointer (some ⟨w.heap.size + 1, 0, none⟩)]) ∧
      w' = (w.alloc (.cells #[.int .i64 u.lv, .int .i64 u.yr, .int .i64 u.ix] 26)).alloc (.cells #[.int .i64 v.lv, .int .i64 v.yr, .int .i64 v.ix] 26) := by
  refine callsIn_wide.2 ?_
  simp only [unitV]
  go_enter Tryz.func223, Tryz.ntmps223
  go_wp2
  go_ret
  exact ⟨rfl, rfl⟩

/-- One of them. -/
abbrev Wk (u : Un) (n : Nat) : Type := {x : Un // ∃ j : Nat, j < n ∧ x = ⟨u.lv, u.yr, u.ix + (j : Int)⟩}
def encW {u : Un} {n : Nat} (x : Wk u n) : Array Value := #[unitV x.1]
def valW {u : Un} {n : Nat} (xs : List (Wk u n)) : List Un := xs.map Subtype.val
theorem valW_snoc {u : Un} {n : Nat} (xs : List (Wk u n)) (x : Wk u n) : valW (xs ++ [x]) = valW xs ++ [x.1] := by simp [valW]
theorem valW_len {u : Un} {n : Nat} (xs : List (Wk u n)) : (valW xs).length = xs.length := by simp [valW]
/-- The third cell of a box. -/
def ixAt (v : Value) (w : World) : Int := match v with | .pointer (some a) => intOf ((w.cell? ⟨a.block, 2, none⟩).getD (.int .i64 0)) | _ => 0

theorem ixAt_is {w : World} {B : Nat} {a b : Value} {i : Int} {ty : TypeId} (h : BlkIs w B #[a, b, .int .i64 i] ty) : ixAt (.pointer (some ⟨B, 0, none⟩)) w = i := by simp [ixAt, h.cell 2, intOf]

set_option maxRecDepth 100000 in
set_option maxHeartbeats 4000000 in
theorem weeks_stops (u v : Un) (n : Nat) (hn : n = (v.ix + 1 - u.ix).toNat) (hb : -1000 ≤ u.ix ∧ v.ix ≤ 1000) (B1 B2 : Nat) (w : World)
    (g1 : BlkIs w B1 #[.int .i64 u.lv, .int .i64 u.yr, .int .i64 u.ix] 26) (g2 : BlkIs w B2 #[.int .i64 v.lv, .int .i64 v.yr, .int .i64 v.ix] 26) :
    SeqStopsK Fence.wide 4 Tryz.prog 236 #[.pointer (some ⟨B1, 0, none⟩), .pointer (some ⟨B2, 0, none⟩)] (encW (u := u) (n := n)) KeepBx (fun xs => valW xs = wkU u n) (fun _ => True) n w := fun l J Jx W hW hJ hJx hY h0 => by
  have G1 := hide (g1.call hW)
  have G2 := hide (g2.call hW)
  have HY := hide hY
  have a0 : W.cell? ⟨B1, 0, none⟩ = some (.int .i64 u.lv) := (G1.out).cell 0
  have a1 : W.cell? ⟨B1, 1, none⟩ = some (.int .i64 u.yr) := (G1.out).cell 1
  have a2 : W.cell? ⟨B1, 2, none⟩ = some (.int .i64 u.ix) := (G1.out).cell 2
  clear hY
  refine callsIn_of_wp Tryz.func236 rfl trivial ?_ rfl
  simp only [Tryz.ntmps236, List.size_toArray, List.length_cons, List.length_nil, Nat.reduceAdd, Nat.reduceSub, Array.replicate_succ, Array.replicate_zero, List.push_toArray, List.append_toArray, List.nil_append, List.cons_append]
  gi_wp2_with fail
  have HJ0 := hide (hJ _ _ _ none h0 (World.grownBy_alloc W (.cells #[.int .i64 u.lv, .int .i64 u.yr, .int .i64 u.ix] 26) none) (by intro r e; cases e))
  gi_loopw [4] (fun s wr => ∃ (j Bu : Nat) (xs : List (Wk u n)), j ≤ n ∧ s = .pointer (some ⟨Bu, 0, none⟩) ∧ Hid (valW xs = wkU u j) ∧ Hid (J xs wr) ∧ BlkIs wr Bu #[.int .i64 u.lv, .int .i64 u.yr, .int .i64 (u.ix + j)] 26 ∧ BlkIs wr B2 #[.int .i64 v.lv, .int .i64 v.yr, .int .i64 v.ix] 26)
    (fun s wr => (v.ix + 1 - ixAt s wr).toNat)
  case atStart => exact ⟨0, _, [], Nat.zero_le _, rfl, hide (by simp [valW, wkU, upto]), HJ0, by simpa using BlkIs.new W _ _, G2.out.alloc _⟩
  case round =>
    obtain ⟨j, Bu, xs, hj, rfl, HX, HJs, b1, b2⟩ := hrel
    have x0 : wr.cell? ⟨Bu, 0, none⟩ = some (.int .i64 u.lv) := b1.cell 0
    have x1 : wr.cell? ⟨Bu, 1, none⟩ = some (.int .i64 u.yr) := b1.cell 1
    have x2 : wr.cell? ⟨Bu, 2, none⟩ = some (.int .i64 (u.ix + j)) := b1.cell 2
    have y2 : wr.cell? ⟨B2, 2, none⟩ = some (.int .i64 v.ix) := b2.cell 2
    by_cases hlt : j < n
    · obtain ⟨fn, tmps, assign, body, hy, hR⟩ := HY.out xs ⟨⟨u.lv, u.yr, u.ix + (j : Int)⟩, j, hlt, rfl⟩ wr HJs.out (by rw [← valW_len, HX.out, wkU_len]; exact hlt)
      simp only [encW, unitV] at hy
      have B1' := hide b1
      have B2' := hide b2
      have hle : decide (u.ix + (j : Int) ≤ v.ix) = true := by simp; omega
      gi_wp2
      refine hR.mono ?_
      rintro e W3 (⟨rfl, hJ3, hk3⟩ | ⟨rfl, hJx3⟩)
      · have HJ3 := hide hJ3
        have c1 := B1'.out.bx hk3 (by decide) (fun _ => rfl)
        have C2 := hide (B2'.out.bx hk3 (by decide) (fun _ => rfl))
        have z0 : W3.cell? ⟨Bu, 0, none⟩ = some (.int .i64 u.lv) := c1.cell 0
        have z1 : W3.cell? ⟨Bu, 1, none⟩ = some (.int .i64 u.yr) := c1.cell 1
        have z2 : W3.cell? ⟨Bu, 2, none⟩ = some (.int .i64 (u.ix + j)) := c1.cell 2
        clear hJ3 hk3 c1 x0 x1 x2 y2 b1 b2
        gi_wp2
        go_roundw
        case rel => exact ⟨j + 1, W3.heap.size, xs ++ [⟨⟨u.lv, u.yr, u.ix + (j : Int)⟩, j, hlt, rfl⟩], by omega, rfl, hide (by rw [wkU_succ, ← HX.out, valW_snoc]), hide (hJ _ _ _ none HJ3.out (World.grownBy_alloc _ _ none) (by intro r e; cases e)), by rw [show u.ix + ((j + 1 : Nat) : Int) = u.ix + j + 1 by omega]; exact BlkIs.new W3 _ _, C2.out.alloc _⟩
        case measure =>
          rw [ixAt_is (BlkIs.new W3 _ _), ixAt_is B1'.out]
          omega
      · have HJ3 := hide hJx3
        clear hJx3
        gi_wp2
        refine bodyPost_ret (results_none rfl _ _ _) rfl ?_
        exact ⟨⟨_, rfl⟩, .inr ⟨_, trivial, HJ3.out⟩⟩
    · have hjn : j = n := by omega
      subst hjn
      have hle : decide (u.ix + (j : Int) ≤ v.ix) = false := by simp; omega
      gi_wp2
      go_end0
      exact ⟨⟨_, rfl⟩, .inl ⟨_, HX.out, HJs.out⟩⟩
end Go.Proofs.YtjhhmeoibfdcmaaGreat

namespace Go.Proofs.YtjhhmeoibfdcmaaGreat
open Go.RowKit Qd
set_option linter.unusedSimpArgs false
set_option linter.unusedVariables false

/-- The week of a number, counted from a year's first one: of the year ahead, or of the one behind, where it must be. -/
def plU (c : Cal) (t n : Int) : Un := if n < 1 then ⟨5, t - 1, n + wksV c (t - 1)⟩ else if n ≤ wksV c t then ⟨5, t, n⟩ else ⟨5, t + 1, n - wksV c t⟩
theorem wks_beside {c : Cal} {t : Int} (hk : c.okB = true) (hk6 : c.kind ≠ 6) (h : srv c t) (z : Int) (h1 : t - 1 ≤ z) (h2 : z ≤ t + 1) : wksE c z = 0 ∧ askE c z 1601 = 0 ∧ (wksV c z = 52 ∨ wksV c z = 53) ∧ daysV c z = 7 * wksV c z := by
  have hok : c.Ok := by simpa [Cal.okB] using hk
  obtain ⟨_, _, b1, b2, _⟩ := ok_years hk
  obtain ⟨a1, a2⟩ := h
  have hA : askE c z 1601 = 0 := ask_2 hok (by omega) (by omega)
  have hE : wksE c z = 0 := by simp [wksE, wksB, hk, hk6, hA]
  exact ⟨hE, hA, (wks_ok hE).2.2.2.2.2.1, (wks_ok hE).2.2.2.2.2.2⟩
theorem res_place {tmps : Array Value} {W : World} {B : Nat} {a0 a1 a2 e : Int} (h6 : tmps[6]? = some (.pointer (some ⟨B, 0, none⟩))) (h7 : tmps[7]? = some (.int .i64 e))
    (g6 : BlkIs W B #[.int .i64 a0, .int .i64 a1, .int .i64 a2] 26) :
    (results Tryz.f225 tmps).run Tryz.prog W = .ok (.tuple #[.agg #[.int .i64 a0, .int .i64 a1, .int .i64 a2], .int .i64 e]) W := by
  have c0 := g6.cell 0
  have c1 := g6.cell 1
  have c2 := g6.cell 2
  simp at c0 c1 c2
  simp [results, Tryz.results225, go_sem, h6, h7, c0, c1, c2]
/-- The frame of twin.place: the calendar, and the result. -/
def PlSt (c : Cal) (B : Nat) (w0 w : World) : Prop := BlkIs w B (calCs c) 24 ∧ BlkIs w (B + 1) #[.int .i64 0, .int .i64 0, .int .i64 0] 26 ∧ Below B w0 w
theorem PlSt.call {c : Cal} {B : Nat} {w0 w w' : World} (h : PlSt c B w0 w) (hb : Below w.heap.size w w') : PlSt c B w0 w' := ⟨h.1.call hb, h.2.1.call hb, h.2.2.trans (hb.mono (Nat.le_of_lt h.1.lt))⟩
theorem PlSt.set {c : Cal} {B : Nat} {w0 w : World} (h : PlSt c B w0 w) (x y z : Value) : BlkIs (((w.setCell ⟨B + 1, 0, none⟩ x).setCell ⟨B + 1, 1, none⟩ y).setCell ⟨B + 1, 2, none⟩ z) (B + 1) #[x, y, z] 26 ∧ Below B w0 (((w.setCell ⟨B + 1, 0, none⟩ x).setCell ⟨B + 1, 1, none⟩ y).setCell ⟨B + 1, 2, none⟩ z) :=
  ⟨h.2.1.set123 x y z, ((h.2.2.setCell (by simp) _).setCell (by simp) _).setCell (by simp) _⟩

theorem PlSt.unx {c : Cal} {B : Nat} {w0 w : World} (h : PlSt c B w0 w) : (w.cell? ⟨B + 1, 0, none⟩ = some (.int .i64 0) ∧ w.cell? ⟨B + 1, 1, none⟩ = some (.int .i64 0) ∧ w.cell? ⟨B + 1, 2, none⟩ = some (.int .i64 0)) ∧ w.frozen? ⟨B + 1, 0, none⟩ = false ∧ w.frozen? ⟨B + 1, 1, none⟩ = false ∧ w.frozen? ⟨B + 1, 2, none⟩ = false :=
  ⟨⟨h.2.1.cell 0, h.2.1.cell 1, h.2.1.cell 2⟩, by simp [World.frozen?, show w.heap[B + 1]? = _ from h.2.1], by simp [World.frozen?, show w.heap[B + 1]? = _ from h.2.1], by simp [World.frozen?, show w.heap[B + 1]? = _ from h.2.1]⟩

set_option maxRecDepth 100000 in
set_option maxHeartbeats 4000000 in
theorem tplace_any (c : Cal) (t n : Int) (w : World) (hn : c.name.size ≤ 1000) (hk : c.okB = true) (hk6 : c.kind ≠ 6) (ht : srv c t) (hb : -40 ≤ n ∧ n ≤ 100) :
    Calls Tryz.prog 225 #[calV c, .int .i64 t, .int .i64 n] w fun e w' => e = .returned (.tuple #[unitV (plU c t n), .int .i64 0]) ∧ Below w.heap.size w w' := by
  have hty : 1602 ≤ t ∧ t ≤ 9996 := by
    obtain ⟨_, _, b1, b2, _⟩ := ok_years hk
    have h1 := ht.1
    have h2 := ht.2
    omega
  have n0 := wks_beside hk hk6 ht t (by omega) (by omega)
  have n1 := wks_beside hk hk6 ht (t - 1) (by omega) (by omega)
  have n2 := wks_beside hk hk6 ht (t + 1) (by omega) (by omega)
  have HE0 := hide n0.1
  have HE1 := hide n1.1
  have HE2 := hide n2.1
  have hw0 := n0.2.2.1
  have hw1 := n1.2.2.1
  have hw2 := n2.2.2.1
  clear n0 n1 n2 ht hk hk6
  simp only [calV]
  go_enter Tryz.func225, Tryz.ntmps225
  go_wp2_with fail
  have P0 := hide (show PlSt c w.heap.size w ((w.alloc (.cells (calCs c) 24)).alloc (.cells #[.int .i64 0, .int .i64 0, .int .i64 0] 26)) from ⟨(BlkIs.new w _ _).alloc _, by simpa using BlkIs.new (w.alloc (.cells (calCs c) 24)) #[.int .i64 0, .int .i64 0, .int .i64 0] 26, by (repeat' exact bel)⟩)
  go_loopw [1, 2] (fun s1 s2 wr => ∃ T N : Int, s1 = .int .i64 T ∧ s2 = .int .i64 N ∧ Hid ((T = t ∧ N = n) ∨ (n < 1 ∧ T = t - 1 ∧ N = n + wksV c (t - 1))) ∧ PlSt c w.heap.size w wr) (fun _ s2 _ => (1 - intOf s2).toNat)
  case atStart => exact ⟨t, n, rfl, rfl, hide (.inl ⟨rfl, rfl⟩), P0.out⟩
  case round =>
    obtain ⟨T, N, rfl, rfl, HTN, hP⟩ := hrel
    have HP := hide hP
    obtain ⟨q0, q1, q2, q3, q4, q5, q6, q7, q8, q9, q10, q11, q12, q13⟩ := HP.out.1.cal
    have hTN := HTN.out
    by_cases hN : N < 1
    · have h2 : T = t ∧ N = n := by omega
      obtain ⟨rfl, rfl⟩ := h2
      go_wp2_with fail
      refine (aweeks_any c _ _ hn).mono ?_
      rintro e w1 ⟨rfl, hb1⟩
      rw [HE1.out]
      have HP1 := hide (HP.out.call hb1)
      clear hb1
      go_wp2
      all_goals first
        | (exfalso; omega)
        | exact ⟨⟨_, _, rfl, rfl, hide (.inr ⟨hN, rfl, rfl⟩), HP1.out⟩, by simp [intOf]; omega⟩
    · have hN1 : ¬ N < 1 := hN
      go_wp2_with fail
      go_loopw [1, 2] (fun s1 s2 wr => ∃ T2 N2 : Int, s1 = .int .i64 T2 ∧ s2 = .int .i64 N2 ∧ Hid ((T2 = T ∧ N2 = N) ∨ (1 ≤ n ∧ wksV c t < n ∧ T2 = t + 1 ∧ N2 = n - wksV c t)) ∧ PlSt c w.heap.size w wr) (fun _ s2 _ => (intOf s2).toNat)
      case atStart => exact ⟨T, N, rfl, rfl, hide (.inl ⟨rfl, rfl⟩), HP.out⟩
      case round =>
        obtain ⟨T2, N2, rfl, rfl, HTN2, hP2⟩ := hrel
        have HP2 := hide hP2
        clear q0 q1 q2 q3 q4 q5 q6 q7 q8 q9 q10 q11 q12 q13
        obtain ⟨q0, q1, q2, q3, q4, q5, q6, q7, q8, q9, q10, q11, q12, q13⟩ := HP2.out.1.cal
        have hTN2 := HTN2.out
        rcases (show (T2 = t ∧ N2 = n ∧ 1 ≤ n) ∨ (n < 1 ∧ T2 = t - 1 ∧ N2 = n + wksV c (t - 1)) ∨ (1 ≤ n ∧ wksV c t < n ∧ T2 = t + 1 ∧ N2 = n - wksV c t) by omega) with ⟨rfl, rfl, h1⟩ | ⟨h1, rfl, rfl⟩ | ⟨h1, h2, rfl, rfl⟩
        · by_cases hle : N2 ≤ wksV c T2
          · have HV := hide (show plU c T2 N2 = ⟨5, T2, N2⟩ by rw [plU, if_neg (by omega), if_pos hle])
            go_wp2_with fail
            refine (aweeks_any c _ _ hn).mono ?_
            rintro e w1 ⟨rfl, hb1⟩
            rw [HE0.out]
            have HP3 := hide (HP2.out.call hb1)
            clear hb1
            obtain ⟨⟨k0, k1, k2⟩, k3, k4, k5⟩ := HP3.out.unx
            go_wp2
            rw [HV.out]
            obtain ⟨s1, s2⟩ := HP3.out.set (.int .i64 5) (.int .i64 T2) (.int .i64 N2)
            exact bodyPost_ret (v := .tuple #[.agg #[.int .i64 5, .int .i64 T2, .int .i64 N2], .int .i64 0]) (res_place rfl rfl s1) rfl ⟨rfl, s2⟩
          · go_wp2_with fail
            refine (aweeks_any c _ _ hn).mono ?_
            rintro e w1 ⟨rfl, hb1⟩
            rw [HE0.out]
            have HP3 := hide (HP2.out.call hb1)
            clear hb1
            go_wp2
            all_goals first
              | (exfalso; omega)
              | exact ⟨⟨_, _, rfl, rfl, hide (.inr ⟨h1, by omega, rfl, rfl⟩), HP3.out⟩, by simp [intOf]; omega⟩
        · have HV := hide (show plU c t n = ⟨5, t - 1, n + wksV c (t - 1)⟩ by rw [plU, if_pos h1])
          have hle : n + wksV c (t - 1) ≤ wksV c (t - 1) := by omega
          go_wp2_with fail
          refine (aweeks_any c _ _ hn).mono ?_
          rintro e w1 ⟨rfl, hb1⟩
          rw [HE1.out]
          have HP3 := hide (HP2.out.call hb1)
          clear hb1
          obtain ⟨⟨k0, k1, k2⟩, k3, k4, k5⟩ := HP3.out.unx
          go_wp2
          all_goals first
            | (exfalso; omega)
            | (rw [HV.out]
               obtain ⟨s1, s2⟩ := HP3.out.set (.int .i64 5) (.int .i64 (t - 1)) (.int .i64 (n + wksV c (t - 1)))
               exact bodyPost_ret (v := .tuple #[.agg #[.int .i64 5, .int .i64 (t - 1), .int .i64 (n + wksV c (t - 1))], .int .i64 0]) (res_place rfl rfl s1) rfl ⟨rfl, s2⟩)
        · have HV := hide (show plU c t n = ⟨5, t + 1, n - wksV c t⟩ by rw [plU, if_neg (by omega), if_neg (by omega)])
          have hle : n - wksV c t ≤ wksV c (t + 1) := by omega
          go_wp2_with fail
          refine (aweeks_any c _ _ hn).mono ?_
          rintro e w1 ⟨rfl, hb1⟩
          rw [HE2.out]
          have HP3 := hide (HP2.out.call hb1)
          clear hb1
          obtain ⟨⟨k0, k1, k2⟩, k3, k4, k5⟩ := HP3.out.unx
          go_wp2
          all_goals first
            | (exfalso; omega)
            | (rw [HV.out]
               obtain ⟨s1, s2⟩ := HP3.out.set (.int .i64 5) (.int .i64 (t + 1)) (.int .i64 (n - wksV c t))
               exact bodyPost_ret (v := .tuple #[.agg #[.int .i64 5, .int .i64 (t + 1), .int .i64 (n - wksV c t)], .int .i64 0]) (res_place rfl rfl s1) rfl ⟨rfl, s2⟩)

/-- The weeks with which some weeks are compared. -/
def cmpL (c : Cal) (y t : Int) (l : List Un) : List Un := l.flatMap fun x => if cwE c y t x.ix = 0 then [plU c t (cwV c y t x.ix)] else []
theorem cmpL_snoc (c : Cal) (y t : Int) (l : List Un) (x : Un) : cmpL c y t (l ++ [x]) = cmpL c y t l ++ (if cwE c y t x.ix = 0 then [plU c t (cwV c y t x.ix)] else []) := by simp [cmpL]
theorem cmpL_yes {c : Cal} {y t : Int} (l : List Un) {x : Un} (h : cwE c y t x.ix = 0) : cmpL c y t (l ++ [x]) = cmpL c y t l ++ [plU c t (cwV c y t x.ix)] := by rw [cmpL_snoc, if_pos h]
theorem cmpL_no {c : Cal} {y t : Int} (l : List Un) {x : Un} (h : ¬ cwE c y t x.ix = 0) : cmpL c y t (l ++ [x]) = cmpL c y t l := by rw [cmpL_snoc, if_neg h, List.append_nil]
theorem cmpL_le (c : Cal) (y t : Int) (l : List Un) : (cmpL c y t l).length ≤ l.length := by
  induction l with
  | nil => simp [cmpL]
  | cons a l ih =>
    have e : cmpL c y t (a :: l) = (if cwE c y t a.ix = 0 then [plU c t (cwV c y t a.ix)] else []) ++ cmpL c y t l := by simp [cmpL]
    rw [e, List.length_append, List.length_cons]
    split <;> simp <;> omega
/-- The weeks of a unit. -/
def wksL (c : Cal) (u : Un) : List Un := wkU ⟨5, u.yr, (cutA c u : Int) + 1⟩ (cutB c u - cutA c u)
theorem ix_5 (c : Cal) (y : Int) (hA : askE c y 1601 = 0) (i : Nat) (hi : i < nWk c y) : ixN c y 5 i = i := ix_eq c y hA 5 (by omega) (by omega) i i (by rw [cnt_5]; exact hi) (by simp [cutN]) (by simp [cutN])
theorem dn_5 {c : Cal} {u : Un} (h : unitE c u = 0) : dnE c u 5 = 0 ∧ dnA c u 5 = ⟨5, u.yr, (cutA c u : Int) + 1⟩ ∧ dnB c u 5 = ⟨5, u.yr, (cutB c u : Int)⟩ := by
  obtain ⟨hf, l1, l5, hA, _, _⟩ := un_lv h
  have hab := cutAB h
  have e : dnE c u 5 = 0 := by simp [dnE, h, l5]
  refine ⟨e, ?_, ?_⟩
  · rw [dnA, if_pos e, ix_5 c u.yr hA _ (by omega)]
  · rw [dnB, if_pos e, ix_5 c u.yr hA _ (by omega)]
    congr 1
    omega
theorem cw_two {c : Cal} {y t x : Int} (hk : c.okB = true) (hk6 : c.kind ≠ 6) (hy : srv c y) (ht : srv c t) (hx : 1 ≤ x ∧ x ≤ wksV c y) : cwE c y t x = 0 ∨ cwE c y t x = 12 := by
  rcases cw_cases hk hk6 hy ht hx with h | h | ⟨_, h | h⟩
  · exact .inl h.2.1
  · exact .inl h.2.1
  · exact .inr h.2.2.1
  · exact .inl h.2.1
theorem nwk_wks {c : Cal} {z : Int} (hk : c.okB = true) (hk6 : c.kind ≠ 6) (hz : srv c z) : (nWk c z : Int) = wksV c z := by
  obtain ⟨_, hA, _, h7⟩ := wks_beside hk hk6 hz z (by omega) (by omega)
  have := nWk_7 c z hA hk6
  omega
/-- Weeks one behind the other, counted from a year's first one. -/
def segL (c : Cal) (t n : Int) (m : Nat) : List Un := upto (fun j : Nat => plU c t (n + (j : Int))) m
theorem segL_len (c : Cal) (t n : Int) (m : Nat) : (segL c t n m).length = m := upto_length _ _
theorem cmp_app (c : Cal) (y t : Int) (l1 l2 : List Un) : cmpL c y t (l1 ++ l2) = cmpL c y t l1 ++ cmpL c y t l2 := by simp [cmpL]
theorem cmp_run {c : Cal} {y t : Int} (x s : Int) (m : Nat) (h : ∀ j : Nat, j < m → cwE c y t (x + j) = 0 ∧ cwV c y t (x + j) = x + j + s) : cmpL c y t (wkU ⟨5, y, x⟩ m) = segL c t (x + s) m := by
  induction m with
  | zero => simp [wkU, segL, upto, cmpL]
  | succ m ih =>
    have e1 := wkU_succ ⟨5, y, x⟩ m
    simp only at e1
    rw [e1, cmpL_yes _ (x := ⟨5, y, x + m⟩) (h m (by omega)).1, ih (fun j hj => h j (by omega))]
    simp only [segL, upto_succ]
    rw [(h m (by omega)).2, show x + m + s = x + s + m by omega]
theorem cmp_gone {c : Cal} {y t x : Int} (h : ¬ cwE c y t x = 0) : cmpL c y t (wkU ⟨5, y, x⟩ 1) = [] := by
  simp [wkU, upto, cmpL, h]
theorem wk_cut (y x : Int) (m n : Nat) : wkU ⟨5, y, x⟩ (m + n) = wkU ⟨5, y, x⟩ m ++ wkU ⟨5, y, x + m⟩ n := wkU_add _ _ _

/-- The ways in which the weeks of a unit are compared: all shifted alike; one of them dropped; or one left out there. -/
theorem cmp_shape {c : Cal} {u : Un} {t : Int} (hU : unitE c u = 0) (hk6 : c.kind ≠ 6) (ht : srv c t) :
    (∃ s : Int, -1 ≤ s ∧ s ≤ 1 ∧ (∀ x : Int, (cutA c u : Int) < x → x ≤ cutB c u → cwE c u.yr t x = 0 ∧ cwV c u.yr t x = x + s) ∧ cmpL c u.yr t (wksL c u) = segL c t ((cutA c u : Int) + 1 + s) (cutB c u - cutA c u) ∧ ¬ (c.policy = 3 ∧ wksV c u.yr = 53 ∧ wksV c t = 52 ∧ (cutA c u : Int) < addedV c u.yr ∧ addedV c u.yr ≤ cutB c u)) ∨
    (∃ a : Int, (cutA c u : Int) < a ∧ a ≤ cutB c u ∧ c.policy = 3 ∧ wksV c u.yr = 53 ∧ wksV c t = 52 ∧ a = addedV c u.yr ∧ cwE c u.yr t a = 12 ∧ (∀ x : Int, (cutA c u : Int) < x → x ≤ cutB c u → x ≠ a → cwE c u.yr t x = 0 ∧ cwV c u.yr t x = if x < a then x else x - 1) ∧ cmpL c u.yr t (wksL c u) = segL c t ((cutA c u : Int) + 1) (cutB c u - cutA c u - 1)) ∨
    (∃ a : Int, (cutA c u : Int) + 1 < a ∧ a ≤ cutB c u ∧ c.policy = 3 ∧ wksV c u.yr = 52 ∧ wksV c t = 53 ∧ a = addedV c t ∧ (∀ x : Int, (cutA c u : Int) < x → x ≤ cutB c u → cwE c u.yr t x = 0 ∧ cwV c u.yr t x = if x < a then x else x + 1) ∧ cmpL c u.yr t (wksL c u) = segL c t ((cutA c u : Int) + 1) (a - 1 - cutA c u).toNat ++ segL c t (a + 1) (cutB c u - a + 1).toNat) := by
  obtain ⟨hf, l1, l5, hA, _, _⟩ := un_lv hU
  obtain ⟨hok, hk, _, _, hy1, hy2, _⟩ := frame_ok hf
  have hy : srv c u.yr := ⟨hy1, hy2⟩
  have hab := cutAB hU
  have hwk := nwk_wks hk hk6 hy
  have sh := fun x (h1 : (cutA c u : Int) < x) (h2 : x ≤ cutB c u) => cw_shift hk hk6 hy ht (x := x) ⟨by omega, by omega⟩
  have ew : (⟨5, u.yr, (cutA c u : Int) + 1⟩ : Un) = ⟨5, u.yr, (cutA c u : Int) + 1⟩ := rfl
  obtain ⟨_, _, _, _, wy1, wy2⟩ := (yr_week hk hk6 hy)
  have wyb := (yr_week hk hk6 hy).2.2
  have wtb := (yr_week hk hk6 ht).2.2
  have ad2 := added_two hk hk6 hy ht
  have one : ∀ s : Int, -1 ≤ s → s ≤ 1 → (∀ x : Int, (cutA c u : Int) < x → x ≤ cutB c u → cwE c u.yr t x = 0 ∧ cwV c u.yr t x = x + s) → cmpL c u.yr t (wksL c u) = segL c t ((cutA c u : Int) + 1 + s) (cutB c u - cutA c u) := fun s _ _ h =>
    cmp_run _ _ _ fun j hj => h _ (by omega) (by omega)
  generalize hAA : cutA c u = A at *
  generalize hBB : cutB c u = B at *
  by_cases hp : c.policy = 1
  · left
    have h0 : ∀ x : Int, (A : Int) < x → x ≤ B → cwE c u.yr t x = 0 ∧ cwV c u.yr t x = x + 0 := fun x h1 h2 => by
      rcases sh x h1 h2 with h | h | h | h | h | h <;> first | (exfalso; omega) | exact ⟨h.1, by omega⟩
    exact ⟨0, by omega, by omega, h0, one 0 (by omega) (by omega) h0, by omega⟩
  · by_cases hp2 : c.policy = 2
    · left
      have h0 : ∀ x : Int, (A : Int) < x → x ≤ B → cwE c u.yr t x = 0 ∧ cwV c u.yr t x = x + (wksV c t - wksV c u.yr) := fun x h1 h2 => by
        rcases sh x h1 h2 with h | h | h | h | h | h <;> first | (exfalso; omega) | exact ⟨h.1, by omega⟩
      exact ⟨wksV c t - wksV c u.yr, by omega, by omega, h0, one _ (by omega) (by omega) h0, by omega⟩
    · have hp3 : c.policy = 3 := by rcases ok_pol hk hk6 with h | h | h <;> first | exact absurd h hp | exact absurd h hp2 | exact h
      rcases ad2 with ⟨e1, e2⟩ | ⟨g1, g2, g3, g4, g5⟩ | ⟨g1, g2, g3, g4, g5⟩
      · left
        have h0 : ∀ x : Int, (A : Int) < x → x ≤ B → cwE c u.yr t x = 0 ∧ cwV c u.yr t x = x + 0 := fun x h1 h2 => by
          rcases sh x h1 h2 with h | h | h | h | h | h <;> first | (exfalso; omega) | exact ⟨h.1, by omega⟩
        exact ⟨0, by omega, by omega, h0, one 0 (by omega) (by omega) h0, by omega⟩
      · -- one left out there
        by_cases ha : addedV c t ≤ (A : Int) + 1
        · left
          have h0 : ∀ x : Int, (A : Int) < x → x ≤ B → cwE c u.yr t x = 0 ∧ cwV c u.yr t x = x + 1 := fun x h1 h2 => by
            rcases sh x h1 h2 with h | h | h | h | h | h <;> first | (exfalso; omega) | exact ⟨h.1, by omega⟩
          exact ⟨1, by omega, by omega, h0, one 1 (by omega) (by omega) h0, by omega⟩
        · by_cases hb : (B : Int) < addedV c t
          · left
            have h0 : ∀ x : Int, (A : Int) < x → x ≤ B → cwE c u.yr t x = 0 ∧ cwV c u.yr t x = x + 0 := fun x h1 h2 => by
              rcases sh x h1 h2 with h | h | h | h | h | h <;> first | (exfalso; omega) | exact ⟨h.1, by omega⟩
            exact ⟨0, by omega, by omega, h0, one 0 (by omega) (by omega) h0, by omega⟩
          · right; right
            have h0 : ∀ x : Int, (A : Int) < x → x ≤ B → cwE c u.yr t x = 0 ∧ cwV c u.yr t x = if x < addedV c t then x else x + 1 := fun x h1 h2 => by
              rcases sh x h1 h2 with h | h | h | h | h | h <;> first | (exfalso; omega) | exact ⟨h.1, by split <;> omega⟩
            refine ⟨addedV c t, by omega, by omega, hp3, g4, g5, rfl, h0, ?_⟩
            obtain ⟨p, hp⟩ : ∃ p : Nat, addedV c t = (A : Int) + 1 + p := ⟨(addedV c t - A - 1).toNat, by omega⟩
            have e : wksL c u = wkU ⟨5, u.yr, (A : Int) + 1⟩ p ++ wkU ⟨5, u.yr, (A : Int) + 1 + p⟩ (B - A - p) := by
              rw [← wk_cut, wksL, hAA, hBB]
              congr 1
              omega
            rw [e, cmp_app, cmp_run _ 0 p (fun j hj => by have := h0 ((A : Int) + 1 + j) (by omega) (by omega); rw [if_pos (by omega)] at this; exact ⟨this.1, by omega⟩), cmp_run _ 1 (B - A - p) (fun j hj => by have := h0 ((A : Int) + 1 + p + j) (by omega) (by omega); rw [if_neg (by omega)] at this; exact ⟨this.1, by omega⟩)]
            rw [hp, show ((A : Int) + 1 + p - 1 - A).toNat = p by omega, show (B - ((A : Int) + 1 + p) + 1).toNat = B - A - p by omega, Int.add_zero]
      · -- one dropped
        by_cases ha : addedV c u.yr ≤ (A : Int)
        · left
          have h0 : ∀ x : Int, (A : Int) < x → x ≤ B → cwE c u.yr t x = 0 ∧ cwV c u.yr t x = x + -1 := fun x h1 h2 => by
            rcases sh x h1 h2 with h | h | h | h | h | h <;> first | (exfalso; omega) | exact ⟨h.1, by omega⟩
          exact ⟨-1, by omega, by omega, h0, one (-1) (by omega) (by omega) h0, by omega⟩
        · by_cases hb : (B : Int) < addedV c u.yr
          · left
            have h0 : ∀ x : Int, (A : Int) < x → x ≤ B → cwE c u.yr t x = 0 ∧ cwV c u.yr t x = x + 0 := fun x h1 h2 => by
              rcases sh x h1 h2 with h | h | h | h | h | h <;> first | (exfalso; omega) | exact ⟨h.1, by omega⟩
            exact ⟨0, by omega, by omega, h0, one 0 (by omega) (by omega) h0, by omega⟩
          · right; left
            have h0 : ∀ x : Int, (A : Int) < x → x ≤ B → x ≠ addedV c u.yr → cwE c u.yr t x = 0 ∧ cwV c u.yr t x = if x < addedV c u.yr then x else x - 1 := fun x h1 h2 hne => by
              rcases sh x h1 h2 with h | h | h | h | h | h <;> first | (exfalso; omega) | exact ⟨h.1, by split <;> omega⟩
            have h12 : cwE c u.yr t (addedV c u.yr) = 12 := by
              rcases sh (addedV c u.yr) (by omega) (by omega) with h | h | h | h | h | h <;> first | (exfalso; omega) | exact h.1
            refine ⟨addedV c u.yr, by omega, by omega, hp3, g4, g5, rfl, h12, h0, ?_⟩
            obtain ⟨p, hp⟩ : ∃ p : Nat, addedV c u.yr = (A : Int) + 1 + p := ⟨(addedV c u.yr - A - 1).toNat, by omega⟩
            have e : wksL c u = wkU ⟨5, u.yr, (A : Int) + 1⟩ p ++ (wkU ⟨5, u.yr, (A : Int) + 1 + p⟩ 1 ++ wkU ⟨5, u.yr, (A : Int) + 1 + p + (1 : Nat)⟩ (B - A - p - 1)) := by
              rw [← wk_cut, ← wk_cut, wksL, hAA, hBB]
              congr 1
              omega
            rw [e, cmp_app, cmp_app, cmp_run _ 0 p (fun j hj => by have := h0 ((A : Int) + 1 + j) (by omega) (by omega) (by omega); rw [if_pos (by omega)] at this; exact ⟨this.1, by omega⟩), cmp_gone (by rw [← hp, h12]; decide), cmp_run _ (-1) (B - A - p - 1) (fun j hj => by have := h0 ((A : Int) + 1 + p + (1 : Nat) + j) (by omega) (by omega) (by omega); rw [if_neg (by omega)] at this; exact ⟨this.1, by omega⟩)]
            rw [List.nil_append, Int.add_zero, show B - A - 1 = p + (B - A - p - 1) by omega, segL, segL, segL, upto_add]
            congr 1
            refine upto_congr fun j _ => ?_
            congr 1
            omega
end Go.Proofs.YtjhhmeoibfdcmaaGreat

namespace Go.Proofs.YtjhhmeoibfdcmaaGreat
open Go.RowKit Go.Shelf Qd
set_option linter.unusedSimpArgs false
set_option linter.unusedVariables false
attribute [local go_sem] Oper.semAt_some

/-- A slice of units: none of them, or some in a block. -/
def TwV (w : World) (v : Value) (L : List Un) : Prop := (L = [] ∧ v = .slice none 0 0) ∨ ∃ g cap, v = .slice (some ⟨g, 0, none⟩) L.length cap ∧ 0 < L.length ∧ UnsAt w g cap L
theorem twV_of {w : World} {b : Nat} {v : Value} {L : List Un} (h : w.ownsRow b 26 3 v L.length (flatU L)) (hnil : v = .slice none 0 0 ↔ L = []) : TwV w v L := by
  by_cases hL : L = []
  · exact .inl ⟨hL, hnil.2 hL⟩
  · have h0 : 0 < L.length := List.length_pos_iff.2 hL
    obtain ⟨g, cap, rfl, hg⟩ := owns_pos h h0
    exact .inr ⟨g, cap, rfl, h0, h.base (Nat.zero_le _)⟩
theorem holdsU_own {β : Type} (Bo : Nat) (f : β → List Un) : Own (fun s W => ∃ v, Boxed W Bo 115 v ∧ W.ownsRow Bo 26 3 v (f s).length (flatU (f s)) ∧ (v = .slice none 0 0 ↔ f s = [])) :=
  holdsRow_own Bo Bo 115 26 3 (fun s => (f s).length) (fun s => flatU (f s)) (fun s v => v = .slice none 0 0 ↔ f s = [])
/-- The frame of a round whose week lies in a block of its own. -/
def AxW {u : Un} {n : Nat} (lo : Nat) (T : Wk u n → Nat → Act) (x : Wk u n) (a' : Act) (W : World) : Prop := ∃ Bx, lo < Bx ∧ BlkIs W Bx #[.int .i64 x.1.lv, .int .i64 x.1.yr, .int .i64 x.1.ix] 26 ∧ a' = T x Bx
theorem axW_own {u : Un} {n : Nat} (lo : Nat) (T : Wk u n → Nat → Act) (x : Wk u n) (a' : Act) (B : Nat) : OwnFrom B (fun (_ : Unit) W => AxW lo T x a' W) := fun _ X Y row hs hg hr => by
  obtain ⟨Bx, h1, h2, h3⟩ := hs
  exact ⟨Bx, h1, blk_own h2 hg (fun r e => (hr r e).2), h3⟩

theorem boxed_call {W W' : World} {B : Nat} {t : TypeId} {v : Value} (h : Boxed W B t v) (hb : Below W.heap.size W W') : Boxed W' B t v := (hb.block B h.lt).trans h
theorem owns_call {w w' : World} {base size n : Nat} {e : TypeId} {v : Value} {xs : List Value} (h : w.ownsRow base e size v n xs) (hb : Below w.heap.size w w') : w'.ownsRow base e size v n xs := by
  refine ⟨h.1, ?_⟩
  rcases h.2 with h1 | ⟨g', cap', cur, he, h2, hg, h3⟩
  · exact .inl h1
  · exact .inr ⟨g', cap', cur, he, h2, (hb.block g' (Array.getElem?_eq_some_iff.1 hg).1).trans hg, h3⟩
theorem keeps_below {W W' : World} (h : Below W.heap.size W W') : KeepsOthers W W' := ⟨h.size, fun k o hk _ => (h.block k (Array.getElem?_eq_some_iff.1 hk).1).trans hk⟩

theorem cells_newS (W : World) (o : Obj) (a b d : Value) (t : TypeId) : ∀ (j : Nat) (u : Value), [a, b, d][j]? = some u → ((W.alloc o).alloc (.cells #[a, b, d] t)).cell? ((⟨W.heap.size + 1, 0, none⟩ : Addr).add j) = some u := by
  have h := cells_new3 (W.alloc o) a b d t
  have e : (W.alloc o).heap.size = W.heap.size + 1 := by simp
  rw [e] at h
  exact h

end Go.Proofs.YtjhhmeoibfdcmaaGreat
