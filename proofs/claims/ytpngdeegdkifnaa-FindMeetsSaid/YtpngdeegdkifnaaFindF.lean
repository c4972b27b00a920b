/- Contracts of find.each and find.All. -/
import Derived.Test.YtpngdeegdkifnaaFindE
import Derived.Test.YtpngdeegdkifnaaEndsA
namespace Go.Proofs.Ytpngdeegdkifnaa
open Go.RowKit Go.Shelf Qd
set_option linter.unusedSimpArgs false
set_option linter.unusedVariables false
attribute [local go_sem] Oper.semAt_some

set_option maxHeartbeats 800000 in
theorem each_any (m : Nat) (c : Cal) (lv f t : Int) (w : World) :
    CallsIn Fence.wide m Try.prog 45 #[calV c, .int .i64 lv, .int .i64 f, .int .i64 t] w fun e w' =>
      e = .returned (.func (.func 68) #[] #[.pointer (some ⟨w.heap.size + 2, 0, none⟩), .pointer (some ⟨w.heap.size + 3, 0, none⟩), .pointer (some ⟨w.heap.size, 0, none⟩), .pointer (some ⟨w.heap.size + 1, 0, none⟩)]) ∧
      w' = (((w.alloc (.cells (calCs c) 24)).alloc (.cells #[.int .i64 lv] 3)).alloc (.cells #[.int .i64 f] 3)).alloc (.cells #[.int .i64 t] 3) := by
  refine callsIn_wide.2 ?_
  simp only [calV]
  go_enter Try.func45, Try.ntmps45
  go_wp2
  go_ret
  exact ⟨rfl, rfl⟩

/-- Units as cells, and a slice of them. -/
def flatU (l : List Un) : List Value := l.flatMap fun u => [.int .i64 u.lv, .int .i64 u.yr, .int .i64 u.ix]
theorem flatU_snoc (l : List Un) (u : Un) : flatU (l ++ [u]) = flatU l ++ [.int .i64 u.lv, .int .i64 u.yr, .int .i64 u.ix] := by simp [flatU]
theorem flatU_len (l : List Un) : (flatU l).length = l.length * 3 := by
  induction l with
  | nil => rfl
  | cons a l ih => simp only [flatU, List.flatMap_cons, List.length_append, List.length_cons, List.length_nil] at ih ⊢; omega
def UnsAt (w : World) (g cap : Nat) (l : List Un) : Prop := w.ownsRow 0 31 3 (.slice (some ⟨g, 0, none⟩) l.length cap) l.length (flatU l)

theorem app_step {W w1 : World} {n₀ B : Nat} {size : Nat} {v v' : Value} {k : Nat} {xs : List Value} {tmp : Obj}
    (hv : Boxed W B 40 v) (hrow : W.ownsRow n₀ 31 size v k xs)
    (hgrow : (W.alloc tmp).grownBy w1 v.ownBlock) :
    KeepTy 31 40 W (w1.setCell ⟨B, 0, none⟩ v') ∧
    ∀ (X : Nat) (cs : Array Value) (t : TypeId), X ≠ B → t ≠ 31 → BlkIs W X cs t → BlkIs (w1.setCell ⟨B, 0, none⟩ v') X cs t := by
  have hv1 : Boxed w1 B 40 v := (hv.alloc tmp).kept hgrow (hv.not_row (by decide) hrow)
  have hrow' : ∀ r, v.ownBlock = some r → ∀ cs t z, (W.alloc tmp).heap[r]? = some (.cells cs t z) → t = 31 := by
    intro r e cs t z hk
    rcases (hrow.alloc tmp).2 with ⟨rfl, _⟩ | ⟨g, cap, cur, rfl, _, hgb, _⟩
    · simp [Value.ownBlock] at e
    · obtain rfl : g = r := by simpa [Value.ownBlock] using e
      rw [hgb] at hk; cases hk; rfl
  refine ⟨((KeepTy.alloc W tmp).trans (.turn hgrow (fun r e cs t z hk => .inl (hrow' r e cs t z hk)))).trans (.turn (grownBy_setCell' w1 B v') (fun r e cs t z hk => ?_)), ?_⟩
  · cases e
    rw [show w1.heap[B]? = _ from hv1] at hk; cases hk; exact .inr rfl
  · intro X cs t hX ht hb
    have h1 : BlkIs w1 X cs t := by
      refine (hgrow.block X (hb.alloc tmp).lt (fun e => ht ?_)).trans (hb.alloc tmp)
      exact hrow' X e.symm cs t (0, 0) (hb.alloc tmp)
    exact h1.far hX _

theorem blkIs_own {β : Type} (B : Nat) (cs : Array Value) (t : TypeId) : Own (fun (_ : β) W => BlkIs W B cs t) := fun _ _ _ _ hs hg hrow => blk_own hs hg hrow
theorem all_len (c : Cal) (lv f : Int) (ny : Nat) (hE : ∀ a : Nat, a < ny → frameE c lv (f + a) = 0) : (allUp c lv f ny).length ≤ 60 * ny ∧ ny ≤ (allUp c lv f ny).length := by
  induction ny with
  | zero => simp [allUp]
  | succ n ih =>
    have h := ih (fun a ha => hE a (by omega))
    have hb := cnt_bd c (f + n) (frame_ok (hE n (by omega))).2.2.2.2.2.2 lv
    rw [allUp, List.length_append, yU_len]
    omega

/-- The frame of a round whose unit lies in a block of its own. -/
def AxU (lo : Nat) (T : Un → Nat → Act) (x : Un) (a' : Act) (W : World) : Prop := ∃ Bx, lo < Bx ∧ BlkIs W Bx #[.int .i64 x.lv, .int .i64 x.yr, .int .i64 x.ix] 31 ∧ a' = T x Bx
theorem axU_own (lo : Nat) (T : Un → Nat → Act) (x : Un) (a' : Act) (B : Nat) : OwnFrom B (fun (_ : Unit) W => AxU lo T x a' W) := fun _ X Y row hs hg hr => by
  obtain ⟨Bx, h1, h2, h3⟩ := hs
  exact ⟨Bx, h1, blk_own h2 hg (fun r e => (hr r e).2), h3⟩

theorem cells_new3 (W : World) (a b d : Value) (t : TypeId) : ∀ (j : Nat) (u : Value), [a, b, d][j]? = some u → (W.alloc (.cells #[a, b, d] t)).cell? ((⟨W.heap.size, 0, none⟩ : Addr).add j) = some u := by
  intro j u h
  match j, h with
  | 0, h => simpa [World.cell?_alloc_at, Addr.add] using h
  | 1, h => simpa [World.cell?_alloc_at, Addr.add] using h
  | 2, h => simpa [World.cell?_alloc_at, Addr.add] using h
theorem hv1row {W : World} {X n₀ size k : Nat} {cs : Array Value} {t : TypeId} {v : Value} {xs : List Value} (hrow : W.ownsRow n₀ 31 size v k xs) (hb : BlkIs W X cs t) (ht : t ≠ 31 := by decide) : v.ownBlock ≠ some X := by
  rcases hrow.2 with ⟨rfl, _⟩ | ⟨g, cap, cur, rfl, _, hgb, _⟩
  · simp [Value.ownBlock]
  · intro e
    obtain rfl : g = X := by simpa [Value.ownBlock] using e
    unfold BlkIs at hb
    rw [hgb] at hb
    cases hb
    exact ht rfl
theorem _root_.Go.World.ownsRow.base {w : World} {b b' size n : Nat} {e : TypeId} {v : Value} {xs : List Value} (h : w.ownsRow b e size v n xs) (hb : b' ≤ b) : w.ownsRow b' e size v n xs := by
  refine ⟨h.1, ?_⟩
  rcases h.2 with h2 | ⟨g, cap, cur, h1, h2, h3⟩
  · exact .inl h2
  · exact .inr ⟨g, cap, cur, h1, by omega, h3⟩
theorem res_all {tmps : Array Value} {W : World} {B1 B2 g n cap : Nat} {e : Int} (h8 : tmps[8]? = some (.pointer (some ⟨B1, 0, none⟩))) (h9 : tmps[9]? = some (.pointer (some ⟨B2, 0, none⟩)))
    (g1 : BlkIs W B1 #[.slice (some ⟨g, 0, none⟩) n cap] 40) (g2 : BlkIs W B2 #[.int .i64 e] 26) :
    (results Try.f20 tmps).run Try.prog W = .ok (.tuple #[.slice (some ⟨g, 0, none⟩) n cap, .int .i64 e]) W := by
  have c0 := g1.cell 0
  have c1 := g2.cell 0
  simp at c0 c1
  simp [results, Try.results20, go_sem, h8, h9, c0, c1]
theorem unit_info : (Try.prog.info? 31).map (fun i => (i.zero, i.size, i.bytes)) = some (some (.agg #[.int .i64 0, .int .i64 0, .int .i64 0]), 3, 24) := by kernel_rfl

set_option maxRecDepth 100000 in
set_option maxHeartbeats 4000000 in
theorem all_yes (c : Cal) (lv f t : Int) (w : World) (hn : c.name.size ≤ 1000) (ny : Nat) (hny : f + (ny : Int) = t + 1) (hk : c.okB = true) (hl : 1 ≤ lv ∧ lv ≤ 5) (hf : c.first ≤ f) (ht : t ≤ c.last) (hft : f ≤ t) :
    Calls Try.prog 20 #[calV c, .int .i64 lv, .int .i64 f, .int .i64 t] w fun e w' => ∃ g cap, e = .returned (.tuple #[.slice (some ⟨g, 0, none⟩) (allUp c lv f ny).length cap, .int .i64 0]) ∧ UnsAt w' g cap (allUp c lv f ny) ∧ w.heap.size ≤ g ∧ Below w.heap.size w w' := by
  have HO := hide (show okE c = 0 by simp [okE, hk])
  have hlb : decide (1 ≤ lv ∧ lv ≤ 5) = true := by simpa using hl
  have hE : ∀ a : Nat, a < ny → frameE c lv (f + a) = 0 := fun a ha => by
    have h1 : c.first ≤ f + a ∧ f + a ≤ c.last := by omega
    simp [frameE, hk, hl, h1]
  have hyb : -10000 ≤ f ∧ t ≤ 20000 := by
    have h1 := ok_years hk
    omega
  have HE := hide hE
  obtain ⟨i0, hi, hz0, hz1, hz2⟩ := info_parts unit_info
  clear hE hk
  simp only [calV]
  refine (callsIn_wide (n := 5)).1 ?_
  refine callsIn_of_wp_marks Try.func20 rfl trivial ?_ rfl
  simp only [Try.ntmps20, List.size_toArray, List.length_cons, List.length_nil, Nat.reduceAdd, Nat.reduceSub, Array.replicate_succ, Array.replicate_zero, List.push_toArray, List.append_toArray, List.nil_append, List.cons_append]
  gi_wp2_with fail
  refine ⟨trivial, (callsIn_wide.2 (check_any c _ hn)).mono ?_⟩
  rintro e w1 ⟨rfl, hb1⟩
  rw [HO.out]
  have HQ := hide (BlkIs.below ((BlkIs.new w (calCs c) 24).alloc (.cells #[.slice none 0 0] 40) |>.alloc (.cells #[.int .i64 0] 26)) hb1 (by simp; omega))
  have hz1' : w.heap.size + 2 < w1.heap.size := by have := hb1.size; simp at this; omega
  have hzA : w.heap.size < w1.heap.size := by omega
  have HB1 := hide (show Below w.heap.size w w1 by (repeat' (first | (with_reducible exact Below.refl _ _) | (with_reducible assumption) | (with_reducible refine Below.alloc ?_ ?_ _) | (with_reducible refine below_drewN ?_ _) | (with_reducible refine Below.drew ?_) | (with_reducible refine Below.setCell ?_ ?_ _) | (with_reducible refine Below.trans ?_ (Below.mono (by assumption) ?_)) | go_size | (simp at *; omega))))
  have HR1 := hide (BlkIs.below ((BlkIs.new (w.alloc (.cells (calCs c) 24)) #[.slice none 0 0] 40).alloc (.cells #[.int .i64 0] 26)) hb1 (by simp))
  have HR2 := hide (BlkIs.below ((BlkIs.new ((w.alloc (.cells (calCs c) 24)).alloc (.cells #[.slice none 0 0] 40)) #[.int .i64 0] 26)) hb1 (by simp))
  simp at HR1 HR2
  clear hb1
  obtain ⟨q0, q1, q2, q3, q4, q5, q6, q7, q8, q9, q10, q11, q12, q13⟩ := HQ.out.cal
  gi_wp2_with fail
  refine ⟨trivial, (callsIn_wide.2 (levelled_any lv _)).mono ?_⟩
  rintro e w2 ⟨rfl, rfl⟩
  rw [hlb]
  gi_wp2_with fail
  refine ⟨trivial, (each_any _ c lv f t _).mono ?_⟩
  rintro e w3 ⟨rfl, rfl⟩
  gi_wp2_with fail
  obtain ⟨W5, hW5⟩ : ∃ W5 : World, W5 = (((((w1.alloc (.cells #[.slice none 0 0] 40)).alloc (.cells (calCs c) 24)).alloc (.cells #[.int .i64 lv] 3)).alloc (.cells #[.int .i64 f] 3)).alloc (.cells #[.int .i64 t] 3)) := ⟨_, rfl⟩
  have hsz : W5.heap.size = w1.heap.size + 5 := by rw [hW5]; simp
  have sO : Boxed W5 w1.heap.size 40 (.slice none 0 0) := by
    rw [hW5]; exact ((((Boxed.new w1 _ _).alloc _).alloc _).alloc _).alloc _
  have s0 : BlkIs W5 (w1.heap.size + 1) (calCs c) 24 := by
    rw [hW5]
    have := (((BlkIs.new (w1.alloc (.cells #[.slice none 0 0] 40)) (calCs c) 24).alloc (.cells #[.int .i64 lv] 3)).alloc (.cells #[.int .i64 f] 3)).alloc (.cells #[.int .i64 t] 3)
    simpa using this
  have s1 : BlkIs W5 (w1.heap.size + 2) #[.int .i64 lv] 3 := by
    rw [hW5]
    have := ((BlkIs.new ((w1.alloc (.cells #[.slice none 0 0] 40)).alloc (.cells (calCs c) 24)) #[.int .i64 lv] 3).alloc (.cells #[.int .i64 f] 3)).alloc (.cells #[.int .i64 t] 3)
    simpa using this
  have s2 : BlkIs W5 (w1.heap.size + 3) #[.int .i64 f] 3 := by
    rw [hW5]
    have := (BlkIs.new (((w1.alloc (.cells #[.slice none 0 0] 40)).alloc (.cells (calCs c) 24)).alloc (.cells #[.int .i64 lv] 3)) #[.int .i64 f] 3).alloc (.cells #[.int .i64 t] 3)
    simpa using this
  have s3 : BlkIs W5 (w1.heap.size + 4) #[.int .i64 t] 3 := by
    rw [hW5]
    have := BlkIs.new ((((w1.alloc (.cells #[.slice none 0 0] 40)).alloc (.cells (calCs c) 24)).alloc (.cells #[.int .i64 lv] 3)).alloc (.cells #[.int .i64 f] 3)) #[.int .i64 t] 3
    simpa using this
  have r1 : BlkIs W5 (w.heap.size + 1) #[.slice none 0 0] 40 := by
    rw [hW5]; exact ((((HR1.out.alloc _).alloc _).alloc _).alloc _).alloc _
  have r2 : BlkIs W5 (w.heap.size + 1 + 1) #[.int .i64 0] 26 := by
    rw [hW5]; exact ((((HR2.out.alloc _).alloc _).alloc _).alloc _).alloc _
  have hBW : Below w.heap.size w W5 := by
    have b1 := HB1.out
    rw [hW5]
    refine Below.alloc (Below.alloc (Below.alloc (Below.alloc (Below.alloc b1 ?_ _) ?_ _) ?_ _) ?_ _) ?_ _ <;> first | omega | (simp; omega)
  rw [← hW5]
  clear hW5
  have hlen := all_len c lv f ny HE.out
  refine wpIn_rangeFunc_ownH (α := Un) rfl (by omega) (gf := 68) (lb := #[.pointer (some ⟨w1.heap.size + 3, 0, none⟩), .pointer (some ⟨w1.heap.size + 4, 0, none⟩), .pointer (some ⟨w1.heap.size + 1, 0, none⟩), .pointer (some ⟨w1.heap.size + 2, 0, none⟩)]) rfl trivial (enters_of Try.func68 (by kernel_rfl) rfl)
    (each_stops c lv f t ny hn hny hyb HE.out (w1.heap.size + 3) (w1.heap.size + 4) (w1.heap.size + 1) (w1.heap.size + 2) W5 s0 s2 s3 s1)
    KeepTy.trans (fun W l o o' _ h1 h2 _ => keepTy_putObj W l o o' h1 h2) (Below.refl _ _) (fun _ => rfl)
    (fun pre W => (((∃ v, Boxed W w1.heap.size 40 v ∧ W.ownsRow w.heap.size 31 3 v pre.length (flatU pre) ∧ (v = .slice none 0 0 ↔ pre = [])) ∧ BlkIs W (w.heap.size + 1) #[.slice none 0 0] 40) ∧ BlkIs W (w.heap.size + 1 + 1) #[.int .i64 0] 26) ∧ Below w.heap.size w W)
    (fun _ _ _ => False)
    (OwnFrom.and (OwnFrom.and (OwnFrom.and (Own.from (holdsRow_own w.heap.size w1.heap.size _ _ 3 (fun pre => pre.length) (fun pre => flatU pre) (fun pre v => v = .slice none 0 0 ↔ pre = [])) _) (Own.from (blkIs_own _ _ _) _)) (Own.from (blkIs_own _ _ _) _)) (ownFrom_below (Nat.le_refl _) (by omega)))
    (fun _ _ _ _ _ hs _ _ => hs)
    ⟨⟨⟨⟨_, sO, World.ownsRow_nil _ _ _ _, by simp⟩, r1⟩, r2⟩, hBW⟩
    (AxU w1.heap.size ?a1) (fun x a' => axU_own _ _ x a' _)
    ?assign ?body ?done ?stop
  case assign =>
    rintro l pre x W K ⟨⟨⟨⟨v, hv, hrow, hnil⟩, k1⟩, k2⟩, hB⟩ hK
    have hK2 := hide hK
    clear hK
    obtain ⟨Bx, hBx⟩ : ∃ Bx, Bx = W.heap.size := ⟨_, rfl⟩
    simp only [encU, unitV]
    gi_wp2
    rw [← hBx]
    have hK3 := fun a' (h : a' = _) => hK2.out a' _ ((KeepsOthers.alloc _ _).from _) (KeepTy.alloc _ _) ⟨⟨⟨⟨v, hv.alloc _, hrow.alloc _, hnil⟩, k1.alloc _⟩, k2.alloc _⟩, hB.alloc hB.size _⟩ ⟨Bx, by rw [hBx]; exact hv.lt, by rw [hBx]; exact BlkIs.new W #[.int .i64 x.lv, .int .i64 x.yr, .int .i64 x.ix] 31, h⟩
    have hK4 := hK3 _ rfl
    exact hK4
  case body =>
    rintro l pre x a' W hl ⟨r, hr⟩ ⟨⟨⟨⟨v, hv, hrow, hnil⟩, k1⟩, k2⟩, hB⟩ ⟨Bx, hBx, bX, rfl⟩ hlt
    have hc := hv.cell
    have hbx0 : W.cell? ⟨Bx, 0, none⟩ = some (.int .i64 x.lv) := bX.cell 0
    have hbx1 : W.cell? ⟨Bx, 1, none⟩ = some (.int .i64 x.yr) := bX.cell 1
    have hbx2 : W.cell? ⟨Bx, 2, none⟩ = some (.int .i64 x.ix) := bX.cell 2
    have hWz := hB.size
    have hpl : pre.length + 1 ≤ 2000000 := by omega
    have HPL := hide hlt
    clear hlt
    gi_wp2_with (gi_at_builtin; refine wpListIn_append_own _ rfl _ _ 40 rfl w.heap.size 31 i0 (.agg #[.int .i64 0, .int .i64 0, .int .i64 0]) 3 24 Try.underlying40 hi hz0 hz1 hz2 rfl (by decide) _ _ _ rfl (hrow.alloc _) ⟨W.heap.size, 0, none⟩ 1 1 [.int .i64 x.lv, .int .i64 x.yr, .int .i64 x.ix] rfl rfl (cells_new3 _ _ _ _ _) (by simp [Value.oneCell']) (by unfold maxLen; omega) (by omega) (by simp; omega) ?_; intro v' w6 hown' hgrow hnil'; obtain ⟨g', cap', rfl⟩ := ownsRow_succ hown'; obtain ⟨hv1, hv2, hr2, hk2, hb2⟩ := hv.appended (by decide) hrow hB.size (by omega) hown' hgrow; have hc1 := hv1.cell; have hf1 := hv1.frozen)
    obtain ⟨hkt, hoth⟩ := app_step (v' := .slice (some ⟨g', 0, none⟩) (pre.length + 1) cap') hv hrow hgrow
    exact ⟨hk2.from _, hkt, ⟨⟨⟨⟨_, hv2, by rw [flatU_snoc]; simpa using hr2, by simp⟩, hoth _ _ _ (by omega) (by decide) k1⟩, hoth _ _ _ (by omega) (by decide) k2⟩, hB.trans hb2⟩⟩
  case done =>
    rintro D xs W hD rfl ⟨⟨⟨⟨v, hv, hrow, hnil⟩, k1⟩, k2⟩, hB⟩ hK
    obtain ⟨g, cap, rfl, hg⟩ := owns_pos hrow (by omega)
    have hc := hv.cell
    have m1 : W.cell? ⟨w.heap.size + 1, 0, none⟩ = some (.slice none 0 0) := k1.cell 0
    have m2 : W.cell? ⟨w.heap.size + 1 + 1, 0, none⟩ = some (.int .i64 0) := k2.cell 0
    have f1 : W.frozen? ⟨w.heap.size + 1, 0, none⟩ = false := by simp [World.frozen?, show W.heap[w.heap.size + 1]? = _ from k1]
    have f2 : W.frozen? ⟨w.heap.size + 1 + 1, 0, none⟩ = false := by simp [World.frozen?, show W.heap[w.heap.size + 1 + 1]? = _ from k2]
    gi_wp2
    have hK2 : ((W.setCell ⟨w.heap.size + 1, 0, none⟩ (.slice (some ⟨g, 0, none⟩) (allUp c lv f ny).length cap)).setCell ⟨w.heap.size + 1 + 1, 0, none⟩ (.int .i64 0)).heap[D]? = some (.deferred (some [])) := ((KeepsOthers.setCell _ _ _).trans (KeepsOthers.setCell _ _ _)).same _ _ hK rfl
    refine ⟨by simp, .inl ⟨_, _, rfl, run_takeDeferred hK2, ?_⟩⟩
    have hgp := grownBy_putObj' ((W.setCell ⟨w.heap.size + 1, 0, none⟩ (.slice (some ⟨g, 0, none⟩) (allUp c lv f ny).length cap)).setCell ⟨w.heap.size + 1 + 1, 0, none⟩ (.int .i64 0)) D (.deferred none)
    have j1 := blk_own ((k1.set0 (.slice (some ⟨g, 0, none⟩) (allUp c lv f ny).length cap)).far (p := ⟨w.heap.size + 1 + 1, 0, none⟩) (by simp) (.int .i64 0)) hgp (fun r e => by cases e; exact ⟨_, hK2, rfl⟩)
    have j2 := blk_own ((k2.far (p := ⟨w.heap.size + 1, 0, none⟩) (by simp) (.slice (some ⟨g, 0, none⟩) (allUp c lv f ny).length cap)).set0 (.int .i64 0)) hgp (fun r e => by cases e; exact ⟨_, hK2, rfl⟩)
    refine ⟨_, res_all rfl rfl j1 j2, g, cap, rfl, ?_, hg, ?_⟩
    · refine ownsRow_putObj ?_ _ hK2 rfl
      have hr1 := hrow.kept (grownBy_setCell' W (w.heap.size + 1) (.slice (some ⟨g, 0, none⟩) (allUp c lv f ny).length cap)) (.inr (hv1row hrow k1))
      have hr2 := hr1.kept (grownBy_setCell' _ (w.heap.size + 1 + 1) (.int .i64 0)) (.inr (hv1row hr1 (k2.far (p := ⟨w.heap.size + 1, 0, none⟩) (by simp) _)))
      exact hr2.base (Nat.zero_le _)
    · exact ((hB.setCell (by simp) _).setCell (by simp; omega) _).trans (belowK_b (w := w) (Nat.le_refl _) _ D _ _ (by omega) hK2 rfl rfl)
  case stop =>
    rintro D cc pre W _ _ h _
    exact h.elim
end Go.Proofs.Ytpngdeegdkifnaa
