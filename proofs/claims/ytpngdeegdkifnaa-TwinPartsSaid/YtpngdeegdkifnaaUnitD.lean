/- Contracts of units: Down. -/
import Derived.Test.YtpngdeegdkifnaaUnitC
import Derived.Laws.CopyOwn
namespace Go.Proofs.Ytpngdeegdkifnaa
open Go.RowKit Qd
set_option linter.unusedSimpArgs false
set_option linter.unusedVariables false

/-- A unit lies in that block. -/
def UnBx (w : World) (B : Nat) : Prop := ∃ a b c, BlkIs w B #[a, b, c] 31
theorem UnBx.lt {w : World} {B : Nat} (h : UnBx w B) : B < w.heap.size := by obtain ⟨a, b, c, h⟩ := h; exact h.lt
theorem UnBx.below {w w' : World} {K B : Nat} (h : UnBx w B) (hb : Below K w w') (hB : B < K) : UnBx w' B := by
  obtain ⟨a, b, c, h⟩ := h
  exact ⟨a, b, c, h.below hb hB⟩
theorem UnBx.alloc {w : World} {B : Nat} (h : UnBx w B) (o : Obj) : UnBx (w.alloc o) B := by
  obtain ⟨a, b, c, h⟩ := h
  exact ⟨a, b, c, h.alloc o⟩
theorem UnBx.new (w : World) (a b c : Value) : UnBx (w.alloc (.cells #[a, b, c] 31)) w.heap.size := ⟨a, b, c, BlkIs.new w _ _⟩
@[go_sem] theorem unBx_alloc (w : World) (o : Obj) (B : Nat) (h : B < w.heap.size) : UnBx (w.alloc o) B = UnBx w B := by
  unfold UnBx BlkIs
  rw [Below.heap_alloc w o B h]
@[go_sem] theorem unBx_drew (w : World) (B : Nat) : UnBx w.drew B = UnBx w B := rfl
@[go_sem] theorem unBx_drewN (w : World) (n B : Nat) : UnBx (w.drewN n) B = UnBx w B := by
  unfold UnBx BlkIs
  rw [show (w.drewN n).heap = w.heap from rfl]
theorem BlkIs.row {w : World} {B : Nat} (h : UnBx w B) (cs : Array Value) : BlkIs (w.setRow B cs) B cs 31 := by
  obtain ⟨a, b, c, h⟩ := h
  exact setRow_heap w B _ cs _ _ h
theorem BlkIs.rowOther {w : World} {B g : Nat} {cs : Array Value} {t : TypeId} (h : BlkIs w B cs t) (hne : B ≠ g) (xs : Array Value) : BlkIs (w.setRow g xs) B cs t :=
  (setRow_other w g B xs hne).trans h
theorem UnBx.rowOther {w : World} {B g : Nat} (h : UnBx w B) (hne : B ≠ g) (xs : Array Value) : UnBx (w.setRow g xs) B := by
  obtain ⟨a, b, c, h⟩ := h
  exact ⟨a, b, c, h.rowOther hne xs⟩
@[go_sem] theorem unBx_other (w : World) (B g : Nat) (xs : Array Value) (hne : B ≠ g) : UnBx (w.setRow g xs) B = UnBx w B := by
  unfold UnBx BlkIs
  rw [setRow_other w g B xs hne]
theorem store_unit (w : World) (B : Nat) (x y z : Int) (h : UnBx w B) :
    (storeVar 31 ⟨B, 0, none⟩ (.agg #[.int .i64 x, .int .i64 y, .int .i64 z])).run Try.prog w = .ok () (w.setRow B #[.int .i64 x, .int .i64 y, .int .i64 z]) := by
  obtain ⟨a, b, c, h⟩ := h
  exact run_storeVar_row w B _ _ _ _ h (by kernel_rfl) rfl (by simp [Value.oneCell'])
@[go_sem] theorem cell_row_other (w : World) (g : Nat) (cs : Array Value) (a : Addr) (h : a.block ≠ g) : (w.setRow g cs).cell? a = w.cell? a := cell_setRow_other w g cs a h
theorem BlkIs.set123 {w : World} {B : Nat} {a b c : Value} {t : TypeId} (h : BlkIs w B #[a, b, c] t) (x y z : Value) : BlkIs (((w.setCell ⟨B, 0, none⟩ x).setCell ⟨B, 1, none⟩ y).setCell ⟨B, 2, none⟩ z) B #[x, y, z] t := by
  unfold BlkIs at h ⊢
  simp [World.setCell, Array.getElem?_modify, h]
theorem res_down {tmps : Array Value} {W : World} {B6 B7 : Nat} {a0 a1 a2 b0 b1 b2 e : Int} (h6 : tmps[6]? = some (.pointer (some ⟨B6, 0, none⟩))) (h7 : tmps[7]? = some (.pointer (some ⟨B7, 0, none⟩))) (h8 : tmps[8]? = some (.int .i64 e))
    (g6 : BlkIs W B6 #[.int .i64 a0, .int .i64 a1, .int .i64 a2] 31) (g7 : BlkIs W B7 #[.int .i64 b0, .int .i64 b1, .int .i64 b2] 31) :
    (results Try.f30 tmps).run Try.prog W = .ok (.tuple #[.agg #[.int .i64 a0, .int .i64 a1, .int .i64 a2], .agg #[.int .i64 b0, .int .i64 b1, .int .i64 b2], .int .i64 e]) W := by
  have c0 := g6.cell 0
  have c1 := g6.cell 1
  have c2 := g6.cell 2
  have d0 := g7.cell 0
  have d1 := g7.cell 1
  have d2 := g7.cell 2
  simp at c0 c1 c2 d0 d1 d2
  simp [results, Try.results30, go_sem, h6, h7, h8, c0, c1, c2, d0, d1, d2]

set_option maxRecDepth 100000 in
set_option maxHeartbeats 1600000 in
theorem down_bad (c : Cal) (u : Un) (lv : Int) (w : World) (hn : c.name.size ≤ 1000) (hE : ¬ unitE c u = 0) :
    Calls Try.prog 30 #[calV c, unitV u, .int .i64 lv] w fun e w' => e = .returned (.tuple #[.agg #[.int .i64 0, .int .i64 0, .int .i64 0], .agg #[.int .i64 0, .int .i64 0, .int .i64 0], .int .i64 (unitE c u)]) ∧ Below w.heap.size w w' := by
  have hE' : (unitE c u != 0) = true := by simpa using hE
  have HE := hide hE
  clear hE
  simp only [calV, unitV]
  go_enter Try.func30, Try.ntmps30
  go_wp2_with fail
  refine (known_not c u _ hn HE.out).mono ?_
  rintro e w1 ⟨rfl, hb1⟩
  have hsz3 : w.heap.size + 1 + 1 + 1 < w1.heap.size := by have := hb1.size; simp at this; omega
  have hsz1 : w.heap.size + 1 < w1.heap.size := by omega
  have HW := hide (show Below w.heap.size w w1 by (repeat' (first | (with_reducible exact Below.refl _ _) | (with_reducible assumption) | (with_reducible refine Below.alloc ?_ ?_ _) | (with_reducible refine below_drewN ?_ _) | (with_reducible refine Below.drew ?_) | (with_reducible refine Below.setCell ?_ ?_ _) | (with_reducible refine Below.trans ?_ (Below.mono (by assumption) ?_)) | go_size | (simp at *; omega))))
  have G6 : UnBx w1 (w.heap.size + 1 + 1) := UnBx.below (UnBx.alloc (by simpa using UnBx.new ((w.alloc (calObj c)).alloc (.cells #[.int .i64 u.lv, .int .i64 u.yr, .int .i64 u.ix] 31)) (.int .i64 0) (.int .i64 0) (.int .i64 0)) _) hb1 (by simp)
  have G7 : UnBx w1 (w.heap.size + 1 + 1 + 1) := UnBx.below (by simpa using UnBx.new (((w.alloc (calObj c)).alloc (.cells #[.int .i64 u.lv, .int .i64 u.yr, .int .i64 u.ix] 31)).alloc (.cells #[.int .i64 0, .int .i64 0, .int .i64 0] 31)) (.int .i64 0) (.int .i64 0) (.int .i64 0)) hb1 (by simp)
  have G6z : BlkIs w1 (w.heap.size + 1 + 1) #[.int .i64 0, .int .i64 0, .int .i64 0] 31 := BlkIs.below (BlkIs.alloc (by simpa using BlkIs.new ((w.alloc (calObj c)).alloc (.cells #[.int .i64 u.lv, .int .i64 u.yr, .int .i64 u.ix] 31)) #[.int .i64 0, .int .i64 0, .int .i64 0] 31) _) hb1 (by simp)
  have G7z : BlkIs w1 (w.heap.size + 1 + 1 + 1) #[.int .i64 0, .int .i64 0, .int .i64 0] 31 := BlkIs.below (by simpa using BlkIs.new (((w.alloc (calObj c)).alloc (.cells #[.int .i64 u.lv, .int .i64 u.yr, .int .i64 u.ix] 31)).alloc (.cells #[.int .i64 0, .int .i64 0, .int .i64 0] 31)) #[.int .i64 0, .int .i64 0, .int .i64 0] 31) hb1 (by simp)
  have hk6 : w.heap.size ≤ w.heap.size + 1 + 1 := by omega
  have hk7 : w.heap.size ≤ w.heap.size + 1 + 1 + 1 := by omega
  have hne : w.heap.size + 1 + 1 ≠ w.heap.size + 1 + 1 + 1 := by omega
  have hne' : w.heap.size + 1 + 1 + 1 ≠ w.heap.size + 1 + 1 := by omega
  have hlt7 : w.heap.size + 1 + 1 + 1 < w1.heap.size := by omega
  have hlt6 : w.heap.size + 1 + 1 < w1.heap.size := by omega
  clear hsz3
  clear hb1
  generalize w.heap.size + 1 + 1 + 1 = B7 at *
  generalize w.heap.size + 1 + 1 = B6 at *
  go_wp2_with (first
    | (refine wpList_store_row rfl _ _ _ rfl B6 #[.int .i64 0, .int .i64 0, .int .i64 0] rfl rfl _ _ (G6z.alloc _) (by kernel_rfl) rfl (by simp [Value.oneCell']) ?_)
    | (refine wpList_store_row rfl _ _ _ rfl B7 #[.int .i64 0, .int .i64 0, .int .i64 0] rfl rfl _ _ ((G7z.alloc _).rowOther hne' _) (by kernel_rfl) rfl (by simp [Value.oneCell']) ?_))
  exact bodyPost_ret (v := .tuple #[.agg #[.int .i64 0, .int .i64 0, .int .i64 0], .agg #[.int .i64 0, .int .i64 0, .int .i64 0], .int .i64 (unitE c u)]) (by exact res_down rfl rfl rfl ((BlkIs.row (G6.alloc _) _).rowOther hne _) (BlkIs.row ((G7.alloc _).rowOther hne' _) _)) rfl ⟨rfl, below_setRow (below_setRow (HW.out.alloc (by omega) _) hk6 _) hk7 _⟩

set_option maxRecDepth 100000 in
set_option maxHeartbeats 1600000 in
theorem down_arg (c : Cal) (u : Un) (lv : Int) (w : World) (hn : c.name.size ≤ 1000) (hE : unitE c u = 0) (hl : lv < u.lv ∨ 5 < lv) :
    Calls Try.prog 30 #[calV c, unitV u, .int .i64 lv] w fun e w' => e = .returned (.tuple #[.agg #[.int .i64 0, .int .i64 0, .int .i64 0], .agg #[.int .i64 0, .int .i64 0, .int .i64 0], .int .i64 1]) ∧ Below w.heap.size w w' := by
  have HE := hide hE
  clear hE
  simp only [calV, unitV]
  go_enter Try.func30, Try.ntmps30
  go_wp2_with fail
  refine (known_yes c u _ hn HE.out).mono ?_
  rintro e w1 ⟨g1, cap, g2, hG1, hG2, rfl, hc1, hc2, hFr, hb1⟩
  have u0 : w1.cell? ⟨w.heap.size + 1, 0, none⟩ = some (.int .i64 u.lv) := by rw [hb1.cell (p := ⟨w.heap.size + 1, 0, none⟩) (by simp; try omega)]; simp [World.cell?_alloc_at, World.cell?_alloc_past, World.frozen?_alloc_at, World.frozen?_alloc_past]
  have hsz3 : w.heap.size + 1 + 1 + 1 < w1.heap.size := by have := hb1.size; simp at this; omega
  have hsz1 : w.heap.size + 1 < w1.heap.size := by omega
  have HW := hide (show Below w.heap.size w w1 by (repeat' (first | (with_reducible exact Below.refl _ _) | (with_reducible assumption) | (with_reducible refine Below.alloc ?_ ?_ _) | (with_reducible refine below_drewN ?_ _) | (with_reducible refine Below.drew ?_) | (with_reducible refine Below.setCell ?_ ?_ _) | (with_reducible refine Below.trans ?_ (Below.mono (by assumption) ?_)) | go_size | (simp at *; omega))))
  have G6 : UnBx w1 (w.heap.size + 1 + 1) := UnBx.below (UnBx.alloc (by simpa using UnBx.new ((w.alloc (calObj c)).alloc (.cells #[.int .i64 u.lv, .int .i64 u.yr, .int .i64 u.ix] 31)) (.int .i64 0) (.int .i64 0) (.int .i64 0)) _) hb1 (by simp)
  have G7 : UnBx w1 (w.heap.size + 1 + 1 + 1) := UnBx.below (by simpa using UnBx.new (((w.alloc (calObj c)).alloc (.cells #[.int .i64 u.lv, .int .i64 u.yr, .int .i64 u.ix] 31)).alloc (.cells #[.int .i64 0, .int .i64 0, .int .i64 0] 31)) (.int .i64 0) (.int .i64 0) (.int .i64 0)) hb1 (by simp)
  have G6z : BlkIs w1 (w.heap.size + 1 + 1) #[.int .i64 0, .int .i64 0, .int .i64 0] 31 := BlkIs.below (BlkIs.alloc (by simpa using BlkIs.new ((w.alloc (calObj c)).alloc (.cells #[.int .i64 u.lv, .int .i64 u.yr, .int .i64 u.ix] 31)) #[.int .i64 0, .int .i64 0, .int .i64 0] 31) _) hb1 (by simp)
  have G7z : BlkIs w1 (w.heap.size + 1 + 1 + 1) #[.int .i64 0, .int .i64 0, .int .i64 0] 31 := BlkIs.below (by simpa using BlkIs.new (((w.alloc (calObj c)).alloc (.cells #[.int .i64 u.lv, .int .i64 u.yr, .int .i64 u.ix] 31)).alloc (.cells #[.int .i64 0, .int .i64 0, .int .i64 0] 31)) #[.int .i64 0, .int .i64 0, .int .i64 0] 31) hb1 (by simp)
  have hk6 : w.heap.size ≤ w.heap.size + 1 + 1 := by omega
  have hk7 : w.heap.size ≤ w.heap.size + 1 + 1 + 1 := by omega
  have hne : w.heap.size + 1 + 1 ≠ w.heap.size + 1 + 1 + 1 := by omega
  have hne' : w.heap.size + 1 + 1 + 1 ≠ w.heap.size + 1 + 1 := by omega
  have hlt7 : w.heap.size + 1 + 1 + 1 < w1.heap.size := by omega
  have hlt6 : w.heap.size + 1 + 1 < w1.heap.size := by omega
  clear hsz3
  clear hb1 hFr hG1 hG2
  generalize w.heap.size + 1 + 1 + 1 = B7 at *
  generalize w.heap.size + 1 + 1 = B6 at *
  have G6a := G6.alloc (.cells #[.int .i64 u.yr, .slice (some ⟨g1, 0, none⟩) (nWk c u.yr) cap, .slice (some ⟨g2, 0, none⟩) (nPer c u.yr) (nPer c u.yr)] 67)
  have G7a := G7.alloc (.cells #[.int .i64 u.yr, .slice (some ⟨g1, 0, none⟩) (nWk c u.yr) cap, .slice (some ⟨g2, 0, none⟩) (nPer c u.yr) (nPer c u.yr)] 67)
  go_wp2_with (first
    | (refine wpList_store_row rfl _ _ _ rfl B6 #[.int .i64 0, .int .i64 0, .int .i64 0] rfl rfl _ _ (G6z.alloc _) (by kernel_rfl) rfl (by simp [Value.oneCell']) ?_)
    | (refine wpList_store_row rfl _ _ _ rfl B7 #[.int .i64 0, .int .i64 0, .int .i64 0] rfl rfl _ _ ((G7z.alloc _).rowOther hne' _) (by kernel_rfl) rfl (by simp [Value.oneCell']) ?_))
  all_goals first
    | (exfalso; omega)
    | exact bodyPost_ret (v := .tuple #[.agg #[.int .i64 0, .int .i64 0, .int .i64 0], .agg #[.int .i64 0, .int .i64 0, .int .i64 0], .int .i64 1]) (by exact res_down rfl rfl rfl ((BlkIs.row G6a _).rowOther hne _) (BlkIs.row (G7a.rowOther hne' _) _)) rfl ⟨rfl, below_setRow (below_setRow (HW.out.alloc (by omega) _) hk6 _) hk7 _⟩

/-- The frame, and the blocks of the results. -/
def DnSt (c : Cal) (u : Un) (F g1 cap g2 B6 B7 : Nat) (w : World) : Prop := BlkIs w F #[.int .i64 u.yr, .slice (some ⟨g1, 0, none⟩) (nWk c u.yr) cap, .slice (some ⟨g2, 0, none⟩) (nPer c u.yr) (nPer c u.yr)] 67 ∧ IntsAt w g2 (perL c u.yr) ∧ BlkIs w B6 #[.int .i64 0, .int .i64 0, .int .i64 0] 31 ∧ BlkIs w B7 #[.int .i64 0, .int .i64 0, .int .i64 0] 31
theorem DnSt.call {c : Cal} {u : Un} {F g1 cap g2 B6 B7 : Nat} {w w' : World} (h : DnSt c u F g1 cap g2 B6 B7 w) (hb : Below w.heap.size w w') : DnSt c u F g1 cap g2 B6 B7 w' :=
  ⟨h.1.call hb, h.2.1.call hb, h.2.2.1.call hb, h.2.2.2.call hb⟩
theorem DnSt.drew {c : Cal} {u : Un} {F g1 cap g2 B6 B7 : Nat} {w : World} (h : DnSt c u F g1 cap g2 B6 B7 w) : DnSt c u F g1 cap g2 B6 B7 w.drew := h
theorem DnSt.load {c : Cal} {u : Un} {F g1 cap g2 B6 B7 : Nat} {w' : World} (h : DnSt c u F g1 cap g2 B6 B7 w') : w'.cell? ⟨F, 0, none⟩ = some (.int .i64 u.yr) ∧ w'.cell? ⟨F, 1, none⟩ = some (.slice (some ⟨g1, 0, none⟩) (nWk c u.yr) cap) ∧ w'.cell? ⟨F, 2, none⟩ = some (.slice (some ⟨g2, 0, none⟩) (nPer c u.yr) (nPer c u.yr)) :=
  ⟨h.1.cell 0, h.1.cell 1, h.1.cell 2⟩
theorem DnSt.res {c : Cal} {u : Un} {F g1 cap g2 B6 B7 : Nat} {w' : World} (h : DnSt c u F g1 cap g2 B6 B7 w') :
    (w'.cell? ⟨B6, 0, none⟩ = some (.int .i64 0) ∧ w'.cell? ⟨B6, 1, none⟩ = some (.int .i64 0) ∧ w'.cell? ⟨B6, 2, none⟩ = some (.int .i64 0)) ∧ (w'.cell? ⟨B7, 0, none⟩ = some (.int .i64 0) ∧ w'.cell? ⟨B7, 1, none⟩ = some (.int .i64 0) ∧ w'.cell? ⟨B7, 2, none⟩ = some (.int .i64 0)) ∧
    (w'.frozen? ⟨B6, 0, none⟩ = false ∧ w'.frozen? ⟨B6, 1, none⟩ = false ∧ w'.frozen? ⟨B6, 2, none⟩ = false) ∧ (w'.frozen? ⟨B7, 0, none⟩ = false ∧ w'.frozen? ⟨B7, 1, none⟩ = false ∧ w'.frozen? ⟨B7, 2, none⟩ = false) :=
  ⟨⟨h.2.2.1.cell 0, h.2.2.1.cell 1, h.2.2.1.cell 2⟩, ⟨h.2.2.2.cell 0, h.2.2.2.cell 1, h.2.2.2.cell 2⟩, ⟨h.2.2.1.frozen 0, h.2.2.1.frozen 1, h.2.2.1.frozen 2⟩, ⟨h.2.2.2.frozen 0, h.2.2.2.frozen 1, h.2.2.2.frozen 2⟩⟩

set_option maxRecDepth 100000 in
set_option maxHeartbeats 1600000 in
theorem down_yes (c : Cal) (u : Un) (lv : Int) (w : World) (hn : c.name.size ≤ 1000) (hE : unitE c u = 0) (h1 : u.lv ≤ lv) (h5 : lv ≤ 5) :
    Calls Try.prog 30 #[calV c, unitV u, .int .i64 lv] w fun e w' => e = .returned (.tuple #[.agg #[.int .i64 lv, .int .i64 u.yr, .int .i64 ((ixN c u.yr lv (cutA c u) : Int) + 1)], .agg #[.int .i64 lv, .int .i64 u.yr, .int .i64 ((ixN c u.yr lv (cutB c u - 1) : Int) + 1)], .int .i64 0]) ∧ Below w.heap.size w w' := by
  have hf := frame_ok (unit_ok hE).1
  have hA : askE c u.yr 1601 = 0 := hf.2.2.2.2.2.2
  have hl1 : 1 ≤ lv := by have := hf.2.2.1; omega
  have hcut := cutAB hE
  obtain ⟨b, hb⟩ : ∃ b, b = cutB c u - 1 := ⟨_, rfl⟩
  have HBB := hide (show (cutB c u : Int) = (b : Int) + 1 by omega)
  rw [← hb]
  have HA := hide hA
  have HE := hide hE
  clear hE hA hf hcut hb
  simp only [calV, unitV]
  go_enter Try.func30, Try.ntmps30
  go_wp2_with fail
  refine (known_yes c u _ hn HE.out).mono ?_
  rintro e w1 ⟨g1, cap, g2, hG1, hG2, rfl, hc1, hc2, hFr, hb1⟩
  rw [HBB.out]
  have u0 : w1.cell? ⟨w.heap.size + 1, 0, none⟩ = some (.int .i64 u.lv) := by rw [hb1.cell (p := ⟨w.heap.size + 1, 0, none⟩) (by simp; try omega)]; simp [World.cell?_alloc_at, World.cell?_alloc_past, World.frozen?_alloc_at, World.frozen?_alloc_past]
  have hsz3 : w.heap.size + 1 + 1 + 1 < w1.heap.size := by have := hb1.size; simp at this; omega
  have hsz1 : w.heap.size + 1 < w1.heap.size := by omega
  have HW := hide (show Below w.heap.size w w1 by (repeat' (first | (with_reducible exact Below.refl _ _) | (with_reducible assumption) | (with_reducible refine Below.alloc ?_ ?_ _) | (with_reducible refine below_drewN ?_ _) | (with_reducible refine Below.drew ?_) | (with_reducible refine Below.setCell ?_ ?_ _) | (with_reducible refine Below.trans ?_ (Below.mono (by assumption) ?_)) | go_size | (simp at *; omega))))
  have G6 : UnBx w1 (w.heap.size + 1 + 1) := UnBx.below (UnBx.alloc (by simpa using UnBx.new ((w.alloc (calObj c)).alloc (.cells #[.int .i64 u.lv, .int .i64 u.yr, .int .i64 u.ix] 31)) (.int .i64 0) (.int .i64 0) (.int .i64 0)) _) hb1 (by simp)
  have G7 : UnBx w1 (w.heap.size + 1 + 1 + 1) := UnBx.below (by simpa using UnBx.new (((w.alloc (calObj c)).alloc (.cells #[.int .i64 u.lv, .int .i64 u.yr, .int .i64 u.ix] 31)).alloc (.cells #[.int .i64 0, .int .i64 0, .int .i64 0] 31)) (.int .i64 0) (.int .i64 0) (.int .i64 0)) hb1 (by simp)
  have G6z : BlkIs w1 (w.heap.size + 1 + 1) #[.int .i64 0, .int .i64 0, .int .i64 0] 31 := BlkIs.below (BlkIs.alloc (by simpa using BlkIs.new ((w.alloc (calObj c)).alloc (.cells #[.int .i64 u.lv, .int .i64 u.yr, .int .i64 u.ix] 31)) #[.int .i64 0, .int .i64 0, .int .i64 0] 31) _) hb1 (by simp)
  have G7z : BlkIs w1 (w.heap.size + 1 + 1 + 1) #[.int .i64 0, .int .i64 0, .int .i64 0] 31 := BlkIs.below (by simpa using BlkIs.new (((w.alloc (calObj c)).alloc (.cells #[.int .i64 u.lv, .int .i64 u.yr, .int .i64 u.ix] 31)).alloc (.cells #[.int .i64 0, .int .i64 0, .int .i64 0] 31)) #[.int .i64 0, .int .i64 0, .int .i64 0] 31) hb1 (by simp)
  have hk6 : w.heap.size ≤ w.heap.size + 1 + 1 := by omega
  have hk7 : w.heap.size ≤ w.heap.size + 1 + 1 + 1 := by omega
  have hne : w.heap.size + 1 + 1 ≠ w.heap.size + 1 + 1 + 1 := by omega
  have hne' : w.heap.size + 1 + 1 + 1 ≠ w.heap.size + 1 + 1 := by omega
  have hlt7 : w.heap.size + 1 + 1 + 1 < w1.heap.size := by omega
  have hlt6 : w.heap.size + 1 + 1 < w1.heap.size := by omega
  clear hsz3
  have HFr := hide hFr
  clear hb1 hFr hG1 hG2
  generalize w.heap.size + 1 + 1 + 1 = B7 at *
  generalize w.heap.size + 1 + 1 = B6 at *
  obtain ⟨F, hF⟩ : ∃ F, F = w1.heap.size := ⟨_, rfl⟩
  have HD := hide (show DnSt c u F g1 cap g2 B6 B7 (w1.alloc (.cells #[.int .i64 u.yr, .slice (some ⟨g1, 0, none⟩) (nWk c u.yr) cap, .slice (some ⟨g2, 0, none⟩) (nPer c u.yr) (nPer c u.yr)] 67)) from ⟨by rw [hF]; exact BlkIs.new w1 _ _, HFr.out.2.alloc _, G6z.alloc _, G7z.alloc _⟩)
  have HW1 := hide (show Below w.heap.size w (w1.alloc (.cells #[.int .i64 u.yr, .slice (some ⟨g1, 0, none⟩) (nWk c u.yr) cap, .slice (some ⟨g2, 0, none⟩) (nPer c u.yr) (nPer c u.yr)] 67)) from HW.out.alloc (by omega) _)
  go_wp2_with fail
  all_goals first
    | (exfalso; omega)
    | skip
  rw [← hF]
  generalize w1.alloc (.cells #[.int .i64 u.yr, .slice (some ⟨g1, 0, none⟩) (nWk c u.yr) cap, .slice (some ⟨g2, 0, none⟩) (nPer c u.yr) (nPer c u.yr)] 67) = W at *
  obtain ⟨k0, k1, k2⟩ := HD.out.load
  have hzW : w.heap.size ≤ W.heap.size := HW1.out.size
  have HG := hide (And.intro hne hne')
  have HKK := hide (And.intro hk6 hk7)
  clear G6 G7 HFr u0 hlt6 hlt7 hF hsz1 HW G6z G7z hk6 hk7 hne hne'
  go_region_with (go_at_call 40; refine (funit_any c u.yr lv _ cap g1 g2 hl1 h5 HA.out ?_ _).mono ?_; first
    | (exact HD2.out.2.1; rintro e w3 ⟨rfl, hb3⟩; have HD3 := hide (HD2.out.call (by exact hb3)); have HW3 := hide (HW2.out.trans (hb3.mono (by exact hz2)) : Below w.heap.size w w3); obtain ⟨⟨p0, p1, p2⟩, ⟨p3, p4, p5⟩, ⟨p6, p7, p8⟩, ⟨p9, p10, p11⟩⟩ := HD3.out.res; obtain ⟨hne, hne'⟩ := HG.out; clear hb3)
    | (exact HD.out.2.1; rintro e w2 ⟨rfl, hb2⟩; have HD2 := hide (HD.out.drew.call (by exact hb2)); have HW2 := hide (HW1.out.drew.trans (hb2.mono (by exact hzW)) : Below w.heap.size w w2); obtain ⟨m0, m1, m2⟩ := HD2.out.load; have hz2 : w.heap.size ≤ w2.heap.size := HW2.out.size; clear hb2))
  all_goals
    obtain ⟨hk6, hk7⟩ := HKK.out
    go_simp
    go_wp2
    exact bodyPost_ret (v := .tuple #[.agg #[.int .i64 lv, .int .i64 u.yr, .int .i64 ((ixN c u.yr lv (cutA c u) : Int) + 1)], .agg #[.int .i64 lv, .int .i64 u.yr, .int .i64 ((ixN c u.yr lv b : Int) + 1)], .int .i64 0]) (by exact res_down rfl rfl rfl ((((HD3.out.2.2.1.set123 _ _ _).far hne _).far hne _).far hne _) ((((HD3.out.2.2.2.far hne' _).far hne' _).far hne' _).set123 _ _ _)) rfl ⟨rfl, (((((HW3.out.setCell hk6 _).setCell hk6 _).setCell hk6 _).setCell hk7 _).setCell hk7 _).setCell hk7 _⟩

theorem down_any (c : Cal) (u : Un) (lv : Int) (w : World) (hn : c.name.size ≤ 1000) :
    Calls Try.prog 30 #[calV c, unitV u, .int .i64 lv] w fun e w' => e = .returned (.tuple #[unitV (dnA c u lv), unitV (dnB c u lv), .int .i64 (dnE c u lv)]) ∧ Below w.heap.size w w' := by
  by_cases hE : unitE c u = 0
  · by_cases hl : u.lv ≤ lv ∧ lv ≤ 5
    · have h0 : dnE c u lv = 0 := by unfold dnE; rw [if_pos hE, if_pos hl]
      refine (down_yes c u lv w hn hE hl.1 hl.2).mono ?_
      rintro e w1 ⟨rfl, hb⟩
      exact ⟨by rw [dnA, dnB, if_pos h0, if_pos h0, h0], hb⟩
    · have h0 : dnE c u lv = 1 := by unfold dnE; rw [if_pos hE, if_neg hl]
      refine (down_arg c u lv w hn hE (by omega)).mono ?_
      rintro e w1 ⟨rfl, hb⟩
      exact ⟨by rw [dnA, dnB, if_neg (by omega), if_neg (by omega), h0], hb⟩
  · have h0 : dnE c u lv = unitE c u := by unfold dnE; rw [if_neg hE]
    refine (down_bad c u lv w hn hE).mono ?_
    rintro e w1 ⟨rfl, hb⟩
    exact ⟨by rw [dnA, dnB, if_neg (by omega), if_neg (by omega), h0], hb⟩

end Go.Proofs.Ytpngdeegdkifnaa
