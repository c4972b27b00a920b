/- The plain law of rates: how many days of a span lie in units that cover it. The plain law of rates: the days of a span in the units that meet it. Package rate: rows of pieces, and of shares. Package rate: the pieces of a span. Package rate: days and parts of a span. -/
import Derived.Test.YtjhhmeoibfdcmaaGreatDoorMFh
import Derived.Test.YtjhhmeoibfdcmaaGreatDoorMFi
import Derived.Test.YtjhhmeoibfdcmaaGreatDoorMWi
import Derived.Test.YtjhhmeoibfdcmaaGreatDoorMUn
import Derived.Test.YtjhhmeoibfdcmaaGreatDoorMSr
import Derived.Lib.QuietBelow
import Derived.BigQuiet
import Derived.Deep.DeepCutAuto
namespace Go.Proofs.YtjhhmeoibfdcmaaGreatDoor
open Go.RowKit Qd
set_option linter.unusedSimpArgs false
set_option linter.unusedVariables false

/-- How many days of a span lie in another one. -/
def clipV (a b : Int) (t : Sp) : Int := min b t.b - max a t.a + 1
/-- Spans, each of which begins on the day behind the one ahead. -/
def AdjL : List Sp → Prop
  | [] => True
  | [_] => True
  | u :: v :: l => v.a = u.b + 1 ∧ AdjL (v :: l)
theorem adj_of {l : List Sp} (h : ∀ (j : Nat) (u v : Sp), l[j]? = some u → l[j + 1]? = some v → v.a = u.b + 1) : AdjL l := by
  induction l with
  | nil => trivial
  | cons u l ih =>
    cases l with
    | nil => trivial
    | cons v l => exact ⟨h 0 u v rfl rfl, ih fun j x y hx hy => h (j + 1) x y (by simpa using hx) (by simpa using hy)⟩
theorem adj_above {u : Sp} {l : List Sp} (h : AdjL (u :: l)) (hp : ∀ t ∈ u :: l, t.a ≤ t.b) : ∀ t ∈ l, u.b < t.a := by
  induction l generalizing u with
  | nil => simp
  | cons v l ih =>
    intro t ht
    have h1 := hp v (by simp)
    rcases List.mem_cons.1 ht with rfl | ht
    · have := h.1; omega
    · have := ih h.2 (fun x hx => hp x (List.mem_cons_of_mem _ hx)) t ht
      have := h.1; omega
/-- The days of a span that lie in spans that cover it. -/
theorem clip_sum {u : Sp} {l : List Sp} {a b : Int} (h : AdjL (u :: l)) (hp : ∀ t ∈ u :: l, t.a ≤ t.b) (hab : a ≤ b) (ha : u.a ≤ a ∧ a ≤ u.b) (hb : ∀ t, (u :: l).getLast? = some t → t.a ≤ b ∧ b ≤ t.b) :
    ((u :: l).map (clipV a b)).sum = b - a + 1 ∧ ∀ t ∈ u :: l, 1 ≤ clipV a b t := by
  induction l generalizing u a with
  | nil =>
    have h1 := hb u rfl
    simp only [List.map_cons, List.map_nil, List.sum_cons, List.sum_nil, List.mem_singleton, forall_eq, clipV]
    omega
  | cons v l ih =>
    have hv := h.1
    have hpv := hp v (by simp)
    have hpu := hp u (by simp)
    have hlast : ∀ t, (v :: l).getLast? = some t → t.a ≤ b ∧ b ≤ t.b := fun t ht => hb t (by rw [List.getLast?_cons_cons]; exact ht)
    have hbv : v.a ≤ b := by
      cases l with
      | nil => exact (hlast v rfl).1
      | cons z l =>
        obtain ⟨t, ht⟩ : ∃ t, (v :: z :: l).getLast? = some t := ⟨_, List.getLast?_eq_some_getLast (by simp)⟩
        have h1 := hlast t ht
        have hm : t ∈ z :: l := by
          rw [List.getLast?_cons_cons] at ht
          exact List.mem_of_getLast? ht
        have := adj_above h.2 (fun x hx => hp x (List.mem_cons_of_mem _ hx)) t hm
        omega
    have hi := ih (a := v.a) h.2 (fun x hx => hp x (List.mem_cons_of_mem _ hx)) hbv ⟨by omega, hpv⟩ hlast
    have hge : ∀ t ∈ v :: l, v.a ≤ t.a := by
      intro t ht
      rcases List.mem_cons.1 ht with rfl | ht
      · omega
      · have := adj_above h.2 (fun x hx => hp x (List.mem_cons_of_mem _ hx)) t ht; omega
    have hsame : ∀ t ∈ v :: l, clipV a b t = clipV v.a b t := by
      intro t ht
      have := hge t ht
      unfold clipV; omega
    have e : (v :: l).map (clipV a b) = (v :: l).map (clipV v.a b) := List.map_congr_left hsame
    constructor
    · rw [List.map_cons, List.sum_cons, e, hi.1]
      unfold clipV; omega
    · intro t ht
      rcases List.mem_cons.1 ht with rfl | ht
      · unfold clipV; omega
      · rw [hsame t ht]; exact hi.2 t ht
/-- Between the first one and the last one all days lie in the span. -/
theorem clip_mid {l : List Sp} {a b : Int} (h : AdjL l) (hp : ∀ t ∈ l, t.a ≤ t.b) (ha : ∀ t, l[0]? = some t → a ≤ t.b) (hb : ∀ t, l.getLast? = some t → t.a ≤ b) {j : Nat} {t : Sp} (hj : l[j]? = some t) (h0 : 0 < j) (h1 : j + 1 < l.length) : clipV a b t = t.b - t.a + 1 := by
  have lo : ∀ (l : List Sp) (j : Nat) (t u : Sp), AdjL l → (∀ t ∈ l, t.a ≤ t.b) → l[0]? = some u → l[j]? = some t → 0 < j → u.b < t.a := by
    intro l j t u h hp hu ht hj
    cases l with
    | nil => simp at hu
    | cons x l =>
      have hx : x = u := by simpa using hu
      subst hx
      obtain ⟨i, rfl⟩ : ∃ i, j = i + 1 := ⟨j - 1, by omega⟩
      exact adj_above h hp t (List.mem_of_getElem? (by simpa using ht))
  have tail : ∀ (l : List Sp) (j : Nat), AdjL l → AdjL (l.drop j) := by
    intro l j
    induction j generalizing l with
    | zero => exact fun h => h
    | succ j ih =>
      intro h
      cases l with
      | nil => simpa using h
      | cons x l =>
        rw [List.drop_succ_cons]
        refine ih l ?_
        cases l with
        | nil => trivial
        | cons => exact h.2
  obtain ⟨u, hu⟩ : ∃ u, l[0]? = some u := ⟨_, List.getElem?_eq_getElem (by omega)⟩
  have q1 := lo l j t u h hp hu hj h0
  have q2 := ha u hu
  obtain ⟨z, hz⟩ : ∃ z, l.getLast? = some z := ⟨l[l.length - 1], by rw [List.getLast?_eq_getElem?, List.getElem?_eq_getElem (by omega)]⟩
  have q3 := hb z hz
  rw [List.getLast?_eq_getElem?] at hz
  have q4 := lo (l.drop j) (l.length - 1 - j) z t (tail l j h) (fun x hx => hp x (List.mem_of_mem_drop hx)) (by simpa using hj) (by rw [List.getElem?_drop, ← hz]; congr 1; omega) (by omega)
  unfold clipV; omega
end Go.Proofs.YtjhhmeoibfdcmaaGreatDoor

namespace Go.Proofs.YtjhhmeoibfdcmaaGreatDoor
open Go.RowKit Qd
set_option linter.unusedSimpArgs false
set_option linter.unusedVariables false

theorem meets_mem {c : Cal} {lv : Int} {s : Sp} (h : meetsE c lv s = 0) {u : Un} (hu : u ∈ meetsL c lv s) : unitE c u = 0 ∧ u.lv = lv := by
  obtain ⟨n0, hy, hF, m, n, hn, hL, _⟩ := meets_facts h
  rw [hL] at hu
  have h1 := List.mem_of_mem_drop (List.mem_of_mem_take hu)
  obtain ⟨p, hp, e⟩ := List.getElem_of_mem h1
  obtain ⟨a, i, ha, hi, rfl, _⟩ := allUp_at c lv _ _ p u (by rw [List.getElem?_eq_getElem hp, e])
  exact ⟨un_here (hF a ha) hi, rfl⟩
theorem sp_order {c : Cal} {u : Un} (h : unitE c u = 0) : (spV c u).a ≤ (spV c u).b := by
  have hab := cutAB h
  have := dayW_lt c u.yr (un_lv h).2.2.2.1 hab.1 hab.2
  rw [sp_get h]
  simp only
  omega
theorem meets_adj {c : Cal} {lv : Int} {s : Sp} (h : meetsE c lv s = 0) : AdjL ((meetsL c lv s).map (spV c)) := by
  refine adj_of fun j u v hu hv => ?_
  simp only [List.getElem?_map, Option.map_eq_some_iff] at hu hv
  obtain ⟨x, hx, rfl⟩ := hu
  obtain ⟨y, hy, rfl⟩ := hv
  obtain ⟨k1, k2⟩ := (meets_chain h).1 j x y hx hy
  have hU := (meets_mem h (List.mem_of_getElem? hx)).1
  rcases next_facts hU with ⟨_, _, _, h4, _⟩ | ⟨h1, _⟩
  · rw [k2] at h4; exact h4
  · omega
theorem meets_order {c : Cal} {lv : Int} {s : Sp} (h : meetsE c lv s = 0) : ∀ t ∈ (meetsL c lv s).map (spV c), t.a ≤ t.b := by
  intro t ht
  obtain ⟨u, hu, rfl⟩ := List.mem_map.1 ht
  exact sp_order (meets_mem h hu).1
theorem fd_sp {c : Cal} {d lv : Int} (h : fdE c d lv = 0) : (spV c (fdU c d lv)).a ≤ d ∧ d ≤ (spV c (fdU c d lv)).b := by
  obtain ⟨i, e, hi, h1, h2⟩ := fd_in h
  have hf := (fd_ok h).2.2.2.2.2.2
  have hs := sp_mk hf i hi
  rw [e, hs]
  simp only
  omega
/-- How many days of a span lie in each unit that meets it. -/
noncomputable def dysL (c : Cal) (lv : Int) (s : Sp) : List Int := ((meetsL c lv s).map (spV c)).map (clipV s.a s.b)
theorem dysL_len (c : Cal) (lv : Int) (s : Sp) : (dysL c lv s).length = (meetsL c lv s).length := by simp [dysL]
theorem dysL_get {c : Cal} {lv : Int} {s : Sp} {j : Nat} {u : Un} (h : (meetsL c lv s)[j]? = some u) : (dysL c lv s)[j]? = some (clipV s.a s.b (spV c u)) := by simp [dysL, h]
theorem dysL_no {c : Cal} {lv : Int} {s : Sp} (h : ¬ meetsE c lv s = 0) : dysL c lv s = [] := by simp [dysL, meets_no h]
theorem dys_facts {c : Cal} {lv : Int} {s : Sp} (h : meetsE c lv s = 0) : (dysL c lv s).sum = s.b - s.a + 1 ∧ ∀ d ∈ dysL c lv s, 1 ≤ d ∧ d ≤ s.b - s.a + 1 := by
  obtain ⟨hk, h1, h5, hab, ha, hb⟩ := meets_ok h
  obtain ⟨c1, c2, c3, c4, c5⟩ := meets_chain h
  have hadj := meets_adj h
  have hord := meets_order h
  have hl : ∀ t, ((meetsL c lv s).map (spV c)).getLast? = some t → t.a ≤ s.b ∧ s.b ≤ t.b := by
    intro t ht
    rw [List.getLast?_eq_getElem?, List.length_map, List.getElem?_map, c3] at ht
    simp only [Option.map_some, Option.some.injEq] at ht
    subst ht
    exact fd_sp hb
  have hf := fd_sp ha
  unfold dysL
  cases hL : meetsL c lv s with
  | nil => rw [hL] at c4; simp at c4
  | cons u l =>
    rw [hL] at c2 hadj hord hl
    have hu : u = fdU c s.a lv := by simpa using c2
    subst hu
    rw [List.map_cons] at hadj hord hl ⊢
    obtain ⟨e1, e2⟩ := clip_sum hadj hord hab hf hl
    refine ⟨e1, fun d hd => ?_⟩
    obtain ⟨t, ht, rfl⟩ := List.mem_map.1 hd
    have := e2 t ht
    refine ⟨this, ?_⟩
    unfold clipV; omega
theorem dys_mid {c : Cal} {lv : Int} {s : Sp} (h : meetsE c lv s = 0) {j : Nat} {u : Un} (hj : (meetsL c lv s)[j]? = some u) (h0 : 0 < j) (h1 : j + 1 < (meetsL c lv s).length) : clipV s.a s.b (spV c u) = (spV c u).b - (spV c u).a + 1 := by
  obtain ⟨_, _, _, hab, ha, hb⟩ := meets_ok h
  obtain ⟨_, c2, c3, c4, c5⟩ := meets_chain h
  refine clip_mid (meets_adj h) (meets_order h) (fun t ht => ?_) (fun t ht => ?_) (by rw [List.getElem?_map, hj]; rfl) h0 (by simpa using h1)
  · rw [List.getElem?_map, c2] at ht
    simp only [Option.map_some, Option.some.injEq] at ht
    subst ht
    exact (fd_sp ha).2
  · rw [List.getLast?_eq_getElem?, List.length_map, List.getElem?_map, c3] at ht
    simp only [Option.map_some, Option.some.injEq] at ht
    subst ht
    exact (fd_sp hb).1
/-- A day of a unit that meets a span lies in the span just if it is one of the span's. -/
theorem dys_le {c : Cal} {lv : Int} {s : Sp} (u : Un) : clipV s.a s.b (spV c u) ≤ (spV c u).b - (spV c u).a + 1 := by unfold clipV; omega
end Go.Proofs.YtjhhmeoibfdcmaaGreatDoor

namespace Go.Proofs.YtjhhmeoibfdcmaaGreatDoor
open Go.RowKit Qd
set_option linter.unusedSimpArgs false
set_option linter.unusedVariables false

def pcC (x : Un × Sp) : List Value := [.int .i64 x.1.lv, .int .i64 x.1.yr, .int .i64 x.1.ix, .int .i64 x.2.a, .int .i64 x.2.b]
/-- Pieces that lie in a block. -/
def PcsAt (w : World) (g : Nat) (D : List (Un × Sp)) : Prop := w.heap[g]? = some (.cells (D.flatMap pcC).toArray 73 (0, 0))
theorem PcsAt.lt {w : World} {g : Nat} {D : List (Un × Sp)} (h : PcsAt w g D) : g < w.heap.size := (Array.getElem?_eq_some_iff.1 h).1
theorem pc_get (D : List (Un × Sp)) (i : Nat) (x : Un × Sp) (h : D[i]? = some x) : (D.flatMap pcC)[i * 5]? = some (.int .i64 x.1.lv) ∧ (D.flatMap pcC)[i * 5 + 1]? = some (.int .i64 x.1.yr) ∧ (D.flatMap pcC)[i * 5 + 2]? = some (.int .i64 x.1.ix) ∧ (D.flatMap pcC)[i * 5 + 3]? = some (.int .i64 x.2.a) ∧ (D.flatMap pcC)[i * 5 + 4]? = some (.int .i64 x.2.b) := by
  induction D generalizing i with
  | nil => simp at h
  | cons y l ih =>
    cases i with
    | zero => simp at h; subst h; simp [pcC]
    | succ i =>
      have := ih i (by simpa using h)
      rw [show (i + 1) * 5 = i * 5 + 1 + 1 + 1 + 1 + 1 by omega]
      simpa [pcC] using this
theorem pc_set (D : List (Un × Sp)) (i : Nat) (x : Un × Sp) (h : i < D.length) : (((((D.flatMap pcC).set (i * 5) (.int .i64 x.1.lv)).set (i * 5 + 1) (.int .i64 x.1.yr)).set (i * 5 + 2) (.int .i64 x.1.ix)).set (i * 5 + 3) (.int .i64 x.2.a)).set (i * 5 + 4) (.int .i64 x.2.b) = (D.set i x).flatMap pcC := by
  induction D generalizing i with
  | nil => simp at h
  | cons y l ih =>
    cases i with
    | zero => simp [pcC]
    | succ i =>
      have := ih i (by simpa using h)
      rw [show (i + 1) * 5 = i * 5 + 1 + 1 + 1 + 1 + 1 by omega]
      simpa [pcC] using this
theorem PcsAt.cell {w : World} {g : Nat} {D : List (Un × Sp)} (h : PcsAt w g D) {i : Nat} {x : Un × Sp} (hi : D[i]? = some x) : w.cell? ⟨g, i * 5, none⟩ = some (.int .i64 x.1.lv) ∧ w.cell? ⟨g, i * 5 + 1, none⟩ = some (.int .i64 x.1.yr) ∧ w.cell? ⟨g, i * 5 + 2, none⟩ = some (.int .i64 x.1.ix) ∧ w.cell? ⟨g, i * 5 + 3, none⟩ = some (.int .i64 x.2.a) ∧ w.cell? ⟨g, i * 5 + 4, none⟩ = some (.int .i64 x.2.b) := by
  have := pc_get D i x hi
  simp [World.cell?, show w.heap[g]? = _ from h, this]
theorem PcsAt.frozen {w : World} {g : Nat} {D : List (Un × Sp)} (h : PcsAt w g D) (k : Nat) : w.frozen? ⟨g, k, none⟩ = false := by simp [World.frozen?, show w.heap[g]? = _ from h]
theorem PcsAt.below {w w' : World} {K g : Nat} {D : List (Un × Sp)} (h : PcsAt w g D) (hb : Below K w w') (hg : g < K) : PcsAt w' g D := (hb.block g hg).trans h
theorem PcsAt.call {w w' : World} {g : Nat} {D : List (Un × Sp)} (h : PcsAt w g D) (hb : Below w.heap.size w w') : PcsAt w' g D := h.below hb h.lt
theorem PcsAt.far {D : List (Un × Sp)} {g : Nat} {w : World} (h : PcsAt w g D) {p : Addr} (hp : g ≠ p.block) (u : Value) : PcsAt (w.setCell p u) g D := (Below.heap_setCell w p u g hp).trans h
def pcPut (w : World) (g i : Nat) (x : Un × Sp) : World := ((((w.setCell ⟨g, i * 5, none⟩ (.int .i64 x.1.lv)).setCell ⟨g, i * 5 + 1, none⟩ (.int .i64 x.1.yr)).setCell ⟨g, i * 5 + 2, none⟩ (.int .i64 x.1.ix)).setCell ⟨g, i * 5 + 3, none⟩ (.int .i64 x.2.a)).setCell ⟨g, i * 5 + 4, none⟩ (.int .i64 x.2.b)
theorem PcsAt.put {w : World} {g : Nat} {D : List (Un × Sp)} (h : PcsAt w g D) (i : Nat) (x : Un × Sp) (hi : i < D.length) : PcsAt (pcPut w g i x) g (D.set i x) := by
  unfold PcsAt pcPut at *
  rw [← pc_set D i x hi]
  simp [World.setCell, Array.getElem?_modify, h]
theorem pcPut_far {w : World} {g i b : Nat} {x : Un × Sp} (hb : b ≠ g) : (pcPut w g i x).heap[b]? = w.heap[b]? := by
  unfold pcPut
  simp only [Below.heap_setCell _ _ _ _ (show b ≠ (⟨g, _, none⟩ : Addr).block from hb)]
theorem pcPut_below {w0 w : World} {K g i : Nat} {x : Un × Sp} (h : Below K w0 w) (hg : K ≤ g) : Below K w0 (pcPut w g i x) := (((((h.setCell hg _).setCell hg _).setCell hg _).setCell hg _).setCell hg _)
theorem pcPut_size {w : World} {g i : Nat} {x : Un × Sp} : (pcPut w g i x).heap.size = w.heap.size := by simp [pcPut]
theorem pc_info : (Tryz.prog.info? 73).map (fun i => (i.zero, i.size, i.bytes)) = some (some (.agg #[.int .i64 0, .int .i64 0, .int .i64 0, .int .i64 0, .int .i64 0]), 5, 40) := by kernel_rfl
abbrev pcZ : Un × Sp := (⟨0, 0, 0⟩, ⟨0, 0⟩)
theorem pc_flat (n : Nat) : (List.replicate n pcZ).flatMap pcC = List.replicate (n * 5) (Value.int .i64 0) := by
  induction n with
  | zero => rfl
  | succ n ih =>
    rw [List.replicate_succ, List.flatMap_cons, ih, show (n + 1) * 5 = n * 5 + 1 + 1 + 1 + 1 + 1 by omega, List.replicate_succ, List.replicate_succ, List.replicate_succ, List.replicate_succ, List.replicate_succ]
    rfl
def pcObj (n : Nat) : Obj := .cells ((List.replicate n pcZ).flatMap pcC).toArray 73
theorem PcsAt.new (w : World) (n : Nat) : PcsAt (w.alloc (pcObj n)) w.heap.size (List.replicate n pcZ) := by
  unfold PcsAt pcObj
  rw [heap_alloc_new]
theorem make_pc (n : Nat) (hn : n ≤ 100000) (w : World) : (Instr.makeSlice 52 (.int .i64 (n : Int)) (.int .i64 (n : Int))).run Tryz.prog w = .ok (.slice (some ⟨w.heap.size, 0, none⟩) n n) (w.alloc (pcObj n)) := by
  obtain ⟨i0, hi, hz0, hz1, hz2⟩ := info_parts pc_info
  have hr := run_make (P := Tryz.prog) w 52 73 i0 (.agg #[.int .i64 0, .int .i64 0, .int .i64 0, .int .i64 0, .int .i64 0]) Tryz.underlying52 hi hz0 .i64 .i64 n n (by omega) (by omega) (by rw [hz2]; omega) (by omega)
  rw [hr, hz1]
  have e : madeCells (Value.agg #[.int .i64 0, .int .i64 0, .int .i64 0, .int .i64 0, .int .i64 0]).cells (((n : Int)).toNat * 5) = ((List.replicate n pcZ).flatMap pcC).toArray := by
    rw [pc_flat]
    apply Array.ext
    · simp [madeCells]
    · intro i h1 h2
      rcases (show i % 5 = 0 ∨ i % 5 = 1 ∨ i % 5 = 2 ∨ i % 5 = 3 ∨ i % 5 = 4 by omega) with h | h | h | h | h <;> simp [madeCells, Value.cells, h]
  rw [e]
  simp [pcObj]
def shC (x : Un × Int) : List Value := [.int .i64 x.1.lv, .int .i64 x.1.yr, .int .i64 x.1.ix, .int .i64 x.2]
/-- Shares that lie in a block. -/
def ShrAt (w : World) (g : Nat) (D : List (Un × Int)) : Prop := w.heap[g]? = some (.cells (D.flatMap shC).toArray 51 (0, 0))
theorem ShrAt.lt {w : World} {g : Nat} {D : List (Un × Int)} (h : ShrAt w g D) : g < w.heap.size := (Array.getElem?_eq_some_iff.1 h).1
theorem sh_get (D : List (Un × Int)) (i : Nat) (x : Un × Int) (h : D[i]? = some x) : (D.flatMap shC)[i * 4]? = some (.int .i64 x.1.lv) ∧ (D.flatMap shC)[i * 4 + 1]? = some (.int .i64 x.1.yr) ∧ (D.flatMap shC)[i * 4 + 2]? = some (.int .i64 x.1.ix) ∧ (D.flatMap shC)[i * 4 + 3]? = some (.int .i64 x.2) := by
  induction D generalizing i with
  | nil => simp at h
  | cons y l ih =>
    cases i with
    | zero => simp at h; subst h; simp [shC]
    | succ i =>
      have := ih i (by simpa using h)
      rw [show (i + 1) * 4 = i * 4 + 1 + 1 + 1 + 1 by omega]
      simpa [shC] using this
theorem sh_set (D : List (Un × Int)) (i : Nat) (x : Un × Int) (h : i < D.length) : ((((D.flatMap shC).set (i * 4) (.int .i64 x.1.lv)).set (i * 4 + 1) (.int .i64 x.1.yr)).set (i * 4 + 2) (.int .i64 x.1.ix)).set (i * 4 + 3) (.int .i64 x.2) = (D.set i x).flatMap shC := by
  induction D generalizing i with
  | nil => simp at h
  | cons y l ih =>
    cases i with
    | zero => simp [shC]
    | succ i =>
      have := ih i (by simpa using h)
      rw [show (i + 1) * 4 = i * 4 + 1 + 1 + 1 + 1 by omega]
      simpa [shC] using this
theorem ShrAt.cell {w : World} {g : Nat} {D : List (Un × Int)} (h : ShrAt w g D) {i : Nat} {x : Un × Int} (hi : D[i]? = some x) : w.cell? ⟨g, i * 4, none⟩ = some (.int .i64 x.1.lv) ∧ w.cell? ⟨g, i * 4 + 1, none⟩ = some (.int .i64 x.1.yr) ∧ w.cell? ⟨g, i * 4 + 2, none⟩ = some (.int .i64 x.1.ix) ∧ w.cell? ⟨g, i * 4 + 3, none⟩ = some (.int .i64 x.2) := by
  have := sh_get D i x hi
  simp [World.cell?, show w.heap[g]? = _ from h, this]
theorem ShrAt.frozen {w : World} {g : Nat} {D : List (Un × Int)} (h : ShrAt w g D) (k : Nat) : w.frozen? ⟨g, k, none⟩ = false := by simp [World.frozen?, show w.heap[g]? = _ from h]
theorem ShrAt.below {w w' : World} {K g : Nat} {D : List (Un × Int)} (h : ShrAt w g D) (hb : Below K w w') (hg : g < K) : ShrAt w' g D := (hb.block g hg).trans h
theorem ShrAt.call {w w' : World} {g : Nat} {D : List (Un × Int)} (h : ShrAt w g D) (hb : Below w.heap.size w w') : ShrAt w' g D := h.below hb h.lt
theorem ShrAt.far {D : List (Un × Int)} {g : Nat} {w : World} (h : ShrAt w g D) {p : Addr} (hp : g ≠ p.block) (u : Value) : ShrAt (w.setCell p u) g D := (Below.heap_setCell w p u g hp).trans h
def shPut (w : World) (g i : Nat) (x : Un × Int) : World := (((w.setCell ⟨g, i * 4, none⟩ (.int .i64 x.1.lv)).setCell ⟨g, i * 4 + 1, none⟩ (.int .i64 x.1.yr)).setCell ⟨g, i * 4 + 2, none⟩ (.int .i64 x.1.ix)).setCell ⟨g, i * 4 + 3, none⟩ (.int .i64 x.2)
theorem ShrAt.put {w : World} {g : Nat} {D : List (Un × Int)} (h : ShrAt w g D) (i : Nat) (x : Un × Int) (hi : i < D.length) : ShrAt (shPut w g i x) g (D.set i x) := by
  unfold ShrAt shPut at *
  rw [← sh_set D i x hi]
  simp [World.setCell, Array.getElem?_modify, h]
theorem shPut_far {w : World} {g i b : Nat} {x : Un × Int} (hb : b ≠ g) : (shPut w g i x).heap[b]? = w.heap[b]? := by
  unfold shPut
  simp only [Below.heap_setCell _ _ _ _ (show b ≠ (⟨g, _, none⟩ : Addr).block from hb)]
theorem shPut_below {w0 w : World} {K g i : Nat} {x : Un × Int} (h : Below K w0 w) (hg : K ≤ g) : Below K w0 (shPut w g i x) := ((((h.setCell hg _).setCell hg _).setCell hg _).setCell hg _)
theorem shPut_size {w : World} {g i : Nat} {x : Un × Int} : (shPut w g i x).heap.size = w.heap.size := by simp [shPut]
theorem sh_info : (Tryz.prog.info? 51).map (fun i => (i.zero, i.size, i.bytes)) = some (some (.agg #[.int .i64 0, .int .i64 0, .int .i64 0, .int .i64 0]), 4, 32) := by kernel_rfl
abbrev shZ : Un × Int := (⟨0, 0, 0⟩, 0)
theorem sh_flat (n : Nat) : (List.replicate n shZ).flatMap shC = List.replicate (n * 4) (Value.int .i64 0) := by
  induction n with
  | zero => rfl
  | succ n ih =>
    rw [List.replicate_succ, List.flatMap_cons, ih, show (n + 1) * 4 = n * 4 + 1 + 1 + 1 + 1 by omega, List.replicate_succ, List.replicate_succ, List.replicate_succ, List.replicate_succ]
    rfl
def shObj (n : Nat) : Obj := .cells ((List.replicate n shZ).flatMap shC).toArray 51
theorem ShrAt.new (w : World) (n : Nat) : ShrAt (w.alloc (shObj n)) w.heap.size (List.replicate n shZ) := by
  unfold ShrAt shObj
  rw [heap_alloc_new]
theorem make_sh (n : Nat) (hn : n ≤ 100000) (w : World) : (Instr.makeSlice 47 (.int .i64 (n : Int)) (.int .i64 (n : Int))).run Tryz.prog w = .ok (.slice (some ⟨w.heap.size, 0, none⟩) n n) (w.alloc (shObj n)) := by
  obtain ⟨i0, hi, hz0, hz1, hz2⟩ := info_parts sh_info
  have hr := run_make (P := Tryz.prog) w 47 51 i0 (.agg #[.int .i64 0, .int .i64 0, .int .i64 0, .int .i64 0]) Tryz.underlying47 hi hz0 .i64 .i64 n n (by omega) (by omega) (by rw [hz2]; omega) (by omega)
  rw [hr, hz1]
  have e : madeCells (Value.agg #[.int .i64 0, .int .i64 0, .int .i64 0, .int .i64 0]).cells (((n : Int)).toNat * 4) = ((List.replicate n shZ).flatMap shC).toArray := by
    rw [sh_flat]
    apply Array.ext
    · simp [madeCells]
    · intro i h1 h2
      rcases (show i % 4 = 0 ∨ i % 4 = 1 ∨ i % 4 = 2 ∨ i % 4 = 3 by omega) with h | h | h | h <;> simp [madeCells, Value.cells, h]
  rw [e]
  simp [shObj]
end Go.Proofs.YtjhhmeoibfdcmaaGreatDoor

namespace Go.Proofs.YtjhhmeoibfdcmaaGreatDoor
open Go.RowKit Qd
set_option linter.unusedSimpArgs false
set_option linter.unusedVariables false

theorem pdays_any (u : Un) (s : Sp) (w : World) (h : -100000000 ≤ s.a ∧ s.a ≤ 100000000 ∧ -100000000 ≤ s.b ∧ s.b ≤ 100000000) :
    Calls Tryz.prog 30 #[.agg #[.int .i64 u.lv, .int .i64 u.yr, .int .i64 u.ix, .int .i64 s.a, .int .i64 s.b]] w fun e w' => e = .returned (.int .i64 (s.b - s.a + 1)) ∧ Below w.heap.size w w' := by
  obtain ⟨h1, h2, h3, h4⟩ := h
  go_enter Tryz.func30, Tryz.ntmps30
  go_wp2
  go_ret
  exact ⟨rfl, by (repeat' exact bel)⟩
/-- The pieces of a span. -/
def pieceV (c : Cal) (s : Sp) (u : Un) : Un × Sp := (u, ⟨max s.a (spV c u).a, min s.b (spV c u).b⟩)
noncomputable def pcL (c : Cal) (lv : Int) (s : Sp) : List (Un × Sp) := (meetsL c lv s).map (pieceV c s)
theorem pcL_len (c : Cal) (lv : Int) (s : Sp) : (pcL c lv s).length = (meetsL c lv s).length := by simp [pcL]
theorem dayW_bd (c : Cal) (y : Int) (hA : askE c y 1601 = 0) (i : Nat) (hi : i ≤ nWk c y) : 0 ≤ dayW c y i ∧ dayW c y i ≤ 3068038 := by
  have h1 := dayW_le c y hA (Nat.zero_le i) hi
  have h2 := dayW_le c y hA hi (Nat.le_refl _)
  rw [dayW_0] at h1
  rw [dayW_end c y hA] at h2
  have := year_bd c y hA
  omega
theorem fill_at {α : Type} (z : α) (l : List α) (j : Nat) (hj : j < l.length) : (fillL z l j)[j]? = some z := by
  have h1 : (l.take j).length = j := by rw [List.length_take]; omega
  unfold fillL
  rw [List.getElem?_append_right (by omega), h1, Nat.sub_self, List.getElem?_replicate, if_pos (by omega)]
def PkSt (L : Nat) (w1 : World) (s8 s9 : Value) (wx : World) : Prop := ∃ g1 g2, s8 = .slice (some ⟨g1, 0, none⟩) L L ∧ s9 = .slice (some ⟨g2, 0, none⟩) L L ∧ g1 ≠ g2 ∧ w1.heap.size ≤ g1 ∧ w1.heap.size ≤ g2 ∧ PcsAt wx g1 (List.replicate L pcZ) ∧ LongsAt wx g2 (List.replicate L 0) ∧ Below w1.heap.size w1 wx
/-- The frame of a year, in a box; the rows; all lies above K. -/
def FrBox (w : World) (F : Nat) : Prop := ∃ a b d, BlkIs w F #[a, b, d] 67
def FrF (c : Cal) (y : Int) (F : Nat) (w : World) : Prop := ∃ h1 h2 cp, BlkIs w F #[.int .i64 y, .slice (some ⟨h1, 0, none⟩) (nWk c y) cp, .slice (some ⟨h2, 0, none⟩) (nPer c y) (nPer c y)] 67 ∧ FrameAt w h1 h2 c y ∧ nWk c y ≤ cp ∧ F < h1 ∧ F < h2
theorem FrBox.call {w w' : World} {F : Nat} (h : FrBox w F) (hb : Below w.heap.size w w') : FrBox w' F := by
  obtain ⟨a, b, d, h⟩ := h
  exact ⟨a, b, d, h.call hb⟩
theorem FrF.call {c : Cal} {y : Int} {F : Nat} {w w' : World} (h : FrF c y F w) (hb : Below w.heap.size w w') : FrF c y F w' := by
  obtain ⟨h1, h2, cp, a, b, d, e, f⟩ := h
  exact ⟨h1, h2, cp, a.call hb, b.call hb, d, e, f⟩
theorem FrF.box {c : Cal} {y : Int} {F : Nat} {w : World} (h : FrF c y F w) : FrBox w F := by
  obtain ⟨h1, h2, cp, a, _⟩ := h
  exact ⟨_, _, _, a⟩
/-- Blocks below F are turned: the frame stays. -/
theorem FrF.same {c : Cal} {y : Int} {F : Nat} {w w' : World} (h : FrF c y F w) (hs : w.heap.size ≤ w'.heap.size) (hb : ∀ k, F ≤ k → w'.heap[k]? = w.heap[k]?) : FrF c y F w' := by
  obtain ⟨h1, h2, cp, a, ⟨b1, b2⟩, d, e, f⟩ := h
  refine ⟨h1, h2, cp, (hb F (Nat.le_refl _)).trans a, ⟨⟨Nat.lt_of_lt_of_le b1.1 hs, fun i hi => ?_⟩, (hb h2 (Nat.le_of_lt f)).trans b2⟩, d, e, f⟩
  have hc := b1.2 i hi
  exact ⟨(World.cell?_of_block (hb h1 (Nat.le_of_lt e))).trans hc.1, (World.cell?_of_block (hb h1 (Nat.le_of_lt e))).trans hc.2⟩
structure PcSt (c : Cal) (P : List (Un × Sp)) (D : List Int) (g1 g2 F K : Nat) (w1 w : World) : Prop where
  pcs : PcsAt w g1 P
  dys : LongsAt w g2 D
  box : FrBox w F
  ne : g1 ≠ g2
  ord : K ≤ g1 ∧ K ≤ g2 ∧ g1 < F ∧ g2 < F
  bel : Below K w1 w
theorem PcSt.call {c : Cal} {P : List (Un × Sp)} {D : List Int} {g1 g2 F K : Nat} {w1 w w' : World} (h : PcSt c P D g1 g2 F K w1 w) (hb : Below w.heap.size w w') : PcSt c P D g1 g2 F K w1 w' :=
  ⟨h.pcs.call hb, h.dys.call hb, h.box.call hb, h.ne, h.ord, h.bel.trans (hb.mono (by have := h.ord; have := h.pcs.lt; omega))⟩

def RgSt (c : Cal) (u : Un) (P : List (Un × Sp)) (D : List Int) (g1 g2 F K B : Nat) (w1 : World) (b : Value) (w : World) : Prop := ∃ nb, b = .bool nb ∧ (nb = false → FrF c u.yr F w) ∧ PcSt c P D g1 g2 F K w1 w ∧ UnAt w B u ∧ F < B ∧ B < w.heap.size
def RhSt (c : Cal) (u : Un) (P : List (Un × Sp)) (D : List Int) (g1 g2 F K B : Nat) (w1 w : World) : Prop := FrF c u.yr F w ∧ PcSt c P D g1 g2 F K w1 w ∧ UnAt w B u ∧ F < B ∧ B < w.heap.size

theorem PcSt.putP {c : Cal} {P : List (Un × Sp)} {D : List Int} {g1 g2 F K : Nat} {w1 w : World} (h : PcSt c P D g1 g2 F K w1 w) (j : Nat) (x : Un × Sp) (hj : j < P.length) : PcSt c (P.set j x) D g1 g2 F K w1 (pcPut w g1 j x) := by
  obtain ⟨p1, p2, ⟨a, b, d, p3⟩, p4, ⟨o1, o2, o3, o4⟩, p6⟩ := h
  exact ⟨p1.put j x hj, (pcPut_far (Ne.symm p4)).trans p2, ⟨a, b, d, (pcPut_far (by omega)).trans p3⟩, p4, ⟨o1, o2, o3, o4⟩, pcPut_below p6 o1⟩
theorem PcSt.putD {c : Cal} {P : List (Un × Sp)} {D : List Int} {g1 g2 F K : Nat} {w1 w : World} (h : PcSt c P D g1 g2 F K w1 w) (j : Nat) (d : Int) : PcSt c P (D.set j d) g1 g2 F K w1 (w.setCell ⟨g2, j, none⟩ (.int .i64 d)) := by
  obtain ⟨p1, p2, ⟨a, b, e, p3⟩, p4, ⟨o1, o2, o3, o4⟩, p6⟩ := h
  exact ⟨p1.far p4 _, p2.set j d, ⟨a, b, e, (Below.heap_setCell _ _ _ _ (by show F ≠ g2; omega)).trans p3⟩, p4, ⟨o1, o2, o3, o4⟩, p6.setCell o2 _⟩
theorem set3_block {w : World} {F b : Nat} {x y z : Value} (hb : b ≠ F) : (((w.setCell ⟨F, 0, none⟩ x).setCell ⟨F, 1, none⟩ y).setCell ⟨F, 2, none⟩ z).heap[b]? = w.heap[b]? := by
  rw [Below.heap_setCell _ _ _ _ hb, Below.heap_setCell _ _ _ _ hb, Below.heap_setCell _ _ _ _ hb]
theorem frame_of {w w' : World} {h1 h2 : Nat} {c : Cal} {y : Int} (h : FrameAt w h1 h2 c y) (hs : w.heap.size ≤ w'.heap.size) (e1 : w'.heap[h1]? = w.heap[h1]?) (e2 : w'.heap[h2]? = w.heap[h2]?) : FrameAt w' h1 h2 c y :=
  ⟨⟨Nat.lt_of_lt_of_le h.1.1 hs, fun i hi => ⟨(World.cell?_of_block e1).trans (h.1.2 i hi).1, (World.cell?_of_block e1).trans (h.1.2 i hi).2⟩⟩, e2.trans h.2⟩
theorem un_of {w w' : World} {B : Nat} {u : Un} (h : UnAt w B u) (e : w'.heap[B]? = w.heap[B]?) : UnAt w' B u := unAt_same (fun o => World.cell?_of_block e) h
/-- A frame stored into its box. -/
theorem PcSt.frame {c : Cal} {u : Un} {P : List (Un × Sp)} {D : List Int} {g1 g2 F K B h1 h2 cp : Nat} {w1 w : World} (h : PcSt c P D g1 g2 F K w1 w) (hu : UnAt w B u) (hFB : F < B) (hB : B < w.heap.size) (hf : FrameAt w h1 h2 c u.yr) (hcp : nWk c u.yr ≤ cp) (hh1 : F < h1) (hh2 : F < h2) :
    RhSt c u P D g1 g2 F K B w1 (((w.setCell ⟨F, 0, none⟩ (.int .i64 u.yr)).setCell ⟨F, 1, none⟩ (.slice (some ⟨h1, 0, none⟩) (nWk c u.yr) cp)).setCell ⟨F, 2, none⟩ (.slice (some ⟨h2, 0, none⟩) (nPer c u.yr) (nPer c u.yr))) := by
  obtain ⟨p1, p2, ⟨a, b, d, p3⟩, p4, ⟨o1, o2, o3, o4⟩, p6⟩ := h
  have hbx := BlkIs.set123 p3 (.int .i64 u.yr) (.slice (some ⟨h1, 0, none⟩) (nWk c u.yr) cp) (.slice (some ⟨h2, 0, none⟩) (nPer c u.yr) (nPer c u.yr))
  refine ⟨⟨h1, h2, cp, hbx, frame_of hf (by simp) (set3_block (by omega)) (set3_block (by omega)), hcp, hh1, hh2⟩, ⟨(set3_block (by omega)).trans p1, (set3_block (by omega)).trans p2, ⟨_, _, _, hbx⟩, p4, ⟨o1, o2, o3, o4⟩, ((p6.setCell (by show K ≤ F; omega) _).setCell (by show K ≤ F; omega) _).setCell (by show K ≤ F; omega) _⟩, un_of hu (set3_block (by omega)), hFB, by simpa using hB⟩

set_option maxRecDepth 100000 in
set_option maxHeartbeats 6400000 in
theorem pieces_yes (c : Cal) (lv : Int) (s : Sp) (w : World) (hn : c.name.size ≤ 1000) (h : meetsE c lv s = 0) (hl : (meetsL c lv s).length ≤ 100000) :
    Calls Tryz.prog 14 #[calV c, .int .i64 lv, spanV s] w fun e w' => (∃ g1 g2, e = .returned (.tuple #[.slice (some ⟨g1, 0, none⟩) (meetsL c lv s).length (meetsL c lv s).length, .slice (some ⟨g2, 0, none⟩) (meetsL c lv s).length (meetsL c lv s).length, .int .i64 0]) ∧ PcsAt w' g1 (pcL c lv s) ∧ LongsAt w' g2 (dysL c lv s) ∧ w.heap.size ≤ g1 ∧ w.heap.size ≤ g2 ∧ g1 ≠ g2) ∧ Below w.heap.size w w' := by
  have HM := hide (fun w => meets_yes c lv s w hn h)
  have HMM := hide (fun u hu => meets_mem (c := c) (lv := lv) (s := s) (u := u) h hu)
  have HOK := hide (meets_ok h)
  have hlv : 1 ≤ lv ∧ lv ≤ 5 := by have := HOK.out; omega
  have hsd : 0 ≤ s.a ∧ s.a < 3068037 ∧ 0 ≤ s.b ∧ s.b < 3068037 := by
    have h1 := (fd_ok HOK.out.2.2.2.2.1).2.2.2.2.1
    have h2 := (fd_ok HOK.out.2.2.2.2.2).2.2.2.2.1
    simp [isB] at h1 h2
    omega
  obtain ⟨L, hL⟩ : ∃ n, (meetsL c lv s).length = n := ⟨_, rfl⟩
  rw [hL] at HM hl ⊢
  have HL := hide hL
  have hmk1 := fun w => make_longs L hl w
  have hmk2 := fun w => make_pc L hl w
  obtain ⟨hlv1, hlv5⟩ := hlv
  obtain ⟨hs1, hs2, hs3, hs4⟩ := hsd
  clear h hL
  simp only [calV, spanV] at HM ⊢
  go_enter Tryz.func14, Tryz.ntmps14
  go_wp2_with fail
  refine (HM.out _).mono ?_
  rintro e w1 ⟨g, cap, rfl, hU, hg, hb1⟩
  have HU := hide hU
  have HB1 : Hid (Below w.heap.size w w1) := ww hb1
  have HQ1 := hide (calAt_below hb1 (by simp; omega) (calAt_alloc (calAt_new w c) (by simp) _))
  have HS1 := hide (show SpAt w1 (w.heap.size + 1) s from spAt_below hb1 (by simp) (by have := spAt_fresh (w.alloc (calObj c)) s; simpa using this))
  have hz1 : w.heap.size + 1 < w1.heap.size := by have := hb1.size; simp at this; omega
  clear hU hb1
  go_upto_region 4 with (fail)
  go_cut [11, 12] (fun s8 s9 wx => PkSt L w1 s8 s9 wx)
  case first =>
    go_region
    all_goals
      go_wp2_with fail
      go_meet
    case rel =>
      refine ⟨w1.heap.size, w1.heap.size + 1, rfl, rfl, by omega, Nat.le_refl _, by omega, ?_, ?_, by (repeat' exact bel)⟩
      · exact (PcsAt.new w1 L).call (by (repeat' exact bel))
      · have h := LongsAt.new (w1.alloc (pcObj L)) L
        rw [show (w1.alloc (pcObj L)).heap.size = w1.heap.size + 1 by simp] at h
        exact h.call ((Below.refl _ _).drew)
    case rel =>
      refine ⟨w1.heap.size + 1, w1.heap.size, rfl, rfl, by omega, by omega, Nat.le_refl _, ?_, ?_, by (repeat' exact bel)⟩
      · have h := PcsAt.new (w1.alloc (zeroObj64 L)) L
        rw [show (w1.alloc (zeroObj64 L)).heap.size = w1.heap.size + 1 by simp] at h
        exact h.call ((Below.refl _ _).drew)
      · exact (LongsAt.new w1 L).call (by (repeat' exact bel))
  case rest =>
    obtain ⟨g1, g2, rfl, rfl, hne, hg1, hg2, hP1, hD2, hb2⟩ := hcut
    have hgl1 := hP1.lt
    have hgl2 := hD2.lt
    have H0 := hide (show PcSt c (fillL pcZ (pcL c lv s) 0) (fillL 0 (dysL c lv s) 0) g1 g2 wc.heap.size w1.heap.size w1 (wc.alloc (.cells #[.int .i64 0, .slice none 0 0, .slice none 0 0] 67)) from
      ⟨by rw [fill_zero, pcL_len, HL.out]; exact hP1.call ((Below.refl _ _).alloc (Nat.le_refl _) _), by rw [fill_zero, dysL_len, HL.out]; exact hD2.call ((Below.refl _ _).alloc (Nat.le_refl _) _), ⟨_, _, _, BlkIs.new _ _ _⟩, hne, ⟨hg1, hg2, hgl1, hgl2⟩, hb2.alloc hb2.size _⟩)
    obtain ⟨F, hF⟩ : ∃ F, F = wc.heap.size := ⟨_, rfl⟩
    have hFw : w1.heap.size ≤ F := by rw [hF]; exact hb2.size
    clear hP1 hD2 hb2
    go_wp2_with fail
    rw [← hF] at H0 ⊢
    clear hF
    go_loopw [38] (fun s38 wr => ∃ j : Nat, s38 = .int .i64 j ∧ j ≤ L ∧ PcSt c (fillL pcZ (pcL c lv s) j) (fillL 0 (dysL c lv s) j) g1 g2 F w1.heap.size w1 wr ∧ Hid (∀ u, 0 < j → (meetsL c lv s)[j - 1]? = some u → FrF c u.yr F wr)) (fun s38 _ => (L + 5 - intOf s38).toNat)
    case atStart => exact ⟨0, rfl, Nat.zero_le _, H0.out, hide (fun u h => absurd h (Nat.lt_irrefl 0))⟩
    case round =>
      obtain ⟨j, rfl, hj, hS, HFR⟩ := hrel
      have HS := hide hS
      clear hS
      have hszr := HS.out.bel.size
      by_cases hlt : j < L
      · obtain ⟨u, hu⟩ : ∃ u, (meetsL c lv s)[j]? = some u := ⟨_, List.getElem?_eq_getElem (by rw [HL.out]; exact hlt)⟩
        have hug := (UnsAt.lt HU.out (by rw [HL.out]; omega)).1
        have hcell : ∀ o, wr.cell? ⟨g, o, none⟩ = w1.cell? ⟨g, o, none⟩ := fun o => HS.out.bel.cell (p := ⟨g, o, none⟩) hug
        obtain ⟨a0, a1, a2⟩ := UnsAt.cell HU.out hu
        rw [← hcell] at a0 a1 a2
        have HUM := hide (HMM.out u (List.mem_of_getElem? hu))
        have HX := hide hu
        have HCL := hide hcell
        have hugr : g < wr.heap.size := by omega
        have hi1 : (0 : Int) ≤ (j : Int) := by omega
        have hi3 : (j : Int) < (L : Int) := by omega
        have HW := hide (show PcSt c (fillL pcZ (pcL c lv s) j) (fillL 0 (dysL c lv s) j) g1 g2 F w1.heap.size w1 (wr.alloc (unObj u)) ∧ UnAt (wr.alloc (unObj u)) wr.heap.size u ∧ (∀ v, 0 < j → (meetsL c lv s)[j - 1]? = some v → FrF c v.yr F (wr.alloc (unObj u))) from ⟨HS.out.call ((Below.refl _ _).alloc (Nat.le_refl _) _), unAt_fresh wr u, fun v h1 h2 => (HFR.out v h1 h2).call ((Below.refl _ _).alloc (Nat.le_refl _) _)⟩)
        clear hcell hu
        have HDR := hide (fun n => below_drewN (Below.refl (wr.alloc (unObj u)).heap.size (wr.alloc (unObj u))) n)
        have hFB : F < wr.heap.size := by obtain ⟨_, _, _, hb⟩ := HS.out.box; exact hb.lt
        go_upto_region 9 with (fail)
        go_cut [55] (fun b wx => RgSt c u (fillL pcZ (pcL c lv s) j) (fillL 0 (dysL c lv s) j) g1 g2 F w1.heap.size wr.heap.size w1 b wx)
        case first =>
          rcases Nat.eq_zero_or_pos j with rfl | hj0
          · go_quiet (fail)
            go_wp2_with fail
            go_meet
            case rel => exact ⟨true, rfl, by simp, HW.out.1.call (HDR.out _), unAt_below (HDR.out _) (by simp) HW.out.2.1, hFB, by simp⟩
          · obtain ⟨i, rfl⟩ : ∃ i, j = i + 1 := ⟨j - 1, by omega⟩
            obtain ⟨v, hv⟩ : ∃ v, (meetsL c lv s)[i]? = some v := ⟨_, List.getElem?_eq_getElem (by rw [HL.out]; omega)⟩
            obtain ⟨b0, b1, b2⟩ := UnsAt.cell HU.out hv
            rw [← HCL.out] at b1
            have hz : ((i : Int) + 1 == 0) = false := by rw [beq_eq_false_iff_ne]; omega
            have hii : (0 : Int) ≤ (i : Int) := by omega
            have hii3 : (i : Int) < (L : Int) := by omega
            have q7 : IntKind.i64.wrap (i : Int) = (i : Int) := by simp [IntKind.wrap, IntKind.bits, IntKind.signed]; omega
            have q8 : IntKind.i64.wrap ((i : Int) + 1 - 1) = (i : Int) := by simp [IntKind.wrap, IntKind.bits, IntKind.signed]; omega
            have q9 : (i : Int) + 1 - 1 = (i : Int) := by omega
            have HFV := hide (HW.out.2.2 v (by omega) hv)
            clear b0 b2 hv
            by_cases hy : u.yr = v.yr
            · have hyb : (u.yr != v.yr) = false := by simp [hy]
              have HY := hide hy
              clear hy
              go_quiet (fail)
              go_wp2_with fail
              go_meet
              case rel => exact ⟨false, rfl, fun _ => by simpa only [unObj, HY.out] using HFV.out.call (HDR.out nq), HW.out.1.call (HDR.out _), unAt_below (HDR.out _) (by simp) HW.out.2.1, hFB, by simp⟩
            · have hyb : (u.yr != v.yr) = true := by simp [hy]
              go_quiet (fail)
              go_wp2_with fail
              go_meet
              case rel => exact ⟨true, rfl, by simp, HW.out.1.call (HDR.out _), unAt_below (HDR.out _) (by simp) HW.out.2.1, hFB, by simp⟩
        case rest =>
          obtain ⟨nb, rfl, hnf, hpc, hub, hFB2, hBl⟩ := hcut
          have HN := hide (And.intro hnf (And.intro hpc (And.intro hub (And.intro hFB2 hBl))))
          obtain ⟨w4, hw4⟩ : ∃ w4, w4 = wc := ⟨_, rfl⟩
          obtain ⟨B, hB⟩ : ∃ B, B = wr.heap.size := ⟨_, rfl⟩
          rw [← hw4] at HN ⊢
          rw [← hB] at HN ⊢
          have HKK := hide (And.intro hnf (And.intro hpc hub))
          clear hw4 hnf hpc hub HW HDR HS HFR a0 a1 a2 hB HCL HKK hFB hugr hFB2 hBl
          go_upto_if 55 with (fail)
          go_cut [] (fun wx => RhSt c u (fillL pcZ (pcL c lv s) j) (fillL 0 (dysL c lv s) j) g1 g2 F w1.heap.size B w1 wx)
          case first =>
            cases nb
            · have HFF := hide (HN.out.1 (by simp))
              go_wp2_with fail
              go_meet
              case rel => exact ⟨HFF.out, HN.out.2.1, HN.out.2.2⟩
            · have HMK := hide (fun w => make_yes c lv u.yr w hn (by have h1 := un_lv HUM.out.1; rw [← HUM.out.2]; exact h1.1))
              have hBel := HN.out.2.1.bel
              obtain ⟨q0, q1, q2, q3, q4, q5, q6, q7, q8, q9, q10, q11, q12, q13⟩ := calAt_below hBel (by omega) HQ1.out
              obtain ⟨u0, u1, u2⟩ := HN.out.2.2.1
              have hB1 := HN.out.2.2.2.2
              go_wp2_with fail
              refine (HMK.out _).mono ?_
              rintro e w5 ⟨h1, cp, h2, hh1, hh2, rfl, hc1, hc2, hFr, hb5⟩
              have HP5 := hide (HN.out.2.1.call hb5)
              have HU5 := hide (unAt_below hb5 hB1 HN.out.2.2.1)
              obtain ⟨ka, kb, kd, hbx⟩ := HP5.out.box
              have k0 := hbx.cell 0
              have k1 := hbx.cell 1
              have k2 := hbx.cell 2
              have k3 := hbx.frozen 0
              have k4 := hbx.frozen 1
              have k5 := hbx.frozen 2
              have hF4 := HN.out.2.2.2.1
              have HF5 := hide (HP5.out.frame HU5.out hF4 (Nat.lt_of_lt_of_le hB1 hb5.size) hFr hc1 (by omega) (by omega))
              clear hb5 hbx hFr hh1 hh2 hBel u0 u1 u2
              clear q0 q1 q2 q3 q4 q5 q6 q7 q8 q9 q10 q11 q12 q13
              simp at k0 k1 k2
              go_wp2_with fail
              go_meet
              case rel => exact HF5.out
          case rest =>
            obtain ⟨hff, hpc, hub, hFB, hBl⟩ := hcut
            obtain ⟨h1, h2, cp, hbx, hfr, hcp, f1, f2⟩ := hff
            obtain ⟨w6, hw6⟩ : ∃ w6, w6 = wc := ⟨_, rfl⟩
            rw [← hw6] at hbx hfr hpc hub hBl ⊢
            clear hw6 HN
            obtain ⟨hf, l1, l5, hA, hx, hi⟩ := un_lv HUM.out.1
            have hab := cutAB HUM.out.1
            have hsp := sp_get HUM.out.1
            obtain ⟨A, hAA⟩ : ∃ A, cutA c u = A := ⟨_, rfl⟩
            obtain ⟨Z, hZZ⟩ : ∃ Z, cutB c u = Z + 1 := ⟨cutB c u - 1, by omega⟩
            have HWK := hide (fun w hI => fweeks_yes c u.yr u w cp h1 h2 l1 l5 hA hI (uI u) hx hi)
            rw [show cutN c u.yr u.lv (uI u) = A from hAA, show cutN c u.yr u.lv (uI u + 1) = Z + 1 from hZZ] at HWK
            rw [hAA, hZZ] at hab hsp
            have HSN := hide (fun w hF => fspan_any c u.yr w cp h1 h2 hA hcp hF A Z (by omega) (by omega))
            rw [← hsp] at HSN
            obtain ⟨t, ht⟩ : ∃ t, spV c u = t := ⟨_, rfl⟩
            rw [ht] at HSN
            have htb : -100000000 ≤ t.a ∧ t.a ≤ 100000000 ∧ -100000000 ≤ t.b ∧ t.b ≤ 100000000 := by
              have h1 := dayW_bd c u.yr hA A (by omega)
              have h2 := dayW_bd c u.yr hA (Z + 1) (by omega)
              rw [← ht, hsp]
              simp only
              omega
            obtain ⟨ht1, ht2, ht3, ht4⟩ := htb
            have HTT := hide ht
            have HCP := hide (And.intro hcp (And.intro f1 f2))
            have HFR := hide hfr
            have HPC := hide hpc
            have HUB := hide hub
            have HBX := hide hbx
            have k0 := hbx.cell 0
            have k1 := hbx.cell 1
            have k2 := hbx.cell 2
            obtain ⟨u0, u1, u2⟩ := hub
            simp at k0 k1 k2
            simp only [yearV, unitV, spanV] at HWK HSN
            clear hf l1 l5 hA hx hi hab hsp hAA hZZ ht hfr hpc hbx hcp
            go_wp2_with fail
            refine (HWK.out _ HFR.out.2).mono ?_
            rintro e w7 ⟨rfl, hb7⟩
            have HFR7 := hide (HFR.out.call hb7)
            have HPC7 := hide (HPC.out.call hb7)
            have HUB7 := hide (unAt_below hb7 hBl HUB.out)
            have HBX7 := hide (HBX.out.call hb7)
            have hBl7 : B < w7.heap.size := Nat.lt_of_lt_of_le hBl hb7.size
            clear hb7 k0 k1 k2 u0 u1 u2 HFR HPC HUB
            have k0 := HBX7.out.cell 0
            have k1 := HBX7.out.cell 1
            have k2 := HBX7.out.cell 2
            simp at k0 k1 k2
            go_wp2_with fail
            refine (HSN.out _ HFR7.out).mono ?_
            rintro e w8 ⟨rfl, hb8⟩
            have HPC8 := hide (HPC7.out.call hb8)
            have HUB8 := hide (unAt_below hb8 hBl7 HUB7.out)
            have HBX8 := hide (HBX7.out.call hb8)
            have HFR8 := hide (HFR7.out.call hb8)
            have hBl8 : B < w8.heap.size := Nat.lt_of_lt_of_le hBl7 hb8.size
            clear hb8 k0 k1 k2 HFR7 HPC7 HUB7 HBX7 hBl7
            have hplen : j < (pcL c lv s).length := by rw [pcL_len, HL.out]; exact hlt
            have hdlen : j < (dysL c lv s).length := by rw [dysL_len, HL.out]; exact hlt
            obtain ⟨k0, k1, k2, k3, k4⟩ := HPC8.out.pcs.cell (fill_at pcZ (pcL c lv s) j hplen)
            have n0 := HPC8.out.pcs.frozen (j * 5)
            have n1 := HPC8.out.pcs.frozen (j * 5 + 1)
            have n2 := HPC8.out.pcs.frozen (j * 5 + 2)
            have n3 := HPC8.out.pcs.frozen (j * 5 + 3)
            have n4 := HPC8.out.pcs.frozen (j * 5 + 4)
            simp only at k0 k1 k2 k3 k4
            obtain ⟨u0, u1, u2⟩ := HUB8.out
            obtain ⟨p0, p1⟩ := spAt_below HPC8.out.bel (by omega) HS1.out
            have hg1l := HPC8.out.pcs.lt
            have hg2l := HPC8.out.dys.lt
            have hszB : w.heap.size + 1 < w8.heap.size := by have := HPC8.out.bel.size; omega
            obtain ⟨X, hX⟩ : ∃ X, (if s.a < t.a then t.a else s.a) = X := ⟨_, rfl⟩
            obtain ⟨Y, hY⟩ : ∃ Y, (if t.b < s.b then t.b else s.b) = Y := ⟨_, rfl⟩
            have hXY : -100000000 ≤ X ∧ X ≤ 100000000 ∧ -100000000 ≤ Y ∧ Y ≤ 100000000 := by rw [← hX, ← hY]; refine ⟨?_, ?_, ?_, ?_⟩ <;> split <;> omega
            have HXM := hide (show X = max s.a t.a ∧ Y = min s.b t.b by rw [← hX, ← hY]; constructor <;> split <;> omega)
            have hg1B : g1 ≠ B := by have := HPC8.out.ord; omega
            have hg1s : w.heap.size + 1 ≠ g1 := by have := HPC8.out.ord; omega
            clear hplen hdlen
            have hpx : (pcL c lv s)[j]? = some (u, ⟨X, Y⟩) := by
              rw [pcL, List.getElem?_map, HX.out]
              simp only [Option.map_some, pieceV, HTT.out, HXM.out.1, HXM.out.2]
            have hdx : (dysL c lv s)[j]? = some (Y - X + 1) := by
              rw [dysL_get HX.out, HTT.out, HXM.out.1, HXM.out.2]; rfl
            have HW9 := hide (show PcSt c (fillL pcZ (pcL c lv s) (j + 1)) (fillL 0 (dysL c lv s) j) g1 g2 F w1.heap.size w1 ((pcPut w8 g1 j (u, ⟨X, Y⟩)).alloc (.cells #[.int .i64 t.a, .int .i64 t.b] 26)) from by
              have h := HPC8.out.putP j (u, ⟨X, Y⟩) (by rw [fill_len _ _ _ (by rw [pcL_len, HL.out]; omega), pcL_len, HL.out]; exact hlt)
              rw [fill_set _ _ _ _ hpx] at h
              exact h.call ((Below.refl _ _).alloc (Nat.le_refl _) _))
            have HF9 := hide (show FrF c u.yr F ((pcPut w8 g1 j (u, ⟨X, Y⟩)).alloc (.cells #[.int .i64 t.a, .int .i64 t.b] 26)) from by
              have h : FrF c u.yr F w8 := ⟨h1, h2, cp, HBX8.out, HFR8.out, HCP.out.1, HCP.out.2.1, HCP.out.2.2⟩
              have ho := HPC8.out.ord
              exact (h.same (by rw [pcPut_size]; exact Nat.le_refl _) (fun k hk => pcPut_far (by omega))).call ((Below.refl _ _).alloc (Nat.le_refl _) _))
            unfold pcPut at HW9 HF9
            simp only at HW9 HF9
            have HXD := hide (And.intro hpx hdx)
            clear hpx hdx HPC8 HUB8 HBX8 HFR8
            go_upto_region 16 with (fail)
            clear k0 k1 k2 k3 k4 n0 n1 n2 n3 n4 u0 u1 u2 p0 p1 hX hY
            generalize ((((((w8.setCell ⟨g1, j * 5, none⟩ (.int .i64 u.lv)).setCell ⟨g1, j * 5 + 1, none⟩ (.int .i64 u.yr)).setCell ⟨g1, j * 5 + 2, none⟩ (.int .i64 u.ix)).setCell ⟨g1, j * 5 + 3, none⟩ (.int .i64 X)).setCell ⟨g1, j * 5 + 4, none⟩ (.int .i64 Y)).alloc (.cells #[.int .i64 t.a, .int .i64 t.b] 26)) = w9 at HW9 HF9 ⊢
            have hfx : (fillL pcZ (pcL c lv s) (j + 1))[j]? = some (u, ⟨X, Y⟩) := by
              have h1 : j < (pcL c lv s).length := by rw [pcL_len, HL.out]; exact hlt
              unfold fillL
              rw [List.getElem?_append_left (by rw [List.length_take]; omega), List.getElem?_take, if_pos (by omega)]
              exact HXD.out.1
            obtain ⟨k0, k1, k2, k3, k4⟩ := HW9.out.pcs.cell hfx
            simp only at k0 k1 k2 k3 k4
            have HPD := hide (fun w => pdays_any u ⟨X, Y⟩ w hXY)
            simp only at HPD
            clear hfx
            go_wp2_with fail
            refine (HPD.out _).mono ?_
            rintro e w10 ⟨rfl, hb10⟩
            have HW10 := hide (HW9.out.call hb10)
            have HF10 := hide (HF9.out.call hb10)
            have hdlen : j < (dysL c lv s).length := by rw [dysL_len, HL.out]; exact hlt
            have d0 := HW10.out.dys.cell (fill_at 0 (dysL c lv s) j hdlen)
            have d1 := HW10.out.dys.frozen j
            have HNX := hide (show PcSt c (fillL pcZ (pcL c lv s) (j + 1)) (fillL 0 (dysL c lv s) (j + 1)) g1 g2 F w1.heap.size w1 (w10.setCell ⟨g2, j, none⟩ (.int .i64 (Y - X + 1))) from by
              have h := HW10.out.putD j (Y - X + 1)
              rwa [fill_set _ _ _ _ HXD.out.2] at h)
            have HFX := hide (show FrF c u.yr F (w10.setCell ⟨g2, j, none⟩ (.int .i64 (Y - X + 1))) from by
              have ho := HW10.out.ord
              exact HF10.out.same (by simp) (fun k hk => Below.heap_setCell _ _ _ _ (by show k ≠ g2; omega)))
            clear hb10 k0 k1 k2 k3 k4 hdlen HW10 HF10 HW9 HF9
            go_wp2_with fail
            go_roundw
            case rel => exact ⟨j + 1, by go_num, by omega, HNX.out, hide (fun v h1 h2 => by
              rw [show j + 1 - 1 = j by omega, HX.out] at h2
              cases h2
              exact HFX.out)⟩
            case measure => simp [intOf]; omega
      · obtain rfl : j = L := by omega
        have HFI := hide (show PcSt c (pcL c lv s) (dysL c lv s) g1 g2 F w1.heap.size w1 wr from by
          have h := HS.out
          have e1 := fill_full pcZ (pcL c lv s)
          have e2 := fill_full 0 (dysL c lv s)
          rw [pcL_len, HL.out] at e1
          rw [dysL_len, HL.out] at e2
          rwa [e1, e2] at h)
        go_wp2
        all_goals first
          | (exfalso; omega)
          | exact bodyPost_ret (v := .tuple #[.slice (some ⟨g1, 0, none⟩) j j, .slice (some ⟨g2, 0, none⟩) j j, .int .i64 0]) (by simp [results, Tryz.results14, go_sem]) rfl ⟨⟨g1, g2, rfl, HFI.out.pcs, HFI.out.dys, by have := HFI.out.ord; omega, by have := HFI.out.ord; omega, HFI.out.ne⟩, HB1.out.trans (HFI.out.bel.mono (by omega))⟩
end Go.Proofs.YtjhhmeoibfdcmaaGreatDoor

namespace Go.Proofs.YtjhhmeoibfdcmaaGreatDoor
open Go.RowKit Qd
set_option linter.unusedSimpArgs false
set_option linter.unusedVariables false

set_option maxRecDepth 100000 in
set_option maxHeartbeats 1600000 in
theorem pieces_no (c : Cal) (lv : Int) (s : Sp) (w : World) (hn : c.name.size ≤ 1000) (h : ¬ meetsE c lv s = 0) :
    Calls Tryz.prog 14 #[calV c, .int .i64 lv, spanV s] w fun e w' => e = .returned (.tuple #[.slice none 0 0, .slice none 0 0, .int .i64 (meetsE c lv s)]) ∧ Below w.heap.size w w' := by
  have HM := hide (fun w => meets_any_no c lv s w hn h)
  have hE : (meetsE c lv s != 0) = true := by simpa using h
  obtain ⟨E, hEE⟩ : ∃ E, meetsE c lv s = E := ⟨_, rfl⟩
  rw [hEE] at HM hE ⊢
  clear h hEE
  simp only [calV, spanV] at HM ⊢
  go_enter Tryz.func14, Tryz.ntmps14
  go_wp2_with fail
  refine (HM.out _).mono ?_
  rintro e w1 ⟨rfl, hb1⟩
  have HB1 : Hid (Below w.heap.size w w1) := ww hb1
  clear hb1
  go_wp2
  exact bodyPost_ret (v := .tuple #[.slice none 0 0, .slice none 0 0, .int .i64 E]) (by simp [results, Tryz.results14, go_sem]) rfl ⟨rfl, HB1.out⟩
set_option maxRecDepth 100000 in
set_option maxHeartbeats 1600000 in
theorem rdays_no (c : Cal) (lv : Int) (s : Sp) (w : World) (hn : c.name.size ≤ 1000) (h : ¬ meetsE c lv s = 0) :
    Calls Tryz.prog 7 #[calV c, .int .i64 lv, spanV s] w fun e w' => e = .returned (.tuple #[.slice none 0 0, .int .i64 (meetsE c lv s)]) ∧ Below w.heap.size w w' := by
  have HM := hide (fun w => pieces_no c lv s w hn h)
  obtain ⟨E, hEE⟩ : ∃ E, meetsE c lv s = E := ⟨_, rfl⟩
  rw [hEE] at HM ⊢
  clear h hEE
  simp only [calV, spanV] at HM ⊢
  go_enter Tryz.func7, Tryz.ntmps7
  go_wp2_with fail
  refine (HM.out _).mono ?_
  rintro e w1 ⟨rfl, hb1⟩
  have HB1 : Hid (Below w.heap.size w w1) := ww hb1
  clear hb1
  go_wp2
  go_ret2
  exact ⟨rfl, HB1.out⟩
set_option maxRecDepth 100000 in
set_option maxHeartbeats 1600000 in
theorem rdays_yes (c : Cal) (lv : Int) (s : Sp) (w : World) (hn : c.name.size ≤ 1000) (h : meetsE c lv s = 0) (hl : (meetsL c lv s).length ≤ 100000) :
    Calls Tryz.prog 7 #[calV c, .int .i64 lv, spanV s] w fun e w' => (∃ g, e = .returned (.tuple #[.slice (some ⟨g, 0, none⟩) (meetsL c lv s).length (meetsL c lv s).length, .int .i64 0]) ∧ LongsAt w' g (dysL c lv s) ∧ w.heap.size ≤ g) ∧ Below w.heap.size w w' := by
  have HM := hide (fun w => pieces_yes c lv s w hn h hl)
  obtain ⟨L, hL⟩ : ∃ n, (meetsL c lv s).length = n := ⟨_, rfl⟩
  rw [hL] at HM ⊢
  clear h hL hl
  simp only [calV, spanV] at HM ⊢
  go_enter Tryz.func7, Tryz.ntmps7
  go_wp2_with fail
  refine (HM.out _).mono ?_
  rintro e w1 ⟨⟨g1, g2, rfl, hP, hD, hg1, hg2, hne⟩, hb1⟩
  have HB1 : Hid (Below w.heap.size w w1) := ww hb1
  have HD := hide (And.intro hD (show w.heap.size ≤ g2 by simp at hg2; omega))
  clear hb1 hP hD hg1 hg2 hne
  go_wp2
  go_ret2
  exact ⟨⟨g2, rfl, HD.out⟩, HB1.out⟩
set_option maxRecDepth 100000 in
set_option maxHeartbeats 1600000 in
theorem rsplit_no (c : Cal) (lv a : Int) (s : Sp) (w : World) (hn : c.name.size ≤ 1000) (h : ¬ meetsE c lv s = 0) :
    Calls Tryz.prog 13 #[calV c, .int .i64 lv, .int .i64 a, spanV s] w fun e w' => e = .returned (.tuple #[.slice none 0 0, .int .i64 (meetsE c lv s)]) ∧ Below w.heap.size w w' := by
  have HM := hide (fun w => pieces_no c lv s w hn h)
  have hE : (meetsE c lv s != 0) = true := by simpa using h
  obtain ⟨E, hEE⟩ : ∃ E, meetsE c lv s = E := ⟨_, rfl⟩
  rw [hEE] at HM hE ⊢
  clear h hEE
  simp only [calV, spanV] at HM ⊢
  go_enter Tryz.func13, Tryz.ntmps13
  go_wp2_with fail
  refine (HM.out _).mono ?_
  rintro e w1 ⟨rfl, hb1⟩
  have HB1 : Hid (Below w.heap.size w w1) := ww hb1
  clear hb1
  go_wp2
  go_ret2
  exact ⟨rfl, HB1.out⟩
/-- The parts of an amount of a span, each with its unit. -/
noncomputable def shL (c : Cal) (lv a : Int) (s : Sp) : List (Un × Int) := (meetsL c lv s).zip (outV a (dysL c lv s))
theorem shL_len (c : Cal) (lv a : Int) (s : Sp) : (shL c lv a s).length = (meetsL c lv s).length := by simp [shL, outV_len, dysL_len]
structure ShSt (P : List (Un × Sp)) (N : List Int) (S : List (Un × Int)) (g1 g2 g3 K : Nat) (w1 w : World) : Prop where
  pcs : PcsAt w g1 P
  nms : LongsAt w g2 N
  shs : ShrAt w g3 S
  ne : g3 ≠ g1 ∧ g3 ≠ g2
  ord : K ≤ g3
  bel : Below K w1 w
theorem ShSt.call {P : List (Un × Sp)} {N : List Int} {S : List (Un × Int)} {g1 g2 g3 K : Nat} {w1 w w' : World} (h : ShSt P N S g1 g2 g3 K w1 w) (hb : Below w.heap.size w w') : ShSt P N S g1 g2 g3 K w1 w' :=
  ⟨h.pcs.call hb, h.nms.call hb, h.shs.call hb, h.ne, h.ord, h.bel.trans (hb.mono (by have := h.ord; have := h.shs.lt; omega))⟩
theorem ShSt.put {P : List (Un × Sp)} {N : List Int} {S : List (Un × Int)} {g1 g2 g3 K : Nat} {w1 w : World} (h : ShSt P N S g1 g2 g3 K w1 w) (j : Nat) (x : Un × Int) (hj : j < S.length) : ShSt P N (S.set j x) g1 g2 g3 K w1 (shPut w g3 j x) :=
  ⟨(shPut_far (Ne.symm h.ne.1)).trans h.pcs, (shPut_far (Ne.symm h.ne.2)).trans h.nms, h.shs.put j x hj, h.ne, h.ord, shPut_below h.bel h.ord⟩

set_option maxRecDepth 100000 in
set_option maxHeartbeats 3200000 in
theorem rsplit_yes (c : Cal) (lv a : Int) (s : Sp) (w : World) (hn : c.name.size ≤ 1000) (h : meetsE c lv s = 0) (hl : (meetsL c lv s).length ≤ 4096) (ha : in64 a) :
    Calls Tryz.prog 13 #[calV c, .int .i64 lv, .int .i64 a, spanV s] w fun e w' => (∃ g, e = .returned (.tuple #[.slice (some ⟨g, 0, none⟩) (meetsL c lv s).length (meetsL c lv s).length, .int .i64 0]) ∧ ShrAt w' g (shL c lv a s) ∧ w.heap.size ≤ g) ∧ Below w.heap.size w w' := by
  have HM := hide (fun w => pieces_yes c lv s w hn h (by omega))
  have hdf := dys_facts h
  have hok := meets_ok h
  have hsd : s.b - s.a + 1 ≤ 3068037 := by
    have h1 := (fd_ok hok.2.2.2.2.1).2.2.2.2.1
    have h2 := (fd_ok hok.2.2.2.2.2).2.2.2.2.1
    simp [isB] at h1 h2
    omega
  have HSP := hide (fun v w (hv : Nums w v (dysL c lv s)) => ssplit_any a v (dysL c lv s) w ha hv (fun x hx => by have := hdf.2 x hx; omega) (by rw [dysL_len]; exact hl) (by rw [hdf.1]; omega) (by rw [hdf.1]; omega))
  obtain ⟨L, hL⟩ : ∃ n, (meetsL c lv s).length = n := ⟨_, rfl⟩
  rw [dysL_len] at HSP
  rw [hL] at HM HSP hl ⊢
  have HL := hide hL
  have hmk := fun w => make_sh L (by omega) w
  clear h hL hdf hok hsd
  simp only [calV, spanV] at HM ⊢
  go_enter Tryz.func13, Tryz.ntmps13
  go_wp2_with fail
  refine (HM.out _).mono ?_
  rintro e w1 ⟨⟨g1, g2, rfl, hP, hD, hg1, hg2, hne⟩, hb1⟩
  have HB1 : Hid (Below w.heap.size w w1) := ww hb1
  have HP1 := hide hP
  have HD1 := hide hD
  have hz1 : w.heap.size ≤ w1.heap.size := by have := hb1.size; simp at this; omega
  clear hb1 hP hD hg1 hg2 hne
  go_wp2_with fail
  refine (HSP.out _ _ (by have h := HD1.out.nums (cap := L); rwa [dysL_len, HL.out] at h)).mono ?_
  rintro e w2 ⟨⟨g3, rfl, hO, hg3⟩, hb2⟩
  have HP2 := hide (HP1.out.call hb2)
  have HB2 : Hid (Below w.heap.size w w2) := by have hp := HB1.out; exact ww hb2
  have hz2 := hb2.size
  have H0 := hide (show ShSt (pcL c lv s) (outV a (dysL c lv s)) (fillL shZ (shL c lv a s) 0) g1 g3 w2.heap.size w2.heap.size w2 (w2.alloc (shObj L)) from
    ⟨HP2.out.call ((Below.refl _ _).alloc (Nat.le_refl _) _), hO.call ((Below.refl _ _).alloc (Nat.le_refl _) _), by rw [fill_zero, shL_len, HL.out]; exact ShrAt.new w2 L, ⟨by have := HP2.out.lt; omega, by have := hO.lt; omega⟩, Nat.le_refl _, (Below.refl _ _).alloc (Nat.le_refl _) _⟩)
  have hgl : g1 < w2.heap.size ∧ g3 < w2.heap.size := ⟨HP2.out.lt, hO.lt⟩
  clear hb2 hO hg3
  go_wp2_with fail
  go_loopw [42] (fun s42 wr => ∃ j : Nat, s42 = .int .i64 j ∧ j ≤ L ∧ ShSt (pcL c lv s) (outV a (dysL c lv s)) (fillL shZ (shL c lv a s) j) g1 g3 w2.heap.size w2.heap.size w2 wr) (fun s42 _ => (L + 5 - intOf s42).toNat)
  case atStart => exact ⟨0, rfl, Nat.zero_le _, H0.out⟩
  case round =>
    obtain ⟨j, rfl, hj, hS⟩ := hrel
    have HS := hide hS
    clear hS
    by_cases hlt : j < L
    · obtain ⟨u, hu⟩ : ∃ u, (meetsL c lv s)[j]? = some u := ⟨_, List.getElem?_eq_getElem (by rw [HL.out]; exact hlt)⟩
      obtain ⟨n, hnn⟩ : ∃ n, (outV a (dysL c lv s))[j]? = some n := ⟨_, List.getElem?_eq_getElem (by rw [outV_len, dysL_len, HL.out]; exact hlt)⟩
      have hp : (pcL c lv s)[j]? = some (pieceV c s u) := by rw [pcL, List.getElem?_map, hu]; rfl
      have hsh : (shL c lv a s)[j]? = some (u, n) := by
        unfold shL
        rw [List.getElem?_zip_eq_some]
        exact ⟨hu, hnn⟩
      obtain ⟨k0, k1, k2, k3, k4⟩ := HS.out.pcs.cell hp
      have c0 := HS.out.nms.cell hnn
      obtain ⟨s0, s1, s2, s3⟩ := HS.out.shs.cell (fill_at shZ (shL c lv a s) j (by rw [shL_len, HL.out]; exact hlt))
      have n0 := HS.out.shs.frozen (j * 4)
      have n1 := HS.out.shs.frozen (j * 4 + 1)
      have n2 := HS.out.shs.frozen (j * 4 + 2)
      have n3 := HS.out.shs.frozen (j * 4 + 3)
      simp only [pieceV] at k0 k1 k2 k3 k4 s0 s1 s2 s3
      obtain ⟨X, hX⟩ : ∃ X, max s.a (spV c u).a = X := ⟨_, rfl⟩
      obtain ⟨Y, hY⟩ : ∃ X, min s.b (spV c u).b = X := ⟨_, rfl⟩
      rw [hX] at k3
      rw [hY] at k4
      have hsz := HS.out.bel.size
      have hg1r := HS.out.pcs.lt
      have hg3r := HS.out.nms.lt
      have hgsr := HS.out.shs.lt
      have hi1 : (0 : Int) ≤ (j : Int) := by omega
      have hi3 : (j : Int) < (L : Int) := by omega
      have hne1 := HS.out.ne.1
      have hne2 := HS.out.ne.2
      have HN := hide (show ShSt (pcL c lv s) (outV a (dysL c lv s)) (fillL shZ (shL c lv a s) (j + 1)) g1 g3 w2.heap.size w2.heap.size w2 (shPut wr w2.heap.size j (u, n)) from by
        have h := HS.out.put j (u, n) (by rw [fill_len _ _ _ (by rw [shL_len, HL.out]; omega), shL_len, HL.out]; exact hlt)
        rwa [fill_set _ _ _ _ hsh] at h)
      unfold shPut at HN
      simp only at HN
      clear hu hnn hp hsh hX hY
      go_upto_region 11 with (fail)
      go_region
      all_goals
        go_simp
        go_wp2
        go_roundw
        case rel => exact ⟨j + 1, by go_num, by omega, HN.out.call (((Below.refl _ _).alloc (Nat.le_refl _) _).drew)⟩
        case measure => simp [intOf]; omega
    · obtain rfl : j = L := by omega
      have HFI := hide (show ShrAt wr w2.heap.size (shL c lv a s) from by
        have h := HS.out.shs
        have e1 := fill_full shZ (shL c lv a s)
        rw [shL_len, HL.out] at e1
        rwa [e1] at h)
      have HBF := hide (HB2.out.trans (HS.out.bel.mono (by omega)))
      go_wp2
      all_goals first
        | (exfalso; omega)
        | (go_ret2; exact ⟨⟨_, rfl, HFI.out, by omega⟩, HBF.out⟩)
end Go.Proofs.YtjhhmeoibfdcmaaGreatDoor
