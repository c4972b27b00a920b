/- The plain law of shares: the parts of an amount. The plain law of shares: rows that are filled, parts that get one more. Package share: weights together. Package share: an amount cut. -/
import Derived.Test.YtjhhmeoibfdcmaaGreatDoorMSo
import Derived.Test.YtjhhmeoibfdcmaaGreatDoorMDv
import Derived.Test.YtjhhmeoibfdcmaaGreatDoorMWi
namespace Go.Proofs.YtjhhmeoibfdcmaaGreatDoor
open Go.RowKit
set_option linter.unusedSimpArgs false
set_option linter.unusedVariables false

/-- What an amount's parts are: the quotients, and how far each exact share lies above. -/
def qL (a n : Int) (ws : List Int) : List Int := ws.map fun x => a * x / n
def ptL (a n : Int) (ws : List Int) : List Pt := ws.mapIdx fun i x => ⟨(i : Int), a * x % n⟩
theorem qL_len (a n : Int) (ws : List Int) : (qL a n ws).length = ws.length := by simp [qL]
theorem ptL_len (a n : Int) (ws : List Int) : (ptL a n ws).length = ws.length := by simp [ptL]
theorem ptL_get {a n : Int} {ws : List Int} {i : Nat} {p : Pt} (h : (ptL a n ws)[i]? = some p) : ∃ x, ws[i]? = some x ∧ p = ⟨(i : Int), a * x % n⟩ := by
  simp only [ptL, List.getElem?_mapIdx, Option.map_eq_some_iff] at h
  obtain ⟨x, h1, h2⟩ := h
  exact ⟨x, h1, h2.symm⟩
theorem ptL_at {a n : Int} {ws : List Int} {i : Nat} {x : Int} (h : ws[i]? = some x) : (ptL a n ws)[i]? = some ⟨(i : Int), a * x % n⟩ := by simp [ptL, h]
theorem qL_at {a n : Int} {ws : List Int} {i : Nat} {x : Int} (h : ws[i]? = some x) : (qL a n ws)[i]? = some (a * x / n) := by simp [qL, h]
theorem ptL_incr (a n : Int) (ws : List Int) : Incr (ptL a n ws) := by
  refine List.pairwise_iff_getElem.2 fun i j hi hj hij => ?_
  simp only [ptL, List.getElem_mapIdx]
  omega
theorem ptL_ab (a n : Int) (ws : List Int) : (ptL a n ws).map Pt.ab = ws.map fun x => a * x % n := by
  refine List.ext_getElem? fun i => ?_
  simp [ptL, List.getElem?_mapIdx, Function.comp_def]
theorem sum_qr (a n : Int) (ws : List Int) : (qL a n ws).sum * n + ((ptL a n ws).map Pt.ab).sum = a * ws.sum := by
  rw [ptL_ab, qL]
  induction ws with
  | nil => simp
  | cons x l ih =>
    have hd := Int.ediv_mul_add_emod (a * x) n
    simp only [List.map_cons, List.sum_cons, Int.mul_add, Int.add_mul] at ih ⊢
    omega
theorem ab_bd {a n : Int} (hn : 0 < n) {ws : List Int} {p : Pt} (h : p ∈ ptL a n ws) : 0 ≤ p.ab ∧ p.ab < n ∧ 0 ≤ p.pos ∧ p.pos < ws.length := by
  obtain ⟨i, hi, rfl⟩ := List.getElem_of_mem h
  have h1 : i < ws.length := by simpa [ptL_len] using hi
  simp only [ptL, List.getElem_mapIdx]
  exact ⟨Int.emod_nonneg _ (by omega), Int.emod_lt_of_pos _ hn, by omega, by omega⟩
theorem perm_sum {l m : List Int} (h : l.Perm m) : l.sum = m.sum := by
  induction h with
  | nil => rfl
  | cons x _ ih => simp [ih]
  | swap x y l => simp only [List.sum_cons]; omega
  | trans _ _ h1 h2 => exact h1.trans h2
theorem sum_le {n : Int} {l : List Int} (h : ∀ x ∈ l, 0 ≤ x ∧ x < n) : 0 ≤ l.sum ∧ l.sum ≤ n * l.length ∧ (0 < l.length → l.sum < n * l.length) := by
  induction l with
  | nil => simp
  | cons x l ih =>
    have h1 := ih fun y hy => h y (List.mem_cons_of_mem _ hy)
    have h2 := h x (by simp)
    simp only [List.sum_cons, List.length_cons, Int.natCast_add, Int.mul_add]
    omega
/-- How many get one more. -/
def moreV (a n : Int) (ws : List Int) : Int := a - (qL a n ws).sum
theorem more_mul {a n : Int} {ws : List Int} (hs : ws.sum = n) : ((ptL a n ws).map Pt.ab).sum = n * moreV a n ws := by
  have h := sum_qr a n ws
  rw [hs] at h
  have e : n * moreV a n ws = a * n - (qL a n ws).sum * n := by
    unfold moreV; rw [Int.mul_comm, Int.sub_mul]
  omega
theorem more_bd {a n : Int} {ws : List Int} (hn : 0 < n) (hs : ws.sum = n) : 0 ≤ moreV a n ws ∧ moreV a n ws < ws.length := by
  have h := more_mul (a := a) hs
  obtain ⟨h1, h2, h3⟩ := sum_le (n := n) (l := (ptL a n ws).map Pt.ab) (by
    intro x hx
    obtain ⟨p, hp, rfl⟩ := List.mem_map.1 hx
    exact ⟨(ab_bd hn hp).1, (ab_bd hn hp).2.1⟩)
  have hl : ((ptL a n ws).map Pt.ab).length = ws.length := by simp [ptL_len]
  have h0 : 0 < ws.length := by
    cases ws with
    | nil => simp at hs; omega
    | cons => simp
  rw [hl] at h2 h3
  have h4 := h3 h0
  rw [h] at h1 h4
  exact ⟨by rcases Int.lt_or_le (moreV a n ws) 0 with hlt | hge
            · have := Int.mul_neg_of_pos_of_neg hn hlt; omega
            · exact hge, Int.lt_of_mul_lt_mul_left h4 (by omega)⟩
/-- Some get one more. -/
def bumpL (l : List Int) (T : List Pt) : List Int := T.foldl (fun l p => l.modify p.pos.toNat (· + 1)) l
theorem bumpL_nil (l : List Int) : bumpL l [] = l := rfl
theorem bumpL_snoc (l : List Int) (T : List Pt) (p : Pt) : bumpL l (T ++ [p]) = (bumpL l T).modify p.pos.toNat (· + 1) := by simp [bumpL]
theorem bumpL_len (l : List Int) (T : List Pt) : (bumpL l T).length = l.length := by
  induction T generalizing l with
  | nil => rfl
  | cons p T ih => simp only [bumpL, List.foldl_cons] at ih ⊢; rw [ih]; simp
theorem sum_modify (l : List Int) (i : Nat) (h : i < l.length) : (l.modify i (· + 1)).sum = l.sum + 1 := by
  induction l generalizing i with
  | nil => simp at h
  | cons x l ih =>
    cases i with
    | zero => simp; omega
    | succ i => simp only [List.modify_succ_cons, List.sum_cons]; rw [ih i (by simpa using h)]; omega
theorem bumpL_sum (l : List Int) (T : List Pt) (h : ∀ p ∈ T, p.pos.toNat < l.length) : (bumpL l T).sum = l.sum + T.length := by
  induction T generalizing l with
  | nil => simp [bumpL]
  | cons p T ih =>
    have h1 := ih (l.modify p.pos.toNat (· + 1)) (fun q hq => by simpa using h q (List.mem_cons_of_mem _ hq))
    simp only [bumpL, List.foldl_cons] at h1 ⊢
    rw [h1, sum_modify _ _ (h p (by simp))]
    simp; omega
theorem bumpL_get (l : List Int) (T : List Pt) (i : Nat) (x : Int) (h : l[i]? = some x) : (bumpL l T)[i]? = some (x + (T.countP fun p => p.pos.toNat == i)) := by
  induction T generalizing l x with
  | nil => simp [bumpL, h]
  | cons p T ih =>
    have h1 : (l.modify p.pos.toNat (· + 1))[i]? = some (if p.pos.toNat = i then x + 1 else x) := by
      rw [List.getElem?_modify, h]
      split <;> simp
    have h2 := ih _ _ h1
    simp only [bumpL, List.foldl_cons] at h2 ⊢
    rw [h2, List.countP_cons]
    by_cases hp : p.pos.toNat = i <;> simp [hp]; omega
/-- The parts, out of the parts in order. -/
def outL (a n : Int) (ws : List Int) (S : List Pt) : List Int := bumpL (qL a n ws) (S.take (moreV a n ws).toNat)
theorem outL_len (a n : Int) (ws : List Int) (S : List Pt) : (outL a n ws S).length = ws.length := by rw [outL, bumpL_len, qL_len]
theorem put_mem {a n : Int} {ws : List Int} {S : List Pt} (h : Put (ptL a n ws) S) {p : Pt} : p ∈ S ↔ p ∈ ptL a n ws := h.1.mem_iff
theorem outL_sum {a n : Int} {ws : List Int} {S : List Pt} (hn : 0 < n) (hs : ws.sum = n) (h : Put (ptL a n ws) S) : (outL a n ws S).sum = a := by
  have hb := more_bd (a := a) hn hs
  rw [outL, bumpL_sum]
  · have hl : S.length = ws.length := by rw [h.1.length_eq, ptL_len]
    rw [List.length_take, hl]
    unfold moreV at hb ⊢
    omega
  · intro p hp
    have h1 := ab_bd hn ((put_mem h).1 (List.mem_of_mem_take hp))
    rw [qL_len]; omega
theorem pos_inj {a n : Int} {ws : List Int} {p q : Pt} (hp : p ∈ ptL a n ws) (hq : q ∈ ptL a n ws) (h : p.pos = q.pos) : p = q := by
  obtain ⟨i, hi, rfl⟩ := List.getElem_of_mem hp
  obtain ⟨j, hj, rfl⟩ := List.getElem_of_mem hq
  simp only [ptL, List.getElem_mapIdx] at h ⊢
  have : i = j := by omega
  subst this; rfl
/-- Who gets one more, is told once, and is among the first. -/
theorem outL_get {a n : Int} {ws : List Int} {S : List Pt} (hn : 0 < n) (h : Put (ptL a n ws) S) {i : Nat} {x : Int} (hx : ws[i]? = some x) :
    ∃ e : Int, (outL a n ws S)[i]? = some (a * x / n + e) ∧ ((e = 1 ∧ (⟨(i : Int), a * x % n⟩ : Pt) ∈ S.take (moreV a n ws).toNat) ∨ (e = 0 ∧ (⟨(i : Int), a * x % n⟩ : Pt) ∉ S.take (moreV a n ws).toNat)) := by
  refine ⟨_, bumpL_get _ _ i _ (qL_at hx), ?_⟩
  have hnd : (S.take (moreV a n ws).toNat).Nodup := by
    refine List.Nodup.sublist (List.take_sublist _ _) ?_
    refine h.2.imp fun {x y} hxy => ?_
    rintro rfl
    unfold Pt.lt at hxy; omega
  have key : ∀ p ∈ S.take (moreV a n ws).toNat, (p.pos.toNat == i) = true ↔ p = ⟨(i : Int), a * x % n⟩ := by
    intro p hp
    have hm := (put_mem h).1 (List.mem_of_mem_take hp)
    have hb := ab_bd hn hm
    constructor
    · intro he
      refine pos_inj hm (List.mem_of_getElem? (ptL_at hx)) ?_
      have : p.pos.toNat = i := by simpa using he
      simp only; omega
    · rintro rfl; simp
  rw [List.countP_congr (q := fun p => p == (⟨(i : Int), a * x % n⟩ : Pt)) (fun p hp => by rw [key p hp]; simp)]
  rw [show (List.countP (fun p => p == (⟨(i : Int), a * x % n⟩ : Pt)) (S.take (moreV a n ws).toNat)) = List.count ⟨(i : Int), a * x % n⟩ (S.take (moreV a n ws).toNat) from rfl]
  by_cases hin : (⟨(i : Int), a * x % n⟩ : Pt) ∈ S.take (moreV a n ws).toNat
  · left
    rw [List.Nodup.count hnd]
    simp [hin]
  · right
    rw [List.count_eq_zero.2 hin]
    exact ⟨rfl, hin⟩
/-- Those that get one more lie above. -/
theorem take_pos {a n : Int} {ws : List Int} {S : List Pt} (hn : 0 < n) (hs : ws.sum = n) (h : Put (ptL a n ws) S) {p : Pt} (hp : p ∈ S.take (moreV a n ws).toNat) : 0 < p.ab := by
  rcases Int.lt_or_le 0 p.ab with h0 | h0
  · exact h0
  exfalso
  obtain ⟨k, hk, rfl⟩ := List.getElem_of_mem hp
  rw [List.length_take] at hk
  simp only [List.getElem_take] at h0
  have hsum : (S.map Pt.ab).sum = n * moreV a n ws := by rw [← more_mul hs]; exact perm_sum (h.1.map Pt.ab)
  have hall : ∀ q ∈ S, 0 ≤ q.ab ∧ q.ab < n := fun q hq => by have := ab_bd hn ((put_mem h).1 hq); omega
  have hsplit : (S.map Pt.ab).sum = ((S.take k).map Pt.ab).sum + ((S.drop k).map Pt.ab).sum := by rw [← List.sum_append, ← List.map_append, List.take_append_drop]
  have hz : ((S.drop k).map Pt.ab).sum ≤ 0 := by
    have hd : ∀ q ∈ S.drop k, q.ab ≤ 0 := by
      intro q hq
      rw [List.drop_eq_getElem_cons (by omega)] at hq
      rcases List.mem_cons.1 hq with rfl | hq
      · exact h0
      · have hst : Srt (S.drop k) := h.2.sublist (List.drop_sublist _ _)
        rw [List.drop_eq_getElem_cons (by omega)] at hst
        have := List.rel_of_pairwise_cons hst hq
        unfold Pt.lt at this; omega
    generalize S.drop k = l at hd ⊢
    induction l with
    | nil => simp
    | cons y l ih =>
      have h1 := ih fun q hq => hd q (List.mem_cons_of_mem _ hq)
      have h2 := hd y (by simp)
      simp only [List.map_cons, List.sum_cons]; omega
  obtain ⟨_, h2, _⟩ := sum_le (n := n) (l := (S.take k).map Pt.ab) (by
    intro x hx
    obtain ⟨q, hq, rfl⟩ := List.mem_map.1 hx
    exact hall q (List.mem_of_mem_take hq))
  have hlk : ((S.take k).map Pt.ab).length = k := by rw [List.length_map, List.length_take]; omega
  rw [hlk] at h2
  have hm : n * (moreV a n ws) ≤ n * (k : Int) := by omega
  have := Int.le_of_mul_le_mul_left hm hn
  omega
/-- Of equal parts the first one gets the most. -/
theorem outL_ties {a n : Int} {ws : List Int} {S : List Pt} (hn : 0 < n) (h : Put (ptL a n ws) S) {i j : Nat} {x u v : Int} (hij : i < j) (hi : ws[i]? = some x) (hj : ws[j]? = some x)
    (hu : (outL a n ws S)[i]? = some u) (hv : (outL a n ws S)[j]? = some v) : u = v ∨ u = v + 1 := by
  obtain ⟨e, h1, h2⟩ := outL_get hn h hi
  obtain ⟨f, k1, k2⟩ := outL_get hn h hj
  rw [h1] at hu; rw [k1] at hv
  cases hu; cases hv
  rcases h2 with ⟨rfl, h2⟩ | ⟨rfl, h2⟩ <;> rcases k2 with ⟨rfl, k2⟩ | ⟨rfl, k2⟩
  · left; rfl
  · right; omega
  · exfalso
    refine h2 ?_
    obtain ⟨k, hk, ek⟩ := List.getElem_of_mem k2
    rw [List.getElem_take] at ek
    have hkl : k < (moreV a n ws).toNat ∧ k < S.length := by rw [List.length_take] at hk; omega
    have hm : (⟨(i : Int), a * x % n⟩ : Pt) ∈ S := (put_mem h).2 (List.mem_of_getElem? (ptL_at hi))
    obtain ⟨l, hl, el⟩ := List.getElem_of_mem hm
    have hlk : l < k := by
      rcases Nat.lt_trichotomy l k with hh | hh | hh
      · exact hh
      · subst hh; rw [ek] at el; cases el; omega
      · have := List.pairwise_iff_getElem.1 h.2 k l hkl.2 hl hh
        rw [ek, el] at this
        unfold Pt.lt at this; simp only at this; omega
    rw [← el, List.mem_take_iff_getElem]
    exact ⟨l, by omega, rfl⟩
  · left; rfl
end Go.Proofs.YtjhhmeoibfdcmaaGreatDoor

namespace Go.Proofs.YtjhhmeoibfdcmaaGreatDoor
open Go.RowKit Go.Sort
set_option linter.unusedSimpArgs false
set_option linter.unusedVariables false

/-- The parts of an amount. -/
def outV (a : Int) (ws : List Int) : List Int := outL a ws.sum ws (srtP (ptL a ws.sum ws))
theorem out_put (a : Int) (ws : List Int) : Put (ptL a ws.sum ws) (srtP (ptL a ws.sum ws)) := srtP_put (ptL_incr a ws.sum ws)
theorem outV_len (a : Int) (ws : List Int) : (outV a ws).length = ws.length := outL_len _ _ _ _
theorem outV_sum {a : Int} {ws : List Int} (h : 0 < ws.sum) : (outV a ws).sum = a := outL_sum h rfl (out_put a ws)
/-- A row filled so far. -/
def fillL {α : Type} (z : α) (l : List α) (j : Nat) : List α := l.take j ++ List.replicate (l.length - j) z
theorem fill_len {α : Type} (z : α) (l : List α) (j : Nat) (h : j ≤ l.length) : (fillL z l j).length = l.length := by simp [fillL]; omega
theorem fill_zero {α : Type} (z : α) (l : List α) : fillL z l 0 = List.replicate l.length z := by simp [fillL]
theorem fill_full {α : Type} (z : α) (l : List α) : fillL z l l.length = l := by simp [fillL]
theorem fill_set {α : Type} (z : α) (l : List α) (j : Nat) (x : α) (h : l[j]? = some x) : (fillL z l j).set j x = fillL z l (j + 1) := by
  have hj := (List.getElem?_eq_some_iff.1 h).1
  have hl : (l.take j).length = j := by rw [List.length_take]; omega
  have e : List.replicate (l.length - j) z = z :: List.replicate (l.length - (j + 1)) z := by rw [show l.length - j = (l.length - (j + 1)) + 1 by omega]; rfl
  unfold fillL
  rw [List.set_append_right _ _ (by omega), hl, Nat.sub_self, e, List.set_cons_zero, List.take_add_one, h]
  simp
theorem sum_take (l : List Int) (j : Nat) (x : Int) (h : l[j]? = some x) : (l.take (j + 1)).sum = (l.take j).sum + x := by rw [List.take_add_one, h]; simp
theorem pos_sum {ws : List Int} (h : ∀ x ∈ ws, 0 ≤ x) : ∀ x ∈ ws, x ≤ ws.sum := by
  induction ws with
  | nil => simp
  | cons y l ih =>
    have h1 := ih fun x hx => h x (List.mem_cons_of_mem _ hx)
    have h0 : 0 ≤ l.sum := by
      clear h1 ih
      induction l with
      | nil => simp
      | cons z l ih =>
        have := ih fun x hx => h x (by rcases List.mem_cons.1 hx with rfl | hx <;> simp [*])
        have := h z (by simp)
        simp only [List.sum_cons]; omega
    intro x hx
    rcases List.mem_cons.1 hx with rfl | hx
    · simp only [List.sum_cons]; omega
    · have := h1 x hx; have := h y (by simp); simp only [List.sum_cons]; omega
theorem qL_in {a n : Int} {ws : List Int} (ha : in64 a) (hn : 0 < n) (h : ∀ x ∈ ws, 0 ≤ x ∧ x ≤ n) : ∀ q ∈ qL a n ws, in64 q := by
  intro q hq
  simp only [qL, List.mem_map] at hq
  obtain ⟨x, hx, rfl⟩ := hq
  exact muldiv_bd ha (h x hx).1 (h x hx).2 hn
theorem left_wd {a n : Int} {ws : List Int} (ha : in64 a) (hq : ∀ q ∈ qL a n ws, in64 q) (hl : ws.length ≤ 1000000) (j : Nat) : wideOk (a - ((qL a n ws).take j).sum) := by
  have h := sum_bd (l := (qL a n ws).take j) (fun x hx => hq x (List.mem_of_mem_take hx))
  have h2 : ((qL a n ws).take j).length ≤ ws.length := by rw [List.length_take, qL_len]; omega
  unfold wideOk; unfold in64 at ha; omega
theorem set_modify (l : List Int) (i : Nat) (x : Int) (h : l[i]? = some x) : l.set i (x + 1) = l.modify i (· + 1) := by
  refine List.ext_getElem? fun k => ?_
  rw [List.getElem?_set, List.getElem?_modify]
  have hi := (List.getElem?_eq_some_iff.1 h).1
  by_cases hk : i = k
  · subst hk
    rw [if_pos rfl, if_pos hi, h]; simp
  · rw [if_neg hk]
    cases l[k]? <;> simp [hk]
/-- Who gets one more has not got it yet. -/
theorem bump_at {a n : Int} {ws : List Int} {S : List Pt} (hn : 0 < n) (hs : ws.sum = n) (h : Put (ptL a n ws) S) {j : Nat} {p : Pt} (hj : (S.take (moreV a n ws).toNat)[j]? = some p) :
    ∃ x, ws[p.pos.toNat]? = some x ∧ 0 ≤ p.pos ∧ p.pos < ws.length ∧ (bumpL (qL a n ws) ((S.take (moreV a n ws).toNat).take j))[p.pos.toNat]? = some (a * x / n) ∧ 0 < a * x % n := by
  obtain ⟨T, hT⟩ : ∃ T, S.take (moreV a n ws).toNat = T := ⟨_, rfl⟩
  have hpos : 0 < p.ab := take_pos hn hs h (List.mem_of_getElem? hj)
  have hsub : ∀ q ∈ T, q ∈ ptL a n ws := fun q hq => (put_mem h).1 (List.mem_of_mem_take (by rw [hT]; exact hq))
  have hsrt : T.Pairwise Pt.lt := by rw [← hT]; exact h.2.sublist (List.take_sublist _ _)
  rw [hT] at hj ⊢
  have hpm := hsub p (List.mem_of_getElem? hj)
  obtain ⟨i, hi, e⟩ := List.getElem_of_mem hpm
  obtain ⟨x, hx, e2⟩ := ptL_get (a := a) (n := n) (ws := ws) (i := i) (p := p) (by rw [List.getElem?_eq_getElem hi, e])
  have hb := ab_bd hn hpm
  have hpi : p.pos.toNat = i := by rw [e2]; simp
  refine ⟨x, by rw [hpi]; exact hx, hb.2.2.1, hb.2.2.2, ?_, by rw [e2] at hpos; exact hpos⟩
  have hg := bumpL_get (qL a n ws) (T.take j) i _ (qL_at hx)
  rw [hpi, hg]
  have hc : (T.take j).countP (fun q => q.pos.toNat == i) = 0 := by
    rw [List.countP_eq_zero]
    intro q hq hqi
    have hqm := hsub q (List.mem_of_mem_take hq)
    have hqb := ab_bd hn hqm
    have hqp : q = p := pos_inj hqm hpm (by have : q.pos.toNat = i := by simpa using hqi
                                            omega)
    subst hqp
    obtain ⟨k, hk, ek⟩ := List.getElem_of_mem hq
    rw [List.length_take] at hk
    rw [List.getElem_take] at ek
    have hjl := (List.getElem?_eq_some_iff.1 hj)
    have := List.pairwise_iff_getElem.1 hsrt k j (by omega) hjl.1 (by omega)
    rw [ek, hjl.2] at this
    unfold Pt.lt at this; omega
  rw [hc]; simp
theorem plus_in {a n x : Int} (ha : in64 a) (hx : 0 ≤ x) (hxn : x ≤ n) (hn : 0 < n) (hr : 0 < a * x % n) : in64 (a * x / n + 1) := by
  have hq := muldiv_bd ha hx hxn hn
  unfold in64 at *
  refine ⟨by omega, ?_⟩
  have h1 : a * x ≤ 9223372036854775807 * n := by
    rcases Int.lt_or_le a 0 with h | h
    · have := Int.mul_le_mul_of_nonneg_right (show a ≤ 0 by omega) hx; omega
    · have h2 : a * x ≤ a * n := Int.mul_le_mul_of_nonneg_left hxn h
      have h3 : a * n ≤ 9223372036854775807 * n := Int.mul_le_mul_of_nonneg_right ha.2 (by omega)
      omega
  have h2 := Int.ediv_mul_add_emod (a * x) n
  rcases Int.lt_or_le (a * x / n) 9223372036854775807 with h | h
  · omega
  · have h3 : 9223372036854775807 * n ≤ a * x / n * n := Int.mul_le_mul_of_nonneg_right h (by omega)
    omega
end Go.Proofs.YtjhhmeoibfdcmaaGreatDoor

namespace Go.Proofs.YtjhhmeoibfdcmaaGreatDoor
open Go.RowKit Go.Sort
set_option linter.unusedSimpArgs false
set_option linter.unusedVariables false

set_option maxHeartbeats 800000 in
theorem neg_any (a : Int) (w : World) : Calls Tryz.prog 53 #[.int .i64 a] w fun e w' => e = .returned (.bool (decide (a < 0))) ∧ w = w' := by
  go_enter Tryz.func53, Tryz.ntmps53
  go_wp2
  go_ret
  exact ⟨rfl, rfl⟩
abbrev negF : Value := .func (.func 53) #[] #[]
set_option maxRecDepth 100000 in
set_option maxHeartbeats 1600000 in
theorem index_no (v : Value) (l : List Int) (w : World) (hv : Nums w v l) (hl : ∀ x ∈ l, 0 ≤ x) (hn : l.length ≤ 1000000) :
    Calls Tryz.prog 82 #[v, negF] w fun e w' => e = .returned (.int .i64 (-1)) ∧ Below w.heap.size w w' := by
  obtain ⟨ad, cap, rfl, hc⟩ := hv
  have HC := hide hc
  have HL := hide hl
  clear hc hl
  go_enter Tryz.func82, Tryz.ntmps82
  go_wp2_with fail
  go_loopw [8] (fun s wr => ∃ j : Nat, s = .int .i64 j ∧ j ≤ l.length ∧ Below w.heap.size w wr) (fun s _ => (l.length + 5 - intOf s).toNat)
  case atStart => exact ⟨0, rfl, Nat.zero_le _, by (repeat' exact bel)⟩
  case round =>
    obtain ⟨j, rfl, hj, hBel⟩ := hrel
    by_cases hlt : j < l.length
    · obtain ⟨x, hx⟩ : ∃ x, l[j]? = some x := ⟨_, List.getElem?_eq_getElem hlt⟩
      obtain ⟨g, o, rfl, hg, a0⟩ := HC.out j x hx
      have hx0 := HL.out x (List.mem_of_getElem? hx)
      have ha : wr.cell? ⟨g, o + j, none⟩ = some (.int .i64 x) := by
        rw [hBel.cell (p := ⟨g, o + j, none⟩) hg]; exact a0
      have hi1 : (0 : Int) ≤ (j : Int) := by omega
      have hi3 : (j : Int) < (l.length : Int) := by omega
      have hd : decide (x < 0) = false := by simp; omega
      clear hx a0
      go_wp2_with fail
      refine (neg_any x _).mono ?_
      rintro e w2 ⟨rfl, rfl⟩
      rw [hd]
      go_wp2
      go_roundw
      case rel => exact ⟨j + 1, by go_num, by omega, by (repeat' exact bel)⟩
      case measure => simp [intOf]; omega
    · go_wp2
      all_goals first
        | (exfalso; omega)
        | (go_ret; exact ⟨rfl, by (repeat' exact bel)⟩)
set_option maxHeartbeats 1600000 in
theorem contains_no (v : Value) (l : List Int) (w : World) (hv : Nums w v l) (hl : ∀ x ∈ l, 0 ≤ x) (hn : l.length ≤ 1000000) :
    Calls Tryz.prog 52 #[v, negF] w fun e w' => e = .returned (.bool false) ∧ Below w.heap.size w w' := by
  have HC := hide (index_no v l w hv hl hn)
  obtain ⟨ad, cap, rfl, hc⟩ := hv
  clear hc hl
  go_enter Tryz.func52, Tryz.ntmps52
  go_wp2_with fail
  refine HC.out.mono ?_
  rintro e w1 ⟨rfl, hb1⟩
  have HB := hide hb1
  clear hb1
  go_wp2
  go_ret
  exact ⟨rfl, HB.out⟩
set_option maxRecDepth 100000 in
set_option maxHeartbeats 1600000 in
theorem shall_yes (v : Value) (l : List Int) (w : World) (hv : Nums w v l) (hl : ∀ x ∈ l, 0 ≤ x) (hn : l.length ≤ 4096) (h64 : ∀ x ∈ l, in64 x) (hs : in64 l.sum) (hp : 0 < l.sum) :
    Calls Tryz.prog 31 #[v] w fun e w' => e = .returned (.tuple #[.int .i64 l.sum, .int .i64 0]) ∧ Below w.heap.size w w' := by
  have HC := hide (contains_no v l w hv hl (by omega))
  have HS := hide (fun w hv => wsum_any v l w hv h64 (by omega))
  rw [(fit_yes hs).1, (fit_yes hs).2] at HS
  have HV := hide hv
  obtain ⟨ad, cap, rfl, hc⟩ := hv
  obtain ⟨S, hS⟩ : ∃ S, l.sum = S := ⟨_, rfl⟩
  rw [hS] at hp HS ⊢
  have hz : (S == 0) = false := by simp; omega
  clear hc hl h64 hs hS
  go_enter Tryz.func31, Tryz.ntmps31
  go_wp2_with fail
  all_goals first
    | (exfalso; omega)
    | skip
  refine HC.out.mono ?_
  rintro e w1 ⟨rfl, hb1⟩
  have HB1 : Hid (Below w.heap.size w w1) := ww hb1
  have HV1 := hide (HV.out.call hb1)
  have hz1 := hb1.size
  clear hb1
  go_wp2_with fail
  refine (HS.out _ HV1.out).mono ?_
  rintro e w2 ⟨rfl, hb2⟩
  have HB2 : Hid (Below w.heap.size w w2) := by have hp := HB1.out; exact ww hb2
  clear hb2
  go_wp2
  go_ret2
  exact ⟨rfl, HB2.out⟩
end Go.Proofs.YtjhhmeoibfdcmaaGreatDoor

namespace Go.Proofs.YtjhhmeoibfdcmaaGreatDoor
open Go.RowKit Go.Sort
set_option linter.unusedSimpArgs false
set_option linter.unusedVariables false

theorem part_info : (Tryz.prog.info? 101).map (fun i => (i.zero, i.size, i.bytes)) = some (some (.agg #[.int .i64 0, .int .i64 0]), 2, 16) := by kernel_rfl
def zeroPt (n : Nat) : Obj := .cells ((List.replicate n (⟨0, 0⟩ : Pt)).flatMap ptC).toArray 101
theorem flat_zero (n : Nat) : (List.replicate n (⟨0, 0⟩ : Pt)).flatMap ptC = List.replicate (n * 2) (Value.int .i64 0) := by
  induction n with
  | zero => rfl
  | succ n ih =>
    rw [List.replicate_succ, List.flatMap_cons, ih, show (n + 1) * 2 = n * 2 + 1 + 1 by omega, List.replicate_succ, List.replicate_succ]
    rfl
theorem PartsAt.new (w : World) (n : Nat) : PartsAt (w.alloc (zeroPt n)) w.heap.size (List.replicate n ⟨0, 0⟩) := by
  unfold PartsAt zeroPt
  rw [heap_alloc_new]
theorem make_parts (n : Nat) (hn : n ≤ 100000) (w : World) : (Instr.makeSlice 96 (.int .i64 (n : Int)) (.int .i64 (n : Int))).run Tryz.prog w = .ok (.slice (some ⟨w.heap.size, 0, none⟩) n n) (w.alloc (zeroPt n)) := by
  obtain ⟨i0, hi, hz0, hz1, hz2⟩ := info_parts part_info
  have hr := run_make (P := Tryz.prog) w 96 101 i0 (.agg #[.int .i64 0, .int .i64 0]) Tryz.underlying96 hi hz0 .i64 .i64 n n (by omega) (by omega) (by rw [hz2]; omega) (by omega)
  rw [hr, hz1]
  have e : madeCells (Value.agg #[.int .i64 0, .int .i64 0]).cells (((n : Int)).toNat * 2) = ((List.replicate n (⟨0, 0⟩ : Pt)).flatMap ptC).toArray := by
    rw [flat_zero]
    apply Array.ext
    · simp [madeCells]
    · intro i h1 h2
      rcases Nat.mod_two_eq_zero_or_one i with h | h <;> simp [madeCells, Value.cells, h]
  rw [e]
  simp [zeroPt]
/-- What is kept while the amount is cut: two rows, what is left. -/
def SpSt (O : List Int) (D : List Pt) (left : Int) (g1 g2 B : Nat) (w0 w : World) : Prop :=
  LongsAt w g1 O ∧ PartsAt w g2 D ∧ BlkIs w B (wideCs left) 88 ∧ (g1 ≠ g2 ∧ g1 ≠ B ∧ g2 ≠ B) ∧ (w0.heap.size ≤ g1 ∧ w0.heap.size ≤ g2 ∧ w0.heap.size ≤ B) ∧ Below w0.heap.size w0 w
theorem SpSt.call {O : List Int} {D : List Pt} {left : Int} {g1 g2 B : Nat} {w0 w w' : World} (h : SpSt O D left g1 g2 B w0 w) (hb : Below w.heap.size w w') : SpSt O D left g1 g2 B w0 w' := by
  obtain ⟨h1, h2, h3, h4, h5, h7⟩ := h
  exact ⟨h1.call hb, h2.call hb, h3.call hb, h4, h5, h7.trans (hb.mono h7.size)⟩
theorem blk_far {cs : Array Value} {t : TypeId} {B : Nat} {w : World} (h : BlkIs w B cs t) {p : Addr} (hp : B ≠ p.block) (u : Value) : BlkIs (w.setCell p u) B cs t := (Below.heap_setCell w p u B hp).trans h
theorem parts_far {D : List Pt} {g : Nat} {w : World} (h : PartsAt w g D) {p : Addr} (hp : g ≠ p.block) (u : Value) : PartsAt (w.setCell p u) g D := (Below.heap_setCell w p u g hp).trans h
theorem SpSt.put {O : List Int} {D : List Pt} {left : Int} {g1 g2 B : Nat} {w0 w : World} (h : SpSt O D left g1 g2 B w0 w) (j : Nat) (q : Int) (p : Pt) (hj : j < D.length) :
    SpSt (O.set j q) (D.set j p) left g1 g2 B w0 (((w.setCell ⟨g1, j, none⟩ (.int .i64 q)).setCell ⟨g2, j * 2, none⟩ (.int .i64 p.pos)).setCell ⟨g2, j * 2 + 1, none⟩ (.int .i64 p.ab)) := by
  obtain ⟨h1, h2, h3, ⟨n1, n2, n3⟩, h5, h7⟩ := h
  refine ⟨((h1.set j q).far n1 _).far n1 _, (parts_far h2 (Ne.symm n1) _).put j p hj, blk_far (blk_far (blk_far h3 (Ne.symm n2) _) (Ne.symm n3) _) (Ne.symm n3) _, ⟨n1, n2, n3⟩, h5, ((h7.setCell h5.1 _).setCell h5.2.1 _).setCell h5.2.1 _⟩
theorem SpSt.left {O : List Int} {D : List Pt} {left : Int} {g1 g2 B : Nat} {w0 w : World} (h : SpSt O D left g1 g2 B w0 w) (m : Int) :
    SpSt O D m g1 g2 B w0 ((w.setCell ⟨B, 0, none⟩ (.int .i64 (m / 18446744073709551616))).setCell ⟨B, 1, none⟩ (.int .u64 (m % 18446744073709551616))) := by
  obtain ⟨h1, h2, h3, ⟨n1, n2, n3⟩, h5, h7⟩ := h
  refine ⟨(h1.far n2 _).far n2 _, parts_far (parts_far h2 n3 _) n3 _, ?_, ⟨n1, n2, n3⟩, h5, (h7.setCell h5.2.2 _).setCell h5.2.2 _⟩
  unfold BlkIs at h3 ⊢
  simp [World.setCell, Array.getElem?_modify, h3]

def MkPr (L : Nat) (w1 : World) (s8 s9 : Value) (wx : World) : Prop := ∃ g1 g2, s8 = .slice (some ⟨g1, 0, none⟩) L L ∧ s9 = .slice (some ⟨g2, 0, none⟩) L L ∧ g1 ≠ g2 ∧ w1.heap.size ≤ g1 ∧ w1.heap.size ≤ g2 ∧ LongsAt wx g1 (List.replicate L 0) ∧ PartsAt wx g2 (List.replicate L ⟨0, 0⟩) ∧ Below w1.heap.size w1 wx

set_option maxRecDepth 100000 in
set_option maxHeartbeats 6400000 in
theorem ssplit_any (a : Int) (v : Value) (ws : List Int) (w : World) (ha : in64 a) (hv : Nums w v ws) (hl : ∀ x ∈ ws, 0 ≤ x) (hn : ws.length ≤ 4096) (h0 : 0 < ws.sum) (hs : ws.sum < 4294967296) :
    Calls Tryz.prog 26 #[.int .i64 a, v] w fun e w' => (∃ g, e = .returned (.tuple #[.slice (some ⟨g, 0, none⟩) ws.length ws.length, .int .i64 0]) ∧ LongsAt w' g (outV a ws) ∧ w.heap.size ≤ g) ∧ Below w.heap.size w w' := by
  have hle := pos_sum hl
  have h64 : ∀ x ∈ ws, in64 x := fun x hx => by have := hl x hx; have := hle x hx; unfold in64; omega
  have hs64 : in64 ws.sum := by unfold in64; omega
  have HALL := hide (shall_yes v ws w hv hl hn h64 hs64 h0)
  obtain ⟨n, hnn⟩ : ∃ n, ws.sum = n := ⟨_, rfl⟩
  obtain ⟨L, hL⟩ : ∃ n, ws.length = n := ⟨_, rfl⟩
  have HPL := hide (fun x (hx : x ∈ ws) => And.intro (hl x hx) (show x ≤ n by rw [← hnn]; exact hle x hx))
  have HV := hide hv
  have HA := hide ha
  have HNN := hide (And.intro hnn hL)
  rw [hnn] at h0 hs HALL
  rw [hL] at hn ⊢
  have hmk1 := fun w => make_longs L (by omega) w
  have hmk2 := fun w => make_parts L (by omega) w
  obtain ⟨ad, cap, rfl, hc⟩ := hv
  rw [hL] at HALL HV ⊢
  clear hl hle h64 hs64 ha hnn hL hc
  go_enter Tryz.func26, Tryz.ntmps26
  go_wp2_with fail
  refine HALL.out.mono ?_
  rintro e w1 ⟨rfl, hb1⟩
  have HB1 := hide hb1
  have HV1 := hide (HV.out.call hb1)
  have hz1 := hb1.size
  clear hb1
  go_upto_region 4 with (fail)
  go_cut [8, 9] (fun s8 s9 wx => MkPr L w1 s8 s9 wx)
  case first =>
    go_region
    all_goals
      go_wp2_with fail
      go_meet
    case rel =>
      refine ⟨w1.heap.size, w1.heap.size + 1, rfl, rfl, by omega, Nat.le_refl _, by omega, ?_, ?_, by (repeat' exact bel)⟩
      · exact (LongsAt.new w1 L).call (by (repeat' exact bel))
      · have h := PartsAt.new (w1.alloc (zeroObj64 L)) L
        rw [show (w1.alloc (zeroObj64 L)).heap.size = w1.heap.size + 1 by simp] at h
        exact h.drew
    case rel =>
      refine ⟨w1.heap.size + 1, w1.heap.size, rfl, rfl, by omega, by omega, Nat.le_refl _, ?_, ?_, by (repeat' exact bel)⟩
      · have h := LongsAt.new (w1.alloc (zeroPt L)) L
        rw [show (w1.alloc (zeroPt L)).heap.size = w1.heap.size + 1 by simp] at h
        exact h.call (by (repeat' exact bel))
      · exact ((PartsAt.new w1 L).call (by (repeat' exact bel))).drew
  case rest =>
    obtain ⟨g1, g2, rfl, rfl, hne, hg1, hg2, hL1, hP2, hb2⟩ := hcut
    have hq64 := qL_in HA.out h0 HPL.out
    have HOF := hide (fun w => wof_any a w HA.out)
    simp only [wideV] at HOF
    have HB2 := hide (HB1.out.trans (hb2.mono hz1))
    have HV2 := hide (HV1.out.call hb2)
    have hz2 := hb2.size
    have HR := hide (And.intro hL1 hP2)
    have hgs : g1 < wc.heap.size ∧ g2 < wc.heap.size := ⟨hL1.lt, hP2.lt⟩
    clear hL1 hP2 hb2
    go_wp2_with fail
    refine (HOF.out _).mono ?_
    rintro e w3 ⟨rfl, hb3⟩
    have HB3 := hide (HB2.out.trans (hb3.mono (by have := HB2.out.size; omega)))
    have hz3 := hb3.size
    have H0 := hide (show SpSt (fillL 0 (qL a n ws) 0) (fillL ⟨0, 0⟩ (ptL a n ws) 0) (a - ((qL a n ws).take 0).sum) g1 g2 w3.heap.size w (w3.alloc (.cells #[.int .i64 (a / 18446744073709551616), .int .u64 (a % 18446744073709551616)] 88)) from by
      have hbb : Below wc.heap.size wc (w3.alloc (.cells #[.int .i64 (a / 18446744073709551616), .int .u64 (a % 18446744073709551616)] 88)) := hb3.alloc hb3.size _
      have hB3 := HB3.out
      refine ⟨?_, ?_, ?_, ⟨hne, by omega, by omega⟩, ⟨by omega, by omega, by omega⟩, by (repeat' exact bel)⟩
      · rw [fill_zero, qL_len, HNN.out.2]; exact HR.out.1.call hbb
      · rw [fill_zero, ptL_len, HNN.out.2]; exact HR.out.2.call hbb
      · rw [List.take_zero, List.sum_nil, Int.sub_zero]; exact BlkIs.new _ _ _)
    clear hb3 HR HV2 HV1
    have hB0 : w.heap.size ≤ w3.heap.size := by have := HB3.out.size; omega
    go_wp2_with fail
    go_loopw [38] (fun s wr => ∃ j : Nat, s = .int .i64 j ∧ j ≤ L ∧ SpSt (fillL 0 (qL a n ws) j) (fillL ⟨0, 0⟩ (ptL a n ws) j) (a - ((qL a n ws).take j).sum) g1 g2 w3.heap.size w wr) (fun s _ => (L + 5 - intOf s).toNat)
    case atStart => exact ⟨0, rfl, Nat.zero_le _, H0.out⟩
    case round =>
      obtain ⟨j, rfl, hj, hS⟩ := hrel
      have HS := hide hS
      clear hS
      by_cases hlt : j < L
      · obtain ⟨x, hx⟩ : ∃ x, ws[j]? = some x := ⟨_, List.getElem?_eq_getElem (by rw [HNN.out.2]; exact hlt)⟩
        obtain ⟨hx0, hxn⟩ := HPL.out x (List.mem_of_getElem? hx)
        have hqx := qL_at (a := a) (n := n) hx
        have hpx := ptL_at (a := a) (n := n) hx
        obtain ⟨q, hq⟩ : ∃ q, a * x / n = q := ⟨_, rfl⟩
        obtain ⟨r, hr⟩ : ∃ q, a * x % n = q := ⟨_, rfl⟩
        have HMD := hide (fun w => wmd_any a x n w HA.out hx0 hxn h0 hs)
        rw [hq, hr] at HMD
        rw [hq] at hqx
        rw [hr] at hpx
        have hq1 : in64 q := hq64 q (List.mem_of_getElem? hqx)
        have hw1 := left_wd HA.out hq64 (by rw [HNN.out.2]; omega) j
        have hw2 := left_wd HA.out hq64 (by rw [HNN.out.2]; omega) (j + 1)
        have hst := sum_take _ j q hqx
        obtain ⟨lf, hlf⟩ : ∃ y, a - ((qL a n ws).take j).sum = y := ⟨_, rfl⟩
        have hlf2 : a - ((qL a n ws).take (j + 1)).sum = lf + -q := by omega
        rw [hlf] at hw1 HS
        rw [hlf2] at hw2
        have hnq : wideOk (-q) := by unfold in64 at hq1; unfold wideOk; omega
        have HOQ := hide (fun w => wof_any q w hq1)
        have HNQ := hide (fun w => wneg_ok q w (in_wd hq1) hnq)
        have HAD := hide (fun w => wadd_ok lf (-q) w hw1 hnq hw2)
        simp only [wideV] at HOQ HNQ HAD
        have HLF := hide hlf2
        have HQX := hide (And.intro hqx hpx)
        obtain ⟨gv, ov, rfl, hgv, a0⟩ : ∃ gv ov, ad = some ⟨gv, ov, none⟩ ∧ gv < wr.heap.size ∧ wr.cell? ⟨gv, ov + j, none⟩ = some (.int .i64 x) := by
          obtain ⟨ad', cap', e1, e2⟩ := HV.out
          cases e1
          obtain ⟨gv, ov, e3, e4, e5⟩ := e2 j x hx
          have hbS := HS.out.2.2.2.2.2
          exact ⟨gv, ov, e3, Nat.lt_of_lt_of_le e4 hbS.size, (hbS.cell (p := ⟨gv, ov + j, none⟩) e4).trans e5⟩
        have hi1 : (0 : Int) ≤ (j : Int) := by omega
        have hi3 : (j : Int) < (L : Int) := by omega
        clear hx hqx hpx hq hr hq1 hw1 hw2 hst hlf hlf2 hnq
        go_wp2_with fail
        refine (HMD.out _).mono ?_
        rintro e w4 ⟨rfl, hb4⟩
        have HS4 := hide (HS.out.call hb4)
        clear hb4 a0
        have hfl : (fillL 0 (qL a n ws) j)[j]? = some 0 := by
          have h1 : (List.take j (qL a n ws)).length = j := by rw [List.length_take, qL_len, HNN.out.2]; omega
          unfold fillL
          rw [List.getElem?_append_right (by omega), h1, Nat.sub_self, List.getElem?_replicate, if_pos (by rw [qL_len, HNN.out.2]; omega)]
        have hfp : (fillL ⟨0, 0⟩ (ptL a n ws) j)[j]? = some ⟨0, 0⟩ := by
          have h1 : (List.take j (ptL a n ws)).length = j := by rw [List.length_take, ptL_len, HNN.out.2]; omega
          unfold fillL
          rw [List.getElem?_append_right (by omega), h1, Nat.sub_self, List.getElem?_replicate, if_pos (by rw [ptL_len, HNN.out.2]; omega)]
        have c0 := HS4.out.1.cell hfl
        have f0 := HS4.out.1.frozen j
        obtain ⟨c1, c2⟩ := HS4.out.2.1.cell hfp
        have f1 := HS4.out.2.1.frozen (j * 2)
        have f2 := HS4.out.2.1.frozen (j * 2 + 1)
        have HNE := hide hne
        clear hfl hfp
        have HS5 := hide (show SpSt (fillL 0 (qL a n ws) (j + 1)) (fillL ⟨0, 0⟩ (ptL a n ws) (j + 1)) lf g1 g2 w3.heap.size w (((w4.setCell ⟨g1, j, none⟩ (.int .i64 q)).setCell ⟨g2, j * 2, none⟩ (.int .i64 (j : Int))).setCell ⟨g2, j * 2 + 1, none⟩ (.int .i64 r)) from by
          have h := HS4.out.put j q ⟨(j : Int), r⟩ (by rw [fill_len _ _ _ (by rw [ptL_len, HNN.out.2]; omega), ptL_len, HNN.out.2]; exact hlt)
          rw [fill_set _ _ _ _ HQX.out.1, fill_set _ _ _ _ HQX.out.2] at h
          exact h)
        go_wp2_with fail
        obtain ⟨W5, hW5⟩ : ∃ W5, (((w4.setCell ⟨g1, j, none⟩ (.int .i64 q)).setCell ⟨g2, j * 2, none⟩ (.int .i64 (j : Int))).setCell ⟨g2, j * 2 + 1, none⟩ (.int .i64 r)) = W5 := ⟨_, rfl⟩
        rw [hW5] at HS5 ⊢
        clear hW5 c0 c1 c2 f0 f1 f2
        refine (HOQ.out _).mono ?_
        rintro e w6 ⟨rfl, hb6⟩
        have HS6 := hide (HS5.out.call hb6)
        clear hb6
        go_wp2_with fail
        refine (HNQ.out _).mono ?_
        rintro e w7 ⟨rfl, hb7⟩
        have HS7 := hide (HS6.out.call hb7)
        clear hb7
        obtain ⟨⟨k0, k1⟩, k2, k3, k4⟩ := blk_two HS7.out.2.2.1
        go_wp2_with fail
        refine (HAD.out _).mono ?_
        rintro e w8 ⟨rfl, hb8⟩
        have HS8 := hide (HS7.out.call (hb8.mono (by simp) |> fun h => ((Below.refl _ _).alloc (Nat.le_refl _) _).trans h))
        clear hb8 k0 k1 k2 k3 k4
        obtain ⟨⟨k0, k1⟩, k2, k3, k4⟩ := blk_two HS8.out.2.2.1
        have HS9 := hide (HS8.out.left (lf + -q))
        go_wp2_with fail
        go_roundw
        case rel => exact ⟨j + 1, by go_num, by omega, by rw [HLF.out]; exact HS9.out⟩
        case measure => simp [intOf]; omega
      · obtain rfl : j = L := by omega
        obtain ⟨M, hM⟩ : ∃ M, moreV a n ws = M := ⟨_, rfl⟩
        have hMb := more_bd (a := a) h0 HNN.out.1
        rw [hM, HNN.out.2] at hMb
        have HE := hide (show SpSt (qL a n ws) (ptL a n ws) M g1 g2 w3.heap.size w wr from by
          have h := HS.out
          have e1 : fillL 0 (qL a n ws) j = qL a n ws := by have := fill_full 0 (qL a n ws); rwa [qL_len, HNN.out.2] at this
          have e2 : fillL ⟨0, 0⟩ (ptL a n ws) j = ptL a n ws := by have := fill_full (⟨0, 0⟩ : Pt) (ptL a n ws); rwa [ptL_len, HNN.out.2] at this
          have e3 : (qL a n ws).take j = qL a n ws := List.take_of_length_le (by rw [qL_len, HNN.out.2]; omega)
          rw [e1, e2, e3] at h
          unfold moreV at hM
          rw [hM] at h
          exact h)
        obtain ⟨hM0, hM1⟩ := hMb
        have hM64 : in64 M := by unfold in64; omega
        have HFI := hide (fun w => wfit_any M w (in_wd hM64))
        rw [(fit_yes hM64).1, (fit_yes hM64).2] at HFI
        simp only [wideV] at HFI
        have HMM := hide hM
        obtain ⟨m, rfl⟩ := Int.eq_ofNat_of_zero_le hM0
        obtain ⟨⟨k0, k1⟩, k2, k3, k4⟩ := blk_two HE.out.2.2.1
        clear hM64 hM hq64
        go_wp2_with fail
        refine (HFI.out _).mono ?_
        rintro e w4 ⟨rfl, hb4⟩
        have HE4 := hide (HE.out.call hb4)
        clear hb4 k0 k1 k2 k3 k4
        go_wp2_with fail
        refine (sort_any g2 j j (ptL a n ws) w4 (ptL_incr a n ws) HE4.out.2.1 (by rw [ptL_len, HNN.out.2]) (by omega)).mono ?_
        rintro e w5 ⟨rfl, hp5, ho5⟩
        have HE5 := hide (show LongsAt w5 g1 (bumpL (qL a n ws) (((srtP (ptL a n ws)).take m).take 0)) ∧ PartsAt w5 g2 (srtP (ptL a n ws)) ∧ Below w.heap.size w w5 from
          ⟨by rw [List.take_zero, bumpL_nil]; exact (ho5.block g1 HE4.out.1.lt hne).trans HE4.out.1, hp5, HE4.out.2.2.2.2.2.trans (ho5.below HE4.out.2.2.2.2.1.2.1 HE4.out.2.2.2.2.2.size)⟩)
        clear hp5 ho5
        have hmt : (moreV a n ws).toNat = m := by rw [HMM.out]; exact Int.toNat_natCast m
        have HBA := hide (fun (k : Nat) (p : Pt) (hk : ((srtP (ptL a n ws)).take (moreV a n ws).toNat)[k]? = some p) => bump_at (a := a) h0 HNN.out.1 (srtP_put (ptL_incr a n ws)) (j := k) (p := p) hk)
        rw [hmt] at HBA
        have HSL := hide (show (srtP (ptL a n ws)).length = j by rw [(srtP_perm _).length_eq, ptL_len, HNN.out.2])
        have HOV := hide (show outV a ws = bumpL (qL a n ws) ((srtP (ptL a n ws)).take m) by unfold outV outL; rw [HNN.out.1, hmt])
        clear hmt
        have HGG := hide HE4.out.2.2.2.2.1
        clear HE HE4 HS HFI HMM
        go_wp2_with fail
        go_loopw [100] (fun s wr => ∃ k : Nat, s = .int .i64 k ∧ k ≤ m ∧ LongsAt wr g1 (bumpL (qL a n ws) (((srtP (ptL a n ws)).take m).take k)) ∧ PartsAt wr g2 (srtP (ptL a n ws)) ∧ Below w.heap.size w wr) (fun s _ => (m + 5 - intOf s).toNat)
        case atStart => exact ⟨0, rfl, Nat.zero_le _, HE5.out⟩
        case round =>
          obtain ⟨k, rfl, hk, hL6, hP6, hB6⟩ := hrel
          have HE6 := hide (And.intro hL6 (And.intro hP6 hB6))
          clear hL6 hP6 hB6
          by_cases hlt : k < m
          · obtain ⟨p, hp⟩ : ∃ p, (srtP (ptL a n ws))[k]? = some p := ⟨_, List.getElem?_eq_getElem (by rw [HSL.out]; omega)⟩
            have hpT : ((srtP (ptL a n ws)).take m)[k]? = some p := by rw [List.getElem?_take, if_pos hlt]; exact hp
            obtain ⟨x, hx, hp0, hpl, hg, hr⟩ := HBA.out k p hpT
            rw [HNN.out.2] at hpl
            obtain ⟨hx0, hxn⟩ := HPL.out x (List.mem_of_getElem? hx)
            have hy := plus_in HA.out hx0 hxn h0 hr
            obtain ⟨y, hyy⟩ : ∃ y, a * x / n = y := ⟨_, rfl⟩
            rw [hyy] at hg hy
            obtain ⟨c1, c2⟩ := HE6.out.2.1.cell hp
            obtain ⟨pos, ab⟩ := p
            simp only at hp0 hpl hg c1 c2
            obtain ⟨q, rfl⟩ := Int.eq_ofNat_of_zero_le hp0
            rw [show ((q : Int)).toNat = q from rfl] at hg
            have c0 := HE6.out.1.cell hg
            have f0 := HE6.out.1.frozen q
            have HN := hide (show LongsAt ((wr.setCell ⟨g1, q, none⟩ (.int .i64 (y + 1))).alloc (.cells #[.int .i64 (q : Int), .int .i64 ab] 101)) g1 (bumpL (qL a n ws) (((srtP (ptL a n ws)).take m).take (k + 1))) from by
              have h := HE6.out.1.set q (y + 1)
              rw [set_modify _ _ _ hg] at h
              rw [List.take_add_one, hpT, Option.toList_some, bumpL_snoc]
              exact h.call ((Below.refl _ _).alloc (Nat.le_refl _) _))
            have hgl := HE6.out.1.lt
            have hgl2 := HE6.out.2.1.lt
            unfold in64 at hy
            obtain ⟨hy1, hy2⟩ := hy
            have hq1 : (0 : Int) ≤ (q : Int) := by omega
            have hk1 : (0 : Int) ≤ (k : Int) := by omega
            have hk3 : (k : Int) < (m : Int) := by omega
            have hyb : -9223372036854775808 ≤ y ∧ y ≤ 9223372036854775806 := by
              have := muldiv_bd HA.out hx0 hxn h0
              unfold in64 at this
              omega
            obtain ⟨hyb1, hyb2⟩ := hyb
            clear hp hpT hx hg hr hyy
            go_wp2_with fail
            go_roundw
            case rel => exact ⟨k + 1, by go_num, by omega, HN.out, (parts_far HE6.out.2.1 (Ne.symm hne) _).call ((Below.refl _ _).alloc (Nat.le_refl _) _), (HE6.out.2.2.setCell HGG.out.1 _).alloc (by simp; exact HE6.out.2.2.size) _⟩
            case measure => simp [intOf]; omega
          · obtain rfl : k = m := by omega
            have HF := hide (show LongsAt wr g1 (outV a ws) by
              have h := HE6.out.1
              rw [List.take_of_length_le (by rw [List.length_take]; omega)] at h
              rw [HOV.out]; exact h)
            go_wp2
            all_goals first
              | (exfalso; omega)
              | (go_ret2; exact ⟨⟨g1, rfl, HF.out, HGG.out.1⟩, HE6.out.2.2⟩)
end Go.Proofs.YtjhhmeoibfdcmaaGreatDoor
