/- The plain law of shares: the parts of an amount. -/
import Derived.Test.YtamnccechaooaaaGreatSortC
namespace Go.Proofs.YtamnccechaooaaaGreat
open Go.RowKit
set_option linter.unusedSimpArgs false
set_option linter.unusedVariables false

/-- What an amount's parts are: the quotients, and how far each exact share lies above. -/
def qL (a n : Int) (ws : List Int) : List Int := ws.map fun x => a * x / n
def ptL (a n : Int) (ws : List Int) : List Pt := ws.mapIdx fun i x => ⟨(i : Int), a * x % n⟩
theorem qL_len (a n : Int) (ws : List Int) : (qL a n ws).length = ws.length := by simp [qL]
theorem ptL_len (a n : Int) (ws : List Int) : (ptL a n ws).length = ws.length := by simp [ptL]
theorem ptL_get {a n : Int} {ws : List Int} {i : Nat} {p : Pt} (h : (ptL a n ws)[i]? = some p) : ∃ x, ws[i]? = some x ∧ p = ⟨(i : Int), a * x % n⟩ := by
  simp only [ptL, List.getElem?_mapIdx, Option.map_eq_some_iff] at h
  obtain ⟨x, h1, h2⟩ := h
  exact ⟨x, h1, h2.symm⟩
theorem ptL_at {a n : Int} {ws : List Int} {i : Nat} {x : Int} (h : ws[i]? = some x) : (ptL a n ws)[i]? = some ⟨(i : Int), a * x % n⟩ := by simp [ptL, h]
theorem qL_at {a n : Int} {ws : List Int} {i : Nat} {x : Int} (h : ws[i]? = some x) : (qL a n ws)[i]? = some (a * x / n) := by simp [qL, h]
theorem ptL_incr (a n : Int) (ws : List Int) : Incr (ptL a n ws) := by
  refine List.pairwise_iff_getElem.2 fun i j hi hj hij => ?_
  simp only [ptL, List.getElem_mapIdx]
  omega
theorem ptL_ab (a n : Int) (ws : List Int) : (ptL a n ws).map Pt.ab = ws.map fun x => a * x % n := by
  refine List.ext_getElem? fun i => ?_
  simp [ptL, List.getElem?_mapIdx, Function.comp_def]
theorem sum_qr (a n : Int) (ws : List Int) : (qL a n ws).sum * n + ((ptL a n ws).map Pt.ab).sum = a * ws.sum := by
  rw [ptL_ab, qL]
  induction ws with
  | nil => simp
  | cons x l ih =>
    have hd := Int.ediv_mul_add_emod (a * x) n
    simp only [List.map_cons, List.sum_cons, Int.mul_add, Int.add_mul] at ih ⊢
    omega
theorem ab_bd {a n : Int} (hn : 0 < n) {ws : List Int} {p : Pt} (h : p ∈ ptL a n ws) : 0 ≤ p.ab ∧ p.ab < n ∧ 0 ≤ p.pos ∧ p.pos < ws.length := by
  obtain ⟨i, hi, rfl⟩ := List.getElem_of_mem h
  have h1 : i < ws.length := by simpa [ptL_len] using hi
  simp only [ptL, List.getElem_mapIdx]
  exact ⟨Int.emod_nonneg _ (by omega), Int.emod_lt_of_pos _ hn, by omega, by omega⟩
theorem perm_sum {l m : List Int} (h : l.Perm m) : l.sum = m.sum := by
  induction h with
  | nil => rfl
  | cons x _ ih => simp [ih]
  | swap x y l => simp only [List.sum_cons]; omega
  | trans _ _ h1 h2 => exact h1.trans h2
theorem sum_le {n : Int} {l : List Int} (h : ∀ x ∈ l, 0 ≤ x ∧ x < n) : 0 ≤ l.sum ∧ l.sum ≤ n * l.length ∧ (0 < l.length → l.sum < n * l.length) := by
  induction l with
  | nil => simp
  | cons x l ih =>
    have h1 := ih fun y hy => h y (List.mem_cons_of_mem _ hy)
    have h2 := h x (by simp)
    simp only [List.sum_cons, List.length_cons, Int.natCast_add, Int.mul_add]
    omega
/-- How many get one more. -/
def moreV (a n : Int) (ws : List Int) : Int := a - (qL a n ws).sum
theorem more_mul {a n : Int} {ws : List Int} (hs : ws.sum = n) : ((ptL a n ws).map Pt.ab).sum = n * moreV a n ws := by
  have h := sum_qr a n ws
  rw [hs] at h
  have e : n * moreV a n ws = a * n - (qL a n ws).sum * n := by
    unfold moreV; rw [Int.mul_comm, Int.sub_mul]
  omega
theorem more_bd {a n : Int} {ws : List Int} (hn : 0 < n) (hs : ws.sum = n) : 0 ≤ moreV a n ws ∧ moreV a n ws < ws.length := by
  have h := more_mul (a := a) hs
  obtain ⟨h1, h2, h3⟩ := sum_le (n := n) (l := (ptL a n ws).map Pt.ab) (by
    intro x hx
    obtain ⟨p, hp, rfl⟩ := List.mem_map.1 hx
    exact ⟨(ab_bd hn hp).1, (ab_bd hn hp).2.1⟩)
  have hl : ((ptL a n ws).map Pt.ab).length = ws.length := by simp [ptL_len]
  have h0 : 0 < ws.length := by
    cases ws with
    | nil => simp at hs; omega
    | cons => simp
  rw [hl] at h2 h3
  have h4 := h3 h0
  rw [h] at h1 h4
  exact ⟨by rcases Int.lt_or_le (moreV a n ws) 0 with hlt | hge
            · have := Int.mul_neg_of_pos_of_neg hn hlt; omega
            · exact hge, Int.lt_of_mul_lt_mul_left h4 (by omega)⟩
/-- Some get one more. -/
def bumpL (l : List Int) (T : List Pt) : List Int := T.foldl (fun l p => l.modify p.pos.toNat (· + 1)) l
theorem bumpL_nil (l : List Int) : bumpL l [] = l := rfl
theorem bumpL_snoc (l : List Int) (T : List Pt) (p : Pt) : bumpL l (T ++ [p]) = (bumpL l T).modify p.pos.toNat (· + 1) := by simp [bumpL]
theorem bumpL_len (l : List Int) (T : List Pt) : (bumpL l T).length = l.length := by
  induction T generalizing l with
  | nil => rfl
  | cons p T ih => simp only [bumpL, List.foldl_cons] at ih ⊢; rw [ih]; simp
theorem sum_modify (l : List Int) (i : Nat) (h : i < l.length) : (l.modify i (· + 1)).sum = l.sum + 1 := by
  induction l generalizing i with
  | nil => simp at h
  | cons x l ih =>
    cases i with
    | zero => simp; omega
    | succ i => simp only [List.modify_succ_cons, List.sum_cons]; rw [ih i (by simpa using h)]; omega
theorem bumpL_sum (l : List Int) (T : List Pt) (h : ∀ p ∈ T, p.pos.toNat < l.length) : (bumpL l T).sum = l.sum + T.length := by
  induction T generalizing l with
  | nil => simp [bumpL]
  | cons p T ih =>
    have h1 := ih (l.modify p.pos.toNat (· + 1)) (fun q hq => by simpa using h q (List.mem_cons_of_mem _ hq))
    simp only [bumpL, List.foldl_cons] at h1 ⊢
    rw [h1, sum_modify _ _ (h p (by simp))]
    simp; omega
theorem bumpL_get (l : List Int) (T : List Pt) (i : Nat) (x : Int) (h : l[i]? = some x) : (bumpL l T)[i]? = some (x + (T.countP fun p => p.pos.toNat == i)) := by
  induction T generalizing l x with
  | nil => simp [bumpL, h]
  | cons p T ih =>
    have h1 : (l.modify p.pos.toNat (· + 1))[i]? = some (if p.pos.toNat = i then x + 1 else x) := by
      rw [List.getElem?_modify, h]
      split <;> simp
    have h2 := ih _ _ h1
    simp only [bumpL, List.foldl_cons] at h2 ⊢
    rw [h2, List.countP_cons]
    by_cases hp : p.pos.toNat = i <;> simp [hp]; omega
/-- The parts, out of the parts in order. -/
def outL (a n : Int) (ws : List Int) (S : List Pt) : List Int := bumpL (qL a n ws) (S.take (moreV a n ws).toNat)
theorem outL_len (a n : Int) (ws : List Int) (S : List Pt) : (outL a n ws S).length = ws.length := by rw [outL, bumpL_len, qL_len]
theorem put_mem {a n : Int} {ws : List Int} {S : List Pt} (h : Put (ptL a n ws) S) {p : Pt} : p ∈ S ↔ p ∈ ptL a n ws := h.1.mem_iff
theorem outL_sum {a n : Int} {ws : List Int} {S : List Pt} (hn : 0 < n) (hs : ws.sum = n) (h : Put (ptL a n ws) S) : (outL a n ws S).sum = a := by
  have hb := more_bd (a := a) hn hs
  rw [outL, bumpL_sum]
  · have hl : S.length = ws.length := by rw [h.1.length_eq, ptL_len]
    rw [List.length_take, hl]
    unfold moreV at hb ⊢
    omega
  · intro p hp
    have h1 := ab_bd hn ((put_mem h).1 (List.mem_of_mem_take hp))
    rw [qL_len]; omega
theorem pos_inj {a n : Int} {ws : List Int} {p q : Pt} (hp : p ∈ ptL a n ws) (hq : q ∈ ptL a n ws) (h : p.pos = q.pos) : p = q := by
  obtain ⟨i, hi, rfl⟩ := List.getElem_of_mem hp
  obtain ⟨j, hj, rfl⟩ := List.getElem_of_mem hq
  simp only [ptL, List.getElem_mapIdx] at h ⊢
  have : i = j := by omega
  subst this; rfl
/-- Who gets one more, is told once, and is among the first. -/
theorem outL_get {a n : Int} {ws : List Int} {S : List Pt} (hn : 0 < n) (h : Put (ptL a n ws) S) {i : Nat} {x : Int} (hx : ws[i]? = some x) :
    ∃ e : Int, (outL a n ws S)[i]? = some (a * x / n + e) ∧ ((e = 1 ∧ (⟨(i : Int), a * x % n⟩ : Pt) ∈ S.take (moreV a n ws).toNat) ∨ (e = 0 ∧ (⟨(i : Int), a * x % n⟩ : Pt) ∉ S.take (moreV a n ws).toNat)) := by
  refine ⟨_, bumpL_get _ _ i _ (qL_at hx), ?_⟩
  have hnd : (S.take (moreV a n ws).toNat).Nodup := by
    refine List.Nodup.sublist (List.take_sublist _ _) ?_
    refine h.2.imp fun {x y} hxy => ?_
    rintro rfl
    unfold Pt.lt at hxy; omega
  have key : ∀ p ∈ S.take (moreV a n ws).toNat, (p.pos.toNat == i) = true ↔ p = ⟨(i : Int), a * x % n⟩ := by
    intro p hp
    have hm := (put_mem h).1 (List.mem_of_mem_take hp)
    have hb := ab_bd hn hm
    constructor
    · intro he
      refine pos_inj hm (List.mem_of_getElem? (ptL_at hx)) ?_
      have : p.pos.toNat = i := by simpa using he
      simp only; omega
    · rintro rfl; simp
  rw [List.countP_congr (q := fun p => p == (⟨(i : Int), a * x % n⟩ : Pt)) (fun p hp => by rw [key p hp]; simp)]
  rw [show (List.countP (fun p => p == (⟨(i : Int), a * x % n⟩ : Pt)) (S.take (moreV a n ws).toNat)) = List.count ⟨(i : Int), a * x % n⟩ (S.take (moreV a n ws).toNat) from rfl]
  by_cases hin : (⟨(i : Int), a * x % n⟩ : Pt) ∈ S.take (moreV a n ws).toNat
  · left
    rw [List.Nodup.count hnd]
    simp [hin]
  · right
    rw [List.count_eq_zero.2 hin]
    exact ⟨rfl, hin⟩
/-- Those that get one more lie above. -/
theorem take_pos {a n : Int} {ws : List Int} {S : List Pt} (hn : 0 < n) (hs : ws.sum = n) (h : Put (ptL a n ws) S) {p : Pt} (hp : p ∈ S.take (moreV a n ws).toNat) : 0 < p.ab := by
  rcases Int.lt_or_le 0 p.ab with h0 | h0
  · exact h0
  exfalso
  obtain ⟨k, hk, rfl⟩ := List.getElem_of_mem hp
  rw [List.length_take] at hk
  simp only [List.getElem_take] at h0
  have hsum : (S.map Pt.ab).sum = n * moreV a n ws := by rw [← more_mul hs]; exact perm_sum (h.1.map Pt.ab)
  have hall : ∀ q ∈ S, 0 ≤ q.ab ∧ q.ab < n := fun q hq => by have := ab_bd hn ((put_mem h).1 hq); omega
  have hsplit : (S.map Pt.ab).sum = ((S.take k).map Pt.ab).sum + ((S.drop k).map Pt.ab).sum := by rw [← List.sum_append, ← List.map_append, List.take_append_drop]
  have hz : ((S.drop k).map Pt.ab).sum ≤ 0 := by
    have hd : ∀ q ∈ S.drop k, q.ab ≤ 0 := by
      intro q hq
      rw [List.drop_eq_getElem_cons (by omega)] at hq
      rcases List.mem_cons.1 hq with rfl | hq
      · exact h0
      · have hst : Srt (S.drop k) := h.2.sublist (List.drop_sublist _ _)
        rw [List.drop_eq_getElem_cons (by omega)] at hst
        have := List.rel_of_pairwise_cons hst hq
        unfold Pt.lt at this; omega
    generalize S.drop k = l at hd ⊢
    induction l with
    | nil => simp
    | cons y l ih =>
      have h1 := ih fun q hq => hd q (List.mem_cons_of_mem _ hq)
      have h2 := hd y (by simp)
      simp only [List.map_cons, List.sum_cons]; omega
  obtain ⟨_, h2, _⟩ := sum_le (n := n) (l := (S.take k).map Pt.ab) (by
    intro x hx
    obtain ⟨q, hq, rfl⟩ := List.mem_map.1 hx
    exact hall q (List.mem_of_mem_take hq))
  have hlk : ((S.take k).map Pt.ab).length = k := by rw [List.length_map, List.length_take]; omega
  rw [hlk] at h2
  have hm : n * (moreV a n ws) ≤ n * (k : Int) := by omega
  have := Int.le_of_mul_le_mul_left hm hn
  omega
/-- Of equal parts the first one gets the most. -/
theorem outL_ties {a n : Int} {ws : List Int} {S : List Pt} (hn : 0 < n) (h : Put (ptL a n ws) S) {i j : Nat} {x u v : Int} (hij : i < j) (hi : ws[i]? = some x) (hj : ws[j]? = some x)
    (hu : (outL a n ws S)[i]? = some u) (hv : (outL a n ws S)[j]? = some v) : u = v ∨ u = v + 1 := by
  obtain ⟨e, h1, h2⟩ := outL_get hn h hi
  obtain ⟨f, k1, k2⟩ := outL_get hn h hj
  rw [h1] at hu; rw [k1] at hv
  cases hu; cases hv
  rcases h2 with ⟨rfl, h2⟩ | ⟨rfl, h2⟩ <;> rcases k2 with ⟨rfl, k2⟩ | ⟨rfl, k2⟩
  · left; rfl
  · right; omega
  · exfalso
    refine h2 ?_
    obtain ⟨k, hk, ek⟩ := List.getElem_of_mem k2
    rw [List.getElem_take] at ek
    have hkl : k < (moreV a n ws).toNat ∧ k < S.length := by rw [List.length_take] at hk; omega
    have hm : (⟨(i : Int), a * x % n⟩ : Pt) ∈ S := (put_mem h).2 (List.mem_of_getElem? (ptL_at hi))
    obtain ⟨l, hl, el⟩ := List.getElem_of_mem hm
    have hlk : l < k := by
      rcases Nat.lt_trichotomy l k with hh | hh | hh
      · exact hh
      · subst hh; rw [ek] at el; cases el; omega
      · have := List.pairwise_iff_getElem.1 h.2 k l hkl.2 hl hh
        rw [ek, el] at this
        unfold Pt.lt at this; simp only at this; omega
    rw [← el, List.mem_take_iff_getElem]
    exact ⟨l, by omega, rfl⟩
  · left; rfl
end Go.Proofs.YtamnccechaooaaaGreat
