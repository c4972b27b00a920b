/- Books: what lies far from a year changes nothing of it; rows of accruals that are appended to. -/
import Derived.Test.YtjhhmeoibfdcmaaGreatBookW
import Derived.Test.YtjhhmeoibfdcmaaGreatBookI
import Derived.Test.YtjhhmeoibfdcmaaGreatBookG
import Derived.Test.YtjhhmeoibfdcmaaGreatBookJ
namespace Go.Proofs.YtjhhmeoibfdcmaaGreat
open Go.RowKit Qd
set_option linter.unusedSimpArgs false
set_option linter.unusedVariables false

def nearP (s : Sp) (P : List Po) : List Po := P.filter fun p => decide (s.a ≤ p.day) && decide (p.day ≤ s.b)
def nearL (s : Sp) (A : List Ac) : List Ac := A.filter fun a => decide (s.a ≤ a.b ∧ a.a ≤ s.b)
theorem year_span {c : Cal} {u : Un} (h : unitE c u = 0) : (spV c ⟨1, u.yr, 1⟩).a ≤ (spV c u).a ∧ (spV c u).b ≤ (spV c ⟨1, u.yr, 1⟩).b := by
  obtain ⟨hf, l1, l5, hA, hx, hi⟩ := un_lv h
  have hab := cutAB h
  have hY := unit_year h
  have e0 : cutA c ⟨1, u.yr, 1⟩ = 0 := cut_0 c u.yr 1
  have e1 : cutB c ⟨1, u.yr, 1⟩ = nWk c u.yr := by
    have := cut_end c u.yr 1 (by omega) (by omega)
    have h1 : cntL c u.yr 1 = 1 := by simp [cntL]
    rw [h1] at this
    exact this
  rw [sp_get h, sp_get hY, e0, e1]
  have h1 := dayW_le c u.yr hA (i := 0) (j := cutA c u) (by omega) (by omega)
  have h2 := dayW_le c u.yr hA (i := cutB c u) (j := nWk c u.yr) (by omega) (by omega)
  exact ⟨h1, by simp only; omega⟩
theorem nearP_in {s t : Sp} {P : List Po} (h1 : s.a ≤ t.a) (h2 : t.b ≤ s.b) : inD t (nearP s P) = inD t P := by
  induction P with
  | nil => rfl
  | cons p P ih =>
    unfold nearP inD at *
    by_cases h : s.a ≤ p.day ∧ p.day ≤ s.b
    · rw [List.filter_cons_of_pos (by simpa using h), List.filter_cons, List.filter_cons]
      split <;> simp_all
    · rw [List.filter_cons_of_neg (by simpa using h), ih, List.filter_cons_of_neg (by simp; omega)]
theorem nearL_pL (c : Cal) (y : Int) (A : List Ac) : pL c y (nearL (spV c ⟨1, y, 1⟩) A) = pL c y A := by
  induction A with
  | nil => rfl
  | cons a A ih =>
    unfold nearL at *
    by_cases h : (spV c ⟨1, y, 1⟩).a ≤ a.b ∧ a.a ≤ (spV c ⟨1, y, 1⟩).b
    · rw [List.filter_cons_of_pos (by simpa using h)]
      simp only [pL, List.flatMap_cons] at ih ⊢
      rw [ih]
    · rw [List.filter_cons_of_neg (by simpa using h), ih]
      have : nearA c y a = false := decide_eq_false h
      simp [pL, this]
theorem nearL_ptE (c : Cal) (y : Int) (A : List Ac) : ptE c y (nearL (spV c ⟨1, y, 1⟩) A) = ptE c y A := by
  induction A with
  | nil => rfl
  | cons a A ih =>
    unfold nearL at *
    by_cases h : (spV c ⟨1, y, 1⟩).a ≤ a.b ∧ a.a ≤ (spV c ⟨1, y, 1⟩).b
    · rw [List.filter_cons_of_pos (by simpa using h)]
      simp only [ptE]
      rw [ih]
    · rw [List.filter_cons_of_neg (by simpa using h), ih]
      have : nearA c y a = false := decide_eq_false h
      simp [ptE, this]
theorem accsE_zero {A : List Ac} : accsE A = 0 ↔ ∀ a ∈ A, accE a = 0 := by
  induction A with
  | nil => simp [accsE]
  | cons a A ih =>
    simp only [accsE]
    by_cases h : accE a = 0
    · rw [if_pos h, ih]; simp [h]
    · rw [if_neg h]; simp [h]
theorem chk_all {P : List Po} {A : List Ac} (h : chkE P A = 0) : P.length ≤ 4096 ∧ A.length ≤ 4096 ∧ (∀ p ∈ P, isB p.day = true) ∧ ∀ a ∈ A, accE a = 0 := by
  unfold chkE at h
  split at h
  · cases h
  · rename_i h1
    split at h
    · rename_i h2
      exact ⟨by omega, by omega, fun p hp => List.all_eq_true.1 h2 p hp, accsE_zero.1 h⟩
    · cases h
theorem chk_mk {P : List Po} {A : List Ac} (h1 : P.length ≤ 4096) (h2 : A.length ≤ 4096) (h3 : ∀ p ∈ P, isB p.day = true) (h4 : ∀ a ∈ A, accE a = 0) : chkE P A = 0 := by
  unfold chkE
  rw [if_neg (by omega), if_pos (show dayB P = true from List.all_eq_true.2 h3)]
  exact accsE_zero.2 h4
theorem chk_near {P : List Po} {A : List Ac} (s : Sp) (h : chkE P A = 0) : chkE (nearP s P) (nearL s A) = 0 := by
  obtain ⟨h1, h2, h3, h4⟩ := chk_all h
  exact chk_mk (Nat.le_trans (List.length_filter_le _ _) h1) (Nat.le_trans (List.length_filter_le _ _) h2) (fun p hp => h3 p (List.mem_filter.1 hp).1) fun a ha => h4 a (List.mem_filter.1 ha).1
theorem near_T {c : Cal} {u : Un} {P : List Po} {A : List Ac} (hC : chkE P A = 0) :
    TE c (nearP (spV c ⟨1, u.yr, 1⟩) P) (nearL (spV c ⟨1, u.yr, 1⟩) A) (ZA c (nearL (spV c ⟨1, u.yr, 1⟩) A)) u = TE c P A (ZA c A) u ∧
    TV c (nearP (spV c ⟨1, u.yr, 1⟩) P) (nearL (spV c ⟨1, u.yr, 1⟩) A) (ZA c (nearL (spV c ⟨1, u.yr, 1⟩) A)) u = TV c P A (ZA c A) u := by
  by_cases hU : unitE c u = 0
  · obtain ⟨y1, y2⟩ := year_span hU
    have hC2 := chk_near (spV c ⟨1, u.yr, 1⟩) hC
    have ht : ∀ f, totL c u (nearP (spV c ⟨1, u.yr, 1⟩) P) f = totL c u P f := fun f => by rw [totL, totL, nearP_in y1 y2]
    simp [TE, tE, TV, tV, ZA, hU, hC, hC2, nearL_ptE, nearL_pL, ht]
    by_cases h : ptE c u.yr A = 0 <;> simp [h]
  · simp [TE, tE, TV, tV, hU]
theorem nearP_yes {s : Sp} {P : List Po} {j : Nat} {x : Po} (hx : P[j]? = some x) (h : s.a ≤ x.day ∧ x.day ≤ s.b) : nearP s (P.take (j + 1)) = nearP s (P.take j) ++ [x] := by
  rw [List.take_add_one, hx, nearP, nearP, List.filter_append]; simp [h]
theorem nearP_no {s : Sp} {P : List Po} {j : Nat} {x : Po} (hx : P[j]? = some x) (h : ¬ (s.a ≤ x.day ∧ x.day ≤ s.b)) : nearP s (P.take (j + 1)) = nearP s (P.take j) := by
  rw [List.take_add_one, hx, nearP, nearP, List.filter_append]
  have : (decide (s.a ≤ x.day) && decide (x.day ≤ s.b)) = false := by
    rw [Bool.and_eq_false_iff, decide_eq_false_iff_not, decide_eq_false_iff_not]; omega
  simp [this]
theorem nearL_yes {s : Sp} {P : List Ac} {j : Nat} {x : Ac} (hx : P[j]? = some x) (h : s.a ≤ x.b ∧ x.a ≤ s.b) : nearL s (P.take (j + 1)) = nearL s (P.take j) ++ [x] := by
  rw [List.take_add_one, hx, nearL, nearL, List.filter_append]; simp [h]
theorem nearL_no {s : Sp} {P : List Ac} {j : Nat} {x : Ac} (hx : P[j]? = some x) (h : ¬ (s.a ≤ x.b ∧ x.a ≤ s.b)) : nearL s (P.take (j + 1)) = nearL s (P.take j) := by
  rw [List.take_add_one, hx, nearL, nearL, List.filter_append]; simp; intro h1; omega
/-- Blocks of another type stay. -/
def KeepA (w w' : World) : Prop := w.heap.size ≤ w'.heap.size ∧ ∀ (B : Nat) (cs : Array Value) (t : TypeId), t ≠ 47 → w.heap[B]? = some (.cells cs t (0, 0)) → w'.heap[B]? = some (.cells cs t (0, 0))
theorem keepA_ownP {w w' : World} {b : Nat} {v : Value} {l : List Po} (hk : KeepA w w') (h : OwnP w b v l) : OwnP w' b v l := by
  refine ⟨h.1, ?_⟩
  rcases h.2 with h1 | ⟨g', cap', cur, he, h2, hg', h3⟩
  · exact .inl h1
  · exact .inr ⟨g', cap', cur, he, h2, hk.2 _ _ _ (by decide) hg', h3⟩
theorem keepP_ownA {w w' : World} {b : Nat} {v : Value} {l : List Ac} (hk : KeepP w w') (h : OwnA w b v l) : OwnA w' b v l := by
  refine ⟨h.1, ?_⟩
  rcases h.2 with h1 | ⟨g', cap', cur, he, h2, hg', h3⟩
  · exact .inl h1
  · exact .inr ⟨g', cap', cur, he, h2, hk.2 _ _ _ (by decide) hg', h3⟩
theorem ownA_far {w : World} {b : Nat} {v : Value} {l : List Ac} (h : OwnA w b v l) (p : Addr) (u : Value) (hp : p.block < b) : OwnA (w.setCell p u) b v l := by
  refine ⟨h.1, ?_⟩
  rcases h.2 with h1 | ⟨g', cap', cur, he, h2, hg', h3⟩
  · exact .inl h1
  · exact .inr ⟨g', cap', cur, he, h2, (Below.heap_setCell w p u g' (by omega)).trans hg', h3⟩
/-- One accrual more. -/
theorem app_acc {ops : Array Oper} {rest : List Oper} {o : Oper} {a : Act} {Q : Exit → Act → World → Prop} {w : World} (hgd : o.guard = none) (s x : Operand)
    (ho : o.op = .call { callee := .builtin .append, args := #[s, x], argTypes := #[28, 28] }) (base : Nat) (v : Value) (m : List Ac) (p : Ac) (g : Nat)
    (hs : a.eval s = v) (hown : OwnA w base v m) (hx : a.eval x = .slice (some ⟨g, 0, none⟩) 1 1) (h0 : w.cell? ⟨g, 0, none⟩ = some (.int .i64 p.a)) (h1 : w.cell? ⟨g, 1, none⟩ = some (.int .i64 p.b)) (h2 : w.cell? ⟨g, 2, none⟩ = some (.int .i64 p.n)) (hml : m.length ≤ 100000) (hbase : base ≤ w.heap.size)
    (h : ∀ v' w', OwnA w' base v' (m ++ [p]) → Below base w w' → KeepA w w' → wpList Tryz.prog ops Q rest (a.put o.dst v') w') : wpList Tryz.prog ops Q (o :: rest) a w := by
  obtain ⟨i0, hi, hi0, hi1, hi2⟩ := info_parts acc_info
  refine wpList_append_own w hgd s x 28 ho base 47 i0 (.agg #[.int .i64 0, .int .i64 0, .int .i64 0]) 3 24 Tryz.underlying28 hi hi0 hi1 hi2 rfl (by decide) v m.length (flatA m) hs hown ⟨g, 0, none⟩ 1 1 [.int .i64 p.a, .int .i64 p.b, .int .i64 p.n] hx rfl ?_ ?_ ?_ ?_ hbase ?_
  · intro j u hj
    match j, hj with
    | 0, hj => simp at hj; subst hj; simpa [Addr.add] using h0
    | 1, hj => simp at hj; subst hj; simpa [Addr.add] using h1
    | 2, hj => simp at hj; subst hj; simpa [Addr.add] using h2
  · intro u hu
    simp at hu
    rcases hu with rfl | rfl | rfl <;> rfl
  · unfold maxLen; omega
  · omega
  · intro v' w' ho' hg _
    refine h v' w' (by unfold OwnA; rw [List.length_append, flatA_snoc]; exact ho') ((Below.refl base w).grown hg hbase fun k hk => (hown.lt k hk).1) ⟨hg.size, fun B cs t ht hB => (hg.block B (Array.getElem?_eq_some_iff.1 hB).1 (fun e => ?_)).trans hB⟩
    rcases hown.2 with ⟨h1, _⟩ | ⟨g', cap', cur, h1, _, h3', _⟩
    · rw [h1] at e; simp [Value.ownBlock] at e
    · rw [h1] at e
      obtain rfl : B = g' := by simpa [Value.ownBlock] using e
      rw [h3'] at hB
      cases hB
      exact ht rfl
end Go.Proofs.YtjhhmeoibfdcmaaGreat
