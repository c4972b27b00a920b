/- Package book: rows of postings that are appended to; a row turned. -/
import Derived.Test.YtjhhmeoibfdcmaaGreatMBk
import Derived.Test.YtjhhmeoibfdcmaaGreatVaryE
namespace Go.Proofs.YtjhhmeoibfdcmaaGreat
open Go.RowKit Qd
set_option linter.unusedSimpArgs false
set_option linter.unusedVariables false

/-- Blocks of another type stay. -/
def KeepP (w w' : World) : Prop := w.heap.size ≤ w'.heap.size ∧ ∀ (B : Nat) (cs : Array Value) (t : TypeId), t ≠ 32 → w.heap[B]? = some (.cells cs t (0, 0)) → w'.heap[B]? = some (.cells cs t (0, 0))
theorem keepI_ownP {w w' : World} {b : Nat} {v : Value} {l : List Po} (hk : KeepI w w') (h : OwnP w b v l) : OwnP w' b v l := by
  refine ⟨h.1, ?_⟩
  rcases h.2 with h1 | ⟨g', cap', cur, he, h2, hg', h3⟩
  · exact .inl h1
  · exact .inr ⟨g', cap', cur, he, h2, hk.2 _ _ _ (by decide) hg', h3⟩
theorem keepP_ownI {w w' : World} {b : Nat} {v : Value} {l : List Int} (hk : KeepP w w') (h : w.ownsRow b 2 1 v l.length (intsC l)) : w'.ownsRow b 2 1 v l.length (intsC l) := by
  refine ⟨h.1, ?_⟩
  rcases h.2 with h1 | ⟨g', cap', cur, he, h2, hg', h3⟩
  · exact .inl h1
  · exact .inr ⟨g', cap', cur, he, h2, hk.2 _ _ _ (by decide) hg', h3⟩
/-- One posting more. -/
theorem app_post {ops : Array Oper} {rest : List Oper} {o : Oper} {a : Act} {Q : Exit → Act → World → Prop} {w : World} (hgd : o.guard = none) (s x : Operand)
    (ho : o.op = .call { callee := .builtin .append, args := #[s, x], argTypes := #[27, 27] }) (base : Nat) (v : Value) (m : List Po) (p : Po) (g : Nat)
    (hs : a.eval s = v) (hown : OwnP w base v m) (hx : a.eval x = .slice (some ⟨g, 0, none⟩) 1 1) (h0 : w.cell? ⟨g, 0, none⟩ = some (.int .i64 p.day)) (h1 : w.cell? ⟨g, 1, none⟩ = some (.int .i64 p.n)) (hml : m.length ≤ 100000) (hbase : base ≤ w.heap.size)
    (h : ∀ v' w', OwnP w' base v' (m ++ [p]) → Below base w w' → KeepP w w' → wpList Tryz.prog ops Q rest (a.put o.dst v') w') : wpList Tryz.prog ops Q (o :: rest) a w := by
  obtain ⟨i0, hi, hi0, hi1, hi2⟩ := info_parts post_info
  refine wpList_append_own w hgd s x 27 ho base 32 i0 (.agg #[.int .i64 0, .int .i64 0]) 2 16 Tryz.underlying27 hi hi0 hi1 hi2 rfl (by decide) v m.length (flatP m) hs hown ⟨g, 0, none⟩ 1 1 [.int .i64 p.day, .int .i64 p.n] hx rfl ?_ ?_ ?_ ?_ hbase ?_
  · intro j u hj
    match j, hj with
    | 0, hj => simp at hj; subst hj; simpa [Addr.add] using h0
    | 1, hj => simp at hj; subst hj; simpa [Addr.add] using h1
  · intro u hu
    simp at hu
    rcases hu with rfl | rfl <;> rfl
  · unfold maxLen; omega
  · omega
  · intro v' w' ho' hg _
    refine h v' w' (by unfold OwnP; rw [List.length_append, flatP_snoc]; exact ho') ((Below.refl base w).grown hg hbase fun k hk => (hown.lt k hk).1) ⟨hg.size, fun B cs t ht hB => (hg.block B (Array.getElem?_eq_some_iff.1 hB).1 (fun e => ?_)).trans hB⟩
    rcases hown.2 with ⟨h1, _⟩ | ⟨g', cap', cur, h1, _, h3', _⟩
    · rw [h1] at e; simp [Value.ownBlock] at e
    · rw [h1] at e
      obtain rfl : B = g' := by simpa [Value.ownBlock] using e
      rw [h3'] at hB
      cases hB
      exact ht rfl

theorem rev_dayB (P : List Po) : dayB P.reverse = dayB P := by simp [dayB, List.all_reverse]
theorem rev_chkE (P : List Po) : chkE P.reverse [] = chkE P [] := by unfold chkE; rw [rev_dayB, List.length_reverse]
theorem rev_sum (l : List Int) : l.reverse.sum = l.sum := by
  induction l with
  | nil => rfl
  | cons a l ih => rw [List.reverse_cons, List.sum_append, ih]; simp; omega
theorem rev_inS (S : Sp) (P : List Po) : (inD S P.reverse).sum = (inD S P).sum := by
  rw [inD, List.filter_reverse, List.map_reverse, rev_sum]; rfl
theorem rev_T (c : Cal) (u : Un) (P : List Po) : TV c P.reverse [] Z0 u = TV c P [] Z0 u ∧ TE c P.reverse [] Z0 u = TE c P [] Z0 u := by
  have h : (totL c u P.reverse (Z0.f u.yr)).sum = (totL c u P (Z0.f u.yr)).sum := by
    show (totL c u P.reverse (fun _ => [])).sum = (totL c u P (fun _ => [])).sum
    rw [totL_nil, totL_nil, rev_inS]
  unfold TV TE tV tE
  rw [rev_chkE, h]
  exact ⟨rfl, rfl⟩
theorem T_in {c : Cal} {u : Un} {P : List Po} (hU : unitE c u = 0) (hC : chkE P [] = 0) : TV c P [] Z0 u = fitV (inD (spV c u) P).sum ∧ TE c P [] Z0 u = fitE (inD (spV c u) P).sum := by
  have h : (totL c u P (Z0.f u.yr)).sum = (inD (spV c u) P).sum := by
    show (totL c u P (fun _ => [])).sum = _
    rw [totL_nil]
  unfold TV TE tV tE
  rw [if_pos ⟨hU, hC, rfl⟩, if_pos hU, if_pos hC, if_pos (show Z0.pe u.yr = 0 from rfl), h]
  exact ⟨rfl, rfl⟩
theorem T_no {c : Cal} {u : Un} {P : List Po} (hU : ¬ unitE c u = 0) : TV c P [] Z0 u = 0 ∧ TE c P [] Z0 u = unitE c u := by
  unfold TV TE tV tE
  rw [if_neg (fun h => hU h.1), if_neg hU]
  exact ⟨rfl, rfl⟩
theorem rev_take {P : List Po} {j : Nat} (hj : j < P.length) : ∃ x, P[P.length - 1 - j]? = some x ∧ P.reverse.take (j + 1) = P.reverse.take j ++ [x] := by
  obtain ⟨x, hx⟩ : ∃ x, P[P.length - 1 - j]? = some x := ⟨_, List.getElem?_eq_getElem (by omega)⟩
  refine ⟨x, hx, ?_⟩
  rw [List.take_add_one, List.getElem?_reverse hj, hx]
  rfl

/-- What is kept in the loop: the calendar, the unit, the span, the numbers, the postings turned. -/
def BpSt (c : Cal) (u : Un) (S : Sp) (B7 Bo : Nat) (l : List Int) (v : Value) (m : List Po) (vm : Value) (w0 w : World) : Prop :=
  CalAt w w0.heap.size c ∧ UnAt w (w0.heap.size + 1) u ∧ w0.heap.size + 1 < Bo ∧ BlkIs w B7 #[.int .i64 S.a, .int .i64 S.b] 45 ∧ B7 < Bo ∧ Bo ≤ w.heap.size ∧ w.ownsRow Bo 2 1 v l.length (intsC l) ∧ OwnP w Bo vm m ∧ Below w0.heap.size w0 w
theorem BpSt.call {c : Cal} {u : Un} {S : Sp} {B7 Bo : Nat} {l : List Int} {v : Value} {m : List Po} {vm : Value} {w0 w w' : World} (h : BpSt c u S B7 Bo l v m vm w0 w) (hb : Below w.heap.size w w') : BpSt c u S B7 Bo l v m vm w0 w' := by
  obtain ⟨h1, h2, h3, h4, h5, h6, h7, h8, h9⟩ := h
  exact ⟨calAt_below hb (by omega) h1, unAt_below hb (by omega) h2, h3, h4.call hb, h5, Nat.le_trans h6 hb.size, ownsI_call h7 hb, ownP_call h8 hb, h9.trans (hb.mono (by omega))⟩
theorem BpSt.appI {c : Cal} {u : Un} {S : Sp} {B7 Bo : Nat} {l l' : List Int} {v v' : Value} {m : List Po} {vm : Value} {w0 w w' : World} (h : BpSt c u S B7 Bo l v m vm w0 w) (ho : w'.ownsRow Bo 2 1 v' l'.length (intsC l')) (hb : Below Bo w w') (hk : KeepI w w') : BpSt c u S B7 Bo l' v' m vm w0 w' := by
  obtain ⟨h1, h2, h3, h4, h5, h6, h7, h8, h9⟩ := h
  exact ⟨calAt_below hb (by omega) h1, unAt_below hb (by omega) h2, h3, h4.below hb h5, h5, Nat.le_trans h6 hb.size, ho, keepI_ownP hk h8, h9.trans (hb.mono (by omega))⟩
theorem BpSt.appP {c : Cal} {u : Un} {S : Sp} {B7 Bo : Nat} {l : List Int} {v : Value} {m m' : List Po} {vm vm' : Value} {w0 w w' : World} (h : BpSt c u S B7 Bo l v m vm w0 w) (ho : OwnP w' Bo vm' m') (hb : Below Bo w w') (hk : KeepP w w') : BpSt c u S B7 Bo l v m' vm' w0 w' := by
  obtain ⟨h1, h2, h3, h4, h5, h6, h7, h8, h9⟩ := h
  exact ⟨calAt_below hb (by omega) h1, unAt_below hb (by omega) h2, h3, h4.below hb h5, h5, Nat.le_trans h6 hb.size, keepP_ownI hk h7, ho, h9.trans (hb.mono (by omega))⟩
end Go.Proofs.YtjhhmeoibfdcmaaGreat
