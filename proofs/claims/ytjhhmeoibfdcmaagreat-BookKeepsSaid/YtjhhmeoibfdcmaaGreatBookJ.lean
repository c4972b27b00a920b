/- Package book: copies of rows of accruals. -/
import Derived.Test.YtjhhmeoibfdcmaaGreatMBk
namespace Go.Proofs.YtjhhmeoibfdcmaaGreat
open Go.RowKit Qd
set_option linter.unusedSimpArgs false
set_option linter.unusedVariables false

def flatA (l : List Ac) : List Value := l.flatMap fun p => [.int .i64 p.a, .int .i64 p.b, .int .i64 p.n]
theorem flatA_len (l : List Ac) : (flatA l).length = l.length * 3 := by
  induction l with
  | nil => rfl
  | cons a l ih => simp only [flatA, List.flatMap_cons, List.length_append, List.length_cons, List.length_nil] at ih ⊢; omega
theorem flatA_snoc (l : List Ac) (p : Ac) : flatA (l ++ [p]) = flatA l ++ [.int .i64 p.a, .int .i64 p.b, .int .i64 p.n] := by simp [flatA]
theorem flatA_get {l : List Ac} {i : Nat} {p : Ac} (h : l[i]? = some p) : (flatA l)[i * 3]? = some (.int .i64 p.a) ∧ (flatA l)[i * 3 + 1]? = some (.int .i64 p.b) ∧ (flatA l)[i * 3 + 2]? = some (.int .i64 p.n) := by
  induction l generalizing i with
  | nil => simp at h
  | cons a l ih =>
    cases i with
    | zero => simp at h; subst h; simp [flatA]
    | succ i =>
      have := ih (i := i) (by simpa using h)
      simp only [flatA, List.flatMap_cons] at this ⊢
      rw [show (i + 1) * 3 = i * 3 + 1 + 1 + 1 by omega]
      simpa using this
theorem flatA_cell {l : List Ac} {j : Nat} {u : Value} (h : (flatA l)[j]? = some u) : ∃ (i : Nat) (p : Ac), l[i]? = some p ∧ ((j = i * 3 ∧ u = .int .i64 p.a) ∨ (j = i * 3 + 1 ∧ u = .int .i64 p.b) ∨ (j = i * 3 + 2 ∧ u = .int .i64 p.n)) := by
  have hl := (List.getElem?_eq_some_iff.1 h).1
  rw [flatA_len] at hl
  have hi : j / 3 < l.length := by omega
  obtain ⟨p, hp⟩ : ∃ p, l[j / 3]? = some p := ⟨_, List.getElem?_eq_getElem hi⟩
  obtain ⟨h0, h1, h2⟩ := flatA_get hp
  refine ⟨j / 3, p, hp, ?_⟩
  rcases (show j = j / 3 * 3 ∨ j = j / 3 * 3 + 1 ∨ j = j / 3 * 3 + 2 by omega) with e | e | e
  · left; refine ⟨e, ?_⟩; rw [← e, h] at h0; exact Option.some.inj h0
  · right; left; refine ⟨e, ?_⟩; rw [← e, h] at h1; exact Option.some.inj h1
  · right; right; refine ⟨e, ?_⟩; rw [← e, h] at h2; exact Option.some.inj h2
theorem acc_info : (Tryz.prog.info? 47).map (fun i => (i.zero, i.size, i.bytes)) = some (some (.agg #[.int .i64 0, .int .i64 0, .int .i64 0]), 3, 24) := by kernel_rfl
abbrev OwnA (w : World) (base : Nat) (v : Value) (l : List Ac) : Prop := w.ownsRow base 47 3 v l.length (flatA l)
theorem ownA_call {w w' : World} {base : Nat} {v : Value} {l : List Ac} (h : OwnA w base v l) (hb : Below w.heap.size w w') : OwnA w' base v l := by
  refine ⟨h.1, ?_⟩
  rcases h.2 with h1 | ⟨g', cap', cur, he, h2, hg', h3⟩
  · exact .inl h1
  · exact .inr ⟨g', cap', cur, he, h2, (hb.block g' (Array.getElem?_eq_some_iff.1 hg').1).trans hg', h3⟩
theorem ownA_accs {w : World} {base : Nat} {v : Value} {l : List Ac} (h : OwnA w base v l) : Accs w v l := by
  rcases h.2 with ⟨h1, h2⟩ | ⟨g, cap, cur, h1, h2, h3, h4, h5, h6, h7⟩
  · have hl : l = [] := List.length_eq_zero_iff.1 h2
    subst hl
    exact ⟨none, 0, h1, fun i x hx => by simp at hx⟩
  · refine ⟨_, _, h1, fun i x hx => ⟨g, 0, rfl, (Array.getElem?_eq_some_iff.1 h3).1, ?_, ?_, ?_⟩⟩
    all_goals
      subst h1
      have hi := (List.getElem?_eq_some_iff.1 hx).1
    · rw [Nat.zero_add, h.cellAt (i * 3) (by omega)]; exact (flatA_get hx).1
    · rw [Nat.zero_add, h.cellAt (i * 3 + 1) (by omega)]; exact (flatA_get hx).2.1
    · rw [Nat.zero_add, h.cellAt (i * 3 + 2) (by omega)]; exact (flatA_get hx).2.2
theorem accs_cells {w : World} {ad : Addr} {cap : Nat} {P : List Ac} (h : Accs w (.slice (some ad) P.length cap) P) : ∀ (j : Nat) (u : Value), (flatA P)[j]? = some u → w.cell? (ad.add j) = some u := by
  intro j u hj
  obtain ⟨i, p, hp, hc⟩ := flatA_cell hj
  obtain ⟨g, o, e, hg, c0, c1, c2⟩ := h.at hp
  cases e
  rcases hc with ⟨rfl, rfl⟩ | ⟨rfl, rfl⟩ | ⟨rfl, rfl⟩
  · by_cases h0 : i * 3 = 0
    · have : i = 0 := by omega
      subst this
      simpa [Addr.add] using c0
    · simpa [Addr.add, h0] using c0
  · simpa [Addr.add, Nat.add_assoc] using c1
  · simpa [Addr.add, Nat.add_assoc] using c2
theorem flatA_one (l : List Ac) : ∀ u ∈ flatA l, u.oneCell' = true := by
  intro u hu
  simp only [flatA, List.mem_flatMap] at hu
  obtain ⟨p, _, hu⟩ := hu
  simp at hu
  rcases hu with rfl | rfl | rfl <;> rfl
set_option maxRecDepth 100000 in
set_option maxHeartbeats 1600000 in
theorem clonea_some (P : List Ac) (ad : Addr) (cap : Nat) (w : World) (hP : Accs w (.slice (some ad) P.length cap) P) (hl : P.length ≤ 100000) :
    Calls Tryz.prog 46 #[.slice (some ad) P.length cap] w fun e w' => (∃ v, e = .returned v ∧ OwnA w' w.heap.size v P) ∧ Below w.heap.size w w' := by
  have hnil := @Lib.run_eql_slice_nil Tryz.prog
  obtain ⟨i0, hi, hi0, hi1, hi2⟩ := info_parts acc_info
  have HP := hide hP
  clear hP
  go_enter Tryz.func46, Tryz.ntmps46
  go_wp2_with ((at_builtin; refine wpList_append_own _ rfl _ _ 28 rfl w.heap.size 47 i0 (.agg #[.int .i64 0, .int .i64 0, .int .i64 0]) 3 24 Tryz.underlying28 hi hi0 hi1 hi2 rfl (by decide) _ _ _ rfl (World.ownsRow_lit w #[] 0 (Nat.le_refl _) (Nat.zero_le _) rfl) ad P.length cap (flatA P) rfl (flatA_len P) ?c1 (flatA_one P) ?c3 ?c4 ?c5 ?_))
  case c1 => exact accs_cells (HP.out.call (by (repeat' exact bel)))
  case c3 => unfold maxLen; omega
  case c4 => omega
  case c5 => simp
  intro v' w' hown' hgrow _
  have HO := hide (show OwnA w' w.heap.size v' P by simpa using hown')
  have HB := hide (((Below.refl w.heap.size w).alloc (Nat.le_refl _) (.cells #[] 47)).grown hgrow (by simp) (fun k hk => by simp [Value.ownBlock] at hk; omega))
  clear hown' hgrow
  go_wp2
  go_ret
  exact ⟨⟨_, rfl, HO.out⟩, HB.out⟩
theorem clonea_any (P : List Ac) (v : Value) (w : World) (hP : Accs w v P) (hv : v = .slice none 0 0 ∨ ∃ ad cap, v = .slice (some ad) P.length cap) (hl : P.length ≤ 100000) :
    Calls Tryz.prog 46 #[v] w fun e w' => (∃ v, e = .returned v ∧ OwnA w' w.heap.size v P) ∧ Below w.heap.size w w' := by
  rcases hv with rfl | ⟨ad, cap, rfl⟩
  · refine (clonea_nil w).mono ?_
    rintro e w' ⟨rfl, rfl⟩
    obtain ⟨ad, cap, h1, _⟩ := hP
    have h0 : P.length = 0 := by injection h1 with _ h2 _; exact h2.symm
    have : P = [] := List.length_eq_zero_iff.1 h0
    subst this
    exact ⟨⟨_, rfl, World.ownsRow_nil _ _ _ _⟩, Below.refl _ _⟩
  · exact clonea_some P ad cap w hP hl
end Go.Proofs.YtjhhmeoibfdcmaaGreat
