/- Package book: copies of rows of postings. -/
import Derived.Test.YtamnccechaooaaaGreatBookB
import Derived.Deep.AppendLies
import Derived.Deep.RegionLaw
import Derived.Laws.OwnMore
namespace Go.Proofs.YtamnccechaooaaaGreat
open Go.RowKit Qd
set_option linter.unusedSimpArgs false
set_option linter.unusedVariables false

def flatP (l : List Po) : List Value := l.flatMap fun p => [.int .i64 p.day, .int .i64 p.n]
theorem flatP_len (l : List Po) : (flatP l).length = l.length * 2 := by
  induction l with
  | nil => rfl
  | cons a l ih => simp only [flatP, List.flatMap_cons, List.length_append, List.length_cons, List.length_nil] at ih ⊢; omega
theorem flatP_snoc (l : List Po) (p : Po) : flatP (l ++ [p]) = flatP l ++ [.int .i64 p.day, .int .i64 p.n] := by simp [flatP]
theorem flatP_get {l : List Po} {i : Nat} {p : Po} (h : l[i]? = some p) : (flatP l)[i * 2]? = some (.int .i64 p.day) ∧ (flatP l)[i * 2 + 1]? = some (.int .i64 p.n) := by
  induction l generalizing i with
  | nil => simp at h
  | cons a l ih =>
    cases i with
    | zero => simp at h; subst h; simp [flatP]
    | succ i =>
      have := ih (i := i) (by simpa using h)
      simp only [flatP, List.flatMap_cons] at this ⊢
      rw [show (i + 1) * 2 = i * 2 + 1 + 1 by omega]
      simpa using this
theorem flatP_cell {l : List Po} {j : Nat} {u : Value} (h : (flatP l)[j]? = some u) : ∃ (i : Nat) (p : Po), l[i]? = some p ∧ ((j = i * 2 ∧ u = .int .i64 p.day) ∨ (j = i * 2 + 1 ∧ u = .int .i64 p.n)) := by
  have hl := (List.getElem?_eq_some_iff.1 h).1
  rw [flatP_len] at hl
  have hi : j / 2 < l.length := by omega
  obtain ⟨p, hp⟩ : ∃ p, l[j / 2]? = some p := ⟨_, List.getElem?_eq_getElem hi⟩
  obtain ⟨h0, h1⟩ := flatP_get hp
  refine ⟨j / 2, p, hp, ?_⟩
  rcases (show j = j / 2 * 2 ∨ j = j / 2 * 2 + 1 by omega) with e | e
  · left; refine ⟨e, ?_⟩; rw [← e, h] at h0; exact Option.some.inj h0
  · right; refine ⟨e, ?_⟩; rw [← e, h] at h1; exact Option.some.inj h1
theorem post_info : (Tryz.prog.info? 63).map (fun i => (i.zero, i.size, i.bytes)) = some (some (.agg #[.int .i64 0, .int .i64 0]), 2, 16) := by kernel_rfl
abbrev OwnP (w : World) (base : Nat) (v : Value) (l : List Po) : Prop := w.ownsRow base 63 2 v l.length (flatP l)
theorem ownP_call {w w' : World} {base : Nat} {v : Value} {l : List Po} (h : OwnP w base v l) (hb : Below w.heap.size w w') : OwnP w' base v l := by
  refine ⟨h.1, ?_⟩
  rcases h.2 with h1 | ⟨g', cap', cur, he, h2, hg', h3⟩
  · exact .inl h1
  · exact .inr ⟨g', cap', cur, he, h2, (hb.block g' (Array.getElem?_eq_some_iff.1 hg').1).trans hg', h3⟩
theorem ownP_posts {w : World} {base : Nat} {v : Value} {l : List Po} (h : OwnP w base v l) : Posts w v l := by
  rcases h.2 with ⟨h1, h2⟩ | ⟨g, cap, cur, h1, h2, h3, h4, h5, h6, h7⟩
  · have hl : l = [] := List.length_eq_zero_iff.1 h2
    subst hl
    exact ⟨none, 0, h1, fun i x hx => by simp at hx⟩
  · refine ⟨_, _, h1, fun i x hx => ⟨g, 0, rfl, (Array.getElem?_eq_some_iff.1 h3).1, ?_, ?_⟩⟩
    all_goals
      subst h1
      have hi := (List.getElem?_eq_some_iff.1 hx).1
    · rw [Nat.zero_add, h.cellAt (i * 2) (by omega)]; exact (flatP_get hx).1
    · rw [Nat.zero_add, h.cellAt (i * 2 + 1) (by omega)]; exact (flatP_get hx).2

set_option maxRecDepth 100000 in
set_option maxHeartbeats 1600000 in
theorem clonep_nil (w : World) : Calls Tryz.prog 72 #[.slice none 0 0] w fun e w' => e = .returned (.slice none 0 0) ∧ w = w' := by
  have hnil := @Lib.run_eql_slice_nil Tryz.prog
  go_enter Tryz.func72, Tryz.ntmps72
  go_wp2
  go_ret
  exact ⟨rfl, rfl⟩
set_option maxRecDepth 100000 in
set_option maxHeartbeats 1600000 in
theorem clonea_nil (w : World) : Calls Tryz.prog 73 #[.slice none 0 0] w fun e w' => e = .returned (.slice none 0 0) ∧ w = w' := by
  have hnil := @Lib.run_eql_slice_nil Tryz.prog
  go_enter Tryz.func73, Tryz.ntmps73
  go_wp2
  go_ret
  exact ⟨rfl, rfl⟩

theorem posts_cells {w : World} {ad : Addr} {cap : Nat} {P : List Po} (h : Posts w (.slice (some ad) P.length cap) P) : ∀ (j : Nat) (u : Value), (flatP P)[j]? = some u → w.cell? (ad.add j) = some u := by
  intro j u hj
  obtain ⟨i, p, hp, hc⟩ := flatP_cell hj
  obtain ⟨g, o, e, hg, c0, c1⟩ := h.at hp
  cases e
  rcases hc with ⟨rfl, rfl⟩ | ⟨rfl, rfl⟩
  · by_cases h0 : i * 2 = 0
    · have : i = 0 := by omega
      subst this
      simpa [Addr.add] using c0
    · simpa [Addr.add, h0] using c0
  · simpa [Addr.add, Nat.add_assoc] using c1
theorem flatP_one (l : List Po) : ∀ u ∈ flatP l, u.oneCell' = true := by
  intro u hu
  simp only [flatP, List.mem_flatMap] at hu
  obtain ⟨p, _, hu⟩ := hu
  simp at hu
  rcases hu with rfl | rfl <;> rfl
set_option maxRecDepth 100000 in
set_option maxHeartbeats 1600000 in
theorem clonep_some (P : List Po) (ad : Addr) (cap : Nat) (w : World) (hP : Posts w (.slice (some ad) P.length cap) P) (hl : P.length ≤ 100000) :
    Calls Tryz.prog 72 #[.slice (some ad) P.length cap] w fun e w' => (∃ v, e = .returned v ∧ OwnP w' w.heap.size v P) ∧ Below w.heap.size w w' := by
  have hnil := @Lib.run_eql_slice_nil Tryz.prog
  obtain ⟨i0, hi, hi0, hi1, hi2⟩ := info_parts post_info
  have HP := hide hP
  clear hP
  go_enter Tryz.func72, Tryz.ntmps72
  go_wp2_with ((at_builtin; refine wpList_append_own _ rfl _ _ 56 rfl w.heap.size 63 i0 (.agg #[.int .i64 0, .int .i64 0]) 2 16 Tryz.underlying56 hi hi0 hi1 hi2 rfl (by decide) _ _ _ rfl (World.ownsRow_lit w #[] 0 (Nat.le_refl _) (Nat.zero_le _) rfl) ad P.length cap (flatP P) rfl (flatP_len P) ?c1 (flatP_one P) ?c3 ?c4 ?c5 ?_))
  case c1 => exact posts_cells (HP.out.call (by (repeat' exact bel)))
  case c3 => unfold maxLen; omega
  case c4 => omega
  case c5 => simp
  intro v' w' hown' hgrow _
  have HO := hide (show OwnP w' w.heap.size v' P by simpa using hown')
  have HB := hide (((Below.refl w.heap.size w).alloc (Nat.le_refl _) (.cells #[] 63)).grown hgrow (by simp) (fun k hk => by simp [Value.ownBlock] at hk; omega))
  clear hown' hgrow
  go_wp2
  go_ret
  exact ⟨⟨_, rfl, HO.out⟩, HB.out⟩
end Go.Proofs.YtamnccechaooaaaGreat
