/- Books that a law takes, and the form of their rows. -/
import Derived.Test.YtjhhmeoibfdcmaaGreatRowB
namespace Go.Proofs.YtjhhmeoibfdcmaaGreat
open Go.ChangeShapes Go.WideShapes Go.ChangeAt Go.RowKit Qd
set_option linter.unusedSimpArgs false
set_option linter.unusedVariables false
section
variable {H : Type} {enc : TypeId × Value → H} {base : Nat} {spare : Nat → Bool} {held : Bool}
set_option maxRecDepth 100000 in
theorem trod_accs2 {w : World} {fuel : Nat} {v : Value} {x : DataW H × List MemPlace} (hf : DataW.trod enc Tryz.prog w base spare held fuel 28 [v] = some x) :
    ∃ A : List Ac, Accs w v A ∧ (∀ x ∈ A, AcWf x) ∧ A.length ≤ 9223372036854775807 ∧ (v = .slice none 0 0 ∨ ∃ ad cap, v = .slice (some ad) A.length cap) := by
  rcases Go.Deep.open_slice Tryz.underlying28 hf with ⟨h1, _⟩ | ⟨ad, len, cap, m, n, D, Pl, h1, _, hlc, hcm, hm, _, hel⟩
  · simp at h1
    subst h1
    exact ⟨[], Accs.nil w, by simp, by simp, .inl rfl⟩
  · simp at h1
    subst h1
    have hlm : len ≤ m := by rw [hm]; split <;> omega
    have key : ∀ i, i < len → ∃ x : Ac, w.cell? (ad.add (i * 3)) = some (.int .i64 x.a) ∧ w.cell? (ad.add (i * 3 + 1)) = some (.int .i64 x.b) ∧ w.cell? (ad.add (i * 3 + 2)) = some (.int .i64 x.n) ∧ AcWf x := by
      intro i hi
      obtain ⟨cs, g0, g1⟩ := hel i (by omega)
      rw [cells_acc] at g0
      obtain ⟨_, hlen, hcell⟩ := World.cells?_some g0
      obtain ⟨x, e, hx⟩ := trod_acc hlen g1
      subst e
      have e0 := hcell 0 (by omega)
      have e1 := hcell 1 (by omega)
      have e2 := hcell 2 (by omega)
      rw [Go.Deep.add_add] at e0 e1 e2
      exact ⟨x, by simpa using e0, by simpa using e1, by simpa using e2, hx⟩
    obtain ⟨q, hq⟩ := Go.Deep.choose_lt (α := Ac) key
    refine ⟨(List.range len).map q, ⟨some ad, cap, by simp, fun i x hx => ?_⟩, ?_, by simp; unfold maxLen at hcm; omega, .inr ⟨ad, cap, by simp⟩⟩
    · simp only [List.getElem?_map, Option.map_eq_some_iff, List.getElem?_range] at hx
      obtain ⟨j, hj, rfl⟩ := hx
      have hij : i < len ∧ j = i := by
        rw [List.getElem?_eq_some_iff] at hj
        obtain ⟨h1, h2⟩ := hj
        simp at h1 h2
        exact ⟨h1, h2.symm⟩
      obtain ⟨hi, rfl⟩ := hij
      obtain ⟨k0, k1, k2, _⟩ := hq j hi
      obtain ⟨z0, _⟩ := hq 0 (by omega)
      obtain ⟨b, o, spot⟩ := ad
      have hsp : spot = none := by simpa [Addr.add] using World.cell?_spot z0
      subst hsp
      have c0 : w.cell? ⟨b, o + j * 3, none⟩ = some (.int .i64 (q j).a) := by
        rw [← k0]
        by_cases h0 : j = 0
        · subst h0; simp [Addr.add]
        · have h2 : j * 3 ≠ 0 := by omega
          simp [Addr.add, h2]
      have c1 : w.cell? ⟨b, o + j * 3 + 1, none⟩ = some (.int .i64 (q j).b) := by
        rw [← k1]
        simp [Addr.add, Nat.add_assoc]
      have c2 : w.cell? ⟨b, o + j * 3 + 2, none⟩ = some (.int .i64 (q j).n) := by
        rw [← k2]
        simp [Addr.add, Nat.add_assoc]
      exact ⟨b, o, rfl, cell_lt c0, c0, c1, c2⟩
    · intro x hx
      simp only [List.mem_map, List.mem_range] at hx
      obtain ⟨i, hi, rfl⟩ := hx
      exact (hq i hi).2.2.2
set_option maxRecDepth 100000 in
theorem trod_posts2 {w : World} {fuel : Nat} {v : Value} {x : DataW H × List MemPlace} (hf : DataW.trod enc Tryz.prog w base spare held fuel 27 [v] = some x) :
    ∃ P : List Po, Posts w v P ∧ (∀ x ∈ P, PoWf x) ∧ P.length ≤ 9223372036854775807 ∧ (v = .slice none 0 0 ∨ ∃ ad cap, v = .slice (some ad) P.length cap) := by
  rcases Go.Deep.open_slice_pairs Tryz.underlying27 Tryz.underlying32 (by kernel_rfl) rfl rfl (by kernel_rfl) (by kernel_rfl) hf with ⟨h1, _⟩ | ⟨ad, len, cap, m, n, V0, V1, D0, D1, P0, P1, h1, _, hlc, hcm, hm, _, hel⟩
  · simp at h1
    subst h1
    exact ⟨[], Posts.nil w, by simp, by simp, .inl rfl⟩
  · simp at h1
    subst h1
    have hlm : len ≤ m := by rw [hm]; split <;> omega
    have key : ∀ i, i < len → ∃ x y : Int, V0 i = .int .i64 x ∧ V1 i = .int .i64 y ∧ in64 x ∧ in64 y := by
      intro i hi
      obtain ⟨_, _, g0, g1⟩ := hel i (by omega)
      obtain ⟨x, e0, _, s0⟩ := DataW.trod_int Tryz.underlying3 g0
      obtain ⟨y, e1, _, s1⟩ := DataW.trod_int Tryz.underlying2 g1
      simp only [List.cons.injEq, and_true] at e0 e1
      exact ⟨x, y, e0, e1, wf64_bd s0, wf64_bd s1⟩
    refine ⟨(List.range len).map fun i => ⟨iOf (V0 i), iOf (V1 i)⟩, ⟨some ad, cap, by simp, fun i x hx => ?_⟩, ?_, by simp; unfold maxLen at hcm; omega, .inr ⟨ad, cap, by simp⟩⟩
    · simp only [List.getElem?_map, Option.map_eq_some_iff, List.getElem?_range] at hx
      obtain ⟨j, hj, rfl⟩ := hx
      have hij : i < len ∧ j = i := by
        rw [List.getElem?_eq_some_iff] at hj
        obtain ⟨h1, h2⟩ := hj
        simp at h1 h2
        exact ⟨h1, h2.symm⟩
      obtain ⟨hi, rfl⟩ := hij
      obtain ⟨x, y, e0, e1, _, _⟩ := key j hi
      obtain ⟨k0, k1, _, _⟩ := hel j (by omega)
      obtain ⟨z0, _, _, _⟩ := hel 0 (by omega)
      obtain ⟨b, o, spot⟩ := ad
      have hsp : spot = none := by simpa [Addr.add] using World.cell?_spot z0
      subst hsp
      have c0 : w.cell? ⟨b, o + j * 2, none⟩ = some (V0 j) := by
        rw [← k0]
        by_cases h0 : j = 0
        · subst h0; simp [Addr.add]
        · have h2 : j * 2 ≠ 0 := by omega
          simp [Addr.add, h2]
      have c1 : w.cell? ⟨b, o + j * 2 + 1, none⟩ = some (V1 j) := by
        rw [← k1]
        simp [Addr.add, Nat.add_assoc]
      rw [e0] at c0
      rw [e1] at c1
      exact ⟨b, o, rfl, cell_lt c0, by rw [e0]; exact c0, by rw [e1]; exact c1⟩
    · intro x hx
      simp only [List.mem_map, List.mem_range] at hx
      obtain ⟨i, hi, rfl⟩ := hx
      obtain ⟨x, y, e0, e1, h0, h1⟩ := key i hi
      rw [e0, e1]
      exact ⟨h0, h1⟩
set_option maxRecDepth 100000 in
theorem open_book2 {w : World} {r : Reach} {b0 : Nat} {v : Value} {d : DataW H} {p : List MemPlace} (hv : Value.okWide Tryz.prog w r b0 30 v) (h : DataW.Trod enc Tryz.prog w base spare held 30 v d p) :
    ∃ (v1 v2 : Value) (P : List Po) (A : List Ac), v = .agg #[v1, v2] ∧ Posts w v1 P ∧ Accs w v2 A ∧ (∀ x ∈ P, PoWf x) ∧ (∀ x ∈ A, AcWf x) ∧ P.length ≤ 9223372036854775807 ∧ A.length ≤ 9223372036854775807 ∧ (v1 = .slice none 0 0 ∨ ∃ ad cap, v1 = .slice (some ad) P.length cap) ∧ (v2 = .slice none 0 0 ∨ ∃ ad cap, v2 = .slice (some ad) A.length cap) := by
  have hv0 := hv
  obtain ⟨cs, rfl, hsz⟩ := okWide_struct Tryz.underlying30 hv
  rw [cells_book] at hsz
  obtain ⟨l⟩ := cs
  match l, hsz with
  | [c0, c1], _ =>
    obtain ⟨fuel, hf⟩ := h
    obtain ⟨xs, n, _, hx, _, hlen, hg⟩ := DataW.trod_struct Tryz.underlying30 hf
    match xs, hlen with
    | [y0, y1], _ =>
      have g0 := hg 0 _ rfl
      have g1 := hg 1 _ rfl
      simp [Value.cells, cells_posts, cells_accs] at g0 g1
      obtain ⟨P, p1, p2, p3, p4⟩ := trod_posts2 g0
      obtain ⟨A, a1, a2, a3, a4⟩ := trod_accs2 g1
      exact ⟨c0, c1, P, A, rfl, p1, a1, p2, a2, p3, a3, p4, a4⟩
end
end Go.Proofs.YtjhhmeoibfdcmaaGreat
