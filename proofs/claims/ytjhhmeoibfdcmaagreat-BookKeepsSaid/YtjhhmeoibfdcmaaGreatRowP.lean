/- Postings that a law takes. -/
import Derived.Test.YtjhhmeoibfdcmaaGreatMBk
import Derived.Test.YtjhhmeoibfdcmaaGreatRowS
import Derived.Deep.SlicePairs
namespace Go.Proofs.YtjhhmeoibfdcmaaGreat
open Go.ChangeShapes Go.WideShapes Go.ChangeAt Go.RowKit Qd
set_option linter.unusedSimpArgs false
set_option linter.unusedVariables false
section
variable {H : Type} {enc : TypeId × Value → H} {base : Nat} {spare : Nat → Bool} {held : Bool}
def iOf : Value → Int
  | .int _ x => x
  | _ => 0
theorem cell_lt {w : World} {a : Addr} {v : Value} (h : w.cell? a = some v) : a.block < w.heap.size := by
  unfold World.cell? at h
  split at h
  · rename_i c t f hh
    exact (Array.getElem?_eq_some_iff.1 hh).1
  · cases h
set_option maxRecDepth 100000 in
theorem open_posts {w : World} {r : Reach} {b0 : Nat} {v : Value} {d : DataW H} {p : List MemPlace} (hv : Value.okWide Tryz.prog w r b0 27 v) (h : DataW.Trod enc Tryz.prog w base spare held 27 v d p) :
    ∃ P : List Po, Posts w v P ∧ (∀ x ∈ P, in64 x.day ∧ in64 x.n) ∧ P.length ≤ 9223372036854775807 := by
  obtain ⟨a, len, cap, rfl⟩ := okWide_slice Tryz.underlying27 hv
  obtain ⟨fuel, hf⟩ := h
  rcases Go.Deep.open_slice_pairs Tryz.underlying27 Tryz.underlying32 (by kernel_rfl) rfl rfl (by kernel_rfl) (by kernel_rfl) hf with ⟨h1, _⟩ | ⟨ad, len', cap', m, n, V0, V1, D0, D1, P0, P1, h1, _, hlc, hcm, hm, _, hel⟩
  · simp [Value.cells] at h1
    obtain ⟨rfl, rfl, rfl⟩ := h1
    exact ⟨[], Posts.nil w, by simp, by simp⟩
  · simp [Value.cells] at h1
    obtain ⟨rfl, rfl, rfl⟩ := h1
    have hlm : len ≤ m := by rw [hm]; split <;> omega
    have key : ∀ i, i < len → ∃ x y : Int, V0 i = .int .i64 x ∧ V1 i = .int .i64 y ∧ in64 x ∧ in64 y := by
      intro i hi
      obtain ⟨_, _, g0, g1⟩ := hel i (by omega)
      obtain ⟨x, e0, _, s0⟩ := DataW.trod_int Tryz.underlying3 g0
      obtain ⟨y, e1, _, s1⟩ := DataW.trod_int Tryz.underlying2 g1
      simp only [List.cons.injEq, and_true] at e0 e1
      exact ⟨x, y, e0, e1, wf64_bd s0, wf64_bd s1⟩
    refine ⟨(List.range len).map fun i => ⟨iOf (V0 i), iOf (V1 i)⟩, ⟨some ad, cap, by simp, fun i x hx => ?_⟩, ?_, by simp; unfold maxLen at hcm; omega⟩
    · simp only [List.getElem?_map, Option.map_eq_some_iff, List.getElem?_range] at hx
      obtain ⟨j, hj, rfl⟩ := hx
      have hij : i < len ∧ j = i := by
        rw [List.getElem?_eq_some_iff] at hj
        obtain ⟨h1, h2⟩ := hj
        simp at h1 h2
        exact ⟨h1, h2.symm⟩
      obtain ⟨hi, rfl⟩ := hij
      obtain ⟨x, y, e0, e1, _, _⟩ := key j hi
      obtain ⟨k0, k1, _, _⟩ := hel j (by omega)
      obtain ⟨z0, _, _, _⟩ := hel 0 (by omega)
      obtain ⟨b, o, spot⟩ := ad
      have hsp : spot = none := by simpa [Addr.add] using World.cell?_spot z0
      subst hsp
      have c0 : w.cell? ⟨b, o + j * 2, none⟩ = some (V0 j) := by
        rw [← k0]
        by_cases h0 : j = 0
        · subst h0; simp [Addr.add]
        · have h2 : j * 2 ≠ 0 := by omega
          simp [Addr.add, h2]
      have c1 : w.cell? ⟨b, o + j * 2 + 1, none⟩ = some (V1 j) := by
        rw [← k1]
        simp [Addr.add, Nat.add_assoc]
      rw [e0] at c0
      rw [e1] at c1
      exact ⟨b, o, rfl, cell_lt c0, by rw [e0]; exact c0, by rw [e1]; exact c1⟩
    · intro x hx
      simp only [List.mem_map, List.mem_range] at hx
      obtain ⟨i, hi, rfl⟩ := hx
      obtain ⟨x, y, e0, e1, h0, h1⟩ := key i hi
      rw [e0, e1]
      exact ⟨h0, h1⟩
end
end Go.Proofs.YtjhhmeoibfdcmaaGreat
