/- Units and spans that a law takes. -/
import Derived.Test.YtepmfpgljcbkmaaRow
import Derived.Test.YtepmfpgljcbkmaaUnitV
namespace Go.Proofs.Ytepmfpgljcbkmaa
open Go.ChangeShapes Go.WideShapes Go.ChangeAt Go.RowKit Qd
set_option linter.unusedSimpArgs false
set_option linter.unusedVariables false
section
variable {H : Type} {enc : TypeId × Value → H} {base : Nat} {spare : Nat → Bool} {held : Bool}
theorem cells_unit : Try.prog.cellsOf 35 = 3 := by kernel_rfl
def UnWf (u : Un) : Prop := wf64 u.lv ∧ wf64 u.yr ∧ wf64 u.ix
def SpWf (s : Sp) : Prop := wf64 s.a ∧ wf64 s.b
set_option maxRecDepth 100000 in
theorem open_unit {w : World} {r : Reach} {b0 : Nat} {v : Value} {d : DataW H} {p : List MemPlace} (hv : Value.okWide Try.prog w r b0 35 v) (h : DataW.Trod enc Try.prog w base spare held 35 v d p) :
    ∃ u : Un, v = unitV u ∧ UnWf u := by
  obtain ⟨cs, rfl, hsz⟩ := okWide_struct Try.underlying35 hv
  rw [cells_unit] at hsz
  obtain ⟨l⟩ := cs
  match l, hsz with
  | [c0, c1, c2], _ =>
    obtain ⟨fuel, hf⟩ := h
    obtain ⟨xs, n, _, hx, _, hlen, hg⟩ := DataW.trod_struct Try.underlying35 hf
    match xs, hlen with
    | [y0, y1, y2], _ =>
      have g0 := hg 0 _ rfl
      have g1 := hg 1 _ rfl
      have g2 := hg 2 _ rfl
      simp [Value.cells, cells_int] at g0 g1 g2
      obtain ⟨x0, e0, _, s0⟩ := DataW.trod_int Try.underlying3 g0
      obtain ⟨x1, e1, _, s1⟩ := DataW.trod_int Try.underlying3 g1
      obtain ⟨x2, e2, _, s2⟩ := DataW.trod_int Try.underlying3 g2
      simp only [List.cons.injEq, and_true] at e0 e1 e2
      subst e0 e1 e2
      exact ⟨⟨x0, x1, x2⟩, rfl, s0, s1, s2⟩
end
end Go.Proofs.Ytepmfpgljcbkmaa
