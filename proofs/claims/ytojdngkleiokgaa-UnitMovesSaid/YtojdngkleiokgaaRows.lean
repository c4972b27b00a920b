/-
  No cell of these rows narrows 'for every input' (looked for: loops, veiled, ifaces, maps, wideKeys, modest, calm, conditions, laid).
  DERIVED. THE GIVEN ROWS OF THIS SEAT. 4 by the template 'for every input the law returns true; each argument reads behind the call as it read before'; 0 by the template 'total and deterministic' (their statements: YtojdngkleiokgaaTotals.lean).
  GIVEN WITH THE SEED: the statements are not yours to turn. If you find one false, say at which input.
  Laid BY PROGRAM, IN A SANDBOX (cutbox-rows.mjs): the forced cells as the released guide's own fill.sh prints them over the translation d1b031aff7bc9369… (all of the seat's roots in one cut). By AI agents, Wed Nov 11 2026. No macro, syntax, notation, axiom, sorry.
-/
import Derived.Test.YtojdngkleiokgaaChecked
import GoSem.Claim
import GoSem.ClaimJoined
import GoSem.ClaimMapViews
import Derived.JoinedTies
import Derived.KernelRfl
namespace Go.Proofs.Ytojdngkleiokgaa
/- THE CELL 'sum', in the pinned program and in every row, IS THE sha256 OF THE DUMP (.gsa) THAT YtojdngkleiokgaaProg.lean LOADS. Nothing in Lean hashes anything: it is a label: what it is worth is what the hold of that sum in a sandbox is worth. -/
noncomputable def Try.pinned : Pinned := { name := "ytojdngkleiokgaa", sum := "d1b031aff7bc93695660de48619e543705e09cc2ed41dcf334ae3c52b2d1c8ed", checked := Try.checked }
namespace Rows
def none {H : Type} : Left H := { results := [], args := [] }

/-- 'quarterdaylaw15.ShapeQuarters': WHATEVER THE INPUT: true; the input reads as it did. -/
def shapeQuartersSpec : ChangeSpec := { name := "shapeQuarters", fn := fun _ => fun
  | [d1, d2] => { results := [.lit (.bool true)], args := [d1, d2] }
  | _ => none }
def shapeQuartersRow : OpenClaim := { program := "ytojdngkleiokgaa", sum := "d1b031aff7bc93695660de48619e543705e09cc2ed41dcf334ae3c52b2d1c8ed", func := "quarterday/quarterdaylaw15.ShapeQuarters", spec := "shapeQuarters", unfollowed := true, recurses := true, apart := false }
def ShapeQuartersSaid : Prop := shapeQuartersRow.holds Try.pinned (OpenSpec.ofChange shapeQuartersSpec)

/-- ITS FALSE NEIGHBOUR: 'it returns false'. Refute it at one input. -/
def shapeQuartersWrong : ChangeSpec := { name := "shapeQuarters", fn := fun _ => fun
  | [d1, d2] => { results := [.lit (.bool false)], args := [d1, d2] }
  | _ => none }
def ShapeQuartersWrongFalsely : Prop := shapeQuartersRow.holds Try.pinned (OpenSpec.ofChange shapeQuartersWrong)

/-- 'quarterdaylaw15.ShapeDoes': WHATEVER THE INPUT: true; the input reads as it did. -/
def shapeDoesSpec : ChangeSpec := { name := "shapeDoes", fn := fun _ => fun
  | [d1, d2] => { results := [.lit (.bool true)], args := [d1, d2] }
  | _ => none }
def shapeDoesRow : OpenClaim := { program := "ytojdngkleiokgaa", sum := "d1b031aff7bc93695660de48619e543705e09cc2ed41dcf334ae3c52b2d1c8ed", func := "quarterday/quarterdaylaw15.ShapeDoes", spec := "shapeDoes", unfollowed := true, recurses := true, apart := false }
def ShapeDoesSaid : Prop := shapeDoesRow.holds Try.pinned (OpenSpec.ofChange shapeDoesSpec)

/-- ITS FALSE NEIGHBOUR: 'it returns false'. Refute it at one input. -/
def shapeDoesWrong : ChangeSpec := { name := "shapeDoes", fn := fun _ => fun
  | [d1, d2] => { results := [.lit (.bool false)], args := [d1, d2] }
  | _ => none }
def ShapeDoesWrongFalsely : Prop := shapeDoesRow.holds Try.pinned (OpenSpec.ofChange shapeDoesWrong)

/-- 'quarterdaylaw16.UnitMoves': WHATEVER THE INPUT: true; the input reads as it did. -/
def unitMovesSpec : ChangeSpec := { name := "unitMoves", fn := fun _ => fun
  | [d1, d2, d3] => { results := [.lit (.bool true)], args := [d1, d2, d3] }
  | _ => none }
def unitMovesRow : OpenClaim := { program := "ytojdngkleiokgaa", sum := "d1b031aff7bc93695660de48619e543705e09cc2ed41dcf334ae3c52b2d1c8ed", func := "quarterday/quarterdaylaw16.UnitMoves", spec := "unitMoves", unfollowed := true, recurses := true, apart := false }
def UnitMovesSaid : Prop := unitMovesRow.holds Try.pinned (OpenSpec.ofChange unitMovesSpec)

/-- ITS FALSE NEIGHBOUR: 'it returns false'. Refute it at one input. -/
def unitMovesWrong : ChangeSpec := { name := "unitMoves", fn := fun _ => fun
  | [d1, d2, d3] => { results := [.lit (.bool false)], args := [d1, d2, d3] }
  | _ => none }
def UnitMovesWrongFalsely : Prop := unitMovesRow.holds Try.pinned (OpenSpec.ofChange unitMovesWrong)

/-- 'quarterdaylaw16.UnitDoes': WHATEVER THE INPUT: true; the input reads as it did. -/
def unitDoesSpec : ChangeSpec := { name := "unitDoes", fn := fun _ => fun
  | [d1, d2] => { results := [.lit (.bool true)], args := [d1, d2] }
  | _ => none }
def unitDoesRow : OpenClaim := { program := "ytojdngkleiokgaa", sum := "d1b031aff7bc93695660de48619e543705e09cc2ed41dcf334ae3c52b2d1c8ed", func := "quarterday/quarterdaylaw16.UnitDoes", spec := "unitDoes", unfollowed := true, recurses := true, apart := false }
def UnitDoesSaid : Prop := unitDoesRow.holds Try.pinned (OpenSpec.ofChange unitDoesSpec)

/-- ITS FALSE NEIGHBOUR: 'it returns false'. Refute it at one input. -/
def unitDoesWrong : ChangeSpec := { name := "unitDoes", fn := fun _ => fun
  | [d1, d2] => { results := [.lit (.bool false)], args := [d1, d2] }
  | _ => none }
def UnitDoesWrongFalsely : Prop := unitDoesRow.holds Try.pinned (OpenSpec.ofChange unitDoesWrong)

/- THE SECOND FORM. 'bulk': how many values and letters a reading holds, each counted each time it is reached (what is shared counts as often as it is met; a slice's spare places count too). A statement '..UptoSaid' is the law's where the arguments, and the package variables that the reading takes, are together of bulk at most 1048576: NARROWER than '..Said'. Prove '..Said' where nothing that the law and all that it calls make is longer than what came in: it says more and counts as full. Else prove '..UptoSaid'. A law counts once. -/
mutual
def uptoBulk {H : Type} : DataW H → Nat
  | .lit (.string bytes) => bytes.length + 1
  | .lit _ => 1
  | .nil => 1
  | .ptr d => uptoBulk d + 1
  | .slice elems spare => uptoBulkAll elems + uptoBulkAll spare + 1
  | .agg parts => uptoBulkAll parts + 1
  | .iface _ d => uptoBulk d + 1
  | .map entries => uptoBulkEntries entries + 1
  | .held _ => 1
def uptoBulkAll {H : Type} : List (DataW H) → Nat
  | [] => 0
  | d :: r => uptoBulk d + uptoBulkAll r
def uptoBulkEntries {H : Type} : List (Lit × DataW H) → Nat
  | [] => 0
  | x :: r => uptoBulkEntry x + uptoBulkEntries r
def uptoBulkEntry {H : Type} : Lit × DataW H → Nat
  | (.string bytes, d) => bytes.length + uptoBulk d + 1
  | (_, d) => uptoBulk d + 1
 end
def uptoSmall : (H : Type) → List (DataW H) → Bool := fun _ ds => decide (uptoBulkAll ds ≤ 1048576)
def OpenSpec.upto (s : _root_.Go.ChangeSpec) : _root_.Go.OpenSpec := { _root_.Go.OpenSpec.ofChange s with cond := some uptoSmall }

/-- 'quarterdaylaw15.ShapeQuarters', WHERE WHAT IT READS IS OF BULK AT MOST 1048576: true; the input reads as it did. -/
def shapeQuartersUptoRow : OpenClaim := { program := "ytojdngkleiokgaa", sum := "d1b031aff7bc93695660de48619e543705e09cc2ed41dcf334ae3c52b2d1c8ed", func := "quarterday/quarterdaylaw15.ShapeQuarters", spec := "shapeQuarters", unfollowed := true, recurses := true, apart := false, narrowed := true }
def ShapeQuartersUptoSaid : Prop := shapeQuartersUptoRow.holds Try.pinned (OpenSpec.upto shapeQuartersSpec)

/-- 'quarterdaylaw15.ShapeDoes', WHERE WHAT IT READS IS OF BULK AT MOST 1048576: true; the input reads as it did. -/
def shapeDoesUptoRow : OpenClaim := { program := "ytojdngkleiokgaa", sum := "d1b031aff7bc93695660de48619e543705e09cc2ed41dcf334ae3c52b2d1c8ed", func := "quarterday/quarterdaylaw15.ShapeDoes", spec := "shapeDoes", unfollowed := true, recurses := true, apart := false, narrowed := true }
def ShapeDoesUptoSaid : Prop := shapeDoesUptoRow.holds Try.pinned (OpenSpec.upto shapeDoesSpec)

/-- 'quarterdaylaw16.UnitMoves', WHERE WHAT IT READS IS OF BULK AT MOST 1048576: true; the input reads as it did. -/
def unitMovesUptoRow : OpenClaim := { program := "ytojdngkleiokgaa", sum := "d1b031aff7bc93695660de48619e543705e09cc2ed41dcf334ae3c52b2d1c8ed", func := "quarterday/quarterdaylaw16.UnitMoves", spec := "unitMoves", unfollowed := true, recurses := true, apart := false, narrowed := true }
def UnitMovesUptoSaid : Prop := unitMovesUptoRow.holds Try.pinned (OpenSpec.upto unitMovesSpec)

/-- 'quarterdaylaw16.UnitDoes', WHERE WHAT IT READS IS OF BULK AT MOST 1048576: true; the input reads as it did. -/
def unitDoesUptoRow : OpenClaim := { program := "ytojdngkleiokgaa", sum := "d1b031aff7bc93695660de48619e543705e09cc2ed41dcf334ae3c52b2d1c8ed", func := "quarterday/quarterdaylaw16.UnitDoes", spec := "unitDoes", unfollowed := true, recurses := true, apart := false, narrowed := true }
def UnitDoesUptoSaid : Prop := unitDoesUptoRow.holds Try.pinned (OpenSpec.upto unitDoesSpec)

end Rows
end Go.Proofs.Ytojdngkleiokgaa
