/-
  No cell of these rows narrows 'for every input' (looked for: loops, veiled, ifaces, maps, wideKeys, modest, calm, conditions, laid).
  DERIVED. THE GIVEN ROWS OF THIS SEAT. 8 by the template 'for every input the law returns true; each argument reads behind the call as it read before'; 0 by the template 'total and deterministic' (their statements: YtcmdcgmpdjjgcaaTotals.lean).
  GIVEN WITH THE SEED: the statements are not yours to turn. If you find one false, say at which input.
  Laid BY PROGRAM, IN A SANDBOX (cutbox-rows.mjs): the forced cells as the released guide's own fill.sh prints them over the translation f0adcf15af2c23c5… (all of the seat's roots in one cut). By AI agents, Wed Nov 11 2026. No macro, syntax, notation, axiom, sorry.
-/
import Derived.Test.YtcmdcgmpdjjgcaaChecked
import GoSem.Claim
import GoSem.ClaimJoined
import GoSem.ClaimMapViews
import Derived.JoinedTies
import Derived.KernelRfl
namespace Go.Proofs.Ytcmdcgmpdjjgcaa
/- THE CELL 'sum', in the pinned program and in every row, IS THE sha256 OF THE DUMP (.gsa) THAT YtcmdcgmpdjjgcaaProg.lean LOADS. Nothing in Lean hashes anything: it is a label: what it is worth is what the hold of that sum in a sandbox is worth. -/
noncomputable def Try.pinned : Pinned := { name := "ytcmdcgmpdjjgcaa", sum := "f0adcf15af2c23c588bc8592d5d3fddc650f9d14c73f17d5e6b28763da592826", checked := Try.checked }
namespace Rows
def none {H : Type} : Left H := { results := [], args := [] }

/-- 'quarterdaylaw15.ShapeQuarters': WHATEVER THE INPUT: true; the input reads as it did. -/
def shapeQuartersSpec : ChangeSpec := { name := "shapeQuarters", fn := fun _ => fun
  | [d1, d2] => { results := [.lit (.bool true)], args := [d1, d2] }
  | _ => none }
def shapeQuartersRow : OpenClaim := { program := "ytcmdcgmpdjjgcaa", sum := "f0adcf15af2c23c588bc8592d5d3fddc650f9d14c73f17d5e6b28763da592826", func := "quarterday/quarterdaylaw15.ShapeQuarters", spec := "shapeQuarters", unfollowed := true, recurses := true, apart := false }
def ShapeQuartersSaid : Prop := shapeQuartersRow.holds Try.pinned (OpenSpec.ofChange shapeQuartersSpec)

/-- ITS FALSE NEIGHBOUR: 'it returns false'. Refute it at one input. -/
def shapeQuartersWrong : ChangeSpec := { name := "shapeQuarters", fn := fun _ => fun
  | [d1, d2] => { results := [.lit (.bool false)], args := [d1, d2] }
  | _ => none }
def ShapeQuartersWrongFalsely : Prop := shapeQuartersRow.holds Try.pinned (OpenSpec.ofChange shapeQuartersWrong)

/-- 'quarterdaylaw15.ShapeHalves': WHATEVER THE INPUT: true; the input reads as it did. -/
def shapeHalvesSpec : ChangeSpec := { name := "shapeHalves", fn := fun _ => fun
  | [d] => { results := [.lit (.bool true)], args := [d] }
  | _ => none }
def shapeHalvesRow : OpenClaim := { program := "ytcmdcgmpdjjgcaa", sum := "f0adcf15af2c23c588bc8592d5d3fddc650f9d14c73f17d5e6b28763da592826", func := "quarterday/quarterdaylaw15.ShapeHalves", spec := "shapeHalves", unfollowed := true, recurses := true, apart := false }
def ShapeHalvesSaid : Prop := shapeHalvesRow.holds Try.pinned (OpenSpec.ofChange shapeHalvesSpec)

/-- ITS FALSE NEIGHBOUR: 'it returns false'. Refute it at one input. -/
def shapeHalvesWrong : ChangeSpec := { name := "shapeHalves", fn := fun _ => fun
  | [d] => { results := [.lit (.bool false)], args := [d] }
  | _ => none }
def ShapeHalvesWrongFalsely : Prop := shapeHalvesRow.holds Try.pinned (OpenSpec.ofChange shapeHalvesWrong)

/-- 'quarterdaylaw15.ShapeBroad': WHATEVER THE INPUT: true; the input reads as it did. -/
def shapeBroadSpec : ChangeSpec := { name := "shapeBroad", fn := fun _ => fun
  | [d1, d2] => { results := [.lit (.bool true)], args := [d1, d2] }
  | _ => none }
def shapeBroadRow : OpenClaim := { program := "ytcmdcgmpdjjgcaa", sum := "f0adcf15af2c23c588bc8592d5d3fddc650f9d14c73f17d5e6b28763da592826", func := "quarterday/quarterdaylaw15.ShapeBroad", spec := "shapeBroad", unfollowed := true, recurses := true, apart := false }
def ShapeBroadSaid : Prop := shapeBroadRow.holds Try.pinned (OpenSpec.ofChange shapeBroadSpec)

/-- ITS FALSE NEIGHBOUR: 'it returns false'. Refute it at one input. -/
def shapeBroadWrong : ChangeSpec := { name := "shapeBroad", fn := fun _ => fun
  | [d1, d2] => { results := [.lit (.bool false)], args := [d1, d2] }
  | _ => none }
def ShapeBroadWrongFalsely : Prop := shapeBroadRow.holds Try.pinned (OpenSpec.ofChange shapeBroadWrong)

/-- 'quarterdaylaw15.ShapeWeeks': WHATEVER THE INPUT: true; the input reads as it did. -/
def shapeWeeksSpec : ChangeSpec := { name := "shapeWeeks", fn := fun _ => fun
  | [d1, d2] => { results := [.lit (.bool true)], args := [d1, d2] }
  | _ => none }
def shapeWeeksRow : OpenClaim := { program := "ytcmdcgmpdjjgcaa", sum := "f0adcf15af2c23c588bc8592d5d3fddc650f9d14c73f17d5e6b28763da592826", func := "quarterday/quarterdaylaw15.ShapeWeeks", spec := "shapeWeeks", unfollowed := true, recurses := true, apart := false }
def ShapeWeeksSaid : Prop := shapeWeeksRow.holds Try.pinned (OpenSpec.ofChange shapeWeeksSpec)

/-- ITS FALSE NEIGHBOUR: 'it returns false'. Refute it at one input. -/
def shapeWeeksWrong : ChangeSpec := { name := "shapeWeeks", fn := fun _ => fun
  | [d1, d2] => { results := [.lit (.bool false)], args := [d1, d2] }
  | _ => none }
def ShapeWeeksWrongFalsely : Prop := shapeWeeksRow.holds Try.pinned (OpenSpec.ofChange shapeWeeksWrong)

/-- 'quarterdaylaw15.ShapeEnds': WHATEVER THE INPUT: true; the input reads as it did. -/
def shapeEndsSpec : ChangeSpec := { name := "shapeEnds", fn := fun _ => fun
  | [d1, d2] => { results := [.lit (.bool true)], args := [d1, d2] }
  | _ => none }
def shapeEndsRow : OpenClaim := { program := "ytcmdcgmpdjjgcaa", sum := "f0adcf15af2c23c588bc8592d5d3fddc650f9d14c73f17d5e6b28763da592826", func := "quarterday/quarterdaylaw15.ShapeEnds", spec := "shapeEnds", unfollowed := true, recurses := true, apart := false }
def ShapeEndsSaid : Prop := shapeEndsRow.holds Try.pinned (OpenSpec.ofChange shapeEndsSpec)

/-- ITS FALSE NEIGHBOUR: 'it returns false'. Refute it at one input. -/
def shapeEndsWrong : ChangeSpec := { name := "shapeEnds", fn := fun _ => fun
  | [d1, d2] => { results := [.lit (.bool false)], args := [d1, d2] }
  | _ => none }
def ShapeEndsWrongFalsely : Prop := shapeEndsRow.holds Try.pinned (OpenSpec.ofChange shapeEndsWrong)

/-- 'quarterdaylaw15.ShapeMonths': WHATEVER THE INPUT: true; the input reads as it did. -/
def shapeMonthsSpec : ChangeSpec := { name := "shapeMonths", fn := fun _ => fun
  | [d1, d2] => { results := [.lit (.bool true)], args := [d1, d2] }
  | _ => none }
def shapeMonthsRow : OpenClaim := { program := "ytcmdcgmpdjjgcaa", sum := "f0adcf15af2c23c588bc8592d5d3fddc650f9d14c73f17d5e6b28763da592826", func := "quarterday/quarterdaylaw15.ShapeMonths", spec := "shapeMonths", unfollowed := true, recurses := true, apart := false }
def ShapeMonthsSaid : Prop := shapeMonthsRow.holds Try.pinned (OpenSpec.ofChange shapeMonthsSpec)

/-- ITS FALSE NEIGHBOUR: 'it returns false'. Refute it at one input. -/
def shapeMonthsWrong : ChangeSpec := { name := "shapeMonths", fn := fun _ => fun
  | [d1, d2] => { results := [.lit (.bool false)], args := [d1, d2] }
  | _ => none }
def ShapeMonthsWrongFalsely : Prop := shapeMonthsRow.holds Try.pinned (OpenSpec.ofChange shapeMonthsWrong)

/-- 'quarterdaylaw15.ShapeDoes': WHATEVER THE INPUT: true; the input reads as it did. -/
def shapeDoesSpec : ChangeSpec := { name := "shapeDoes", fn := fun _ => fun
  | [d1, d2] => { results := [.lit (.bool true)], args := [d1, d2] }
  | _ => none }
def shapeDoesRow : OpenClaim := { program := "ytcmdcgmpdjjgcaa", sum := "f0adcf15af2c23c588bc8592d5d3fddc650f9d14c73f17d5e6b28763da592826", func := "quarterday/quarterdaylaw15.ShapeDoes", spec := "shapeDoes", unfollowed := true, recurses := true, apart := false }
def ShapeDoesSaid : Prop := shapeDoesRow.holds Try.pinned (OpenSpec.ofChange shapeDoesSpec)

/-- ITS FALSE NEIGHBOUR: 'it returns false'. Refute it at one input. -/
def shapeDoesWrong : ChangeSpec := { name := "shapeDoes", fn := fun _ => fun
  | [d1, d2] => { results := [.lit (.bool false)], args := [d1, d2] }
  | _ => none }
def ShapeDoesWrongFalsely : Prop := shapeDoesRow.holds Try.pinned (OpenSpec.ofChange shapeDoesWrong)

/-- 'quarterdaylaw15.ShapeAdded': WHATEVER THE INPUT: true; the input reads as it did. -/
def shapeAddedSpec : ChangeSpec := { name := "shapeAdded", fn := fun _ => fun
  | [d1, d2] => { results := [.lit (.bool true)], args := [d1, d2] }
  | _ => none }
def shapeAddedRow : OpenClaim := { program := "ytcmdcgmpdjjgcaa", sum := "f0adcf15af2c23c588bc8592d5d3fddc650f9d14c73f17d5e6b28763da592826", func := "quarterday/quarterdaylaw15.ShapeAdded", spec := "shapeAdded", unfollowed := true, recurses := true, apart := false }
def ShapeAddedSaid : Prop := shapeAddedRow.holds Try.pinned (OpenSpec.ofChange shapeAddedSpec)

/-- ITS FALSE NEIGHBOUR: 'it returns false'. Refute it at one input. -/
def shapeAddedWrong : ChangeSpec := { name := "shapeAdded", fn := fun _ => fun
  | [d1, d2] => { results := [.lit (.bool false)], args := [d1, d2] }
  | _ => none }
def ShapeAddedWrongFalsely : Prop := shapeAddedRow.holds Try.pinned (OpenSpec.ofChange shapeAddedWrong)

/- THE SECOND FORM. 'bulk': how many values and letters a reading holds, each counted each time it is reached (what is shared counts as often as it is met; a slice's spare places count too). A statement '..UptoSaid' is the law's where the arguments, and the package variables that the reading takes, are together of bulk at most 1048576: NARROWER than '..Said'. Prove '..Said' where nothing that the law and all that it calls make is longer than what came in: it says more and counts as full. Else prove '..UptoSaid'. A law counts once. -/
mutual
def uptoBulk {H : Type} : DataW H → Nat
  | .lit (.string bytes) => bytes.length + 1
  | .lit _ => 1
  | .nil => 1
  | .ptr d => uptoBulk d + 1
  | .slice elems spare => uptoBulkAll elems + uptoBulkAll spare + 1
  | .agg parts => uptoBulkAll parts + 1
  | .iface _ d => uptoBulk d + 1
  | .map entries => uptoBulkEntries entries + 1
  | .held _ => 1
def uptoBulkAll {H : Type} : List (DataW H) → Nat
  | [] => 0
  | d :: r => uptoBulk d + uptoBulkAll r
def uptoBulkEntries {H : Type} : List (Lit × DataW H) → Nat
  | [] => 0
  | x :: r => uptoBulkEntry x + uptoBulkEntries r
def uptoBulkEntry {H : Type} : Lit × DataW H → Nat
  | (.string bytes, d) => bytes.length + uptoBulk d + 1
  | (_, d) => uptoBulk d + 1
 end
def uptoSmall : (H : Type) → List (DataW H) → Bool := fun _ ds => decide (uptoBulkAll ds ≤ 1048576)
def OpenSpec.upto (s : _root_.Go.ChangeSpec) : _root_.Go.OpenSpec := { _root_.Go.OpenSpec.ofChange s with cond := some uptoSmall }

/-- 'quarterdaylaw15.ShapeQuarters', WHERE WHAT IT READS IS OF BULK AT MOST 1048576: true; the input reads as it did. -/
def shapeQuartersUptoRow : OpenClaim := { program := "ytcmdcgmpdjjgcaa", sum := "f0adcf15af2c23c588bc8592d5d3fddc650f9d14c73f17d5e6b28763da592826", func := "quarterday/quarterdaylaw15.ShapeQuarters", spec := "shapeQuarters", unfollowed := true, recurses := true, apart := false, narrowed := true }
def ShapeQuartersUptoSaid : Prop := shapeQuartersUptoRow.holds Try.pinned (OpenSpec.upto shapeQuartersSpec)

/-- 'quarterdaylaw15.ShapeHalves', WHERE WHAT IT READS IS OF BULK AT MOST 1048576: true; the input reads as it did. -/
def shapeHalvesUptoRow : OpenClaim := { program := "ytcmdcgmpdjjgcaa", sum := "f0adcf15af2c23c588bc8592d5d3fddc650f9d14c73f17d5e6b28763da592826", func := "quarterday/quarterdaylaw15.ShapeHalves", spec := "shapeHalves", unfollowed := true, recurses := true, apart := false, narrowed := true }
def ShapeHalvesUptoSaid : Prop := shapeHalvesUptoRow.holds Try.pinned (OpenSpec.upto shapeHalvesSpec)

/-- 'quarterdaylaw15.ShapeBroad', WHERE WHAT IT READS IS OF BULK AT MOST 1048576: true; the input reads as it did. -/
def shapeBroadUptoRow : OpenClaim := { program := "ytcmdcgmpdjjgcaa", sum := "f0adcf15af2c23c588bc8592d5d3fddc650f9d14c73f17d5e6b28763da592826", func := "quarterday/quarterdaylaw15.ShapeBroad", spec := "shapeBroad", unfollowed := true, recurses := true, apart := false, narrowed := true }
def ShapeBroadUptoSaid : Prop := shapeBroadUptoRow.holds Try.pinned (OpenSpec.upto shapeBroadSpec)

/-- 'quarterdaylaw15.ShapeWeeks', WHERE WHAT IT READS IS OF BULK AT MOST 1048576: true; the input reads as it did. -/
def shapeWeeksUptoRow : OpenClaim := { program := "ytcmdcgmpdjjgcaa", sum := "f0adcf15af2c23c588bc8592d5d3fddc650f9d14c73f17d5e6b28763da592826", func := "quarterday/quarterdaylaw15.ShapeWeeks", spec := "shapeWeeks", unfollowed := true, recurses := true, apart := false, narrowed := true }
def ShapeWeeksUptoSaid : Prop := shapeWeeksUptoRow.holds Try.pinned (OpenSpec.upto shapeWeeksSpec)

/-- 'quarterdaylaw15.ShapeEnds', WHERE WHAT IT READS IS OF BULK AT MOST 1048576: true; the input reads as it did. -/
def shapeEndsUptoRow : OpenClaim := { program := "ytcmdcgmpdjjgcaa", sum := "f0adcf15af2c23c588bc8592d5d3fddc650f9d14c73f17d5e6b28763da592826", func := "quarterday/quarterdaylaw15.ShapeEnds", spec := "shapeEnds", unfollowed := true, recurses := true, apart := false, narrowed := true }
def ShapeEndsUptoSaid : Prop := shapeEndsUptoRow.holds Try.pinned (OpenSpec.upto shapeEndsSpec)

/-- 'quarterdaylaw15.ShapeMonths', WHERE WHAT IT READS IS OF BULK AT MOST 1048576: true; the input reads as it did. -/
def shapeMonthsUptoRow : OpenClaim := { program := "ytcmdcgmpdjjgcaa", sum := "f0adcf15af2c23c588bc8592d5d3fddc650f9d14c73f17d5e6b28763da592826", func := "quarterday/quarterdaylaw15.ShapeMonths", spec := "shapeMonths", unfollowed := true, recurses := true, apart := false, narrowed := true }
def ShapeMonthsUptoSaid : Prop := shapeMonthsUptoRow.holds Try.pinned (OpenSpec.upto shapeMonthsSpec)

/-- 'quarterdaylaw15.ShapeDoes', WHERE WHAT IT READS IS OF BULK AT MOST 1048576: true; the input reads as it did. -/
def shapeDoesUptoRow : OpenClaim := { program := "ytcmdcgmpdjjgcaa", sum := "f0adcf15af2c23c588bc8592d5d3fddc650f9d14c73f17d5e6b28763da592826", func := "quarterday/quarterdaylaw15.ShapeDoes", spec := "shapeDoes", unfollowed := true, recurses := true, apart := false, narrowed := true }
def ShapeDoesUptoSaid : Prop := shapeDoesUptoRow.holds Try.pinned (OpenSpec.upto shapeDoesSpec)

/-- 'quarterdaylaw15.ShapeAdded', WHERE WHAT IT READS IS OF BULK AT MOST 1048576: true; the input reads as it did. -/
def shapeAddedUptoRow : OpenClaim := { program := "ytcmdcgmpdjjgcaa", sum := "f0adcf15af2c23c588bc8592d5d3fddc650f9d14c73f17d5e6b28763da592826", func := "quarterday/quarterdaylaw15.ShapeAdded", spec := "shapeAdded", unfollowed := true, recurses := true, apart := false, narrowed := true }
def ShapeAddedUptoSaid : Prop := shapeAddedUptoRow.holds Try.pinned (OpenSpec.upto shapeAddedSpec)

end Rows
end Go.Proofs.Ytcmdcgmpdjjgcaa
