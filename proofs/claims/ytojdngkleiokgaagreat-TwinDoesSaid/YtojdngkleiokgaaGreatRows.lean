/-
  No cell of these rows narrows 'for every input' (looked for: loops, veiled, ifaces, maps, wideKeys, modest, calm, conditions, laid).
  DERIVED. THE GIVEN ROWS OF THIS SEAT. 5 by the template 'for every input the law returns true; each argument reads behind the call as it read before'; 0 by the template 'total and deterministic' (their statements: YtojdngkleiokgaaGreatTotals.lean).
  GIVEN WITH THE SEED: the statements are not yours to turn. If you find one false, say at which input.
  Laid BY PROGRAM, IN A SANDBOX (cutbox-rows.mjs): the forced cells as the released guide's own fill.sh prints them over the translation c250a5c001e63a56… (all of the seat's roots in one cut). By AI agents, Wed Nov 11 2026. No macro, syntax, notation, axiom, sorry.
-/
import Derived.Test.YtojdngkleiokgaaGreatChecked
import GoSem.Claim
import GoSem.ClaimJoined
import GoSem.ClaimMapViews
import Derived.JoinedTies
import Derived.KernelRfl
namespace Go.Proofs.YtojdngkleiokgaaGreat
/- THE CELL 'sum', in the pinned program and in every row, IS THE sha256 OF THE DUMP (.gsa) THAT YtojdngkleiokgaaGreatProg.lean LOADS. Nothing in Lean hashes anything: it is a label: what it is worth is what the hold of that sum in a sandbox is worth. -/
noncomputable def Tryz.pinned : Pinned := { name := "ytojdngkleiokgaagreat", sum := "c250a5c001e63a562a82b94644dd4a79e5fc8bd41b7bbe8a89651c82d06103bd", checked := Tryz.checked }
namespace Rows
def none {H : Type} : Left H := { results := [], args := [] }

/-- 'quarterdaylaw17.FindLists': WHATEVER THE INPUT: true; the input reads as it did. -/
def findListsSpec : ChangeSpec := { name := "findLists", fn := fun _ => fun
  | [d1, d2, d3, d4, d5] => { results := [.lit (.bool true)], args := [d1, d2, d3, d4, d5] }
  | _ => none }
def findListsRow : OpenClaim := { program := "ytojdngkleiokgaagreat", sum := "c250a5c001e63a562a82b94644dd4a79e5fc8bd41b7bbe8a89651c82d06103bd", func := "quarterday/quarterdaylaw17.FindLists", spec := "findLists", unfollowed := true, recurses := true, apart := false }
def FindListsSaid : Prop := findListsRow.holds Tryz.pinned (OpenSpec.ofChange findListsSpec)

/-- ITS FALSE NEIGHBOUR: 'it returns false'. Refute it at one input. -/
def findListsWrong : ChangeSpec := { name := "findLists", fn := fun _ => fun
  | [d1, d2, d3, d4, d5] => { results := [.lit (.bool false)], args := [d1, d2, d3, d4, d5] }
  | _ => none }
def FindListsWrongFalsely : Prop := findListsRow.holds Tryz.pinned (OpenSpec.ofChange findListsWrong)

/-- 'quarterdaylaw17.FindDoes': WHATEVER THE INPUT: true; the input reads as it did. -/
def findDoesSpec : ChangeSpec := { name := "findDoes", fn := fun _ => fun
  | [d1, d2, d3, d4] => { results := [.lit (.bool true)], args := [d1, d2, d3, d4] }
  | _ => none }
def findDoesRow : OpenClaim := { program := "ytojdngkleiokgaagreat", sum := "c250a5c001e63a562a82b94644dd4a79e5fc8bd41b7bbe8a89651c82d06103bd", func := "quarterday/quarterdaylaw17.FindDoes", spec := "findDoes", unfollowed := true, recurses := true, apart := false }
def FindDoesSaid : Prop := findDoesRow.holds Tryz.pinned (OpenSpec.ofChange findDoesSpec)

/-- ITS FALSE NEIGHBOUR: 'it returns false'. Refute it at one input. -/
def findDoesWrong : ChangeSpec := { name := "findDoes", fn := fun _ => fun
  | [d1, d2, d3, d4] => { results := [.lit (.bool false)], args := [d1, d2, d3, d4] }
  | _ => none }
def FindDoesWrongFalsely : Prop := findDoesRow.holds Tryz.pinned (OpenSpec.ofChange findDoesWrong)

/-- 'quarterdaylaw19.CompDoes': WHATEVER THE INPUT: true; the input reads as it did. -/
def compDoesSpec : ChangeSpec := { name := "compDoes", fn := fun _ => fun
  | [d1, d2, d3] => { results := [.lit (.bool true)], args := [d1, d2, d3] }
  | _ => none }
def compDoesRow : OpenClaim := { program := "ytojdngkleiokgaagreat", sum := "c250a5c001e63a562a82b94644dd4a79e5fc8bd41b7bbe8a89651c82d06103bd", func := "quarterday/quarterdaylaw19.CompDoes", spec := "compDoes", unfollowed := true, recurses := true, apart := false }
def CompDoesSaid : Prop := compDoesRow.holds Tryz.pinned (OpenSpec.ofChange compDoesSpec)

/-- ITS FALSE NEIGHBOUR: 'it returns false'. Refute it at one input. -/
def compDoesWrong : ChangeSpec := { name := "compDoes", fn := fun _ => fun
  | [d1, d2, d3] => { results := [.lit (.bool false)], args := [d1, d2, d3] }
  | _ => none }
def CompDoesWrongFalsely : Prop := compDoesRow.holds Tryz.pinned (OpenSpec.ofChange compDoesWrong)

/-- 'quarterdaylaw19.CompWeeks': WHATEVER THE INPUT: true; the input reads as it did. -/
def compWeeksSpec : ChangeSpec := { name := "compWeeks", fn := fun _ => fun
  | [d1, d2, d3, d4] => { results := [.lit (.bool true)], args := [d1, d2, d3, d4] }
  | _ => none }
def compWeeksRow : OpenClaim := { program := "ytojdngkleiokgaagreat", sum := "c250a5c001e63a562a82b94644dd4a79e5fc8bd41b7bbe8a89651c82d06103bd", func := "quarterday/quarterdaylaw19.CompWeeks", spec := "compWeeks", unfollowed := true, recurses := true, apart := false }
def CompWeeksSaid : Prop := compWeeksRow.holds Tryz.pinned (OpenSpec.ofChange compWeeksSpec)

/-- ITS FALSE NEIGHBOUR: 'it returns false'. Refute it at one input. -/
def compWeeksWrong : ChangeSpec := { name := "compWeeks", fn := fun _ => fun
  | [d1, d2, d3, d4] => { results := [.lit (.bool false)], args := [d1, d2, d3, d4] }
  | _ => none }
def CompWeeksWrongFalsely : Prop := compWeeksRow.holds Tryz.pinned (OpenSpec.ofChange compWeeksWrong)

/-- 'quarterdaylaw20.TwinDoes': WHATEVER THE INPUT: true; the input reads as it did. -/
def twinDoesSpec : ChangeSpec := { name := "twinDoes", fn := fun _ => fun
  | [d1, d2, d3] => { results := [.lit (.bool true)], args := [d1, d2, d3] }
  | _ => none }
def twinDoesRow : OpenClaim := { program := "ytojdngkleiokgaagreat", sum := "c250a5c001e63a562a82b94644dd4a79e5fc8bd41b7bbe8a89651c82d06103bd", func := "quarterday/quarterdaylaw20.TwinDoes", spec := "twinDoes", unfollowed := true, recurses := true, apart := false }
def TwinDoesSaid : Prop := twinDoesRow.holds Tryz.pinned (OpenSpec.ofChange twinDoesSpec)

/-- ITS FALSE NEIGHBOUR: 'it returns false'. Refute it at one input. -/
def twinDoesWrong : ChangeSpec := { name := "twinDoes", fn := fun _ => fun
  | [d1, d2, d3] => { results := [.lit (.bool false)], args := [d1, d2, d3] }
  | _ => none }
def TwinDoesWrongFalsely : Prop := twinDoesRow.holds Tryz.pinned (OpenSpec.ofChange twinDoesWrong)

/- THE SECOND FORM. 'bulk': how many values and letters a reading holds, each counted each time it is reached (what is shared counts as often as it is met; a slice's spare places count too). A statement '..UptoSaid' is the law's where the arguments, and the package variables that the reading takes, are together of bulk at most 1048576: NARROWER than '..Said'. Prove '..Said' where nothing that the law and all that it calls make is longer than what came in: it says more and counts as full. Else prove '..UptoSaid'. A law counts once. -/
mutual
def uptoBulk {H : Type} : DataW H → Nat
  | .lit (.string bytes) => bytes.length + 1
  | .lit _ => 1
  | .nil => 1
  | .ptr d => uptoBulk d + 1
  | .slice elems spare => uptoBulkAll elems + uptoBulkAll spare + 1
  | .agg parts => uptoBulkAll parts + 1
  | .iface _ d => uptoBulk d + 1
  | .map entries => uptoBulkEntries entries + 1
  | .held _ => 1
def uptoBulkAll {H : Type} : List (DataW H) → Nat
  | [] => 0
  | d :: r => uptoBulk d + uptoBulkAll r
def uptoBulkEntries {H : Type} : List (Lit × DataW H) → Nat
  | [] => 0
  | x :: r => uptoBulkEntry x + uptoBulkEntries r
def uptoBulkEntry {H : Type} : Lit × DataW H → Nat
  | (.string bytes, d) => bytes.length + uptoBulk d + 1
  | (_, d) => uptoBulk d + 1
 end
def uptoSmall : (H : Type) → List (DataW H) → Bool := fun _ ds => decide (uptoBulkAll ds ≤ 1048576)
def OpenSpec.upto (s : _root_.Go.ChangeSpec) : _root_.Go.OpenSpec := { _root_.Go.OpenSpec.ofChange s with cond := some uptoSmall }

/-- 'quarterdaylaw17.FindLists', WHERE WHAT IT READS IS OF BULK AT MOST 1048576: true; the input reads as it did. -/
def findListsUptoRow : OpenClaim := { program := "ytojdngkleiokgaagreat", sum := "c250a5c001e63a562a82b94644dd4a79e5fc8bd41b7bbe8a89651c82d06103bd", func := "quarterday/quarterdaylaw17.FindLists", spec := "findLists", unfollowed := true, recurses := true, apart := false, narrowed := true }
def FindListsUptoSaid : Prop := findListsUptoRow.holds Tryz.pinned (OpenSpec.upto findListsSpec)

/-- 'quarterdaylaw17.FindDoes', WHERE WHAT IT READS IS OF BULK AT MOST 1048576: true; the input reads as it did. -/
def findDoesUptoRow : OpenClaim := { program := "ytojdngkleiokgaagreat", sum := "c250a5c001e63a562a82b94644dd4a79e5fc8bd41b7bbe8a89651c82d06103bd", func := "quarterday/quarterdaylaw17.FindDoes", spec := "findDoes", unfollowed := true, recurses := true, apart := false, narrowed := true }
def FindDoesUptoSaid : Prop := findDoesUptoRow.holds Tryz.pinned (OpenSpec.upto findDoesSpec)

/-- 'quarterdaylaw19.CompDoes', WHERE WHAT IT READS IS OF BULK AT MOST 1048576: true; the input reads as it did. -/
def compDoesUptoRow : OpenClaim := { program := "ytojdngkleiokgaagreat", sum := "c250a5c001e63a562a82b94644dd4a79e5fc8bd41b7bbe8a89651c82d06103bd", func := "quarterday/quarterdaylaw19.CompDoes", spec := "compDoes", unfollowed := true, recurses := true, apart := false, narrowed := true }
def CompDoesUptoSaid : Prop := compDoesUptoRow.holds Tryz.pinned (OpenSpec.upto compDoesSpec)

/-- 'quarterdaylaw19.CompWeeks', WHERE WHAT IT READS IS OF BULK AT MOST 1048576: true; the input reads as it did. -/
def compWeeksUptoRow : OpenClaim := { program := "ytojdngkleiokgaagreat", sum := "c250a5c001e63a562a82b94644dd4a79e5fc8bd41b7bbe8a89651c82d06103bd", func := "quarterday/quarterdaylaw19.CompWeeks", spec := "compWeeks", unfollowed := true, recurses := true, apart := false, narrowed := true }
def CompWeeksUptoSaid : Prop := compWeeksUptoRow.holds Tryz.pinned (OpenSpec.upto compWeeksSpec)

/-- 'quarterdaylaw20.TwinDoes', WHERE WHAT IT READS IS OF BULK AT MOST 1048576: true; the input reads as it did. -/
def twinDoesUptoRow : OpenClaim := { program := "ytojdngkleiokgaagreat", sum := "c250a5c001e63a562a82b94644dd4a79e5fc8bd41b7bbe8a89651c82d06103bd", func := "quarterday/quarterdaylaw20.TwinDoes", spec := "twinDoes", unfollowed := true, recurses := true, apart := false, narrowed := true }
def TwinDoesUptoSaid : Prop := twinDoesUptoRow.holds Tryz.pinned (OpenSpec.upto twinDoesSpec)

end Rows
end Go.Proofs.YtojdngkleiokgaaGreat
