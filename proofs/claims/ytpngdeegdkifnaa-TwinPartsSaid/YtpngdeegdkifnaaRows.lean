/-
  No cell of these rows narrows 'for every input' (looked for: loops, veiled, ifaces, maps, wideKeys, modest, calm, conditions, laid).
  DERIVED. THE GIVEN ROWS OF THIS SEAT. 9 by the template 'for every input the law returns true; each argument reads behind the call as it read before'; 0 by the template 'total and deterministic' (their statements: YtpngdeegdkifnaaTotals.lean).
  GIVEN WITH THE SEED: the statements are not yours to turn. If you find one false, say at which input.
  Laid BY PROGRAM, IN A SANDBOX (cutbox-rows.mjs): the forced cells as the released guide's own fill.sh prints them over the translation bcdf4dbde306b055… (all of the seat's roots in one cut). By AI agents, Wed Nov 11 2026. No macro, syntax, notation, axiom, sorry.
-/
import Derived.Test.YtpngdeegdkifnaaChecked
import GoSem.Claim
import GoSem.ClaimJoined
import GoSem.ClaimMapViews
import Derived.JoinedTies
import Derived.KernelRfl
namespace Go.Proofs.Ytpngdeegdkifnaa
/- THE CELL 'sum', in the pinned program and in every row, IS THE sha256 OF THE DUMP (.gsa) THAT YtpngdeegdkifnaaProg.lean LOADS. Nothing in Lean hashes anything: it is a label: what it is worth is what the hold of that sum in a sandbox is worth. -/
noncomputable def Try.pinned : Pinned := { name := "ytpngdeegdkifnaa", sum := "bcdf4dbde306b055446a0294dbc330d106e66bc1d2faa44564175ec45dee4a47", checked := Try.checked }
namespace Rows
def none {H : Type} : Left H := { results := [], args := [] }

/-- 'quarterdaylaw19.CompEnds': WHATEVER THE INPUT: true; the input reads as it did. -/
def compEndsSpec : ChangeSpec := { name := "compEnds", fn := fun _ => fun
  | [d1, d2, d3, d4] => { results := [.lit (.bool true)], args := [d1, d2, d3, d4] }
  | _ => none }
def compEndsRow : OpenClaim := { program := "ytpngdeegdkifnaa", sum := "bcdf4dbde306b055446a0294dbc330d106e66bc1d2faa44564175ec45dee4a47", func := "quarterday/quarterdaylaw19.CompEnds", spec := "compEnds", unfollowed := true, recurses := true, apart := false }
def CompEndsSaid : Prop := compEndsRow.holds Try.pinned (OpenSpec.ofChange compEndsSpec)

/-- ITS FALSE NEIGHBOUR: 'it returns false'. Refute it at one input. -/
def compEndsWrong : ChangeSpec := { name := "compEnds", fn := fun _ => fun
  | [d1, d2, d3, d4] => { results := [.lit (.bool false)], args := [d1, d2, d3, d4] }
  | _ => none }
def CompEndsWrongFalsely : Prop := compEndsRow.holds Try.pinned (OpenSpec.ofChange compEndsWrong)

/-- 'quarterdaylaw17.FindAll': WHATEVER THE INPUT: true; the input reads as it did. -/
def findAllSpec : ChangeSpec := { name := "findAll", fn := fun _ => fun
  | [d1, d2, d3, d4] => { results := [.lit (.bool true)], args := [d1, d2, d3, d4] }
  | _ => none }
def findAllRow : OpenClaim := { program := "ytpngdeegdkifnaa", sum := "bcdf4dbde306b055446a0294dbc330d106e66bc1d2faa44564175ec45dee4a47", func := "quarterday/quarterdaylaw17.FindAll", spec := "findAll", unfollowed := true, recurses := true, apart := false }
def FindAllSaid : Prop := findAllRow.holds Try.pinned (OpenSpec.ofChange findAllSpec)

/-- ITS FALSE NEIGHBOUR: 'it returns false'. Refute it at one input. -/
def findAllWrong : ChangeSpec := { name := "findAll", fn := fun _ => fun
  | [d1, d2, d3, d4] => { results := [.lit (.bool false)], args := [d1, d2, d3, d4] }
  | _ => none }
def FindAllWrongFalsely : Prop := findAllRow.holds Try.pinned (OpenSpec.ofChange findAllWrong)

/-- 'quarterdaylaw17.FindMeets': WHATEVER THE INPUT: true; the input reads as it did. -/
def findMeetsSpec : ChangeSpec := { name := "findMeets", fn := fun _ => fun
  | [d1, d2, d3] => { results := [.lit (.bool true)], args := [d1, d2, d3] }
  | _ => none }
def findMeetsRow : OpenClaim := { program := "ytpngdeegdkifnaa", sum := "bcdf4dbde306b055446a0294dbc330d106e66bc1d2faa44564175ec45dee4a47", func := "quarterday/quarterdaylaw17.FindMeets", spec := "findMeets", unfollowed := true, recurses := true, apart := false }
def FindMeetsSaid : Prop := findMeetsRow.holds Try.pinned (OpenSpec.ofChange findMeetsSpec)

/-- ITS FALSE NEIGHBOUR: 'it returns false'. Refute it at one input. -/
def findMeetsWrong : ChangeSpec := { name := "findMeets", fn := fun _ => fun
  | [d1, d2, d3] => { results := [.lit (.bool false)], args := [d1, d2, d3] }
  | _ => none }
def FindMeetsWrongFalsely : Prop := findMeetsRow.holds Try.pinned (OpenSpec.ofChange findMeetsWrong)

/-- 'quarterdaylaw20.TwinMonths': WHATEVER THE INPUT: true; the input reads as it did. -/
def twinMonthsSpec : ChangeSpec := { name := "twinMonths", fn := fun _ => fun
  | [d1, d2, d3] => { results := [.lit (.bool true)], args := [d1, d2, d3] }
  | _ => none }
def twinMonthsRow : OpenClaim := { program := "ytpngdeegdkifnaa", sum := "bcdf4dbde306b055446a0294dbc330d106e66bc1d2faa44564175ec45dee4a47", func := "quarterday/quarterdaylaw20.TwinMonths", spec := "twinMonths", unfollowed := true, recurses := true, apart := false }
def TwinMonthsSaid : Prop := twinMonthsRow.holds Try.pinned (OpenSpec.ofChange twinMonthsSpec)

/-- ITS FALSE NEIGHBOUR: 'it returns false'. Refute it at one input. -/
def twinMonthsWrong : ChangeSpec := { name := "twinMonths", fn := fun _ => fun
  | [d1, d2, d3] => { results := [.lit (.bool false)], args := [d1, d2, d3] }
  | _ => none }
def TwinMonthsWrongFalsely : Prop := twinMonthsRow.holds Try.pinned (OpenSpec.ofChange twinMonthsWrong)

/-- 'quarterdaylaw20.TwinCounts': WHATEVER THE INPUT: true; the input reads as it did. -/
def twinCountsSpec : ChangeSpec := { name := "twinCounts", fn := fun _ => fun
  | [d1, d2, d3] => { results := [.lit (.bool true)], args := [d1, d2, d3] }
  | _ => none }
def twinCountsRow : OpenClaim := { program := "ytpngdeegdkifnaa", sum := "bcdf4dbde306b055446a0294dbc330d106e66bc1d2faa44564175ec45dee4a47", func := "quarterday/quarterdaylaw20.TwinCounts", spec := "twinCounts", unfollowed := true, recurses := true, apart := false }
def TwinCountsSaid : Prop := twinCountsRow.holds Try.pinned (OpenSpec.ofChange twinCountsSpec)

/-- ITS FALSE NEIGHBOUR: 'it returns false'. Refute it at one input. -/
def twinCountsWrong : ChangeSpec := { name := "twinCounts", fn := fun _ => fun
  | [d1, d2, d3] => { results := [.lit (.bool false)], args := [d1, d2, d3] }
  | _ => none }
def TwinCountsWrongFalsely : Prop := twinCountsRow.holds Try.pinned (OpenSpec.ofChange twinCountsWrong)

/-- 'quarterdaylaw20.TwinRuns': WHATEVER THE INPUT: true; the input reads as it did. -/
def twinRunsSpec : ChangeSpec := { name := "twinRuns", fn := fun _ => fun
  | [d1, d2, d3] => { results := [.lit (.bool true)], args := [d1, d2, d3] }
  | _ => none }
def twinRunsRow : OpenClaim := { program := "ytpngdeegdkifnaa", sum := "bcdf4dbde306b055446a0294dbc330d106e66bc1d2faa44564175ec45dee4a47", func := "quarterday/quarterdaylaw20.TwinRuns", spec := "twinRuns", unfollowed := true, recurses := true, apart := false }
def TwinRunsSaid : Prop := twinRunsRow.holds Try.pinned (OpenSpec.ofChange twinRunsSpec)

/-- ITS FALSE NEIGHBOUR: 'it returns false'. Refute it at one input. -/
def twinRunsWrong : ChangeSpec := { name := "twinRuns", fn := fun _ => fun
  | [d1, d2, d3] => { results := [.lit (.bool false)], args := [d1, d2, d3] }
  | _ => none }
def TwinRunsWrongFalsely : Prop := twinRunsRow.holds Try.pinned (OpenSpec.ofChange twinRunsWrong)

/-- 'quarterdaylaw20.TwinParts': WHATEVER THE INPUT: true; the input reads as it did. -/
def twinPartsSpec : ChangeSpec := { name := "twinParts", fn := fun _ => fun
  | [d1, d2, d3, d4] => { results := [.lit (.bool true)], args := [d1, d2, d3, d4] }
  | _ => none }
def twinPartsRow : OpenClaim := { program := "ytpngdeegdkifnaa", sum := "bcdf4dbde306b055446a0294dbc330d106e66bc1d2faa44564175ec45dee4a47", func := "quarterday/quarterdaylaw20.TwinParts", spec := "twinParts", unfollowed := true, recurses := true, apart := false }
def TwinPartsSaid : Prop := twinPartsRow.holds Try.pinned (OpenSpec.ofChange twinPartsSpec)

/-- ITS FALSE NEIGHBOUR: 'it returns false'. Refute it at one input. -/
def twinPartsWrong : ChangeSpec := { name := "twinParts", fn := fun _ => fun
  | [d1, d2, d3, d4] => { results := [.lit (.bool false)], args := [d1, d2, d3, d4] }
  | _ => none }
def TwinPartsWrongFalsely : Prop := twinPartsRow.holds Try.pinned (OpenSpec.ofChange twinPartsWrong)

/-- 'quarterdaylaw20.TwinOwn': WHATEVER THE INPUT: true; the input reads as it did. -/
def twinOwnSpec : ChangeSpec := { name := "twinOwn", fn := fun _ => fun
  | [d1, d2, d3] => { results := [.lit (.bool true)], args := [d1, d2, d3] }
  | _ => none }
def twinOwnRow : OpenClaim := { program := "ytpngdeegdkifnaa", sum := "bcdf4dbde306b055446a0294dbc330d106e66bc1d2faa44564175ec45dee4a47", func := "quarterday/quarterdaylaw20.TwinOwn", spec := "twinOwn", unfollowed := true, recurses := true, apart := false }
def TwinOwnSaid : Prop := twinOwnRow.holds Try.pinned (OpenSpec.ofChange twinOwnSpec)

/-- ITS FALSE NEIGHBOUR: 'it returns false'. Refute it at one input. -/
def twinOwnWrong : ChangeSpec := { name := "twinOwn", fn := fun _ => fun
  | [d1, d2, d3] => { results := [.lit (.bool false)], args := [d1, d2, d3] }
  | _ => none }
def TwinOwnWrongFalsely : Prop := twinOwnRow.holds Try.pinned (OpenSpec.ofChange twinOwnWrong)

/-- 'quarterdaylaw20.TwinDays': WHATEVER THE INPUT: true; the input reads as it did. -/
def twinDaysSpec : ChangeSpec := { name := "twinDays", fn := fun _ => fun
  | [d1, d2, d3] => { results := [.lit (.bool true)], args := [d1, d2, d3] }
  | _ => none }
def twinDaysRow : OpenClaim := { program := "ytpngdeegdkifnaa", sum := "bcdf4dbde306b055446a0294dbc330d106e66bc1d2faa44564175ec45dee4a47", func := "quarterday/quarterdaylaw20.TwinDays", spec := "twinDays", unfollowed := true, recurses := true, apart := false }
def TwinDaysSaid : Prop := twinDaysRow.holds Try.pinned (OpenSpec.ofChange twinDaysSpec)

/-- ITS FALSE NEIGHBOUR: 'it returns false'. Refute it at one input. -/
def twinDaysWrong : ChangeSpec := { name := "twinDays", fn := fun _ => fun
  | [d1, d2, d3] => { results := [.lit (.bool false)], args := [d1, d2, d3] }
  | _ => none }
def TwinDaysWrongFalsely : Prop := twinDaysRow.holds Try.pinned (OpenSpec.ofChange twinDaysWrong)

/- THE SECOND FORM. 'bulk': how many values and letters a reading holds, each counted each time it is reached (what is shared counts as often as it is met; a slice's spare places count too). A statement '..UptoSaid' is the law's where the arguments, and the package variables that the reading takes, are together of bulk at most 1048576: NARROWER than '..Said'. Prove '..Said' where nothing that the law and all that it calls make is longer than what came in: it says more and counts as full. Else prove '..UptoSaid'. A law counts once. -/
mutual
def uptoBulk {H : Type} : DataW H → Nat
  | .lit (.string bytes) => bytes.length + 1
  | .lit _ => 1
  | .nil => 1
  | .ptr d => uptoBulk d + 1
  | .slice elems spare => uptoBulkAll elems + uptoBulkAll spare + 1
  | .agg parts => uptoBulkAll parts + 1
  | .iface _ d => uptoBulk d + 1
  | .map entries => uptoBulkEntries entries + 1
  | .held _ => 1
def uptoBulkAll {H : Type} : List (DataW H) → Nat
  | [] => 0
  | d :: r => uptoBulk d + uptoBulkAll r
def uptoBulkEntries {H : Type} : List (Lit × DataW H) → Nat
  | [] => 0
  | x :: r => uptoBulkEntry x + uptoBulkEntries r
def uptoBulkEntry {H : Type} : Lit × DataW H → Nat
  | (.string bytes, d) => bytes.length + uptoBulk d + 1
  | (_, d) => uptoBulk d + 1
 end
def uptoSmall : (H : Type) → List (DataW H) → Bool := fun _ ds => decide (uptoBulkAll ds ≤ 1048576)
def OpenSpec.upto (s : _root_.Go.ChangeSpec) : _root_.Go.OpenSpec := { _root_.Go.OpenSpec.ofChange s with cond := some uptoSmall }

/-- 'quarterdaylaw19.CompEnds', WHERE WHAT IT READS IS OF BULK AT MOST 1048576: true; the input reads as it did. -/
def compEndsUptoRow : OpenClaim := { program := "ytpngdeegdkifnaa", sum := "bcdf4dbde306b055446a0294dbc330d106e66bc1d2faa44564175ec45dee4a47", func := "quarterday/quarterdaylaw19.CompEnds", spec := "compEnds", unfollowed := true, recurses := true, apart := false, narrowed := true }
def CompEndsUptoSaid : Prop := compEndsUptoRow.holds Try.pinned (OpenSpec.upto compEndsSpec)

/-- 'quarterdaylaw17.FindAll', WHERE WHAT IT READS IS OF BULK AT MOST 1048576: true; the input reads as it did. -/
def findAllUptoRow : OpenClaim := { program := "ytpngdeegdkifnaa", sum := "bcdf4dbde306b055446a0294dbc330d106e66bc1d2faa44564175ec45dee4a47", func := "quarterday/quarterdaylaw17.FindAll", spec := "findAll", unfollowed := true, recurses := true, apart := false, narrowed := true }
def FindAllUptoSaid : Prop := findAllUptoRow.holds Try.pinned (OpenSpec.upto findAllSpec)

/-- 'quarterdaylaw17.FindMeets', WHERE WHAT IT READS IS OF BULK AT MOST 1048576: true; the input reads as it did. -/
def findMeetsUptoRow : OpenClaim := { program := "ytpngdeegdkifnaa", sum := "bcdf4dbde306b055446a0294dbc330d106e66bc1d2faa44564175ec45dee4a47", func := "quarterday/quarterdaylaw17.FindMeets", spec := "findMeets", unfollowed := true, recurses := true, apart := false, narrowed := true }
def FindMeetsUptoSaid : Prop := findMeetsUptoRow.holds Try.pinned (OpenSpec.upto findMeetsSpec)

/-- 'quarterdaylaw20.TwinMonths', WHERE WHAT IT READS IS OF BULK AT MOST 1048576: true; the input reads as it did. -/
def twinMonthsUptoRow : OpenClaim := { program := "ytpngdeegdkifnaa", sum := "bcdf4dbde306b055446a0294dbc330d106e66bc1d2faa44564175ec45dee4a47", func := "quarterday/quarterdaylaw20.TwinMonths", spec := "twinMonths", unfollowed := true, recurses := true, apart := false, narrowed := true }
def TwinMonthsUptoSaid : Prop := twinMonthsUptoRow.holds Try.pinned (OpenSpec.upto twinMonthsSpec)

/-- 'quarterdaylaw20.TwinCounts', WHERE WHAT IT READS IS OF BULK AT MOST 1048576: true; the input reads as it did. -/
def twinCountsUptoRow : OpenClaim := { program := "ytpngdeegdkifnaa", sum := "bcdf4dbde306b055446a0294dbc330d106e66bc1d2faa44564175ec45dee4a47", func := "quarterday/quarterdaylaw20.TwinCounts", spec := "twinCounts", unfollowed := true, recurses := true, apart := false, narrowed := true }
def TwinCountsUptoSaid : Prop := twinCountsUptoRow.holds Try.pinned (OpenSpec.upto twinCountsSpec)

/-- 'quarterdaylaw20.TwinRuns', WHERE WHAT IT READS IS OF BULK AT MOST 1048576: true; the input reads as it did. -/
def twinRunsUptoRow : OpenClaim := { program := "ytpngdeegdkifnaa", sum := "bcdf4dbde306b055446a0294dbc330d106e66bc1d2faa44564175ec45dee4a47", func := "quarterday/quarterdaylaw20.TwinRuns", spec := "twinRuns", unfollowed := true, recurses := true, apart := false, narrowed := true }
def TwinRunsUptoSaid : Prop := twinRunsUptoRow.holds Try.pinned (OpenSpec.upto twinRunsSpec)

/-- 'quarterdaylaw20.TwinParts', WHERE WHAT IT READS IS OF BULK AT MOST 1048576: true; the input reads as it did. -/
def twinPartsUptoRow : OpenClaim := { program := "ytpngdeegdkifnaa", sum := "bcdf4dbde306b055446a0294dbc330d106e66bc1d2faa44564175ec45dee4a47", func := "quarterday/quarterdaylaw20.TwinParts", spec := "twinParts", unfollowed := true, recurses := true, apart := false, narrowed := true }
def TwinPartsUptoSaid : Prop := twinPartsUptoRow.holds Try.pinned (OpenSpec.upto twinPartsSpec)

/-- 'quarterdaylaw20.TwinOwn', WHERE WHAT IT READS IS OF BULK AT MOST 1048576: true; the input reads as it did. -/
def twinOwnUptoRow : OpenClaim := { program := "ytpngdeegdkifnaa", sum := "bcdf4dbde306b055446a0294dbc330d106e66bc1d2faa44564175ec45dee4a47", func := "quarterday/quarterdaylaw20.TwinOwn", spec := "twinOwn", unfollowed := true, recurses := true, apart := false, narrowed := true }
def TwinOwnUptoSaid : Prop := twinOwnUptoRow.holds Try.pinned (OpenSpec.upto twinOwnSpec)

/-- 'quarterdaylaw20.TwinDays', WHERE WHAT IT READS IS OF BULK AT MOST 1048576: true; the input reads as it did. -/
def twinDaysUptoRow : OpenClaim := { program := "ytpngdeegdkifnaa", sum := "bcdf4dbde306b055446a0294dbc330d106e66bc1d2faa44564175ec45dee4a47", func := "quarterday/quarterdaylaw20.TwinDays", spec := "twinDays", unfollowed := true, recurses := true, apart := false, narrowed := true }
def TwinDaysUptoSaid : Prop := twinDaysUptoRow.holds Try.pinned (OpenSpec.upto twinDaysSpec)

end Rows
end Go.Proofs.Ytpngdeegdkifnaa
