/-
  No cell of these rows narrows 'for every input' (looked for: loops, veiled, ifaces, maps, wideKeys, modest, calm, conditions, laid).
  DERIVED. THE GIVEN ROWS OF THIS SEAT. 11 by the template 'for every input the law returns true; each argument reads behind the call as it read before'; 0 by the template 'total and deterministic' (their statements: YtepmfpgljcbkmaaTotals.lean).
  GIVEN WITH THE SEED: the statements are not yours to turn. If you find one false, say at which input.
  Laid BY PROGRAM, IN A SANDBOX (cutbox-rows.mjs): the forced cells as the released guide's own fill.sh prints them over the translation 303d044bad25f8fb… (all of the seat's roots in one cut). By AI agents, Wed Nov 11 2026. No macro, syntax, notation, axiom, sorry.
-/
import Derived.Test.YtepmfpgljcbkmaaChecked
import GoSem.Claim
import GoSem.ClaimJoined
import GoSem.ClaimMapViews
import Derived.JoinedTies
import Derived.KernelRfl
namespace Go.Proofs.Ytepmfpgljcbkmaa
/- THE CELL 'sum', in the pinned program and in every row, IS THE sha256 OF THE DUMP (.gsa) THAT YtepmfpgljcbkmaaProg.lean LOADS. Nothing in Lean hashes anything: it is a label: what it is worth is what the hold of that sum in a sandbox is worth. -/
noncomputable def Try.pinned : Pinned := { name := "ytepmfpgljcbkmaa", sum := "303d044bad25f8fba7d0fc55f20ce346d60399d53a68e2ec30bba6a5bd0aed28", checked := Try.checked }
namespace Rows
def none {H : Type} : Left H := { results := [], args := [] }

/-- 'quarterdaylaw16.UnitCover': WHATEVER THE INPUT: true; the input reads as it did. -/
def unitCoverSpec : ChangeSpec := { name := "unitCover", fn := fun _ => fun
  | [d1, d2, d3] => { results := [.lit (.bool true)], args := [d1, d2, d3] }
  | _ => none }
def unitCoverRow : OpenClaim := { program := "ytepmfpgljcbkmaa", sum := "303d044bad25f8fba7d0fc55f20ce346d60399d53a68e2ec30bba6a5bd0aed28", func := "quarterday/quarterdaylaw16.UnitCover", spec := "unitCover", unfollowed := true, recurses := true, apart := false }
def UnitCoverSaid : Prop := unitCoverRow.holds Try.pinned (OpenSpec.ofChange unitCoverSpec)

/-- ITS FALSE NEIGHBOUR: 'it returns false'. Refute it at one input. -/
def unitCoverWrong : ChangeSpec := { name := "unitCover", fn := fun _ => fun
  | [d1, d2, d3] => { results := [.lit (.bool false)], args := [d1, d2, d3] }
  | _ => none }
def UnitCoverWrongFalsely : Prop := unitCoverRow.holds Try.pinned (OpenSpec.ofChange unitCoverWrong)

/-- 'quarterdaylaw16.UnitUp': WHATEVER THE INPUT: true; the input reads as it did. -/
def unitUpSpec : ChangeSpec := { name := "unitUp", fn := fun _ => fun
  | [d1, d2, d3, d4] => { results := [.lit (.bool true)], args := [d1, d2, d3, d4] }
  | _ => none }
def unitUpRow : OpenClaim := { program := "ytepmfpgljcbkmaa", sum := "303d044bad25f8fba7d0fc55f20ce346d60399d53a68e2ec30bba6a5bd0aed28", func := "quarterday/quarterdaylaw16.UnitUp", spec := "unitUp", unfollowed := true, recurses := true, apart := false }
def UnitUpSaid : Prop := unitUpRow.holds Try.pinned (OpenSpec.ofChange unitUpSpec)

/-- ITS FALSE NEIGHBOUR: 'it returns false'. Refute it at one input. -/
def unitUpWrong : ChangeSpec := { name := "unitUp", fn := fun _ => fun
  | [d1, d2, d3, d4] => { results := [.lit (.bool false)], args := [d1, d2, d3, d4] }
  | _ => none }
def UnitUpWrongFalsely : Prop := unitUpRow.holds Try.pinned (OpenSpec.ofChange unitUpWrong)

/-- 'quarterdaylaw16.UnitInside': WHATEVER THE INPUT: true; the input reads as it did. -/
def unitInsideSpec : ChangeSpec := { name := "unitInside", fn := fun _ => fun
  | [d1, d2, d3] => { results := [.lit (.bool true)], args := [d1, d2, d3] }
  | _ => none }
def unitInsideRow : OpenClaim := { program := "ytepmfpgljcbkmaa", sum := "303d044bad25f8fba7d0fc55f20ce346d60399d53a68e2ec30bba6a5bd0aed28", func := "quarterday/quarterdaylaw16.UnitInside", spec := "unitInside", unfollowed := true, recurses := true, apart := false }
def UnitInsideSaid : Prop := unitInsideRow.holds Try.pinned (OpenSpec.ofChange unitInsideSpec)

/-- ITS FALSE NEIGHBOUR: 'it returns false'. Refute it at one input. -/
def unitInsideWrong : ChangeSpec := { name := "unitInside", fn := fun _ => fun
  | [d1, d2, d3] => { results := [.lit (.bool false)], args := [d1, d2, d3] }
  | _ => none }
def UnitInsideWrongFalsely : Prop := unitInsideRow.holds Try.pinned (OpenSpec.ofChange unitInsideWrong)

/-- 'quarterdaylaw16.UnitWeeks': WHATEVER THE INPUT: true; the input reads as it did. -/
def unitWeeksSpec : ChangeSpec := { name := "unitWeeks", fn := fun _ => fun
  | [d1, d2] => { results := [.lit (.bool true)], args := [d1, d2] }
  | _ => none }
def unitWeeksRow : OpenClaim := { program := "ytepmfpgljcbkmaa", sum := "303d044bad25f8fba7d0fc55f20ce346d60399d53a68e2ec30bba6a5bd0aed28", func := "quarterday/quarterdaylaw16.UnitWeeks", spec := "unitWeeks", unfollowed := true, recurses := true, apart := false }
def UnitWeeksSaid : Prop := unitWeeksRow.holds Try.pinned (OpenSpec.ofChange unitWeeksSpec)

/-- ITS FALSE NEIGHBOUR: 'it returns false'. Refute it at one input. -/
def unitWeeksWrong : ChangeSpec := { name := "unitWeeks", fn := fun _ => fun
  | [d1, d2] => { results := [.lit (.bool false)], args := [d1, d2] }
  | _ => none }
def UnitWeeksWrongFalsely : Prop := unitWeeksRow.holds Try.pinned (OpenSpec.ofChange unitWeeksWrong)

/-- 'quarterdaylaw16.UnitDown': WHATEVER THE INPUT: true; the input reads as it did. -/
def unitDownSpec : ChangeSpec := { name := "unitDown", fn := fun _ => fun
  | [d1, d2, d3] => { results := [.lit (.bool true)], args := [d1, d2, d3] }
  | _ => none }
def unitDownRow : OpenClaim := { program := "ytepmfpgljcbkmaa", sum := "303d044bad25f8fba7d0fc55f20ce346d60399d53a68e2ec30bba6a5bd0aed28", func := "quarterday/quarterdaylaw16.UnitDown", spec := "unitDown", unfollowed := true, recurses := true, apart := false }
def UnitDownSaid : Prop := unitDownRow.holds Try.pinned (OpenSpec.ofChange unitDownSpec)

/-- ITS FALSE NEIGHBOUR: 'it returns false'. Refute it at one input. -/
def unitDownWrong : ChangeSpec := { name := "unitDown", fn := fun _ => fun
  | [d1, d2, d3] => { results := [.lit (.bool false)], args := [d1, d2, d3] }
  | _ => none }
def UnitDownWrongFalsely : Prop := unitDownRow.holds Try.pinned (OpenSpec.ofChange unitDownWrong)

/-- 'quarterdaylaw16.UnitCounts': WHATEVER THE INPUT: true; the input reads as it did. -/
def unitCountsSpec : ChangeSpec := { name := "unitCounts", fn := fun _ => fun
  | [d1, d2, d3] => { results := [.lit (.bool true)], args := [d1, d2, d3] }
  | _ => none }
def unitCountsRow : OpenClaim := { program := "ytepmfpgljcbkmaa", sum := "303d044bad25f8fba7d0fc55f20ce346d60399d53a68e2ec30bba6a5bd0aed28", func := "quarterday/quarterdaylaw16.UnitCounts", spec := "unitCounts", unfollowed := true, recurses := true, apart := false }
def UnitCountsSaid : Prop := unitCountsRow.holds Try.pinned (OpenSpec.ofChange unitCountsSpec)

/-- ITS FALSE NEIGHBOUR: 'it returns false'. Refute it at one input. -/
def unitCountsWrong : ChangeSpec := { name := "unitCounts", fn := fun _ => fun
  | [d1, d2, d3] => { results := [.lit (.bool false)], args := [d1, d2, d3] }
  | _ => none }
def UnitCountsWrongFalsely : Prop := unitCountsRow.holds Try.pinned (OpenSpec.ofChange unitCountsWrong)

/-- 'quarterdaylaw17.FindBack': WHATEVER THE INPUT: true; the input reads as it did. -/
def findBackSpec : ChangeSpec := { name := "findBack", fn := fun _ => fun
  | [d1, d2, d3, d4, d5] => { results := [.lit (.bool true)], args := [d1, d2, d3, d4, d5] }
  | _ => none }
def findBackRow : OpenClaim := { program := "ytepmfpgljcbkmaa", sum := "303d044bad25f8fba7d0fc55f20ce346d60399d53a68e2ec30bba6a5bd0aed28", func := "quarterday/quarterdaylaw17.FindBack", spec := "findBack", unfollowed := true, recurses := true, apart := false }
def FindBackSaid : Prop := findBackRow.holds Try.pinned (OpenSpec.ofChange findBackSpec)

/-- ITS FALSE NEIGHBOUR: 'it returns false'. Refute it at one input. -/
def findBackWrong : ChangeSpec := { name := "findBack", fn := fun _ => fun
  | [d1, d2, d3, d4, d5] => { results := [.lit (.bool false)], args := [d1, d2, d3, d4, d5] }
  | _ => none }
def FindBackWrongFalsely : Prop := findBackRow.holds Try.pinned (OpenSpec.ofChange findBackWrong)

/-- 'quarterdaylaw17.FindLevels': WHATEVER THE INPUT: true; the input reads as it did. -/
def findLevelsSpec : ChangeSpec := { name := "findLevels", fn := fun _ => fun
  | [d1, d2, d3, d4] => { results := [.lit (.bool true)], args := [d1, d2, d3, d4] }
  | _ => none }
def findLevelsRow : OpenClaim := { program := "ytepmfpgljcbkmaa", sum := "303d044bad25f8fba7d0fc55f20ce346d60399d53a68e2ec30bba6a5bd0aed28", func := "quarterday/quarterdaylaw17.FindLevels", spec := "findLevels", unfollowed := true, recurses := true, apart := false }
def FindLevelsSaid : Prop := findLevelsRow.holds Try.pinned (OpenSpec.ofChange findLevelsSpec)

/-- ITS FALSE NEIGHBOUR: 'it returns false'. Refute it at one input. -/
def findLevelsWrong : ChangeSpec := { name := "findLevels", fn := fun _ => fun
  | [d1, d2, d3, d4] => { results := [.lit (.bool false)], args := [d1, d2, d3, d4] }
  | _ => none }
def FindLevelsWrongFalsely : Prop := findLevelsRow.holds Try.pinned (OpenSpec.ofChange findLevelsWrong)

/-- 'quarterdaylaw17.FindNext': WHATEVER THE INPUT: true; the input reads as it did. -/
def findNextSpec : ChangeSpec := { name := "findNext", fn := fun _ => fun
  | [d1, d2] => { results := [.lit (.bool true)], args := [d1, d2] }
  | _ => none }
def findNextRow : OpenClaim := { program := "ytepmfpgljcbkmaa", sum := "303d044bad25f8fba7d0fc55f20ce346d60399d53a68e2ec30bba6a5bd0aed28", func := "quarterday/quarterdaylaw17.FindNext", spec := "findNext", unfollowed := true, recurses := true, apart := false }
def FindNextSaid : Prop := findNextRow.holds Try.pinned (OpenSpec.ofChange findNextSpec)

/-- ITS FALSE NEIGHBOUR: 'it returns false'. Refute it at one input. -/
def findNextWrong : ChangeSpec := { name := "findNext", fn := fun _ => fun
  | [d1, d2] => { results := [.lit (.bool false)], args := [d1, d2] }
  | _ => none }
def FindNextWrongFalsely : Prop := findNextRow.holds Try.pinned (OpenSpec.ofChange findNextWrong)

/-- 'quarterdaylaw17.FindAll': WHATEVER THE INPUT: true; the input reads as it did. -/
def findAllSpec : ChangeSpec := { name := "findAll", fn := fun _ => fun
  | [d1, d2, d3, d4] => { results := [.lit (.bool true)], args := [d1, d2, d3, d4] }
  | _ => none }
def findAllRow : OpenClaim := { program := "ytepmfpgljcbkmaa", sum := "303d044bad25f8fba7d0fc55f20ce346d60399d53a68e2ec30bba6a5bd0aed28", func := "quarterday/quarterdaylaw17.FindAll", spec := "findAll", unfollowed := true, recurses := true, apart := false }
def FindAllSaid : Prop := findAllRow.holds Try.pinned (OpenSpec.ofChange findAllSpec)

/-- ITS FALSE NEIGHBOUR: 'it returns false'. Refute it at one input. -/
def findAllWrong : ChangeSpec := { name := "findAll", fn := fun _ => fun
  | [d1, d2, d3, d4] => { results := [.lit (.bool false)], args := [d1, d2, d3, d4] }
  | _ => none }
def FindAllWrongFalsely : Prop := findAllRow.holds Try.pinned (OpenSpec.ofChange findAllWrong)

/-- 'quarterdaylaw17.FindMeets': WHATEVER THE INPUT: true; the input reads as it did. -/
def findMeetsSpec : ChangeSpec := { name := "findMeets", fn := fun _ => fun
  | [d1, d2, d3] => { results := [.lit (.bool true)], args := [d1, d2, d3] }
  | _ => none }
def findMeetsRow : OpenClaim := { program := "ytepmfpgljcbkmaa", sum := "303d044bad25f8fba7d0fc55f20ce346d60399d53a68e2ec30bba6a5bd0aed28", func := "quarterday/quarterdaylaw17.FindMeets", spec := "findMeets", unfollowed := true, recurses := true, apart := false }
def FindMeetsSaid : Prop := findMeetsRow.holds Try.pinned (OpenSpec.ofChange findMeetsSpec)

/-- ITS FALSE NEIGHBOUR: 'it returns false'. Refute it at one input. -/
def findMeetsWrong : ChangeSpec := { name := "findMeets", fn := fun _ => fun
  | [d1, d2, d3] => { results := [.lit (.bool false)], args := [d1, d2, d3] }
  | _ => none }
def FindMeetsWrongFalsely : Prop := findMeetsRow.holds Try.pinned (OpenSpec.ofChange findMeetsWrong)

/- THE SECOND FORM. 'bulk': how many values and letters a reading holds, each counted each time it is reached (what is shared counts as often as it is met; a slice's spare places count too). A statement '..UptoSaid' is the law's where the arguments, and the package variables that the reading takes, are together of bulk at most 1048576: NARROWER than '..Said'. Prove '..Said' where nothing that the law and all that it calls make is longer than what came in: it says more and counts as full. Else prove '..UptoSaid'. A law counts once. -/
mutual
def uptoBulk {H : Type} : DataW H → Nat
  | .lit (.string bytes) => bytes.length + 1
  | .lit _ => 1
  | .nil => 1
  | .ptr d => uptoBulk d + 1
  | .slice elems spare => uptoBulkAll elems + uptoBulkAll spare + 1
  | .agg parts => uptoBulkAll parts + 1
  | .iface _ d => uptoBulk d + 1
  | .map entries => uptoBulkEntries entries + 1
  | .held _ => 1
def uptoBulkAll {H : Type} : List (DataW H) → Nat
  | [] => 0
  | d :: r => uptoBulk d + uptoBulkAll r
def uptoBulkEntries {H : Type} : List (Lit × DataW H) → Nat
  | [] => 0
  | x :: r => uptoBulkEntry x + uptoBulkEntries r
def uptoBulkEntry {H : Type} : Lit × DataW H → Nat
  | (.string bytes, d) => bytes.length + uptoBulk d + 1
  | (_, d) => uptoBulk d + 1
 end
def uptoSmall : (H : Type) → List (DataW H) → Bool := fun _ ds => decide (uptoBulkAll ds ≤ 1048576)
def OpenSpec.upto (s : _root_.Go.ChangeSpec) : _root_.Go.OpenSpec := { _root_.Go.OpenSpec.ofChange s with cond := some uptoSmall }

/-- 'quarterdaylaw16.UnitCover', WHERE WHAT IT READS IS OF BULK AT MOST 1048576: true; the input reads as it did. -/
def unitCoverUptoRow : OpenClaim := { program := "ytepmfpgljcbkmaa", sum := "303d044bad25f8fba7d0fc55f20ce346d60399d53a68e2ec30bba6a5bd0aed28", func := "quarterday/quarterdaylaw16.UnitCover", spec := "unitCover", unfollowed := true, recurses := true, apart := false, narrowed := true }
def UnitCoverUptoSaid : Prop := unitCoverUptoRow.holds Try.pinned (OpenSpec.upto unitCoverSpec)

/-- 'quarterdaylaw16.UnitUp', WHERE WHAT IT READS IS OF BULK AT MOST 1048576: true; the input reads as it did. -/
def unitUpUptoRow : OpenClaim := { program := "ytepmfpgljcbkmaa", sum := "303d044bad25f8fba7d0fc55f20ce346d60399d53a68e2ec30bba6a5bd0aed28", func := "quarterday/quarterdaylaw16.UnitUp", spec := "unitUp", unfollowed := true, recurses := true, apart := false, narrowed := true }
def UnitUpUptoSaid : Prop := unitUpUptoRow.holds Try.pinned (OpenSpec.upto unitUpSpec)

/-- 'quarterdaylaw16.UnitInside', WHERE WHAT IT READS IS OF BULK AT MOST 1048576: true; the input reads as it did. -/
def unitInsideUptoRow : OpenClaim := { program := "ytepmfpgljcbkmaa", sum := "303d044bad25f8fba7d0fc55f20ce346d60399d53a68e2ec30bba6a5bd0aed28", func := "quarterday/quarterdaylaw16.UnitInside", spec := "unitInside", unfollowed := true, recurses := true, apart := false, narrowed := true }
def UnitInsideUptoSaid : Prop := unitInsideUptoRow.holds Try.pinned (OpenSpec.upto unitInsideSpec)

/-- 'quarterdaylaw16.UnitWeeks', WHERE WHAT IT READS IS OF BULK AT MOST 1048576: true; the input reads as it did. -/
def unitWeeksUptoRow : OpenClaim := { program := "ytepmfpgljcbkmaa", sum := "303d044bad25f8fba7d0fc55f20ce346d60399d53a68e2ec30bba6a5bd0aed28", func := "quarterday/quarterdaylaw16.UnitWeeks", spec := "unitWeeks", unfollowed := true, recurses := true, apart := false, narrowed := true }
def UnitWeeksUptoSaid : Prop := unitWeeksUptoRow.holds Try.pinned (OpenSpec.upto unitWeeksSpec)

/-- 'quarterdaylaw16.UnitDown', WHERE WHAT IT READS IS OF BULK AT MOST 1048576: true; the input reads as it did. -/
def unitDownUptoRow : OpenClaim := { program := "ytepmfpgljcbkmaa", sum := "303d044bad25f8fba7d0fc55f20ce346d60399d53a68e2ec30bba6a5bd0aed28", func := "quarterday/quarterdaylaw16.UnitDown", spec := "unitDown", unfollowed := true, recurses := true, apart := false, narrowed := true }
def UnitDownUptoSaid : Prop := unitDownUptoRow.holds Try.pinned (OpenSpec.upto unitDownSpec)

/-- 'quarterdaylaw16.UnitCounts', WHERE WHAT IT READS IS OF BULK AT MOST 1048576: true; the input reads as it did. -/
def unitCountsUptoRow : OpenClaim := { program := "ytepmfpgljcbkmaa", sum := "303d044bad25f8fba7d0fc55f20ce346d60399d53a68e2ec30bba6a5bd0aed28", func := "quarterday/quarterdaylaw16.UnitCounts", spec := "unitCounts", unfollowed := true, recurses := true, apart := false, narrowed := true }
def UnitCountsUptoSaid : Prop := unitCountsUptoRow.holds Try.pinned (OpenSpec.upto unitCountsSpec)

/-- 'quarterdaylaw17.FindBack', WHERE WHAT IT READS IS OF BULK AT MOST 1048576: true; the input reads as it did. -/
def findBackUptoRow : OpenClaim := { program := "ytepmfpgljcbkmaa", sum := "303d044bad25f8fba7d0fc55f20ce346d60399d53a68e2ec30bba6a5bd0aed28", func := "quarterday/quarterdaylaw17.FindBack", spec := "findBack", unfollowed := true, recurses := true, apart := false, narrowed := true }
def FindBackUptoSaid : Prop := findBackUptoRow.holds Try.pinned (OpenSpec.upto findBackSpec)

/-- 'quarterdaylaw17.FindLevels', WHERE WHAT IT READS IS OF BULK AT MOST 1048576: true; the input reads as it did. -/
def findLevelsUptoRow : OpenClaim := { program := "ytepmfpgljcbkmaa", sum := "303d044bad25f8fba7d0fc55f20ce346d60399d53a68e2ec30bba6a5bd0aed28", func := "quarterday/quarterdaylaw17.FindLevels", spec := "findLevels", unfollowed := true, recurses := true, apart := false, narrowed := true }
def FindLevelsUptoSaid : Prop := findLevelsUptoRow.holds Try.pinned (OpenSpec.upto findLevelsSpec)

/-- 'quarterdaylaw17.FindNext', WHERE WHAT IT READS IS OF BULK AT MOST 1048576: true; the input reads as it did. -/
def findNextUptoRow : OpenClaim := { program := "ytepmfpgljcbkmaa", sum := "303d044bad25f8fba7d0fc55f20ce346d60399d53a68e2ec30bba6a5bd0aed28", func := "quarterday/quarterdaylaw17.FindNext", spec := "findNext", unfollowed := true, recurses := true, apart := false, narrowed := true }
def FindNextUptoSaid : Prop := findNextUptoRow.holds Try.pinned (OpenSpec.upto findNextSpec)

/-- 'quarterdaylaw17.FindAll', WHERE WHAT IT READS IS OF BULK AT MOST 1048576: true; the input reads as it did. -/
def findAllUptoRow : OpenClaim := { program := "ytepmfpgljcbkmaa", sum := "303d044bad25f8fba7d0fc55f20ce346d60399d53a68e2ec30bba6a5bd0aed28", func := "quarterday/quarterdaylaw17.FindAll", spec := "findAll", unfollowed := true, recurses := true, apart := false, narrowed := true }
def FindAllUptoSaid : Prop := findAllUptoRow.holds Try.pinned (OpenSpec.upto findAllSpec)

/-- 'quarterdaylaw17.FindMeets', WHERE WHAT IT READS IS OF BULK AT MOST 1048576: true; the input reads as it did. -/
def findMeetsUptoRow : OpenClaim := { program := "ytepmfpgljcbkmaa", sum := "303d044bad25f8fba7d0fc55f20ce346d60399d53a68e2ec30bba6a5bd0aed28", func := "quarterday/quarterdaylaw17.FindMeets", spec := "findMeets", unfollowed := true, recurses := true, apart := false, narrowed := true }
def FindMeetsUptoSaid : Prop := findMeetsUptoRow.holds Try.pinned (OpenSpec.upto findMeetsSpec)

end Rows
end Go.Proofs.Ytepmfpgljcbkmaa
