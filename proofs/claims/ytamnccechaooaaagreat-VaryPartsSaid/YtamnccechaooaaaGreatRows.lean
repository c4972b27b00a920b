/-
  No cell of these rows narrows 'for every input' (looked for: loops, veiled, ifaces, maps, wideKeys, modest, calm, conditions, laid).
  DERIVED. THE GIVEN ROWS OF THIS SEAT. 17 by the template 'for every input the law returns true; each argument reads behind the call as it read before'; 0 by the template 'total and deterministic' (their statements: YtamnccechaooaaaGreatTotals.lean).
  GIVEN WITH THE SEED: the statements are not yours to turn. If you find one false, say at which input.
  Laid BY PROGRAM, IN A SANDBOX (cutbox-rows.mjs): the forced cells as the released guide's own fill.sh prints them over the translation d88fb59573d10a5f… (all of the seat's roots in one cut). By AI agents, Wed Nov 11 2026. No macro, syntax, notation, axiom, sorry.
-/
import Derived.Test.YtamnccechaooaaaGreatChecked
import GoSem.Claim
import GoSem.ClaimJoined
import GoSem.ClaimMapViews
import Derived.JoinedTies
import Derived.KernelRfl
namespace Go.Proofs.YtamnccechaooaaaGreat
/- THE CELL 'sum', in the pinned program and in every row, IS THE sha256 OF THE DUMP (.gsa) THAT YtamnccechaooaaaGreatProg.lean LOADS. Nothing in Lean hashes anything: it is a label: what it is worth is what the hold of that sum in a sandbox is worth. -/
noncomputable def Tryz.pinned : Pinned := { name := "ytamnccechaooaaagreat", sum := "d88fb59573d10a5f99af277fc6807b83053e1cbd93205567d132f1d286ed554b", checked := Tryz.checked }
namespace Rows
def none {H : Type} : Left H := { results := [], args := [] }

/-- 'quarterdaylaw21.RateOne': WHATEVER THE INPUT: true; the input reads as it did. -/
def rateOneSpec : ChangeSpec := { name := "rateOne", fn := fun _ => fun
  | [d1, d2, d3, d4, d5] => { results := [.lit (.bool true)], args := [d1, d2, d3, d4, d5] }
  | _ => none }
def rateOneRow : OpenClaim := { program := "ytamnccechaooaaagreat", sum := "d88fb59573d10a5f99af277fc6807b83053e1cbd93205567d132f1d286ed554b", func := "quarterday/quarterdaylaw21.RateOne", spec := "rateOne", inPlace := ["math/bits.Add64"], unfollowed := true, recurses := true, named := ["math/bits.divideError", "math/bits.overflowError"], plainKeys := false, apart := false }
def RateOneSaid : Prop := rateOneRow.holds Tryz.pinned (OpenSpec.ofChange rateOneSpec)

/-- ITS FALSE NEIGHBOUR: 'it returns false'. Refute it at one input. -/
def rateOneWrong : ChangeSpec := { name := "rateOne", fn := fun _ => fun
  | [d1, d2, d3, d4, d5] => { results := [.lit (.bool false)], args := [d1, d2, d3, d4, d5] }
  | _ => none }
def RateOneWrongFalsely : Prop := rateOneRow.holds Tryz.pinned (OpenSpec.ofChange rateOneWrong)

/-- 'quarterdaylaw21.RateSum': WHATEVER THE INPUT: true; the input reads as it did. -/
def rateSumSpec : ChangeSpec := { name := "rateSum", fn := fun _ => fun
  | [d1, d2, d3, d4] => { results := [.lit (.bool true)], args := [d1, d2, d3, d4] }
  | _ => none }
def rateSumRow : OpenClaim := { program := "ytamnccechaooaaagreat", sum := "d88fb59573d10a5f99af277fc6807b83053e1cbd93205567d132f1d286ed554b", func := "quarterday/quarterdaylaw21.RateSum", spec := "rateSum", inPlace := ["math/bits.Add64"], unfollowed := true, recurses := true, named := ["math/bits.divideError", "math/bits.overflowError"], plainKeys := false, apart := false }
def RateSumSaid : Prop := rateSumRow.holds Tryz.pinned (OpenSpec.ofChange rateSumSpec)

/-- ITS FALSE NEIGHBOUR: 'it returns false'. Refute it at one input. -/
def rateSumWrong : ChangeSpec := { name := "rateSum", fn := fun _ => fun
  | [d1, d2, d3, d4] => { results := [.lit (.bool false)], args := [d1, d2, d3, d4] }
  | _ => none }
def RateSumWrongFalsely : Prop := rateSumRow.holds Tryz.pinned (OpenSpec.ofChange rateSumWrong)

/-- 'quarterdaylaw21.RateTies': WHATEVER THE INPUT: true; the input reads as it did. -/
def rateTiesSpec : ChangeSpec := { name := "rateTies", fn := fun _ => fun
  | [d1, d2, d3, d4] => { results := [.lit (.bool true)], args := [d1, d2, d3, d4] }
  | _ => none }
def rateTiesRow : OpenClaim := { program := "ytamnccechaooaaagreat", sum := "d88fb59573d10a5f99af277fc6807b83053e1cbd93205567d132f1d286ed554b", func := "quarterday/quarterdaylaw21.RateTies", spec := "rateTies", inPlace := ["math/bits.Add64"], unfollowed := true, recurses := true, named := ["math/bits.divideError", "math/bits.overflowError"], plainKeys := false, apart := false }
def RateTiesSaid : Prop := rateTiesRow.holds Tryz.pinned (OpenSpec.ofChange rateTiesSpec)

/-- ITS FALSE NEIGHBOUR: 'it returns false'. Refute it at one input. -/
def rateTiesWrong : ChangeSpec := { name := "rateTies", fn := fun _ => fun
  | [d1, d2, d3, d4] => { results := [.lit (.bool false)], args := [d1, d2, d3, d4] }
  | _ => none }
def RateTiesWrongFalsely : Prop := rateTiesRow.holds Tryz.pinned (OpenSpec.ofChange rateTiesWrong)

/-- 'quarterdaylaw21.RateDays': WHATEVER THE INPUT: true; the input reads as it did. -/
def rateDaysSpec : ChangeSpec := { name := "rateDays", fn := fun _ => fun
  | [d1, d2, d3] => { results := [.lit (.bool true)], args := [d1, d2, d3] }
  | _ => none }
def rateDaysRow : OpenClaim := { program := "ytamnccechaooaaagreat", sum := "d88fb59573d10a5f99af277fc6807b83053e1cbd93205567d132f1d286ed554b", func := "quarterday/quarterdaylaw21.RateDays", spec := "rateDays", inPlace := ["math/bits.Add64"], unfollowed := true, recurses := true, named := ["math/bits.divideError", "math/bits.overflowError"], plainKeys := false, apart := false }
def RateDaysSaid : Prop := rateDaysRow.holds Tryz.pinned (OpenSpec.ofChange rateDaysSpec)

/-- ITS FALSE NEIGHBOUR: 'it returns false'. Refute it at one input. -/
def rateDaysWrong : ChangeSpec := { name := "rateDays", fn := fun _ => fun
  | [d1, d2, d3] => { results := [.lit (.bool false)], args := [d1, d2, d3] }
  | _ => none }
def RateDaysWrongFalsely : Prop := rateDaysRow.holds Tryz.pinned (OpenSpec.ofChange rateDaysWrong)

/-- 'quarterdaylaw21.RateLevels': WHATEVER THE INPUT: true; the input reads as it did. -/
def rateLevelsSpec : ChangeSpec := { name := "rateLevels", fn := fun _ => fun
  | [d1, d2, d3, d4] => { results := [.lit (.bool true)], args := [d1, d2, d3, d4] }
  | _ => none }
def rateLevelsRow : OpenClaim := { program := "ytamnccechaooaaagreat", sum := "d88fb59573d10a5f99af277fc6807b83053e1cbd93205567d132f1d286ed554b", func := "quarterday/quarterdaylaw21.RateLevels", spec := "rateLevels", inPlace := ["math/bits.Add64"], unfollowed := true, recurses := true, named := ["math/bits.divideError", "math/bits.overflowError"], plainKeys := false, apart := false }
def RateLevelsSaid : Prop := rateLevelsRow.holds Tryz.pinned (OpenSpec.ofChange rateLevelsSpec)

/-- ITS FALSE NEIGHBOUR: 'it returns false'. Refute it at one input. -/
def rateLevelsWrong : ChangeSpec := { name := "rateLevels", fn := fun _ => fun
  | [d1, d2, d3, d4] => { results := [.lit (.bool false)], args := [d1, d2, d3, d4] }
  | _ => none }
def RateLevelsWrongFalsely : Prop := rateLevelsRow.holds Tryz.pinned (OpenSpec.ofChange rateLevelsWrong)

/-- 'quarterdaylaw22.BookPosts': WHATEVER THE INPUT: true; the input reads as it did. -/
def bookPostsSpec : ChangeSpec := { name := "bookPosts", fn := fun _ => fun
  | [d1, d2, d3] => { results := [.lit (.bool true)], args := [d1, d2, d3] }
  | _ => none }
def bookPostsRow : OpenClaim := { program := "ytamnccechaooaaagreat", sum := "d88fb59573d10a5f99af277fc6807b83053e1cbd93205567d132f1d286ed554b", func := "quarterday/quarterdaylaw22.BookPosts", spec := "bookPosts", inPlace := ["math/bits.Add64"], unfollowed := true, recurses := true, named := ["math/bits.divideError", "math/bits.overflowError"], plainKeys := false, apart := false }
def BookPostsSaid : Prop := bookPostsRow.holds Tryz.pinned (OpenSpec.ofChange bookPostsSpec)

/-- ITS FALSE NEIGHBOUR: 'it returns false'. Refute it at one input. -/
def bookPostsWrong : ChangeSpec := { name := "bookPosts", fn := fun _ => fun
  | [d1, d2, d3] => { results := [.lit (.bool false)], args := [d1, d2, d3] }
  | _ => none }
def BookPostsWrongFalsely : Prop := bookPostsRow.holds Tryz.pinned (OpenSpec.ofChange bookPostsWrong)

/-- 'quarterdaylaw22.BookAdds': WHATEVER THE INPUT: true; the input reads as it did. -/
def bookAddsSpec : ChangeSpec := { name := "bookAdds", fn := fun _ => fun
  | [d1, d2, d3, d4] => { results := [.lit (.bool true)], args := [d1, d2, d3, d4] }
  | _ => none }
def bookAddsRow : OpenClaim := { program := "ytamnccechaooaaagreat", sum := "d88fb59573d10a5f99af277fc6807b83053e1cbd93205567d132f1d286ed554b", func := "quarterday/quarterdaylaw22.BookAdds", spec := "bookAdds", inPlace := ["math/bits.Add64"], unfollowed := true, recurses := true, named := ["math/bits.divideError", "math/bits.overflowError"], plainKeys := false, apart := false }
def BookAddsSaid : Prop := bookAddsRow.holds Tryz.pinned (OpenSpec.ofChange bookAddsSpec)

/-- ITS FALSE NEIGHBOUR: 'it returns false'. Refute it at one input. -/
def bookAddsWrong : ChangeSpec := { name := "bookAdds", fn := fun _ => fun
  | [d1, d2, d3, d4] => { results := [.lit (.bool false)], args := [d1, d2, d3, d4] }
  | _ => none }
def BookAddsWrongFalsely : Prop := bookAddsRow.holds Tryz.pinned (OpenSpec.ofChange bookAddsWrong)

/-- 'quarterdaylaw22.BookFar': WHATEVER THE INPUT: true; the input reads as it did. -/
def bookFarSpec : ChangeSpec := { name := "bookFar", fn := fun _ => fun
  | [d1, d2, d3] => { results := [.lit (.bool true)], args := [d1, d2, d3] }
  | _ => none }
def bookFarRow : OpenClaim := { program := "ytamnccechaooaaagreat", sum := "d88fb59573d10a5f99af277fc6807b83053e1cbd93205567d132f1d286ed554b", func := "quarterday/quarterdaylaw22.BookFar", spec := "bookFar", inPlace := ["math/bits.Add64"], unfollowed := true, recurses := true, named := ["math/bits.divideError", "math/bits.overflowError"], plainKeys := false, apart := false }
def BookFarSaid : Prop := bookFarRow.holds Tryz.pinned (OpenSpec.ofChange bookFarSpec)

/-- ITS FALSE NEIGHBOUR: 'it returns false'. Refute it at one input. -/
def bookFarWrong : ChangeSpec := { name := "bookFar", fn := fun _ => fun
  | [d1, d2, d3] => { results := [.lit (.bool false)], args := [d1, d2, d3] }
  | _ => none }
def BookFarWrongFalsely : Prop := bookFarRow.holds Tryz.pinned (OpenSpec.ofChange bookFarWrong)

/-- 'quarterdaylaw22.BookServed': WHATEVER THE INPUT: true; the input reads as it did. -/
def bookServedSpec : ChangeSpec := { name := "bookServed", fn := fun _ => fun
  | [d1, d2, d3] => { results := [.lit (.bool true)], args := [d1, d2, d3] }
  | _ => none }
def bookServedRow : OpenClaim := { program := "ytamnccechaooaaagreat", sum := "d88fb59573d10a5f99af277fc6807b83053e1cbd93205567d132f1d286ed554b", func := "quarterday/quarterdaylaw22.BookServed", spec := "bookServed", inPlace := ["math/bits.Add64"], unfollowed := true, recurses := true, named := ["math/bits.divideError", "math/bits.overflowError"], plainKeys := false, apart := false }
def BookServedSaid : Prop := bookServedRow.holds Tryz.pinned (OpenSpec.ofChange bookServedSpec)

/-- ITS FALSE NEIGHBOUR: 'it returns false'. Refute it at one input. -/
def bookServedWrong : ChangeSpec := { name := "bookServed", fn := fun _ => fun
  | [d1, d2, d3] => { results := [.lit (.bool false)], args := [d1, d2, d3] }
  | _ => none }
def BookServedWrongFalsely : Prop := bookServedRow.holds Tryz.pinned (OpenSpec.ofChange bookServedWrong)

/-- 'quarterdaylaw22.BookKeeps': WHATEVER THE INPUT: true; the input reads as it did. -/
def bookKeepsSpec : ChangeSpec := { name := "bookKeeps", fn := fun _ => fun
  | [d1, d2, d3] => { results := [.lit (.bool true)], args := [d1, d2, d3] }
  | _ => none }
def bookKeepsRow : OpenClaim := { program := "ytamnccechaooaaagreat", sum := "d88fb59573d10a5f99af277fc6807b83053e1cbd93205567d132f1d286ed554b", func := "quarterday/quarterdaylaw22.BookKeeps", spec := "bookKeeps", inPlace := ["math/bits.Add64"], unfollowed := true, recurses := true, named := ["math/bits.divideError", "math/bits.overflowError"], plainKeys := false, apart := false }
def BookKeepsSaid : Prop := bookKeepsRow.holds Tryz.pinned (OpenSpec.ofChange bookKeepsSpec)

/-- ITS FALSE NEIGHBOUR: 'it returns false'. Refute it at one input. -/
def bookKeepsWrong : ChangeSpec := { name := "bookKeeps", fn := fun _ => fun
  | [d1, d2, d3] => { results := [.lit (.bool false)], args := [d1, d2, d3] }
  | _ => none }
def BookKeepsWrongFalsely : Prop := bookKeepsRow.holds Tryz.pinned (OpenSpec.ofChange bookKeepsWrong)

/-- 'quarterdaylaw22.BookSums': WHATEVER THE INPUT: true; the input reads as it did. -/
def bookSumsSpec : ChangeSpec := { name := "bookSums", fn := fun _ => fun
  | [d1, d2, d3, d4] => { results := [.lit (.bool true)], args := [d1, d2, d3, d4] }
  | _ => none }
def bookSumsRow : OpenClaim := { program := "ytamnccechaooaaagreat", sum := "d88fb59573d10a5f99af277fc6807b83053e1cbd93205567d132f1d286ed554b", func := "quarterday/quarterdaylaw22.BookSums", spec := "bookSums", inPlace := ["math/bits.Add64"], unfollowed := true, recurses := true, named := ["math/bits.divideError", "math/bits.overflowError"], plainKeys := false, apart := false }
def BookSumsSaid : Prop := bookSumsRow.holds Tryz.pinned (OpenSpec.ofChange bookSumsSpec)

/-- ITS FALSE NEIGHBOUR: 'it returns false'. Refute it at one input. -/
def bookSumsWrong : ChangeSpec := { name := "bookSums", fn := fun _ => fun
  | [d1, d2, d3, d4] => { results := [.lit (.bool false)], args := [d1, d2, d3, d4] }
  | _ => none }
def BookSumsWrongFalsely : Prop := bookSumsRow.holds Tryz.pinned (OpenSpec.ofChange bookSumsWrong)

/-- 'quarterdaylaw22.BookParts': WHATEVER THE INPUT: true; the input reads as it did. -/
def bookPartsSpec : ChangeSpec := { name := "bookParts", fn := fun _ => fun
  | [d1, d2] => { results := [.lit (.bool true)], args := [d1, d2] }
  | _ => none }
def bookPartsRow : OpenClaim := { program := "ytamnccechaooaaagreat", sum := "d88fb59573d10a5f99af277fc6807b83053e1cbd93205567d132f1d286ed554b", func := "quarterday/quarterdaylaw22.BookParts", spec := "bookParts", inPlace := ["math/bits.Add64"], unfollowed := true, recurses := true, named := ["math/bits.divideError", "math/bits.overflowError"], plainKeys := false, apart := false }
def BookPartsSaid : Prop := bookPartsRow.holds Tryz.pinned (OpenSpec.ofChange bookPartsSpec)

/-- ITS FALSE NEIGHBOUR: 'it returns false'. Refute it at one input. -/
def bookPartsWrong : ChangeSpec := { name := "bookParts", fn := fun _ => fun
  | [d1, d2] => { results := [.lit (.bool false)], args := [d1, d2] }
  | _ => none }
def BookPartsWrongFalsely : Prop := bookPartsRow.holds Tryz.pinned (OpenSpec.ofChange bookPartsWrong)

/-- 'quarterdaylaw23.VaryDiff': WHATEVER THE INPUT: true; the input reads as it did. -/
def varyDiffSpec : ChangeSpec := { name := "varyDiff", fn := fun _ => fun
  | [d1, d2, d3, d4] => { results := [.lit (.bool true)], args := [d1, d2, d3, d4] }
  | _ => none }
def varyDiffRow : OpenClaim := { program := "ytamnccechaooaaagreat", sum := "d88fb59573d10a5f99af277fc6807b83053e1cbd93205567d132f1d286ed554b", func := "quarterday/quarterdaylaw23.VaryDiff", spec := "varyDiff", inPlace := ["math/bits.Add64"], unfollowed := true, recurses := true, named := ["math/bits.divideError", "math/bits.overflowError"], plainKeys := false, apart := false }
def VaryDiffSaid : Prop := varyDiffRow.holds Tryz.pinned (OpenSpec.ofChange varyDiffSpec)

/-- ITS FALSE NEIGHBOUR: 'it returns false'. Refute it at one input. -/
def varyDiffWrong : ChangeSpec := { name := "varyDiff", fn := fun _ => fun
  | [d1, d2, d3, d4] => { results := [.lit (.bool false)], args := [d1, d2, d3, d4] }
  | _ => none }
def VaryDiffWrongFalsely : Prop := varyDiffRow.holds Tryz.pinned (OpenSpec.ofChange varyDiffWrong)

/-- 'quarterdaylaw23.VarySame': WHATEVER THE INPUT: true; the input reads as it did. -/
def varySameSpec : ChangeSpec := { name := "varySame", fn := fun _ => fun
  | [d1, d2, d3] => { results := [.lit (.bool true)], args := [d1, d2, d3] }
  | _ => none }
def varySameRow : OpenClaim := { program := "ytamnccechaooaaagreat", sum := "d88fb59573d10a5f99af277fc6807b83053e1cbd93205567d132f1d286ed554b", func := "quarterday/quarterdaylaw23.VarySame", spec := "varySame", inPlace := ["math/bits.Add64"], unfollowed := true, recurses := true, named := ["math/bits.divideError", "math/bits.overflowError"], plainKeys := false, apart := false }
def VarySameSaid : Prop := varySameRow.holds Tryz.pinned (OpenSpec.ofChange varySameSpec)

/-- ITS FALSE NEIGHBOUR: 'it returns false'. Refute it at one input. -/
def varySameWrong : ChangeSpec := { name := "varySame", fn := fun _ => fun
  | [d1, d2, d3] => { results := [.lit (.bool false)], args := [d1, d2, d3] }
  | _ => none }
def VarySameWrongFalsely : Prop := varySameRow.holds Tryz.pinned (OpenSpec.ofChange varySameWrong)

/-- 'quarterdaylaw23.VaryMonths': WHATEVER THE INPUT: true; the input reads as it did. -/
def varyMonthsSpec : ChangeSpec := { name := "varyMonths", fn := fun _ => fun
  | [d1, d2, d3, d4] => { results := [.lit (.bool true)], args := [d1, d2, d3, d4] }
  | _ => none }
def varyMonthsRow : OpenClaim := { program := "ytamnccechaooaaagreat", sum := "d88fb59573d10a5f99af277fc6807b83053e1cbd93205567d132f1d286ed554b", func := "quarterday/quarterdaylaw23.VaryMonths", spec := "varyMonths", inPlace := ["math/bits.Add64"], unfollowed := true, recurses := true, named := ["math/bits.divideError", "math/bits.overflowError"], plainKeys := false, apart := false }
def VaryMonthsSaid : Prop := varyMonthsRow.holds Tryz.pinned (OpenSpec.ofChange varyMonthsSpec)

/-- ITS FALSE NEIGHBOUR: 'it returns false'. Refute it at one input. -/
def varyMonthsWrong : ChangeSpec := { name := "varyMonths", fn := fun _ => fun
  | [d1, d2, d3, d4] => { results := [.lit (.bool false)], args := [d1, d2, d3, d4] }
  | _ => none }
def VaryMonthsWrongFalsely : Prop := varyMonthsRow.holds Tryz.pinned (OpenSpec.ofChange varyMonthsWrong)

/-- 'quarterdaylaw23.VaryParts': WHATEVER THE INPUT: true; the input reads as it did. -/
def varyPartsSpec : ChangeSpec := { name := "varyParts", fn := fun _ => fun
  | [d1, d2, d3, d4, d5] => { results := [.lit (.bool true)], args := [d1, d2, d3, d4, d5] }
  | _ => none }
def varyPartsRow : OpenClaim := { program := "ytamnccechaooaaagreat", sum := "d88fb59573d10a5f99af277fc6807b83053e1cbd93205567d132f1d286ed554b", func := "quarterday/quarterdaylaw23.VaryParts", spec := "varyParts", inPlace := ["math/bits.Add64"], unfollowed := true, recurses := true, named := ["math/bits.divideError", "math/bits.overflowError"], plainKeys := false, apart := false }
def VaryPartsSaid : Prop := varyPartsRow.holds Tryz.pinned (OpenSpec.ofChange varyPartsSpec)

/-- ITS FALSE NEIGHBOUR: 'it returns false'. Refute it at one input. -/
def varyPartsWrong : ChangeSpec := { name := "varyParts", fn := fun _ => fun
  | [d1, d2, d3, d4, d5] => { results := [.lit (.bool false)], args := [d1, d2, d3, d4, d5] }
  | _ => none }
def VaryPartsWrongFalsely : Prop := varyPartsRow.holds Tryz.pinned (OpenSpec.ofChange varyPartsWrong)

/-- 'quarterdaylaw23.VaryDays': WHATEVER THE INPUT: true; the input reads as it did. -/
def varyDaysSpec : ChangeSpec := { name := "varyDays", fn := fun _ => fun
  | [d1, d2, d3, d4] => { results := [.lit (.bool true)], args := [d1, d2, d3, d4] }
  | _ => none }
def varyDaysRow : OpenClaim := { program := "ytamnccechaooaaagreat", sum := "d88fb59573d10a5f99af277fc6807b83053e1cbd93205567d132f1d286ed554b", func := "quarterday/quarterdaylaw23.VaryDays", spec := "varyDays", inPlace := ["math/bits.Add64"], unfollowed := true, recurses := true, named := ["math/bits.divideError", "math/bits.overflowError"], plainKeys := false, apart := false }
def VaryDaysSaid : Prop := varyDaysRow.holds Tryz.pinned (OpenSpec.ofChange varyDaysSpec)

/-- ITS FALSE NEIGHBOUR: 'it returns false'. Refute it at one input. -/
def varyDaysWrong : ChangeSpec := { name := "varyDays", fn := fun _ => fun
  | [d1, d2, d3, d4] => { results := [.lit (.bool false)], args := [d1, d2, d3, d4] }
  | _ => none }
def VaryDaysWrongFalsely : Prop := varyDaysRow.holds Tryz.pinned (OpenSpec.ofChange varyDaysWrong)

/- THE SECOND FORM. 'bulk': how many values and letters a reading holds, each counted each time it is reached (what is shared counts as often as it is met; a slice's spare places count too). A statement '..UptoSaid' is the law's where the arguments, and the package variables that the reading takes, are together of bulk at most 1048576: NARROWER than '..Said'. Prove '..Said' where nothing that the law and all that it calls make is longer than what came in: it says more and counts as full. Else prove '..UptoSaid'. A law counts once. -/
mutual
def uptoBulk {H : Type} : DataW H → Nat
  | .lit (.string bytes) => bytes.length + 1
  | .lit _ => 1
  | .nil => 1
  | .ptr d => uptoBulk d + 1
  | .slice elems spare => uptoBulkAll elems + uptoBulkAll spare + 1
  | .agg parts => uptoBulkAll parts + 1
  | .iface _ d => uptoBulk d + 1
  | .map entries => uptoBulkEntries entries + 1
  | .held _ => 1
def uptoBulkAll {H : Type} : List (DataW H) → Nat
  | [] => 0
  | d :: r => uptoBulk d + uptoBulkAll r
def uptoBulkEntries {H : Type} : List (Lit × DataW H) → Nat
  | [] => 0
  | x :: r => uptoBulkEntry x + uptoBulkEntries r
def uptoBulkEntry {H : Type} : Lit × DataW H → Nat
  | (.string bytes, d) => bytes.length + uptoBulk d + 1
  | (_, d) => uptoBulk d + 1
 end
def uptoSmall : (H : Type) → List (DataW H) → Bool := fun _ ds => decide (uptoBulkAll ds ≤ 1048576)
def OpenSpec.upto (s : _root_.Go.ChangeSpec) : _root_.Go.OpenSpec := { _root_.Go.OpenSpec.ofChange s with cond := some uptoSmall }

/-- 'quarterdaylaw21.RateOne', WHERE WHAT IT READS IS OF BULK AT MOST 1048576: true; the input reads as it did. -/
def rateOneUptoRow : OpenClaim := { program := "ytamnccechaooaaagreat", sum := "d88fb59573d10a5f99af277fc6807b83053e1cbd93205567d132f1d286ed554b", func := "quarterday/quarterdaylaw21.RateOne", spec := "rateOne", inPlace := ["math/bits.Add64"], unfollowed := true, recurses := true, named := ["math/bits.divideError", "math/bits.overflowError"], plainKeys := false, apart := false, narrowed := true }
def RateOneUptoSaid : Prop := rateOneUptoRow.holds Tryz.pinned (OpenSpec.upto rateOneSpec)

/-- 'quarterdaylaw21.RateSum', WHERE WHAT IT READS IS OF BULK AT MOST 1048576: true; the input reads as it did. -/
def rateSumUptoRow : OpenClaim := { program := "ytamnccechaooaaagreat", sum := "d88fb59573d10a5f99af277fc6807b83053e1cbd93205567d132f1d286ed554b", func := "quarterday/quarterdaylaw21.RateSum", spec := "rateSum", inPlace := ["math/bits.Add64"], unfollowed := true, recurses := true, named := ["math/bits.divideError", "math/bits.overflowError"], plainKeys := false, apart := false, narrowed := true }
def RateSumUptoSaid : Prop := rateSumUptoRow.holds Tryz.pinned (OpenSpec.upto rateSumSpec)

/-- 'quarterdaylaw21.RateTies', WHERE WHAT IT READS IS OF BULK AT MOST 1048576: true; the input reads as it did. -/
def rateTiesUptoRow : OpenClaim := { program := "ytamnccechaooaaagreat", sum := "d88fb59573d10a5f99af277fc6807b83053e1cbd93205567d132f1d286ed554b", func := "quarterday/quarterdaylaw21.RateTies", spec := "rateTies", inPlace := ["math/bits.Add64"], unfollowed := true, recurses := true, named := ["math/bits.divideError", "math/bits.overflowError"], plainKeys := false, apart := false, narrowed := true }
def RateTiesUptoSaid : Prop := rateTiesUptoRow.holds Tryz.pinned (OpenSpec.upto rateTiesSpec)

/-- 'quarterdaylaw21.RateDays', WHERE WHAT IT READS IS OF BULK AT MOST 1048576: true; the input reads as it did. -/
def rateDaysUptoRow : OpenClaim := { program := "ytamnccechaooaaagreat", sum := "d88fb59573d10a5f99af277fc6807b83053e1cbd93205567d132f1d286ed554b", func := "quarterday/quarterdaylaw21.RateDays", spec := "rateDays", inPlace := ["math/bits.Add64"], unfollowed := true, recurses := true, named := ["math/bits.divideError", "math/bits.overflowError"], plainKeys := false, apart := false, narrowed := true }
def RateDaysUptoSaid : Prop := rateDaysUptoRow.holds Tryz.pinned (OpenSpec.upto rateDaysSpec)

/-- 'quarterdaylaw21.RateLevels', WHERE WHAT IT READS IS OF BULK AT MOST 1048576: true; the input reads as it did. -/
def rateLevelsUptoRow : OpenClaim := { program := "ytamnccechaooaaagreat", sum := "d88fb59573d10a5f99af277fc6807b83053e1cbd93205567d132f1d286ed554b", func := "quarterday/quarterdaylaw21.RateLevels", spec := "rateLevels", inPlace := ["math/bits.Add64"], unfollowed := true, recurses := true, named := ["math/bits.divideError", "math/bits.overflowError"], plainKeys := false, apart := false, narrowed := true }
def RateLevelsUptoSaid : Prop := rateLevelsUptoRow.holds Tryz.pinned (OpenSpec.upto rateLevelsSpec)

/-- 'quarterdaylaw22.BookPosts', WHERE WHAT IT READS IS OF BULK AT MOST 1048576: true; the input reads as it did. -/
def bookPostsUptoRow : OpenClaim := { program := "ytamnccechaooaaagreat", sum := "d88fb59573d10a5f99af277fc6807b83053e1cbd93205567d132f1d286ed554b", func := "quarterday/quarterdaylaw22.BookPosts", spec := "bookPosts", inPlace := ["math/bits.Add64"], unfollowed := true, recurses := true, named := ["math/bits.divideError", "math/bits.overflowError"], plainKeys := false, apart := false, narrowed := true }
def BookPostsUptoSaid : Prop := bookPostsUptoRow.holds Tryz.pinned (OpenSpec.upto bookPostsSpec)

/-- 'quarterdaylaw22.BookAdds', WHERE WHAT IT READS IS OF BULK AT MOST 1048576: true; the input reads as it did. -/
def bookAddsUptoRow : OpenClaim := { program := "ytamnccechaooaaagreat", sum := "d88fb59573d10a5f99af277fc6807b83053e1cbd93205567d132f1d286ed554b", func := "quarterday/quarterdaylaw22.BookAdds", spec := "bookAdds", inPlace := ["math/bits.Add64"], unfollowed := true, recurses := true, named := ["math/bits.divideError", "math/bits.overflowError"], plainKeys := false, apart := false, narrowed := true }
def BookAddsUptoSaid : Prop := bookAddsUptoRow.holds Tryz.pinned (OpenSpec.upto bookAddsSpec)

/-- 'quarterdaylaw22.BookFar', WHERE WHAT IT READS IS OF BULK AT MOST 1048576: true; the input reads as it did. -/
def bookFarUptoRow : OpenClaim := { program := "ytamnccechaooaaagreat", sum := "d88fb59573d10a5f99af277fc6807b83053e1cbd93205567d132f1d286ed554b", func := "quarterday/quarterdaylaw22.BookFar", spec := "bookFar", inPlace := ["math/bits.Add64"], unfollowed := true, recurses := true, named := ["math/bits.divideError", "math/bits.overflowError"], plainKeys := false, apart := false, narrowed := true }
def BookFarUptoSaid : Prop := bookFarUptoRow.holds Tryz.pinned (OpenSpec.upto bookFarSpec)

/-- 'quarterdaylaw22.BookServed', WHERE WHAT IT READS IS OF BULK AT MOST 1048576: true; the input reads as it did. -/
def bookServedUptoRow : OpenClaim := { program := "ytamnccechaooaaagreat", sum := "d88fb59573d10a5f99af277fc6807b83053e1cbd93205567d132f1d286ed554b", func := "quarterday/quarterdaylaw22.BookServed", spec := "bookServed", inPlace := ["math/bits.Add64"], unfollowed := true, recurses := true, named := ["math/bits.divideError", "math/bits.overflowError"], plainKeys := false, apart := false, narrowed := true }
def BookServedUptoSaid : Prop := bookServedUptoRow.holds Tryz.pinned (OpenSpec.upto bookServedSpec)

/-- 'quarterdaylaw22.BookKeeps', WHERE WHAT IT READS IS OF BULK AT MOST 1048576: true; the input reads as it did. -/
def bookKeepsUptoRow : OpenClaim := { program := "ytamnccechaooaaagreat", sum := "d88fb59573d10a5f99af277fc6807b83053e1cbd93205567d132f1d286ed554b", func := "quarterday/quarterdaylaw22.BookKeeps", spec := "bookKeeps", inPlace := ["math/bits.Add64"], unfollowed := true, recurses := true, named := ["math/bits.divideError", "math/bits.overflowError"], plainKeys := false, apart := false, narrowed := true }
def BookKeepsUptoSaid : Prop := bookKeepsUptoRow.holds Tryz.pinned (OpenSpec.upto bookKeepsSpec)

/-- 'quarterdaylaw22.BookSums', WHERE WHAT IT READS IS OF BULK AT MOST 1048576: true; the input reads as it did. -/
def bookSumsUptoRow : OpenClaim := { program := "ytamnccechaooaaagreat", sum := "d88fb59573d10a5f99af277fc6807b83053e1cbd93205567d132f1d286ed554b", func := "quarterday/quarterdaylaw22.BookSums", spec := "bookSums", inPlace := ["math/bits.Add64"], unfollowed := true, recurses := true, named := ["math/bits.divideError", "math/bits.overflowError"], plainKeys := false, apart := false, narrowed := true }
def BookSumsUptoSaid : Prop := bookSumsUptoRow.holds Tryz.pinned (OpenSpec.upto bookSumsSpec)

/-- 'quarterdaylaw22.BookParts', WHERE WHAT IT READS IS OF BULK AT MOST 1048576: true; the input reads as it did. -/
def bookPartsUptoRow : OpenClaim := { program := "ytamnccechaooaaagreat", sum := "d88fb59573d10a5f99af277fc6807b83053e1cbd93205567d132f1d286ed554b", func := "quarterday/quarterdaylaw22.BookParts", spec := "bookParts", inPlace := ["math/bits.Add64"], unfollowed := true, recurses := true, named := ["math/bits.divideError", "math/bits.overflowError"], plainKeys := false, apart := false, narrowed := true }
def BookPartsUptoSaid : Prop := bookPartsUptoRow.holds Tryz.pinned (OpenSpec.upto bookPartsSpec)

/-- 'quarterdaylaw23.VaryDiff', WHERE WHAT IT READS IS OF BULK AT MOST 1048576: true; the input reads as it did. -/
def varyDiffUptoRow : OpenClaim := { program := "ytamnccechaooaaagreat", sum := "d88fb59573d10a5f99af277fc6807b83053e1cbd93205567d132f1d286ed554b", func := "quarterday/quarterdaylaw23.VaryDiff", spec := "varyDiff", inPlace := ["math/bits.Add64"], unfollowed := true, recurses := true, named := ["math/bits.divideError", "math/bits.overflowError"], plainKeys := false, apart := false, narrowed := true }
def VaryDiffUptoSaid : Prop := varyDiffUptoRow.holds Tryz.pinned (OpenSpec.upto varyDiffSpec)

/-- 'quarterdaylaw23.VarySame', WHERE WHAT IT READS IS OF BULK AT MOST 1048576: true; the input reads as it did. -/
def varySameUptoRow : OpenClaim := { program := "ytamnccechaooaaagreat", sum := "d88fb59573d10a5f99af277fc6807b83053e1cbd93205567d132f1d286ed554b", func := "quarterday/quarterdaylaw23.VarySame", spec := "varySame", inPlace := ["math/bits.Add64"], unfollowed := true, recurses := true, named := ["math/bits.divideError", "math/bits.overflowError"], plainKeys := false, apart := false, narrowed := true }
def VarySameUptoSaid : Prop := varySameUptoRow.holds Tryz.pinned (OpenSpec.upto varySameSpec)

/-- 'quarterdaylaw23.VaryMonths', WHERE WHAT IT READS IS OF BULK AT MOST 1048576: true; the input reads as it did. -/
def varyMonthsUptoRow : OpenClaim := { program := "ytamnccechaooaaagreat", sum := "d88fb59573d10a5f99af277fc6807b83053e1cbd93205567d132f1d286ed554b", func := "quarterday/quarterdaylaw23.VaryMonths", spec := "varyMonths", inPlace := ["math/bits.Add64"], unfollowed := true, recurses := true, named := ["math/bits.divideError", "math/bits.overflowError"], plainKeys := false, apart := false, narrowed := true }
def VaryMonthsUptoSaid : Prop := varyMonthsUptoRow.holds Tryz.pinned (OpenSpec.upto varyMonthsSpec)

/-- 'quarterdaylaw23.VaryParts', WHERE WHAT IT READS IS OF BULK AT MOST 1048576: true; the input reads as it did. -/
def varyPartsUptoRow : OpenClaim := { program := "ytamnccechaooaaagreat", sum := "d88fb59573d10a5f99af277fc6807b83053e1cbd93205567d132f1d286ed554b", func := "quarterday/quarterdaylaw23.VaryParts", spec := "varyParts", inPlace := ["math/bits.Add64"], unfollowed := true, recurses := true, named := ["math/bits.divideError", "math/bits.overflowError"], plainKeys := false, apart := false, narrowed := true }
def VaryPartsUptoSaid : Prop := varyPartsUptoRow.holds Tryz.pinned (OpenSpec.upto varyPartsSpec)

/-- 'quarterdaylaw23.VaryDays', WHERE WHAT IT READS IS OF BULK AT MOST 1048576: true; the input reads as it did. -/
def varyDaysUptoRow : OpenClaim := { program := "ytamnccechaooaaagreat", sum := "d88fb59573d10a5f99af277fc6807b83053e1cbd93205567d132f1d286ed554b", func := "quarterday/quarterdaylaw23.VaryDays", spec := "varyDays", inPlace := ["math/bits.Add64"], unfollowed := true, recurses := true, named := ["math/bits.divideError", "math/bits.overflowError"], plainKeys := false, apart := false, narrowed := true }
def VaryDaysUptoSaid : Prop := varyDaysUptoRow.holds Tryz.pinned (OpenSpec.upto varyDaysSpec)

end Rows
end Go.Proofs.YtamnccechaooaaaGreat
