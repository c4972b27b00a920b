/-
  No cell of these rows narrows 'for every input' (looked for: loops, veiled, ifaces, maps, wideKeys, modest, calm, conditions, laid).
  DERIVED. THE GIVEN ROWS OF THIS SEAT. 6 by the template 'for every input the law returns true; each argument reads behind the call as it read before'; 0 by the template 'total and deterministic' (their statements: YtjhhmeoibfdcmaaGreatTotals.lean).
  GIVEN WITH THE SEED: the statements are not yours to turn. If you find one false, say at which input.
  Laid BY PROGRAM, IN A SANDBOX (cutbox-rows.mjs): the forced cells as the released guide's own fill.sh prints them over the translation 1f4bfca83de0020f… (all of the seat's roots in one cut). By AI agents, Wed Nov 11 2026. No macro, syntax, notation, axiom, sorry.
-/
import Derived.Test.YtjhhmeoibfdcmaaGreatChecked
import GoSem.Claim
import GoSem.ClaimJoined
import GoSem.ClaimMapViews
import Derived.JoinedTies
import Derived.KernelRfl
namespace Go.Proofs.YtjhhmeoibfdcmaaGreat
/- THE CELL 'sum', in the pinned program and in every row, IS THE sha256 OF THE DUMP (.gsa) THAT YtjhhmeoibfdcmaaGreatProg.lean LOADS. Nothing in Lean hashes anything: it is a label: what it is worth is what the hold of that sum in a sandbox is worth. -/
noncomputable def Tryz.pinned : Pinned := { name := "ytjhhmeoibfdcmaagreat", sum := "1f4bfca83de0020f59a10aa02e30ea3fe44e7292a473ec10f3bb5ad8dc5582e4", checked := Tryz.checked }
namespace Rows
def none {H : Type} : Left H := { results := [], args := [] }

/-- 'quarterdaylaw22.BookAdds': WHATEVER THE INPUT: true; the input reads as it did. -/
def bookAddsSpec : ChangeSpec := { name := "bookAdds", fn := fun _ => fun
  | [d1, d2, d3, d4] => { results := [.lit (.bool true)], args := [d1, d2, d3, d4] }
  | _ => none }
def bookAddsRow : OpenClaim := { program := "ytjhhmeoibfdcmaagreat", sum := "1f4bfca83de0020f59a10aa02e30ea3fe44e7292a473ec10f3bb5ad8dc5582e4", func := "quarterday/quarterdaylaw22.BookAdds", spec := "bookAdds", inPlace := ["math/bits.Add64"], unfollowed := true, recurses := true, named := ["math/bits.divideError", "math/bits.overflowError"], plainKeys := false, apart := false }
def BookAddsSaid : Prop := bookAddsRow.holds Tryz.pinned (OpenSpec.ofChange bookAddsSpec)

/-- ITS FALSE NEIGHBOUR: 'it returns false'. Refute it at one input. -/
def bookAddsWrong : ChangeSpec := { name := "bookAdds", fn := fun _ => fun
  | [d1, d2, d3, d4] => { results := [.lit (.bool false)], args := [d1, d2, d3, d4] }
  | _ => none }
def BookAddsWrongFalsely : Prop := bookAddsRow.holds Tryz.pinned (OpenSpec.ofChange bookAddsWrong)

/-- 'quarterdaylaw22.BookKeeps': WHATEVER THE INPUT: true; the input reads as it did. -/
def bookKeepsSpec : ChangeSpec := { name := "bookKeeps", fn := fun _ => fun
  | [d1, d2, d3] => { results := [.lit (.bool true)], args := [d1, d2, d3] }
  | _ => none }
def bookKeepsRow : OpenClaim := { program := "ytjhhmeoibfdcmaagreat", sum := "1f4bfca83de0020f59a10aa02e30ea3fe44e7292a473ec10f3bb5ad8dc5582e4", func := "quarterday/quarterdaylaw22.BookKeeps", spec := "bookKeeps", inPlace := ["math/bits.Add64"], unfollowed := true, recurses := true, named := ["math/bits.divideError", "math/bits.overflowError"], plainKeys := false, apart := false }
def BookKeepsSaid : Prop := bookKeepsRow.holds Tryz.pinned (OpenSpec.ofChange bookKeepsSpec)

/-- ITS FALSE NEIGHBOUR: 'it returns false'. Refute it at one input. -/
def bookKeepsWrong : ChangeSpec := { name := "bookKeeps", fn := fun _ => fun
  | [d1, d2, d3] => { results := [.lit (.bool false)], args := [d1, d2, d3] }
  | _ => none }
def BookKeepsWrongFalsely : Prop := bookKeepsRow.holds Tryz.pinned (OpenSpec.ofChange bookKeepsWrong)

/-- 'quarterdaylaw21.RateDoes': WHATEVER THE INPUT: true; the input reads as it did. -/
def rateDoesSpec : ChangeSpec := { name := "rateDoes", fn := fun _ => fun
  | [d1, d2, d3, d4] => { results := [.lit (.bool true)], args := [d1, d2, d3, d4] }
  | _ => none }
def rateDoesRow : OpenClaim := { program := "ytjhhmeoibfdcmaagreat", sum := "1f4bfca83de0020f59a10aa02e30ea3fe44e7292a473ec10f3bb5ad8dc5582e4", func := "quarterday/quarterdaylaw21.RateDoes", spec := "rateDoes", inPlace := ["math/bits.Add64"], unfollowed := true, recurses := true, named := ["math/bits.divideError", "math/bits.overflowError"], plainKeys := false, apart := false }
def RateDoesSaid : Prop := rateDoesRow.holds Tryz.pinned (OpenSpec.ofChange rateDoesSpec)

/-- ITS FALSE NEIGHBOUR: 'it returns false'. Refute it at one input. -/
def rateDoesWrong : ChangeSpec := { name := "rateDoes", fn := fun _ => fun
  | [d1, d2, d3, d4] => { results := [.lit (.bool false)], args := [d1, d2, d3, d4] }
  | _ => none }
def RateDoesWrongFalsely : Prop := rateDoesRow.holds Tryz.pinned (OpenSpec.ofChange rateDoesWrong)

/-- 'quarterdaylaw22.BookRolls': WHATEVER THE INPUT: true; the input reads as it did. -/
def bookRollsSpec : ChangeSpec := { name := "bookRolls", fn := fun _ => fun
  | [d1, d2, d3] => { results := [.lit (.bool true)], args := [d1, d2, d3] }
  | _ => none }
def bookRollsRow : OpenClaim := { program := "ytjhhmeoibfdcmaagreat", sum := "1f4bfca83de0020f59a10aa02e30ea3fe44e7292a473ec10f3bb5ad8dc5582e4", func := "quarterday/quarterdaylaw22.BookRolls", spec := "bookRolls", inPlace := ["math/bits.Add64"], unfollowed := true, recurses := true, named := ["math/bits.divideError", "math/bits.overflowError"], plainKeys := false, apart := false }
def BookRollsSaid : Prop := bookRollsRow.holds Tryz.pinned (OpenSpec.ofChange bookRollsSpec)

/-- ITS FALSE NEIGHBOUR: 'it returns false'. Refute it at one input. -/
def bookRollsWrong : ChangeSpec := { name := "bookRolls", fn := fun _ => fun
  | [d1, d2, d3] => { results := [.lit (.bool false)], args := [d1, d2, d3] }
  | _ => none }
def BookRollsWrongFalsely : Prop := bookRollsRow.holds Tryz.pinned (OpenSpec.ofChange bookRollsWrong)

/-- 'quarterdaylaw23.VaryRows': WHATEVER THE INPUT: true; the input reads as it did. -/
def varyRowsSpec : ChangeSpec := { name := "varyRows", fn := fun _ => fun
  | [d1, d2, d3, d4] => { results := [.lit (.bool true)], args := [d1, d2, d3, d4] }
  | _ => none }
def varyRowsRow : OpenClaim := { program := "ytjhhmeoibfdcmaagreat", sum := "1f4bfca83de0020f59a10aa02e30ea3fe44e7292a473ec10f3bb5ad8dc5582e4", func := "quarterday/quarterdaylaw23.VaryRows", spec := "varyRows", inPlace := ["math/bits.Add64"], unfollowed := true, recurses := true, named := ["math/bits.divideError", "math/bits.overflowError"], plainKeys := false, apart := false }
def VaryRowsSaid : Prop := varyRowsRow.holds Tryz.pinned (OpenSpec.ofChange varyRowsSpec)

/-- ITS FALSE NEIGHBOUR: 'it returns false'. Refute it at one input. -/
def varyRowsWrong : ChangeSpec := { name := "varyRows", fn := fun _ => fun
  | [d1, d2, d3, d4] => { results := [.lit (.bool false)], args := [d1, d2, d3, d4] }
  | _ => none }
def VaryRowsWrongFalsely : Prop := varyRowsRow.holds Tryz.pinned (OpenSpec.ofChange varyRowsWrong)

/-- 'quarterdaylaw23.VaryTables': WHATEVER THE INPUT: true; the input reads as it did. -/
def varyTablesSpec : ChangeSpec := { name := "varyTables", fn := fun _ => fun
  | [d1, d2, d3, d4, d5] => { results := [.lit (.bool true)], args := [d1, d2, d3, d4, d5] }
  | _ => none }
def varyTablesRow : OpenClaim := { program := "ytjhhmeoibfdcmaagreat", sum := "1f4bfca83de0020f59a10aa02e30ea3fe44e7292a473ec10f3bb5ad8dc5582e4", func := "quarterday/quarterdaylaw23.VaryTables", spec := "varyTables", inPlace := ["math/bits.Add64"], unfollowed := true, recurses := true, named := ["math/bits.divideError", "math/bits.overflowError"], plainKeys := false, apart := false }
def VaryTablesSaid : Prop := varyTablesRow.holds Tryz.pinned (OpenSpec.ofChange varyTablesSpec)

/-- ITS FALSE NEIGHBOUR: 'it returns false'. Refute it at one input. -/
def varyTablesWrong : ChangeSpec := { name := "varyTables", fn := fun _ => fun
  | [d1, d2, d3, d4, d5] => { results := [.lit (.bool false)], args := [d1, d2, d3, d4, d5] }
  | _ => none }
def VaryTablesWrongFalsely : Prop := varyTablesRow.holds Tryz.pinned (OpenSpec.ofChange varyTablesWrong)

/- THE SECOND FORM. 'bulk': how many values and letters a reading holds, each counted each time it is reached (what is shared counts as often as it is met; a slice's spare places count too). A statement '..UptoSaid' is the law's where the arguments, and the package variables that the reading takes, are together of bulk at most 1048576: NARROWER than '..Said'. Prove '..Said' where nothing that the law and all that it calls make is longer than what came in: it says more and counts as full. Else prove '..UptoSaid'. A law counts once. -/
mutual
def uptoBulk {H : Type} : DataW H → Nat
  | .lit (.string bytes) => bytes.length + 1
  | .lit _ => 1
  | .nil => 1
  | .ptr d => uptoBulk d + 1
  | .slice elems spare => uptoBulkAll elems + uptoBulkAll spare + 1
  | .agg parts => uptoBulkAll parts + 1
  | .iface _ d => uptoBulk d + 1
  | .map entries => uptoBulkEntries entries + 1
  | .held _ => 1
def uptoBulkAll {H : Type} : List (DataW H) → Nat
  | [] => 0
  | d :: r => uptoBulk d + uptoBulkAll r
def uptoBulkEntries {H : Type} : List (Lit × DataW H) → Nat
  | [] => 0
  | x :: r => uptoBulkEntry x + uptoBulkEntries r
def uptoBulkEntry {H : Type} : Lit × DataW H → Nat
  | (.string bytes, d) => bytes.length + uptoBulk d + 1
  | (_, d) => uptoBulk d + 1
 end
def uptoSmall : (H : Type) → List (DataW H) → Bool := fun _ ds => decide (uptoBulkAll ds ≤ 1048576)
def OpenSpec.upto (s : _root_.Go.ChangeSpec) : _root_.Go.OpenSpec := { _root_.Go.OpenSpec.ofChange s with cond := some uptoSmall }

/-- 'quarterdaylaw22.BookAdds', WHERE WHAT IT READS IS OF BULK AT MOST 1048576: true; the input reads as it did. -/
def bookAddsUptoRow : OpenClaim := { program := "ytjhhmeoibfdcmaagreat", sum := "1f4bfca83de0020f59a10aa02e30ea3fe44e7292a473ec10f3bb5ad8dc5582e4", func := "quarterday/quarterdaylaw22.BookAdds", spec := "bookAdds", inPlace := ["math/bits.Add64"], unfollowed := true, recurses := true, named := ["math/bits.divideError", "math/bits.overflowError"], plainKeys := false, apart := false, narrowed := true }
def BookAddsUptoSaid : Prop := bookAddsUptoRow.holds Tryz.pinned (OpenSpec.upto bookAddsSpec)

/-- 'quarterdaylaw22.BookKeeps', WHERE WHAT IT READS IS OF BULK AT MOST 1048576: true; the input reads as it did. -/
def bookKeepsUptoRow : OpenClaim := { program := "ytjhhmeoibfdcmaagreat", sum := "1f4bfca83de0020f59a10aa02e30ea3fe44e7292a473ec10f3bb5ad8dc5582e4", func := "quarterday/quarterdaylaw22.BookKeeps", spec := "bookKeeps", inPlace := ["math/bits.Add64"], unfollowed := true, recurses := true, named := ["math/bits.divideError", "math/bits.overflowError"], plainKeys := false, apart := false, narrowed := true }
def BookKeepsUptoSaid : Prop := bookKeepsUptoRow.holds Tryz.pinned (OpenSpec.upto bookKeepsSpec)

/-- 'quarterdaylaw21.RateDoes', WHERE WHAT IT READS IS OF BULK AT MOST 1048576: true; the input reads as it did. -/
def rateDoesUptoRow : OpenClaim := { program := "ytjhhmeoibfdcmaagreat", sum := "1f4bfca83de0020f59a10aa02e30ea3fe44e7292a473ec10f3bb5ad8dc5582e4", func := "quarterday/quarterdaylaw21.RateDoes", spec := "rateDoes", inPlace := ["math/bits.Add64"], unfollowed := true, recurses := true, named := ["math/bits.divideError", "math/bits.overflowError"], plainKeys := false, apart := false, narrowed := true }
def RateDoesUptoSaid : Prop := rateDoesUptoRow.holds Tryz.pinned (OpenSpec.upto rateDoesSpec)

/-- 'quarterdaylaw22.BookRolls', WHERE WHAT IT READS IS OF BULK AT MOST 1048576: true; the input reads as it did. -/
def bookRollsUptoRow : OpenClaim := { program := "ytjhhmeoibfdcmaagreat", sum := "1f4bfca83de0020f59a10aa02e30ea3fe44e7292a473ec10f3bb5ad8dc5582e4", func := "quarterday/quarterdaylaw22.BookRolls", spec := "bookRolls", inPlace := ["math/bits.Add64"], unfollowed := true, recurses := true, named := ["math/bits.divideError", "math/bits.overflowError"], plainKeys := false, apart := false, narrowed := true }
def BookRollsUptoSaid : Prop := bookRollsUptoRow.holds Tryz.pinned (OpenSpec.upto bookRollsSpec)

/-- 'quarterdaylaw23.VaryRows', WHERE WHAT IT READS IS OF BULK AT MOST 1048576: true; the input reads as it did. -/
def varyRowsUptoRow : OpenClaim := { program := "ytjhhmeoibfdcmaagreat", sum := "1f4bfca83de0020f59a10aa02e30ea3fe44e7292a473ec10f3bb5ad8dc5582e4", func := "quarterday/quarterdaylaw23.VaryRows", spec := "varyRows", inPlace := ["math/bits.Add64"], unfollowed := true, recurses := true, named := ["math/bits.divideError", "math/bits.overflowError"], plainKeys := false, apart := false, narrowed := true }
def VaryRowsUptoSaid : Prop := varyRowsUptoRow.holds Tryz.pinned (OpenSpec.upto varyRowsSpec)

/-- 'quarterdaylaw23.VaryTables', WHERE WHAT IT READS IS OF BULK AT MOST 1048576: true; the input reads as it did. -/
def varyTablesUptoRow : OpenClaim := { program := "ytjhhmeoibfdcmaagreat", sum := "1f4bfca83de0020f59a10aa02e30ea3fe44e7292a473ec10f3bb5ad8dc5582e4", func := "quarterday/quarterdaylaw23.VaryTables", spec := "varyTables", inPlace := ["math/bits.Add64"], unfollowed := true, recurses := true, named := ["math/bits.divideError", "math/bits.overflowError"], plainKeys := false, apart := false, narrowed := true }
def VaryTablesUptoSaid : Prop := varyTablesUptoRow.holds Tryz.pinned (OpenSpec.upto varyTablesSpec)

end Rows
end Go.Proofs.YtjhhmeoibfdcmaaGreat
