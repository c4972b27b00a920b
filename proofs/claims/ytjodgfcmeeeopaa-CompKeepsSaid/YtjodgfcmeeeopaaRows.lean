/-
  No cell of these rows narrows 'for every input' (looked for: loops, veiled, ifaces, maps, wideKeys, modest, calm, conditions, laid).
  DERIVED. THE GIVEN ROWS OF THIS SEAT. 6 by the template 'for every input the law returns true; each argument reads behind the call as it read before'; 0 by the template 'total and deterministic' (their statements: YtjodgfcmeeeopaaTotals.lean).
  GIVEN WITH THE SEED: the statements are not yours to turn. If you find one false, say at which input.
  Laid BY PROGRAM, IN A SANDBOX (cutbox-rows.mjs): the forced cells as the released guide's own fill.sh prints them over the translation 28d9db79bef194a1… (all of the seat's roots in one cut). By AI agents, Wed Nov 11 2026. No macro, syntax, notation, axiom, sorry.
-/
import Derived.Test.YtjodgfcmeeeopaaChecked
import GoSem.Claim
import GoSem.ClaimJoined
import GoSem.ClaimMapViews
import Derived.JoinedTies
import Derived.KernelRfl
namespace Go.Proofs.Ytjodgfcmeeeopaa
/- THE CELL 'sum', in the pinned program and in every row, IS THE sha256 OF THE DUMP (.gsa) THAT YtjodgfcmeeeopaaProg.lean LOADS. Nothing in Lean hashes anything: it is a label: what it is worth is what the hold of that sum in a sandbox is worth. -/
noncomputable def Try.pinned : Pinned := { name := "ytjodgfcmeeeopaa", sum := "28d9db79bef194a1092447093c512489458121e55e9c4b35daaa2ae1eb66444c", checked := Try.checked }
namespace Rows
def none {H : Type} : Left H := { results := [], args := [] }

/-- 'quarterdaylaw19.CompKeeps': WHATEVER THE INPUT: true; the input reads as it did. -/
def compKeepsSpec : ChangeSpec := { name := "compKeeps", fn := fun _ => fun
  | [d1, d2, d3] => { results := [.lit (.bool true)], args := [d1, d2, d3] }
  | _ => none }
def compKeepsRow : OpenClaim := { program := "ytjodgfcmeeeopaa", sum := "28d9db79bef194a1092447093c512489458121e55e9c4b35daaa2ae1eb66444c", func := "quarterday/quarterdaylaw19.CompKeeps", spec := "compKeeps", unfollowed := true, recurses := true, apart := false }
def CompKeepsSaid : Prop := compKeepsRow.holds Try.pinned (OpenSpec.ofChange compKeepsSpec)

/-- ITS FALSE NEIGHBOUR: 'it returns false'. Refute it at one input. -/
def compKeepsWrong : ChangeSpec := { name := "compKeeps", fn := fun _ => fun
  | [d1, d2, d3] => { results := [.lit (.bool false)], args := [d1, d2, d3] }
  | _ => none }
def CompKeepsWrongFalsely : Prop := compKeepsRow.holds Try.pinned (OpenSpec.ofChange compKeepsWrong)

/-- 'quarterdaylaw19.CompRises': WHATEVER THE INPUT: true; the input reads as it did. -/
def compRisesSpec : ChangeSpec := { name := "compRises", fn := fun _ => fun
  | [d1, d2, d3, d4] => { results := [.lit (.bool true)], args := [d1, d2, d3, d4] }
  | _ => none }
def compRisesRow : OpenClaim := { program := "ytjodgfcmeeeopaa", sum := "28d9db79bef194a1092447093c512489458121e55e9c4b35daaa2ae1eb66444c", func := "quarterday/quarterdaylaw19.CompRises", spec := "compRises", unfollowed := true, recurses := true, apart := false }
def CompRisesSaid : Prop := compRisesRow.holds Try.pinned (OpenSpec.ofChange compRisesSpec)

/-- ITS FALSE NEIGHBOUR: 'it returns false'. Refute it at one input. -/
def compRisesWrong : ChangeSpec := { name := "compRises", fn := fun _ => fun
  | [d1, d2, d3, d4] => { results := [.lit (.bool false)], args := [d1, d2, d3, d4] }
  | _ => none }
def CompRisesWrongFalsely : Prop := compRisesRow.holds Try.pinned (OpenSpec.ofChange compRisesWrong)

/-- 'quarterdaylaw19.CompBack': WHATEVER THE INPUT: true; the input reads as it did. -/
def compBackSpec : ChangeSpec := { name := "compBack", fn := fun _ => fun
  | [d1, d2, d3] => { results := [.lit (.bool true)], args := [d1, d2, d3] }
  | _ => none }
def compBackRow : OpenClaim := { program := "ytjodgfcmeeeopaa", sum := "28d9db79bef194a1092447093c512489458121e55e9c4b35daaa2ae1eb66444c", func := "quarterday/quarterdaylaw19.CompBack", spec := "compBack", unfollowed := true, recurses := true, apart := false }
def CompBackSaid : Prop := compBackRow.holds Try.pinned (OpenSpec.ofChange compBackSpec)

/-- ITS FALSE NEIGHBOUR: 'it returns false'. Refute it at one input. -/
def compBackWrong : ChangeSpec := { name := "compBack", fn := fun _ => fun
  | [d1, d2, d3] => { results := [.lit (.bool false)], args := [d1, d2, d3] }
  | _ => none }
def CompBackWrongFalsely : Prop := compBackRow.holds Try.pinned (OpenSpec.ofChange compBackWrong)

/-- 'quarterdaylaw19.CompSame': WHATEVER THE INPUT: true; the input reads as it did. -/
def compSameSpec : ChangeSpec := { name := "compSame", fn := fun _ => fun
  | [d1, d2] => { results := [.lit (.bool true)], args := [d1, d2] }
  | _ => none }
def compSameRow : OpenClaim := { program := "ytjodgfcmeeeopaa", sum := "28d9db79bef194a1092447093c512489458121e55e9c4b35daaa2ae1eb66444c", func := "quarterday/quarterdaylaw19.CompSame", spec := "compSame", unfollowed := true, recurses := true, apart := false }
def CompSameSaid : Prop := compSameRow.holds Try.pinned (OpenSpec.ofChange compSameSpec)

/-- ITS FALSE NEIGHBOUR: 'it returns false'. Refute it at one input. -/
def compSameWrong : ChangeSpec := { name := "compSame", fn := fun _ => fun
  | [d1, d2] => { results := [.lit (.bool false)], args := [d1, d2] }
  | _ => none }
def CompSameWrongFalsely : Prop := compSameRow.holds Try.pinned (OpenSpec.ofChange compSameWrong)

/-- 'quarterdaylaw19.CompMonths': WHATEVER THE INPUT: true; the input reads as it did. -/
def compMonthsSpec : ChangeSpec := { name := "compMonths", fn := fun _ => fun
  | [d1, d2, d3] => { results := [.lit (.bool true)], args := [d1, d2, d3] }
  | _ => none }
def compMonthsRow : OpenClaim := { program := "ytjodgfcmeeeopaa", sum := "28d9db79bef194a1092447093c512489458121e55e9c4b35daaa2ae1eb66444c", func := "quarterday/quarterdaylaw19.CompMonths", spec := "compMonths", unfollowed := true, recurses := true, apart := false }
def CompMonthsSaid : Prop := compMonthsRow.holds Try.pinned (OpenSpec.ofChange compMonthsSpec)

/-- ITS FALSE NEIGHBOUR: 'it returns false'. Refute it at one input. -/
def compMonthsWrong : ChangeSpec := { name := "compMonths", fn := fun _ => fun
  | [d1, d2, d3] => { results := [.lit (.bool false)], args := [d1, d2, d3] }
  | _ => none }
def CompMonthsWrongFalsely : Prop := compMonthsRow.holds Try.pinned (OpenSpec.ofChange compMonthsWrong)

/-- 'quarterdaylaw19.CompEnds': WHATEVER THE INPUT: true; the input reads as it did. -/
def compEndsSpec : ChangeSpec := { name := "compEnds", fn := fun _ => fun
  | [d1, d2, d3, d4] => { results := [.lit (.bool true)], args := [d1, d2, d3, d4] }
  | _ => none }
def compEndsRow : OpenClaim := { program := "ytjodgfcmeeeopaa", sum := "28d9db79bef194a1092447093c512489458121e55e9c4b35daaa2ae1eb66444c", func := "quarterday/quarterdaylaw19.CompEnds", spec := "compEnds", unfollowed := true, recurses := true, apart := false }
def CompEndsSaid : Prop := compEndsRow.holds Try.pinned (OpenSpec.ofChange compEndsSpec)

/-- ITS FALSE NEIGHBOUR: 'it returns false'. Refute it at one input. -/
def compEndsWrong : ChangeSpec := { name := "compEnds", fn := fun _ => fun
  | [d1, d2, d3, d4] => { results := [.lit (.bool false)], args := [d1, d2, d3, d4] }
  | _ => none }
def CompEndsWrongFalsely : Prop := compEndsRow.holds Try.pinned (OpenSpec.ofChange compEndsWrong)

/- THE SECOND FORM. 'bulk': how many values and letters a reading holds, each counted each time it is reached (what is shared counts as often as it is met; a slice's spare places count too). A statement '..UptoSaid' is the law's where the arguments, and the package variables that the reading takes, are together of bulk at most 1048576: NARROWER than '..Said'. Prove '..Said' where nothing that the law and all that it calls make is longer than what came in: it says more and counts as full. Else prove '..UptoSaid'. A law counts once. -/
mutual
def uptoBulk {H : Type} : DataW H → Nat
  | .lit (.string bytes) => bytes.length + 1
  | .lit _ => 1
  | .nil => 1
  | .ptr d => uptoBulk d + 1
  | .slice elems spare => uptoBulkAll elems + uptoBulkAll spare + 1
  | .agg parts => uptoBulkAll parts + 1
  | .iface _ d => uptoBulk d + 1
  | .map entries => uptoBulkEntries entries + 1
  | .held _ => 1
def uptoBulkAll {H : Type} : List (DataW H) → Nat
  | [] => 0
  | d :: r => uptoBulk d + uptoBulkAll r
def uptoBulkEntries {H : Type} : List (Lit × DataW H) → Nat
  | [] => 0
  | x :: r => uptoBulkEntry x + uptoBulkEntries r
def uptoBulkEntry {H : Type} : Lit × DataW H → Nat
  | (.string bytes, d) => bytes.length + uptoBulk d + 1
  | (_, d) => uptoBulk d + 1
 end
def uptoSmall : (H : Type) → List (DataW H) → Bool := fun _ ds => decide (uptoBulkAll ds ≤ 1048576)
def OpenSpec.upto (s : _root_.Go.ChangeSpec) : _root_.Go.OpenSpec := { _root_.Go.OpenSpec.ofChange s with cond := some uptoSmall }

/-- 'quarterdaylaw19.CompKeeps', WHERE WHAT IT READS IS OF BULK AT MOST 1048576: true; the input reads as it did. -/
def compKeepsUptoRow : OpenClaim := { program := "ytjodgfcmeeeopaa", sum := "28d9db79bef194a1092447093c512489458121e55e9c4b35daaa2ae1eb66444c", func := "quarterday/quarterdaylaw19.CompKeeps", spec := "compKeeps", unfollowed := true, recurses := true, apart := false, narrowed := true }
def CompKeepsUptoSaid : Prop := compKeepsUptoRow.holds Try.pinned (OpenSpec.upto compKeepsSpec)

/-- 'quarterdaylaw19.CompRises', WHERE WHAT IT READS IS OF BULK AT MOST 1048576: true; the input reads as it did. -/
def compRisesUptoRow : OpenClaim := { program := "ytjodgfcmeeeopaa", sum := "28d9db79bef194a1092447093c512489458121e55e9c4b35daaa2ae1eb66444c", func := "quarterday/quarterdaylaw19.CompRises", spec := "compRises", unfollowed := true, recurses := true, apart := false, narrowed := true }
def CompRisesUptoSaid : Prop := compRisesUptoRow.holds Try.pinned (OpenSpec.upto compRisesSpec)

/-- 'quarterdaylaw19.CompBack', WHERE WHAT IT READS IS OF BULK AT MOST 1048576: true; the input reads as it did. -/
def compBackUptoRow : OpenClaim := { program := "ytjodgfcmeeeopaa", sum := "28d9db79bef194a1092447093c512489458121e55e9c4b35daaa2ae1eb66444c", func := "quarterday/quarterdaylaw19.CompBack", spec := "compBack", unfollowed := true, recurses := true, apart := false, narrowed := true }
def CompBackUptoSaid : Prop := compBackUptoRow.holds Try.pinned (OpenSpec.upto compBackSpec)

/-- 'quarterdaylaw19.CompSame', WHERE WHAT IT READS IS OF BULK AT MOST 1048576: true; the input reads as it did. -/
def compSameUptoRow : OpenClaim := { program := "ytjodgfcmeeeopaa", sum := "28d9db79bef194a1092447093c512489458121e55e9c4b35daaa2ae1eb66444c", func := "quarterday/quarterdaylaw19.CompSame", spec := "compSame", unfollowed := true, recurses := true, apart := false, narrowed := true }
def CompSameUptoSaid : Prop := compSameUptoRow.holds Try.pinned (OpenSpec.upto compSameSpec)

/-- 'quarterdaylaw19.CompMonths', WHERE WHAT IT READS IS OF BULK AT MOST 1048576: true; the input reads as it did. -/
def compMonthsUptoRow : OpenClaim := { program := "ytjodgfcmeeeopaa", sum := "28d9db79bef194a1092447093c512489458121e55e9c4b35daaa2ae1eb66444c", func := "quarterday/quarterdaylaw19.CompMonths", spec := "compMonths", unfollowed := true, recurses := true, apart := false, narrowed := true }
def CompMonthsUptoSaid : Prop := compMonthsUptoRow.holds Try.pinned (OpenSpec.upto compMonthsSpec)

/-- 'quarterdaylaw19.CompEnds', WHERE WHAT IT READS IS OF BULK AT MOST 1048576: true; the input reads as it did. -/
def compEndsUptoRow : OpenClaim := { program := "ytjodgfcmeeeopaa", sum := "28d9db79bef194a1092447093c512489458121e55e9c4b35daaa2ae1eb66444c", func := "quarterday/quarterdaylaw19.CompEnds", spec := "compEnds", unfollowed := true, recurses := true, apart := false, narrowed := true }
def CompEndsUptoSaid : Prop := compEndsUptoRow.holds Try.pinned (OpenSpec.upto compEndsSpec)

end Rows
end Go.Proofs.Ytjodgfcmeeeopaa
