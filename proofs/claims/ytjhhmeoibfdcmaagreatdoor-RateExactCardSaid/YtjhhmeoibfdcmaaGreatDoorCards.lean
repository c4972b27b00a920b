/-
  DERIVED. GIVEN WITH THE SEED: THE CARDS: each row of YtjhhmeoibfdcmaaGreatDoorRows.lean that lists a variable, with what it lists TIED to the program's text (the seventh form; the later family's looks); each row that meets fmt, with fmt's text TOLD by the authors' own Lean function (tested against real Go, not proved from fmt's source: count such statements apart). THE CARD IS WHAT COUNTS. Prove the row's statement (the work); the ties are given (YtjhhmeoibfdcmaaGreatDoorTie.lean); close each card by the builder's one call (the guide's Derived/Test/ToyasCard.lean, 'card_holds'). Laid BY PROGRAM, IN A SANDBOX (cutbox-door.mjs). By AI agents, Wed Nov 11 2026. No macro, syntax, notation, axiom, sorry.
-/
import Derived.Test.YtjhhmeoibfdcmaaGreatDoorRows
import GoSem.ClaimSeven
namespace Go.Proofs.YtjhhmeoibfdcmaaGreatDoor
namespace Rows

/-- THE TIED CARD OF 'quarterdaylaw21.RateExact'. -/
def rateExactCard : Claim7 := { stood := { row := rateExactRow, standIns := [], harness := (true, "74a346c6e96ebb25545989b4d88d2de66f2c593e5f3b04bfe9242e4957a42716"), looks := false }, kinds := [], alts := [], laidByText := true, laidKinds := [.data], laidTests := true, laidLooks := .later }
def RateExactCardSaid : Prop := Claim7.holds Tryz.pinned (.plain (OpenSpec.ofChange rateExactSpec)) rateExactCard

/-- THE SECOND FORM's CARD OF 'quarterdaylaw21.RateExact'. -/
def rateExactUptoCard : Claim7 := { stood := { row := rateExactUptoRow, standIns := [], harness := (true, "74a346c6e96ebb25545989b4d88d2de66f2c593e5f3b04bfe9242e4957a42716"), looks := false }, kinds := [], alts := [], laidByText := true, laidKinds := [.data], laidTests := true, laidLooks := .later }
def RateExactUptoCardSaid : Prop := Claim7.holds Tryz.pinned (.plain (OpenSpec.upto rateExactSpec)) rateExactUptoCard
end Rows
end Go.Proofs.YtjhhmeoibfdcmaaGreatDoor
