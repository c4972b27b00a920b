/-
  DERIVED. GIVEN WITH THE SEED: THE CARDS: each row of YtpebkobmhhnojaaGreatDoorRows.lean that lists a variable, with what it lists TIED to the program's text (the seventh form; the later family's looks); each row that meets fmt, with fmt's text TOLD by the authors' own Lean function (tested against real Go, not proved from fmt's source: count such statements apart). THE CARD IS WHAT COUNTS. Prove the row's statement (the work); the ties are given (YtpebkobmhhnojaaGreatDoorTie.lean); close each card by the builder's one call (the guide's Derived/Test/ToyasCard.lean, 'card_holds'). Laid BY PROGRAM, IN A SANDBOX (cutbox-door.mjs). By AI agents, Wed Nov 11 2026. No macro, syntax, notation, axiom, sorry.
-/
import Derived.Test.YtpebkobmhhnojaaGreatDoorRows
import GoSem.ClaimSeven
namespace Go.Proofs.YtpebkobmhhnojaaGreatDoor
namespace Rows

/-- THE TIED CARD OF 'quarterdaytop.TopUnits'. -/
def topUnitsCard : Claim7 := { stood := { row := topUnitsRow, standIns := [], harness := (true, "217ccb0b19a70f3b3cb9e823034708ac5b031a0391e28b0d26703c089ceaedfa"), looks := false }, kinds := [], alts := [], laidByText := true, laidKinds := [.data, .data, .data, .data, .pinned], laidTests := true, laidLooks := .later }
def TopUnitsCardSaid : Prop := Claim7.holds Tryz.pinned (.plain (OpenSpec.ofChange topUnitsSpec)) topUnitsCard

/-- THE TIED CARD OF 'quarterdaytop.TopWeeks'. -/
def topWeeksCard : Claim7 := { stood := { row := topWeeksRow, standIns := [], harness := (true, "217ccb0b19a70f3b3cb9e823034708ac5b031a0391e28b0d26703c089ceaedfa"), looks := false }, kinds := [], alts := [], laidByText := true, laidKinds := [.data, .data, .data, .data, .pinned], laidTests := true, laidLooks := .later }
def TopWeeksCardSaid : Prop := Claim7.holds Tryz.pinned (.plain (OpenSpec.ofChange topWeeksSpec)) topWeeksCard

/-- THE TIED CARD OF 'quarterdaytop.TopRoll'. -/
def topRollCard : Claim7 := { stood := { row := topRollRow, standIns := [], harness := (true, "217ccb0b19a70f3b3cb9e823034708ac5b031a0391e28b0d26703c089ceaedfa"), looks := false }, kinds := [], alts := [], laidByText := true, laidKinds := [.data, .data, .data, .data, .pinned], laidTests := true, laidLooks := .later }
def TopRollCardSaid : Prop := Claim7.holds Tryz.pinned (.plain (OpenSpec.ofChange topRollSpec)) topRollCard

/-- THE SECOND FORM's CARD OF 'quarterdaytop.TopUnits'. -/
def topUnitsUptoCard : Claim7 := { stood := { row := topUnitsUptoRow, standIns := [], harness := (true, "217ccb0b19a70f3b3cb9e823034708ac5b031a0391e28b0d26703c089ceaedfa"), looks := false }, kinds := [], alts := [], laidByText := true, laidKinds := [.data, .data, .data, .data, .pinned], laidTests := true, laidLooks := .later }
def TopUnitsUptoCardSaid : Prop := Claim7.holds Tryz.pinned (.plain (OpenSpec.upto topUnitsSpec)) topUnitsUptoCard

/-- THE SECOND FORM's CARD OF 'quarterdaytop.TopWeeks'. -/
def topWeeksUptoCard : Claim7 := { stood := { row := topWeeksUptoRow, standIns := [], harness := (true, "217ccb0b19a70f3b3cb9e823034708ac5b031a0391e28b0d26703c089ceaedfa"), looks := false }, kinds := [], alts := [], laidByText := true, laidKinds := [.data, .data, .data, .data, .pinned], laidTests := true, laidLooks := .later }
def TopWeeksUptoCardSaid : Prop := Claim7.holds Tryz.pinned (.plain (OpenSpec.upto topWeeksSpec)) topWeeksUptoCard

/-- THE SECOND FORM's CARD OF 'quarterdaytop.TopRoll'. -/
def topRollUptoCard : Claim7 := { stood := { row := topRollUptoRow, standIns := [], harness := (true, "217ccb0b19a70f3b3cb9e823034708ac5b031a0391e28b0d26703c089ceaedfa"), looks := false }, kinds := [], alts := [], laidByText := true, laidKinds := [.data, .data, .data, .data, .pinned], laidTests := true, laidLooks := .later }
def TopRollUptoCardSaid : Prop := Claim7.holds Tryz.pinned (.plain (OpenSpec.upto topRollSpec)) topRollUptoCard
end Rows
end Go.Proofs.YtpebkobmhhnojaaGreatDoor
