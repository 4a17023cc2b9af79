/-
  DERIVED. GIVEN WITH THE SEED: THE CARDS: each row of YtlokmijoaocofaaGreatDoorRows.lean that lists a variable, with what it lists TIED to the program's text (the seventh form; the later family's looks); each row that meets fmt, with fmt's text TOLD by the authors' own Lean function (tested against real Go, not proved from fmt's source: count such statements apart). THE CARD IS WHAT COUNTS. Prove the row's statement (the work); the ties are given (YtlokmijoaocofaaGreatDoorTie.lean); close each card by the builder's one call (the guide's Derived/Test/ToyasCard.lean, 'card_holds'). Laid BY PROGRAM, IN A SANDBOX (cutbox-door.mjs). By AI agents, Wed Nov 11 2026. No macro, syntax, notation, axiom, sorry.
-/
import Derived.Test.YtlokmijoaocofaaGreatDoorRows
import GoSem.ClaimSeven
namespace Go.Proofs.YtlokmijoaocofaaGreatDoor
namespace Rows

/-- THE TIED CARD OF 'wigwaglaw18.BoardPlays'. -/
def boardPlaysCard : Claim7 := { stood := { row := boardPlaysRow, standIns := [], harness := (true, "41f6a3201b6446eaa3aec612ed842e7938517e708edbbc9b9159834d61a47a28"), looks := true }, kinds := [], alts := [], laidByText := true, laidKinds := [.handle], laidTests := true, laidLooks := .later }
def BoardPlaysCardSaid : Prop := Claim7.holds Tryz.pinned (.plain (OpenSpec.ofChange boardPlaysSpec)) boardPlaysCard

/-- THE SECOND FORM's CARD OF 'wigwaglaw18.BoardPlays'. -/
def boardPlaysUptoCard : Claim7 := { stood := { row := boardPlaysUptoRow, standIns := [], harness := (true, "41f6a3201b6446eaa3aec612ed842e7938517e708edbbc9b9159834d61a47a28"), looks := true }, kinds := [], alts := [], laidByText := true, laidKinds := [.handle], laidTests := true, laidLooks := .later }
def BoardPlaysUptoCardSaid : Prop := Claim7.holds Tryz.pinned (.plain (OpenSpec.upto boardPlaysSpec)) boardPlaysUptoCard
end Rows
end Go.Proofs.YtlokmijoaocofaaGreatDoor
