/-
  DERIVED. GIVEN WITH THE SEED: THE CARDS: each row of YtnmpijbcajclgaaGreatDoorRows.lean that lists a variable, with what it lists TIED to the program's text (the seventh form; the later family's looks); each row that meets fmt, with fmt's text TOLD by the authors' own Lean function (tested against real Go, not proved from fmt's source: count such statements apart). THE CARD IS WHAT COUNTS. Prove the row's statement (the work); the ties are given (YtnmpijbcajclgaaGreatDoorTie.lean); close each card by the builder's one call (the guide's Derived/Test/ToyasCard.lean, 'card_holds'). Laid BY PROGRAM, IN A SANDBOX (cutbox-door.mjs). By AI agents, Wed Nov 11 2026. No macro, syntax, notation, axiom, sorry.
-/
import Derived.Test.YtnmpijbcajclgaaGreatDoorRows
import GoSem.ClaimSeven
namespace Go.Proofs.YtnmpijbcajclgaaGreatDoor
namespace Rows

/-- THE TIED CARD OF 'wigwaglaw16.NodePolls'. -/
def nodePollsCard : Claim7 := { stood := { row := nodePollsRow, standIns := [], harness := (true, "4b6a80622bdce113b40f0da7cff702fda652675b3dea3bf72c998d51fffe60f5"), looks := true }, kinds := [], alts := [], laidByText := true, laidKinds := [.data, .data, .data], laidTests := true, laidLooks := .later }
def NodePollsCardSaid : Prop := Claim7.holds Tryz.pinned (.plain (OpenSpec.ofChange nodePollsSpec)) nodePollsCard

/-- THE TIED CARD OF 'wigwaglaw16.NodeFull'. -/
def nodeFullCard : Claim7 := { stood := { row := nodeFullRow, standIns := [], harness := (true, "4b6a80622bdce113b40f0da7cff702fda652675b3dea3bf72c998d51fffe60f5"), looks := true }, kinds := [], alts := [], laidByText := true, laidKinds := [.data, .data, .data, .handle], laidTests := true, laidLooks := .later }
def NodeFullCardSaid : Prop := Claim7.holds Tryz.pinned (.plain (OpenSpec.ofChange nodeFullSpec)) nodeFullCard

/-- THE TIED CARD OF 'wigwaglaw16.NodeGoes'. -/
def nodeGoesCard : Claim7 := { stood := { row := nodeGoesRow, standIns := [], harness := (true, "4b6a80622bdce113b40f0da7cff702fda652675b3dea3bf72c998d51fffe60f5"), looks := true }, kinds := [], alts := [], laidByText := true, laidKinds := [.data, .data, .data, .handle], laidTests := true, laidLooks := .later }
def NodeGoesCardSaid : Prop := Claim7.holds Tryz.pinned (.plain (OpenSpec.ofChange nodeGoesSpec)) nodeGoesCard

/-- THE TIED CARD OF 'wigwaglaw16.NodeLeases'. -/
def nodeLeasesCard : Claim7 := { stood := { row := nodeLeasesRow, standIns := [], harness := (true, "4b6a80622bdce113b40f0da7cff702fda652675b3dea3bf72c998d51fffe60f5"), looks := true }, kinds := [], alts := [], laidByText := true, laidKinds := [.data, .data, .data], laidTests := true, laidLooks := .later }
def NodeLeasesCardSaid : Prop := Claim7.holds Tryz.pinned (.plain (OpenSpec.ofChange nodeLeasesSpec)) nodeLeasesCard

/-- THE TIED CARD OF 'wigwaglaw16.NodeAlone'. -/
def nodeAloneCard : Claim7 := { stood := { row := nodeAloneRow, standIns := [], harness := (true, "4b6a80622bdce113b40f0da7cff702fda652675b3dea3bf72c998d51fffe60f5"), looks := true }, kinds := [], alts := [], laidByText := true, laidKinds := [.data, .data, .data, .handle], laidTests := true, laidLooks := .later }
def NodeAloneCardSaid : Prop := Claim7.holds Tryz.pinned (.plain (OpenSpec.ofChange nodeAloneSpec)) nodeAloneCard

/-- THE TIED CARD OF 'wigwaglaw16.NodeTakes'. -/
def nodeTakesCard : Claim7 := { stood := { row := nodeTakesRow, standIns := [], harness := (true, "4b6a80622bdce113b40f0da7cff702fda652675b3dea3bf72c998d51fffe60f5"), looks := true }, kinds := [], alts := [], laidByText := true, laidKinds := [.data, .data, .data, .handle], laidTests := true, laidLooks := .later }
def NodeTakesCardSaid : Prop := Claim7.holds Tryz.pinned (.plain (OpenSpec.ofChange nodeTakesSpec)) nodeTakesCard

/-- THE SECOND FORM's CARD OF 'wigwaglaw16.NodePolls'. -/
def nodePollsUptoCard : Claim7 := { stood := { row := nodePollsUptoRow, standIns := [], harness := (true, "4b6a80622bdce113b40f0da7cff702fda652675b3dea3bf72c998d51fffe60f5"), looks := true }, kinds := [], alts := [], laidByText := true, laidKinds := [.data, .data, .data], laidTests := true, laidLooks := .later }
def NodePollsUptoCardSaid : Prop := Claim7.holds Tryz.pinned (.plain (OpenSpec.upto nodePollsSpec)) nodePollsUptoCard

/-- THE SECOND FORM's CARD OF 'wigwaglaw16.NodeFull'. -/
def nodeFullUptoCard : Claim7 := { stood := { row := nodeFullUptoRow, standIns := [], harness := (true, "4b6a80622bdce113b40f0da7cff702fda652675b3dea3bf72c998d51fffe60f5"), looks := true }, kinds := [], alts := [], laidByText := true, laidKinds := [.data, .data, .data, .handle], laidTests := true, laidLooks := .later }
def NodeFullUptoCardSaid : Prop := Claim7.holds Tryz.pinned (.plain (OpenSpec.upto nodeFullSpec)) nodeFullUptoCard

/-- THE SECOND FORM's CARD OF 'wigwaglaw16.NodeGoes'. -/
def nodeGoesUptoCard : Claim7 := { stood := { row := nodeGoesUptoRow, standIns := [], harness := (true, "4b6a80622bdce113b40f0da7cff702fda652675b3dea3bf72c998d51fffe60f5"), looks := true }, kinds := [], alts := [], laidByText := true, laidKinds := [.data, .data, .data, .handle], laidTests := true, laidLooks := .later }
def NodeGoesUptoCardSaid : Prop := Claim7.holds Tryz.pinned (.plain (OpenSpec.upto nodeGoesSpec)) nodeGoesUptoCard

/-- THE SECOND FORM's CARD OF 'wigwaglaw16.NodeLeases'. -/
def nodeLeasesUptoCard : Claim7 := { stood := { row := nodeLeasesUptoRow, standIns := [], harness := (true, "4b6a80622bdce113b40f0da7cff702fda652675b3dea3bf72c998d51fffe60f5"), looks := true }, kinds := [], alts := [], laidByText := true, laidKinds := [.data, .data, .data], laidTests := true, laidLooks := .later }
def NodeLeasesUptoCardSaid : Prop := Claim7.holds Tryz.pinned (.plain (OpenSpec.upto nodeLeasesSpec)) nodeLeasesUptoCard

/-- THE SECOND FORM's CARD OF 'wigwaglaw16.NodeAlone'. -/
def nodeAloneUptoCard : Claim7 := { stood := { row := nodeAloneUptoRow, standIns := [], harness := (true, "4b6a80622bdce113b40f0da7cff702fda652675b3dea3bf72c998d51fffe60f5"), looks := true }, kinds := [], alts := [], laidByText := true, laidKinds := [.data, .data, .data, .handle], laidTests := true, laidLooks := .later }
def NodeAloneUptoCardSaid : Prop := Claim7.holds Tryz.pinned (.plain (OpenSpec.upto nodeAloneSpec)) nodeAloneUptoCard

/-- THE SECOND FORM's CARD OF 'wigwaglaw16.NodeTakes'. -/
def nodeTakesUptoCard : Claim7 := { stood := { row := nodeTakesUptoRow, standIns := [], harness := (true, "4b6a80622bdce113b40f0da7cff702fda652675b3dea3bf72c998d51fffe60f5"), looks := true }, kinds := [], alts := [], laidByText := true, laidKinds := [.data, .data, .data, .handle], laidTests := true, laidLooks := .later }
def NodeTakesUptoCardSaid : Prop := Claim7.holds Tryz.pinned (.plain (OpenSpec.upto nodeTakesSpec)) nodeTakesUptoCard
end Rows
end Go.Proofs.YtnmpijbcajclgaaGreatDoor
