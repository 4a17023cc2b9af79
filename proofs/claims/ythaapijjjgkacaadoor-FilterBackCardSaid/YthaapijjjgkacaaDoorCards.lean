/-
  DERIVED. GIVEN WITH THE SEED: THE CARDS: each row of YthaapijjjgkacaaDoorRows.lean that lists a variable, with what it lists TIED to the program's text (the seventh form; the later family's looks); each row that meets fmt, with fmt's text TOLD by the authors' own Lean function (tested against real Go, not proved from fmt's source: count such statements apart). THE CARD IS WHAT COUNTS. Prove the row's statement (the work); the ties are given (YthaapijjjgkacaaDoorTie.lean); close each card by the builder's one call (the guide's Derived/Test/ToyasCard.lean, 'card_holds'). Laid BY PROGRAM, IN A SANDBOX (cutbox-door.mjs). By AI agents, Wed Nov 11 2026. No macro, syntax, notation, axiom, sorry.
-/
import Derived.Test.YthaapijjjgkacaaDoorRows
import GoSem.ClaimSeven
namespace Go.Proofs.YthaapijjjgkacaaDoor
namespace Rows

/-- THE TIED CARD OF 'wigwaglaw06.FilterBlanks'. -/
def filterBlanksCard : Claim7 := { stood := { row := filterBlanksRow, standIns := [], harness := (true, "8e77defc9d63e516070ca447dc8e558272bacce1e1bcfedc2328fbd4fadb3080"), looks := true }, kinds := [], alts := [], laidByText := true, laidKinds := [.handle], laidTests := true, laidLooks := .later }
def FilterBlanksCardSaid : Prop := Claim7.holds Tryd.pinned (.plain (OpenSpec.ofChange filterBlanksSpec)) filterBlanksCard

/-- THE TIED CARD OF 'wigwaglaw06.FilterJoins'. -/
def filterJoinsCard : Claim7 := { stood := { row := filterJoinsRow, standIns := [], harness := (true, "8e77defc9d63e516070ca447dc8e558272bacce1e1bcfedc2328fbd4fadb3080"), looks := true }, kinds := [], alts := [], laidByText := true, laidKinds := [.handle], laidTests := true, laidLooks := .later }
def FilterJoinsCardSaid : Prop := Claim7.holds Tryd.pinned (.plain (OpenSpec.ofChange filterJoinsSpec)) filterJoinsCard

/-- THE TIED CARD OF 'wigwaglaw06.FilterPlaces'. -/
def filterPlacesCard : Claim7 := { stood := { row := filterPlacesRow, standIns := [], harness := (true, "8e77defc9d63e516070ca447dc8e558272bacce1e1bcfedc2328fbd4fadb3080"), looks := true }, kinds := [], alts := [], laidByText := true, laidKinds := [.handle], laidTests := true, laidLooks := .later }
def FilterPlacesCardSaid : Prop := Claim7.holds Tryd.pinned (.plain (OpenSpec.ofChange filterPlacesSpec)) filterPlacesCard

/-- THE TIED CARD OF 'wigwaglaw06.FilterParses'. -/
def filterParsesCard : Claim7 := { stood := { row := filterParsesRow, standIns := [], harness := (true, "8e77defc9d63e516070ca447dc8e558272bacce1e1bcfedc2328fbd4fadb3080"), looks := true }, kinds := [], alts := [], laidByText := true, laidKinds := [.handle], laidTests := true, laidLooks := .later }
def FilterParsesCardSaid : Prop := Claim7.holds Tryd.pinned (.plain (OpenSpec.ofChange filterParsesSpec)) filterParsesCard

/-- THE TIED CARD OF 'wigwaglaw06.FilterNumbers'. -/
def filterNumbersCard : Claim7 := { stood := { row := filterNumbersRow, standIns := [], harness := (true, "8e77defc9d63e516070ca447dc8e558272bacce1e1bcfedc2328fbd4fadb3080"), looks := true }, kinds := [], alts := [], laidByText := true, laidKinds := [.data, .data, .data, .handle], laidTests := true, laidLooks := .later }
def FilterNumbersCardSaid : Prop := Claim7.holds Tryd.pinned (.plain (OpenSpec.ofChange filterNumbersSpec)) filterNumbersCard

/-- THE TIED CARD OF 'wigwaglaw06.FilterStrings'. -/
def filterStringsCard : Claim7 := { stood := { row := filterStringsRow, standIns := [], harness := (true, "8e77defc9d63e516070ca447dc8e558272bacce1e1bcfedc2328fbd4fadb3080"), looks := true }, kinds := [], alts := [], laidByText := true, laidKinds := [.data, .data, .data, .handle], laidTests := true, laidLooks := .later }
def FilterStringsCardSaid : Prop := Claim7.holds Tryd.pinned (.plain (OpenSpec.ofChange filterStringsSpec)) filterStringsCard

/-- THE TIED CARD OF 'wigwaglaw06.FilterReads'. -/
def filterReadsCard : Claim7 := { stood := { row := filterReadsRow, standIns := [], harness := (true, "8e77defc9d63e516070ca447dc8e558272bacce1e1bcfedc2328fbd4fadb3080"), looks := true }, kinds := [], alts := [], laidByText := true, laidKinds := [.data, .data, .data, .handle], laidTests := true, laidLooks := .later }
def FilterReadsCardSaid : Prop := Claim7.holds Tryd.pinned (.plain (OpenSpec.ofChange filterReadsSpec)) filterReadsCard

/-- THE TIED CARD OF 'wigwaglaw06.FilterBack'. -/
def filterBackCard : Claim7 := { stood := { row := filterBackRow, standIns := [], harness := (true, "8e77defc9d63e516070ca447dc8e558272bacce1e1bcfedc2328fbd4fadb3080"), looks := true }, kinds := [], alts := [], laidByText := true, laidKinds := [.data, .data, .data, .handle], laidTests := true, laidLooks := .later }
def FilterBackCardSaid : Prop := Claim7.holds Tryd.pinned (.plain (OpenSpec.ofChange filterBackSpec)) filterBackCard

/-- THE SECOND FORM's CARD OF 'wigwaglaw06.FilterBlanks'. -/
def filterBlanksUptoCard : Claim7 := { stood := { row := filterBlanksUptoRow, standIns := [], harness := (true, "8e77defc9d63e516070ca447dc8e558272bacce1e1bcfedc2328fbd4fadb3080"), looks := true }, kinds := [], alts := [], laidByText := true, laidKinds := [.handle], laidTests := true, laidLooks := .later }
def FilterBlanksUptoCardSaid : Prop := Claim7.holds Tryd.pinned (.plain (OpenSpec.upto filterBlanksSpec)) filterBlanksUptoCard

/-- THE SECOND FORM's CARD OF 'wigwaglaw06.FilterJoins'. -/
def filterJoinsUptoCard : Claim7 := { stood := { row := filterJoinsUptoRow, standIns := [], harness := (true, "8e77defc9d63e516070ca447dc8e558272bacce1e1bcfedc2328fbd4fadb3080"), looks := true }, kinds := [], alts := [], laidByText := true, laidKinds := [.handle], laidTests := true, laidLooks := .later }
def FilterJoinsUptoCardSaid : Prop := Claim7.holds Tryd.pinned (.plain (OpenSpec.upto filterJoinsSpec)) filterJoinsUptoCard

/-- THE SECOND FORM's CARD OF 'wigwaglaw06.FilterPlaces'. -/
def filterPlacesUptoCard : Claim7 := { stood := { row := filterPlacesUptoRow, standIns := [], harness := (true, "8e77defc9d63e516070ca447dc8e558272bacce1e1bcfedc2328fbd4fadb3080"), looks := true }, kinds := [], alts := [], laidByText := true, laidKinds := [.handle], laidTests := true, laidLooks := .later }
def FilterPlacesUptoCardSaid : Prop := Claim7.holds Tryd.pinned (.plain (OpenSpec.upto filterPlacesSpec)) filterPlacesUptoCard

/-- THE SECOND FORM's CARD OF 'wigwaglaw06.FilterParses'. -/
def filterParsesUptoCard : Claim7 := { stood := { row := filterParsesUptoRow, standIns := [], harness := (true, "8e77defc9d63e516070ca447dc8e558272bacce1e1bcfedc2328fbd4fadb3080"), looks := true }, kinds := [], alts := [], laidByText := true, laidKinds := [.handle], laidTests := true, laidLooks := .later }
def FilterParsesUptoCardSaid : Prop := Claim7.holds Tryd.pinned (.plain (OpenSpec.upto filterParsesSpec)) filterParsesUptoCard

/-- THE SECOND FORM's CARD OF 'wigwaglaw06.FilterNumbers'. -/
def filterNumbersUptoCard : Claim7 := { stood := { row := filterNumbersUptoRow, standIns := [], harness := (true, "8e77defc9d63e516070ca447dc8e558272bacce1e1bcfedc2328fbd4fadb3080"), looks := true }, kinds := [], alts := [], laidByText := true, laidKinds := [.data, .data, .data, .handle], laidTests := true, laidLooks := .later }
def FilterNumbersUptoCardSaid : Prop := Claim7.holds Tryd.pinned (.plain (OpenSpec.upto filterNumbersSpec)) filterNumbersUptoCard

/-- THE SECOND FORM's CARD OF 'wigwaglaw06.FilterStrings'. -/
def filterStringsUptoCard : Claim7 := { stood := { row := filterStringsUptoRow, standIns := [], harness := (true, "8e77defc9d63e516070ca447dc8e558272bacce1e1bcfedc2328fbd4fadb3080"), looks := true }, kinds := [], alts := [], laidByText := true, laidKinds := [.data, .data, .data, .handle], laidTests := true, laidLooks := .later }
def FilterStringsUptoCardSaid : Prop := Claim7.holds Tryd.pinned (.plain (OpenSpec.upto filterStringsSpec)) filterStringsUptoCard

/-- THE SECOND FORM's CARD OF 'wigwaglaw06.FilterReads'. -/
def filterReadsUptoCard : Claim7 := { stood := { row := filterReadsUptoRow, standIns := [], harness := (true, "8e77defc9d63e516070ca447dc8e558272bacce1e1bcfedc2328fbd4fadb3080"), looks := true }, kinds := [], alts := [], laidByText := true, laidKinds := [.data, .data, .data, .handle], laidTests := true, laidLooks := .later }
def FilterReadsUptoCardSaid : Prop := Claim7.holds Tryd.pinned (.plain (OpenSpec.upto filterReadsSpec)) filterReadsUptoCard

/-- THE SECOND FORM's CARD OF 'wigwaglaw06.FilterBack'. -/
def filterBackUptoCard : Claim7 := { stood := { row := filterBackUptoRow, standIns := [], harness := (true, "8e77defc9d63e516070ca447dc8e558272bacce1e1bcfedc2328fbd4fadb3080"), looks := true }, kinds := [], alts := [], laidByText := true, laidKinds := [.data, .data, .data, .handle], laidTests := true, laidLooks := .later }
def FilterBackUptoCardSaid : Prop := Claim7.holds Tryd.pinned (.plain (OpenSpec.upto filterBackSpec)) filterBackUptoCard
end Rows
end Go.Proofs.YthaapijjjgkacaaDoor
