/-
  DERIVED. GIVEN WITH THE SEED: THE CARDS: each row of YtcgheipmnphbjaaGreatDoorRows.lean that lists a variable, with what it lists TIED to the program's text (the seventh form; the later family's looks); each row that meets fmt, with fmt's text TOLD by the authors' own Lean function (tested against real Go, not proved from fmt's source: count such statements apart). THE CARD IS WHAT COUNTS. Prove the row's statement (the work); the ties are given (YtcgheipmnphbjaaGreatDoorTie.lean); close each card by the builder's one call (the guide's Derived/Test/ToyasCard.lean, 'card_holds'). Laid BY PROGRAM, IN A SANDBOX (cutbox-door.mjs). By AI agents, Wed Nov 11 2026. No macro, syntax, notation, axiom, sorry.
-/
import Derived.Test.YtcgheipmnphbjaaGreatDoorRows
import GoSem.ClaimSeven
namespace Go.Proofs.YtcgheipmnphbjaaGreatDoor
namespace Rows

/-- THE TIED CARD OF 'breadboardlaw15.ShowApart'. -/
def showApartCard : Claim7 := { stood := { row := showApartRow, standIns := [], harness := (true, "524710e17db988bdbb2ad8dcb4c48929d3d754d1177051c22330017d8c06ee1b"), looks := true }, kinds := [], alts := [], laidByText := true, laidKinds := [.data, .data, .data, .data, .listed, .data, .pinned], laidTests := true, laidLooks := .later }
def ShowApartCardSaid : Prop := Claim7.holds Tryz.pinned (.plain (OpenSpec.ofChange showApartSpec)) showApartCard

/-- THE TIED CARD OF 'breadboardlaw15.ShowItems'. -/
def showItemsCard : Claim7 := { stood := { row := showItemsRow, standIns := [], harness := (true, "524710e17db988bdbb2ad8dcb4c48929d3d754d1177051c22330017d8c06ee1b"), looks := true }, kinds := [], alts := [], laidByText := true, laidKinds := [.data, .data, .data, .data, .listed, .data, .pinned], laidTests := true, laidLooks := .later }
def ShowItemsCardSaid : Prop := Claim7.holds Tryz.pinned (.plain (OpenSpec.ofChange showItemsSpec)) showItemsCard

/-- THE TIED CARD OF 'breadboardlaw15.ShowTables'. -/
def showTablesCard : Claim7 := { stood := { row := showTablesRow, standIns := [], harness := (true, "524710e17db988bdbb2ad8dcb4c48929d3d754d1177051c22330017d8c06ee1b"), looks := true }, kinds := [], alts := [], laidByText := true, laidKinds := [.data, .data, .data, .data, .listed, .data, .pinned], laidTests := true, laidLooks := .later }
def ShowTablesCardSaid : Prop := Claim7.holds Tryz.pinned (.plain (OpenSpec.ofChange showTablesSpec)) showTablesCard

/-- THE SECOND FORM's CARD OF 'breadboardlaw15.ShowApart'. -/
def showApartUptoCard : Claim7 := { stood := { row := showApartUptoRow, standIns := [], harness := (true, "524710e17db988bdbb2ad8dcb4c48929d3d754d1177051c22330017d8c06ee1b"), looks := true }, kinds := [], alts := [], laidByText := true, laidKinds := [.data, .data, .data, .data, .listed, .data, .pinned], laidTests := true, laidLooks := .later }
def ShowApartUptoCardSaid : Prop := Claim7.holds Tryz.pinned (.plain (OpenSpec.upto showApartSpec)) showApartUptoCard

/-- THE SECOND FORM's CARD OF 'breadboardlaw15.ShowItems'. -/
def showItemsUptoCard : Claim7 := { stood := { row := showItemsUptoRow, standIns := [], harness := (true, "524710e17db988bdbb2ad8dcb4c48929d3d754d1177051c22330017d8c06ee1b"), looks := true }, kinds := [], alts := [], laidByText := true, laidKinds := [.data, .data, .data, .data, .listed, .data, .pinned], laidTests := true, laidLooks := .later }
def ShowItemsUptoCardSaid : Prop := Claim7.holds Tryz.pinned (.plain (OpenSpec.upto showItemsSpec)) showItemsUptoCard

/-- THE SECOND FORM's CARD OF 'breadboardlaw15.ShowTables'. -/
def showTablesUptoCard : Claim7 := { stood := { row := showTablesUptoRow, standIns := [], harness := (true, "524710e17db988bdbb2ad8dcb4c48929d3d754d1177051c22330017d8c06ee1b"), looks := true }, kinds := [], alts := [], laidByText := true, laidKinds := [.data, .data, .data, .data, .listed, .data, .pinned], laidTests := true, laidLooks := .later }
def ShowTablesUptoCardSaid : Prop := Claim7.holds Tryz.pinned (.plain (OpenSpec.upto showTablesSpec)) showTablesUptoCard
end Rows
end Go.Proofs.YtcgheipmnphbjaaGreatDoor
