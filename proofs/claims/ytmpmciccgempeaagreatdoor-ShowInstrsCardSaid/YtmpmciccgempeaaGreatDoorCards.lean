/-
  DERIVED. GIVEN WITH THE SEED: THE CARDS: each row of YtmpmciccgempeaaGreatDoorRows.lean that lists a variable, with what it lists TIED to the program's text (the seventh form; the later family's looks); each row that meets fmt, with fmt's text TOLD by the authors' own Lean function (tested against real Go, not proved from fmt's source: count such statements apart). THE CARD IS WHAT COUNTS. Prove the row's statement (the work); the ties are given (YtmpmciccgempeaaGreatDoorTie.lean); close each card by the builder's one call (the guide's Derived/Test/ToyasCard.lean, 'card_holds'). Laid BY PROGRAM, IN A SANDBOX (cutbox-door.mjs). By AI agents, Wed Nov 11 2026. No macro, syntax, notation, axiom, sorry.
-/
import Derived.Test.YtmpmciccgempeaaGreatDoorRows
import GoSem.ClaimSeven
namespace Go.Proofs.YtmpmciccgempeaaGreatDoor
namespace Rows

/-- THE TIED CARD OF 'breadboardlaw14.FlowKinds'. -/
def flowKindsCard : Claim7 := { stood := { row := flowKindsRow, standIns := [], harness := (true, "cfa05b32a7b876900b90ad92c44c3017934a297bc18022da11dd0607af835788"), looks := true }, kinds := [], alts := [], laidByText := true, laidKinds := [.data, .data, .data, .data, .listed, .data, .pinned], laidTests := true, laidLooks := .later }
def FlowKindsCardSaid : Prop := Claim7.holds Tryz.pinned (.plain (OpenSpec.ofChange flowKindsSpec)) flowKindsCard

/-- THE TIED CARD OF 'breadboardlaw12.DecodeBack'. -/
def decodeBackCard : Claim7 := { stood := { row := decodeBackRow, standIns := [], harness := (true, "cfa05b32a7b876900b90ad92c44c3017934a297bc18022da11dd0607af835788"), looks := true }, kinds := [], alts := [], laidByText := true, laidKinds := [.data, .data, .data, .data, .listed, .data, .pinned], laidTests := true, laidLooks := .later }
def DecodeBackCardSaid : Prop := Claim7.holds Tryz.pinned (.plain (OpenSpec.ofChange decodeBackSpec)) decodeBackCard

/-- THE TIED CARD OF 'breadboardlaw12.DecodeInverse'. -/
def decodeInverseCard : Claim7 := { stood := { row := decodeInverseRow, standIns := [], harness := (true, "cfa05b32a7b876900b90ad92c44c3017934a297bc18022da11dd0607af835788"), looks := true }, kinds := [], alts := [], laidByText := true, laidKinds := [.data, .data, .data, .data, .listed, .data, .pinned], laidTests := true, laidLooks := .later }
def DecodeInverseCardSaid : Prop := Claim7.holds Tryz.pinned (.plain (OpenSpec.ofChange decodeInverseSpec)) decodeInverseCard

/-- THE TIED CARD OF 'breadboardlaw14.FlowItems'. -/
def flowItemsCard : Claim7 := { stood := { row := flowItemsRow, standIns := [], harness := (true, "cfa05b32a7b876900b90ad92c44c3017934a297bc18022da11dd0607af835788"), looks := true }, kinds := [], alts := [], laidByText := true, laidKinds := [.data, .data, .data, .data, .listed, .data, .pinned], laidTests := true, laidLooks := .later }
def FlowItemsCardSaid : Prop := Claim7.holds Tryz.pinned (.plain (OpenSpec.ofChange flowItemsSpec)) flowItemsCard

/-- THE TIED CARD OF 'breadboardlaw13.ItemsInverse'. -/
def itemsInverseCard : Claim7 := { stood := { row := itemsInverseRow, standIns := [], harness := (true, "cfa05b32a7b876900b90ad92c44c3017934a297bc18022da11dd0607af835788"), looks := true }, kinds := [], alts := [], laidByText := true, laidKinds := [.data, .data, .data, .data, .listed, .data, .pinned], laidTests := true, laidLooks := .later }
def ItemsInverseCardSaid : Prop := Claim7.holds Tryz.pinned (.plain (OpenSpec.ofChange itemsInverseSpec)) itemsInverseCard

/-- THE TIED CARD OF 'breadboardlaw15.ShowInstrs'. -/
def showInstrsCard : Claim7 := { stood := { row := showInstrsRow, standIns := [], harness := (true, "cfa05b32a7b876900b90ad92c44c3017934a297bc18022da11dd0607af835788"), looks := true }, kinds := [], alts := [], laidByText := true, laidKinds := [.data, .data, .data, .data, .listed, .data, .pinned], laidTests := true, laidLooks := .later }
def ShowInstrsCardSaid : Prop := Claim7.holds Tryz.pinned (.plain (OpenSpec.ofChange showInstrsSpec)) showInstrsCard

/-- THE TIED CARD OF 'breadboardlaw15.ShowApart'. -/
def showApartCard : Claim7 := { stood := { row := showApartRow, standIns := [], harness := (true, "cfa05b32a7b876900b90ad92c44c3017934a297bc18022da11dd0607af835788"), looks := true }, kinds := [], alts := [], laidByText := true, laidKinds := [.data, .data, .data, .data, .listed, .data, .pinned], laidTests := true, laidLooks := .later }
def ShowApartCardSaid : Prop := Claim7.holds Tryz.pinned (.plain (OpenSpec.ofChange showApartSpec)) showApartCard

/-- THE TIED CARD OF 'breadboardlaw15.ShowData'. -/
def showDataCard : Claim7 := { stood := { row := showDataRow, standIns := [], harness := (true, "cfa05b32a7b876900b90ad92c44c3017934a297bc18022da11dd0607af835788"), looks := true }, kinds := [], alts := [], laidByText := true, laidKinds := [.data, .data, .data, .data, .listed, .data, .pinned], laidTests := true, laidLooks := .later }
def ShowDataCardSaid : Prop := Claim7.holds Tryz.pinned (.plain (OpenSpec.ofChange showDataSpec)) showDataCard

/-- THE TIED CARD OF 'breadboardlaw15.ShowItems'. -/
def showItemsCard : Claim7 := { stood := { row := showItemsRow, standIns := [], harness := (true, "cfa05b32a7b876900b90ad92c44c3017934a297bc18022da11dd0607af835788"), looks := true }, kinds := [], alts := [], laidByText := true, laidKinds := [.data, .data, .data, .data, .listed, .data, .pinned], laidTests := true, laidLooks := .later }
def ShowItemsCardSaid : Prop := Claim7.holds Tryz.pinned (.plain (OpenSpec.ofChange showItemsSpec)) showItemsCard

/-- THE TIED CARD OF 'breadboardlaw15.ShowTables'. -/
def showTablesCard : Claim7 := { stood := { row := showTablesRow, standIns := [], harness := (true, "cfa05b32a7b876900b90ad92c44c3017934a297bc18022da11dd0607af835788"), looks := true }, kinds := [], alts := [], laidByText := true, laidKinds := [.data, .data, .data, .data, .listed, .data, .pinned], laidTests := true, laidLooks := .later }
def ShowTablesCardSaid : Prop := Claim7.holds Tryz.pinned (.plain (OpenSpec.ofChange showTablesSpec)) showTablesCard

/-- THE TIED CARD OF 'breadboardlaw15.ShowDecoded'. -/
def showDecodedCard : Claim7 := { stood := { row := showDecodedRow, standIns := [], harness := (true, "cfa05b32a7b876900b90ad92c44c3017934a297bc18022da11dd0607af835788"), looks := true }, kinds := [], alts := [], laidByText := true, laidKinds := [.data, .data, .data, .data, .listed, .data, .pinned], laidTests := true, laidLooks := .later }
def ShowDecodedCardSaid : Prop := Claim7.holds Tryz.pinned (.plain (OpenSpec.ofChange showDecodedSpec)) showDecodedCard

/-- THE SECOND FORM's CARD OF 'breadboardlaw14.FlowKinds'. -/
def flowKindsUptoCard : Claim7 := { stood := { row := flowKindsUptoRow, standIns := [], harness := (true, "cfa05b32a7b876900b90ad92c44c3017934a297bc18022da11dd0607af835788"), looks := true }, kinds := [], alts := [], laidByText := true, laidKinds := [.data, .data, .data, .data, .listed, .data, .pinned], laidTests := true, laidLooks := .later }
def FlowKindsUptoCardSaid : Prop := Claim7.holds Tryz.pinned (.plain (OpenSpec.upto flowKindsSpec)) flowKindsUptoCard

/-- THE SECOND FORM's CARD OF 'breadboardlaw12.DecodeBack'. -/
def decodeBackUptoCard : Claim7 := { stood := { row := decodeBackUptoRow, standIns := [], harness := (true, "cfa05b32a7b876900b90ad92c44c3017934a297bc18022da11dd0607af835788"), looks := true }, kinds := [], alts := [], laidByText := true, laidKinds := [.data, .data, .data, .data, .listed, .data, .pinned], laidTests := true, laidLooks := .later }
def DecodeBackUptoCardSaid : Prop := Claim7.holds Tryz.pinned (.plain (OpenSpec.upto decodeBackSpec)) decodeBackUptoCard

/-- THE SECOND FORM's CARD OF 'breadboardlaw12.DecodeInverse'. -/
def decodeInverseUptoCard : Claim7 := { stood := { row := decodeInverseUptoRow, standIns := [], harness := (true, "cfa05b32a7b876900b90ad92c44c3017934a297bc18022da11dd0607af835788"), looks := true }, kinds := [], alts := [], laidByText := true, laidKinds := [.data, .data, .data, .data, .listed, .data, .pinned], laidTests := true, laidLooks := .later }
def DecodeInverseUptoCardSaid : Prop := Claim7.holds Tryz.pinned (.plain (OpenSpec.upto decodeInverseSpec)) decodeInverseUptoCard

/-- THE SECOND FORM's CARD OF 'breadboardlaw14.FlowItems'. -/
def flowItemsUptoCard : Claim7 := { stood := { row := flowItemsUptoRow, standIns := [], harness := (true, "cfa05b32a7b876900b90ad92c44c3017934a297bc18022da11dd0607af835788"), looks := true }, kinds := [], alts := [], laidByText := true, laidKinds := [.data, .data, .data, .data, .listed, .data, .pinned], laidTests := true, laidLooks := .later }
def FlowItemsUptoCardSaid : Prop := Claim7.holds Tryz.pinned (.plain (OpenSpec.upto flowItemsSpec)) flowItemsUptoCard

/-- THE SECOND FORM's CARD OF 'breadboardlaw13.ItemsInverse'. -/
def itemsInverseUptoCard : Claim7 := { stood := { row := itemsInverseUptoRow, standIns := [], harness := (true, "cfa05b32a7b876900b90ad92c44c3017934a297bc18022da11dd0607af835788"), looks := true }, kinds := [], alts := [], laidByText := true, laidKinds := [.data, .data, .data, .data, .listed, .data, .pinned], laidTests := true, laidLooks := .later }
def ItemsInverseUptoCardSaid : Prop := Claim7.holds Tryz.pinned (.plain (OpenSpec.upto itemsInverseSpec)) itemsInverseUptoCard

/-- THE SECOND FORM's CARD OF 'breadboardlaw15.ShowInstrs'. -/
def showInstrsUptoCard : Claim7 := { stood := { row := showInstrsUptoRow, standIns := [], harness := (true, "cfa05b32a7b876900b90ad92c44c3017934a297bc18022da11dd0607af835788"), looks := true }, kinds := [], alts := [], laidByText := true, laidKinds := [.data, .data, .data, .data, .listed, .data, .pinned], laidTests := true, laidLooks := .later }
def ShowInstrsUptoCardSaid : Prop := Claim7.holds Tryz.pinned (.plain (OpenSpec.upto showInstrsSpec)) showInstrsUptoCard

/-- THE SECOND FORM's CARD OF 'breadboardlaw15.ShowApart'. -/
def showApartUptoCard : Claim7 := { stood := { row := showApartUptoRow, standIns := [], harness := (true, "cfa05b32a7b876900b90ad92c44c3017934a297bc18022da11dd0607af835788"), looks := true }, kinds := [], alts := [], laidByText := true, laidKinds := [.data, .data, .data, .data, .listed, .data, .pinned], laidTests := true, laidLooks := .later }
def ShowApartUptoCardSaid : Prop := Claim7.holds Tryz.pinned (.plain (OpenSpec.upto showApartSpec)) showApartUptoCard

/-- THE SECOND FORM's CARD OF 'breadboardlaw15.ShowData'. -/
def showDataUptoCard : Claim7 := { stood := { row := showDataUptoRow, standIns := [], harness := (true, "cfa05b32a7b876900b90ad92c44c3017934a297bc18022da11dd0607af835788"), looks := true }, kinds := [], alts := [], laidByText := true, laidKinds := [.data, .data, .data, .data, .listed, .data, .pinned], laidTests := true, laidLooks := .later }
def ShowDataUptoCardSaid : Prop := Claim7.holds Tryz.pinned (.plain (OpenSpec.upto showDataSpec)) showDataUptoCard

/-- THE SECOND FORM's CARD OF 'breadboardlaw15.ShowItems'. -/
def showItemsUptoCard : Claim7 := { stood := { row := showItemsUptoRow, standIns := [], harness := (true, "cfa05b32a7b876900b90ad92c44c3017934a297bc18022da11dd0607af835788"), looks := true }, kinds := [], alts := [], laidByText := true, laidKinds := [.data, .data, .data, .data, .listed, .data, .pinned], laidTests := true, laidLooks := .later }
def ShowItemsUptoCardSaid : Prop := Claim7.holds Tryz.pinned (.plain (OpenSpec.upto showItemsSpec)) showItemsUptoCard

/-- THE SECOND FORM's CARD OF 'breadboardlaw15.ShowTables'. -/
def showTablesUptoCard : Claim7 := { stood := { row := showTablesUptoRow, standIns := [], harness := (true, "cfa05b32a7b876900b90ad92c44c3017934a297bc18022da11dd0607af835788"), looks := true }, kinds := [], alts := [], laidByText := true, laidKinds := [.data, .data, .data, .data, .listed, .data, .pinned], laidTests := true, laidLooks := .later }
def ShowTablesUptoCardSaid : Prop := Claim7.holds Tryz.pinned (.plain (OpenSpec.upto showTablesSpec)) showTablesUptoCard

/-- THE SECOND FORM's CARD OF 'breadboardlaw15.ShowDecoded'. -/
def showDecodedUptoCard : Claim7 := { stood := { row := showDecodedUptoRow, standIns := [], harness := (true, "cfa05b32a7b876900b90ad92c44c3017934a297bc18022da11dd0607af835788"), looks := true }, kinds := [], alts := [], laidByText := true, laidKinds := [.data, .data, .data, .data, .listed, .data, .pinned], laidTests := true, laidLooks := .later }
def ShowDecodedUptoCardSaid : Prop := Claim7.holds Tryz.pinned (.plain (OpenSpec.upto showDecodedSpec)) showDecodedUptoCard
end Rows
end Go.Proofs.YtmpmciccgempeaaGreatDoor
