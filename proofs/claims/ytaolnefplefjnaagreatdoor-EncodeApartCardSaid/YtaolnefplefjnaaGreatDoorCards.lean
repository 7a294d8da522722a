/-
  DERIVED. GIVEN WITH THE SEED: THE CARDS: each row of YtaolnefplefjnaaGreatDoorRows.lean that lists a variable, with what it lists TIED to the program's text (the seventh form; the later family's looks); each row that meets fmt, with fmt's text TOLD by the authors' own Lean function (tested against real Go, not proved from fmt's source: count such statements apart). THE CARD IS WHAT COUNTS. Prove the row's statement (the work); the ties are given (YtaolnefplefjnaaGreatDoorTie.lean); close each card by the builder's one call (the guide's Derived/Test/ToyasCard.lean, 'card_holds'). Laid BY PROGRAM, IN A SANDBOX (cutbox-door.mjs). By AI agents, Wed Nov 11 2026. No macro, syntax, notation, axiom, sorry.
-/
import Derived.Test.YtaolnefplefjnaaGreatDoorRows
import GoSem.ClaimSeven
namespace Go.Proofs.YtaolnefplefjnaaGreatDoor
namespace Rows

/-- THE TIED CARD OF 'breadboardlaw10.SearchFits'. -/
def searchFitsCard : Claim7 := { stood := { row := searchFitsRow, standIns := [], harness := (true, "c62752bf6be8c38af3e6952068f5ba930869143122cf6c4c0cb2e99b1ec2e21c"), looks := false }, kinds := [], alts := [], laidByText := true, laidKinds := [.data, .data, .data, .data, .listed, .data, .pinned], laidTests := true, laidLooks := .later }
def SearchFitsCardSaid : Prop := Claim7.holds Tryz.pinned (.plain (OpenSpec.ofChange searchFitsSpec)) searchFitsCard

/-- THE TIED CARD OF 'breadboardlaw10.SearchLists'. -/
def searchListsCard : Claim7 := { stood := { row := searchListsRow, standIns := [], harness := (true, "c62752bf6be8c38af3e6952068f5ba930869143122cf6c4c0cb2e99b1ec2e21c"), looks := false }, kinds := [], alts := [], laidByText := true, laidKinds := [.data, .data, .data, .data, .listed, .data, .pinned], laidTests := true, laidLooks := .later }
def SearchListsCardSaid : Prop := Claim7.holds Tryz.pinned (.plain (OpenSpec.ofChange searchListsSpec)) searchListsCard

/-- THE TIED CARD OF 'breadboardlaw10.SearchFills'. -/
def searchFillsCard : Claim7 := { stood := { row := searchFillsRow, standIns := [], harness := (true, "c62752bf6be8c38af3e6952068f5ba930869143122cf6c4c0cb2e99b1ec2e21c"), looks := false }, kinds := [], alts := [], laidByText := true, laidKinds := [.data, .data, .data, .data, .listed, .data, .pinned], laidTests := true, laidLooks := .later }
def SearchFillsCardSaid : Prop := Claim7.holds Tryz.pinned (.plain (OpenSpec.ofChange searchFillsSpec)) searchFillsCard

/-- THE TIED CARD OF 'breadboardlaw10.SearchBack'. -/
def searchBackCard : Claim7 := { stood := { row := searchBackRow, standIns := [], harness := (true, "c62752bf6be8c38af3e6952068f5ba930869143122cf6c4c0cb2e99b1ec2e21c"), looks := false }, kinds := [], alts := [], laidByText := true, laidKinds := [.data, .data, .data, .data, .listed, .data, .pinned], laidTests := true, laidLooks := .later }
def SearchBackCardSaid : Prop := Claim7.holds Tryz.pinned (.plain (OpenSpec.ofChange searchBackSpec)) searchBackCard

/-- THE TIED CARD OF 'breadboardlaw11.EncodeApart'. -/
def encodeApartCard : Claim7 := { stood := { row := encodeApartRow, standIns := [], harness := (true, "c62752bf6be8c38af3e6952068f5ba930869143122cf6c4c0cb2e99b1ec2e21c"), looks := false }, kinds := [], alts := [], laidByText := true, laidKinds := [.data, .data, .data, .data, .listed, .data, .pinned], laidTests := true, laidLooks := .later }
def EncodeApartCardSaid : Prop := Claim7.holds Tryz.pinned (.plain (OpenSpec.ofChange encodeApartSpec)) encodeApartCard

/-- THE TIED CARD OF 'breadboardlaw11.EncodeEntries'. -/
def encodeEntriesCard : Claim7 := { stood := { row := encodeEntriesRow, standIns := [], harness := (true, "c62752bf6be8c38af3e6952068f5ba930869143122cf6c4c0cb2e99b1ec2e21c"), looks := false }, kinds := [], alts := [], laidByText := true, laidKinds := [.data, .data, .data, .data, .listed, .data, .pinned], laidTests := true, laidLooks := .later }
def EncodeEntriesCardSaid : Prop := Claim7.holds Tryz.pinned (.plain (OpenSpec.ofChange encodeEntriesSpec)) encodeEntriesCard

/-- THE TIED CARD OF 'breadboardlaw11.EncodeJumps'. -/
def encodeJumpsCard : Claim7 := { stood := { row := encodeJumpsRow, standIns := [], harness := (true, "c62752bf6be8c38af3e6952068f5ba930869143122cf6c4c0cb2e99b1ec2e21c"), looks := false }, kinds := [], alts := [], laidByText := true, laidKinds := [.data, .data, .data, .data, .listed, .data, .pinned], laidTests := true, laidLooks := .later }
def EncodeJumpsCardSaid : Prop := Claim7.holds Tryz.pinned (.plain (OpenSpec.ofChange encodeJumpsSpec)) encodeJumpsCard

/-- THE TIED CARD OF 'breadboardlaw11.EncodeForms'. -/
def encodeFormsCard : Claim7 := { stood := { row := encodeFormsRow, standIns := [], harness := (true, "c62752bf6be8c38af3e6952068f5ba930869143122cf6c4c0cb2e99b1ec2e21c"), looks := false }, kinds := [], alts := [], laidByText := true, laidKinds := [.data, .data, .data, .data, .listed, .data, .pinned], laidTests := true, laidLooks := .later }
def EncodeFormsCardSaid : Prop := Claim7.holds Tryz.pinned (.plain (OpenSpec.ofChange encodeFormsSpec)) encodeFormsCard

/-- THE TIED CARD OF 'breadboardlaw11.EncodeLists'. -/
def encodeListsCard : Claim7 := { stood := { row := encodeListsRow, standIns := [], harness := (true, "c62752bf6be8c38af3e6952068f5ba930869143122cf6c4c0cb2e99b1ec2e21c"), looks := false }, kinds := [], alts := [], laidByText := true, laidKinds := [.data, .data, .data, .data, .listed, .data, .pinned], laidTests := true, laidLooks := .later }
def EncodeListsCardSaid : Prop := Claim7.holds Tryz.pinned (.plain (OpenSpec.ofChange encodeListsSpec)) encodeListsCard

/-- THE SECOND FORM's CARD OF 'breadboardlaw10.SearchFits'. -/
def searchFitsUptoCard : Claim7 := { stood := { row := searchFitsUptoRow, standIns := [], harness := (true, "c62752bf6be8c38af3e6952068f5ba930869143122cf6c4c0cb2e99b1ec2e21c"), looks := false }, kinds := [], alts := [], laidByText := true, laidKinds := [.data, .data, .data, .data, .listed, .data, .pinned], laidTests := true, laidLooks := .later }
def SearchFitsUptoCardSaid : Prop := Claim7.holds Tryz.pinned (.plain (OpenSpec.upto searchFitsSpec)) searchFitsUptoCard

/-- THE SECOND FORM's CARD OF 'breadboardlaw10.SearchLists'. -/
def searchListsUptoCard : Claim7 := { stood := { row := searchListsUptoRow, standIns := [], harness := (true, "c62752bf6be8c38af3e6952068f5ba930869143122cf6c4c0cb2e99b1ec2e21c"), looks := false }, kinds := [], alts := [], laidByText := true, laidKinds := [.data, .data, .data, .data, .listed, .data, .pinned], laidTests := true, laidLooks := .later }
def SearchListsUptoCardSaid : Prop := Claim7.holds Tryz.pinned (.plain (OpenSpec.upto searchListsSpec)) searchListsUptoCard

/-- THE SECOND FORM's CARD OF 'breadboardlaw10.SearchFills'. -/
def searchFillsUptoCard : Claim7 := { stood := { row := searchFillsUptoRow, standIns := [], harness := (true, "c62752bf6be8c38af3e6952068f5ba930869143122cf6c4c0cb2e99b1ec2e21c"), looks := false }, kinds := [], alts := [], laidByText := true, laidKinds := [.data, .data, .data, .data, .listed, .data, .pinned], laidTests := true, laidLooks := .later }
def SearchFillsUptoCardSaid : Prop := Claim7.holds Tryz.pinned (.plain (OpenSpec.upto searchFillsSpec)) searchFillsUptoCard

/-- THE SECOND FORM's CARD OF 'breadboardlaw10.SearchBack'. -/
def searchBackUptoCard : Claim7 := { stood := { row := searchBackUptoRow, standIns := [], harness := (true, "c62752bf6be8c38af3e6952068f5ba930869143122cf6c4c0cb2e99b1ec2e21c"), looks := false }, kinds := [], alts := [], laidByText := true, laidKinds := [.data, .data, .data, .data, .listed, .data, .pinned], laidTests := true, laidLooks := .later }
def SearchBackUptoCardSaid : Prop := Claim7.holds Tryz.pinned (.plain (OpenSpec.upto searchBackSpec)) searchBackUptoCard

/-- THE SECOND FORM's CARD OF 'breadboardlaw11.EncodeApart'. -/
def encodeApartUptoCard : Claim7 := { stood := { row := encodeApartUptoRow, standIns := [], harness := (true, "c62752bf6be8c38af3e6952068f5ba930869143122cf6c4c0cb2e99b1ec2e21c"), looks := false }, kinds := [], alts := [], laidByText := true, laidKinds := [.data, .data, .data, .data, .listed, .data, .pinned], laidTests := true, laidLooks := .later }
def EncodeApartUptoCardSaid : Prop := Claim7.holds Tryz.pinned (.plain (OpenSpec.upto encodeApartSpec)) encodeApartUptoCard

/-- THE SECOND FORM's CARD OF 'breadboardlaw11.EncodeEntries'. -/
def encodeEntriesUptoCard : Claim7 := { stood := { row := encodeEntriesUptoRow, standIns := [], harness := (true, "c62752bf6be8c38af3e6952068f5ba930869143122cf6c4c0cb2e99b1ec2e21c"), looks := false }, kinds := [], alts := [], laidByText := true, laidKinds := [.data, .data, .data, .data, .listed, .data, .pinned], laidTests := true, laidLooks := .later }
def EncodeEntriesUptoCardSaid : Prop := Claim7.holds Tryz.pinned (.plain (OpenSpec.upto encodeEntriesSpec)) encodeEntriesUptoCard

/-- THE SECOND FORM's CARD OF 'breadboardlaw11.EncodeJumps'. -/
def encodeJumpsUptoCard : Claim7 := { stood := { row := encodeJumpsUptoRow, standIns := [], harness := (true, "c62752bf6be8c38af3e6952068f5ba930869143122cf6c4c0cb2e99b1ec2e21c"), looks := false }, kinds := [], alts := [], laidByText := true, laidKinds := [.data, .data, .data, .data, .listed, .data, .pinned], laidTests := true, laidLooks := .later }
def EncodeJumpsUptoCardSaid : Prop := Claim7.holds Tryz.pinned (.plain (OpenSpec.upto encodeJumpsSpec)) encodeJumpsUptoCard

/-- THE SECOND FORM's CARD OF 'breadboardlaw11.EncodeForms'. -/
def encodeFormsUptoCard : Claim7 := { stood := { row := encodeFormsUptoRow, standIns := [], harness := (true, "c62752bf6be8c38af3e6952068f5ba930869143122cf6c4c0cb2e99b1ec2e21c"), looks := false }, kinds := [], alts := [], laidByText := true, laidKinds := [.data, .data, .data, .data, .listed, .data, .pinned], laidTests := true, laidLooks := .later }
def EncodeFormsUptoCardSaid : Prop := Claim7.holds Tryz.pinned (.plain (OpenSpec.upto encodeFormsSpec)) encodeFormsUptoCard

/-- THE SECOND FORM's CARD OF 'breadboardlaw11.EncodeLists'. -/
def encodeListsUptoCard : Claim7 := { stood := { row := encodeListsUptoRow, standIns := [], harness := (true, "c62752bf6be8c38af3e6952068f5ba930869143122cf6c4c0cb2e99b1ec2e21c"), looks := false }, kinds := [], alts := [], laidByText := true, laidKinds := [.data, .data, .data, .data, .listed, .data, .pinned], laidTests := true, laidLooks := .later }
def EncodeListsUptoCardSaid : Prop := Claim7.holds Tryz.pinned (.plain (OpenSpec.upto encodeListsSpec)) encodeListsUptoCard
end Rows
end Go.Proofs.YtaolnefplefjnaaGreatDoor
