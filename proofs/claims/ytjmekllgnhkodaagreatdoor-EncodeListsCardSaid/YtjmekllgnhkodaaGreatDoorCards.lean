/-
  DERIVED. GIVEN WITH THE SEED: THE CARDS: each row of YtjmekllgnhkodaaGreatDoorRows.lean that lists a variable, with what it lists TIED to the program's text (the seventh form; the later family's looks); each row that meets fmt, with fmt's text TOLD by the authors' own Lean function (tested against real Go, not proved from fmt's source: count such statements apart). THE CARD IS WHAT COUNTS. Prove the row's statement (the work); the ties are given (YtjmekllgnhkodaaGreatDoorTie.lean); close each card by the builder's one call (the guide's Derived/Test/ToyasCard.lean, 'card_holds'). Laid BY PROGRAM, IN A SANDBOX (cutbox-door.mjs). By AI agents, Wed Nov 11 2026. No macro, syntax, notation, axiom, sorry.
-/
import Derived.Test.YtjmekllgnhkodaaGreatDoorRows
import GoSem.ClaimSeven
namespace Go.Proofs.YtjmekllgnhkodaaGreatDoor
namespace Rows

/-- THE TIED CARD OF 'breadboardlaw12.DecodeNeeds'. -/
def decodeNeedsCard : Claim7 := { stood := { row := decodeNeedsRow, standIns := [], harness := (true, "18303b347b31eeaed8df406eb0696b4ee5d67a5920d9a510c35e8c5b2f3222bd"), looks := true }, kinds := [], alts := [], laidByText := true, laidKinds := [.data, .data, .data, .data, .listed, .data, .pinned], laidTests := true, laidLooks := .later }
def DecodeNeedsCardSaid : Prop := Claim7.holds Tryz.pinned (.plain (OpenSpec.ofChange decodeNeedsSpec)) decodeNeedsCard

/-- THE TIED CARD OF 'breadboardlaw12.DecodeFirst'. -/
def decodeFirstCard : Claim7 := { stood := { row := decodeFirstRow, standIns := [], harness := (true, "18303b347b31eeaed8df406eb0696b4ee5d67a5920d9a510c35e8c5b2f3222bd"), looks := true }, kinds := [], alts := [], laidByText := true, laidKinds := [.data, .data, .data, .data, .listed, .data, .pinned], laidTests := true, laidLooks := .later }
def DecodeFirstCardSaid : Prop := Claim7.holds Tryz.pinned (.plain (OpenSpec.ofChange decodeFirstSpec)) decodeFirstCard

/-- THE TIED CARD OF 'breadboardlaw12.DecodeAt'. -/
def decodeAtCard : Claim7 := { stood := { row := decodeAtRow, standIns := [], harness := (true, "18303b347b31eeaed8df406eb0696b4ee5d67a5920d9a510c35e8c5b2f3222bd"), looks := true }, kinds := [], alts := [], laidByText := true, laidKinds := [.data, .data, .data, .data, .listed, .data, .pinned], laidTests := true, laidLooks := .later }
def DecodeAtCardSaid : Prop := Claim7.holds Tryz.pinned (.plain (OpenSpec.ofChange decodeAtSpec)) decodeAtCard

/-- THE TIED CARD OF 'breadboardlaw12.DecodeKeeps'. -/
def decodeKeepsCard : Claim7 := { stood := { row := decodeKeepsRow, standIns := [], harness := (true, "18303b347b31eeaed8df406eb0696b4ee5d67a5920d9a510c35e8c5b2f3222bd"), looks := true }, kinds := [], alts := [], laidByText := true, laidKinds := [.data, .data, .data, .data, .listed, .data, .pinned], laidTests := true, laidLooks := .later }
def DecodeKeepsCardSaid : Prop := Claim7.holds Tryz.pinned (.plain (OpenSpec.ofChange decodeKeepsSpec)) decodeKeepsCard

/-- THE TIED CARD OF 'breadboardlaw11.EncodeApart'. -/
def encodeApartCard : Claim7 := { stood := { row := encodeApartRow, standIns := [], harness := (true, "18303b347b31eeaed8df406eb0696b4ee5d67a5920d9a510c35e8c5b2f3222bd"), looks := true }, kinds := [], alts := [], laidByText := true, laidKinds := [.data, .data, .data, .data, .listed, .data, .pinned], laidTests := true, laidLooks := .later }
def EncodeApartCardSaid : Prop := Claim7.holds Tryz.pinned (.plain (OpenSpec.ofChange encodeApartSpec)) encodeApartCard

/-- THE TIED CARD OF 'breadboardlaw11.EncodeEntries'. -/
def encodeEntriesCard : Claim7 := { stood := { row := encodeEntriesRow, standIns := [], harness := (true, "18303b347b31eeaed8df406eb0696b4ee5d67a5920d9a510c35e8c5b2f3222bd"), looks := true }, kinds := [], alts := [], laidByText := true, laidKinds := [.data, .data, .data, .data, .listed, .data, .pinned], laidTests := true, laidLooks := .later }
def EncodeEntriesCardSaid : Prop := Claim7.holds Tryz.pinned (.plain (OpenSpec.ofChange encodeEntriesSpec)) encodeEntriesCard

/-- THE TIED CARD OF 'breadboardlaw11.EncodeJumps'. -/
def encodeJumpsCard : Claim7 := { stood := { row := encodeJumpsRow, standIns := [], harness := (true, "18303b347b31eeaed8df406eb0696b4ee5d67a5920d9a510c35e8c5b2f3222bd"), looks := true }, kinds := [], alts := [], laidByText := true, laidKinds := [.data, .data, .data, .data, .listed, .data, .pinned], laidTests := true, laidLooks := .later }
def EncodeJumpsCardSaid : Prop := Claim7.holds Tryz.pinned (.plain (OpenSpec.ofChange encodeJumpsSpec)) encodeJumpsCard

/-- THE TIED CARD OF 'breadboardlaw11.EncodeForms'. -/
def encodeFormsCard : Claim7 := { stood := { row := encodeFormsRow, standIns := [], harness := (true, "18303b347b31eeaed8df406eb0696b4ee5d67a5920d9a510c35e8c5b2f3222bd"), looks := true }, kinds := [], alts := [], laidByText := true, laidKinds := [.data, .data, .data, .data, .listed, .data, .pinned], laidTests := true, laidLooks := .later }
def EncodeFormsCardSaid : Prop := Claim7.holds Tryz.pinned (.plain (OpenSpec.ofChange encodeFormsSpec)) encodeFormsCard

/-- THE TIED CARD OF 'breadboardlaw11.EncodeLists'. -/
def encodeListsCard : Claim7 := { stood := { row := encodeListsRow, standIns := [], harness := (true, "18303b347b31eeaed8df406eb0696b4ee5d67a5920d9a510c35e8c5b2f3222bd"), looks := true }, kinds := [], alts := [], laidByText := true, laidKinds := [.data, .data, .data, .data, .listed, .data, .pinned], laidTests := true, laidLooks := .later }
def EncodeListsCardSaid : Prop := Claim7.holds Tryz.pinned (.plain (OpenSpec.ofChange encodeListsSpec)) encodeListsCard

/-- THE TIED CARD OF 'breadboardlaw12.DecodeBack'. -/
def decodeBackCard : Claim7 := { stood := { row := decodeBackRow, standIns := [], harness := (true, "18303b347b31eeaed8df406eb0696b4ee5d67a5920d9a510c35e8c5b2f3222bd"), looks := true }, kinds := [], alts := [], laidByText := true, laidKinds := [.data, .data, .data, .data, .listed, .data, .pinned], laidTests := true, laidLooks := .later }
def DecodeBackCardSaid : Prop := Claim7.holds Tryz.pinned (.plain (OpenSpec.ofChange decodeBackSpec)) decodeBackCard

/-- THE TIED CARD OF 'breadboardlaw12.DecodeInverse'. -/
def decodeInverseCard : Claim7 := { stood := { row := decodeInverseRow, standIns := [], harness := (true, "18303b347b31eeaed8df406eb0696b4ee5d67a5920d9a510c35e8c5b2f3222bd"), looks := true }, kinds := [], alts := [], laidByText := true, laidKinds := [.data, .data, .data, .data, .listed, .data, .pinned], laidTests := true, laidLooks := .later }
def DecodeInverseCardSaid : Prop := Claim7.holds Tryz.pinned (.plain (OpenSpec.ofChange decodeInverseSpec)) decodeInverseCard

/-- THE SECOND FORM's CARD OF 'breadboardlaw12.DecodeNeeds'. -/
def decodeNeedsUptoCard : Claim7 := { stood := { row := decodeNeedsUptoRow, standIns := [], harness := (true, "18303b347b31eeaed8df406eb0696b4ee5d67a5920d9a510c35e8c5b2f3222bd"), looks := true }, kinds := [], alts := [], laidByText := true, laidKinds := [.data, .data, .data, .data, .listed, .data, .pinned], laidTests := true, laidLooks := .later }
def DecodeNeedsUptoCardSaid : Prop := Claim7.holds Tryz.pinned (.plain (OpenSpec.upto decodeNeedsSpec)) decodeNeedsUptoCard

/-- THE SECOND FORM's CARD OF 'breadboardlaw12.DecodeFirst'. -/
def decodeFirstUptoCard : Claim7 := { stood := { row := decodeFirstUptoRow, standIns := [], harness := (true, "18303b347b31eeaed8df406eb0696b4ee5d67a5920d9a510c35e8c5b2f3222bd"), looks := true }, kinds := [], alts := [], laidByText := true, laidKinds := [.data, .data, .data, .data, .listed, .data, .pinned], laidTests := true, laidLooks := .later }
def DecodeFirstUptoCardSaid : Prop := Claim7.holds Tryz.pinned (.plain (OpenSpec.upto decodeFirstSpec)) decodeFirstUptoCard

/-- THE SECOND FORM's CARD OF 'breadboardlaw12.DecodeAt'. -/
def decodeAtUptoCard : Claim7 := { stood := { row := decodeAtUptoRow, standIns := [], harness := (true, "18303b347b31eeaed8df406eb0696b4ee5d67a5920d9a510c35e8c5b2f3222bd"), looks := true }, kinds := [], alts := [], laidByText := true, laidKinds := [.data, .data, .data, .data, .listed, .data, .pinned], laidTests := true, laidLooks := .later }
def DecodeAtUptoCardSaid : Prop := Claim7.holds Tryz.pinned (.plain (OpenSpec.upto decodeAtSpec)) decodeAtUptoCard

/-- THE SECOND FORM's CARD OF 'breadboardlaw12.DecodeKeeps'. -/
def decodeKeepsUptoCard : Claim7 := { stood := { row := decodeKeepsUptoRow, standIns := [], harness := (true, "18303b347b31eeaed8df406eb0696b4ee5d67a5920d9a510c35e8c5b2f3222bd"), looks := true }, kinds := [], alts := [], laidByText := true, laidKinds := [.data, .data, .data, .data, .listed, .data, .pinned], laidTests := true, laidLooks := .later }
def DecodeKeepsUptoCardSaid : Prop := Claim7.holds Tryz.pinned (.plain (OpenSpec.upto decodeKeepsSpec)) decodeKeepsUptoCard

/-- THE SECOND FORM's CARD OF 'breadboardlaw11.EncodeApart'. -/
def encodeApartUptoCard : Claim7 := { stood := { row := encodeApartUptoRow, standIns := [], harness := (true, "18303b347b31eeaed8df406eb0696b4ee5d67a5920d9a510c35e8c5b2f3222bd"), looks := true }, kinds := [], alts := [], laidByText := true, laidKinds := [.data, .data, .data, .data, .listed, .data, .pinned], laidTests := true, laidLooks := .later }
def EncodeApartUptoCardSaid : Prop := Claim7.holds Tryz.pinned (.plain (OpenSpec.upto encodeApartSpec)) encodeApartUptoCard

/-- THE SECOND FORM's CARD OF 'breadboardlaw11.EncodeEntries'. -/
def encodeEntriesUptoCard : Claim7 := { stood := { row := encodeEntriesUptoRow, standIns := [], harness := (true, "18303b347b31eeaed8df406eb0696b4ee5d67a5920d9a510c35e8c5b2f3222bd"), looks := true }, kinds := [], alts := [], laidByText := true, laidKinds := [.data, .data, .data, .data, .listed, .data, .pinned], laidTests := true, laidLooks := .later }
def EncodeEntriesUptoCardSaid : Prop := Claim7.holds Tryz.pinned (.plain (OpenSpec.upto encodeEntriesSpec)) encodeEntriesUptoCard

/-- THE SECOND FORM's CARD OF 'breadboardlaw11.EncodeJumps'. -/
def encodeJumpsUptoCard : Claim7 := { stood := { row := encodeJumpsUptoRow, standIns := [], harness := (true, "18303b347b31eeaed8df406eb0696b4ee5d67a5920d9a510c35e8c5b2f3222bd"), looks := true }, kinds := [], alts := [], laidByText := true, laidKinds := [.data, .data, .data, .data, .listed, .data, .pinned], laidTests := true, laidLooks := .later }
def EncodeJumpsUptoCardSaid : Prop := Claim7.holds Tryz.pinned (.plain (OpenSpec.upto encodeJumpsSpec)) encodeJumpsUptoCard

/-- THE SECOND FORM's CARD OF 'breadboardlaw11.EncodeForms'. -/
def encodeFormsUptoCard : Claim7 := { stood := { row := encodeFormsUptoRow, standIns := [], harness := (true, "18303b347b31eeaed8df406eb0696b4ee5d67a5920d9a510c35e8c5b2f3222bd"), looks := true }, kinds := [], alts := [], laidByText := true, laidKinds := [.data, .data, .data, .data, .listed, .data, .pinned], laidTests := true, laidLooks := .later }
def EncodeFormsUptoCardSaid : Prop := Claim7.holds Tryz.pinned (.plain (OpenSpec.upto encodeFormsSpec)) encodeFormsUptoCard

/-- THE SECOND FORM's CARD OF 'breadboardlaw11.EncodeLists'. -/
def encodeListsUptoCard : Claim7 := { stood := { row := encodeListsUptoRow, standIns := [], harness := (true, "18303b347b31eeaed8df406eb0696b4ee5d67a5920d9a510c35e8c5b2f3222bd"), looks := true }, kinds := [], alts := [], laidByText := true, laidKinds := [.data, .data, .data, .data, .listed, .data, .pinned], laidTests := true, laidLooks := .later }
def EncodeListsUptoCardSaid : Prop := Claim7.holds Tryz.pinned (.plain (OpenSpec.upto encodeListsSpec)) encodeListsUptoCard

/-- THE SECOND FORM's CARD OF 'breadboardlaw12.DecodeBack'. -/
def decodeBackUptoCard : Claim7 := { stood := { row := decodeBackUptoRow, standIns := [], harness := (true, "18303b347b31eeaed8df406eb0696b4ee5d67a5920d9a510c35e8c5b2f3222bd"), looks := true }, kinds := [], alts := [], laidByText := true, laidKinds := [.data, .data, .data, .data, .listed, .data, .pinned], laidTests := true, laidLooks := .later }
def DecodeBackUptoCardSaid : Prop := Claim7.holds Tryz.pinned (.plain (OpenSpec.upto decodeBackSpec)) decodeBackUptoCard

/-- THE SECOND FORM's CARD OF 'breadboardlaw12.DecodeInverse'. -/
def decodeInverseUptoCard : Claim7 := { stood := { row := decodeInverseUptoRow, standIns := [], harness := (true, "18303b347b31eeaed8df406eb0696b4ee5d67a5920d9a510c35e8c5b2f3222bd"), looks := true }, kinds := [], alts := [], laidByText := true, laidKinds := [.data, .data, .data, .data, .listed, .data, .pinned], laidTests := true, laidLooks := .later }
def DecodeInverseUptoCardSaid : Prop := Claim7.holds Tryz.pinned (.plain (OpenSpec.upto decodeInverseSpec)) decodeInverseUptoCard
end Rows
end Go.Proofs.YtjmekllgnhkodaaGreatDoor
