/-
  DERIVED. GIVEN WITH THE SEED: THE CARDS: each row of YtnbmbcjnncbaiaaGreatDoorRows.lean that lists a variable, with what it lists TIED to the program's text (the seventh form; the later family's looks); each row that meets fmt, with fmt's text TOLD by the authors' own Lean function (tested against real Go, not proved from fmt's source: count such statements apart). THE CARD IS WHAT COUNTS. Prove the row's statement (the work); the ties are given (YtnbmbcjnncbaiaaGreatDoorTie.lean); close each card by the builder's one call (the guide's Derived/Test/ToyasCard.lean, 'card_holds'). Laid BY PROGRAM, IN A SANDBOX (cutbox-door.mjs). By AI agents, Wed Nov 11 2026. No macro, syntax, notation, axiom, sorry.
-/
import Derived.Test.YtnbmbcjnncbaiaaGreatDoorRows
import GoSem.ClaimSeven
namespace Go.Proofs.YtnbmbcjnncbaiaaGreatDoor
namespace Rows

/-- THE TIED CARD OF 'breadboardlaw12.DecodeNeeds'. -/
def decodeNeedsCard : Claim7 := { stood := { row := decodeNeedsRow, standIns := [], harness := (true, "f7517a8817ac7a1a67c6e6dfdd745857fa520da1f199e36da49d792b419c98aa"), looks := true }, kinds := [], alts := [], laidByText := true, laidKinds := [.data, .data, .data, .data, .listed, .data, .pinned], laidTests := true, laidLooks := .later }
def DecodeNeedsCardSaid : Prop := Claim7.holds Tryz.pinned (.plain (OpenSpec.ofChange decodeNeedsSpec)) decodeNeedsCard

/-- THE TIED CARD OF 'breadboardlaw12.DecodeFirst'. -/
def decodeFirstCard : Claim7 := { stood := { row := decodeFirstRow, standIns := [], harness := (true, "f7517a8817ac7a1a67c6e6dfdd745857fa520da1f199e36da49d792b419c98aa"), looks := true }, kinds := [], alts := [], laidByText := true, laidKinds := [.data, .data, .data, .data, .listed, .data, .pinned], laidTests := true, laidLooks := .later }
def DecodeFirstCardSaid : Prop := Claim7.holds Tryz.pinned (.plain (OpenSpec.ofChange decodeFirstSpec)) decodeFirstCard

/-- THE TIED CARD OF 'breadboardlaw12.DecodeAt'. -/
def decodeAtCard : Claim7 := { stood := { row := decodeAtRow, standIns := [], harness := (true, "f7517a8817ac7a1a67c6e6dfdd745857fa520da1f199e36da49d792b419c98aa"), looks := true }, kinds := [], alts := [], laidByText := true, laidKinds := [.data, .data, .data, .data, .listed, .data, .pinned], laidTests := true, laidLooks := .later }
def DecodeAtCardSaid : Prop := Claim7.holds Tryz.pinned (.plain (OpenSpec.ofChange decodeAtSpec)) decodeAtCard

/-- THE TIED CARD OF 'breadboardlaw13.ItemsSplits'. -/
def itemsSplitsCard : Claim7 := { stood := { row := itemsSplitsRow, standIns := [], harness := (true, "f7517a8817ac7a1a67c6e6dfdd745857fa520da1f199e36da49d792b419c98aa"), looks := true }, kinds := [], alts := [], laidByText := true, laidKinds := [.data, .data, .data, .data, .listed, .data, .pinned], laidTests := true, laidLooks := .later }
def ItemsSplitsCardSaid : Prop := Claim7.holds Tryz.pinned (.plain (OpenSpec.ofChange itemsSplitsSpec)) itemsSplitsCard

/-- THE TIED CARD OF 'breadboardlaw12.DecodeKeeps'. -/
def decodeKeepsCard : Claim7 := { stood := { row := decodeKeepsRow, standIns := [], harness := (true, "f7517a8817ac7a1a67c6e6dfdd745857fa520da1f199e36da49d792b419c98aa"), looks := true }, kinds := [], alts := [], laidByText := true, laidKinds := [.data, .data, .data, .data, .listed, .data, .pinned], laidTests := true, laidLooks := .later }
def DecodeKeepsCardSaid : Prop := Claim7.holds Tryz.pinned (.plain (OpenSpec.ofChange decodeKeepsSpec)) decodeKeepsCard

/-- THE TIED CARD OF 'breadboardlaw13.ItemsJoins'. -/
def itemsJoinsCard : Claim7 := { stood := { row := itemsJoinsRow, standIns := [], harness := (true, "f7517a8817ac7a1a67c6e6dfdd745857fa520da1f199e36da49d792b419c98aa"), looks := true }, kinds := [], alts := [], laidByText := true, laidKinds := [.data, .data, .data, .data, .listed, .data, .pinned], laidTests := true, laidLooks := .later }
def ItemsJoinsCardSaid : Prop := Claim7.holds Tryz.pinned (.plain (OpenSpec.ofChange itemsJoinsSpec)) itemsJoinsCard

/-- THE TIED CARD OF 'breadboardlaw13.ItemsDecode'. -/
def itemsDecodeCard : Claim7 := { stood := { row := itemsDecodeRow, standIns := [], harness := (true, "f7517a8817ac7a1a67c6e6dfdd745857fa520da1f199e36da49d792b419c98aa"), looks := true }, kinds := [], alts := [], laidByText := true, laidKinds := [.data, .data, .data, .data, .listed, .data, .pinned], laidTests := true, laidLooks := .later }
def ItemsDecodeCardSaid : Prop := Claim7.holds Tryz.pinned (.plain (OpenSpec.ofChange itemsDecodeSpec)) itemsDecodeCard

/-- THE TIED CARD OF 'breadboardlaw13.ItemsChecks'. -/
def itemsChecksCard : Claim7 := { stood := { row := itemsChecksRow, standIns := [], harness := (true, "f7517a8817ac7a1a67c6e6dfdd745857fa520da1f199e36da49d792b419c98aa"), looks := true }, kinds := [], alts := [], laidByText := true, laidKinds := [.data, .data, .data, .data, .listed, .data, .pinned], laidTests := true, laidLooks := .later }
def ItemsChecksCardSaid : Prop := Claim7.holds Tryz.pinned (.plain (OpenSpec.ofChange itemsChecksSpec)) itemsChecksCard

/-- THE TIED CARD OF 'breadboardlaw13.ItemsLists'. -/
def itemsListsCard : Claim7 := { stood := { row := itemsListsRow, standIns := [], harness := (true, "f7517a8817ac7a1a67c6e6dfdd745857fa520da1f199e36da49d792b419c98aa"), looks := true }, kinds := [], alts := [], laidByText := true, laidKinds := [.data, .data, .data, .data, .listed, .data, .pinned], laidTests := true, laidLooks := .later }
def ItemsListsCardSaid : Prop := Claim7.holds Tryz.pinned (.plain (OpenSpec.ofChange itemsListsSpec)) itemsListsCard

/-- THE TIED CARD OF 'breadboardlaw12.DecodeBack'. -/
def decodeBackCard : Claim7 := { stood := { row := decodeBackRow, standIns := [], harness := (true, "f7517a8817ac7a1a67c6e6dfdd745857fa520da1f199e36da49d792b419c98aa"), looks := true }, kinds := [], alts := [], laidByText := true, laidKinds := [.data, .data, .data, .data, .listed, .data, .pinned], laidTests := true, laidLooks := .later }
def DecodeBackCardSaid : Prop := Claim7.holds Tryz.pinned (.plain (OpenSpec.ofChange decodeBackSpec)) decodeBackCard

/-- THE TIED CARD OF 'breadboardlaw12.DecodeInverse'. -/
def decodeInverseCard : Claim7 := { stood := { row := decodeInverseRow, standIns := [], harness := (true, "f7517a8817ac7a1a67c6e6dfdd745857fa520da1f199e36da49d792b419c98aa"), looks := true }, kinds := [], alts := [], laidByText := true, laidKinds := [.data, .data, .data, .data, .listed, .data, .pinned], laidTests := true, laidLooks := .later }
def DecodeInverseCardSaid : Prop := Claim7.holds Tryz.pinned (.plain (OpenSpec.ofChange decodeInverseSpec)) decodeInverseCard

/-- THE TIED CARD OF 'breadboardlaw13.ItemsInverse'. -/
def itemsInverseCard : Claim7 := { stood := { row := itemsInverseRow, standIns := [], harness := (true, "f7517a8817ac7a1a67c6e6dfdd745857fa520da1f199e36da49d792b419c98aa"), looks := true }, kinds := [], alts := [], laidByText := true, laidKinds := [.data, .data, .data, .data, .listed, .data, .pinned], laidTests := true, laidLooks := .later }
def ItemsInverseCardSaid : Prop := Claim7.holds Tryz.pinned (.plain (OpenSpec.ofChange itemsInverseSpec)) itemsInverseCard

/-- THE SECOND FORM's CARD OF 'breadboardlaw12.DecodeNeeds'. -/
def decodeNeedsUptoCard : Claim7 := { stood := { row := decodeNeedsUptoRow, standIns := [], harness := (true, "f7517a8817ac7a1a67c6e6dfdd745857fa520da1f199e36da49d792b419c98aa"), looks := true }, kinds := [], alts := [], laidByText := true, laidKinds := [.data, .data, .data, .data, .listed, .data, .pinned], laidTests := true, laidLooks := .later }
def DecodeNeedsUptoCardSaid : Prop := Claim7.holds Tryz.pinned (.plain (OpenSpec.upto decodeNeedsSpec)) decodeNeedsUptoCard

/-- THE SECOND FORM's CARD OF 'breadboardlaw12.DecodeFirst'. -/
def decodeFirstUptoCard : Claim7 := { stood := { row := decodeFirstUptoRow, standIns := [], harness := (true, "f7517a8817ac7a1a67c6e6dfdd745857fa520da1f199e36da49d792b419c98aa"), looks := true }, kinds := [], alts := [], laidByText := true, laidKinds := [.data, .data, .data, .data, .listed, .data, .pinned], laidTests := true, laidLooks := .later }
def DecodeFirstUptoCardSaid : Prop := Claim7.holds Tryz.pinned (.plain (OpenSpec.upto decodeFirstSpec)) decodeFirstUptoCard

/-- THE SECOND FORM's CARD OF 'breadboardlaw12.DecodeAt'. -/
def decodeAtUptoCard : Claim7 := { stood := { row := decodeAtUptoRow, standIns := [], harness := (true, "f7517a8817ac7a1a67c6e6dfdd745857fa520da1f199e36da49d792b419c98aa"), looks := true }, kinds := [], alts := [], laidByText := true, laidKinds := [.data, .data, .data, .data, .listed, .data, .pinned], laidTests := true, laidLooks := .later }
def DecodeAtUptoCardSaid : Prop := Claim7.holds Tryz.pinned (.plain (OpenSpec.upto decodeAtSpec)) decodeAtUptoCard

/-- THE SECOND FORM's CARD OF 'breadboardlaw13.ItemsSplits'. -/
def itemsSplitsUptoCard : Claim7 := { stood := { row := itemsSplitsUptoRow, standIns := [], harness := (true, "f7517a8817ac7a1a67c6e6dfdd745857fa520da1f199e36da49d792b419c98aa"), looks := true }, kinds := [], alts := [], laidByText := true, laidKinds := [.data, .data, .data, .data, .listed, .data, .pinned], laidTests := true, laidLooks := .later }
def ItemsSplitsUptoCardSaid : Prop := Claim7.holds Tryz.pinned (.plain (OpenSpec.upto itemsSplitsSpec)) itemsSplitsUptoCard

/-- THE SECOND FORM's CARD OF 'breadboardlaw12.DecodeKeeps'. -/
def decodeKeepsUptoCard : Claim7 := { stood := { row := decodeKeepsUptoRow, standIns := [], harness := (true, "f7517a8817ac7a1a67c6e6dfdd745857fa520da1f199e36da49d792b419c98aa"), looks := true }, kinds := [], alts := [], laidByText := true, laidKinds := [.data, .data, .data, .data, .listed, .data, .pinned], laidTests := true, laidLooks := .later }
def DecodeKeepsUptoCardSaid : Prop := Claim7.holds Tryz.pinned (.plain (OpenSpec.upto decodeKeepsSpec)) decodeKeepsUptoCard

/-- THE SECOND FORM's CARD OF 'breadboardlaw13.ItemsJoins'. -/
def itemsJoinsUptoCard : Claim7 := { stood := { row := itemsJoinsUptoRow, standIns := [], harness := (true, "f7517a8817ac7a1a67c6e6dfdd745857fa520da1f199e36da49d792b419c98aa"), looks := true }, kinds := [], alts := [], laidByText := true, laidKinds := [.data, .data, .data, .data, .listed, .data, .pinned], laidTests := true, laidLooks := .later }
def ItemsJoinsUptoCardSaid : Prop := Claim7.holds Tryz.pinned (.plain (OpenSpec.upto itemsJoinsSpec)) itemsJoinsUptoCard

/-- THE SECOND FORM's CARD OF 'breadboardlaw13.ItemsDecode'. -/
def itemsDecodeUptoCard : Claim7 := { stood := { row := itemsDecodeUptoRow, standIns := [], harness := (true, "f7517a8817ac7a1a67c6e6dfdd745857fa520da1f199e36da49d792b419c98aa"), looks := true }, kinds := [], alts := [], laidByText := true, laidKinds := [.data, .data, .data, .data, .listed, .data, .pinned], laidTests := true, laidLooks := .later }
def ItemsDecodeUptoCardSaid : Prop := Claim7.holds Tryz.pinned (.plain (OpenSpec.upto itemsDecodeSpec)) itemsDecodeUptoCard

/-- THE SECOND FORM's CARD OF 'breadboardlaw13.ItemsChecks'. -/
def itemsChecksUptoCard : Claim7 := { stood := { row := itemsChecksUptoRow, standIns := [], harness := (true, "f7517a8817ac7a1a67c6e6dfdd745857fa520da1f199e36da49d792b419c98aa"), looks := true }, kinds := [], alts := [], laidByText := true, laidKinds := [.data, .data, .data, .data, .listed, .data, .pinned], laidTests := true, laidLooks := .later }
def ItemsChecksUptoCardSaid : Prop := Claim7.holds Tryz.pinned (.plain (OpenSpec.upto itemsChecksSpec)) itemsChecksUptoCard

/-- THE SECOND FORM's CARD OF 'breadboardlaw13.ItemsLists'. -/
def itemsListsUptoCard : Claim7 := { stood := { row := itemsListsUptoRow, standIns := [], harness := (true, "f7517a8817ac7a1a67c6e6dfdd745857fa520da1f199e36da49d792b419c98aa"), looks := true }, kinds := [], alts := [], laidByText := true, laidKinds := [.data, .data, .data, .data, .listed, .data, .pinned], laidTests := true, laidLooks := .later }
def ItemsListsUptoCardSaid : Prop := Claim7.holds Tryz.pinned (.plain (OpenSpec.upto itemsListsSpec)) itemsListsUptoCard

/-- THE SECOND FORM's CARD OF 'breadboardlaw12.DecodeBack'. -/
def decodeBackUptoCard : Claim7 := { stood := { row := decodeBackUptoRow, standIns := [], harness := (true, "f7517a8817ac7a1a67c6e6dfdd745857fa520da1f199e36da49d792b419c98aa"), looks := true }, kinds := [], alts := [], laidByText := true, laidKinds := [.data, .data, .data, .data, .listed, .data, .pinned], laidTests := true, laidLooks := .later }
def DecodeBackUptoCardSaid : Prop := Claim7.holds Tryz.pinned (.plain (OpenSpec.upto decodeBackSpec)) decodeBackUptoCard

/-- THE SECOND FORM's CARD OF 'breadboardlaw12.DecodeInverse'. -/
def decodeInverseUptoCard : Claim7 := { stood := { row := decodeInverseUptoRow, standIns := [], harness := (true, "f7517a8817ac7a1a67c6e6dfdd745857fa520da1f199e36da49d792b419c98aa"), looks := true }, kinds := [], alts := [], laidByText := true, laidKinds := [.data, .data, .data, .data, .listed, .data, .pinned], laidTests := true, laidLooks := .later }
def DecodeInverseUptoCardSaid : Prop := Claim7.holds Tryz.pinned (.plain (OpenSpec.upto decodeInverseSpec)) decodeInverseUptoCard

/-- THE SECOND FORM's CARD OF 'breadboardlaw13.ItemsInverse'. -/
def itemsInverseUptoCard : Claim7 := { stood := { row := itemsInverseUptoRow, standIns := [], harness := (true, "f7517a8817ac7a1a67c6e6dfdd745857fa520da1f199e36da49d792b419c98aa"), looks := true }, kinds := [], alts := [], laidByText := true, laidKinds := [.data, .data, .data, .data, .listed, .data, .pinned], laidTests := true, laidLooks := .later }
def ItemsInverseUptoCardSaid : Prop := Claim7.holds Tryz.pinned (.plain (OpenSpec.upto itemsInverseSpec)) itemsInverseUptoCard
end Rows
end Go.Proofs.YtnbmbcjnncbaiaaGreatDoor
