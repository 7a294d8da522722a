/-
  DERIVED. GIVEN WITH THE SEED: THE CARDS: each row of YtkkjoghfdmmpaaaDoorRows.lean that lists a variable, with what it lists TIED to the program's text (the seventh form; the later family's looks); each row that meets fmt, with fmt's text TOLD by the authors' own Lean function (tested against real Go, not proved from fmt's source: count such statements apart). THE CARD IS WHAT COUNTS. Prove the row's statement (the work); the ties are given (YtkkjoghfdmmpaaaDoorTie.lean); close each card by the builder's one call (the guide's Derived/Test/ToyasCard.lean, 'card_holds'). Laid BY PROGRAM, IN A SANDBOX (cutbox-door.mjs). By AI agents, Wed Nov 11 2026. No macro, syntax, notation, axiom, sorry.
-/
import Derived.Test.YtkkjoghfdmmpaaaDoorRows
import GoSem.ClaimSeven
namespace Go.Proofs.YtkkjoghfdmmpaaaDoor
namespace Rows

/-- THE TIED CARD OF 'breadboardlaw04.HexwriteDumps'. -/
def hexwriteDumpsCard : Claim7 := { stood := { row := hexwriteDumpsRow, standIns := [], harness := (true, "690264c3ab758a469a40ec4f0350aaae5810cced869c5132dd1d9e662ca7a596"), looks := false }, kinds := [], alts := [], laidByText := true, laidKinds := [.data], laidTests := true, laidLooks := .later }
def HexwriteDumpsCardSaid : Prop := Claim7.holds Tryd.pinned (.plain (OpenSpec.ofChange hexwriteDumpsSpec)) hexwriteDumpsCard

/-- THE TIED CARD OF 'breadboardlaw04.HexwriteSame'. -/
def hexwriteSameCard : Claim7 := { stood := { row := hexwriteSameRow, standIns := [], harness := (true, "690264c3ab758a469a40ec4f0350aaae5810cced869c5132dd1d9e662ca7a596"), looks := false }, kinds := [], alts := [], laidByText := true, laidKinds := [.data], laidTests := true, laidLooks := .later }
def HexwriteSameCardSaid : Prop := Claim7.holds Tryd.pinned (.plain (OpenSpec.ofChange hexwriteSameSpec)) hexwriteSameCard

/-- THE TIED CARD OF 'breadboardlaw04.HexwriteJoins'. -/
def hexwriteJoinsCard : Claim7 := { stood := { row := hexwriteJoinsRow, standIns := [], harness := (true, "690264c3ab758a469a40ec4f0350aaae5810cced869c5132dd1d9e662ca7a596"), looks := false }, kinds := [], alts := [], laidByText := true, laidKinds := [.data], laidTests := true, laidLooks := .later }
def HexwriteJoinsCardSaid : Prop := Claim7.holds Tryd.pinned (.plain (OpenSpec.ofChange hexwriteJoinsSpec)) hexwriteJoinsCard

/-- THE TIED CARD OF 'breadboardlaw08.CanonTwice'. -/
def canonTwiceCard : Claim7 := { stood := { row := canonTwiceRow, standIns := [], harness := (true, "690264c3ab758a469a40ec4f0350aaae5810cced869c5132dd1d9e662ca7a596"), looks := false }, kinds := [], alts := [], laidByText := true, laidKinds := [.listed, .data], laidTests := true, laidLooks := .later }
def CanonTwiceCardSaid : Prop := Claim7.holds Tryd.pinned (.plain (OpenSpec.ofChange canonTwiceSpec)) canonTwiceCard

/-- THE TIED CARD OF 'breadboardlaw08.CanonLists'. -/
def canonListsCard : Claim7 := { stood := { row := canonListsRow, standIns := [], harness := (true, "690264c3ab758a469a40ec4f0350aaae5810cced869c5132dd1d9e662ca7a596"), looks := false }, kinds := [], alts := [], laidByText := true, laidKinds := [.listed, .data], laidTests := true, laidLooks := .later }
def CanonListsCardSaid : Prop := Claim7.holds Tryd.pinned (.plain (OpenSpec.ofChange canonListsSpec)) canonListsCard

/-- THE TIED CARD OF 'breadboardlaw04.HexwriteWrites'. -/
def hexwriteWritesCard : Claim7 := { stood := { row := hexwriteWritesRow, standIns := [], harness := (true, "690264c3ab758a469a40ec4f0350aaae5810cced869c5132dd1d9e662ca7a596"), looks := false }, kinds := [], alts := [], laidByText := true, laidKinds := [.data], laidTests := true, laidLooks := .later }
def HexwriteWritesCardSaid : Prop := Claim7.holds Tryd.pinned (.plain (OpenSpec.ofChange hexwriteWritesSpec)) hexwriteWritesCard

/-- THE TIED CARD OF 'breadboardlaw08.CanonNumbers'. -/
def canonNumbersCard : Claim7 := { stood := { row := canonNumbersRow, standIns := [], harness := (true, "690264c3ab758a469a40ec4f0350aaae5810cced869c5132dd1d9e662ca7a596"), looks := false }, kinds := [], alts := [], laidByText := true, laidKinds := [.data, .data, .data, .listed, .data], laidTests := true, laidLooks := .later }
def CanonNumbersCardSaid : Prop := Claim7.holds Tryd.pinned (.plain (OpenSpec.ofChange canonNumbersSpec)) canonNumbersCard

/-- THE TIED CARD OF 'breadboardlaw04.HexwriteRecords'. -/
def hexwriteRecordsCard : Claim7 := { stood := { row := hexwriteRecordsRow, standIns := [], harness := (true, "690264c3ab758a469a40ec4f0350aaae5810cced869c5132dd1d9e662ca7a596"), looks := false }, kinds := [], alts := [], laidByText := true, laidKinds := [.data, .data, .pinned], laidTests := true, laidLooks := .later }
def HexwriteRecordsCardSaid : Prop := Claim7.holds Tryd.pinned (.plain (OpenSpec.ofChange hexwriteRecordsSpec)) hexwriteRecordsCard

/-- THE TIED CARD OF 'breadboardlaw07.InstrChecks'. -/
def instrChecksCard : Claim7 := { stood := { row := instrChecksRow, standIns := [], harness := (true, "690264c3ab758a469a40ec4f0350aaae5810cced869c5132dd1d9e662ca7a596"), looks := false }, kinds := [], alts := [], laidByText := true, laidKinds := [.data, .data, .data, .listed, .data], laidTests := true, laidLooks := .later }
def InstrChecksCardSaid : Prop := Claim7.holds Tryd.pinned (.plain (OpenSpec.ofChange instrChecksSpec)) instrChecksCard

/-- THE TIED CARD OF 'breadboardlaw07.InstrMakes'. -/
def instrMakesCard : Claim7 := { stood := { row := instrMakesRow, standIns := [], harness := (true, "690264c3ab758a469a40ec4f0350aaae5810cced869c5132dd1d9e662ca7a596"), looks := false }, kinds := [], alts := [], laidByText := true, laidKinds := [.data, .data, .data, .listed, .data], laidTests := true, laidLooks := .later }
def InstrMakesCardSaid : Prop := Claim7.holds Tryd.pinned (.plain (OpenSpec.ofChange instrMakesSpec)) instrMakesCard

/-- THE TIED CARD OF 'breadboardlaw07.InstrWith'. -/
def instrWithCard : Claim7 := { stood := { row := instrWithRow, standIns := [], harness := (true, "690264c3ab758a469a40ec4f0350aaae5810cced869c5132dd1d9e662ca7a596"), looks := false }, kinds := [], alts := [], laidByText := true, laidKinds := [.data, .data, .data, .listed, .data], laidTests := true, laidLooks := .later }
def InstrWithCardSaid : Prop := Claim7.holds Tryd.pinned (.plain (OpenSpec.ofChange instrWithSpec)) instrWithCard

/-- THE TIED CARD OF 'breadboardlaw07.InstrKeeps'. -/
def instrKeepsCard : Claim7 := { stood := { row := instrKeepsRow, standIns := [], harness := (true, "690264c3ab758a469a40ec4f0350aaae5810cced869c5132dd1d9e662ca7a596"), looks := false }, kinds := [], alts := [], laidByText := true, laidKinds := [.data, .data, .data, .listed, .data], laidTests := true, laidLooks := .later }
def InstrKeepsCardSaid : Prop := Claim7.holds Tryd.pinned (.plain (OpenSpec.ofChange instrKeepsSpec)) instrKeepsCard

/-- THE SECOND FORM's CARD OF 'breadboardlaw04.HexwriteDumps'. -/
def hexwriteDumpsUptoCard : Claim7 := { stood := { row := hexwriteDumpsUptoRow, standIns := [], harness := (true, "690264c3ab758a469a40ec4f0350aaae5810cced869c5132dd1d9e662ca7a596"), looks := false }, kinds := [], alts := [], laidByText := true, laidKinds := [.data], laidTests := true, laidLooks := .later }
def HexwriteDumpsUptoCardSaid : Prop := Claim7.holds Tryd.pinned (.plain (OpenSpec.upto hexwriteDumpsSpec)) hexwriteDumpsUptoCard

/-- THE SECOND FORM's CARD OF 'breadboardlaw04.HexwriteSame'. -/
def hexwriteSameUptoCard : Claim7 := { stood := { row := hexwriteSameUptoRow, standIns := [], harness := (true, "690264c3ab758a469a40ec4f0350aaae5810cced869c5132dd1d9e662ca7a596"), looks := false }, kinds := [], alts := [], laidByText := true, laidKinds := [.data], laidTests := true, laidLooks := .later }
def HexwriteSameUptoCardSaid : Prop := Claim7.holds Tryd.pinned (.plain (OpenSpec.upto hexwriteSameSpec)) hexwriteSameUptoCard

/-- THE SECOND FORM's CARD OF 'breadboardlaw04.HexwriteJoins'. -/
def hexwriteJoinsUptoCard : Claim7 := { stood := { row := hexwriteJoinsUptoRow, standIns := [], harness := (true, "690264c3ab758a469a40ec4f0350aaae5810cced869c5132dd1d9e662ca7a596"), looks := false }, kinds := [], alts := [], laidByText := true, laidKinds := [.data], laidTests := true, laidLooks := .later }
def HexwriteJoinsUptoCardSaid : Prop := Claim7.holds Tryd.pinned (.plain (OpenSpec.upto hexwriteJoinsSpec)) hexwriteJoinsUptoCard

/-- THE SECOND FORM's CARD OF 'breadboardlaw08.CanonTwice'. -/
def canonTwiceUptoCard : Claim7 := { stood := { row := canonTwiceUptoRow, standIns := [], harness := (true, "690264c3ab758a469a40ec4f0350aaae5810cced869c5132dd1d9e662ca7a596"), looks := false }, kinds := [], alts := [], laidByText := true, laidKinds := [.listed, .data], laidTests := true, laidLooks := .later }
def CanonTwiceUptoCardSaid : Prop := Claim7.holds Tryd.pinned (.plain (OpenSpec.upto canonTwiceSpec)) canonTwiceUptoCard

/-- THE SECOND FORM's CARD OF 'breadboardlaw08.CanonLists'. -/
def canonListsUptoCard : Claim7 := { stood := { row := canonListsUptoRow, standIns := [], harness := (true, "690264c3ab758a469a40ec4f0350aaae5810cced869c5132dd1d9e662ca7a596"), looks := false }, kinds := [], alts := [], laidByText := true, laidKinds := [.listed, .data], laidTests := true, laidLooks := .later }
def CanonListsUptoCardSaid : Prop := Claim7.holds Tryd.pinned (.plain (OpenSpec.upto canonListsSpec)) canonListsUptoCard

/-- THE SECOND FORM's CARD OF 'breadboardlaw04.HexwriteWrites'. -/
def hexwriteWritesUptoCard : Claim7 := { stood := { row := hexwriteWritesUptoRow, standIns := [], harness := (true, "690264c3ab758a469a40ec4f0350aaae5810cced869c5132dd1d9e662ca7a596"), looks := false }, kinds := [], alts := [], laidByText := true, laidKinds := [.data], laidTests := true, laidLooks := .later }
def HexwriteWritesUptoCardSaid : Prop := Claim7.holds Tryd.pinned (.plain (OpenSpec.upto hexwriteWritesSpec)) hexwriteWritesUptoCard

/-- THE SECOND FORM's CARD OF 'breadboardlaw08.CanonNumbers'. -/
def canonNumbersUptoCard : Claim7 := { stood := { row := canonNumbersUptoRow, standIns := [], harness := (true, "690264c3ab758a469a40ec4f0350aaae5810cced869c5132dd1d9e662ca7a596"), looks := false }, kinds := [], alts := [], laidByText := true, laidKinds := [.data, .data, .data, .listed, .data], laidTests := true, laidLooks := .later }
def CanonNumbersUptoCardSaid : Prop := Claim7.holds Tryd.pinned (.plain (OpenSpec.upto canonNumbersSpec)) canonNumbersUptoCard

/-- THE SECOND FORM's CARD OF 'breadboardlaw04.HexwriteRecords'. -/
def hexwriteRecordsUptoCard : Claim7 := { stood := { row := hexwriteRecordsUptoRow, standIns := [], harness := (true, "690264c3ab758a469a40ec4f0350aaae5810cced869c5132dd1d9e662ca7a596"), looks := false }, kinds := [], alts := [], laidByText := true, laidKinds := [.data, .data, .pinned], laidTests := true, laidLooks := .later }
def HexwriteRecordsUptoCardSaid : Prop := Claim7.holds Tryd.pinned (.plain (OpenSpec.upto hexwriteRecordsSpec)) hexwriteRecordsUptoCard

/-- THE SECOND FORM's CARD OF 'breadboardlaw07.InstrChecks'. -/
def instrChecksUptoCard : Claim7 := { stood := { row := instrChecksUptoRow, standIns := [], harness := (true, "690264c3ab758a469a40ec4f0350aaae5810cced869c5132dd1d9e662ca7a596"), looks := false }, kinds := [], alts := [], laidByText := true, laidKinds := [.data, .data, .data, .listed, .data], laidTests := true, laidLooks := .later }
def InstrChecksUptoCardSaid : Prop := Claim7.holds Tryd.pinned (.plain (OpenSpec.upto instrChecksSpec)) instrChecksUptoCard

/-- THE SECOND FORM's CARD OF 'breadboardlaw07.InstrMakes'. -/
def instrMakesUptoCard : Claim7 := { stood := { row := instrMakesUptoRow, standIns := [], harness := (true, "690264c3ab758a469a40ec4f0350aaae5810cced869c5132dd1d9e662ca7a596"), looks := false }, kinds := [], alts := [], laidByText := true, laidKinds := [.data, .data, .data, .listed, .data], laidTests := true, laidLooks := .later }
def InstrMakesUptoCardSaid : Prop := Claim7.holds Tryd.pinned (.plain (OpenSpec.upto instrMakesSpec)) instrMakesUptoCard

/-- THE SECOND FORM's CARD OF 'breadboardlaw07.InstrWith'. -/
def instrWithUptoCard : Claim7 := { stood := { row := instrWithUptoRow, standIns := [], harness := (true, "690264c3ab758a469a40ec4f0350aaae5810cced869c5132dd1d9e662ca7a596"), looks := false }, kinds := [], alts := [], laidByText := true, laidKinds := [.data, .data, .data, .listed, .data], laidTests := true, laidLooks := .later }
def InstrWithUptoCardSaid : Prop := Claim7.holds Tryd.pinned (.plain (OpenSpec.upto instrWithSpec)) instrWithUptoCard

/-- THE SECOND FORM's CARD OF 'breadboardlaw07.InstrKeeps'. -/
def instrKeepsUptoCard : Claim7 := { stood := { row := instrKeepsUptoRow, standIns := [], harness := (true, "690264c3ab758a469a40ec4f0350aaae5810cced869c5132dd1d9e662ca7a596"), looks := false }, kinds := [], alts := [], laidByText := true, laidKinds := [.data, .data, .data, .listed, .data], laidTests := true, laidLooks := .later }
def InstrKeepsUptoCardSaid : Prop := Claim7.holds Tryd.pinned (.plain (OpenSpec.upto instrKeepsSpec)) instrKeepsUptoCard
end Rows
end Go.Proofs.YtkkjoghfdmmpaaaDoor
