/-
  DERIVED. GIVEN WITH THE SEED: THE CARDS: each row of YtcfjcoockklkeaaDoorRows.lean that lists a variable, with what it lists TIED to the program's text (the seventh form; the later family's looks); each row that meets fmt, with fmt's text TOLD by the authors' own Lean function (tested against real Go, not proved from fmt's source: count such statements apart). THE CARD IS WHAT COUNTS. Prove the row's statement (the work); the ties are given (YtcfjcoockklkeaaDoorTie.lean); close each card by the builder's one call (the guide's Derived/Test/ToyasCard.lean, 'card_holds'). Laid BY PROGRAM, IN A SANDBOX (cutbox-door.mjs). By AI agents, Wed Nov 11 2026. No macro, syntax, notation, axiom, sorry.
-/
import Derived.Test.YtcfjcoockklkeaaDoorRows
import GoSem.ClaimSeven
namespace Go.Proofs.YtcfjcoockklkeaaDoor
namespace Rows

/-- THE TIED CARD OF 'breadboardlaw04.HexwriteDumps'. -/
def hexwriteDumpsCard : Claim7 := { stood := { row := hexwriteDumpsRow, standIns := [], harness := (true, "c0cfe6fee73a2575eb70166b8ee193ad1c57a568adcb011edf8170d436dfd9e0"), looks := false }, kinds := [], alts := [], laidByText := true, laidKinds := [.data], laidTests := true, laidLooks := .later }
def HexwriteDumpsCardSaid : Prop := Claim7.holds Tryd.pinned (.plain (OpenSpec.ofChange hexwriteDumpsSpec)) hexwriteDumpsCard

/-- THE TIED CARD OF 'breadboardlaw04.HexwriteSame'. -/
def hexwriteSameCard : Claim7 := { stood := { row := hexwriteSameRow, standIns := [], harness := (true, "c0cfe6fee73a2575eb70166b8ee193ad1c57a568adcb011edf8170d436dfd9e0"), looks := false }, kinds := [], alts := [], laidByText := true, laidKinds := [.data], laidTests := true, laidLooks := .later }
def HexwriteSameCardSaid : Prop := Claim7.holds Tryd.pinned (.plain (OpenSpec.ofChange hexwriteSameSpec)) hexwriteSameCard

/-- THE TIED CARD OF 'breadboardlaw04.HexwriteJoins'. -/
def hexwriteJoinsCard : Claim7 := { stood := { row := hexwriteJoinsRow, standIns := [], harness := (true, "c0cfe6fee73a2575eb70166b8ee193ad1c57a568adcb011edf8170d436dfd9e0"), looks := false }, kinds := [], alts := [], laidByText := true, laidKinds := [.data], laidTests := true, laidLooks := .later }
def HexwriteJoinsCardSaid : Prop := Claim7.holds Tryd.pinned (.plain (OpenSpec.ofChange hexwriteJoinsSpec)) hexwriteJoinsCard

/-- THE TIED CARD OF 'breadboardlaw04.HexwriteWrites'. -/
def hexwriteWritesCard : Claim7 := { stood := { row := hexwriteWritesRow, standIns := [], harness := (true, "c0cfe6fee73a2575eb70166b8ee193ad1c57a568adcb011edf8170d436dfd9e0"), looks := false }, kinds := [], alts := [], laidByText := true, laidKinds := [.data], laidTests := true, laidLooks := .later }
def HexwriteWritesCardSaid : Prop := Claim7.holds Tryd.pinned (.plain (OpenSpec.ofChange hexwriteWritesSpec)) hexwriteWritesCard

/-- THE TIED CARD OF 'breadboardlaw04.HexwriteRecords'. -/
def hexwriteRecordsCard : Claim7 := { stood := { row := hexwriteRecordsRow, standIns := [], harness := (true, "c0cfe6fee73a2575eb70166b8ee193ad1c57a568adcb011edf8170d436dfd9e0"), looks := false }, kinds := [], alts := [], laidByText := true, laidKinds := [.data, .data, .pinned], laidTests := true, laidLooks := .later }
def HexwriteRecordsCardSaid : Prop := Claim7.holds Tryd.pinned (.plain (OpenSpec.ofChange hexwriteRecordsSpec)) hexwriteRecordsCard

/-- THE TIED CARD OF 'breadboardlaw05.HexreadMerges'. -/
def hexreadMergesCard : Claim7 := { stood := { row := hexreadMergesRow, standIns := [], harness := (true, "c0cfe6fee73a2575eb70166b8ee193ad1c57a568adcb011edf8170d436dfd9e0"), looks := false }, kinds := [], alts := [], laidByText := true, laidKinds := [.data, .data, .pinned], laidTests := true, laidLooks := .later }
def HexreadMergesCardSaid : Prop := Claim7.holds Tryd.pinned (.plain (OpenSpec.ofChange hexreadMergesSpec)) hexreadMergesCard

/-- THE TIED CARD OF 'breadboardlaw05.HexreadEnds'. -/
def hexreadEndsCard : Claim7 := { stood := { row := hexreadEndsRow, standIns := [], harness := (true, "c0cfe6fee73a2575eb70166b8ee193ad1c57a568adcb011edf8170d436dfd9e0"), looks := false }, kinds := [], alts := [], laidByText := true, laidKinds := [.data, .data, .pinned], laidTests := true, laidLooks := .later }
def HexreadEndsCardSaid : Prop := Claim7.holds Tryd.pinned (.plain (OpenSpec.ofChange hexreadEndsSpec)) hexreadEndsCard

/-- THE TIED CARD OF 'breadboardlaw05.HexreadInverse'. -/
def hexreadInverseCard : Claim7 := { stood := { row := hexreadInverseRow, standIns := [], harness := (true, "c0cfe6fee73a2575eb70166b8ee193ad1c57a568adcb011edf8170d436dfd9e0"), looks := false }, kinds := [], alts := [], laidByText := true, laidKinds := [.data, .data, .pinned], laidTests := true, laidLooks := .later }
def HexreadInverseCardSaid : Prop := Claim7.holds Tryd.pinned (.plain (OpenSpec.ofChange hexreadInverseSpec)) hexreadInverseCard

/-- THE TIED CARD OF 'breadboardlaw05.HexreadDiffs'. -/
def hexreadDiffsCard : Claim7 := { stood := { row := hexreadDiffsRow, standIns := [], harness := (true, "c0cfe6fee73a2575eb70166b8ee193ad1c57a568adcb011edf8170d436dfd9e0"), looks := false }, kinds := [], alts := [], laidByText := true, laidKinds := [.data, .data, .pinned], laidTests := true, laidLooks := .later }
def HexreadDiffsCardSaid : Prop := Claim7.holds Tryd.pinned (.plain (OpenSpec.ofChange hexreadDiffsSpec)) hexreadDiffsCard

/-- THE SECOND FORM's CARD OF 'breadboardlaw04.HexwriteDumps'. -/
def hexwriteDumpsUptoCard : Claim7 := { stood := { row := hexwriteDumpsUptoRow, standIns := [], harness := (true, "c0cfe6fee73a2575eb70166b8ee193ad1c57a568adcb011edf8170d436dfd9e0"), looks := false }, kinds := [], alts := [], laidByText := true, laidKinds := [.data], laidTests := true, laidLooks := .later }
def HexwriteDumpsUptoCardSaid : Prop := Claim7.holds Tryd.pinned (.plain (OpenSpec.upto hexwriteDumpsSpec)) hexwriteDumpsUptoCard

/-- THE SECOND FORM's CARD OF 'breadboardlaw04.HexwriteSame'. -/
def hexwriteSameUptoCard : Claim7 := { stood := { row := hexwriteSameUptoRow, standIns := [], harness := (true, "c0cfe6fee73a2575eb70166b8ee193ad1c57a568adcb011edf8170d436dfd9e0"), looks := false }, kinds := [], alts := [], laidByText := true, laidKinds := [.data], laidTests := true, laidLooks := .later }
def HexwriteSameUptoCardSaid : Prop := Claim7.holds Tryd.pinned (.plain (OpenSpec.upto hexwriteSameSpec)) hexwriteSameUptoCard

/-- THE SECOND FORM's CARD OF 'breadboardlaw04.HexwriteJoins'. -/
def hexwriteJoinsUptoCard : Claim7 := { stood := { row := hexwriteJoinsUptoRow, standIns := [], harness := (true, "c0cfe6fee73a2575eb70166b8ee193ad1c57a568adcb011edf8170d436dfd9e0"), looks := false }, kinds := [], alts := [], laidByText := true, laidKinds := [.data], laidTests := true, laidLooks := .later }
def HexwriteJoinsUptoCardSaid : Prop := Claim7.holds Tryd.pinned (.plain (OpenSpec.upto hexwriteJoinsSpec)) hexwriteJoinsUptoCard

/-- THE SECOND FORM's CARD OF 'breadboardlaw04.HexwriteWrites'. -/
def hexwriteWritesUptoCard : Claim7 := { stood := { row := hexwriteWritesUptoRow, standIns := [], harness := (true, "c0cfe6fee73a2575eb70166b8ee193ad1c57a568adcb011edf8170d436dfd9e0"), looks := false }, kinds := [], alts := [], laidByText := true, laidKinds := [.data], laidTests := true, laidLooks := .later }
def HexwriteWritesUptoCardSaid : Prop := Claim7.holds Tryd.pinned (.plain (OpenSpec.upto hexwriteWritesSpec)) hexwriteWritesUptoCard

/-- THE SECOND FORM's CARD OF 'breadboardlaw04.HexwriteRecords'. -/
def hexwriteRecordsUptoCard : Claim7 := { stood := { row := hexwriteRecordsUptoRow, standIns := [], harness := (true, "c0cfe6fee73a2575eb70166b8ee193ad1c57a568adcb011edf8170d436dfd9e0"), looks := false }, kinds := [], alts := [], laidByText := true, laidKinds := [.data, .data, .pinned], laidTests := true, laidLooks := .later }
def HexwriteRecordsUptoCardSaid : Prop := Claim7.holds Tryd.pinned (.plain (OpenSpec.upto hexwriteRecordsSpec)) hexwriteRecordsUptoCard

/-- THE SECOND FORM's CARD OF 'breadboardlaw05.HexreadMerges'. -/
def hexreadMergesUptoCard : Claim7 := { stood := { row := hexreadMergesUptoRow, standIns := [], harness := (true, "c0cfe6fee73a2575eb70166b8ee193ad1c57a568adcb011edf8170d436dfd9e0"), looks := false }, kinds := [], alts := [], laidByText := true, laidKinds := [.data, .data, .pinned], laidTests := true, laidLooks := .later }
def HexreadMergesUptoCardSaid : Prop := Claim7.holds Tryd.pinned (.plain (OpenSpec.upto hexreadMergesSpec)) hexreadMergesUptoCard

/-- THE SECOND FORM's CARD OF 'breadboardlaw05.HexreadEnds'. -/
def hexreadEndsUptoCard : Claim7 := { stood := { row := hexreadEndsUptoRow, standIns := [], harness := (true, "c0cfe6fee73a2575eb70166b8ee193ad1c57a568adcb011edf8170d436dfd9e0"), looks := false }, kinds := [], alts := [], laidByText := true, laidKinds := [.data, .data, .pinned], laidTests := true, laidLooks := .later }
def HexreadEndsUptoCardSaid : Prop := Claim7.holds Tryd.pinned (.plain (OpenSpec.upto hexreadEndsSpec)) hexreadEndsUptoCard

/-- THE SECOND FORM's CARD OF 'breadboardlaw05.HexreadInverse'. -/
def hexreadInverseUptoCard : Claim7 := { stood := { row := hexreadInverseUptoRow, standIns := [], harness := (true, "c0cfe6fee73a2575eb70166b8ee193ad1c57a568adcb011edf8170d436dfd9e0"), looks := false }, kinds := [], alts := [], laidByText := true, laidKinds := [.data, .data, .pinned], laidTests := true, laidLooks := .later }
def HexreadInverseUptoCardSaid : Prop := Claim7.holds Tryd.pinned (.plain (OpenSpec.upto hexreadInverseSpec)) hexreadInverseUptoCard

/-- THE SECOND FORM's CARD OF 'breadboardlaw05.HexreadDiffs'. -/
def hexreadDiffsUptoCard : Claim7 := { stood := { row := hexreadDiffsUptoRow, standIns := [], harness := (true, "c0cfe6fee73a2575eb70166b8ee193ad1c57a568adcb011edf8170d436dfd9e0"), looks := false }, kinds := [], alts := [], laidByText := true, laidKinds := [.data, .data, .pinned], laidTests := true, laidLooks := .later }
def HexreadDiffsUptoCardSaid : Prop := Claim7.holds Tryd.pinned (.plain (OpenSpec.upto hexreadDiffsSpec)) hexreadDiffsUptoCard
end Rows
end Go.Proofs.YtcfjcoockklkeaaDoor
