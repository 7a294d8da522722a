/-
  DERIVED. GIVEN WITH THE SEED: THE CARDS: each row of YtcfjcoockklkeaaGreatDoorRows.lean that lists a variable, with what it lists TIED to the program's text (the seventh form; the later family's looks); each row that meets fmt, with fmt's text TOLD by the authors' own Lean function (tested against real Go, not proved from fmt's source: count such statements apart). THE CARD IS WHAT COUNTS. Prove the row's statement (the work); the ties are given (YtcfjcoockklkeaaGreatDoorTie.lean); close each card by the builder's one call (the guide's Derived/Test/ToyasCard.lean, 'card_holds'). Laid BY PROGRAM, IN A SANDBOX (cutbox-door.mjs). By AI agents, Wed Nov 11 2026. No macro, syntax, notation, axiom, sorry.
-/
import Derived.Test.YtcfjcoockklkeaaGreatDoorRows
import GoSem.ClaimSeven
namespace Go.Proofs.YtcfjcoockklkeaaGreatDoor
namespace Rows

/-- THE TIED CARD OF 'breadboardlaw05.HexreadReads'. -/
def hexreadReadsCard : Claim7 := { stood := { row := hexreadReadsRow, standIns := [], harness := (true, "8cbd1f5440e54ae6e7f00ea50ea795d21c3ef6c8378d85ccd4b03560c1b9fe22"), looks := false }, kinds := [], alts := [], laidByText := true, laidKinds := [.data, .data, .pinned], laidTests := true, laidLooks := .later }
def HexreadReadsCardSaid : Prop := Claim7.holds Tryz.pinned (.plain (OpenSpec.ofChange hexreadReadsSpec)) hexreadReadsCard

/-- THE TIED CARD OF 'breadboardlaw05.HexreadOrder'. -/
def hexreadOrderCard : Claim7 := { stood := { row := hexreadOrderRow, standIns := [], harness := (true, "8cbd1f5440e54ae6e7f00ea50ea795d21c3ef6c8378d85ccd4b03560c1b9fe22"), looks := false }, kinds := [], alts := [], laidByText := true, laidKinds := [.data, .data, .pinned, .pinned], laidTests := true, laidLooks := .later }
def HexreadOrderCardSaid : Prop := Claim7.holds Tryz.pinned (.plain (OpenSpec.ofChange hexreadOrderSpec)) hexreadOrderCard

/-- THE SECOND FORM's CARD OF 'breadboardlaw05.HexreadReads'. -/
def hexreadReadsUptoCard : Claim7 := { stood := { row := hexreadReadsUptoRow, standIns := [], harness := (true, "8cbd1f5440e54ae6e7f00ea50ea795d21c3ef6c8378d85ccd4b03560c1b9fe22"), looks := false }, kinds := [], alts := [], laidByText := true, laidKinds := [.data, .data, .pinned], laidTests := true, laidLooks := .later }
def HexreadReadsUptoCardSaid : Prop := Claim7.holds Tryz.pinned (.plain (OpenSpec.upto hexreadReadsSpec)) hexreadReadsUptoCard

/-- THE SECOND FORM's CARD OF 'breadboardlaw05.HexreadOrder'. -/
def hexreadOrderUptoCard : Claim7 := { stood := { row := hexreadOrderUptoRow, standIns := [], harness := (true, "8cbd1f5440e54ae6e7f00ea50ea795d21c3ef6c8378d85ccd4b03560c1b9fe22"), looks := false }, kinds := [], alts := [], laidByText := true, laidKinds := [.data, .data, .pinned, .pinned], laidTests := true, laidLooks := .later }
def HexreadOrderUptoCardSaid : Prop := Claim7.holds Tryz.pinned (.plain (OpenSpec.upto hexreadOrderSpec)) hexreadOrderUptoCard
end Rows
end Go.Proofs.YtcfjcoockklkeaaGreatDoor
