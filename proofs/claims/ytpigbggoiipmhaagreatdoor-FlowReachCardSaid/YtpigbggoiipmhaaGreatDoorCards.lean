/-
  DERIVED. GIVEN WITH THE SEED: THE CARDS: each row of YtpigbggoiipmhaaGreatDoorRows.lean that lists a variable, with what it lists TIED to the program's text (the seventh form; the later family's looks); each row that meets fmt, with fmt's text TOLD by the authors' own Lean function (tested against real Go, not proved from fmt's source: count such statements apart). THE CARD IS WHAT COUNTS. Prove the row's statement (the work); the ties are given (YtpigbggoiipmhaaGreatDoorTie.lean); close each card by the builder's one call (the guide's Derived/Test/ToyasCard.lean, 'card_holds'). Laid BY PROGRAM, IN A SANDBOX (cutbox-door.mjs). By AI agents, Wed Nov 11 2026. No macro, syntax, notation, axiom, sorry.
-/
import Derived.Test.YtpigbggoiipmhaaGreatDoorRows
import GoSem.ClaimSeven
namespace Go.Proofs.YtpigbggoiipmhaaGreatDoor
namespace Rows

/-- THE TIED CARD OF 'breadboardlaw15.ShowDecoded'. -/
def showDecodedCard : Claim7 := { stood := { row := showDecodedRow, standIns := [], harness := (true, "7263ae199f7425076e73ff2422002a7db082688b2c7bfe097172127b6ada8d28"), looks := true }, kinds := [], alts := [], laidByText := true, laidKinds := [.data, .data, .data, .data, .listed, .data, .pinned], laidTests := true, laidLooks := .later }
def ShowDecodedCardSaid : Prop := Claim7.holds Tryz.pinned (.plain (OpenSpec.ofChange showDecodedSpec)) showDecodedCard

/-- THE TIED CARD OF 'breadboardlaw14.FlowClosed'. -/
def flowClosedCard : Claim7 := { stood := { row := flowClosedRow, standIns := [], harness := (true, "7263ae199f7425076e73ff2422002a7db082688b2c7bfe097172127b6ada8d28"), looks := true }, kinds := [], alts := [], laidByText := true, laidKinds := [.data, .data, .data, .data, .listed, .data, .pinned], laidTests := true, laidLooks := .later }
def FlowClosedCardSaid : Prop := Claim7.holds Tryz.pinned (.plain (OpenSpec.ofChange flowClosedSpec)) flowClosedCard

/-- THE TIED CARD OF 'breadboardlaw14.FlowReach'. -/
def flowReachCard : Claim7 := { stood := { row := flowReachRow, standIns := [], harness := (true, "7263ae199f7425076e73ff2422002a7db082688b2c7bfe097172127b6ada8d28"), looks := true }, kinds := [], alts := [], laidByText := true, laidKinds := [.data, .data, .data, .data, .listed, .data, .pinned], laidTests := true, laidLooks := .later }
def FlowReachCardSaid : Prop := Claim7.holds Tryz.pinned (.plain (OpenSpec.ofChange flowReachSpec)) flowReachCard

/-- THE SECOND FORM's CARD OF 'breadboardlaw15.ShowDecoded'. -/
def showDecodedUptoCard : Claim7 := { stood := { row := showDecodedUptoRow, standIns := [], harness := (true, "7263ae199f7425076e73ff2422002a7db082688b2c7bfe097172127b6ada8d28"), looks := true }, kinds := [], alts := [], laidByText := true, laidKinds := [.data, .data, .data, .data, .listed, .data, .pinned], laidTests := true, laidLooks := .later }
def ShowDecodedUptoCardSaid : Prop := Claim7.holds Tryz.pinned (.plain (OpenSpec.upto showDecodedSpec)) showDecodedUptoCard

/-- THE SECOND FORM's CARD OF 'breadboardlaw14.FlowClosed'. -/
def flowClosedUptoCard : Claim7 := { stood := { row := flowClosedUptoRow, standIns := [], harness := (true, "7263ae199f7425076e73ff2422002a7db082688b2c7bfe097172127b6ada8d28"), looks := true }, kinds := [], alts := [], laidByText := true, laidKinds := [.data, .data, .data, .data, .listed, .data, .pinned], laidTests := true, laidLooks := .later }
def FlowClosedUptoCardSaid : Prop := Claim7.holds Tryz.pinned (.plain (OpenSpec.upto flowClosedSpec)) flowClosedUptoCard

/-- THE SECOND FORM's CARD OF 'breadboardlaw14.FlowReach'. -/
def flowReachUptoCard : Claim7 := { stood := { row := flowReachUptoRow, standIns := [], harness := (true, "7263ae199f7425076e73ff2422002a7db082688b2c7bfe097172127b6ada8d28"), looks := true }, kinds := [], alts := [], laidByText := true, laidKinds := [.data, .data, .data, .data, .listed, .data, .pinned], laidTests := true, laidLooks := .later }
def FlowReachUptoCardSaid : Prop := Claim7.holds Tryz.pinned (.plain (OpenSpec.upto flowReachSpec)) flowReachUptoCard
end Rows
end Go.Proofs.YtpigbggoiipmhaaGreatDoor
