/-
  DERIVED. GIVEN WITH THE SEED: THE CARDS: each row of YtlepicdjnbbndaaGreatDoorRows.lean that lists a variable, with what it lists TIED to the program's text (the seventh form; the later family's looks); each row that meets fmt, with fmt's text TOLD by the authors' own Lean function (tested against real Go, not proved from fmt's source: count such statements apart). THE CARD IS WHAT COUNTS. Prove the row's statement (the work); the ties are given (YtlepicdjnbbndaaGreatDoorTie.lean); close each card by the builder's one call (the guide's Derived/Test/ToyasCard.lean, 'card_holds'). Laid BY PROGRAM, IN A SANDBOX (cutbox-door.mjs). By AI agents, Wed Nov 11 2026. No macro, syntax, notation, axiom, sorry.
-/
import Derived.Test.YtlepicdjnbbndaaGreatDoorRows
import GoSem.ClaimSeven
namespace Go.Proofs.YtlepicdjnbbndaaGreatDoor
namespace Rows

/-- THE TIED CARD OF 'breadboardlaw09.TableOnce'. -/
def tableOnceCard : Claim7 := { stood := { row := tableOnceRow, standIns := [], harness := (true, "75f360fa1588dc76d295fdf8574a6c81ff3446706941cc7f0206db2b18c6b6ae"), looks := false }, kinds := [], alts := [], laidByText := true, laidKinds := [.data, .data, .data, .data, .listed, .data, .pinned], laidTests := true, laidLooks := .later }
def TableOnceCardSaid : Prop := Claim7.holds Tryz.pinned (.plain (OpenSpec.ofChange tableOnceSpec)) tableOnceCard

/-- THE TIED CARD OF 'breadboardlaw09.TableAliases'. -/
def tableAliasesCard : Claim7 := { stood := { row := tableAliasesRow, standIns := [], harness := (true, "75f360fa1588dc76d295fdf8574a6c81ff3446706941cc7f0206db2b18c6b6ae"), looks := false }, kinds := [], alts := [], laidByText := true, laidKinds := [.data, .data, .data, .data, .listed, .data, .pinned], laidTests := true, laidLooks := .later }
def TableAliasesCardSaid : Prop := Claim7.holds Tryz.pinned (.plain (OpenSpec.ofChange tableAliasesSpec)) tableAliasesCard

/-- THE TIED CARD OF 'breadboardlaw09.TableAt'. -/
def tableAtCard : Claim7 := { stood := { row := tableAtRow, standIns := [], harness := (true, "75f360fa1588dc76d295fdf8574a6c81ff3446706941cc7f0206db2b18c6b6ae"), looks := false }, kinds := [], alts := [], laidByText := true, laidKinds := [.data, .data, .data, .data, .listed, .data, .pinned], laidTests := true, laidLooks := .later }
def TableAtCardSaid : Prop := Claim7.holds Tryz.pinned (.plain (OpenSpec.ofChange tableAtSpec)) tableAtCard

/-- THE TIED CARD OF 'breadboardlaw09.TablePrefixes'. -/
def tablePrefixesCard : Claim7 := { stood := { row := tablePrefixesRow, standIns := [], harness := (true, "75f360fa1588dc76d295fdf8574a6c81ff3446706941cc7f0206db2b18c6b6ae"), looks := false }, kinds := [], alts := [], laidByText := true, laidKinds := [.data, .data, .data, .data, .listed, .data, .pinned], laidTests := true, laidLooks := .later }
def TablePrefixesCardSaid : Prop := Claim7.holds Tryz.pinned (.plain (OpenSpec.ofChange tablePrefixesSpec)) tablePrefixesCard

/-- THE TIED CARD OF 'breadboardlaw09.TablePage'. -/
def tablePageCard : Claim7 := { stood := { row := tablePageRow, standIns := [], harness := (true, "75f360fa1588dc76d295fdf8574a6c81ff3446706941cc7f0206db2b18c6b6ae"), looks := false }, kinds := [], alts := [], laidByText := true, laidKinds := [.data, .data, .data, .data, .listed, .data, .pinned], laidTests := true, laidLooks := .later }
def TablePageCardSaid : Prop := Claim7.holds Tryz.pinned (.plain (OpenSpec.ofChange tablePageSpec)) tablePageCard

/-- THE TIED CARD OF 'breadboardlaw09.TableNamed'. -/
def tableNamedCard : Claim7 := { stood := { row := tableNamedRow, standIns := [], harness := (true, "75f360fa1588dc76d295fdf8574a6c81ff3446706941cc7f0206db2b18c6b6ae"), looks := false }, kinds := [], alts := [], laidByText := true, laidKinds := [.data, .data, .data, .data, .listed, .data, .pinned], laidTests := true, laidLooks := .later }
def TableNamedCardSaid : Prop := Claim7.holds Tryz.pinned (.plain (OpenSpec.ofChange tableNamedSpec)) tableNamedCard

/-- THE TIED CARD OF 'breadboardlaw10.SearchFits'. -/
def searchFitsCard : Claim7 := { stood := { row := searchFitsRow, standIns := [], harness := (true, "75f360fa1588dc76d295fdf8574a6c81ff3446706941cc7f0206db2b18c6b6ae"), looks := false }, kinds := [], alts := [], laidByText := true, laidKinds := [.data, .data, .data, .data, .listed, .data, .pinned], laidTests := true, laidLooks := .later }
def SearchFitsCardSaid : Prop := Claim7.holds Tryz.pinned (.plain (OpenSpec.ofChange searchFitsSpec)) searchFitsCard

/-- THE TIED CARD OF 'breadboardlaw10.SearchLists'. -/
def searchListsCard : Claim7 := { stood := { row := searchListsRow, standIns := [], harness := (true, "75f360fa1588dc76d295fdf8574a6c81ff3446706941cc7f0206db2b18c6b6ae"), looks := false }, kinds := [], alts := [], laidByText := true, laidKinds := [.data, .data, .data, .data, .listed, .data, .pinned], laidTests := true, laidLooks := .later }
def SearchListsCardSaid : Prop := Claim7.holds Tryz.pinned (.plain (OpenSpec.ofChange searchListsSpec)) searchListsCard

/-- THE TIED CARD OF 'breadboardlaw10.SearchFills'. -/
def searchFillsCard : Claim7 := { stood := { row := searchFillsRow, standIns := [], harness := (true, "75f360fa1588dc76d295fdf8574a6c81ff3446706941cc7f0206db2b18c6b6ae"), looks := false }, kinds := [], alts := [], laidByText := true, laidKinds := [.data, .data, .data, .data, .listed, .data, .pinned], laidTests := true, laidLooks := .later }
def SearchFillsCardSaid : Prop := Claim7.holds Tryz.pinned (.plain (OpenSpec.ofChange searchFillsSpec)) searchFillsCard

/-- THE TIED CARD OF 'breadboardlaw10.SearchBack'. -/
def searchBackCard : Claim7 := { stood := { row := searchBackRow, standIns := [], harness := (true, "75f360fa1588dc76d295fdf8574a6c81ff3446706941cc7f0206db2b18c6b6ae"), looks := false }, kinds := [], alts := [], laidByText := true, laidKinds := [.data, .data, .data, .data, .listed, .data, .pinned], laidTests := true, laidLooks := .later }
def SearchBackCardSaid : Prop := Claim7.holds Tryz.pinned (.plain (OpenSpec.ofChange searchBackSpec)) searchBackCard

/-- THE SECOND FORM's CARD OF 'breadboardlaw09.TableOnce'. -/
def tableOnceUptoCard : Claim7 := { stood := { row := tableOnceUptoRow, standIns := [], harness := (true, "75f360fa1588dc76d295fdf8574a6c81ff3446706941cc7f0206db2b18c6b6ae"), looks := false }, kinds := [], alts := [], laidByText := true, laidKinds := [.data, .data, .data, .data, .listed, .data, .pinned], laidTests := true, laidLooks := .later }
def TableOnceUptoCardSaid : Prop := Claim7.holds Tryz.pinned (.plain (OpenSpec.upto tableOnceSpec)) tableOnceUptoCard

/-- THE SECOND FORM's CARD OF 'breadboardlaw09.TableAliases'. -/
def tableAliasesUptoCard : Claim7 := { stood := { row := tableAliasesUptoRow, standIns := [], harness := (true, "75f360fa1588dc76d295fdf8574a6c81ff3446706941cc7f0206db2b18c6b6ae"), looks := false }, kinds := [], alts := [], laidByText := true, laidKinds := [.data, .data, .data, .data, .listed, .data, .pinned], laidTests := true, laidLooks := .later }
def TableAliasesUptoCardSaid : Prop := Claim7.holds Tryz.pinned (.plain (OpenSpec.upto tableAliasesSpec)) tableAliasesUptoCard

/-- THE SECOND FORM's CARD OF 'breadboardlaw09.TableAt'. -/
def tableAtUptoCard : Claim7 := { stood := { row := tableAtUptoRow, standIns := [], harness := (true, "75f360fa1588dc76d295fdf8574a6c81ff3446706941cc7f0206db2b18c6b6ae"), looks := false }, kinds := [], alts := [], laidByText := true, laidKinds := [.data, .data, .data, .data, .listed, .data, .pinned], laidTests := true, laidLooks := .later }
def TableAtUptoCardSaid : Prop := Claim7.holds Tryz.pinned (.plain (OpenSpec.upto tableAtSpec)) tableAtUptoCard

/-- THE SECOND FORM's CARD OF 'breadboardlaw09.TablePrefixes'. -/
def tablePrefixesUptoCard : Claim7 := { stood := { row := tablePrefixesUptoRow, standIns := [], harness := (true, "75f360fa1588dc76d295fdf8574a6c81ff3446706941cc7f0206db2b18c6b6ae"), looks := false }, kinds := [], alts := [], laidByText := true, laidKinds := [.data, .data, .data, .data, .listed, .data, .pinned], laidTests := true, laidLooks := .later }
def TablePrefixesUptoCardSaid : Prop := Claim7.holds Tryz.pinned (.plain (OpenSpec.upto tablePrefixesSpec)) tablePrefixesUptoCard

/-- THE SECOND FORM's CARD OF 'breadboardlaw09.TablePage'. -/
def tablePageUptoCard : Claim7 := { stood := { row := tablePageUptoRow, standIns := [], harness := (true, "75f360fa1588dc76d295fdf8574a6c81ff3446706941cc7f0206db2b18c6b6ae"), looks := false }, kinds := [], alts := [], laidByText := true, laidKinds := [.data, .data, .data, .data, .listed, .data, .pinned], laidTests := true, laidLooks := .later }
def TablePageUptoCardSaid : Prop := Claim7.holds Tryz.pinned (.plain (OpenSpec.upto tablePageSpec)) tablePageUptoCard

/-- THE SECOND FORM's CARD OF 'breadboardlaw09.TableNamed'. -/
def tableNamedUptoCard : Claim7 := { stood := { row := tableNamedUptoRow, standIns := [], harness := (true, "75f360fa1588dc76d295fdf8574a6c81ff3446706941cc7f0206db2b18c6b6ae"), looks := false }, kinds := [], alts := [], laidByText := true, laidKinds := [.data, .data, .data, .data, .listed, .data, .pinned], laidTests := true, laidLooks := .later }
def TableNamedUptoCardSaid : Prop := Claim7.holds Tryz.pinned (.plain (OpenSpec.upto tableNamedSpec)) tableNamedUptoCard

/-- THE SECOND FORM's CARD OF 'breadboardlaw10.SearchFits'. -/
def searchFitsUptoCard : Claim7 := { stood := { row := searchFitsUptoRow, standIns := [], harness := (true, "75f360fa1588dc76d295fdf8574a6c81ff3446706941cc7f0206db2b18c6b6ae"), looks := false }, kinds := [], alts := [], laidByText := true, laidKinds := [.data, .data, .data, .data, .listed, .data, .pinned], laidTests := true, laidLooks := .later }
def SearchFitsUptoCardSaid : Prop := Claim7.holds Tryz.pinned (.plain (OpenSpec.upto searchFitsSpec)) searchFitsUptoCard

/-- THE SECOND FORM's CARD OF 'breadboardlaw10.SearchLists'. -/
def searchListsUptoCard : Claim7 := { stood := { row := searchListsUptoRow, standIns := [], harness := (true, "75f360fa1588dc76d295fdf8574a6c81ff3446706941cc7f0206db2b18c6b6ae"), looks := false }, kinds := [], alts := [], laidByText := true, laidKinds := [.data, .data, .data, .data, .listed, .data, .pinned], laidTests := true, laidLooks := .later }
def SearchListsUptoCardSaid : Prop := Claim7.holds Tryz.pinned (.plain (OpenSpec.upto searchListsSpec)) searchListsUptoCard

/-- THE SECOND FORM's CARD OF 'breadboardlaw10.SearchFills'. -/
def searchFillsUptoCard : Claim7 := { stood := { row := searchFillsUptoRow, standIns := [], harness := (true, "75f360fa1588dc76d295fdf8574a6c81ff3446706941cc7f0206db2b18c6b6ae"), looks := false }, kinds := [], alts := [], laidByText := true, laidKinds := [.data, .data, .data, .data, .listed, .data, .pinned], laidTests := true, laidLooks := .later }
def SearchFillsUptoCardSaid : Prop := Claim7.holds Tryz.pinned (.plain (OpenSpec.upto searchFillsSpec)) searchFillsUptoCard

/-- THE SECOND FORM's CARD OF 'breadboardlaw10.SearchBack'. -/
def searchBackUptoCard : Claim7 := { stood := { row := searchBackUptoRow, standIns := [], harness := (true, "75f360fa1588dc76d295fdf8574a6c81ff3446706941cc7f0206db2b18c6b6ae"), looks := false }, kinds := [], alts := [], laidByText := true, laidKinds := [.data, .data, .data, .data, .listed, .data, .pinned], laidTests := true, laidLooks := .later }
def SearchBackUptoCardSaid : Prop := Claim7.holds Tryz.pinned (.plain (OpenSpec.upto searchBackSpec)) searchBackUptoCard
end Rows
end Go.Proofs.YtlepicdjnbbndaaGreatDoor
