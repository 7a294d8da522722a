/-
  THE STATEMENT ShowTables: closed facts on its row. Conditions: none.
-/
import Derived.Test.YtcgheipmnphbjaaGreatDoorCards
import Derived.Test.YtcgheipmnphbjaaGreatDoorTie
import Derived.JoinedCond
namespace Go.Proofs.YtcgheipmnphbjaaGreatDoor.showTables
open Go

theorem fact1 : (Rows.showTablesRow.inPlace == Tryz.prog.inPlace 5) = true := by kernel_rfl
theorem fact2 : (Rows.showTablesRow.unfollowed == Tryz.prog.unfollowed 5) = true := by kernel_rfl
theorem fact3 : (Rows.showTablesRow.recurses == Tryz.prog.recurses 5) = true := by kernel_rfl
theorem fact4 : (Rows.showTablesRow.named == Tryz.prog.varsNamed 5) = true := by kernel_rfl
theorem facts : joinedFacts Tryz.prog 5 Tryz.f5 (OpenSpec.ofChange Rows.showTablesSpec).bare Rows.showTablesRow = true := by
  unfold joinedFacts
  rw [fact1, fact2, fact3, fact4]
  kernel_rfl
end Go.Proofs.YtcgheipmnphbjaaGreatDoor.showTables
