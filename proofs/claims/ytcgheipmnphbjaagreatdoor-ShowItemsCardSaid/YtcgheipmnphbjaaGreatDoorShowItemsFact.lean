/-
  THE STATEMENT ShowItems: closed facts on its row. Conditions: none.
-/
import Derived.Test.YtcgheipmnphbjaaGreatDoorCards
import Derived.Test.YtcgheipmnphbjaaGreatDoorTie
import Derived.JoinedCond
namespace Go.Proofs.YtcgheipmnphbjaaGreatDoor.showItems
open Go

theorem fact1 : (Rows.showItemsRow.inPlace == Tryz.prog.inPlace 4) = true := by kernel_rfl
theorem fact2 : (Rows.showItemsRow.unfollowed == Tryz.prog.unfollowed 4) = true := by kernel_rfl
theorem fact3 : (Rows.showItemsRow.recurses == Tryz.prog.recurses 4) = true := by kernel_rfl
theorem fact4 : (Rows.showItemsRow.named == Tryz.prog.varsNamed 4) = true := by kernel_rfl
theorem facts : joinedFacts Tryz.prog 4 Tryz.f4 (OpenSpec.ofChange Rows.showItemsSpec).bare Rows.showItemsRow = true := by
  unfold joinedFacts
  rw [fact1, fact2, fact3, fact4]
  kernel_rfl
end Go.Proofs.YtcgheipmnphbjaaGreatDoor.showItems
