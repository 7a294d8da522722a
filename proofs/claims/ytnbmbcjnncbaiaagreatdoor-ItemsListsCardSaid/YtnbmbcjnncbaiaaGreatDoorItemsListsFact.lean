/-
  THE STATEMENT ItemsLists: closed facts on its row. Conditions: none.
-/
import Derived.Test.YtnbmbcjnncbaiaaGreatDoorCards
import Derived.Test.YtnbmbcjnncbaiaaGreatDoorTie
import Derived.JoinedCond
namespace Go.Proofs.YtnbmbcjnncbaiaaGreatDoor.itemsLists
open Go

theorem fact1 : (Rows.itemsListsRow.inPlace == Tryz.prog.inPlace 11) = true := by kernel_rfl
theorem fact2 : (Rows.itemsListsRow.unfollowed == Tryz.prog.unfollowed 11) = true := by kernel_rfl
theorem fact3 : (Rows.itemsListsRow.recurses == Tryz.prog.recurses 11) = true := by kernel_rfl
theorem fact4 : (Rows.itemsListsRow.named == Tryz.prog.varsNamed 11) = true := by kernel_rfl
theorem facts : joinedFacts Tryz.prog 11 Tryz.f11 (OpenSpec.ofChange Rows.itemsListsSpec).bare Rows.itemsListsRow = true := by
  unfold joinedFacts
  rw [fact1, fact2, fact3, fact4]
  kernel_rfl
end Go.Proofs.YtnbmbcjnncbaiaaGreatDoor.itemsLists
