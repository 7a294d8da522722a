/-
  THE STATEMENT ItemsJoins: closed facts on its row. Conditions: none.
-/
import Derived.Test.YtnbmbcjnncbaiaaGreatDoorCards
import Derived.Test.YtnbmbcjnncbaiaaGreatDoorTie
import Derived.JoinedCond
namespace Go.Proofs.YtnbmbcjnncbaiaaGreatDoor.itemsJoins
open Go

theorem fact1 : (Rows.itemsJoinsRow.inPlace == Tryz.prog.inPlace 8) = true := by kernel_rfl
theorem fact2 : (Rows.itemsJoinsRow.unfollowed == Tryz.prog.unfollowed 8) = true := by kernel_rfl
theorem fact3 : (Rows.itemsJoinsRow.recurses == Tryz.prog.recurses 8) = true := by kernel_rfl
theorem fact4 : (Rows.itemsJoinsRow.named == Tryz.prog.varsNamed 8) = true := by kernel_rfl
theorem facts : joinedFacts Tryz.prog 8 Tryz.f8 (OpenSpec.ofChange Rows.itemsJoinsSpec).bare Rows.itemsJoinsRow = true := by
  unfold joinedFacts
  rw [fact1, fact2, fact3, fact4]
  kernel_rfl
end Go.Proofs.YtnbmbcjnncbaiaaGreatDoor.itemsJoins
