/-
  THE STATEMENT ItemsChecks: closed facts on its row. Conditions: none.
-/
import Derived.Test.YtnbmbcjnncbaiaaGreatDoorCards
import Derived.Test.YtnbmbcjnncbaiaaGreatDoorTie
import Derived.JoinedCond
namespace Go.Proofs.YtnbmbcjnncbaiaaGreatDoor.itemsChecks
open Go

theorem fact1 : (Rows.itemsChecksRow.inPlace == Tryz.prog.inPlace 10) = true := by kernel_rfl
theorem fact2 : (Rows.itemsChecksRow.unfollowed == Tryz.prog.unfollowed 10) = true := by kernel_rfl
theorem fact3 : (Rows.itemsChecksRow.recurses == Tryz.prog.recurses 10) = true := by kernel_rfl
theorem fact4 : (Rows.itemsChecksRow.named == Tryz.prog.varsNamed 10) = true := by kernel_rfl
theorem facts : joinedFacts Tryz.prog 10 Tryz.f10 (OpenSpec.ofChange Rows.itemsChecksSpec).bare Rows.itemsChecksRow = true := by
  unfold joinedFacts
  rw [fact1, fact2, fact3, fact4]
  kernel_rfl
end Go.Proofs.YtnbmbcjnncbaiaaGreatDoor.itemsChecks
