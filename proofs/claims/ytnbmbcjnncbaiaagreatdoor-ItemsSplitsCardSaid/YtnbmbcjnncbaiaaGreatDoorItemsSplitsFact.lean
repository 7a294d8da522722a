/-
  THE STATEMENT ItemsSplits: closed facts on its row. Conditions: none.
-/
import Derived.Test.YtnbmbcjnncbaiaaGreatDoorCards
import Derived.Test.YtnbmbcjnncbaiaaGreatDoorTie
import Derived.JoinedCond
namespace Go.Proofs.YtnbmbcjnncbaiaaGreatDoor.itemsSplits
open Go

theorem fact1 : (Rows.itemsSplitsRow.inPlace == Tryz.prog.inPlace 6) = true := by kernel_rfl
theorem fact2 : (Rows.itemsSplitsRow.unfollowed == Tryz.prog.unfollowed 6) = true := by kernel_rfl
theorem fact3 : (Rows.itemsSplitsRow.recurses == Tryz.prog.recurses 6) = true := by kernel_rfl
theorem fact4 : (Rows.itemsSplitsRow.named == Tryz.prog.varsNamed 6) = true := by kernel_rfl
theorem facts : joinedFacts Tryz.prog 6 Tryz.f6 (OpenSpec.ofChange Rows.itemsSplitsSpec).bare Rows.itemsSplitsRow = true := by
  unfold joinedFacts
  rw [fact1, fact2, fact3, fact4]
  kernel_rfl
end Go.Proofs.YtnbmbcjnncbaiaaGreatDoor.itemsSplits
