/-
  THE STATEMENT ItemsDecode: closed facts on its row. Conditions: none.
-/
import Derived.Test.YtnbmbcjnncbaiaaGreatDoorCards
import Derived.Test.YtnbmbcjnncbaiaaGreatDoorTie
import Derived.JoinedCond
namespace Go.Proofs.YtnbmbcjnncbaiaaGreatDoor.itemsDecode
open Go

theorem fact1 : (Rows.itemsDecodeRow.inPlace == Tryz.prog.inPlace 9) = true := by kernel_rfl
theorem fact2 : (Rows.itemsDecodeRow.unfollowed == Tryz.prog.unfollowed 9) = true := by kernel_rfl
theorem fact3 : (Rows.itemsDecodeRow.recurses == Tryz.prog.recurses 9) = true := by kernel_rfl
theorem fact4 : (Rows.itemsDecodeRow.named == Tryz.prog.varsNamed 9) = true := by kernel_rfl
theorem facts : joinedFacts Tryz.prog 9 Tryz.f9 (OpenSpec.ofChange Rows.itemsDecodeSpec).bare Rows.itemsDecodeRow = true := by
  unfold joinedFacts
  rw [fact1, fact2, fact3, fact4]
  kernel_rfl
end Go.Proofs.YtnbmbcjnncbaiaaGreatDoor.itemsDecode
