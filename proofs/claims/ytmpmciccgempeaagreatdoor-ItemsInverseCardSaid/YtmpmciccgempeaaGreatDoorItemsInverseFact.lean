/-
  THE STATEMENT ItemsInverse: closed facts on its row. Conditions: none.
-/
import Derived.Test.YtmpmciccgempeaaGreatDoorCards
import Derived.Test.YtmpmciccgempeaaGreatDoorTie
import Derived.JoinedCond
namespace Go.Proofs.YtmpmciccgempeaaGreatDoor.itemsInverse
open Go

theorem fact1 : (Rows.itemsInverseRow.inPlace == Tryz.prog.inPlace 7) = true := by kernel_rfl
theorem fact2 : (Rows.itemsInverseRow.unfollowed == Tryz.prog.unfollowed 7) = true := by kernel_rfl
theorem fact3 : (Rows.itemsInverseRow.recurses == Tryz.prog.recurses 7) = true := by kernel_rfl
theorem fact4 : (Rows.itemsInverseRow.named == Tryz.prog.varsNamed 7) = true := by kernel_rfl
theorem facts : joinedFacts Tryz.prog 7 Tryz.f7 (OpenSpec.ofChange Rows.itemsInverseSpec).bare Rows.itemsInverseRow = true := by
  unfold joinedFacts
  rw [fact1, fact2, fact3, fact4]
  kernel_rfl
end Go.Proofs.YtmpmciccgempeaaGreatDoor.itemsInverse
