/-
  THE STATEMENT FlowItems: closed facts on its row. Conditions: none.
-/
import Derived.Test.YtmpmciccgempeaaGreatDoorCards
import Derived.Test.YtmpmciccgempeaaGreatDoorTie
import Derived.JoinedCond
namespace Go.Proofs.YtmpmciccgempeaaGreatDoor.flowItems
open Go

theorem fact1 : (Rows.flowItemsRow.inPlace == Tryz.prog.inPlace 6) = true := by kernel_rfl
theorem fact2 : (Rows.flowItemsRow.unfollowed == Tryz.prog.unfollowed 6) = true := by kernel_rfl
theorem fact3 : (Rows.flowItemsRow.recurses == Tryz.prog.recurses 6) = true := by kernel_rfl
theorem fact4 : (Rows.flowItemsRow.named == Tryz.prog.varsNamed 6) = true := by kernel_rfl
theorem facts : joinedFacts Tryz.prog 6 Tryz.f6 (OpenSpec.ofChange Rows.flowItemsSpec).bare Rows.flowItemsRow = true := by
  unfold joinedFacts
  rw [fact1, fact2, fact3, fact4]
  kernel_rfl
end Go.Proofs.YtmpmciccgempeaaGreatDoor.flowItems
