/-
  THE STATEMENT FlowKinds: closed facts on its row. Conditions: none.
-/
import Derived.Test.YtmpmciccgempeaaGreatDoorCards
import Derived.Test.YtmpmciccgempeaaGreatDoorTie
import Derived.JoinedCond
namespace Go.Proofs.YtmpmciccgempeaaGreatDoor.flowKinds
open Go

theorem fact1 : (Rows.flowKindsRow.inPlace == Tryz.prog.inPlace 3) = true := by kernel_rfl
theorem fact2 : (Rows.flowKindsRow.unfollowed == Tryz.prog.unfollowed 3) = true := by kernel_rfl
theorem fact3 : (Rows.flowKindsRow.recurses == Tryz.prog.recurses 3) = true := by kernel_rfl
theorem fact4 : (Rows.flowKindsRow.named == Tryz.prog.varsNamed 3) = true := by kernel_rfl
theorem facts : joinedFacts Tryz.prog 3 Tryz.f3 (OpenSpec.ofChange Rows.flowKindsSpec).bare Rows.flowKindsRow = true := by
  unfold joinedFacts
  rw [fact1, fact2, fact3, fact4]
  kernel_rfl
end Go.Proofs.YtmpmciccgempeaaGreatDoor.flowKinds
