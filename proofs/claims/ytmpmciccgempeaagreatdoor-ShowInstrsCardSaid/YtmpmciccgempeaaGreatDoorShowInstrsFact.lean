/-
  THE STATEMENT ShowInstrs: closed facts on its row. Conditions: none.
-/
import Derived.Test.YtmpmciccgempeaaGreatDoorCards
import Derived.Test.YtmpmciccgempeaaGreatDoorTie
import Derived.JoinedCond
namespace Go.Proofs.YtmpmciccgempeaaGreatDoor.showInstrs
open Go

theorem fact1 : (Rows.showInstrsRow.inPlace == Tryz.prog.inPlace 8) = true := by kernel_rfl
theorem fact2 : (Rows.showInstrsRow.unfollowed == Tryz.prog.unfollowed 8) = true := by kernel_rfl
theorem fact3 : (Rows.showInstrsRow.recurses == Tryz.prog.recurses 8) = true := by kernel_rfl
theorem fact4 : (Rows.showInstrsRow.named == Tryz.prog.varsNamed 8) = true := by kernel_rfl
theorem facts : joinedFacts Tryz.prog 8 Tryz.f8 (OpenSpec.ofChange Rows.showInstrsSpec).bare Rows.showInstrsRow = true := by
  unfold joinedFacts
  rw [fact1, fact2, fact3, fact4]
  kernel_rfl
end Go.Proofs.YtmpmciccgempeaaGreatDoor.showInstrs
