/-
  THE STATEMENT DecodeInverse: closed facts on its row. Conditions: none.
-/
import Derived.Test.YtmpmciccgempeaaGreatDoorCards
import Derived.Test.YtmpmciccgempeaaGreatDoorTie
import Derived.JoinedCond
namespace Go.Proofs.YtmpmciccgempeaaGreatDoor.decodeInverse
open Go

theorem fact1 : (Rows.decodeInverseRow.inPlace == Tryz.prog.inPlace 5) = true := by kernel_rfl
theorem fact2 : (Rows.decodeInverseRow.unfollowed == Tryz.prog.unfollowed 5) = true := by kernel_rfl
theorem fact3 : (Rows.decodeInverseRow.recurses == Tryz.prog.recurses 5) = true := by kernel_rfl
theorem fact4 : (Rows.decodeInverseRow.named == Tryz.prog.varsNamed 5) = true := by kernel_rfl
theorem facts : joinedFacts Tryz.prog 5 Tryz.f5 (OpenSpec.ofChange Rows.decodeInverseSpec).bare Rows.decodeInverseRow = true := by
  unfold joinedFacts
  rw [fact1, fact2, fact3, fact4]
  kernel_rfl
end Go.Proofs.YtmpmciccgempeaaGreatDoor.decodeInverse
