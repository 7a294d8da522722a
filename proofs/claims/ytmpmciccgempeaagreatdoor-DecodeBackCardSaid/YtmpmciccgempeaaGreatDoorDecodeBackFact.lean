/-
  THE STATEMENT DecodeBack: closed facts on its row. Conditions: none.
-/
import Derived.Test.YtmpmciccgempeaaGreatDoorCards
import Derived.Test.YtmpmciccgempeaaGreatDoorTie
import Derived.JoinedCond
namespace Go.Proofs.YtmpmciccgempeaaGreatDoor.decodeBack
open Go

theorem fact1 : (Rows.decodeBackRow.inPlace == Tryz.prog.inPlace 4) = true := by kernel_rfl
theorem fact2 : (Rows.decodeBackRow.unfollowed == Tryz.prog.unfollowed 4) = true := by kernel_rfl
theorem fact3 : (Rows.decodeBackRow.recurses == Tryz.prog.recurses 4) = true := by kernel_rfl
theorem fact4 : (Rows.decodeBackRow.named == Tryz.prog.varsNamed 4) = true := by kernel_rfl
theorem facts : joinedFacts Tryz.prog 4 Tryz.f4 (OpenSpec.ofChange Rows.decodeBackSpec).bare Rows.decodeBackRow = true := by
  unfold joinedFacts
  rw [fact1, fact2, fact3, fact4]
  kernel_rfl
end Go.Proofs.YtmpmciccgempeaaGreatDoor.decodeBack
