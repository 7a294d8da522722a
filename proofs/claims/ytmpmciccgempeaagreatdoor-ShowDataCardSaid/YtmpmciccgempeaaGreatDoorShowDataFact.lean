/-
  THE STATEMENT ShowData: closed facts on its row. Conditions: none.
-/
import Derived.Test.YtmpmciccgempeaaGreatDoorCards
import Derived.Test.YtmpmciccgempeaaGreatDoorTie
import Derived.JoinedCond
namespace Go.Proofs.YtmpmciccgempeaaGreatDoor.showData
open Go

theorem fact1 : (Rows.showDataRow.inPlace == Tryz.prog.inPlace 10) = true := by kernel_rfl
theorem fact2 : (Rows.showDataRow.unfollowed == Tryz.prog.unfollowed 10) = true := by kernel_rfl
theorem fact3 : (Rows.showDataRow.recurses == Tryz.prog.recurses 10) = true := by kernel_rfl
theorem fact4 : (Rows.showDataRow.named == Tryz.prog.varsNamed 10) = true := by kernel_rfl
theorem facts : joinedFacts Tryz.prog 10 Tryz.f10 (OpenSpec.ofChange Rows.showDataSpec).bare Rows.showDataRow = true := by
  unfold joinedFacts
  rw [fact1, fact2, fact3, fact4]
  kernel_rfl
end Go.Proofs.YtmpmciccgempeaaGreatDoor.showData
