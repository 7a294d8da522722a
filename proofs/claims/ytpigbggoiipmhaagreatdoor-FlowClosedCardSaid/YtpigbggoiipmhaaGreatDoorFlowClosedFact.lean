/-
  THE STATEMENT FlowClosed: closed facts on its row. Conditions: none.
-/
import Derived.Test.YtpigbggoiipmhaaGreatDoorCards
import Derived.Test.YtpigbggoiipmhaaGreatDoorTie
import Derived.JoinedCond
namespace Go.Proofs.YtpigbggoiipmhaaGreatDoor.flowClosed
open Go

theorem fact1 : (Rows.flowClosedRow.inPlace == Tryz.prog.inPlace 4) = true := by kernel_rfl
theorem fact2 : (Rows.flowClosedRow.unfollowed == Tryz.prog.unfollowed 4) = true := by kernel_rfl
theorem fact3 : (Rows.flowClosedRow.recurses == Tryz.prog.recurses 4) = true := by kernel_rfl
theorem fact4 : (Rows.flowClosedRow.named == Tryz.prog.varsNamed 4) = true := by kernel_rfl
theorem facts : joinedFacts Tryz.prog 4 Tryz.f4 (OpenSpec.ofChange Rows.flowClosedSpec).bare Rows.flowClosedRow = true := by
  unfold joinedFacts
  rw [fact1, fact2, fact3, fact4]
  kernel_rfl
end Go.Proofs.YtpigbggoiipmhaaGreatDoor.flowClosed
