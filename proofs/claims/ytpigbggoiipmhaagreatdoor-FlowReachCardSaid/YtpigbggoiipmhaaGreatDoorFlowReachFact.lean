/-
  THE STATEMENT FlowReach: closed facts on its row. Conditions: none.
-/
import Derived.Test.YtpigbggoiipmhaaGreatDoorCards
import Derived.Test.YtpigbggoiipmhaaGreatDoorTie
import Derived.JoinedCond
namespace Go.Proofs.YtpigbggoiipmhaaGreatDoor.flowReach
open Go

theorem fact1 : (Rows.flowReachRow.inPlace == Tryz.prog.inPlace 5) = true := by kernel_rfl
theorem fact2 : (Rows.flowReachRow.unfollowed == Tryz.prog.unfollowed 5) = true := by kernel_rfl
theorem fact3 : (Rows.flowReachRow.recurses == Tryz.prog.recurses 5) = true := by kernel_rfl
theorem fact4 : (Rows.flowReachRow.named == Tryz.prog.varsNamed 5) = true := by kernel_rfl
theorem facts : joinedFacts Tryz.prog 5 Tryz.f5 (OpenSpec.ofChange Rows.flowReachSpec).bare Rows.flowReachRow = true := by
  unfold joinedFacts
  rw [fact1, fact2, fact3, fact4]
  kernel_rfl
end Go.Proofs.YtpigbggoiipmhaaGreatDoor.flowReach
