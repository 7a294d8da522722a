/-
  THE STATEMENT ShowDecoded: closed facts on its row. Conditions: none.
-/
import Derived.Test.YtpigbggoiipmhaaGreatDoorCards
import Derived.Test.YtpigbggoiipmhaaGreatDoorTie
import Derived.JoinedCond
namespace Go.Proofs.YtpigbggoiipmhaaGreatDoor.showDecoded
open Go

theorem fact1 : (Rows.showDecodedRow.inPlace == Tryz.prog.inPlace 3) = true := by kernel_rfl
theorem fact2 : (Rows.showDecodedRow.unfollowed == Tryz.prog.unfollowed 3) = true := by kernel_rfl
theorem fact3 : (Rows.showDecodedRow.recurses == Tryz.prog.recurses 3) = true := by kernel_rfl
theorem fact4 : (Rows.showDecodedRow.named == Tryz.prog.varsNamed 3) = true := by kernel_rfl
theorem facts : joinedFacts Tryz.prog 3 Tryz.f3 (OpenSpec.ofChange Rows.showDecodedSpec).bare Rows.showDecodedRow = true := by
  unfold joinedFacts
  rw [fact1, fact2, fact3, fact4]
  kernel_rfl
end Go.Proofs.YtpigbggoiipmhaaGreatDoor.showDecoded
