/-
  THE STATEMENT DecodeFirst: closed facts on its row. Conditions: none.
-/
import Derived.Test.YtnbmbcjnncbaiaaGreatDoorCards
import Derived.Test.YtnbmbcjnncbaiaaGreatDoorTie
import Derived.JoinedCond
namespace Go.Proofs.YtnbmbcjnncbaiaaGreatDoor.decodeFirst
open Go

theorem fact1 : (Rows.decodeFirstRow.inPlace == Tryz.prog.inPlace 4) = true := by kernel_rfl
theorem fact2 : (Rows.decodeFirstRow.unfollowed == Tryz.prog.unfollowed 4) = true := by kernel_rfl
theorem fact3 : (Rows.decodeFirstRow.recurses == Tryz.prog.recurses 4) = true := by kernel_rfl
theorem fact4 : (Rows.decodeFirstRow.named == Tryz.prog.varsNamed 4) = true := by kernel_rfl
theorem facts : joinedFacts Tryz.prog 4 Tryz.f4 (OpenSpec.ofChange Rows.decodeFirstSpec).bare Rows.decodeFirstRow = true := by
  unfold joinedFacts
  rw [fact1, fact2, fact3, fact4]
  kernel_rfl
end Go.Proofs.YtnbmbcjnncbaiaaGreatDoor.decodeFirst
