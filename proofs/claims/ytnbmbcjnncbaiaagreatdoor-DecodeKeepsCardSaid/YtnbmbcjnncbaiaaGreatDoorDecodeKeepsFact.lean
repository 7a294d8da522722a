/-
  THE STATEMENT DecodeKeeps: closed facts on its row. Conditions: none.
-/
import Derived.Test.YtnbmbcjnncbaiaaGreatDoorCards
import Derived.Test.YtnbmbcjnncbaiaaGreatDoorTie
import Derived.JoinedCond
namespace Go.Proofs.YtnbmbcjnncbaiaaGreatDoor.decodeKeeps
open Go

theorem fact1 : (Rows.decodeKeepsRow.inPlace == Tryz.prog.inPlace 7) = true := by kernel_rfl
theorem fact2 : (Rows.decodeKeepsRow.unfollowed == Tryz.prog.unfollowed 7) = true := by kernel_rfl
theorem fact3 : (Rows.decodeKeepsRow.recurses == Tryz.prog.recurses 7) = true := by kernel_rfl
theorem fact4 : (Rows.decodeKeepsRow.named == Tryz.prog.varsNamed 7) = true := by kernel_rfl
theorem facts : joinedFacts Tryz.prog 7 Tryz.f7 (OpenSpec.ofChange Rows.decodeKeepsSpec).bare Rows.decodeKeepsRow = true := by
  unfold joinedFacts
  rw [fact1, fact2, fact3, fact4]
  kernel_rfl
end Go.Proofs.YtnbmbcjnncbaiaaGreatDoor.decodeKeeps
