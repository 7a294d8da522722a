/-
  THE STATEMENT DecodeNeeds: closed facts on its row. Conditions: none.
-/
import Derived.Test.YtnbmbcjnncbaiaaGreatDoorCards
import Derived.Test.YtnbmbcjnncbaiaaGreatDoorTie
import Derived.JoinedCond
namespace Go.Proofs.YtnbmbcjnncbaiaaGreatDoor.decodeNeeds
open Go

theorem fact1 : (Rows.decodeNeedsRow.inPlace == Tryz.prog.inPlace 3) = true := by kernel_rfl
theorem fact2 : (Rows.decodeNeedsRow.unfollowed == Tryz.prog.unfollowed 3) = true := by kernel_rfl
theorem fact3 : (Rows.decodeNeedsRow.recurses == Tryz.prog.recurses 3) = true := by kernel_rfl
theorem fact4 : (Rows.decodeNeedsRow.named == Tryz.prog.varsNamed 3) = true := by kernel_rfl
theorem facts : joinedFacts Tryz.prog 3 Tryz.f3 (OpenSpec.ofChange Rows.decodeNeedsSpec).bare Rows.decodeNeedsRow = true := by
  unfold joinedFacts
  rw [fact1, fact2, fact3, fact4]
  kernel_rfl
end Go.Proofs.YtnbmbcjnncbaiaaGreatDoor.decodeNeeds
