/-
  THE STATEMENT DecodeAt: closed facts on its row. Conditions: none.
-/
import Derived.Test.YtjmekllgnhkodaaGreatDoorCards
import Derived.Test.YtjmekllgnhkodaaGreatDoorTie
import Derived.JoinedCond
namespace Go.Proofs.YtjmekllgnhkodaaGreatDoor.decodeAt
open Go

theorem fact1 : (Rows.decodeAtRow.inPlace == Tryz.prog.inPlace 5) = true := by kernel_rfl
theorem fact2 : (Rows.decodeAtRow.unfollowed == Tryz.prog.unfollowed 5) = true := by kernel_rfl
theorem fact3 : (Rows.decodeAtRow.recurses == Tryz.prog.recurses 5) = true := by kernel_rfl
theorem fact4 : (Rows.decodeAtRow.named == Tryz.prog.varsNamed 5) = true := by kernel_rfl
theorem facts : joinedFacts Tryz.prog 5 Tryz.f5 (OpenSpec.ofChange Rows.decodeAtSpec).bare Rows.decodeAtRow = true := by
  unfold joinedFacts
  rw [fact1, fact2, fact3, fact4]
  kernel_rfl
end Go.Proofs.YtjmekllgnhkodaaGreatDoor.decodeAt
