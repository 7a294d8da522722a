/-
  THE STATEMENT EncodeForms: closed facts on its row. Conditions: none.
-/
import Derived.Test.YtjmekllgnhkodaaGreatDoorCards
import Derived.Test.YtjmekllgnhkodaaGreatDoorTie
import Derived.JoinedCond
namespace Go.Proofs.YtjmekllgnhkodaaGreatDoor.encodeForms
open Go

theorem fact1 : (Rows.encodeFormsRow.inPlace == Tryz.prog.inPlace 10) = true := by kernel_rfl
theorem fact2 : (Rows.encodeFormsRow.unfollowed == Tryz.prog.unfollowed 10) = true := by kernel_rfl
theorem fact3 : (Rows.encodeFormsRow.recurses == Tryz.prog.recurses 10) = true := by kernel_rfl
theorem fact4 : (Rows.encodeFormsRow.named == Tryz.prog.varsNamed 10) = true := by kernel_rfl
theorem facts : joinedFacts Tryz.prog 10 Tryz.f10 (OpenSpec.ofChange Rows.encodeFormsSpec).bare Rows.encodeFormsRow = true := by
  unfold joinedFacts
  rw [fact1, fact2, fact3, fact4]
  kernel_rfl
end Go.Proofs.YtjmekllgnhkodaaGreatDoor.encodeForms
