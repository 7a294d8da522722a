/-
  THE STATEMENT EncodeLists: closed facts on its row. Conditions: none.
-/
import Derived.Test.YtjmekllgnhkodaaGreatDoorCards
import Derived.Test.YtjmekllgnhkodaaGreatDoorTie
import Derived.JoinedCond
namespace Go.Proofs.YtjmekllgnhkodaaGreatDoor.encodeLists
open Go

theorem fact1 : (Rows.encodeListsRow.inPlace == Tryz.prog.inPlace 11) = true := by kernel_rfl
theorem fact2 : (Rows.encodeListsRow.unfollowed == Tryz.prog.unfollowed 11) = true := by kernel_rfl
theorem fact3 : (Rows.encodeListsRow.recurses == Tryz.prog.recurses 11) = true := by kernel_rfl
theorem fact4 : (Rows.encodeListsRow.named == Tryz.prog.varsNamed 11) = true := by kernel_rfl
theorem facts : joinedFacts Tryz.prog 11 Tryz.f11 (OpenSpec.ofChange Rows.encodeListsSpec).bare Rows.encodeListsRow = true := by
  unfold joinedFacts
  rw [fact1, fact2, fact3, fact4]
  kernel_rfl
end Go.Proofs.YtjmekllgnhkodaaGreatDoor.encodeLists
