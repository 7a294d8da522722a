/-
  THE STATEMENT ShowApart: closed facts on its row. Conditions: none.
-/
import Derived.Test.YtcgheipmnphbjaaGreatDoorCards
import Derived.Test.YtcgheipmnphbjaaGreatDoorTie
import Derived.JoinedCond
namespace Go.Proofs.YtcgheipmnphbjaaGreatDoor.showApart
open Go

theorem fact1 : (Rows.showApartRow.inPlace == Tryz.prog.inPlace 3) = true := by kernel_rfl
theorem fact2 : (Rows.showApartRow.unfollowed == Tryz.prog.unfollowed 3) = true := by kernel_rfl
theorem fact3 : (Rows.showApartRow.recurses == Tryz.prog.recurses 3) = true := by kernel_rfl
theorem fact4 : (Rows.showApartRow.named == Tryz.prog.varsNamed 3) = true := by kernel_rfl
theorem facts : joinedFacts Tryz.prog 3 Tryz.f3 (OpenSpec.ofChange Rows.showApartSpec).bare Rows.showApartRow = true := by
  unfold joinedFacts
  rw [fact1, fact2, fact3, fact4]
  kernel_rfl
end Go.Proofs.YtcgheipmnphbjaaGreatDoor.showApart
