/-
  breadboardlaw11.EncodeJumps. The plain law of chapter 11: an encoding tells its entry and its numbers; none begins with another one. Conditions: the library's table as its initialiser lays it.
-/
import Derived.Test.YtmpmciccgempeaaGreatDoorBE3
import Derived.Test.YtmpmciccgempeaaGreatDoorBV1
namespace Go.Proofs.YtmpmciccgempeaaGreatDoor
open Go.RowKit Go.Shelf Go.Sort
theorem PU (lo hi n:Int):bG lo hi n=decide (lo≤n∧n≤hi):=by
 unfold bG;rw [Bool.eq_iff_iff];simp
theorem okN_some {D:Option Nat} {lo hi n:Int} (hD:D.isSome=true) (h:okN D lo hi n=true):lo≤n∧n≤hi:=by
 cases D with
 | none=>cases hD
 | some i=>have h:bG lo hi n=true:=h;rw [PU] at h;exact of_decide_eq_true h
end Go.Proofs.YtmpmciccgempeaaGreatDoor
