/-
  Alike items. Conditions: none.
-/
import Derived.Test.YtnbmbcjnncbaiaaGreatDoorD22
import Derived.Test.YtnbmbcjnncbaiaaGreatDoorQD
namespace Go.Proofs.YtnbmbcjnncbaiaaGreatDoor
open Go.RowKit Go.Shelf Go.Sort

theorem insEq_self (x : Ins) : insEq x x = true := by simp [insEq]
theorem itEq_self (x : It) : itEq x x = true := itEq_iff.2 rfl
theorem same12_self (x : Itm) (l : List UInt8) (B1 B2 : Nat) (v1 v2 : Value) (w : World) (h1 : ItmR w B1 x l v1) (h2 : ItmR w B2 x l v2) :
    Calls Tryz.prog 20 #[v1, v2] w fun e w' => e = .returned (.bool true) ∧ RowKit.Below w.heap.size w w' := Same12_any x l B1 B2 v1 v2 w h1 h2
end Go.Proofs.YtnbmbcjnncbaiaaGreatDoor
