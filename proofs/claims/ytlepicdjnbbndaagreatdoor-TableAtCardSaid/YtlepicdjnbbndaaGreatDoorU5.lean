/-
  What the law TableAt asks of each entry, by kernel. Conditions: none.
-/
import Derived.Test.YtlepicdjnbbndaaGreatDoorU2
import Derived.Test.YtlepicdjnbbndaaGreatDoorS17
namespace Go.Proofs.YtlepicdjnbbndaaGreatDoor
open Go.RowKit Go.Shelf Go.Sort

/-- the size of an entry -/
def sizeF (x : EntV) : Int := ((prefF x.pg).length : Int) + 1 + lenX x.ex
/-- what the law asks -/
def okX (x : EntV) : Bool :=
  decide (1 ≤ sizeF x) && (decide (sizeF x ≤ 4) && (decide (x.ex.length + Lib.countByte x.ex 119 = lenX x.ex) && (decide (x.ex.length ≤ 1000) && (decide (Lib.countByte x.ex 119 ≤ 1000) && (decide (x.iop.length ≤ 1000) &&
    ((docT x.pg x.op ⟨x.iop.toArray⟩ x.args x.al == doc9 x.pg ⟨x.iop.toArray⟩ x.args x.al) && (check07 ⟨⟨x.iop.toArray⟩, x.args⟩ == 0)))))))
def okP (p : Int) (op : Nat) : Bool := match (atF p op).1 with | some x => okX x | none => true
theorem okp0 : ∀ x : Fin 256, okP 0 x.val = true := by decide +kernel
theorem okp1 : ∀ x : Fin 256, okP 1 x.val = true := by decide +kernel
theorem okp2 : ∀ x : Fin 256, okP 2 x.val = true := by decide +kernel
theorem okp3 : ∀ x : Fin 256, okP 3 x.val = true := by decide +kernel
theorem okp4 : ∀ x : Fin 256, okP 4 x.val = true := by decide +kernel
theorem okp5 : ∀ x : Fin 256, okP 5 x.val = true := by decide +kernel
theorem okp6 : ∀ x : Fin 256, okP 6 x.val = true := by decide +kernel
theorem okP_all (p : Int) (op : Nat) (hop : op < 256) : okP p op = true := by
  by_cases p0 : p = 0
  · subst p0; exact okp0 ⟨op, hop⟩
  by_cases p1 : p = 1
  · subst p1; exact okp1 ⟨op, hop⟩
  by_cases p2 : p = 2
  · subst p2; exact okp2 ⟨op, hop⟩
  by_cases p3 : p = 3
  · subst p3; exact okp3 ⟨op, hop⟩
  by_cases p4 : p = 4
  · subst p4; exact okp4 ⟨op, hop⟩
  by_cases p5 : p = 5
  · subst p5; exact okp5 ⟨op, hop⟩
  by_cases p6 : p = 6
  · subst p6; exact okp6 ⟨op, hop⟩
  have e : atF p op = (none, 0) := by
    unfold atF; rw [if_neg p0, if_neg p1, if_neg p2, if_neg (fun e => e.elim p3 p4), if_neg (fun e => e.elim p5 p6)]
  unfold okP
  rw [e]
theorem okX_all {p : Int} {op : Nat} (hop : op < 256) {x : EntV} (h : (atF p op).1 = some x) : okX x = true := by
  have := okP_all p op hop
  unfold okP at this
  rwa [h] at this
end Go.Proofs.YtlepicdjnbbndaaGreatDoor
