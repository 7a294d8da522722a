/-
  Lists of operands of the call's own, held on to. Conditions: none.
-/
import Derived.Test.YtlepicdjnbbndaaGreatDoorS3
namespace Go.Proofs.YtlepicdjnbbndaaGreatDoor
open Go.RowKit Go.Shelf Go.Sort

/-- lists of operands of the call's own, in blocks behind b -/
def Fo (b : Nat) (M : List (Value × List Opd)) (w : World) : Prop := ∀ x ∈ M, OpdOwn w (fun k => b < k) x.1 x.2
theorem Fo.nil (b : Nat) (w : World) : Fo b [] w := fun _ h => by cases h
theorem Fo.next {b : Nat} {M : List (Value × List Opd)} {W w1 : World} (h : Fo b M W) (hb : Below W.heap.size W w1) : Fo b M w1 := fun x hx => (h x hx).below hb
theorem Fo.add {b : Nat} {M : List (Value × List Opd)} {w : World} {v : Value} {l : List Opd} (h : Fo b M w) (ho : OpdOwn w (fun k => b < k) v l) : Fo b ((v, l) :: M) w := fun x hx => by
  rcases List.mem_cons.1 hx with rfl | hx
  · exact ho
  · exact h x hx
theorem Fo.get {b : Nat} {M : List (Value × List Opd)} {w : World} (h : Fo b M w) (i : Nat) {v : Value} {l : List Opd} (hi : M[i]? = some (v, l)) : OpdOwn w (fun k => b < k) v l := h _ (List.mem_of_getElem? hi)
theorem put_ins2 {w0 w1 : World} {q : Blocks} {b : Nat} {v x : Value} {l : List Opd} (hB : Below w0.heap.size w0 w1) (ho : OpdOwn w1 q v l) (hq : ∀ k, q k → b < k) (hb : w0.heap.size ≤ b) :
    OpdOwn ((w1.setCell ⟨b, 0, none⟩ x).setCell ⟨b, 1, none⟩ v) (fun k => w0.heap.size ≤ k) v l ∧ Below w0.heap.size w0 ((w1.setCell ⟨b, 0, none⟩ x).setCell ⟨b, 1, none⟩ v) := put_ins hB ho hq hb
end Go.Proofs.YtlepicdjnbbndaaGreatDoor
