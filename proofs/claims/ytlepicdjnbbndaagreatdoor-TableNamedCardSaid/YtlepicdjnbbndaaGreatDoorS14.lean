/-
  The reference's At hands back what the program's At does. Conditions: none.
-/
import Derived.Test.YtlepicdjnbbndaaGreatDoorS13
import Derived.Test.YtlepicdjnbbndaaGreatDoorTI
namespace Go.Proofs.YtlepicdjnbbndaaGreatDoor
open Go.RowKit Go.Shelf Go.Sort

/-- an entry out of the reference's parts, none without a mnemonic -/
def opt9 (p : Int) (op : Nat) (k : Int) (s : ByteArray) (l : List Opd) (ex : ByteArray) (al : Bool) : Option EntV × Int :=
  if s.data.toList = [] then (none, k) else (some ⟨p, op, s.data.toList, l, ex.data.toList, al⟩, 1)
def at9F (p : Int) (op : Nat) : Option EntV × Int :=
  if p = 0 then opt9 0 op 2 (mainF op).1 (mainF op).2.1 (mainF op).2.2 false
  else if p = 1 then opt9 1 op 0 (cbF op (rF ((op : Int) % 8))).1 (cbF op (rF ((op : Int) % 8))).2 ⟨#[]⟩ false
  else if p = 2 then opt9 2 op 3 (edF op).1 (edF op).2.1 (edF op).2.2.1 (edF op).2.2.2
  else if p = 3 ∨ p = 4 then (if op = 203 then (none, 2) else opt9 p op 0 (ixR (p + 2) (mainF op).1 (mainF op).2.1 (mainF op).2.2).1 (ixR (p + 2) (mainF op).1 (mainF op).2.1 (mainF op).2.2).2.1 (ixR (p + 2) (mainF op).1 (mainF op).2.1 (mainF op).2.2).2.2 false)
  else (some ⟨p, op, (both9F p op).1.data.toList, (both9F p op).2.1, [100], (both9F p op).2.2⟩, 1)
def entEqB (a b : EntV) : Bool := decide (a.pg = b.pg) && (decide (a.op = b.op) && (decide (a.iop = b.iop) && (decide (a.args = b.args) && (decide (a.ex = b.ex) && (a.al == b.al)))))
theorem entEqB_iff {a b : EntV} (h : entEqB a b = true) : a = b := by
  obtain ⟨a1, a2, a3, a4, a5, a6⟩ := a
  obtain ⟨b1, b2, b3, b4, b5, b6⟩ := b
  unfold entEqB at h
  simp only [Bool.and_eq_true, decide_eq_true_eq, beq_iff_eq] at h
  obtain ⟨rfl, rfl, rfl, rfl, rfl, rfl⟩ := h
  rfl
def sameB (x y : Option EntV × Int) : Bool := decide (x.2 = y.2) && (match x.1, y.1 with | some a, some b => entEqB a b | none, none => true | _, _ => false)
theorem sameB_eq {x y : Option EntV × Int} (h : sameB x y = true) : x = y := by
  obtain ⟨x, k⟩ := x
  obtain ⟨y, m⟩ := y
  unfold sameB at h
  rw [Bool.and_eq_true, decide_eq_true_eq] at h
  obtain ⟨h1, h2⟩ := h
  dsimp only at h1 h2
  subst h1
  cases x <;> cases y <;> simp at h2
  · rfl
  · rw [entEqB_iff h2]
theorem same0 : ∀ x : Fin 256, sameB (at9F 0 x.val) (atF 0 x.val) = true := by decide +kernel
theorem same1 : ∀ x : Fin 256, sameB (at9F 1 x.val) (atF 1 x.val) = true := by decide +kernel
theorem same2 : ∀ x : Fin 256, sameB (at9F 2 x.val) (atF 2 x.val) = true := by decide +kernel
theorem same3 : ∀ x : Fin 256, sameB (at9F 3 x.val) (atF 3 x.val) = true := by decide +kernel
theorem same4 : ∀ x : Fin 256, sameB (at9F 4 x.val) (atF 4 x.val) = true := by decide +kernel
theorem same5 : ∀ x : Fin 256, sameB (at9F 5 x.val) (atF 5 x.val) = true := by decide +kernel
theorem same6 : ∀ x : Fin 256, sameB (at9F 6 x.val) (atF 6 x.val) = true := by decide +kernel
/-- sizes that indexed and both ask -/
theorem small9 : ∀ x : Fin 256, (decide ((mainF x.val).2.1.length ≤ 1000) && (decide ((mainF x.val).1.size ≤ 1000) && (decide ((mainF x.val).2.2.size ≤ 1000) && (decide ((cbF x.val ⟨5, 5, 0⟩).2.length ≤ 100) && decide ((cbF x.val ⟨5, 6, 0⟩).2.length ≤ 100))))) = true := by decide +kernel
end Go.Proofs.YtlepicdjnbbndaaGreatDoor
