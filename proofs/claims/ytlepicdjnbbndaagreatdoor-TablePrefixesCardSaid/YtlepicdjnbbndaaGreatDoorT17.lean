/-
  table.find. Conditions: sizes; the library's table as its initialiser lays it.
-/
import Derived.Test.YtlepicdjnbbndaaGreatDoorT16
namespace Go.Proofs.YtlepicdjnbbndaaGreatDoor
open Go.RowKit Go.Shelf

/-- the operands of a rule's words, and the letters that they add -/
def argsF (bits : List UInt8) (op : Nat) : List (List UInt8) → Option (List Opd × List UInt8)
  | [] => some ([], [])
  | s :: r => (argF bits op s).bind fun a => (argsF bits op r).map fun b => (a.1 :: b.1, a.2 ++ b.2)
structure EntV where
  pg : Int
  op : Nat
  iop : List UInt8
  args : List Opd
  ex : List UInt8
  al : Bool
def findF (pg : Int) (L : List (List UInt8)) (op : Nat) : Option EntV :=
  (lookF op L).bind fun t => (ruleF t).bind fun r => (argsF r.bits op r.args).map fun a => ⟨pg, op, r.op, a.1, a.2, r.alias⟩
/-- an entry as a value -/
def entVal (x : EntV) (v : Value) : Value := .agg #[.int .i64 x.pg, .int .u8 x.op, .string ⟨x.iop.toArray⟩, v, .string ⟨x.ex.toArray⟩, .bool x.al]
def ent0 : Value := .agg #[.int .i64 0, .int .u8 0, .string ⟨#[]⟩, .slice none 0 0, .string ⟨#[]⟩, .bool false]
theorem argsF_cons {bits : List UInt8} {op : Nat} {s : List UInt8} {r : List (List UInt8)} {os : List Opd} {ex : List UInt8} (h : argsF bits op (s :: r) = some (os, ex)) : ∃ o e1 os2 e2, argF bits op s = some (o, e1) ∧ argsF bits op r = some (os2, e2) ∧ os = o :: os2 ∧ ex = e1 ++ e2 := by
  rw [argsF] at h
  cases ha : argF bits op s with
  | none => rw [ha] at h; cases h
  | some a =>
    rw [ha, Option.bind_some] at h
    cases hb : argsF bits op r with
    | none => rw [hb] at h; cases h
    | some b =>
      rw [hb] at h
      injection h with h
      injection h with h1 h2
      exact ⟨a.1, a.2, b.1, b.2, rfl, rfl, h1.symm, h2.symm⟩
theorem grown_trans {a b c : World} {row : Option Nat} (h : a.grownBy b row) (k : b.grownBy c row) : a.grownBy c row :=
  ⟨k.os.trans h.os, k.tape.trans h.tape, k.output.trans h.output, Nat.le_trans h.size k.size, fun i hi hne => (k.block i (Nat.lt_of_lt_of_le hi h.size) hne).trans (h.block i hi hne)⟩
/-- the builder while its operands come -/
structure FnI (w5 : World) (bp : Nat) (x : BdrV) (ys : List Opd) (w : World) : Prop where
  bk : BK w bp x
  own : Own opdR w w5.heap.size 87 NoB x.ia ys
  grown : w5.grownBy w (some bp)
  lt : bp < w5.heap.size
theorem FnI.arg {w5 w w' : World} {bp : Nat} {x : BdrV} {ys : List Opd} {ext : List UInt8} (h : FnI w5 bp x ys w) (hb : BK w' bp { x with ex := x.ex ++ ext }) (hg : w.grownBy w' (some bp)) : FnI w5 bp { x with ex := x.ex ++ ext } ys w' :=
  ⟨hb, h.own.keep (fun k hk => by
    rcases hk with hk | hk
    · exact hk.elim
    · have := h.own.lt k hk
      exact hg.block k this.2 (fun e => by injection e with e; have := h.lt; omega)), grown_trans h.grown hg, h.lt⟩
theorem FnI.later {w5 w w' : World} {bp : Nat} {x : BdrV} {ys : List Opd} (h : FnI w5 bp x ys w) (hb : Below w.heap.size w w') : FnI w5 bp x ys w' :=
  ⟨h.bk.below hb h.bk.lt, h.own.keep (Keep.of_below hb (fun j hj => by rcases hj with hj | hj; exact hj.elim; exact (h.own.lt j hj).2)), grown_trans h.grown (grown_of bp hb), h.lt⟩
/-- one operand more -/
theorem FnI.push {w5 w : World} {bp : Nat} {x : BdrV} {ys : List Opd} (h : FnI w5 bp x ys w) (o : Opd) (hys : ys.length ≤ 1000) :
    ∃ a c w3, (Builtin.append_ #[23, 23] 23 #[x.ia, .slice (some ⟨w.heap.size, 0, none⟩) 1 1]).run Tryz.prog (w.alloc (.cells #[.int .i64 o.kind, .int .i64 o.reg, .int .i64 o.n] 87)) = .ok (.slice a (ys.length + 1) c) w3 ∧ BK w3 bp x ∧
      FnI w5 bp { x with ia := .slice a (ys.length + 1) c } (ys ++ [o]) (w3.setCell ⟨bp, 3, none⟩ (.slice a (ys.length + 1) c)) := by
  have hB : w5.heap.size ≤ w.heap.size := h.grown.size
  obtain ⟨a, c, w3, hrun, hp, hg⟩ := Own.pushed (P := Tryz.prog) (ty := 23) elOpd (h := h.own) (x := o) #[.int .i64 o.kind, .int .i64 o.reg, .int .i64 o.n] rfl (by omega) (by omega) hB
  have hne : ∀ k, x.ia.ownBlock = some k → k ≠ bp := fun k hk e => by have := (h.own.lt k hk).1; have := h.lt; omega
  have hk3 : BK w3 bp x := h.bk.grown hg (fun e => hne bp e.symm rfl)
  refine ⟨a, c, w3, hrun, hk3, ⟨?_, ?_, ?_, h.lt⟩⟩
  · exact hk3.set 3 _
  · refine hp.keep (fun k hk => ?_)
    rcases hk with hk | hk
    · exact hk.elim
    · have := (hp.lt k hk).1
      exact Below.heap_setCell _ _ _ _ (fun e => by have := h.lt; have e : k = bp := e; omega)
  · refine ⟨hg.os.trans h.grown.os, hg.tape.trans h.grown.tape, hg.output.trans h.grown.output, by rw [World.size_setCell]; exact Nat.le_trans h.grown.size hg.size, fun k hk hn => ?_⟩
    refine (Below.heap_setCell _ _ _ _ (fun e => hn (by rw [show k = bp from e]))).trans ?_
    exact (hg.block k (by have := h.grown.size; omega) (fun e => by have := (h.own.lt k e.symm).1; omega)).trans (h.grown.block k hk hn)
end Go.Proofs.YtlepicdjnbbndaaGreatDoor
