/-
  The law TableAliases, walked. Conditions: the library's table as its initialiser lays it.
-/
import Derived.Test.YtlepicdjnbbndaaGreatDoorU8
import Derived.Test.YtlepicdjnbbndaaGreatDoorTF
namespace Go.Proofs.YtlepicdjnbbndaaGreatDoor
open Go.RowKit Go.Shelf Go.Sort

/-- where the entry lies that an alias stands for -/
def witA (p : Int) (op : Nat) : Int × Nat :=
  if p = 5 ∨ p = 6 then (p, op / 8 * 8 + 6) else if op = 99 then (0, 34) else if op = 107 then (0, 42) else if op % 8 = 4 then (2, 68) else if op % 8 = 5 then (2, 69) else if op = 118 then (2, 86) else if op = 126 then (2, 94) else (2, 70)
def goodA (e x : EntV) : Bool := !x.al && insEq ⟨⟨x.iop.toArray⟩, x.args⟩ ⟨⟨e.iop.toArray⟩, e.args⟩
def aliasW (p : Int) (op : Nat) : Bool := match (atF p op).1 with
  | some e => !e.al || ((decide ((witA p op).1 = 0) || (decide ((witA p op).1 = 2) || decide ((witA p op).1 = p))) && (decide ((witA p op).2 < 256) && (match (atF (witA p op).1 (witA p op).2).1 with | some x => !x.al && (decide (x.iop = e.iop) && decide (x.args = e.args)) | none => false)))
  | none => true
theorem alw0 : ∀ x : Fin 256, aliasW 0 x.val = true := by decide +kernel
theorem alw1 : ∀ x : Fin 256, aliasW 1 x.val = true := by decide +kernel
theorem alw2 : ∀ x : Fin 256, aliasW 2 x.val = true := by decide +kernel
theorem alw3 : ∀ x : Fin 256, aliasW 3 x.val = true := by decide +kernel
theorem alw4 : ∀ x : Fin 256, aliasW 4 x.val = true := by decide +kernel
theorem alw5 : ∀ x : Fin 256, aliasW 5 x.val = true := by decide +kernel
theorem alw6 : ∀ x : Fin 256, aliasW 6 x.val = true := by decide +kernel
theorem entsF_mem {p : Int} {op : Nat} (hop : op < 256) {x : EntV} (h : (atF p op).1 = some x) : x ∈ entsF p :=
  List.mem_filterMap.2 ⟨op, List.mem_range.2 hop, h⟩
theorem alias_law {p : Int} (h0 : 0 ≤ p) (h7 : p < 7) {op : Nat} (hop : op < 256) {e : EntV} (he : (atF p op).1 = some e) (hal : e.al = true) : [0, 2, p].any (fun q => (entsF q).any (goodA e)) = true := by
  have hw : aliasW p op = true := by
    have : p = 0 ∨ p = 1 ∨ p = 2 ∨ p = 3 ∨ p = 4 ∨ p = 5 ∨ p = 6 := by omega
    rcases this with rfl | rfl | rfl | rfl | rfl | rfl | rfl
    · exact alw0 ⟨op, hop⟩
    · exact alw1 ⟨op, hop⟩
    · exact alw2 ⟨op, hop⟩
    · exact alw3 ⟨op, hop⟩
    · exact alw4 ⟨op, hop⟩
    · exact alw5 ⟨op, hop⟩
    · exact alw6 ⟨op, hop⟩
  unfold aliasW at hw
  rw [he] at hw
  simp only [hal, Bool.not_true, Bool.false_or, Bool.and_eq_true, Bool.or_eq_true, decide_eq_true_eq] at hw
  obtain ⟨h1, h2, h3⟩ := hw
  generalize witA p op = q at *
  obtain ⟨q, o⟩ := q
  dsimp only at *
  cases hx : (atF q o).1 with
  | none => rw [hx] at h3; simp at h3
  | some x =>
    rw [hx] at h3
    simp only [Bool.and_eq_true, Bool.not_eq_true', decide_eq_true_eq] at h3
    obtain ⟨g1, g2, g3⟩ := h3
    refine List.any_eq_true.2 ⟨q, ?_, List.any_eq_true.2 ⟨x, entsF_mem h2 hx, ?_⟩⟩
    · rcases h1 with rfl | rfl | rfl <;> simp
    · unfold goodA; rw [g1, g2, g3]; simp [insEq]
end Go.Proofs.YtlepicdjnbbndaaGreatDoor
