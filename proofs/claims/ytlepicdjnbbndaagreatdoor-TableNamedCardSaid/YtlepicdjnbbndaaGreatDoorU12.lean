/-
  The entries with a mnemonic: the plain law. Conditions: none.
-/
import Derived.Test.YtlepicdjnbbndaaGreatDoorU7
namespace Go.Proofs.YtlepicdjnbbndaaGreatDoor
open Go.RowKit Go.Shelf Go.Sort

/-- the patterns of a page -/
def patB (p : Int) : ByteArray := if p = 0 ∨ p = 3 ∨ p = 4 then mainB else if p = 1 ∨ p = 5 ∨ p = 6 then cbB else if p = 2 then edB else ⟨#[]⟩
def patL (p : Int) : List (List UInt8) := splitC (patB p).data.toList
/-- the mnemonic in the text of a rule; the texts with a mnemonic -/
def mnemF (t : List UInt8) : List UInt8 := (Lib.cut (t.drop 9) [32]).1
def wordB (op t : List UInt8) : Bool := decide (9 ≤ t.length) && decide (mnemF t = op)
def withF (op : List UInt8) (L : List (List UInt8)) : List (List UInt8) := L.filter (wordB op)
def nameOk (p : Int) (x : Nat) : Bool := match (atF p x).1 with
  | some e => (match lookF x (patL p) with | some t => decide (9 ≤ t.length) && (decide (mnemF t = e.iop) && fitsF t x) | none => false)
  | none => true
theorem nok0 : ∀ x : Fin 256, nameOk 0 x.val = true := by decide +kernel
theorem nok1 : ∀ x : Fin 256, nameOk 1 x.val = true := by decide +kernel
theorem nok2 : ∀ x : Fin 256, nameOk 2 x.val = true := by decide +kernel
theorem nok3 : ∀ x : Fin 256, nameOk 3 x.val = true := by decide +kernel
theorem nok4 : ∀ x : Fin 256, nameOk 4 x.val = true := by decide +kernel
theorem nok5 : ∀ x : Fin 256, nameOk 5 x.val = true := by decide +kernel
theorem nok6 : ∀ x : Fin 256, nameOk 6 x.val = true := by decide +kernel
theorem atF_out {p : Int} (h : ¬ (0 ≤ p ∧ p < 7)) (op : Nat) : atF p op = (none, 0) := by
  unfold atF; rw [if_neg (by omega), if_neg (by omega), if_neg (by omega), if_neg (by omega), if_neg (by omega)]
theorem nok_all (p : Int) (x : Nat) (hx : x < 256) : nameOk p x = true := by
  by_cases h : 0 ≤ p ∧ p < 7
  · have : p = 0 ∨ p = 1 ∨ p = 2 ∨ p = 3 ∨ p = 4 ∨ p = 5 ∨ p = 6 := by omega
    rcases this with rfl | rfl | rfl | rfl | rfl | rfl | rfl
    · exact nok0 ⟨x, hx⟩
    · exact nok1 ⟨x, hx⟩
    · exact nok2 ⟨x, hx⟩
    · exact nok3 ⟨x, hx⟩
    · exact nok4 ⟨x, hx⟩
    · exact nok5 ⟨x, hx⟩
    · exact nok6 ⟨x, hx⟩
  · unfold nameOk; rw [atF_out h]
theorem lookF_mem {op : Nat} {t : List UInt8} : ∀ {L : List (List UInt8)}, lookF op L = some t → t ∈ L
  | [], h => by cases h
  | x :: r, h => by
    rw [lookF] at h
    split at h
    · injection h with h; rw [h]; simp
    · exact List.mem_cons_of_mem _ (lookF_mem h)
/-- what Named asks of an opcode before it asks At -/
def askB (op : List UInt8) (p : Int) (x : Nat) : Bool := ((withF op (patL p)).any fun t => fitsF t x) && ((withF op (patL p)).contains ((lookF x (patL p)).getD []))
def namK (op : List UInt8) (p : Int) (k : Nat) : List EntV := (entsK p k).filter fun e => e.iop == op
def namF (op : List UInt8) (p : Int) : List EntV := namK op p 256
theorem namF_eq (op : List UInt8) (p : Int) : namF op p = (entsF p).filter fun e => e.iop == op := rfl
theorem ask_yes {op : List UInt8} {p : Int} {x : Nat} (hx : x < 256) {e : EntV} (he : (atF p x).1 = some e) : askB op p x = (e.iop == op) := by
  have h := nok_all p x hx
  unfold nameOk at h
  rw [he] at h
  cases hl : lookF x (patL p) with
  | none => rw [hl] at h; cases h
  | some t =>
    rw [hl] at h
    simp only [Bool.and_eq_true, decide_eq_true_eq] at h
    obtain ⟨h1, h2, h3⟩ := h
    unfold askB
    rw [hl, Option.getD_some]
    have hm : t ∈ withF op (patL p) ↔ e.iop = op := by
      unfold withF
      rw [List.mem_filter]
      simp only [wordB, Bool.and_eq_true, decide_eq_true_eq, h2]
      exact ⟨fun h => h.2.2, fun h => ⟨lookF_mem hl, h1, h⟩⟩
    by_cases hop : e.iop = op
    · have hi := hm.2 hop
      have ha : ((withF op (patL p)).any fun t => fitsF t x) = true := List.any_eq_true.2 ⟨t, hi, h3⟩
      have hc : (withF op (patL p)).contains t = true := List.contains_iff_mem.2 hi
      rw [ha, hc, hop]; simp
    · have hi : (withF op (patL p)).contains t = false := by
        cases hc : (withF op (patL p)).contains t
        · rfl
        · exact absurd (hm.1 (List.contains_iff_mem.1 hc)) hop
      rw [hi, Bool.and_false]
      exact (beq_eq_false_iff_ne.2 hop).symm
theorem namK_no {op : List UInt8} {p : Int} {k : Nat} (h : (atF p k).1 = none) : namK op p (k + 1) = namK op p k := by
  unfold namK; rw [entsK_no h]
theorem namK_out {op : List UInt8} {p : Int} {k : Nat} (hk : k < 256) (h : askB op p k = false) : namK op p (k + 1) = namK op p k := by
  cases hx : (atF p k).1 with
  | none => exact namK_no hx
  | some e =>
    have := ask_yes (op := op) hk hx
    rw [h] at this
    unfold namK
    rw [entsK_yes hx, List.filter_append]
    simp [← this]
theorem namK_in {op : List UInt8} {p : Int} {k : Nat} (hk : k < 256) (h : askB op p k = true) {e : EntV} (he : (atF p k).1 = some e) : namK op p (k + 1) = namK op p k ++ [e] := by
  have := ask_yes (op := op) hk he
  rw [h] at this
  unfold namK
  rw [entsK_yes he, List.filter_append]
  simp [← this]
theorem namK_len (op : List UInt8) (p : Int) (k : Nat) : (namK op p k).length ≤ k := Nat.le_trans (List.length_filter_le _ _) (entsK_len p k)
theorem withF_len (op : List UInt8) (p : Int) : (withF op (patL p)).length ≤ 1000 := by
  refine Nat.le_trans (List.length_filter_le _ _) ?_
  have h0 : (splitC mainB.data.toList).length ≤ 1000 := by decide +kernel
  have h1 : (splitC cbB.data.toList).length ≤ 1000 := by decide +kernel
  have h2 : (splitC edB.data.toList).length ≤ 1000 := by decide +kernel
  unfold patL patB
  split
  · exact h0
  split
  · exact h1
  split
  · exact h2
  · decide +kernel
end Go.Proofs.YtlepicdjnbbndaaGreatDoor
