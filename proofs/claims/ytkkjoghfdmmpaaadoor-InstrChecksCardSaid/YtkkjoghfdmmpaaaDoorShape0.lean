/-
  PLAIN: the program's way to join the marks is the reference's way.
-/
import Derived.Test.YtkkjoghfdmmpaaaDoorShape2
import Derived.Lib.Join
import Derived.Lib.Strings
namespace Go.Proofs.YtkkjoghfdmmpaaaDoor
open Go.RowKit

theorem regs_noSpace (k : Int) : ∀ s ∈ regsL k, ∀ b ∈ s.data.toList, b ≠ 32 := by
  by_cases h1 : k = 1
  · subst h1; decide +kernel
  by_cases h2 : k = 2
  · subst h2; decide +kernel
  by_cases h3 : k = 3
  · subst h3; decide +kernel
  by_cases h4 : k = 4
  · subst h4; decide +kernel
  by_cases h5 : k = 5
  · subst h5; decide +kernel
  by_cases h8 : k = 8
  · subst h8; decide +kernel
  by_cases h9 : k = 9
  · subst h9; decide +kernel
  simp [regsL, h1, h2, h3, h4, h5, h8, h9]
theorem nameOf_noSpace (k r : Int) : ∀ b ∈ (nameOf k r).data.toList, b ≠ 32 := by
  unfold nameOf nameL
  split
  · simp
  · cases h : (regsL k)[r.toNat]? with
    | none => simp
    | some s => exact regs_noSpace k s (List.mem_of_getElem? h)
theorem mark07_noSpace (o : Opd) : ∀ b ∈ (mark07 o).data.toList, b ≠ 32 := by
  unfold mark07
  repeat' split
  all_goals first | decide | skip
  unfold regText06
  split
  · exact nameOf_noSpace _ _
  · simp
theorem nameOf_ne {k r n : Int} (hk : k ≠ 6 ∧ k ≠ 7 ∧ k ≠ 10) (h : validOpd ⟨k, r, n⟩ = true) : (nameOf k r).data.toList ≠ [] := by
  intro e
  have e2 : ((nameOf k r).toList == []) = true := by rw [Go.ByteArray.toList_eq, e]; rfl
  obtain ⟨h6, h7, h10⟩ := hk
  by_cases h5 : k = 5
  · subst h5
    simp only [validOpd, e2] at h
    exact absurd h (by simp)
  · simp [validOpd, h5, h6, h7, h10, e2] at h
theorem mark07_ne {o : Opd} (h : validOpd o = true) : (mark07 o).data.toList ≠ [] := by
  obtain ⟨k, r, n⟩ := o
  by_cases h5 : k = 5
  · subst h5; unfold mark07; simp only [beq_self_eq_true, if_true]; split <;> decide
  by_cases h6 : k = 6
  · subst h6; exact (show ([110] : List UInt8) ≠ [] by decide)
  by_cases h7 : k = 7
  · subst h7; exact (show ([40, 110, 41] : List UInt8) ≠ [] by decide)
  by_cases h10 : k = 10
  · subst h10; exact (show ([101] : List UInt8) ≠ [] by decide)
  have e : mark07 ⟨k, r, n⟩ = nameOf k r := by simp [mark07, regText06, h5, h6, h7, h10, h]
  rw [e]
  exact nameOf_ne ⟨h6, h7, h10⟩ h

/-- what instr.Shape writes: the name, a space, the marks with commas, less a space at the end -/
def shapeL (s : ByteArray) (ms : List ByteArray) : List UInt8 := Lib.trimSuffix (s.data.toList ++ [32] ++ Lib.join (ms.map (·.data.toList)) [44]) [32]
theorem trim_no {l m : List UInt8} (hm : m ≠ []) (h : ∀ b ∈ m, b ≠ 32) : Lib.trimSuffix (l ++ m) [32] = l ++ m := by
  unfold Lib.trimSuffix
  rw [if_neg]
  intro hs
  have hs2 : [32] <:+ l ++ m := List.isSuffixOf_iff_suffix.1 hs
  obtain ⟨t, ht⟩ := hs2
  rcases List.eq_nil_or_concat m with rfl | ⟨m', x, rfl⟩
  · exact hm rfl
  · have e1 : (t ++ [32]).getLast? = (l ++ (m' ++ [x])).getLast? := by rw [ht, List.concat_eq_append]
    rw [← List.append_assoc] at e1
    simp at e1
    exact h x (by simp) e1.symm
theorem trim_yes (l : List UInt8) : Lib.trimSuffix (l ++ [32]) [32] = l := by
  unfold Lib.trimSuffix
  rw [if_pos (show Lib.hasSuffix (l ++ [32]) [32] = true from List.isSuffixOf_iff_suffix.2 ⟨l, rfl⟩)]
  simp
theorem data_app (a b : ByteArray) : (a ++ b).data.toList = a.data.toList ++ b.data.toList := by simp
theorem shape_eq (s : ByteArray) (l : List Opd) (hl : l.length ≤ 3) (hv : ∀ y ∈ l, validOpd y = true) : shapeL s (l.map markP) = (shapeUpto s l l.length).data.toList := by
  have hm : ∀ y ∈ l, markP y = mark07 y := fun y hy => mark_eq y (hv y hy)
  rw [List.map_congr_left hm]
  unfold shapeL
  match l, hl with
  | [], _ => simp only [List.map, Lib.join_nil, List.append_nil, trim_yes, List.length, shapeUpto]
  | [a], _ =>
    simp only [List.map, Lib.join_one, trim_no (mark07_ne (hv a (by simp))) (mark07_noSpace a), List.length, shapeUpto, data_app]
    rfl
  | [a, b], _ =>
    have e : Lib.join ([a, b].map mark07 |>.map (·.data.toList)) [44] = (mark07 a).data.toList ++ [44] ++ (mark07 b).data.toList := by simp [Lib.join, List.intercalate]
    rw [e, ← List.append_assoc, trim_no (mark07_ne (hv b (by simp))) (mark07_noSpace b)]
    simp [shapeUpto, sepAt]
  | [a, b, c], _ =>
    have e : Lib.join ([a, b, c].map mark07 |>.map (·.data.toList)) [44] = (mark07 a).data.toList ++ [44] ++ (mark07 b).data.toList ++ [44] ++ (mark07 c).data.toList := by simp [Lib.join, List.intercalate]
    rw [e, ← List.append_assoc, trim_no (mark07_ne (hv c (by simp))) (mark07_noSpace c)]
    simp [shapeUpto, sepAt]
end Go.Proofs.YtkkjoghfdmmpaaaDoor
