/-
  THE MARK OF A VALID OPERAND: the program's is the reference's.
-/
import Derived.Test.YtkkjoghfdmmpaaaDoorText3
namespace Go.Proofs.YtkkjoghfdmmpaaaDoor
open Go.RowKit

/-- operand.Text of an operand without a number -/
def textOf (o : Opd) : ByteArray := if o.kind == 4 then indText o else regText o
/-- what Shape writes for an operand -/
def markP (o : Opd) : ByteArray := if hasNum o then markS o else textOf o
theorem name_range {k r : Int} (h : ((nameOf k r).toList == []) = false) : 0 ≤ r ∧ r < 9 := by
  constructor
  · refine Int.not_lt.1 fun hr => ?_
    rw [show nameOf k r = ⟨#[]⟩ by simp [nameOf, nameL, hr]] at h
    exact absurd h (by decide +kernel)
  · refine Int.not_le.1 fun hr => ?_
    have hl : (regsL k)[r.toNat]? = none := by have := regs_short k; simp; omega
    rw [show nameOf k r = ⟨#[]⟩ by simp [nameOf, nameL, hl]] at h
    exact absurd h (by decide +kernel)

theorem mark_1 (r n : Int) (h : validOpd ⟨1, r, n⟩ = true) : markP ⟨1, r, n⟩ = mark07 ⟨1, r, n⟩ := by
  have hok : okOpd ⟨1, r, n⟩ = true := by rw [ok_valid]; exact h
  have hn : ((nameOf 1 r).toList == []) = false := by
    cases hh : ((nameOf 1 r).toList == [])
    · rfl
    · simp only [validOpd, hh] at h
      exact absurd h (by simp)
  obtain ⟨h0, h9⟩ := name_range hn
  have hr : r = 0 ∨ r = 1 ∨ r = 2 ∨ r = 3 ∨ r = 4 ∨ r = 5 ∨ r = 6 ∨ r = 7 ∨ r = 8 := by omega
  clear h0 h9
  have e1 : mark07 ⟨1, r, n⟩ = nameOf 1 r := by show regText06 ⟨1, r, n⟩ = _; simp only [regText06, h, if_true]
  have e2 : markP ⟨1, r, n⟩ = (kindD 1).nm r.toNat := by show regText ⟨1, r, n⟩ = _; simp only [regText, hok, if_true]
  rw [e1, e2]
  clear e1 e2 h hok
  rcases hr with rfl | rfl | rfl | rfl | rfl | rfl | rfl | rfl | rfl
  all_goals first | exact absurd hn (by decide +kernel) | decide +kernel
theorem mark_2 (r n : Int) (h : validOpd ⟨2, r, n⟩ = true) : markP ⟨2, r, n⟩ = mark07 ⟨2, r, n⟩ := by
  have hok : okOpd ⟨2, r, n⟩ = true := by rw [ok_valid]; exact h
  have hn : ((nameOf 2 r).toList == []) = false := by
    cases hh : ((nameOf 2 r).toList == [])
    · rfl
    · simp only [validOpd, hh] at h
      exact absurd h (by simp)
  obtain ⟨h0, h9⟩ := name_range hn
  have hr : r = 0 ∨ r = 1 ∨ r = 2 ∨ r = 3 ∨ r = 4 ∨ r = 5 ∨ r = 6 ∨ r = 7 ∨ r = 8 := by omega
  clear h0 h9
  have e1 : mark07 ⟨2, r, n⟩ = nameOf 2 r := by show regText06 ⟨2, r, n⟩ = _; simp only [regText06, h, if_true]
  have e2 : markP ⟨2, r, n⟩ = (kindD 2).nm r.toNat := by show regText ⟨2, r, n⟩ = _; simp only [regText, hok, if_true]
  rw [e1, e2]
  clear e1 e2 h hok
  rcases hr with rfl | rfl | rfl | rfl | rfl | rfl | rfl | rfl | rfl
  all_goals first | exact absurd hn (by decide +kernel) | decide +kernel
theorem mark_3 (r n : Int) (h : validOpd ⟨3, r, n⟩ = true) : markP ⟨3, r, n⟩ = mark07 ⟨3, r, n⟩ := by
  have hok : okOpd ⟨3, r, n⟩ = true := by rw [ok_valid]; exact h
  have hn : ((nameOf 3 r).toList == []) = false := by
    cases hh : ((nameOf 3 r).toList == [])
    · rfl
    · simp only [validOpd, hh] at h
      exact absurd h (by simp)
  obtain ⟨h0, h9⟩ := name_range hn
  have hr : r = 0 ∨ r = 1 ∨ r = 2 ∨ r = 3 ∨ r = 4 ∨ r = 5 ∨ r = 6 ∨ r = 7 ∨ r = 8 := by omega
  clear h0 h9
  have e1 : mark07 ⟨3, r, n⟩ = nameOf 3 r := by show regText06 ⟨3, r, n⟩ = _; simp only [regText06, h, if_true]
  have e2 : markP ⟨3, r, n⟩ = (kindD 3).nm r.toNat := by show regText ⟨3, r, n⟩ = _; simp only [regText, hok, if_true]
  rw [e1, e2]
  clear e1 e2 h hok
  rcases hr with rfl | rfl | rfl | rfl | rfl | rfl | rfl | rfl | rfl
  all_goals first | exact absurd hn (by decide +kernel) | decide +kernel
theorem mark_4 (r n : Int) (h : validOpd ⟨4, r, n⟩ = true) : markP ⟨4, r, n⟩ = mark07 ⟨4, r, n⟩ := by
  have hok : okOpd ⟨4, r, n⟩ = true := by rw [ok_valid]; exact h
  have hn : ((nameOf 4 r).toList == []) = false := by
    cases hh : ((nameOf 4 r).toList == [])
    · rfl
    · simp only [validOpd, hh] at h
      exact absurd h (by simp)
  obtain ⟨h0, h9⟩ := name_range hn
  have hr : r = 0 ∨ r = 1 ∨ r = 2 ∨ r = 3 ∨ r = 4 ∨ r = 5 ∨ r = 6 ∨ r = 7 ∨ r = 8 := by omega
  clear h0 h9
  have e1 : mark07 ⟨4, r, n⟩ = nameOf 4 r := by show regText06 ⟨4, r, n⟩ = _; simp only [regText06, h, if_true]
  have e2 : markP ⟨4, r, n⟩ = paren ((kindD 4).nm r.toNat) := by show indText ⟨4, r, n⟩ = _; simp only [indText, hok, if_true]
  rw [e1, e2]
  clear e1 e2 h hok
  rcases hr with rfl | rfl | rfl | rfl | rfl | rfl | rfl | rfl | rfl
  all_goals first | exact absurd hn (by decide +kernel) | decide +kernel
theorem mark_5 (r n : Int) (h : validOpd ⟨5, r, n⟩ = true) : markP ⟨5, r, n⟩ = mark07 ⟨5, r, n⟩ := by
  have hok : okOpd ⟨5, r, n⟩ = true := by rw [ok_valid]; exact h
  have hn : ((nameOf 5 r).toList == []) = false := by
    cases hh : ((nameOf 5 r).toList == [])
    · rfl
    · simp only [validOpd, hh] at h
      exact absurd h (by simp)
  obtain ⟨h0, h9⟩ := name_range hn
  have hr : r = 0 ∨ r = 1 ∨ r = 2 ∨ r = 3 ∨ r = 4 ∨ r = 5 ∨ r = 6 ∨ r = 7 ∨ r = 8 := by omega
  clear h0 h9
  rw [show markP ⟨5, r, n⟩ = idxText r from rfl, show mark07 ⟨5, r, n⟩ = (if r == 5 then ⟨#[40, 73, 88, 43, 100, 41]⟩ else ⟨#[40, 73, 89, 43, 100, 41]⟩) from rfl]
  clear h hok
  rcases hr with rfl | rfl | rfl | rfl | rfl | rfl | rfl | rfl | rfl
  all_goals first | exact absurd hn (by decide +kernel) | decide +kernel
theorem mark_6 (r n : Int) : markP ⟨6, r, n⟩ = mark07 ⟨6, r, n⟩ := rfl
theorem mark_7 (r n : Int) : markP ⟨7, r, n⟩ = mark07 ⟨7, r, n⟩ := rfl
theorem mark_8 (r n : Int) (h : validOpd ⟨8, r, n⟩ = true) : markP ⟨8, r, n⟩ = mark07 ⟨8, r, n⟩ := by
  have hok : okOpd ⟨8, r, n⟩ = true := by rw [ok_valid]; exact h
  have hn : ((nameOf 8 r).toList == []) = false := by
    cases hh : ((nameOf 8 r).toList == [])
    · rfl
    · simp only [validOpd, hh] at h
      exact absurd h (by simp)
  obtain ⟨h0, h9⟩ := name_range hn
  have hr : r = 0 ∨ r = 1 ∨ r = 2 ∨ r = 3 ∨ r = 4 ∨ r = 5 ∨ r = 6 ∨ r = 7 ∨ r = 8 := by omega
  clear h0 h9
  have e1 : mark07 ⟨8, r, n⟩ = nameOf 8 r := by show regText06 ⟨8, r, n⟩ = _; simp only [regText06, h, if_true]
  have e2 : markP ⟨8, r, n⟩ = (kindD 8).nm r.toNat := by show regText ⟨8, r, n⟩ = _; simp only [regText, hok, if_true]
  rw [e1, e2]
  clear e1 e2 h hok
  rcases hr with rfl | rfl | rfl | rfl | rfl | rfl | rfl | rfl | rfl
  all_goals first | exact absurd hn (by decide +kernel) | decide +kernel
theorem mark_9 (r n : Int) (h : validOpd ⟨9, r, n⟩ = true) : markP ⟨9, r, n⟩ = mark07 ⟨9, r, n⟩ := by
  have hok : okOpd ⟨9, r, n⟩ = true := by rw [ok_valid]; exact h
  have hn : ((nameOf 9 r).toList == []) = false := by
    cases hh : ((nameOf 9 r).toList == [])
    · rfl
    · simp only [validOpd, hh] at h
      exact absurd h (by simp)
  obtain ⟨h0, h9⟩ := name_range hn
  have hr : r = 0 ∨ r = 1 ∨ r = 2 ∨ r = 3 ∨ r = 4 ∨ r = 5 ∨ r = 6 ∨ r = 7 ∨ r = 8 := by omega
  clear h0 h9
  have e1 : mark07 ⟨9, r, n⟩ = nameOf 9 r := by show regText06 ⟨9, r, n⟩ = _; simp only [regText06, h, if_true]
  have e2 : markP ⟨9, r, n⟩ = (kindD 9).nm r.toNat := by show regText ⟨9, r, n⟩ = _; simp only [regText, hok, if_true]
  rw [e1, e2]
  clear e1 e2 h hok
  rcases hr with rfl | rfl | rfl | rfl | rfl | rfl | rfl | rfl | rfl
  all_goals first | exact absurd hn (by decide +kernel) | decide +kernel
theorem mark_10 (r n : Int) : markP ⟨10, r, n⟩ = mark07 ⟨10, r, n⟩ := rfl
theorem mark_eq (o : Opd) (h : validOpd o = true) : markP o = mark07 o := by
  obtain ⟨k, r, n⟩ := o
  by_cases h1 : k = 1
  · subst h1; exact mark_1 r n h
  by_cases h2 : k = 2
  · subst h2; exact mark_2 r n h
  by_cases h3 : k = 3
  · subst h3; exact mark_3 r n h
  by_cases h4 : k = 4
  · subst h4; exact mark_4 r n h
  by_cases h5 : k = 5
  · subst h5; exact mark_5 r n h
  by_cases h6 : k = 6
  · subst h6; exact mark_6 r n
  by_cases h7 : k = 7
  · subst h7; exact mark_7 r n
  by_cases h8 : k = 8
  · subst h8; exact mark_8 r n h
  by_cases h9 : k = 9
  · subst h9; exact mark_9 r n h
  by_cases h10 : k = 10
  · subst h10; exact mark_10 r n
  simp [validOpd, h1, h2, h3, h4, h5, h6, h7, h8, h9, h10] at h
end Go.Proofs.YtkkjoghfdmmpaaaDoor
