/-
  WHICH OPERANDS ARE VALID: the program's answer is the reference's.
-/
import Derived.Test.YtkkjoghfdmmpaaaDoorValid7
namespace Go.Proofs.YtkkjoghfdmmpaaaDoor
open Go.RowKit

theorem names_short (k : Int) : (kindD k).names.length ≤ 9 := by
  unfold kindD
  repeat' (first | (split) | (simp))
theorem regs_short (k : Int) : (regsL k).length ≤ 9 := by
  unfold regsL
  repeat' (first | (split) | (simp))
theorem okValid_1 (r n : Int) : okOpd ⟨1, r, n⟩ = validOpd ⟨1, r, n⟩ := by
  rw [Bool.eq_iff_iff]
  by_cases h0 : r < 0
  · have h : ¬ (0 ≤ r) := by omega
    simp [okOpd, validOpd, nameOf, nameL, h0, h]
  by_cases h9 : 9 ≤ r
  · have h : ¬ (r < 9) := by omega
    have hl : (regsL 1)[r.toNat]? = none := by have := regs_short 1; simp; omega
    simp [okOpd, validOpd, nameOf, nameL, h0, h, hl]
  have hr : r = 0 ∨ r = 1 ∨ r = 2 ∨ r = 3 ∨ r = 4 ∨ r = 5 ∨ r = 6 ∨ r = 7 ∨ r = 8 := by omega
  clear h0 h9
  rcases hr with rfl | rfl | rfl | rfl | rfl | rfl | rfl | rfl | rfl
  all_goals simp [okOpd, validOpd, nameOf, nameL, regsL, kindOk, kindD, KindD.nm, fitsB]
  all_goals omega
theorem okValid_2 (r n : Int) : okOpd ⟨2, r, n⟩ = validOpd ⟨2, r, n⟩ := by
  rw [Bool.eq_iff_iff]
  by_cases h0 : r < 0
  · have h : ¬ (0 ≤ r) := by omega
    simp [okOpd, validOpd, nameOf, nameL, h0, h]
  by_cases h9 : 9 ≤ r
  · have h : ¬ (r < 9) := by omega
    have hl : (regsL 2)[r.toNat]? = none := by have := regs_short 2; simp; omega
    simp [okOpd, validOpd, nameOf, nameL, h0, h, hl]
  have hr : r = 0 ∨ r = 1 ∨ r = 2 ∨ r = 3 ∨ r = 4 ∨ r = 5 ∨ r = 6 ∨ r = 7 ∨ r = 8 := by omega
  clear h0 h9
  rcases hr with rfl | rfl | rfl | rfl | rfl | rfl | rfl | rfl | rfl
  all_goals simp [okOpd, validOpd, nameOf, nameL, regsL, kindOk, kindD, KindD.nm, fitsB]
  all_goals omega
theorem okValid_3 (r n : Int) : okOpd ⟨3, r, n⟩ = validOpd ⟨3, r, n⟩ := by
  rw [Bool.eq_iff_iff]
  by_cases h0 : r < 0
  · have h : ¬ (0 ≤ r) := by omega
    simp [okOpd, validOpd, nameOf, nameL, h0, h]
  by_cases h9 : 9 ≤ r
  · have h : ¬ (r < 9) := by omega
    have hl : (regsL 3)[r.toNat]? = none := by have := regs_short 3; simp; omega
    simp [okOpd, validOpd, nameOf, nameL, h0, h, hl]
  have hr : r = 0 ∨ r = 1 ∨ r = 2 ∨ r = 3 ∨ r = 4 ∨ r = 5 ∨ r = 6 ∨ r = 7 ∨ r = 8 := by omega
  clear h0 h9
  rcases hr with rfl | rfl | rfl | rfl | rfl | rfl | rfl | rfl | rfl
  all_goals simp [okOpd, validOpd, nameOf, nameL, regsL, kindOk, kindD, KindD.nm, fitsB]
  all_goals omega
theorem okValid_4 (r n : Int) : okOpd ⟨4, r, n⟩ = validOpd ⟨4, r, n⟩ := by
  rw [Bool.eq_iff_iff]
  by_cases h0 : r < 0
  · have h : ¬ (0 ≤ r) := by omega
    simp [okOpd, validOpd, nameOf, nameL, h0, h]
  by_cases h9 : 9 ≤ r
  · have h : ¬ (r < 9) := by omega
    have hl : (regsL 4)[r.toNat]? = none := by have := regs_short 4; simp; omega
    simp [okOpd, validOpd, nameOf, nameL, h0, h, hl]
  have hr : r = 0 ∨ r = 1 ∨ r = 2 ∨ r = 3 ∨ r = 4 ∨ r = 5 ∨ r = 6 ∨ r = 7 ∨ r = 8 := by omega
  clear h0 h9
  rcases hr with rfl | rfl | rfl | rfl | rfl | rfl | rfl | rfl | rfl
  all_goals simp [okOpd, validOpd, nameOf, nameL, regsL, kindOk, kindD, KindD.nm, fitsB]
  all_goals omega
theorem okValid_5 (r n : Int) : okOpd ⟨5, r, n⟩ = validOpd ⟨5, r, n⟩ := by
  rw [Bool.eq_iff_iff]
  by_cases h0 : r < 0
  · have h : ¬ (0 ≤ r) := by omega
    simp [okOpd, validOpd, nameOf, nameL, h0, h]
  by_cases h9 : 9 ≤ r
  · have h : ¬ (r < 9) := by omega
    have hl : (regsL 5)[r.toNat]? = none := by have := regs_short 5; simp; omega
    simp [okOpd, validOpd, nameOf, nameL, h0, h, hl]
  have hr : r = 0 ∨ r = 1 ∨ r = 2 ∨ r = 3 ∨ r = 4 ∨ r = 5 ∨ r = 6 ∨ r = 7 ∨ r = 8 := by omega
  clear h0 h9
  rcases hr with rfl | rfl | rfl | rfl | rfl | rfl | rfl | rfl | rfl
  all_goals simp [okOpd, validOpd, nameOf, nameL, regsL, kindOk, kindD, KindD.nm, fitsB]
  all_goals omega
theorem okValid_6 (r n : Int) : okOpd ⟨6, r, n⟩ = validOpd ⟨6, r, n⟩ := by
  rw [Bool.eq_iff_iff]
  by_cases h0 : r < 0
  · have h : ¬ (0 ≤ r) := by omega
    have h' : ¬ (r = 0) := by omega
    simp [okOpd, validOpd, h, h']
  by_cases h9 : 9 ≤ r
  · have h : ¬ (r < 9) := by omega
    have h' : ¬ (r = 0) := by omega
    simp [okOpd, validOpd, h, h']
  have hr : r = 0 ∨ r = 1 ∨ r = 2 ∨ r = 3 ∨ r = 4 ∨ r = 5 ∨ r = 6 ∨ r = 7 ∨ r = 8 := by omega
  clear h0 h9
  rcases hr with rfl | rfl | rfl | rfl | rfl | rfl | rfl | rfl | rfl
  all_goals simp [okOpd, validOpd, kindOk, kindD, KindD.nm, fitsB]
  all_goals omega
theorem okValid_7 (r n : Int) : okOpd ⟨7, r, n⟩ = validOpd ⟨7, r, n⟩ := by
  rw [Bool.eq_iff_iff]
  by_cases h0 : r < 0
  · have h : ¬ (0 ≤ r) := by omega
    have h' : ¬ (r = 0) := by omega
    simp [okOpd, validOpd, h, h']
  by_cases h9 : 9 ≤ r
  · have h : ¬ (r < 9) := by omega
    have h' : ¬ (r = 0) := by omega
    simp [okOpd, validOpd, h, h']
  have hr : r = 0 ∨ r = 1 ∨ r = 2 ∨ r = 3 ∨ r = 4 ∨ r = 5 ∨ r = 6 ∨ r = 7 ∨ r = 8 := by omega
  clear h0 h9
  rcases hr with rfl | rfl | rfl | rfl | rfl | rfl | rfl | rfl | rfl
  all_goals simp [okOpd, validOpd, kindOk, kindD, KindD.nm, fitsB]
  all_goals omega
theorem okValid_8 (r n : Int) : okOpd ⟨8, r, n⟩ = validOpd ⟨8, r, n⟩ := by
  rw [Bool.eq_iff_iff]
  by_cases h0 : r < 0
  · have h : ¬ (0 ≤ r) := by omega
    simp [okOpd, validOpd, nameOf, nameL, h0, h]
  by_cases h9 : 9 ≤ r
  · have h : ¬ (r < 9) := by omega
    have hl : (regsL 8)[r.toNat]? = none := by have := regs_short 8; simp; omega
    simp [okOpd, validOpd, nameOf, nameL, h0, h, hl]
  have hr : r = 0 ∨ r = 1 ∨ r = 2 ∨ r = 3 ∨ r = 4 ∨ r = 5 ∨ r = 6 ∨ r = 7 ∨ r = 8 := by omega
  clear h0 h9
  rcases hr with rfl | rfl | rfl | rfl | rfl | rfl | rfl | rfl | rfl
  all_goals simp [okOpd, validOpd, nameOf, nameL, regsL, kindOk, kindD, KindD.nm, fitsB]
  all_goals omega
theorem okValid_9 (r n : Int) : okOpd ⟨9, r, n⟩ = validOpd ⟨9, r, n⟩ := by
  rw [Bool.eq_iff_iff]
  by_cases h0 : r < 0
  · have h : ¬ (0 ≤ r) := by omega
    simp [okOpd, validOpd, nameOf, nameL, h0, h]
  by_cases h9 : 9 ≤ r
  · have h : ¬ (r < 9) := by omega
    have hl : (regsL 9)[r.toNat]? = none := by have := regs_short 9; simp; omega
    simp [okOpd, validOpd, nameOf, nameL, h0, h, hl]
  have hr : r = 0 ∨ r = 1 ∨ r = 2 ∨ r = 3 ∨ r = 4 ∨ r = 5 ∨ r = 6 ∨ r = 7 ∨ r = 8 := by omega
  clear h0 h9
  rcases hr with rfl | rfl | rfl | rfl | rfl | rfl | rfl | rfl | rfl
  all_goals simp [okOpd, validOpd, nameOf, nameL, regsL, kindOk, kindD, KindD.nm, fitsB]
  all_goals omega
theorem okValid_10 (r n : Int) : okOpd ⟨10, r, n⟩ = validOpd ⟨10, r, n⟩ := by
  rw [Bool.eq_iff_iff]
  by_cases h0 : r < 0
  · have h : ¬ (0 ≤ r) := by omega
    have h' : ¬ (r = 0) := by omega
    simp [okOpd, validOpd, h, h']
  by_cases h9 : 9 ≤ r
  · have h : ¬ (r < 9) := by omega
    have h' : ¬ (r = 0) := by omega
    simp [okOpd, validOpd, h, h']
  have hr : r = 0 ∨ r = 1 ∨ r = 2 ∨ r = 3 ∨ r = 4 ∨ r = 5 ∨ r = 6 ∨ r = 7 ∨ r = 8 := by omega
  clear h0 h9
  rcases hr with rfl | rfl | rfl | rfl | rfl | rfl | rfl | rfl | rfl
  all_goals simp [okOpd, validOpd, kindOk, kindD, KindD.nm, fitsB]
  all_goals omega
theorem ok_valid (o : Opd) : okOpd o = validOpd o := by
  obtain ⟨k, r, n⟩ := o
  by_cases h1 : k = 1
  · subst h1; exact okValid_1 r n
  by_cases h2 : k = 2
  · subst h2; exact okValid_2 r n
  by_cases h3 : k = 3
  · subst h3; exact okValid_3 r n
  by_cases h4 : k = 4
  · subst h4; exact okValid_4 r n
  by_cases h5 : k = 5
  · subst h5; exact okValid_5 r n
  by_cases h6 : k = 6
  · subst h6; exact okValid_6 r n
  by_cases h7 : k = 7
  · subst h7; exact okValid_7 r n
  by_cases h8 : k = 8
  · subst h8; exact okValid_8 r n
  by_cases h9 : k = 9
  · subst h9; exact okValid_9 r n
  by_cases h10 : k = 10
  · subst h10; exact okValid_10 r n
  simp [okOpd, validOpd, kindOk, h1, h2, h3, h4, h5, h6, h7, h8, h9, h10]
end Go.Proofs.YtkkjoghfdmmpaaaDoor
