/-
  PLAIN LAWS: the canonical form of a legal instruction is legal, and its numbers are not negative as far as the width permits.
-/
import Derived.Test.YtkkjoghfdmmpaaaDoorCheck
import Derived.Test.YtkkjoghfdmmpaaaDoorTwice2
namespace Go.Proofs.YtkkjoghfdmmpaaaDoor
open Go.RowKit

theorem check_zero {x : Ins} (h : check07 x = 0) : inL opsL x.op = true ∧ x.args.length ≤ 3 ∧ ∀ y ∈ x.args, validOpd y = true := by
  unfold check07 at h
  cases h1 : inL opsL x.op
  · rw [h1] at h; simp at h
  · rw [h1] at h
    by_cases h2 : 3 < x.args.length
    · simp [h2] at h
    · simp only [Bool.not_true, Bool.false_eq_true, if_false, h2] at h
      refine ⟨rfl, by omega, ?_⟩
      cases h3 : x.args.all validOpd
      · rw [h3] at h; simp at h
      · simpa using h3
theorem zero_check {x : Ins} (h1 : inL opsL x.op = true) (h2 : x.args.length ≤ 3) (h3 : ∀ y ∈ x.args, validOpd y = true) : check07 x = 0 := by
  have h4 : x.args.all validOpd = true := by simpa using h3
  have h5 : ¬ 3 < x.args.length := by omega
  simp only [check07, h1, h4, h5, Bool.not_true, Bool.false_eq_true, if_false, if_true]

theorem valid_imm {o : Opd} (hk : o.kind = 6) (h : validOpd o = true) : o.reg = 0 ∧ -32768 ≤ o.n ∧ o.n ≤ 65535 := by
  obtain ⟨k, r, n⟩ := o
  dsimp only at hk
  subst hk
  simp [validOpd] at h
  exact ⟨h.1.1, h.1.2, h.2⟩
theorem imm_valid {r n : Int} (hr : r = 0) (h1 : -32768 ≤ n) (h2 : n ≤ 65535) : validOpd ⟨6, r, n⟩ = true := by
  subst hr
  simp [validOpd, h1, h2]
theorem sizeOfW_cases (w : Int) : sizeOfW w = 65536 ∨ sizeOfW w = 256 ∨ sizeOfW w = 1 := by unfold sizeOfW; split; simp; split <;> simp
theorem numb_valid {w : Int} {o : Opd} (h : validOpd o = true) : validOpd (numb (sizeOfW w) o) = true := by
  by_cases hc : o.kind = 6 ∧ o.n < 0 ∧ -(sizeOfW w / 2) ≤ o.n ∧ 1 < sizeOfW w
  · have e : numb (sizeOfW w) o = { o with n := o.n + sizeOfW w } := by unfold numb; rw [if_pos hc]
    rw [e]
    obtain ⟨hk, hn, h1, h2⟩ := hc
    obtain ⟨v1, v2, v3⟩ := valid_imm hk h
    obtain ⟨k, r, n⟩ := o
    dsimp only at *
    subst hk
    have := sizeOfW_le w
    exact imm_valid v1 (by omega) (by omega)
  · have e : numb (sizeOfW w) o = o := by unfold numb; rw [if_neg hc]
    rw [e]; exact h
theorem regA_valid : validOpd regA = true := by decide +kernel
theorem opDE_valid : validOpd opDE = true := by decide +kernel
theorem opHL_valid : validOpd opHL = true := by decide +kernel
theorem accum_all {s : ByteArray} {l : List Opd} (P : Opd → Prop) (hA : P regA) (h : ∀ y ∈ l, P y) : ∀ y ∈ accum s l, P y := by
  intro y hy
  unfold accum at hy
  split at hy
  · split at hy
    · rcases List.mem_cons.1 hy with rfl | hy
      · exact hA
      · exact h y hy
    · exact h y hy
  · split at hy
    · exact h y (by simp at hy ⊢; exact .inr hy)
    · exact h y hy
  · exact h y hy
theorem exch_all {s : ByteArray} {l : List Opd} (P : Opd → Prop) (hD : P opDE) (hH : P opHL) (h : ∀ y ∈ l, P y) : ∀ y ∈ exch s l, P y := by
  intro y hy
  unfold exch at hy
  split at hy
  · simp at hy
    rcases hy with rfl | rfl
    · exact hD
    · exact hH
  · exact h y hy
theorem accum_len {s : ByteArray} {l : List Opd} (h : l.length ≤ 3) : (accum s l).length ≤ 3 := by
  unfold accum
  split
  · split <;> simp
  · split <;> simp
  · exact h
theorem exch_len {s : ByteArray} {l : List Opd} (h : l.length ≤ 3) : (exch s l).length ≤ 3 := by
  unfold exch
  split
  · simp
  · exact h
theorem canonArgs_eq (s : ByteArray) (l : List Opd) : canonArgs s l = (exch s (accum s l)).map (numb (sizeOfW (width ⟨s, l⟩))) := by
  unfold canonArgs; dsimp only; rw [width_exac]
theorem canon_check {x : Ins} (h : check07 x = 0) : check07 (canonOf x) = 0 := by
  obtain ⟨h1, h2, h3⟩ := check_zero h
  obtain ⟨s, l⟩ := x
  refine zero_check h1 ?_ ?_
  · show (canonArgs s l).length ≤ 3
    rw [canonArgs_eq, List.length_map]
    exact exch_len (accum_len h2)
  · show ∀ y ∈ canonArgs s l, validOpd y = true
    rw [canonArgs_eq]
    intro y hy
    obtain ⟨z, hz, rfl⟩ := List.mem_map.1 hy
    exact numb_valid (exch_all (validOpd · = true) opDE_valid opHL_valid (accum_all (validOpd · = true) regA_valid h3) z hz)
theorem canon_numb {x : Ins} (h : check07 x = 0) : ∀ y ∈ (canonOf x).args, y.kind = 6 → y.n < 0 → width x ≠ 2 ∧ (width x = 1 → y.n < -128) := by
  obtain ⟨_, _, h3⟩ := check_zero h
  obtain ⟨s, l⟩ := x
  show ∀ y ∈ canonArgs s l, _
  rw [canonArgs_eq]
  intro y hy hk hn
  obtain ⟨z, hz, rfl⟩ := List.mem_map.1 hy
  have hv := exch_all (validOpd · = true) opDE_valid opHL_valid (accum_all (validOpd · = true) regA_valid h3) z hz
  rw [numb_kind] at hk
  obtain ⟨_, v2, v3⟩ := valid_imm hk hv
  have key : ∀ sz : Int, (numb sz z).n < 0 → z.n < 0 ∧ (1 < sz → z.n < -(sz / 2)) ∧ (numb sz z).n ≤ z.n ∨ sz ≤ 0 := by
    intro sz hlt
    by_cases hc : z.kind = 6 ∧ z.n < 0 ∧ -(sz / 2) ≤ z.n ∧ 1 < sz
    · have e : numb sz z = { z with n := z.n + sz } := by unfold numb; rw [if_pos hc]
      rw [e] at hlt
      dsimp only at hlt
      omega
    · have e : numb sz z = z := by unfold numb; rw [if_neg hc]
      rw [e] at hlt ⊢
      left
      exact ⟨hlt, fun h1 => by
        have : ¬ (-(sz / 2) ≤ z.n) := fun h2 => hc ⟨hk, hlt, h2, h1⟩
        omega, Int.le_refl _⟩
  rcases width_cases ⟨s, l⟩ with hw | hw | hw <;> rw [hw] at hn ⊢ <;> simp only [sizeOfW] at hn ⊢
  · simp
  · rcases key 256 hn with ⟨k1, k2, k3⟩ | k
    · refine ⟨by decide, fun _ => ?_⟩
      have := k2 (by decide)
      exact Int.lt_of_le_of_lt k3 (by omega)
    · omega
  · rcases key 65536 hn with ⟨k1, k2, k3⟩ | k
    · have := k2 (by decide)
      omega
    · omega
end Go.Proofs.YtkkjoghfdmmpaaaDoor
