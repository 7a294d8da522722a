/-
  PLAIN: the parts of a run, one by one. Conditions: none.
-/
import Derived.Test.YtcfjcoockklkeaaDoorP4e
namespace Go.Proofs.YtcfjcoockklkeaaDoor

theorem splitL_get {n : Nat} (hn : 0 < n) : ∀ (k a : Nat) (l : List UInt8), k * n < l.length → (splitL n a l)[k]? = some (a + k * n, (l.drop (k * n)).take n)
  | 0, a, l, h => by
    have hl : l ≠ [] := fun e => by subst e; simp at h
    rw [splitL_step hn a l hl]
    simp
  | k + 1, a, l, h => by
    have hl : l ≠ [] := fun e => by subst e; simp at h
    rw [Nat.succ_mul] at h
    rw [splitL_step hn a l hl, List.getElem?_cons_succ, splitL_get hn k (a + n) (l.drop n) (by rw [List.length_drop]; omega), List.drop_drop, Nat.succ_mul]
    rw [show a + n + k * n = a + (k * n + n) by omega, show n + k * n = k * n + n by omega]
theorem splitL_none {n : Nat} (hn : 0 < n) : ∀ (k a : Nat) (l : List UInt8), l.length ≤ k * n → (splitL n a l)[k]? = none
  | 0, a, l, h => by
    obtain rfl : l = [] := List.length_eq_zero_iff.1 (by omega)
    rfl
  | k + 1, a, l, h => by
    by_cases hl : l = []
    · subst hl; simp [splitL_nil]
    · rw [Nat.succ_mul] at h
      rw [splitL_step hn a l hl, List.getElem?_cons_succ]
      exact splitL_none hn k _ _ (by rw [List.length_drop]; omega)
theorem splitL_more {n : Nat} (hn : 0 < n) {k a : Nat} {l : List UInt8} (h : k * n < l.length) : (splitL n a l).take (k + 1) = (splitL n a l).take k ++ [(a + k * n, (l.drop (k * n)).take n)] := by
  rw [List.take_add_one, splitL_get hn k a l h]; rfl
theorem splitL_all {n : Nat} (hn : 0 < n) {a : Nat} {l : List UInt8} : (splitL n a l).take ((l.length + n - 1) / n) = splitL n a l := by
  refine List.take_of_length_le ?_
  rcases Nat.lt_or_ge ((l.length + n - 1) / n) (splitL n a l).length with h | h
  · have h1 := List.getElem?_eq_getElem h
    have hm : l.length ≤ (l.length + n - 1) / n * n := by
      have h2 := Nat.div_add_mod (l.length + n - 1) n
      have h3 := Nat.mod_lt (l.length + n - 1) hn
      rw [Nat.mul_comm] at h2
      omega
    rw [splitL_none hn _ a l hm] at h1
    cases h1
  · exact h
theorem splitL_le {n : Nat} (hn : 0 < n) (a : Nat) (l : List UInt8) : (splitL n a l).length ≤ l.length := by
  rcases Nat.lt_or_ge l.length (splitL n a l).length with h | h
  · have h1 := List.getElem?_eq_getElem h
    rw [splitL_none hn l.length a l (Nat.le_mul_of_pos_right _ hn)] at h1
    cases h1
  · exact h
end Go.Proofs.YtcfjcoockklkeaaDoor
