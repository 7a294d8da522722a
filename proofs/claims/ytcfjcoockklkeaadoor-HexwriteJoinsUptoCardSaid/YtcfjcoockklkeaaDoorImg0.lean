/-
  PLAIN: sets of addresses as words of 64 bits. Conditions: none.
-/
import Derived.WalkKit
namespace Go.Proofs.YtcfjcoockklkeaaDoor

theorem tb1 (j : Nat) : Nat.testBit 1 j = decide (j = 0) := by
  cases j with
  | zero => rfl
  | succ n => rw [Nat.testBit_succ]; simp
/-- the bits of d from base on, n of them -/
def bitsTo (d : Nat → Bool) (base : Nat) : Nat → Nat
  | 0 => 0
  | n + 1 => bitsTo d base n ||| (if d (base + n) then 1 <<< n else 0)
theorem bitsTo_lt (d : Nat → Bool) (base : Nat) : ∀ n, bitsTo d base n < 2 ^ n
  | 0 => by simp [bitsTo]
  | n + 1 => by
    have h := bitsTo_lt d base n
    refine Nat.or_lt_two_pow (Nat.lt_trans h (Nat.pow_lt_pow_right (by omega) (by omega))) ?_
    split
    · rw [Nat.shiftLeft_eq, Nat.one_mul]; exact Nat.pow_lt_pow_right (by omega) (by omega)
    · exact Nat.two_pow_pos _
theorem bitsTo_bit (d : Nat → Bool) (base j : Nat) : ∀ n, (bitsTo d base n).testBit j = (decide (j < n) && d (base + j))
  | 0 => by simp [bitsTo]
  | n + 1 => by
    rw [bitsTo, Nat.testBit_or, bitsTo_bit d base j n]
    by_cases hj : j = n
    · subst hj
      cases h : d (base + j) <;> simp [Nat.testBit_shiftLeft]
    · have h0 : (if d (base + n) = true then 1 <<< n else 0).testBit j = false := by
        split
        · rw [Nat.testBit_shiftLeft]
          by_cases hjn : n ≤ j
          · have : 1 ≤ j - n := by omega
            simp [tb1, show j - n ≠ 0 by omega]
          · simp [hjn]
        · simp
      rw [h0, Bool.or_false]
      congr 1
      simp; omega
/-- word i of the set d -/
def wordOf (d : Nat → Bool) (i : Nat) : Nat := bitsTo d (i * 64) 64
theorem wordOf_lt (d : Nat → Bool) (i : Nat) : wordOf d i < 2 ^ 64 := bitsTo_lt d _ 64
theorem wordOf_bit (d : Nat → Bool) (i j : Nat) : (wordOf d i).testBit j = (decide (j < 64) && d (i * 64 + j)) := bitsTo_bit d _ j 64
theorem wordOf_congr {d e : Nat → Bool} {i : Nat} (h : ∀ j, j < 64 → d (i * 64 + j) = e (i * 64 + j)) : wordOf d i = wordOf e i := by
  apply Nat.eq_of_testBit_eq
  intro j
  rw [wordOf_bit, wordOf_bit]
  by_cases hj : j < 64
  · simp [hj, h j hj]
  · simp [hj]
def addTo (d : Nat → Bool) (a : Nat) : Nat → Bool := fun x => d x || x == a
theorem wordOf_add (d : Nat → Bool) (a : Nat) : wordOf (addTo d a) (a / 64) = wordOf d (a / 64) ||| (1 <<< (a % 64)) := by
  apply Nat.eq_of_testBit_eq
  intro j
  rw [wordOf_bit, Nat.testBit_or, wordOf_bit, Nat.testBit_shiftLeft]
  have ha : a = a / 64 * 64 + a % 64 := by omega
  have hm := Nat.mod_lt a (show 0 < 64 by omega)
  by_cases hj : j = a % 64
  · subst hj
    simp [addTo, hm, ← ha]
  · have h1 : (a / 64 * 64 + j == a) = false := by simp; omega
    by_cases hjm : a % 64 ≤ j
    · have h2 : j - a % 64 ≠ 0 := by omega
      simp [addTo, h1, tb1, h2]
    · simp [addTo, h1, hjm]
theorem wordOf_other (d : Nat → Bool) (a i : Nat) (h : i ≠ a / 64) : wordOf (addTo d a) i = wordOf d i :=
  wordOf_congr fun j hj => by simp [addTo]; omega
/-- how many of the first n addresses are in the set -/
def cnt (d : Nat → Bool) : Nat → Nat
  | 0 => 0
  | n + 1 => cnt d n + if d n then 1 else 0
theorem cnt_le (d : Nat → Bool) : ∀ n, cnt d n ≤ n
  | 0 => Nat.le_refl _
  | n + 1 => by have := cnt_le d n; unfold cnt; split <;> omega
theorem cnt_add {d : Nat → Bool} {a : Nat} (h : d a = false) : ∀ n, cnt (addTo d a) n = cnt d n + if a < n then 1 else 0
  | 0 => by simp [cnt]
  | n + 1 => by
    rw [cnt, cnt, cnt_add h n]
    by_cases hn : n = a
    · subst hn; simp [addTo, h]
    · have h1 : addTo d a n = d n := by simp [addTo, hn]
      rw [h1]
      by_cases hl : a < n
      · have h2 : a < n + 1 := by omega
        simp only [hl, h2, if_true]; omega
      · have h2 : ¬ a < n + 1 := by omega
        simp only [hl, h2, if_false]; omega
/-- the first address from a on, below n, that is in the set (or is not): n if there is none -/
def nextUpto (d : Nat → Bool) (b : Bool) : Nat → Nat → Nat
  | 0, a => a
  | f + 1, a => if d a == b then a else nextUpto d b f (a + 1)
def nextS (d : Nat → Bool) (b : Bool) (a : Nat) : Nat := if a < 65536 then nextUpto d b (65536 - a) a else 65536
theorem nextUpto_spec (d : Nat → Bool) (b : Bool) : ∀ f a, a ≤ nextUpto d b f a ∧ nextUpto d b f a ≤ a + f ∧ (∀ x, a ≤ x → x < nextUpto d b f a → (d x == b) = false) ∧ (nextUpto d b f a < a + f → (d (nextUpto d b f a) == b) = true)
  | 0, a => by simp [nextUpto]; omega
  | f + 1, a => by
    obtain ⟨h1, h2, h3, h4⟩ := nextUpto_spec d b f (a + 1)
    unfold nextUpto
    by_cases h : (d a == b) = true
    · rw [if_pos h]
      exact ⟨Nat.le_refl _, by omega, fun x hx hx2 => by omega, fun _ => h⟩
    · rw [if_neg h]
      refine ⟨by omega, by omega, fun x hx hx2 => ?_, fun hl => h4 (by omega)⟩
      by_cases e : x = a
      · subst e; simpa using h
      · exact h3 x (by omega) hx2
/-- What 'next' answers is the one number with these properties. -/
theorem nextS_eq {d : Nat → Bool} {b : Bool} {a r : Nat} (h1 : a ≤ r) (h2 : r ≤ 65536) (h3 : ∀ x, a ≤ x → x < r → (d x == b) = false) (h4 : r < 65536 → (d r == b) = true) : nextS d b a = r := by
  unfold nextS
  by_cases ha : a < 65536
  · rw [if_pos ha]
    obtain ⟨g1, g2, g3, g4⟩ := nextUpto_spec d b (65536 - a) a
    generalize nextUpto d b (65536 - a) a = q at *
    rcases Nat.lt_trichotomy q r with hlt | heq | hgt
    · have e1 := h3 q g1 hlt
      have e2 := g4 (by omega)
      rw [e1] at e2; cases e2
    · exact heq
    · have e1 := g3 r h1 hgt
      have e2 := h4 (by omega)
      rw [e1] at e2; cases e2
  · rw [if_neg ha]; omega
theorem nextS_spec (d : Nat → Bool) (b : Bool) (a : Nat) (ha : a ≤ 65536) : a ≤ nextS d b a ∧ nextS d b a ≤ 65536 ∧ (∀ x, a ≤ x → x < nextS d b a → (d x == b) = false) ∧ (nextS d b a < 65536 → (d (nextS d b a) == b) = true) := by
  unfold nextS
  by_cases h : a < 65536
  · rw [if_pos h]
    obtain ⟨g1, g2, g3, g4⟩ := nextUpto_spec d b (65536 - a) a
    exact ⟨g1, by omega, g3, fun hl => g4 (by omega)⟩
  · rw [if_neg h]
    exact ⟨by omega, Nat.le_refl _, fun x hx hx2 => by omega, fun hl => by omega⟩
end Go.Proofs.YtcfjcoockklkeaaDoor
