/-
  The bytes of an image from an address on, in plain words. Conditions: none.
-/
import Derived.Test.YtmpmciccgempeaaGreatDoorBD2
import Derived.Test.YtmpmciccgempeaaGreatDoorBD1
import Derived.Test.YtmpmciccgempeaaGreatDoorBN1
import Derived.Test.YtmpmciccgempeaaGreatDoorBA1
import Derived.Test.YtmpmciccgempeaaGreatDoorBC1
import Derived.Test.YtmpmciccgempeaaGreatDoorBR1
import Derived.Test.YtmpmciccgempeaaGreatDoorChecked
import Derived.Test.YtmpmciccgempeaaGreatDoorShelf
namespace Go.Proofs.YtmpmciccgempeaaGreatDoor
open Go.RowKit

/-- the byte at an address -/
def gB (d : Nat → Bool) (v : Nat → UInt8) (a : Int) : Option UInt8 := if 0 ≤ a ∧ a < 65536 ∧ d a.toNat = true then some (v a.toNat) else none
/-- the bytes from an address on, at most n -/
def bys (d : Nat → Bool) (v : Nat → UInt8) : Int → Nat → List UInt8
  | _, 0 => []
  | a, n + 1 => match gB d v a with
    | some b => b :: bys d v (a + 1) n
    | none => []
theorem bys_some {d : Nat → Bool} {v : Nat → UInt8} {a : Int} {n : Nat} {b : UInt8} (h : gB d v a = some b) : bys d v a (n + 1) = b :: bys d v (a + 1) n := by rw [bys, h]
theorem bys_none {d : Nat → Bool} {v : Nat → UInt8} {a : Int} {n : Nat} (h : gB d v a = none) : bys d v a n = [] := by
  cases n with
  | zero => rfl
  | succ n => rw [bys, h]
theorem bys_len (d : Nat → Bool) (v : Nat → UInt8) : ∀ (n : Nat) (a : Int), (bys d v a n).length ≤ n
  | 0, _ => Nat.le_refl _
  | n + 1, a => by
    rw [bys]
    split
    · have := bys_len d v n (a + 1)
      simp
      omega
    · simp
theorem gB_in {d : Nat → Bool} {v : Nat → UInt8} {a : Nat} (h : a < 65536) : gB d v (a : Int) = if d a = true then some (v a) else none := by
  unfold gB
  rw [Int.toNat_natCast]
  by_cases hd : d a = true
  · rw [if_pos ⟨by omega, by omega, hd⟩, if_pos hd]
  · rw [if_neg (fun h => hd h.2.2), if_neg hd]
theorem gB_out {d : Nat → Bool} {v : Nat → UInt8} {a : Int} (h : a < 0 ∨ 65535 < a) : gB d v a = none := if_neg (by omega)
theorem segC_head0 (d : Nat → Bool) (v : Nat → UInt8) (n a : Nat) (c : cJ) (h : (gH d v a (n + 1))[0]? = some c) : (d a = true → c = ⟨a, v a⟩) ∧ (d a = false → a < c.addr) := by
  rw [gH] at h
  constructor
  · intro hd
    rw [if_pos hd] at h
    simp at h
    exact h.symm
  · intro hd
    rw [hd, if_neg (by decide), List.nil_append] at h
    have := (uT _ _ (List.mem_of_getElem? h)).1
    omega
theorem segC_yes {d : Nat → Bool} {v : Nat → UInt8} {n a : Nat} (hd : d a = true) : (gH d v a (n + 1))[0]? = some ⟨a, v a⟩ := by
  rw [gH, if_pos hd]
  rfl
theorem cells_find {d : Nat → Bool} {v : Nat → UInt8} {a : Nat} (ha : a < 65536) : (eU d v)[aT (a : Int) (eU d v)]? = (gH d v a (65536 - a))[0]? := by
  have hsp : eU d v = gH d v 0 a ++ gH d v a (65536 - a) := by
    unfold eU
    rw [show 65536 = a + (65536 - a) by omega, iB, Nat.zero_add, show a + (65536 - a) - a = 65536 - a by omega]
  have hf : aT (a : Int) (eU d v) = (gH d v 0 a).length := by
    rw [hsp]
    exact sZ (fun c hc => by have := (uT _ _ hc).1; omega) _ (fun c hc => by have := (uT _ _ hc).2.1; omega)
  rw [hf, hsp, List.getElem?_append_right (Nat.le_refl _), Nat.sub_self]
/-- what the reference's search finds -/
theorem get_cell {d : Nat → Bool} {v : Nat → UInt8} {a : Int} : (∀ b, gB d v a = some b → ∃ c, (eU d v)[aT a (eU d v)]? = some c ∧ (c.addr : Int) = a ∧ c.byte = b) ∧ (gB d v a = none → ∀ c, (eU d v)[aT a (eU d v)]? = some c → ¬ (c.addr : Int) = a) := by
  by_cases hr : 0 ≤ a ∧ a < 65536
  · obtain ⟨n, rfl⟩ := Int.eq_ofNat_of_zero_le hr.1
    have hn : n < 65536 := by omega
    rw [gB_in hn, cells_find hn, show 65536 - n = (65535 - n) + 1 by omega]
    cases hd : d n
    · refine ⟨fun b h => (by cases h), fun _ c hc => ?_⟩
      have := (segC_head0 d v _ n c hc).2 hd
      omega
    · rw [if_pos rfl]
      refine ⟨fun b h => ?_, fun h => (by cases h)⟩
      injection h with h
      exact ⟨_, segC_yes hd, rfl, h⟩
  · rw [gB_out (by omega)]
    refine ⟨fun b h => (by cases h), fun _ c hc e => ?_⟩
    have := (uT _ _ (List.mem_of_getElem? hc)).2.1
    omega
end Go.Proofs.YtmpmciccgempeaaGreatDoor
