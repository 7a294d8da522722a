/-
  Images in memory; image.set.add. Conditions: none.
-/
import Derived.Test.YtcfjcoockklkeaaDoorImg0
import Derived.Test.YtcfjcoockklkeaaDoorG1
import Derived.BigRegion
import Derived.Laws.BitsAllLaws
namespace Go.Proofs.YtcfjcoockklkeaaDoor
open Go.RowKit

/-- Which addresses have which bytes. -/
abbrev Mem := Nat → Option UInt8
def dom (m : Mem) : Nat → Bool := fun a => (m a).isSome
/-- Block b is an image: 1024 words, the count, 65536 bytes; the words say d, the bytes v. -/
structure ImgC (w : World) (b : Nat) (d : Nat → Bool) (v : Nat → UInt8) (n : Nat) : Prop where
  words : ∀ i, i < 1024 → w.cell? ⟨b, i, none⟩ = some (.int .u64 (wordOf d i))
  count : w.cell? ⟨b, 1024, none⟩ = some (.int .i64 n)
  bytes : ∀ a, a < 65536 → w.cell? ⟨b, 1025 + a, none⟩ = some (.int .u8 (v a).toNat)
  free : ∀ o, w.frozen? ⟨b, o, none⟩ = false
theorem ImgC.lt {w : World} {b n : Nat} {d : Nat → Bool} {v : Nat → UInt8} (h : ImgC w b d v n) : b < w.heap.size := World.block_lt_of_cell? _ _ h.count
theorem ImgC.below {w w' : World} {b n B : Nat} {d : Nat → Bool} {v : Nat → UInt8} (h : ImgC w b d v n) (hb : Below B w w') (hB : b < B) : ImgC w' b d v n :=
  ⟨fun i hi => (hb.cell (p := ⟨b, i, none⟩) hB).trans (h.words i hi), (hb.cell (p := ⟨b, 1024, none⟩) hB).trans h.count, fun a ha => (hb.cell (p := ⟨b, 1025 + a, none⟩) hB).trans (h.bytes a ha), fun o => (hb.frozen (p := ⟨b, o, none⟩) hB).trans (h.free o)⟩

theorem wrap_pow {k : Nat} (h : k < 64) : IntKind.u64.wrap ((2 : Int) ^ k) = ((1 <<< k : Nat) : Int) := by
  have h1 : (2 : Nat) ^ k < 2 ^ 64 := Nat.pow_lt_pow_right (by omega) h
  have h2 : ((2 : Int) ^ k) = ((2 ^ k : Nat) : Int) := by simp
  rw [h2, Nat.shiftLeft_eq, Nat.one_mul]
  generalize 2 ^ k = x at *
  have h3 : (x : Int) < 18446744073709551616 := by
    have : (2 : Nat) ^ 64 = 18446744073709551616 := by decide
    omega
  have e2 : ((2 : Int) ^ IntKind.u64.bits) = 18446744073709551616 := by decide
  have e : IntKind.u64.signed = false := rfl
  simp only [IntKind.wrap, e, e2, Bool.false_and]
  rw [if_neg (by simp)]
  omega
theorem or_add (d : Nat → Bool) (a : Nat) : bits .or .u64 ((wordOf d (a / 64) : Nat) : Int) (IntKind.u64.wrap ((2 : Int) ^ (a % 64))) = ((wordOf (addTo d a) (a / 64) : Nat) : Int) := by
  rw [wrap_pow (Nat.mod_lt a (by omega)), wordOf_add]
  have h1 : (2 : Nat) ^ 64 = 18446744073709551616 := by decide
  have h2 := wordOf_lt d (a / 64)
  have h3 : 1 <<< (a % 64) < 2 ^ 64 := by rw [Nat.shiftLeft_eq, Nat.one_mul]; exact Nat.pow_lt_pow_right (by omega) (Nat.mod_lt a (by omega))
  exact u64_or_nat _ _ (by omega) (by omega)
theorem ImgC.drew {w : World} {b n : Nat} {d : Nat → Bool} {v : Nat → UInt8} (h : ImgC w b d v n) : ImgC w.drew b d v n := ⟨h.words, h.count, h.bytes, h.free⟩
theorem ImgC.add {w : World} {b n a : Nat} {d : Nat → Bool} {v : Nat → UInt8} (h : ImgC w b d v n) (ha : a < 65536) :
    ImgC ((w.setCell ⟨b, a / 64, none⟩ (.int .u64 (wordOf (addTo d a) (a / 64)))).setCell ⟨b, 1024, none⟩ (.int .i64 ((n : Int) + 1))) b (addTo d a) v (n + 1) := by
  refine ⟨fun i hi => ?_, ?_, fun x hx => ?_, fun o => ?_⟩
  · rw [World.cell?_setCell_other _ _ _ _ (by intro e; injection e with _ e2; omega)]
    by_cases hia : i = a / 64
    · subst hia
      exact World.cell?_setCell_same' _ _ _ (by rw [h.words _ hi]; rfl)
    · rw [World.cell?_setCell_other _ _ _ _ (by intro e; injection e with _ e2; omega), h.words i hi, wordOf_other d a i hia]
  · exact World.cell?_setCell_same' _ _ _ (by rw [World.cell?_setCell_other _ _ _ _ (by intro e; injection e with _ e2; omega), h.count]; rfl)
  · rw [World.cell?_setCell_other _ _ _ _ (by intro e; injection e with _ e2; omega), World.cell?_setCell_other _ _ _ _ (by intro e; injection e with _ e2; omega)]
    exact h.bytes x hx
  · rw [World.frozen?_setCell, World.frozen?_setCell]; exact h.free o

set_option maxHeartbeats 1000000 in
theorem setAdd_any (b n a : Nat) (d : Nat → Bool) (v : Nat → UInt8) (w : World) (h : ImgC w b d v n) (ha : a < 65536) (hn : n ≤ 1000000000) :
    Calls Tryd.prog 65 #[.pointer (some ⟨b, 0, none⟩), .int .i64 a] w fun e w' => e = .returned (.tuple #[]) ∧ ImgC w' b (addTo d a) v (n + 1) ∧ ∃ q, w' = ((w.setCell ⟨b, a / 64, none⟩ (.int .u64 (wordOf (addTo d a) (a / 64)))).setCell ⟨b, 1024, none⟩ (.int .i64 ((n : Int) + 1))).drewN q := by
  have hw := h.words (a / 64) (by omega)
  have hc := h.count
  have hf := h.free
  have hai : (0 : Int) ≤ a := by omega
  have hai2 : (a : Int) / 64 < 1024 := by omega
  have hai3 : (0 : Int) ≤ (a : Int) / 64 := by omega
  have HO := Lib.hid (or_add d a)
  have HH := Lib.hid (h.add ha)
  generalize wordOf d (a / 64) = W at *
  clear h
  go_enter Tryd.func65, Tryd.ntmps65
  go_wp2
  go_region
  all_goals
    go_wp2
    go_end0
    rw [HO.out]
    exact ⟨rfl, HH.out.drew, 1, rfl⟩
end Go.Proofs.YtcfjcoockklkeaaDoor
