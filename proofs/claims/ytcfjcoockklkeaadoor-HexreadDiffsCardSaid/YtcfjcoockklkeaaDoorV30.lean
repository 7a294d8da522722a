/-
  image.set.has. Conditions: none.
-/
import Derived.Test.YtcfjcoockklkeaaDoorM6
namespace Go.Proofs.YtcfjcoockklkeaaDoor
open Go.RowKit

theorem and_has (d : Nat → Bool) (a : Nat) : bits .and .u64 (((wordOf d (a / 64) : Nat) : Int) / 2 ^ (a % 64)) 1 = if d a = true then 1 else 0 := by
  rw [seg_true]
  have h1 := seg_bit d true a 0
  have h2 := seg_lt d true a
  have h3 : a % 64 + 0 < 64 := by omega
  rw [decide_eq_true h3] at h1
  simp only [Bool.true_and, Nat.add_zero, Nat.testBit_zero] at h1
  generalize segN d true a = s at *
  have h4 : s &&& 1 = s % 2 := Nat.and_one_is_mod s
  have h5 : bits .and .u64 (s : Int) ((1 : Nat) : Int) = ((s &&& 1 : Nat) : Int) := u64_and_nat _ _ (by omega) (by omega)
  rw [show ((1 : Nat) : Int) = 1 from rfl] at h5
  rw [h5, h4]
  cases hd : d a
  · rw [hd] at h1
    have : ¬ s % 2 = 1 := by simpa using h1
    rw [if_neg (by decide)]
    omega
  · rw [hd] at h1
    have : s % 2 = 1 := by simpa using h1
    rw [if_pos rfl]
    omega
set_option maxHeartbeats 1000000 in
theorem setHas_any (b n a : Nat) (d : Nat → Bool) (v : Nat → UInt8) (w : World) (h : ImgC w b d v n) (ha : a < 65536) :
    Calls Tryd.prog 112 #[.pointer (some ⟨b, 0, none⟩), .int .i64 a] w fun e w' => e = .returned (.bool (d a)) ∧ w' = w := by
  have hw := h.words (a / 64) (by omega)
  have hai : (0 : Int) ≤ a := by omega
  have hai2 : (a : Int) / 64 < 1024 := by omega
  have hai3 : (0 : Int) ≤ (a : Int) / 64 := by omega
  have HO := Lib.hid (and_has d a)
  generalize wordOf d (a / 64) = W at *
  clear h
  go_enter Tryd.func112, Tryd.ntmps112
  go_wp2
  go_ret
  rw [HO.out]
  cases d a <;> exact ⟨rfl, rfl⟩
end Go.Proofs.YtcfjcoockklkeaaDoor
