/-
  breadboardref01.Hex. Conditions: none.
-/
import Derived.Test.YtcfjcoockklkeaaDoorImg7
namespace Go.Proofs.YtcfjcoockklkeaaDoor
open Go.RowKit

def digs : List UInt8 := [48, 49, 50, 51, 52, 53, 54, 55, 56, 57, 65, 66, 67, 68, 69, 70]
/-- the last k digits of n -/
def hexs (n : Nat) : Nat → List UInt8
  | 0 => []
  | k + 1 => hexs (n / 16) k ++ [digs.getD (n % 16) 0]
theorem hexs_len : ∀ (k n : Nat), (hexs n k).length = k
  | 0, _ => rfl
  | k + 1, n => by rw [hexs, List.length_append, hexs_len k]; rfl
theorem hexs_step (m j : Nat) (l : List UInt8) : hexs m (j + 1) ++ l = hexs (m / 16) j ++ (digs.getD (m % 16) 0 :: l) := by
  rw [hexs, List.append_assoc]; rfl

theorem i64_and15 (m : Nat) : bits .and .i64 (m : Int) 15 = ((m % 16 : Nat) : Int) := by
  have h15 : (BitVec.ofInt 64 15).toNat = 2 ^ 4 - 1 := by decide
  have key : (BitVec.ofInt 64 (m : Int) &&& BitVec.ofInt 64 15).toNat = ((m : Int) % ((2 ^ 64 : Nat) : Int)).toNat % 2 ^ 4 := by
    rw [BitVec.toNat_and, BitVec.toNat_ofInt, h15, Nat.and_two_pow_sub_one_eq_mod]
  show IntKind.i64.wrap ((BitVec.ofInt 64 (m : Int) &&& BitVec.ofInt 64 15).toNat : Nat) = ((m % 16 : Nat) : Int)
  rw [key, IntKind.wrap_i64]
  omega
def digB (d : Nat) : ByteArray := ⟨#[digs.getD d 0]⟩
def digS : ByteArray := ⟨#[48, 49, 50, 51, 52, 53, 54, 55, 56, 57, 65, 66, 67, 68, 69, 70]⟩
theorem dig_cut (d : Nat) (hd : d < 16) : digS.extract d (d + 1) = digB d := by
  obtain h | h | h | h | h | h | h | h | h | h | h | h | h | h | h | h : d = 0 ∨ d = 1 ∨ d = 2 ∨ d = 3 ∨ d = 4 ∨ d = 5 ∨ d = 6 ∨ d = 7 ∨ d = 8 ∨ d = 9 ∨ d = 10 ∨ d = 11 ∨ d = 12 ∨ d = 13 ∨ d = 14 ∨ d = 15 := by omega
  all_goals subst h; rfl
theorem run_dig (d : Nat) (hd : d < 16) (w : World) : (Instr.sliceAt 9 (.string ⟨#[48, 49, 50, 51, 52, 53, 54, 55, 56, 57, 65, 66, 67, 68, 69, 70]⟩) (some (.int .i64 (d : Int))) (some (.int .i64 ((d : Int) + 1))) none).run Tryd.prog w = .ok (.string (digB d)) w := by
  have hu : Tryd.prog.underlying 9 = some .string := by kernel_rfl
  rw [run_sliceAt_string _ _ _ _ _ _ hu, run_slice_string_if _ _ _ _ _ _ _ hu, if_pos ⟨by omega, by show (d : Int) + 1 ≤ 16; omega⟩, if_pos ⟨by omega, by omega⟩]
  have e : ((d : Int) + 1).toNat = d + 1 := by omega
  rw [e, Int.toNat_natCast, ← dig_cut d hd]
  rfl

set_option maxRecDepth 100000 in
set_option maxHeartbeats 2000000 in
theorem Hex01_any (n k : Nat) (w : World) (hn : n ≤ 1000000) (hk : k ≤ 100) :
    Calls Tryd.prog 48 #[.int .i64 n, .int .i64 k] w fun e w' => (∃ s : ByteArray, e = .returned (.string s) ∧ s.data.toList = hexs n k) ∧ w = w' := by
  go_enter Tryd.func48, Tryd.ntmps48
  go_wp2
  go_loop [0, 5, 6] (fun x y z => ∃ (m i : Nat) (s : ByteArray), x = .int .i64 m ∧ y = .string s ∧ z = .int .i64 i ∧ m ≤ 1000000 ∧ i ≤ k ∧ s.size = i ∧ hexs n k = hexs m (k - i) ++ s.data.toList) (fun _ _ z => k - (intOf z).toNat)
  case atStart => exact ⟨n, 0, ⟨#[]⟩, rfl, rfl, rfl, hn, Nat.zero_le _, rfl, by simp⟩
  case round =>
    obtain ⟨m, i, s, rfl, rfl, rfl, hm, hi, hs, hx⟩ := hrel
    have HX := Lib.hid hx
    have HS := Lib.hid hs
    clear hx
    by_cases hlt : i < k
    · have h0 : (0 : Int) ≤ (m : Int) := by omega
      have hm1 : (m : Int) ≤ 1000000 := by omega
      have hss : s.size ≤ 1000 := by omega
      have hi0 : (0 : Int) ≤ (i : Int) := by omega
      have him : (i : Int) ≤ 100 := by omega
      have hand := i64_and15 m
      have hd : m % 16 < 16 := Nat.mod_lt _ (by omega)
      have hrun := run_dig (m % 16) hd
      have HM := Lib.hid (hexs_step m (k - i - 1) s.data.toList)
      go_upto_region 6 with fail
      have hgen : (m : Int) % 16 = ((m % 16 : Nat) : Int) := by omega
      rw [hgen]
      clear hand hgen
      generalize m % 16 = d at *
      have hd0 : (0 : Int) ≤ (d : Int) := by omega
      have hd1 : (d : Int) ≤ 15 := by omega
      have hds : (digB d).size = 1 := rfl
      go_wp2
      refine ⟨⟨m / 16, i + 1, digB d ++ s, by go_num, rfl, by go_num, by omega, by omega, by rw [ByteArray.size_append, hds, HS.out]; omega, ?_⟩, by simp [intOf]; omega⟩
      have e := HM.out
      rw [show k - i - 1 + 1 = k - i by omega] at e
      rw [HX.out, e, show k - (i + 1) = k - i - 1 by omega, ByteArray.data_append, Array.toList_append]
      rfl
    · obtain rfl : i = k := by omega
      go_wp2
      go_ret
      exact ⟨⟨s, rfl, by rw [HX.out, Nat.sub_self]; rfl⟩, rfl⟩
end Go.Proofs.YtcfjcoockklkeaaDoor
