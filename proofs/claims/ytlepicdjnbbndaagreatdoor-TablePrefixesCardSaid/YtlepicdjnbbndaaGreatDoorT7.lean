/-
  table.named; (table.rule).field; (*table.builder).number. Conditions: sizes; the library's table as its initialiser lays it.
-/
import Derived.Test.YtlepicdjnbbndaaGreatDoorT6
namespace Go.Proofs.YtlepicdjnbbndaaGreatDoor
open Go.RowKit Go.Shelf

/-- the number of a field -/
def fieldF (c : UInt8) (op : Nat) : Nat → Nat → List UInt8 → Nat
  | _, acc, [] => acc
  | i, acc, x :: r => fieldF c op (i + 1) (if x = c then 2 * acc + op / 2 ^ (7 - i) % 2 else acc) r
theorem fieldF_yes {c : UInt8} {op k acc : Nat} {l : List UInt8} (hk : k < l.length) (h : l[k] = c) : fieldF c op k acc (l.drop k) = fieldF c op (k + 1) (2 * acc + op / 2 ^ (7 - k) % 2) (l.drop (k + 1)) := by
  rw [List.drop_eq_getElem_cons hk, fieldF, if_pos h]
theorem fieldF_no {c : UInt8} {op k acc : Nat} {l : List UInt8} (hk : k < l.length) (h : l[k] ≠ c) : fieldF c op k acc (l.drop k) = fieldF c op (k + 1) acc (l.drop (k + 1)) := by
  rw [List.drop_eq_getElem_cons hk, fieldF, if_neg h]
set_option maxHeartbeats 2000000 in
set_option maxRecDepth 100000 in
theorem field_any (bits : ByteArray) (rop : ByteArray) (ra : Value) (al : Bool) (c : UInt8) (op : Nat) (w : World) (hb : bits.size ≤ 8) (hop : op < 256) (hra : ∃ a n c, ra = .slice a n c) :
    Calls Tryz.prog 200 #[.agg #[.string bits, .string rop, ra, .bool al], .int .u8 c.toNat, .int .u8 op] w fun e w' => e = .returned (.int .i64 (fieldF c op 0 0 bits.data.toList)) ∧ Below w.heap.size w w' := by
  obtain ⟨ra1, ra2, ra3, rfl⟩ := hra
  have hal := (Below.refl w.heap.size w).alloc (Nat.le_refl _) (.cells #[.string bits, .string rop, .slice ra1 ra2 ra3, .bool al] 127)
  have HAL := Lib.hid hal
  have hb1 : (bits.size : Int) ≤ 8 := by omega
  have HYE := Lib.hid (fun (k acc : Nat) (hk : k < bits.data.toList.length) h => fieldF_yes (c := c) (op := op) (acc := acc) hk h)
  have HNO := Lib.hid (fun (k acc : Nat) (hk : k < bits.data.toList.length) h => fieldF_no (c := c) (op := op) (acc := acc) hk h)
  clear hal
  go_enter Tryz.func200, Tryz.ntmps200
  go_wp2
  go_loopw [7, 12] (fun v i wr => ∃ k acc : Nat, k ≤ bits.size ∧ i = .int .i64 k ∧ v = .int .i64 acc ∧ acc < 2 ^ k ∧ wr = w.alloc (.cells #[.string bits, .string rop, .slice ra1 ra2 ra3, .bool al] 127) ∧ fieldF c op 0 0 bits.data.toList = fieldF c op k acc (bits.data.toList.drop k)) (fun _ i _ => bits.size - (intOf i).toNat)
  case atStart => exact ⟨0, 0, Nat.zero_le _, rfl, rfl, by decide, rfl, by rw [List.drop_zero]⟩
  case round =>
    obtain ⟨k, acc, hk, rfl, rfl, hac, rfl, hx⟩ := hrel
    have HX := Lib.hid hx
    have HAC := Lib.hid hac
    have hacc : acc ≤ 256 := by
      have : 2 ^ k ≤ 2 ^ 8 := Nat.pow_le_pow_right (by omega) (by omega)
      omega
    clear hx hac
    by_cases hlt : k < bits.size
    · have hkl : k < bits.data.toList.length := by simpa using hlt
      have e1 : bits.data.toList[k] = bits[k] := rfl
      have HY := Lib.hid (HYE.out k acc hkl)
      have HN := Lib.hid (HNO.out k acc hkl)
      rw [e1] at HY HN
      clear e1
      have hk7 : (k : Int) ≤ 7 := by omega
      have hsb := shr_and1 op (7 - k) hop
      have hb2 : op / 2 ^ (7 - k) % 2 < 2 := Nat.mod_lt _ (by omega)
      generalize op / 2 ^ (7 - k) % 2 = bt at *
      have hac1 : (acc : Int) ≤ 256 := by omega
      have hbt : (bt : Int) ≤ 1 := by omega
      have hP : 2 ^ (k + 1) = 2 * 2 ^ k := by rw [Nat.pow_succ, Nat.mul_comm]
      have HP2 := Lib.hid hP
      clear hP
      by_cases hc : bits[k] = c
      · have hbe : ((bits[k].toNat : Int) == (c.toNat : Int)) = true := by rw [hc]; simp
        have HE := Lib.hid (HY.out hc)
        clear hc HY HN
        go_wp2
        go_roundw
        case rel => exact ⟨k + 1, 2 * acc + bt, by omega, by go_num, by go_num, by rw [HP2.out]; have := HAC.out; omega, trivial, HX.out.trans HE.out⟩
        case measure => simp [intOf]; omega
      · have hbe : ((bits[k].toNat : Int) == (c.toNat : Int)) = false := by rw [beq_eq_false_iff_ne]; intro e; exact hc (UInt8.toNat_inj.1 (by omega))
        have HE := Lib.hid (HN.out hc)
        clear hc HY HN
        go_wp2
        go_roundw
        case rel => exact ⟨k + 1, acc, by omega, by go_num, rfl, by rw [HP2.out]; have := HAC.out; omega, trivial, HX.out.trans HE.out⟩
        case measure => simp [intOf]; omega
    · obtain rfl : k = bits.size := by omega
      have HE : Hid (fieldF c op 0 0 bits.data.toList = acc) := by
        show _ = _
        rw [HX.out, List.drop_eq_nil_of_le (by simp), fieldF]
      go_wp2
      go_ret
      exact ⟨ret_int (by rw [HE.out]), HAL.out⟩
end Go.Proofs.YtlepicdjnbbndaaGreatDoor
