/-
  breadboardref03.Sum. Conditions: none.
-/
import Derived.Test.YtcfjcoockklkeaaDoorLow
namespace Go.Proofs.YtcfjcoockklkeaaDoor
open Go.RowKit

def sumN (l : List UInt8) : Nat := l.foldl (fun n x => (n + x.toNat) % 256) 0
theorem sumN_take {l : List UInt8} {k : Nat} {c : UInt8} (HT : l.take (k+1) = l.take k ++ [c]) : sumN (l.take (k+1)) = (sumN (l.take k) + c.toNat) % 256 := by
  unfold sumN
  rw [HT, List.foldl_append]; rfl
theorem sumN_lt (l : List UInt8) : ∀ n, n < 256 → l.foldl (fun n x => (n + x.toNat) % 256) n < 256 := by
  induction l with
  | nil => exact fun n h => h
  | cons x l ih => exact fun n _ => ih _ (Nat.mod_lt _ (by omega))
def sum03 (l : List UInt8) : UInt8 := lowB ((256 - (sumN l : Int)) % 256)

set_option maxRecDepth 100000 in
set_option maxHeartbeats 1000000 in
theorem Sum03_any (p : Blocks) (v : Value) (l : List UInt8) (w : World) (h : SlR byteR w p v l) :
    Calls Tryd.prog 91 #[v] w fun e w' => e = .returned (.int .u8 ((sum03 l).toNat : Int)) ∧ w = w' := by
  obtain ⟨a, c, rfl, hc1, hc2, g⟩ := h.byte
  have G := Lib.hid g
  have hlen : (l.length : Int) ≤ 9223372036854775807 := by omega
  have HLN := Lib.hid hlen
  clear h g hc1 hc2 hlen
  go_enter Tryd.func91, Tryd.ntmps91
  go_wp2
  go_loop [3, 4] (fun x i => ∃ k m : Nat, k ≤ l.length ∧ i = .int .i64 k ∧ x = .int .i64 m ∧ m = sumN (l.take k) ∧ m < 256) (fun _ i => l.length - (intOf i).toNat)
  case atStart => exact ⟨0, 0, Nat.zero_le _, rfl, rfl, rfl, by omega⟩
  case round =>
    obtain ⟨k, m, hk, rfl, rfl, hm, hm2⟩ := hrel
    have HM := Lib.hid hm
    clear hm
    by_cases hlt : k < l.length
    · have HT : Hid (l.take (k+1) = l.take k ++ [l[k]]) := List.take_succ_eq_append_getElem hlt
      obtain ⟨b1, o1, rfl, _, hc⟩ := G.out k l[k] (List.getElem?_eq_getElem hlt)
      have HS := Lib.hid (sumN_take HT.out)
      clear HT
      have hy : l[k].toNat < 256 := l[k].toNat_lt
      generalize l[k] = y at *
      have hk9 := HLN.out
      go_wp2
      go_round
      case rel => exact ⟨k + 1, (m + y.toNat) % 256, by omega, by go_num, by go_num, by rw [HS.out, HM.out], Nat.mod_lt _ (by omega)⟩
      case measure => simp [intOf]; omega
    · obtain rfl : k = l.length := by omega
      rw [List.take_length] at HM
      have hfin : ((sum03 l).toNat : Int) = (256 - (m : Int)) % 256 := by
        unfold sum03
        rw [lowB_is, HM.out]
        omega
      have HF := Lib.hid hfin
      clear hfin
      go_wp2
      go_ret
      exact ⟨ret_int (by rw [HF.out]; omega), rfl⟩
end Go.Proofs.YtcfjcoockklkeaaDoor
