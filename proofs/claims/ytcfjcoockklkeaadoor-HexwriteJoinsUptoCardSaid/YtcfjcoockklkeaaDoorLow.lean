/-
  num.Low. Conditions: none.
-/
import Derived.Test.YtcfjcoockklkeaaDoorHex3
namespace Go.Proofs.YtcfjcoockklkeaaDoor
open Go.RowKit

def lowB (n : Int) : UInt8 := UInt8.ofNat (n % 256).toNat
theorem lowB_is (n : Int) : ((lowB n).toNat : Int) = n % 256 := by
  unfold lowB
  rw [UInt8.toNat_ofNat']
  omega
theorem low_byte (n : Int) : (#[Value.int .u8 (n % 256)] : Array Value) = [Value.int .u8 ((lowB n).toNat : Int)].toArray := by rw [lowB_is]
theorem low_take {l : List Int} {xs : List UInt8} {k : Nat} {c : Int} (hx : xs = (l.take k).map lowB) (HT : l.take (k+1) = l.take k ++ [c]) : xs ++ [lowB c] = (l.take (k+1)).map lowB := by
  rw [HT, List.map_append, List.map_singleton, hx]

set_option maxRecDepth 100000 in
set_option maxHeartbeats 1000000 in
theorem Low_any (p : Blocks) (v : Value) (l : List Int) (w : World) (h : SlR intR w p v l) (hn : l.length ≤ 1000000) :
    Calls Tryd.prog 118 #[v] w fun e w' => ∃ v', e = .returned v' ∧ Own byteR w' w.heap.size 5 NoB v' (l.map lowB) ∧ Below w.heap.size w w' := by
  obtain ⟨a, c, rfl, _⟩ := h.int
  have HSL := Lib.hid h
  clear h
  go_enter Tryd.func118, Tryd.ntmps118
  go_wp2
  go_loopw [3, 8] (fun v i wr => ∃ k : Nat, k ≤ l.length ∧ i = .int .i64 k ∧ Own byteR wr w.heap.size 5 NoB v ((l.take k).map lowB) ∧ Below w.heap.size w wr) (fun _ i _ => l.length - (intOf i).toNat)
  case atStart => exact ⟨0, Nat.zero_le _, rfl, Own.nil _ _ _ _ _, Below.refl _ _⟩
  case round =>
    obtain ⟨k, hk, rfl, ho, hb⟩ := hrel
    by_cases hlt : k < l.length
    · have HT : Hid (l.take (k+1) = l.take k ++ [l[k]]) := List.take_succ_eq_append_getElem hlt
      obtain ⟨ad, cd, hv, _, _, g⟩ := (HSL.out.below hb).int
      obtain ⟨rfl, _, rfl⟩ : a = ad ∧ l.length = l.length ∧ c = cd := by injection hv with h1 h2 h3; exact ⟨h1, h2, h3⟩
      obtain ⟨b1, o1, rfl, _, hc⟩ := g k l[k] (List.getElem?_eq_getElem hlt)
      clear g hv
      have hlm : ((l.take k).map lowB).length = k := by simp; omega
      generalize hx : (l.take k).map lowB = xs at *
      have HX := Lib.hid (low_take hx.symm HT.out)
      have HLM := Lib.hid hlm
      have HO := Lib.hid ho
      have HB := Lib.hid hb
      have HN := Lib.hid hn
      obtain ⟨oa, oc, rfl⟩ := ho.form
      clear hx hlm ho HT
      generalize l[k] = y at *
      have HC1 : Hid ((xs.length + 1) * 1 ≤ 140737488355328) := by have := HLM.out; show _ ≤ _; have := HN.out; omega
      have HC2 : Hid (xs.length + 1 ≤ 9223372036854775807) := by have := HLM.out; show _ ≤ _; have := HN.out; omega
      have HC := Lib.hid (low_byte y)
      go_wp2_with (at_builtin; refine wpList_push rfl (.tmp 12) (.tmp 15) 44 rfl w.heap.size 5 1 elByte _ xs (lowB y) _ rfl rfl HO.out HC.out HC1.out HC2.out HB.out.size ?_; intro a' c' w' hp; have HP := Lib.hid hp; clear hp)
      go_roundw
      case rel => exact ⟨k + 1, by omega, by go_num, by rw [← HX.out]; exact HP.out.1, HB.out.grown HP.out.2 HB.out.size (fun j hj => (HO.out.lt j hj).1)⟩
      case measure => simp [intOf]; omega
    · have hk' : k = l.length := by omega
      subst hk'
      rw [List.take_length] at ho
      have HO := Lib.hid ho
      have HB := Lib.hid hb
      clear ho hb
      go_wp2
      go_ret
      exact ⟨_, rfl, HO.out, HB.out⟩
end Go.Proofs.YtcfjcoockklkeaaDoor
