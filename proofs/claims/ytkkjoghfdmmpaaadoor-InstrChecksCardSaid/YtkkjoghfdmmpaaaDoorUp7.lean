/-
  The references' upper-case; breadboardref07.Upper; instr.Known; Go's comparison of lists of strings. Conditions: sizes.
-/
import Derived.Test.YtkkjoghfdmmpaaaDoorPush
import Derived.Test.YtkkjoghfdmmpaaaDoorCheck
import Derived.Test.YtkkjoghfdmmpaaaDoorShelf3
namespace Go.Proofs.YtkkjoghfdmmpaaaDoor
open Go.RowKit

theorem EqualStr_any (p q : Blocks) (v1 v2 : Value) (l1 l2 : List ByteArray) (w : World) (h1 : SlR strR w p v1 l1) (h2 : SlR strR w q v2 l2) :
    Calls Tryd.prog 58 #[v1, v2] w fun e w' => e = .returned (.bool (decide (l1 = l2))) ∧ Below w.heap.size w w' := by
  have hb1 := h1.len_le
  have hb2 := h2.len_le
  obtain ⟨a1, c1, rfl, hc1, hm1, g1⟩ := h1.str
  obtain ⟨a2, c2, rfl, hc2, hm2, g2⟩ := h2.str
  by_cases hl : l1.length = l2.length
  · cases l1 with
    | nil =>
      refine (Tryd.slices_Equal_string_empty a1 a2 c1 l2.length c2 w hb2).mono ?_
      rintro e w' ⟨rfl, rfl⟩
      have : l2 = [] := List.eq_nil_of_length_eq_zero hl.symm
      subst this
      exact ⟨ret_bool (by simp), Below.refl _ _⟩
    | cons x xs =>
      cases l2 with
      | nil => simp at hl
      | cons y ys =>
        obtain ⟨b1, o1, rfl, _, _⟩ := g1 0 x rfl
        obtain ⟨b2, o2, rfl, _, _⟩ := g2 0 y rfl
        refine (Tryd.slices_Equal_string b1 o1 (x :: xs).length c1 b2 o2 (y :: ys).length c2 (x :: xs) (y :: ys) w (Nat.le_refl _) (Nat.le_refl _) hb1 hb2 (fun j hj => ?_) (fun j hj => ?_)).mono ?_
        · obtain ⟨b, o, e, _, h⟩ := g1 j (x :: xs)[j] (List.getElem?_eq_getElem hj)
          injection e with e
          injection e with e1 e2
          subst e1 e2
          rw [h]; simp [List.getD, List.getElem?_eq_getElem hj]
        · obtain ⟨b, o, e, _, h⟩ := g2 j (y :: ys)[j] (List.getElem?_eq_getElem hj)
          injection e with e
          injection e with e1 e2
          subst e1 e2
          rw [h]; simp [List.getD, List.getElem?_eq_getElem hj]
        · rintro e w' ⟨rfl, n, rfl⟩
          exact ⟨ret_bool (by rw [List.take_length, List.take_length]), (Below.refl _ _).trans ⟨rfl, rfl, rfl, Nat.le_refl _, fun _ _ => rfl⟩⟩
  · refine (Tryd.slices_Equal_string_lens a1 a2 l1.length c1 l2.length c2 w hl).mono ?_
    rintro e w' ⟨rfl, rfl⟩
    exact ⟨ret_bool (decide_eq_false (fun e => hl (by rw [e]))).symm, Below.refl _ _⟩

theorem up_take {l xs : List UInt8} {k : Nat} {c : UInt8} (hx : xs = (l.take k).map up) (HT : l.take (k+1) = l.take k ++ [c]) : xs ++ [up c] = (l.take (k+1)).map up := by
  rw [HT, List.map_append, List.map_singleton, hx]
theorem up_byte {c : UInt8} (h1 : 97 ≤ c.toNat) (h2 : c.toNat ≤ 122) : (#[Value.int .u8 ((c.toNat : Int) - 32)] : Array Value) = [Value.int .u8 ((up c).toNat : Int)].toArray := by
  rw [up_yes h1 h2, show (c.toNat : Int) - 97 + 65 = c.toNat - 32 by omega]
theorem no_byte {c : UInt8} (h : ¬ (97 ≤ c.toNat ∧ c.toNat ≤ 122)) : (#[Value.int .u8 (c.toNat : Int)] : Array Value) = [Value.int .u8 ((up c).toNat : Int)].toArray := by rw [up_no h]

set_option maxHeartbeats 1000000 in
theorem Upper01_any (s : ByteArray) (w : World) (hs : s.size ≤ 1000000) :
    Calls Tryd.prog 57 #[.string s] w fun e w' => e = .returned (.string (upper s)) ∧ Below w.heap.size w w' := by
  generalize hl : s.data.toList = l at *
  have hlen : l.length = s.size := by rw [← hl]; simp
  have HL := Lib.hid hl
  have HLEN := Lib.hid hlen
  clear hl hlen
  go_enter Tryd.func57, Tryd.ntmps57
  go_wp2
  go_loopw [3, 4] (fun v i wr => ∃ k : Nat, k ≤ s.size ∧ i = .int .i64 k ∧ Own byteR wr w.heap.size 5 NoB v ((l.take k).map up) ∧ Below w.heap.size w wr) (fun _ i _ => s.size - (intOf i).toNat)
  case atStart => exact ⟨0, Nat.zero_le _, rfl, Own.nil _ _ _ _ _, Below.refl _ _⟩
  case round =>
    obtain ⟨k, hk, rfl, ho, hb⟩ := hrel
    by_cases hlt : k < s.size
    · have hlt' : k < l.length := by have := HLEN.out; omega
      have HT : Hid (l.take (k+1) = l.take k ++ [l[k]]) := List.take_succ_eq_append_getElem hlt'
      have hck : l[k] = s[k] := by have := HL.out; subst this; rfl
      rw [hck] at HT
      have hlm : ((l.take k).map up).length = k := by simp; omega
      generalize hx : (l.take k).map up = xs at *
      have HX := Lib.hid (up_take hx.symm HT.out)
      have HLM := Lib.hid hlm
      have HO := Lib.hid ho
      have HB := Lib.hid hb
      obtain ⟨oa, oc, rfl⟩ := ho.form
      clear hck hx hlm ho
      have hc256 : s[k].toNat < 256 := s[k].toNat_lt
      have HC1 : Hid ((xs.length + 1) * 1 ≤ 140737488355328) := by have := HLM.out; show _ ≤ _; omega
      have HC2 : Hid (xs.length + 1 ≤ 9223372036854775807) := by have := HLM.out; show _ ≤ _; omega
      by_cases h1 : 97 ≤ s[k].toNat
      · by_cases h2 : s[k].toNat ≤ 122
        · have HC := Lib.hid (up_byte h1 h2)
          go_wp2_with (at_builtin; refine wpList_push rfl (.tmp 23) (.tmp 25) 58 rfl w.heap.size 5 1 elByte _ xs (up s[k]) _ rfl rfl HO.out HC.out HC1.out HC2.out HB.out.size ?_; intro a' c' w' hp; have HP := Lib.hid hp; clear hp)
          go_roundw
          case rel => exact ⟨k + 1, by omega, by go_num, by rw [← HX.out]; exact HP.out.1, HB.out.grown HP.out.2 HB.out.size (fun j hj => (HO.out.lt j hj).1)⟩
          case measure => simp [intOf]; omega
        · have HC := Lib.hid (no_byte (c := s[k]) (by omega))
          go_wp2_with (at_builtin; refine wpList_push rfl (.tmp 23) (.tmp 25) 58 rfl w.heap.size 5 1 elByte _ xs (up s[k]) _ rfl rfl HO.out HC.out HC1.out HC2.out HB.out.size ?_; intro a' c' w' hp; have HP := Lib.hid hp; clear hp)
          go_roundw
          case rel => exact ⟨k + 1, by omega, by go_num, by rw [← HX.out]; exact HP.out.1, HB.out.grown HP.out.2 HB.out.size (fun j hj => (HO.out.lt j hj).1)⟩
          case measure => simp [intOf]; omega
      · have HC := Lib.hid (no_byte (c := s[k]) (by omega))
        go_wp2_with (at_builtin; refine wpList_push rfl (.tmp 23) (.tmp 25) 58 rfl w.heap.size 5 1 elByte _ xs (up s[k]) _ rfl rfl HO.out HC.out HC1.out HC2.out HB.out.size ?_; intro a' c' w' hp; have HP := Lib.hid hp; clear hp)
        go_roundw
        case rel => exact ⟨k + 1, by omega, by go_num, by rw [← HX.out]; exact HP.out.1, HB.out.grown HP.out.2 HB.out.size (fun j hj => (HO.out.lt j hj).1)⟩
        case measure => simp [intOf]; omega
    · have hk' : k = s.size := by omega
      subst hk'
      rw [List.take_of_length_le (by have := HLEN.out; omega)] at ho
      have hstr := run_string_sl wr (fun _ => True) _ _ (ho.slR (fun _ _ => trivial) (fun _ _ => trivial))
      have HB := Lib.hid hb
      rw [← HL.out] at hstr
      clear ho hb
      go_wp2
      go_ret
      exact ⟨rfl, HB.out⟩

theorem upper_size (s : ByteArray) : (upper s).size = s.size := by
  show ((s.data.toList.map up).toArray).size = s.data.size
  rw [List.size_toArray, List.length_map, Array.length_toList]
set_option maxHeartbeats 1000000 in
theorem Known_any (s : ByteArray) (w : World) (hT : Spc w) (hs : s.size ≤ 1000000) :
    Calls Tryd.prog 55 #[.string s] w fun e w' => e = .returned (.bool (inL opsL (upper s))) ∧ Below w.heap.size w w' := by
  have hset := set_any w hT
  have HSET := Lib.hid hset
  have HUS : Hid ((upper s).size ≤ maxLen) := by
    have : (upper s).size = s.size := upper_size s
    show _ ≤ _; unfold maxLen; omega
  clear hset hT
  go_enter Tryd.func55, Tryd.ntmps55
  go_wp2_with fail
  refine HSET.out.mono ?_
  rintro e w1 ⟨rfl, ⟨D, hown, hD⟩, hb⟩
  have HB1 := Lib.hid hb
  go_wp2_with fail
  refine (Upper_any s _ (by omega)).mono ?_
  rintro e w2 ⟨rfl, hb2⟩
  have HB2 := Lib.hid hb2
  have hlook := look_set (w := w2) (hown.kept (row := none) ⟨hb2.os, hb2.tape, hb2.output, hb2.size, fun k hk _ => hb2.block k hk⟩ (by simp)) hD (upper s) HUS.out
  clear hb hb2 hown hD
  go_wp2
  go_ret
  exact ⟨rfl, HB1.out.trans (HB2.out.mono HB1.out.size)⟩
end Go.Proofs.YtkkjoghfdmmpaaaDoor
