/-
  image.New, image.Len. Conditions: none.
-/
import Derived.Test.YtcfjcoockklkeaaDoorImg3
namespace Go.Proofs.YtcfjcoockklkeaaDoor
open Go.RowKit

/-- k cells x, one cell y, m cells z -/
def row3 (k m : Nat) (x y z : Value) : Array Value := (List.replicate k x ++ ([y] ++ List.replicate m z)).toArray
theorem row3_a (k m : Nat) (x y z : Value) {i : Nat} (hi : i < k) : (row3 k m x y z)[i]? = some x := by
  unfold row3
  rw [List.getElem?_toArray, List.getElem?_append_left (by simpa using hi), List.getElem?_replicate, if_pos hi]
theorem row3_b (k m : Nat) (x y z : Value) : (row3 k m x y z)[k]? = some y := by
  unfold row3
  rw [List.getElem?_toArray, List.getElem?_append_right (by simp), List.length_replicate, Nat.sub_self]; rfl
theorem row3_c (k m : Nat) (x y z : Value) {i : Nat} (hi : i < m) : (row3 k m x y z)[k + 1 + i]? = some z := by
  unfold row3
  rw [List.getElem?_toArray, List.getElem?_append_right (by rw [List.length_replicate]; omega), List.length_replicate, List.getElem?_append_right (by simp; omega), List.getElem?_replicate]
  rw [if_pos (by simp; omega)]
theorem wordOf_none (i : Nat) : wordOf (fun _ => false) i = 0 := by
  apply Nat.eq_of_testBit_eq
  intro j
  rw [wordOf_bit, Nat.zero_testBit, Bool.and_false]
theorem ImgC.zero (w : World) (t : TypeId) (cs : Array Value) (h : cs = row3 1024 65536 (.int .u64 0) (.int .i64 0) (.int .u8 0)) : ImgC (w.alloc (.cells cs t)) w.heap.size (fun _ => false) (fun _ => 0) 0 := by
  subst h
  have hB : Blk (w.alloc (.cells (row3 1024 65536 (.int .u64 0) (.int .i64 0) (.int .u8 0)) t)) w.heap.size t (row3 1024 65536 (.int .u64 0) (.int .i64 0) (.int .u8 0)) := Blk.new w t _
  exact ⟨fun i hi => (hB.cell i).trans ((row3_a _ _ _ _ _ hi).trans (by rw [wordOf_none]; rfl)), (hB.cell 1024).trans (row3_b _ _ _ _ _), fun a ha => (hB.cell (1025 + a)).trans (row3_c 1024 65536 _ _ _ ha), fun o => hB.free o⟩
set_option maxRecDepth 1000000 in
theorem zImg_is : Tryd.zeroCells99 = row3 1024 65536 (.int .u64 0) (.int .i64 0) (.int .u8 0) := by kernel_rfl

theorem New_any (w : World) : Calls Tryd.prog 26 #[] w fun e w' => e = .returned (.pointer (some ⟨w.heap.size, 0, none⟩)) ∧ ImgC w' w.heap.size (fun _ => false) (fun _ => 0) 0 ∧ Below w.heap.size w w' := by
  have HZ := Lib.hid (ImgC.zero w 99 _ zImg_is)
  go_enter Tryd.func26, Tryd.ntmps26
  go_wp2
  go_ret
  exact ⟨rfl, HZ.out, (Below.refl _ w).alloc (Nat.le_refl _) _⟩
theorem Len_any (b n : Nat) (d : Nat → Bool) (v : Nat → UInt8) (w : World) (h : ImgC w b d v n) :
    Calls Tryd.prog 30 #[.pointer (some ⟨b, 0, none⟩)] w fun e w' => e = .returned (.int .i64 n) ∧ w = w' := by
  have hc := h.count
  clear h
  go_enter Tryd.func30, Tryd.ntmps30
  go_wp2
  go_ret
  exact ⟨rfl, rfl⟩
end Go.Proofs.YtcfjcoockklkeaaDoor
