/-
  breadboardlaw05.HexreadMerges. Conditions: the library's table as its initialiser lays it.
-/
import Derived.Test.YtcfjcoockklkeaaDoorV27
import Derived.Lib.QuietBelow
namespace Go.Proofs.YtcfjcoockklkeaaDoor
open Go.RowKit Go.Sort

def msum : List ByteArray → Nat
  | [] => 0
  | s :: l => min s.size 5000 + msum l
theorem msum_mem {s : ByteArray} : ∀ {l : List ByteArray}, s ∈ l → msum l ≤ 4000 → s.size ≤ 4000
  | [], h, _ => by cases h
  | x :: l, h, hn => by
    rw [msum] at hn
    rcases List.mem_cons.1 h with rfl | h
    · omega
    · exact msum_mem h (by omega)
theorem msum_len : ∀ l : List ByteArray, msum l ≤ 5000 * l.length
  | [] => Nat.le_refl _
  | x :: l => by
    have := msum_len l
    rw [msum, List.length_cons]
    omega
theorem flt5_any (a b : Int) (w : World) : Calls Tryd.prog 34 #[.int .i64 a, .int .i64 b] w fun e w' => e = .returned (.agg #[.int .i64 a, .int .i64 b]) ∧ Below w.heap.size w w' := by
  have HB : Hid (Below w.heap.size w (w.alloc (.cells #[.int .i64 a, .int .i64 b] 54))) := (Below.refl _ w).alloc (Nat.le_refl _) _
  go_enter Tryd.func34, Tryd.ntmps34
  go_wp2
  exact bodyPost_ret (v := .agg #[.int .i64 a, .int .i64 b]) (by simp [results, Tryd.results34, go_sem]) rfl ⟨rfl, by first | exact HB.out | exact ((Below.refl w.heap.size w).alloc (Nat.le_refl _) _).setCell (Nat.le_refl _) _⟩

set_option maxHeartbeats 2000000 in
set_option maxRecDepth 100000 in
theorem Merges_many (p : Blocks) (v : Value) (l : List ByteArray) (w : World) (h : SlR strR w p v l) (hl : 20 < l.length) (hT : Deb w) :
    Calls Tryd.prog 8 #[v] w fun e w' => e = .returned (.bool true) ∧ Below w.heap.size w w' := by
  have hm : l.length ≤ maxLen := by obtain ⟨a, c, rfl, h1, h2, _⟩ := h; exact Nat.le_trans h1 h2
  obtain ⟨va, vc, rfl, _⟩ := h.str
  have HV := Lib.hid h
  have HT := Lib.hid hT
  simp only [maxLen] at hm
  have hl1 : (l.length : Int) ≤ 9223372036854775807 := by omega
  have hl2 : (20 : Int) < (l.length : Int) := by omega
  clear h hl hm hT
  go_enter Tryd.func8, Tryd.ntmps8
  go_wp2
  go_loopw [3, 15] (fun v i wr => ∃ (k : Nat) (m : Int), k ≤ l.length ∧ i = .int .i64 k ∧ v = .int .i64 m ∧ Below w.heap.size w wr) (fun _ i _ => l.length - (intOf i).toNat)
  case atStart => exact ⟨0, 0, Nat.zero_le _, rfl, rfl, Below.refl _ _⟩
  case round =>
    obtain ⟨k, m, hk, rfl, rfl, hb⟩ := hrel
    obtain ⟨wo, rfl⟩ : ∃ wo : World, wo = wr := ⟨_, rfl⟩
    have HB := Lib.hid hb
    clear hb
    by_cases hlt : k < l.length
    · obtain ⟨aa, ac, ev, _, _, g⟩ := (HV.out.below HB.out).str
      obtain ⟨b1, o1, ea, _, d0⟩ := g k l[k] (List.getElem?_eq_getElem hlt)
      obtain rfl : va = aa := by injection ev
      subst ea
      clear ev g
      generalize l[k] = s at *
      go_wp2
      go_roundw
      case rel => exact ⟨k + 1, _, by omega, by go_num, rfl, HB.out⟩
      case measure => simp [intOf]; omega
    · obtain rfl : k = l.length := by omega
      have HAL := Lib.hid (alive5_any _ (HT.out.below HB.out))
      by_cases hm : (4000 : Int) < m
      · go_wp2_with (go_at_call 31; refine HAL.out.mono ?_; rintro e w2 ⟨rfl, hb⟩; have HB2 := Lib.hid (HB.out.trans (hb.mono HB.out.size)); clear hb)
        go_ret
        exact ⟨rfl, HB2.out⟩
      · go_wp2_with (go_at_call 31; refine HAL.out.mono ?_; rintro e w2 ⟨rfl, hb⟩; have HB2 := Lib.hid (HB.out.trans (hb.mono HB.out.size)); clear hb)
        go_ret
        exact ⟨rfl, HB2.out⟩
end Go.Proofs.YtcfjcoockklkeaaDoor
