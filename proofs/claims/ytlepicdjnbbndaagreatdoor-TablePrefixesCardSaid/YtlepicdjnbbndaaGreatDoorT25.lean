/-
  table.PageOf; breadboardref09.Prefixes. Conditions: none.
-/
import Derived.Test.YtlepicdjnbbndaaGreatDoorT20
namespace Go.Proofs.YtlepicdjnbbndaaGreatDoor
open Go.RowKit Go.Shelf

/-- the first page with these prefixes, from a page on -/
def pageF (l : List UInt8) : Nat → Nat → Option Nat
  | 0, _ => none
  | n + 1, k => if prefF k = l then some k else pageF l n (k + 1)
theorem pageF_step (l : List UInt8) (k : Nat) (hk : k < 7) : pageF l (7 - k) k = if prefF k = l then some k else pageF l (7 - (k + 1)) (k + 1) := by
  rw [show 7 - k = (7 - (k + 1)) + 1 by omega, pageF]
set_option maxHeartbeats 4000000 in
set_option maxRecDepth 100000 in
theorem PageOf_any (p : Blocks) (v : Value) (l : List UInt8) (w : World) (h : SlR byteR w p v l) :
    Calls Tryz.prog 25 #[v] w fun e w' => e = .returned (.tuple #[.int .i64 ((pageF l 7 0).getD 0), .bool (pageF l 7 0).isSome]) ∧ Below w.heap.size w w' := by
  have HPF := Lib.hid (fun k W => Prefixes_any k W)
  have H := Lib.hid h
  obtain ⟨va, vc, rfl⟩ : ∃ a c, v = .slice a l.length c := by obtain ⟨a, c, e, _⟩ := h; exact ⟨a, c, e⟩
  clear h
  obtain ⟨R, hR⟩ : ∃ R, R = pageF l 7 0 := ⟨_, rfl⟩
  rw [← hR]
  go_enter Tryz.func25, Tryz.ntmps25
  go_wp2
  go_loopw [4, 5] (fun _ i wr => ∃ k : Nat, k ≤ 7 ∧ i = .int .i64 k ∧ Below w.heap.size w wr ∧ R = pageF l (7 - k) k) (fun _ i _ => 7 - (intOf i).toNat)
  case atStart => exact ⟨0, Nat.zero_le _, rfl, Below.refl _ _, hR⟩
  case round =>
    clear hR
    obtain ⟨k, hk, rfl, hb, ht⟩ := hrel
    have HB := Lib.hid hb
    by_cases hlt : k < 7
    · rw [pageF_step l k hlt] at ht
      have HEQ := Lib.hid (fun q v1 l1 W (h1 : SlR byteR W q v1 l1) (h2 : SlR byteR W p (.slice va l.length vc) l) => EqualByte_any q p v1 _ l1 l W h1 h2)
      have hpl := HPF.out (k : Int)
      by_cases he : prefF k = l
      · rw [if_pos he] at ht
        have HT := Lib.hid ht
        have HD := Lib.hid he
        have HP := Lib.hid hpl
        generalize prefF (k : Int) = pl at *
        clear ht hb he hpl
        go_wp2_with (first
          | (go_at_call 24; refine (HP.out _).mono ?_; rintro e w2 ⟨v2, rfl, ho, hb⟩; obtain ⟨a2, c2, rfl⟩ := ho.form; have HB2 := Lib.hid (HB.out.trans (hb.mono HB.out.size)); have HS2 := Lib.hid (ho.slR (q := fun _ => True) (fun _ h => h.elim) (fun _ _ => trivial)); clear ho hb)
          | (go_at_call 26; refine (HEQ.out _ _ _ _ HS2.out (H.out.below HB2.out)).mono ?_; rintro e w3 ⟨rfl, nq, rfl⟩; rw [decide_eq_true HD.out]))
        refine bodyPost_ret (results_tmp2 rfl _ _ _) rfl ⟨by rw [HT.out]; rfl, below_dN HB2.out _⟩
      · rw [if_neg he] at ht
        have HT := Lib.hid ht
        have HD := Lib.hid he
        have HP := Lib.hid hpl
        generalize prefF (k : Int) = pl at *
        clear ht hb he hpl
        go_wp2_with (first
          | (go_at_call 24; refine (HP.out _).mono ?_; rintro e w2 ⟨v2, rfl, ho, hb⟩; obtain ⟨a2, c2, rfl⟩ := ho.form; have HB2 := Lib.hid (HB.out.trans (hb.mono HB.out.size)); have HS2 := Lib.hid (ho.slR (q := fun _ => True) (fun _ h => h.elim) (fun _ _ => trivial)); clear ho hb)
          | (go_at_call 26; refine (HEQ.out _ _ _ _ HS2.out (H.out.below HB2.out)).mono ?_; rintro e w3 ⟨rfl, nq, rfl⟩; rw [decide_eq_false HD.out]))
        go_roundw
        case rel => exact ⟨k + 1, by omega, by go_num, below_dN HB2.out _, HT.out⟩
        case measure => simp [intOf]; omega
    · obtain rfl : k = 7 := by omega
      have HT := Lib.hid ht
      clear ht hb
      go_wp2
      refine bodyPost_ret (results_tmp2 rfl _ _ _) rfl ⟨by rw [HT.out]; rfl, HB.out⟩
/-- the reference's prefixes -/
theorem RefPrefixes_any (p : Int) (w : World) :
    Calls Tryz.prog 27 #[.int .i64 p] w fun e w' => ∃ v, e = .returned v ∧ Own byteR w' w.heap.size 5 NoB v (prefF p) ∧ Below w.heap.size w w' := by
  have hal : ∀ c : UInt8, Own byteR (w.alloc (.cells #[.int .u8 c.toNat] 5)) w.heap.size 5 NoB (.slice (some ⟨w.heap.size, 0, none⟩) 1 1) [c] := fun c => Own.lit w _ [c] _ 1 rfl rfl (by simp)
  have hal2 : ∀ c d : UInt8, Own byteR (w.alloc (.cells #[.int .u8 c.toNat, .int .u8 d.toNat] 5)) w.heap.size 5 NoB (.slice (some ⟨w.heap.size, 0, none⟩) 2 2) [c, d] := fun c d => Own.lit w _ [c, d] _ 2 rfl rfl (by simp)
  have hb : ∀ o : Obj, Below w.heap.size w (w.alloc o) := fun o => (Below.refl _ w).alloc (Nat.le_refl _) o
  have HAL := Lib.hid hal
  have HAL2 := Lib.hid hal2
  have HB := Lib.hid hb
  clear hal hb hal2
  by_cases h1 : p = 1
  · subst h1
    go_enter Tryz.func27, Tryz.ntmps27
    go_wp2
    go_ret
    exact ⟨_, rfl, HAL.out 203, HB.out _⟩
  by_cases h2 : p = 2
  · subst h2
    go_enter Tryz.func27, Tryz.ntmps27
    go_wp2
    go_ret
    exact ⟨_, rfl, HAL.out 237, HB.out _⟩
  by_cases h3 : p = 3
  · subst h3
    go_enter Tryz.func27, Tryz.ntmps27
    go_wp2
    go_ret
    exact ⟨_, rfl, HAL.out 221, HB.out _⟩
  by_cases h4 : p = 4
  · subst h4
    go_enter Tryz.func27, Tryz.ntmps27
    go_wp2
    go_ret
    exact ⟨_, rfl, HAL.out 253, HB.out _⟩
  by_cases h5 : p = 5
  · subst h5
    go_enter Tryz.func27, Tryz.ntmps27
    go_wp2
    go_ret
    exact ⟨_, rfl, HAL2.out 221 203, HB.out _⟩
  by_cases h6 : p = 6
  · subst h6
    go_enter Tryz.func27, Tryz.ntmps27
    go_wp2
    go_ret
    exact ⟨_, rfl, HAL2.out 253 203, HB.out _⟩
  have hf : prefF p = [] := by rw [prefF, if_neg h1, if_neg h2, if_neg h3, if_neg h4, if_neg h5, if_neg h6]
  have b1 : (p == 1) = false := by rw [beq_eq_false_iff_ne]; exact h1
  have b2 : (p == 2) = false := by rw [beq_eq_false_iff_ne]; exact h2
  have b3 : (p == 3) = false := by rw [beq_eq_false_iff_ne]; exact h3
  have b4 : (p == 4) = false := by rw [beq_eq_false_iff_ne]; exact h4
  have b5 : (p == 5) = false := by rw [beq_eq_false_iff_ne]; exact h5
  have b6 : (p == 6) = false := by rw [beq_eq_false_iff_ne]; exact h6
  rw [hf]
  clear hf h1 h2 h3 h4 h5 h6
  go_enter Tryz.func27, Tryz.ntmps27
  go_wp2
  go_ret
  exact ⟨_, rfl, Own.nil _ _ _ _ _, Below.refl _ _⟩
end Go.Proofs.YtlepicdjnbbndaaGreatDoor
