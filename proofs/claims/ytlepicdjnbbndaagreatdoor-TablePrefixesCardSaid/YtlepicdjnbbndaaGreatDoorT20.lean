/-
  slices.Equal of bytes; table.Prefixes, table.PageOf. Conditions: none.
-/
import Derived.Test.YtlepicdjnbbndaaGreatDoorK5
import Derived.Test.YtlepicdjnbbndaaGreatDoorT18
namespace Go.Proofs.YtlepicdjnbbndaaGreatDoor
open Go.RowKit Go.Shelf

theorem byteR_size : byteR.size = 1 := rfl
theorem SlR.byte {w : World} {p : Blocks} {v : Value} {l : List UInt8} (h : SlR byteR w p v l) : ∃ a cap, v = .slice a l.length cap ∧ l.length ≤ cap ∧ cap ≤ 9223372036854775807 ∧
    ∀ i x, l[i]? = some x → ∃ b o, a = some ⟨b, o, none⟩ ∧ p b ∧ w.cell? ⟨b, o + i, none⟩ = some (.int .u8 x.toNat) := by
  obtain ⟨a, cap, e, h1, h2, h3⟩ := h
  refine ⟨a, cap, e, h1, by simpa [maxLen] using h2, fun i x hx => ?_⟩
  obtain ⟨b, o, cs, ea, hb, hbs, hc, hr⟩ := h3 i x hx
  have hr : cs = [.int .u8 x.toNat] := hr
  subst hr
  have := hc 0 _ rfl
  exact ⟨b, o, ea, hb, by simpa [byteR_size] using this⟩
set_option maxRecDepth 100000 in
set_option maxHeartbeats 1000000 in
theorem EqualByte_any (p q : Blocks) (v1 v2 : Value) (l1 l2 : List UInt8) (w : World) (h1 : SlR byteR w p v1 l1) (h2 : SlR byteR w q v2 l2) :
    Calls Tryz.prog 26 #[v1, v2] w fun e w' => e = .returned (.bool (decide (l1 = l2))) ∧ ∃ n, w' = w.drewN n := by
  obtain ⟨a1, c1, rfl, hc1, hm1, g1⟩ := h1.byte
  obtain ⟨a2, c2, rfl, hc2, hm2, g2⟩ := h2.byte
  clear h1 h2
  by_cases hl : l1.length = l2.length
  · have HL := Lib.hid hl
    rw [← hl] at hc2 ⊢
    clear hl
    go_enter Tryz.func26, Tryz.ntmps26
    go_wp2
    go_loopw [5, 13] (fun _ i wr => ∃ k n : Nat, k ≤ l1.length ∧ i = .int .i64 k ∧ wr = w.drewN n ∧ l1.take k = l2.take k) (fun _ i _ => l1.length - (intOf i).toNat)
    case atStart => exact ⟨0, 0, Nat.zero_le _, rfl, rfl, rfl⟩
    case round =>
      obtain ⟨k, n, hk, rfl, rfl, ht⟩ := hrel
      have HT := Lib.hid ht
      clear ht
      by_cases hlt : k < l1.length
      · have hlt2 : k < l2.length := by have := HL.out; omega
        obtain ⟨b1, o1, rfl, _, d1⟩ := g1 k l1[k] (List.getElem?_eq_getElem hlt)
        obtain ⟨b2, o2, rfl, _, e1⟩ := g2 k l2[k] (List.getElem?_eq_getElem hlt2)
        clear g1 g2
        have HS := Lib.hid (take_succ_eq hlt hlt2 HT.out)
        have HN : Hid (l1[k] ≠ l2[k] → l1 ≠ l2) := fun h e => h (by simp only [e])
        generalize l1[k] = x at *
        generalize l2[k] = y at *
        by_cases hxy : x = y
        · have hb : ((x.toNat : Int) != (y.toNat : Int)) = false := by rw [hxy]; simp
          have HXY := Lib.hid hxy
          clear hxy
          go_wp2
          go_quiet (fail)
          go_wp2
          go_roundw
          case rel => exact ⟨k + 1, n + nq, by omega, by go_num, rfl, HS.out HXY.out⟩
          case measure => simp [intOf]; omega
        · have hb : ((x.toNat : Int) != (y.toNat : Int)) = true := by rw [bne_iff_ne]; intro e; exact hxy (UInt8.toNat_inj.1 (by omega))
          have HXY := Lib.hid (HN.out hxy)
          clear hxy
          go_wp2
          go_quiet (fail)
          go_wp2
          go_ret
          exact ⟨ret_bool (decide_eq_false HXY.out).symm, _, drewN2 _ _ _⟩
      · go_wp2
        go_ret
        exact ⟨ret_bool (decide_eq_true (by have h1 := HT.out; have h2 := HL.out; rwa [List.take_of_length_le (by omega), List.take_of_length_le (by omega)] at h1)).symm, n, rfl⟩
  · go_enter Tryz.func26, Tryz.ntmps26
    go_wp2
    go_ret
    exact ⟨by simp; intro h; exact hl (by rw [h]), 0, rfl⟩
/-- the prefixes of a page -/
def prefF (p : Int) : List UInt8 :=
  if p = 1 then [203] else if p = 2 then [237] else if p = 3 then [221] else if p = 4 then [253] else if p = 5 then [221, 203] else if p = 6 then [253, 203] else []
set_option maxHeartbeats 2000000 in
set_option maxRecDepth 100000 in
theorem Prefixes_low (p : Int) (h5 : p ≠ 5) (h6 : p ≠ 6) (w : World) :
    Calls Tryz.prog 24 #[.int .i64 p] w fun e w' => ∃ v, e = .returned v ∧ Own byteR w' w.heap.size 5 NoB v (prefF p) ∧ Below w.heap.size w w' := by
  have hal : ∀ c : UInt8, Own byteR (w.alloc (.cells #[.int .u8 c.toNat] 5)) w.heap.size 5 NoB (.slice (some ⟨w.heap.size, 0, none⟩) 1 1) [c] := fun c => Own.lit w _ [c] _ 1 rfl rfl (by simp)
  have hb : ∀ o : Obj, Below w.heap.size w (w.alloc o) := fun o => (Below.refl _ w).alloc (Nat.le_refl _) o
  have HAL := Lib.hid hal
  have HB := Lib.hid hb
  clear hal hb
  by_cases h1 : p = 1
  · subst h1
    go_enter Tryz.func24, Tryz.ntmps24
    go_wp2
    go_ret
    exact ⟨_, rfl, HAL.out 203, HB.out _⟩
  by_cases h2 : p = 2
  · subst h2
    go_enter Tryz.func24, Tryz.ntmps24
    go_wp2
    go_ret
    exact ⟨_, rfl, HAL.out 237, HB.out _⟩
  by_cases h3 : p = 3
  · subst h3
    go_enter Tryz.func24, Tryz.ntmps24
    go_wp2
    go_ret
    exact ⟨_, rfl, HAL.out 221, HB.out _⟩
  by_cases h4 : p = 4
  · subst h4
    go_enter Tryz.func24, Tryz.ntmps24
    go_wp2
    go_ret
    exact ⟨_, rfl, HAL.out 253, HB.out _⟩
  have hf : prefF p = [] := by rw [prefF, if_neg h1, if_neg h2, if_neg h3, if_neg h4, if_neg h5, if_neg h6]
  have b1 : (p == 1) = false := by rw [beq_eq_false_iff_ne]; exact h1
  have b2 : (p == 2) = false := by rw [beq_eq_false_iff_ne]; exact h2
  have b3 : (p == 3) = false := by rw [beq_eq_false_iff_ne]; exact h3
  have b4 : (p == 4) = false := by rw [beq_eq_false_iff_ne]; exact h4
  have b5 : (p == 5) = false := by rw [beq_eq_false_iff_ne]; exact h5
  have b6 : (p == 6) = false := by rw [beq_eq_false_iff_ne]; exact h6
  rw [hf]
  clear hf h1 h2 h3 h4 h5 h6
  go_enter Tryz.func24, Tryz.ntmps24
  go_wp2
  go_ret
  exact ⟨_, rfl, Own.nil _ _ _ _ _, Below.refl _ _⟩
set_option maxHeartbeats 2000000 in
set_option maxRecDepth 100000 in
theorem Prefixes_high (p q : Int) (hq : (p = 5 ∧ q = 3) ∨ (p = 6 ∧ q = 4)) (w : World) :
    Calls Tryz.prog 24 #[.int .i64 p] w fun e w' => ∃ v, e = .returned v ∧ Own byteR w' w.heap.size 5 NoB v (prefF q ++ [203]) ∧ Below w.heap.size w w' := by
  have HL := Lib.hid (Prefixes_low q (by omega) (by omega) w)
  have hln : Hid ((prefF q).length ≤ 10) := by rcases hq with ⟨_, rfl⟩ | ⟨_, rfl⟩ <;> (show _ ≤ _; decide)
  rcases hq with ⟨rfl, rfl⟩ | ⟨rfl, rfl⟩
  all_goals
    go_enter Tryz.func24, Tryz.ntmps24
    go_wp2_with (first
      | (go_at_call 24; refine HL.out.mono ?_; rintro e w2 ⟨v, rfl, ho, hb⟩; have HO := Lib.hid ho; have HB := Lib.hid hb; obtain ⟨va, vc, rfl⟩ := ho.form; clear ho hb)
      | (at_builtin; refine wpList_push rfl (.tmp 22) (.tmp 23) 49 rfl w.heap.size 5 1 elByte _ (prefF _) 203 _ rfl rfl HO.out rfl (by have := hln.out; omega) (by have := hln.out; omega) HB.out.size ?_; intro a' c' w' hp; have HP := Lib.hid hp; clear hp))
    go_ret
    refine ⟨_, rfl, ?_, ?_⟩
    · exact HP.out.1
    · exact HB.out.grown HP.out.2 HB.out.size (fun k e => (HO.out.lt k e).1)
theorem Prefixes_any (p : Int) (w : World) :
    Calls Tryz.prog 24 #[.int .i64 p] w fun e w' => ∃ v, e = .returned v ∧ Own byteR w' w.heap.size 5 NoB v (prefF p) ∧ Below w.heap.size w w' := by
  by_cases h5 : p = 5
  · subst h5; exact Prefixes_high 5 3 (.inl ⟨rfl, rfl⟩) w
  by_cases h6 : p = 6
  · subst h6; exact Prefixes_high 6 4 (.inr ⟨rfl, rfl⟩) w
  exact Prefixes_low p h5 h6 w
end Go.Proofs.YtlepicdjnbbndaaGreatDoor
