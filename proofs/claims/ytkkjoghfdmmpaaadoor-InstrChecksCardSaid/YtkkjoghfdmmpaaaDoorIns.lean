/-
  Instructions in memory; the program's and the reference's comparison of them; short. Conditions: none.
-/
import Derived.Test.YtkkjoghfdmmpaaaDoorStr
namespace Go.Proofs.YtkkjoghfdmmpaaaDoor
open Go.RowKit

structure Ins where
  op : ByteArray
  args : List Opd
/-- The same instruction? (a name that the walk does not open) -/
def insEq (x y : Ins) : Bool := decide (x.op = y.op ∧ x.args = y.args)
theorem insEq_iff {x y : Ins} : insEq x y = true ↔ x = y := by cases x; cases y; simp [insEq]
theorem insEq_yes {x y : Ins} (h : (x.op.toList == y.op.toList) = true) : insEq x y = decide (x.args = y.args) := by
  have := toList_inj (by simpa using h); simp [insEq, this]
theorem insEq_no {x y : Ins} (h : (x.op.toList == y.op.toList) = false) : insEq x y = false := by
  have : x.op ≠ y.op := fun e => by simp [e] at h
  simp [insEq, this]

set_option maxHeartbeats 400000 in
theorem insSame_any (p q : Blocks) (x y : Ins) (v1 v2 : Value) (w : World) (h1 : SlR opdR w p v1 x.args) (h2 : SlR opdR w q v2 y.args) :
    Calls Tryd.prog 28 #[.agg #[.string x.op, v1], .agg #[.string y.op, v2]] w fun e w' => e = .returned (.bool (insEq x y)) ∧ Below w.heap.size w w' := by
  have HB : Below w.heap.size w ((w.alloc (.cells #[.string x.op, v1] 39)).alloc (.cells #[.string y.op, v2] 39)) := ((Below.refl _ _).alloc (Nat.le_refl _) _).alloc (by simp) _
  have g1 := h1.below HB
  have g2 := h2.below HB
  have HY : Hid _ := @insEq_yes x y
  have HN : Hid _ := @insEq_no x y
  clear h1 h2
  obtain ⟨s, l⟩ := x
  obtain ⟨t, m⟩ := y
  by_cases hs : (s.toList == t.toList) = true
  · go_enter Tryd.func28, Tryd.ntmps28
    go_wp2_with (go_at_call 74; refine (EqualOpd_any _ _ _ _ _ _ _ g1 g2).mono ?_; rintro e w' ⟨rfl, n, rfl⟩)
    go_ret
    exact ⟨ret_bool (HY.out hs).symm, below_drewN HB n⟩
  · have hs : (s.toList == t.toList) = false := by simpa using hs
    go_enter Tryd.func28, Tryd.ntmps28
    go_wp2
    go_ret
    exact ⟨ret_bool (HN.out hs).symm, HB⟩

theorem insEq_len {x y : Ins} (h : x.args.length ≠ y.args.length) : insEq x y = false := by
  have : x.args ≠ y.args := fun e => h (by rw [e])
  simp [insEq, this]
theorem insEq_at {x y : Ins} (k : Nat) (h1 : k < x.args.length) (h2 : k < y.args.length) (h : x.args[k] ≠ y.args[k]) : insEq x y = false := by
  have : x.args ≠ y.args := fun e => h (by simp only [e])
  simp [insEq, this]

set_option maxHeartbeats 600000 in
theorem ref07Same_any (p q : Blocks) (x y : Ins) (v1 v2 : Value) (w : World) (h1 : SlR opdR w p v1 x.args) (h2 : SlR opdR w q v2 y.args) :
    Calls Tryd.prog 32 #[.agg #[.string x.op, v1], .agg #[.string y.op, v2]] w fun e w' => e = .returned (.bool (insEq x y)) ∧ Below w.heap.size w w' := by
  have HB : Below w.heap.size w ((w.alloc (.cells #[.string x.op, v1] 39)).alloc (.cells #[.string y.op, v2] 39)) := ((Below.refl _ _).alloc (Nat.le_refl _) _).alloc (by simp) _
  obtain ⟨a1, c1, rfl, hc1, hm1, g1⟩ := (h1.below HB).opd
  obtain ⟨a2, c2, rfl, hc2, hm2, g2⟩ := (h2.below HB).opd
  have HY : Hid _ := @insEq_yes x y
  have HN : Hid _ := @insEq_no x y
  have HL : Hid _ := @insEq_len x y
  have HA : Hid _ := @insEq_at x y
  clear h1 h2
  have hop := run_neqOpd
  obtain ⟨s, l1⟩ := x
  obtain ⟨t, l2⟩ := y
  dsimp only at *
  by_cases hs : (s.toList == t.toList) = true
  · by_cases hl : l1.length = l2.length
    · have HE := Lib.hid hl
      rw [← hl] at hc2 HB g1 g2 ⊢
      clear hl
      go_enter Tryd.func32, Tryd.ntmps32
      go_wp2
      go_loopw [5] (fun i wr => ∃ k n : Nat, k ≤ l1.length ∧ i = .int .i64 k ∧ wr = ((w.alloc (.cells #[.string s, .slice a1 l1.length c1] 39)).alloc (.cells #[.string t, .slice a2 l1.length c2] 39)).drewN n ∧ l1.take k = l2.take k) (fun i _ => l1.length - (intOf i).toNat)
      case atStart => exact ⟨0, 0, Nat.zero_le _, rfl, rfl, rfl⟩
      case round =>
        obtain ⟨k, n, hk, rfl, rfl, ht⟩ := hrel
        have HT := Lib.hid ht
        clear ht
        by_cases hlt : k < l1.length
        · have hlt2 : k < l2.length := by have := HE.out; omega
          obtain ⟨b1, o1, rfl, _, d1, d2, d3⟩ := g1 k l1[k] (List.getElem?_eq_getElem hlt)
          obtain ⟨b2, o2, rfl, _, e1, e2, e3⟩ := g2 k l2[k] (List.getElem?_eq_getElem hlt2)
          clear g1 g2
          have HS := Lib.hid (take_succ_eq hlt hlt2 HT.out)
          have HN : Hid _ := HA.out k hlt hlt2
          generalize l1[k] = x at *
          generalize l2[k] = y at *
          by_cases hxy : opdEq x y = true
          · go_wp2
            go_quiet (fail)
            go_wp2
            go_roundw
            case rel => exact ⟨k + 1, n + nq, by omega, by go_num, rfl, HS.out (opdEq_iff.1 hxy)⟩
            case measure => simp [intOf]; omega
          · have hxy : opdEq x y = false := by simpa using hxy
            go_wp2
            go_quiet (fail)
            go_wp2
            go_ret
            exact ⟨ret_bool (HN.out (opdEq_no.1 hxy)).symm, below_drewN (below_drewN HB _) _⟩
        · go_wp2
          go_ret
          exact ⟨ret_bool (by rw [HY.out hs]; exact (decide_eq_true (by have h1 := HT.out; have h2 := HE.out; rwa [List.take_of_length_le (by omega), List.take_of_length_le (by omega)] at h1)).symm), below_drewN HB _⟩
    · go_enter Tryd.func32, Tryd.ntmps32
      go_wp2
      go_ret
      exact ⟨ret_bool (HL.out hl).symm, HB⟩
  · have hs : (s.toList == t.toList) = false := by simpa using hs
    go_enter Tryd.func32, Tryd.ntmps32
    go_wp2
    go_ret
    exact ⟨ret_bool (HN.out hs).symm, HB⟩
end Go.Proofs.YtkkjoghfdmmpaaaDoor
