/-
  operand.Valid, the mnemonics, the two Checks. Conditions: sizes.
-/
import Derived.Test.YtlepicdjnbbndaaGreatDoorValid6
import Derived.Test.YtlepicdjnbbndaaGreatDoorK1
import Derived.Maps.Own
import Derived.Maps.Views
import Derived.WalkKit
import Derived.Lib.QuietBelow
import Derived.Deep.RegionHeld3
import Derived.Deep.DeepCutAuto
/-
  WHICH OPERANDS ARE VALID: operand.of and operand.Valid; the program's and the reference's answers agree.
-/
namespace Go.Proofs.YtlepicdjnbbndaaGreatDoor
open Go.RowKit

theorem of_no (o : Opd) (h : okOpd o = false) (w : World) : Calls Tryz.prog 113 #[.agg #[.int .i64 o.kind, .int .i64 o.reg, .int .i64 o.n]] w fun e w' => e = .returned (.tuple #[kindNil, .string ⟨#[]⟩, .bool false]) ∧ Below w.heap.size w w' := by
  obtain ⟨k, r, n⟩ := o
  dsimp only
  cases hk : kindOk k
  · exact of_noKind k r n hk w
  cases h0 : decide (r < 0)
  rotate_left
  · exact of_neg k r n hk h0 w
  cases h9 : decide (9 ≤ r)
  rotate_left
  · exact of_big k r n hk h0 h9 w
  have h0' := of_decide_eq_false h0
  have h9' := of_decide_eq_false h9
  obtain ⟨m, rfl⟩ := Int.eq_ofNat_of_zero_le (Int.not_lt.1 h0')
  have hm : m < 9 := by omega
  cases hn : (((kindD k).nm m).toList == [])
  · cases hf : fitsB (kindD k).lo (kindD k).hi n
    · exact of_unfit k n m hm hk hn hf w
    · exfalso
      simp only [okOpd, Int.toNat_natCast, hk, hn, hf, decide_eq_true (Int.natCast_nonneg m), decide_eq_true (show (m : Int) < 9 by omega)] at h
      exact absurd h (by decide)
  · exact of_empty k n m hm hk hn w
theorem of_yes (o : Opd) (h : okOpd o = true) (w : World) : Calls Tryz.prog 113 #[.agg #[.int .i64 o.kind, .int .i64 o.reg, .int .i64 o.n]] w fun e w' => e = .returned (.tuple #[(kindD o.kind).val, .string ((kindD o.kind).nm o.reg.toNat), .bool true]) ∧ Below w.heap.size w w' := by
  obtain ⟨k, r, n⟩ := o
  simp only [okOpd, Bool.and_eq_true, decide_eq_true_eq, Bool.not_eq_true'] at h
  obtain ⟨⟨⟨⟨hk, h0⟩, h9⟩, hn⟩, hf⟩ := h
  dsimp only at *
  obtain ⟨m, rfl⟩ := Int.eq_ofNat_of_zero_le h0
  rw [Int.toNat_natCast] at hn ⊢
  exact of_ok k n m (by omega) hk hn hf w

set_option maxHeartbeats 2000000 in
theorem valid_any (o : Opd) (w : World) : Calls Tryz.prog 61 #[.agg #[.int .i64 o.kind, .int .i64 o.reg, .int .i64 o.n]] w fun e w' => e = .returned (.bool (okOpd o)) ∧ Below w.heap.size w w' := by
  have HB0 : Hid (Below w.heap.size w (w.alloc (.cells #[.int .i64 o.kind, .int .i64 o.reg, .int .i64 o.n] 87))) := (Below.refl _ _).alloc (Nat.le_refl _) _
  cases h : okOpd o
  · have HO := Lib.hid (of_no o h (w.alloc (.cells #[.int .i64 o.kind, .int .i64 o.reg, .int .i64 o.n] 87)))
    simp only [kindNil] at HO
    go_enter Tryz.func61, Tryz.ntmps61
    go_wp2_with (go_at_call 113; refine HO.out.mono ?_; rintro e w1 ⟨rfl, hb⟩; have HB := Lib.hid (HB0.out.trans (hb.mono HB0.out.size)); clear hb)
    go_ret
    exact ⟨rfl, HB.out.alloc HB.out.size _⟩
  · have HO := Lib.hid (of_yes o h (w.alloc (.cells #[.int .i64 o.kind, .int .i64 o.reg, .int .i64 o.n] 87)))
    simp only [KindD.val] at HO
    go_enter Tryz.func61, Tryz.ntmps61
    go_wp2_with (go_at_call 113; refine HO.out.mono ?_; rintro e w1 ⟨rfl, hb⟩; have HB := Lib.hid (HB0.out.trans (hb.mono HB0.out.size)); clear hb)
    go_ret
    exact ⟨rfl, HB.out.alloc HB.out.size _⟩
end Go.Proofs.YtlepicdjnbbndaaGreatDoor

/-
  WHICH OPERANDS ARE VALID: the program's answer is the reference's.
-/
namespace Go.Proofs.YtlepicdjnbbndaaGreatDoor
open Go.RowKit

theorem regs_short (k : Int) : (regsL k).length ≤ 9 := by
  unfold regsL
  repeat' (first | (split) | (simp))
theorem okValid_1 (r n : Int) : okOpd ⟨1, r, n⟩ = validOpd ⟨1, r, n⟩ := by
  rw [Bool.eq_iff_iff]
  by_cases h0 : r < 0
  · have h : ¬ (0 ≤ r) := by omega
    simp [okOpd, validOpd, nameOf, nameL, h0, h]
  by_cases h9 : 9 ≤ r
  · have h : ¬ (r < 9) := by omega
    have hl : (regsL 1)[r.toNat]? = none := by have := regs_short 1; simp; omega
    simp [okOpd, validOpd, nameOf, nameL, h0, h, hl]
  have hr : r = 0 ∨ r = 1 ∨ r = 2 ∨ r = 3 ∨ r = 4 ∨ r = 5 ∨ r = 6 ∨ r = 7 ∨ r = 8 := by omega
  clear h0 h9
  rcases hr with rfl | rfl | rfl | rfl | rfl | rfl | rfl | rfl | rfl
  all_goals simp [okOpd, validOpd, nameOf, nameL, regsL, kindOk, kindD, KindD.nm, fitsB]
  all_goals omega
theorem okValid_2 (r n : Int) : okOpd ⟨2, r, n⟩ = validOpd ⟨2, r, n⟩ := by
  rw [Bool.eq_iff_iff]
  by_cases h0 : r < 0
  · have h : ¬ (0 ≤ r) := by omega
    simp [okOpd, validOpd, nameOf, nameL, h0, h]
  by_cases h9 : 9 ≤ r
  · have h : ¬ (r < 9) := by omega
    have hl : (regsL 2)[r.toNat]? = none := by have := regs_short 2; simp; omega
    simp [okOpd, validOpd, nameOf, nameL, h0, h, hl]
  have hr : r = 0 ∨ r = 1 ∨ r = 2 ∨ r = 3 ∨ r = 4 ∨ r = 5 ∨ r = 6 ∨ r = 7 ∨ r = 8 := by omega
  clear h0 h9
  rcases hr with rfl | rfl | rfl | rfl | rfl | rfl | rfl | rfl | rfl
  all_goals simp [okOpd, validOpd, nameOf, nameL, regsL, kindOk, kindD, KindD.nm, fitsB]
  all_goals omega
theorem okValid_3 (r n : Int) : okOpd ⟨3, r, n⟩ = validOpd ⟨3, r, n⟩ := by
  rw [Bool.eq_iff_iff]
  by_cases h0 : r < 0
  · have h : ¬ (0 ≤ r) := by omega
    simp [okOpd, validOpd, nameOf, nameL, h0, h]
  by_cases h9 : 9 ≤ r
  · have h : ¬ (r < 9) := by omega
    have hl : (regsL 3)[r.toNat]? = none := by have := regs_short 3; simp; omega
    simp [okOpd, validOpd, nameOf, nameL, h0, h, hl]
  have hr : r = 0 ∨ r = 1 ∨ r = 2 ∨ r = 3 ∨ r = 4 ∨ r = 5 ∨ r = 6 ∨ r = 7 ∨ r = 8 := by omega
  clear h0 h9
  rcases hr with rfl | rfl | rfl | rfl | rfl | rfl | rfl | rfl | rfl
  all_goals simp [okOpd, validOpd, nameOf, nameL, regsL, kindOk, kindD, KindD.nm, fitsB]
  all_goals omega
theorem okValid_4 (r n : Int) : okOpd ⟨4, r, n⟩ = validOpd ⟨4, r, n⟩ := by
  rw [Bool.eq_iff_iff]
  by_cases h0 : r < 0
  · have h : ¬ (0 ≤ r) := by omega
    simp [okOpd, validOpd, nameOf, nameL, h0, h]
  by_cases h9 : 9 ≤ r
  · have h : ¬ (r < 9) := by omega
    have hl : (regsL 4)[r.toNat]? = none := by have := regs_short 4; simp; omega
    simp [okOpd, validOpd, nameOf, nameL, h0, h, hl]
  have hr : r = 0 ∨ r = 1 ∨ r = 2 ∨ r = 3 ∨ r = 4 ∨ r = 5 ∨ r = 6 ∨ r = 7 ∨ r = 8 := by omega
  clear h0 h9
  rcases hr with rfl | rfl | rfl | rfl | rfl | rfl | rfl | rfl | rfl
  all_goals simp [okOpd, validOpd, nameOf, nameL, regsL, kindOk, kindD, KindD.nm, fitsB]
  all_goals omega
theorem okValid_5 (r n : Int) : okOpd ⟨5, r, n⟩ = validOpd ⟨5, r, n⟩ := by
  rw [Bool.eq_iff_iff]
  by_cases h0 : r < 0
  · have h : ¬ (0 ≤ r) := by omega
    simp [okOpd, validOpd, nameOf, nameL, h0, h]
  by_cases h9 : 9 ≤ r
  · have h : ¬ (r < 9) := by omega
    have hl : (regsL 5)[r.toNat]? = none := by have := regs_short 5; simp; omega
    simp [okOpd, validOpd, nameOf, nameL, h0, h, hl]
  have hr : r = 0 ∨ r = 1 ∨ r = 2 ∨ r = 3 ∨ r = 4 ∨ r = 5 ∨ r = 6 ∨ r = 7 ∨ r = 8 := by omega
  clear h0 h9
  rcases hr with rfl | rfl | rfl | rfl | rfl | rfl | rfl | rfl | rfl
  all_goals simp [okOpd, validOpd, nameOf, nameL, regsL, kindOk, kindD, KindD.nm, fitsB]
  all_goals omega
theorem okValid_6 (r n : Int) : okOpd ⟨6, r, n⟩ = validOpd ⟨6, r, n⟩ := by
  rw [Bool.eq_iff_iff]
  by_cases h0 : r < 0
  · have h : ¬ (0 ≤ r) := by omega
    have h' : ¬ (r = 0) := by omega
    simp [okOpd, validOpd, h, h']
  by_cases h9 : 9 ≤ r
  · have h : ¬ (r < 9) := by omega
    have h' : ¬ (r = 0) := by omega
    simp [okOpd, validOpd, h, h']
  have hr : r = 0 ∨ r = 1 ∨ r = 2 ∨ r = 3 ∨ r = 4 ∨ r = 5 ∨ r = 6 ∨ r = 7 ∨ r = 8 := by omega
  clear h0 h9
  rcases hr with rfl | rfl | rfl | rfl | rfl | rfl | rfl | rfl | rfl
  all_goals simp [okOpd, validOpd, kindOk, kindD, KindD.nm, fitsB]
  all_goals omega
theorem okValid_7 (r n : Int) : okOpd ⟨7, r, n⟩ = validOpd ⟨7, r, n⟩ := by
  rw [Bool.eq_iff_iff]
  by_cases h0 : r < 0
  · have h : ¬ (0 ≤ r) := by omega
    have h' : ¬ (r = 0) := by omega
    simp [okOpd, validOpd, h, h']
  by_cases h9 : 9 ≤ r
  · have h : ¬ (r < 9) := by omega
    have h' : ¬ (r = 0) := by omega
    simp [okOpd, validOpd, h, h']
  have hr : r = 0 ∨ r = 1 ∨ r = 2 ∨ r = 3 ∨ r = 4 ∨ r = 5 ∨ r = 6 ∨ r = 7 ∨ r = 8 := by omega
  clear h0 h9
  rcases hr with rfl | rfl | rfl | rfl | rfl | rfl | rfl | rfl | rfl
  all_goals simp [okOpd, validOpd, kindOk, kindD, KindD.nm, fitsB]
  all_goals omega
theorem okValid_8 (r n : Int) : okOpd ⟨8, r, n⟩ = validOpd ⟨8, r, n⟩ := by
  rw [Bool.eq_iff_iff]
  by_cases h0 : r < 0
  · have h : ¬ (0 ≤ r) := by omega
    simp [okOpd, validOpd, nameOf, nameL, h0, h]
  by_cases h9 : 9 ≤ r
  · have h : ¬ (r < 9) := by omega
    have hl : (regsL 8)[r.toNat]? = none := by have := regs_short 8; simp; omega
    simp [okOpd, validOpd, nameOf, nameL, h0, h, hl]
  have hr : r = 0 ∨ r = 1 ∨ r = 2 ∨ r = 3 ∨ r = 4 ∨ r = 5 ∨ r = 6 ∨ r = 7 ∨ r = 8 := by omega
  clear h0 h9
  rcases hr with rfl | rfl | rfl | rfl | rfl | rfl | rfl | rfl | rfl
  all_goals simp [okOpd, validOpd, nameOf, nameL, regsL, kindOk, kindD, KindD.nm, fitsB]
  all_goals omega
theorem okValid_9 (r n : Int) : okOpd ⟨9, r, n⟩ = validOpd ⟨9, r, n⟩ := by
  rw [Bool.eq_iff_iff]
  by_cases h0 : r < 0
  · have h : ¬ (0 ≤ r) := by omega
    simp [okOpd, validOpd, nameOf, nameL, h0, h]
  by_cases h9 : 9 ≤ r
  · have h : ¬ (r < 9) := by omega
    have hl : (regsL 9)[r.toNat]? = none := by have := regs_short 9; simp; omega
    simp [okOpd, validOpd, nameOf, nameL, h0, h, hl]
  have hr : r = 0 ∨ r = 1 ∨ r = 2 ∨ r = 3 ∨ r = 4 ∨ r = 5 ∨ r = 6 ∨ r = 7 ∨ r = 8 := by omega
  clear h0 h9
  rcases hr with rfl | rfl | rfl | rfl | rfl | rfl | rfl | rfl | rfl
  all_goals simp [okOpd, validOpd, nameOf, nameL, regsL, kindOk, kindD, KindD.nm, fitsB]
  all_goals omega
theorem okValid_10 (r n : Int) : okOpd ⟨10, r, n⟩ = validOpd ⟨10, r, n⟩ := by
  rw [Bool.eq_iff_iff]
  by_cases h0 : r < 0
  · have h : ¬ (0 ≤ r) := by omega
    have h' : ¬ (r = 0) := by omega
    simp [okOpd, validOpd, h, h']
  by_cases h9 : 9 ≤ r
  · have h : ¬ (r < 9) := by omega
    have h' : ¬ (r = 0) := by omega
    simp [okOpd, validOpd, h, h']
  have hr : r = 0 ∨ r = 1 ∨ r = 2 ∨ r = 3 ∨ r = 4 ∨ r = 5 ∨ r = 6 ∨ r = 7 ∨ r = 8 := by omega
  clear h0 h9
  rcases hr with rfl | rfl | rfl | rfl | rfl | rfl | rfl | rfl | rfl
  all_goals simp [okOpd, validOpd, kindOk, kindD, KindD.nm, fitsB]
  all_goals omega
theorem ok_valid (o : Opd) : okOpd o = validOpd o := by
  obtain ⟨k, r, n⟩ := o
  by_cases h1 : k = 1
  · subst h1; exact okValid_1 r n
  by_cases h2 : k = 2
  · subst h2; exact okValid_2 r n
  by_cases h3 : k = 3
  · subst h3; exact okValid_3 r n
  by_cases h4 : k = 4
  · subst h4; exact okValid_4 r n
  by_cases h5 : k = 5
  · subst h5; exact okValid_5 r n
  by_cases h6 : k = 6
  · subst h6; exact okValid_6 r n
  by_cases h7 : k = 7
  · subst h7; exact okValid_7 r n
  by_cases h8 : k = 8
  · subst h8; exact okValid_8 r n
  by_cases h9 : k = 9
  · subst h9; exact okValid_9 r n
  by_cases h10 : k = 10
  · subst h10; exact okValid_10 r n
  simp [okOpd, validOpd, kindOk, h1, h2, h3, h4, h5, h6, h7, h8, h9, h10]
end Go.Proofs.YtlepicdjnbbndaaGreatDoor

/-
  THE MNEMONICS: the reference's Ops, Known and Check.
-/
namespace Go.Proofs.YtlepicdjnbbndaaGreatDoor
open Go.RowKit

def opsL : List ByteArray := [⟨#[65, 68, 67]⟩, ⟨#[65, 68, 68]⟩, ⟨#[65, 78, 68]⟩, ⟨#[66, 73, 84]⟩, ⟨#[67, 65, 76, 76]⟩, ⟨#[67, 67, 70]⟩, ⟨#[67, 80]⟩, ⟨#[67, 80, 68]⟩, ⟨#[67, 80, 68, 82]⟩, ⟨#[67, 80, 73]⟩, ⟨#[67, 80, 73, 82]⟩, ⟨#[67, 80, 76]⟩, ⟨#[68, 65, 65]⟩, ⟨#[68, 69, 67]⟩, ⟨#[68, 73]⟩, ⟨#[68, 74, 78, 90]⟩, ⟨#[69, 73]⟩, ⟨#[69, 88]⟩, ⟨#[69, 88, 88]⟩, ⟨#[72, 65, 76, 84]⟩, ⟨#[73, 77]⟩, ⟨#[73, 78]⟩, ⟨#[73, 78, 67]⟩, ⟨#[73, 78, 68]⟩, ⟨#[73, 78, 68, 82]⟩, ⟨#[73, 78, 73]⟩, ⟨#[73, 78, 73, 82]⟩, ⟨#[74, 80]⟩, ⟨#[74, 82]⟩, ⟨#[76, 68]⟩, ⟨#[76, 68, 68]⟩, ⟨#[76, 68, 68, 82]⟩, ⟨#[76, 68, 73]⟩, ⟨#[76, 68, 73, 82]⟩, ⟨#[78, 69, 71]⟩, ⟨#[78, 79, 80]⟩, ⟨#[79, 82]⟩, ⟨#[79, 84, 68, 82]⟩, ⟨#[79, 84, 73, 82]⟩, ⟨#[79, 85, 84]⟩, ⟨#[79, 85, 84, 68]⟩, ⟨#[79, 85, 84, 73]⟩, ⟨#[80, 79, 80]⟩, ⟨#[80, 85, 83, 72]⟩, ⟨#[82, 69, 83]⟩, ⟨#[82, 69, 84]⟩, ⟨#[82, 69, 84, 73]⟩, ⟨#[82, 69, 84, 78]⟩, ⟨#[82, 76]⟩, ⟨#[82, 76, 65]⟩, ⟨#[82, 76, 67]⟩, ⟨#[82, 76, 67, 65]⟩, ⟨#[82, 76, 68]⟩, ⟨#[82, 82]⟩, ⟨#[82, 82, 65]⟩, ⟨#[82, 82, 67]⟩, ⟨#[82, 82, 67, 65]⟩, ⟨#[82, 82, 68]⟩, ⟨#[82, 83, 84]⟩, ⟨#[83, 66, 67]⟩, ⟨#[83, 67, 70]⟩, ⟨#[83, 69, 84]⟩, ⟨#[83, 76, 65]⟩, ⟨#[83, 76, 76]⟩, ⟨#[83, 82, 65]⟩, ⟨#[83, 82, 76]⟩, ⟨#[83, 85, 66]⟩, ⟨#[88, 79, 82]⟩]

set_option maxRecDepth 100000 in
set_option maxHeartbeats 2000000 in
theorem ops07_any (w : World) : Calls Tryz.prog 164 #[] w fun e w' => ∃ v, e = .returned v ∧ SlR strR w' (fun _ => True) v opsL ∧ Below w.heap.size w w' := by
  have HF : Hid (SlR strR (w.alloc (.cells (opsL.map Value.string).toArray 9)) (fun _ => True) (.slice (some ⟨w.heap.size, 0, none⟩) opsL.length opsL.length) opsL) := slR_strs w 9 (fun _ => True) opsL _ rfl trivial (by decide)
  go_enter Tryz.func164, Tryz.ntmps164
  go_wp2
  go_ret
  exact ⟨_, rfl, HF.out, (Below.refl _ _).alloc (Nat.le_refl _) _⟩

set_option maxHeartbeats 400000 in
theorem known07_any (s : ByteArray) (w : World) : Calls Tryz.prog 126 #[.string s] w fun e w' => e = .returned (.bool (inL opsL s)) ∧ Below w.heap.size w w' := by
  have ho := ops07_any w
  obtain ⟨l, hl⟩ : ∃ l, l = opsL := ⟨_, rfl⟩
  rw [← hl] at ho ⊢
  clear hl
  have HO := Lib.hid ho
  clear ho
  go_enter Tryz.func126, Tryz.ntmps126
  go_wp2_with fail
  refine HO.out.mono ?_
  rintro e w1 ⟨v, rfl, hs, hb⟩
  have HB := Lib.hid hb
  clear hb
  obtain ⟨a1, c1, rfl, hc1, hm1, g1⟩ := hs.str
  clear hs HO
  go_wp2
  go_loop [4] (fun i => ∃ k : Nat, k ≤ l.length ∧ i = .int .i64 k ∧ inL l s = inL (l.drop k) s) (fun i => l.length - (intOf i).toNat)
  case atStart => exact ⟨0, Nat.zero_le _, rfl, rfl⟩
  case round =>
    obtain ⟨k, hk, rfl, ht⟩ := hrel
    have HT := Lib.hid ht
    clear ht
    by_cases hlt : k < l.length
    · obtain ⟨b1, o1, rfl, _, d1⟩ := g1 k l[k] (List.getElem?_eq_getElem hlt)
      clear g1
      have HD := Lib.hid (List.drop_eq_getElem_cons hlt)
      have HY : Hid ((l[k].toList == s.toList) = true → inL l s = true) := inL_drop_yes hlt
      generalize l[k] = x at *
      go_wp2
      · go_ret
        exact ⟨ret_bool (HY.out (by assumption)).symm, HB.out⟩
      · go_round
        case rel => exact ⟨k + 1, by omega, by go_num, by rw [HT.out, HD.out]; simp only [inL, List.any_cons]; simp [*]⟩
        case measure => simp [intOf]; omega
    · go_wp2
      go_ret
      exact ⟨ret_bool (by rw [HT.out, List.drop_of_length_le (by omega)]; rfl), HB.out⟩
/-- what the reference's Check answers -/
def check07 (x : Ins) : Int := if !inL opsL x.op then 12 else if 3 < x.args.length then 11 else if x.args.all validOpd then 0 else 2

set_option maxHeartbeats 1000000 in
theorem check07_any (p : Blocks) (x : Ins) (v : Value) (w : World) (h : SlR opdR w p v x.args) :
    Calls Tryz.prog 76 #[.agg #[.string x.op, v]] w fun e w' => e = .returned (.int .i64 (check07 x)) ∧ Below w.heap.size w w' := by
  obtain ⟨s, l⟩ := x
  dsimp only at *
  obtain ⟨a, c, rfl, _⟩ := h.opd
  obtain ⟨W, hW⟩ : ∃ W : World, W = w.alloc (.cells #[.string s, .slice a l.length c] 25) := ⟨_, rfl⟩
  have hbW : Below w.heap.size w W := hW ▸ (Below.refl _ _).alloc (Nat.le_refl _) _
  have k1 : Blk W w.heap.size 25 #[.string s, .slice a l.length c] := hW ▸ Blk.new w _ _
  have HBW := Lib.hid hbW
  have HK := Lib.hid k1
  have HSL := Lib.hid (h.below hbW)
  have hkn := known07_any s W
  clear h hbW k1
  cases hs : inL opsL s
  all_goals
    rw [hs] at hkn
    have HKN := Lib.hid hkn
    clear hkn
  · have HV := Lib.hid (show check07 ⟨s, l⟩ = 12 by simp [check07, hs])
    go_enter Tryz.func76, Tryz.ntmps76
    obtain ⟨a0, a1, _, _⟩ := HK.out.two
    go_wp2_with fail
    rw [← hW]
    clear hW
    refine HKN.out.mono ?_
    rintro e w1 ⟨rfl, hb⟩
    have HB := Lib.hid hb
    clear hb
    go_wp2
    go_ret
    exact ⟨ret_int HV.out.symm, HBW.out.trans (HB.out.mono HBW.out.size)⟩
  · have hs1 : w.heap.size < W.heap.size := HK.out.lt
    cases hl : decide ((3 : Int) < l.length)
    rotate_left
    · have HV := Lib.hid (show check07 ⟨s, l⟩ = 11 by have := of_decide_eq_true hl; simp [check07, hs]; omega)
      go_enter Tryz.func76, Tryz.ntmps76
      go_wp2_with fail
      rw [← hW]
      clear hW
      refine HKN.out.mono ?_
      rintro e w1 ⟨rfl, hb⟩
      have HB := Lib.hid hb
      obtain ⟨a0, a1, _, _⟩ := (HK.out.below hb hs1).two
      clear hb
      go_wp2
      go_ret
      exact ⟨ret_int HV.out.symm, HBW.out.trans (HB.out.mono HBW.out.size)⟩
    · have HV := Lib.hid (show check07 ⟨s, l⟩ = if l.all validOpd then 0 else 2 by have := of_decide_eq_false hl; simp [check07, hs]; omega)
      go_enter Tryz.func76, Tryz.ntmps76
      go_wp2_with fail
      rw [← hW]
      clear hW
      refine HKN.out.mono ?_
      rintro e w1 ⟨rfl, hb⟩
      have HB := Lib.hid (HBW.out.trans (hb.mono HBW.out.size))
      have HSL1 := Lib.hid (HSL.out.below hb)
      have HK1 := Lib.hid (HK.out.below hb hs1)
      obtain ⟨a0, a1, _, _⟩ := HK1.out.two
      clear hb
      go_wp2
      go_loopw [3] (fun i wx => ∃ k : Nat, k ≤ l.length ∧ i = .int .i64 k ∧ l.all validOpd = (l.drop k).all validOpd ∧ Below w1.heap.size w1 wx) (fun i _ => l.length - (intOf i).toNat)
      case atStart => exact ⟨0, Nat.zero_le _, rfl, rfl, Below.refl _ _⟩
      case round =>
        obtain ⟨k, hk, rfl, ht, hb⟩ := hrel
        have HT := Lib.hid ht
        have HBX := Lib.hid hb
        have HKX := Lib.hid (HK1.out.below hb HK1.out.lt)
        obtain ⟨a0, a1, _, _⟩ := HKX.out.two
        obtain ⟨ad, cd, hv, _, _, g1⟩ := (HSL1.out.below hb).opd
        obtain ⟨rfl, _, rfl⟩ : a = ad ∧ l.length = l.length ∧ c = cd := by injection hv with h1 h2 h3; exact ⟨h1, h2, h3⟩
        clear ht hb hv
        by_cases hlt : k < l.length
        · obtain ⟨b1, o1, rfl, _, d1, d2, d3⟩ := g1 k l[k] (List.getElem?_eq_getElem hlt)
          clear g1
          have HD := Lib.hid (List.drop_eq_getElem_cons hlt)
          have hva := fun wz => valid06_any l[k] wz
          generalize l[k] = x at *
          cases hvx : validOpd x
          all_goals
            rw [hvx] at hva
            have HVA := Lib.hid hva
            have HVX := Lib.hid hvx
            clear hva hvx
          · go_wp2_with (go_at_call 127; refine (HVA.out _).mono ?_; rintro e w2 ⟨rfl, hb⟩; have HB2 := Lib.hid (HBX.out.trans (hb.mono HBX.out.size)); clear hb)
            go_ret
            exact ⟨ret_int (by rw [HV.out, HT.out, HD.out, List.all_cons, HVX.out]; rfl), HB.out.trans (HB2.out.mono HB.out.size)⟩
          · go_wp2_with (go_at_call 127; refine (HVA.out _).mono ?_; rintro e w2 ⟨rfl, hb⟩; have HB2 := Lib.hid (HBX.out.trans (hb.mono HBX.out.size)); clear hb)
            go_round
            case rel => exact ⟨k + 1, by omega, by go_num, by rw [HT.out, HD.out, List.all_cons, HVX.out, Bool.true_and], HB2.out⟩
            case measure => simp [intOf]; omega
        · clear g1
          go_wp2
          go_ret
          exact ⟨ret_int (by rw [HV.out, HT.out, List.drop_of_length_le (by omega)]; rfl), HB.out.trans (HBX.out.mono HB.out.size)⟩
end Go.Proofs.YtlepicdjnbbndaaGreatDoor

/-
  THE MNEMONICS OF THE PROGRAM: instr.Ops; instr.set, a map that holds true at each of them.
-/
namespace Go.Proofs.YtlepicdjnbbndaaGreatDoor
open Go.RowKit

def opsText : ByteArray := ⟨#[65, 68, 67, 32, 65, 68, 68, 32, 65, 78, 68, 32, 66, 73, 84, 32, 67, 65, 76, 76, 32, 67, 67, 70, 32, 67, 80, 32, 67, 80, 68, 32, 67, 80, 68, 82, 32, 67, 80, 73, 32, 67, 80, 73, 82, 32, 67, 80, 76, 32, 68, 65, 65, 32, 68, 69, 67, 32, 68, 73, 32, 68, 74, 78, 90, 32, 69, 73, 32, 69, 88, 32, 69, 88, 88, 32, 72, 65, 76, 84, 32, 73, 77, 32, 73, 78, 32, 73, 78, 67, 32, 73, 78, 68, 32, 73, 78, 68, 82, 32, 73, 78, 73, 32, 73, 78, 73, 82, 32, 74, 80, 32, 74, 82, 32, 76, 68, 32, 76, 68, 68, 32, 76, 68, 68, 82, 32, 76, 68, 73, 32, 76, 68, 73, 82, 32, 78, 69, 71, 32, 78, 79, 80, 32, 79, 82, 32, 79, 84, 68, 82, 32, 79, 84, 73, 82, 32, 79, 85, 84, 32, 79, 85, 84, 68, 32, 79, 85, 84, 73, 32, 80, 79, 80, 32, 80, 85, 83, 72, 32, 82, 69, 83, 32, 82, 69, 84, 32, 82, 69, 84, 73, 32, 82, 69, 84, 78, 32, 82, 76, 32, 82, 76, 65, 32, 82, 76, 67, 32, 82, 76, 67, 65, 32, 82, 76, 68, 32, 82, 82, 32, 82, 82, 65, 32, 82, 82, 67, 32, 82, 82, 67, 65, 32, 82, 82, 68, 32, 82, 83, 84, 32, 83, 66, 67, 32, 83, 67, 70, 32, 83, 69, 84, 32, 83, 76, 65, 32, 83, 76, 76, 32, 83, 82, 65, 32, 83, 82, 76, 32, 83, 85, 66, 32, 88, 79, 82]⟩
theorem opsText_fields : fieldsOf opsText = opsL := by decide +kernel
theorem opsText_ascii : ∀ (j : Nat) b, opsText.data.toList[j]? = some b → b.toNat < 128 := fun _ b h =>
  (show ∀ b ∈ opsText.data.toList, b.toNat < 128 by decide +kernel) b (List.mem_of_getElem? h)
theorem fields_ops (w : World) (hT : Spc w) : Calls Tryz.prog 135 #[.string opsText] w fun e w' => ∃ v, e = .returned v ∧ SlR strR w' (fun b => w.heap.size ≤ b) v opsL ∧ Below w.heap.size w w' := by
  have hf := Tryz.strings_Fields opsText w (by decide +kernel) opsText_ascii hT
  have hlen : (Lib.fields opsText.data.toList).length = opsL.length := by rw [← opsText_fields]; simp [fieldsOf]
  have hcells : ((Lib.fields opsText.data.toList).map fun l => Value.string ⟨l.toArray⟩) = opsL.map Value.string := by rw [← opsText_fields]; simp [fieldsOf]
  rw [hlen, hcells] at hf
  refine hf.mono ?_
  rintro e w' ⟨rfl, rfl⟩
  exact ⟨_, rfl, slR_strs w 9 _ opsL _ rfl (Nat.le_refl _) (by decide), (Below.refl _ _).alloc (Nat.le_refl _) _⟩

set_option maxRecDepth 100000 in
theorem ops_any (w : World) (hT : Spc w) : Calls Tryz.prog 112 #[] w fun e w' => ∃ v, e = .returned v ∧ SlR strR w' (fun b => w.heap.size ≤ b) v opsL ∧ Below w.heap.size w w' := by
  have HF := Lib.hid (fields_ops w hT)
  go_enter Tryz.func112, Tryz.ntmps112
  go_wp2_with fail
  refine HF.out.mono ?_
  rintro e w1 ⟨v, rfl, hs, hb⟩
  go_wp2
  go_ret
  exact ⟨_, rfl, hs, hb⟩

open Go.Maps in
set_option maxHeartbeats 1000000 in
theorem set_any (w : World) (hT : Spc w) : Calls Tryz.prog 59 #[] w fun e w' => e = .returned (.map (some w.heap.size)) ∧
    (∃ D : DataW Unit, w'.ownsMap Tryz.prog 9 (plainElem Tryz.prog 4) w.heap.size opsL.length D ∧ ∀ s : ByteArray, D.atKey (.string s.data.toList) (.lit (.bool false)) = .lit (.bool (inL opsL s))) ∧ Below w.heap.size w w' := by
  have hmm := @run_makeMap Tryz.prog
  have ho := ops_any (w.alloc (.map #[] 0)) (hT.below ((Below.refl _ _).alloc (Nat.le_refl _) _))
  have hsz : ∀ s ∈ opsL, s.size ≤ maxLen := by decide +kernel
  have hln : opsL.length < maxLen := by decide
  obtain ⟨l, hl⟩ : ∃ l, l = opsL := ⟨_, rfl⟩
  rw [← hl] at ho hsz hln ⊢
  clear hl hT
  have HO := Lib.hid ho
  have HSZ := Lib.hid hsz
  have HLN := Lib.hid hln
  clear ho hsz hln
  go_enter Tryz.func59, Tryz.ntmps59
  go_wp2_with fail
  refine HO.out.mono ?_
  rintro e w1 ⟨v, rfl, hs, hb⟩
  have hown0 : w1.ownsMap Tryz.prog 9 (plainElem (H := Unit) Tryz.prog 4) w.heap.size 0 (.map []) := (World.ownsMap_made w Tryz.prog _ _).kept (row := none) ⟨hb.os, hb.tape, hb.output, hb.size, fun k hk _ => hb.block k hk⟩ (by simp)
  have hbw : Below w.heap.size w w1 := ((Below.refl _ _).alloc (Nat.le_refl _) _).trans (hb.mono (by simp))
  have hs1 : SlR strR w1 (fun b => w.heap.size < b) v l := hs.mono fun k hk => by simp at hk; omega
  obtain ⟨a, c, rfl, _⟩ := hs.str
  have HOWN := Lib.hid hown0
  have HBW := Lib.hid hbw
  have HS1 := Lib.hid hs1
  clear hown0 hbw hs1 hs hb HO
  go_wp2
  go_loopw [7] (fun i wr => ∃ k : Nat, k ≤ l.length ∧ i = .int .i64 k ∧ (∃ D : DataW Unit, wr.ownsMap Tryz.prog 9 (plainElem Tryz.prog 4) w.heap.size k D ∧ IsMap D ∧ ∀ s : ByteArray, D.atKey (.string s.data.toList) (.lit (.bool false)) = .lit (.bool (inL (l.take k) s))) ∧ SlR strR wr (fun b => w.heap.size < b) (.slice a l.length c) l ∧ Below w.heap.size w wr) (fun i _ => l.length - (intOf i).toNat)
  case atStart => exact ⟨0, Nat.zero_le _, rfl, ⟨_, HOWN.out, ⟨[], rfl⟩, fun s => rfl⟩, HS1.out, HBW.out⟩
  case round =>
    obtain ⟨k, hk, rfl, ⟨D, hown, hm, hD⟩, hs, hb⟩ := hrel
    have HS := Lib.hid hs
    have HB := Lib.hid hb
    have HM := Lib.hid hm
    have HD := Lib.hid hD
    obtain ⟨a2, c2, hv, _, _, g1⟩ := hs.str
    obtain ⟨rfl, _, rfl⟩ : a = a2 ∧ l.length = l.length ∧ c = c2 := by injection hv with h1 h2 h3; exact ⟨h1, h2, h3⟩
    clear hs hb hm hD hv
    by_cases hlt : k < l.length
    · obtain ⟨b1, o1, rfl, _, d1⟩ := g1 k l[k] (List.getElem?_eq_getElem hlt)
      clear g1
      have HT := Lib.hid (List.take_append_getElem hlt)
      have hkey : keyOf Tryz.prog 9 (.string l[k]) = some (.string l[k].data.toList) := Go.WideMaps.keyOf_string_mk Tryz.underlying9 (HSZ.out _ (List.getElem_mem _))
      generalize l[k] = x at *
      go_wp2_with (at_mapUpdate; refine wpList_mapUpdate_own _ rfl _ _ _ 99 rfl 9 4 (string_keyed Tryz.underlying9) Tryz.underlying99 (plainElem (H := Unit) Tryz.prog 4) w.heap.size k _ rfl hown (by have := HLN.out; omega) _ _ _ rfl rfl hkey _ [] (plainElem_bool Tryz.underlying4 true) ?_; intro w3 hown3 hgrow3; have HOWN3 := Lib.hid hown3; have HG3 := Lib.hid hgrow3; clear hown3 hgrow3 hown hkey)
      go_roundw
      case rel =>
        refine ⟨k + 1, by omega, by go_num, ⟨_, HOWN3.out, ?_, fun s => ?_⟩, ?_, HB.out.grown HG3.out HB.out.size (fun j hj => by cases hj; exact Nat.le_refl _)⟩
        · obtain ⟨es, rfl⟩ := HM.out
          exact ⟨_, rfl⟩
        · rw [← HT.out]
          by_cases hs : s = x
          · subst hs
            rw [atKey_put_same HM.out (show WideAt.IsKeyLit (.string s.data.toList) from trivial)]
            simp [inL]
          · rw [atKey_put_other (fun e => hs (by cases s; cases x; simp at e; simp [e])), HD.out]
            have hn : (x.toList == s.toList) = false := by
              cases hh : (x.toList == s.toList)
              · rfl
              · exact absurd (toList_inj (eq_of_beq hh)).symm hs
            simp [inL, hn]
        · exact HS.out.old.keep (Keep.grown HG3.out (fun k hk => ⟨hk.2, fun e => by cases e; exact Nat.lt_irrefl _ hk.1⟩)) |>.mono (fun k hk => hk.1)
      case measure => simp [intOf]; omega
    · clear g1
      have hkl : k = l.length := by omega
      go_wp2
      go_ret
      subst hkl
      exact ⟨rfl, ⟨D, hown, fun s => by rw [HD.out, List.take_length]⟩, HB.out⟩
end Go.Proofs.YtlepicdjnbbndaaGreatDoor

/-
  instr.Check: what it answers is what the reference's Check answers.
-/
namespace Go.Proofs.YtlepicdjnbbndaaGreatDoor
open Go.RowKit

theorem check1_any (o : Opd) (w : World) : Calls Tryz.prog 60 #[.agg #[.int .i64 o.kind, .int .i64 o.reg, .int .i64 o.n]] w fun e w' => e = .returned (.bool (!validOpd o)) ∧ Below w.heap.size w w' := by
  have HB0 : Hid (Below w.heap.size w (w.alloc (.cells #[.int .i64 o.kind, .int .i64 o.reg, .int .i64 o.n] 87))) := (Below.refl _ _).alloc (Nat.le_refl _) _
  have HV := Lib.hid (valid_any o (w.alloc (.cells #[.int .i64 o.kind, .int .i64 o.reg, .int .i64 o.n] 87)))
  rw [← ok_valid]
  go_enter Tryz.func60, Tryz.ntmps60
  go_wp2_with (go_at_call 61; refine HV.out.mono ?_; rintro e w1 ⟨rfl, hb⟩; have HB := Lib.hid (HB0.out.trans (hb.mono HB0.out.size)); clear hb)
  go_ret
  exact ⟨rfl, HB.out⟩

set_option maxHeartbeats 1000000 in
theorem index_any (p : Blocks) (v : Value) (l : List Opd) (w : World) (h : SlR opdR w p v l) :
    Calls Tryz.prog 110 #[v, .func (.func 60) #[] #[]] w fun e w' => (∃ r : Int, e = .returned (.int .i64 r) ∧ decide (0 ≤ r) = !l.all validOpd) ∧ Below w.heap.size w w' := by
  obtain ⟨a, c, rfl, _⟩ := h.opd
  have H := Lib.hid h
  clear h
  go_enter Tryz.func110, Tryz.ntmps110
  go_wp2
  go_loopw [8] (fun i wx => ∃ k : Nat, k ≤ l.length ∧ i = .int .i64 k ∧ l.all validOpd = (l.drop k).all validOpd ∧ Below w.heap.size w wx) (fun i _ => l.length - (intOf i).toNat)
  case atStart => exact ⟨0, Nat.zero_le _, rfl, rfl, Below.refl _ _⟩
  case round =>
    obtain ⟨k, hk, rfl, ht, hb⟩ := hrel
    have HT := Lib.hid ht
    have HBX := Lib.hid hb
    obtain ⟨ad, cd, hv, _, _, g1⟩ := (H.out.below hb).opd
    obtain ⟨rfl, _, rfl⟩ : a = ad ∧ l.length = l.length ∧ c = cd := by injection hv with h1 h2 h3; exact ⟨h1, h2, h3⟩
    clear ht hb hv
    by_cases hlt : k < l.length
    · obtain ⟨b1, o1, rfl, _, d1, d2, d3⟩ := g1 k l[k] (List.getElem?_eq_getElem hlt)
      clear g1
      have HD := Lib.hid (List.drop_eq_getElem_cons hlt)
      have hva := fun wz => check1_any l[k] wz
      generalize l[k] = x at *
      cases hvx : validOpd x
      all_goals
        rw [hvx] at hva
        have HVA := Lib.hid hva
        have HVX := Lib.hid hvx
        clear hva hvx
      · go_wp2_with (go_at_call 60; refine (HVA.out _).mono ?_; rintro e w2 ⟨rfl, hb⟩; have HB2 := Lib.hid (HBX.out.trans (hb.mono HBX.out.size)); clear hb)
        go_ret
        exact ⟨⟨k, rfl, by rw [HT.out, HD.out, List.all_cons, HVX.out]; simp⟩, HB2.out⟩
      · go_wp2_with (go_at_call 60; refine (HVA.out _).mono ?_; rintro e w2 ⟨rfl, hb⟩; have HB2 := Lib.hid (HBX.out.trans (hb.mono HBX.out.size)); clear hb)
        go_round
        case rel => exact ⟨k + 1, by omega, by go_num, by rw [HT.out, HD.out, List.all_cons, HVX.out, Bool.true_and], HB2.out⟩
        case measure => simp [intOf]; omega
    · clear g1
      go_wp2
      go_ret
      exact ⟨⟨-1, rfl, by rw [HT.out, List.drop_of_length_le (by omega)]; simp⟩, HBX.out⟩

theorem contains_any (p : Blocks) (v : Value) (l : List Opd) (w : World) (h : SlR opdR w p v l) :
    Calls Tryz.prog 56 #[v, .func (.func 60) #[] #[]] w fun e w' => e = .returned (.bool (!l.all validOpd)) ∧ Below w.heap.size w w' := by
  have HI := Lib.hid (index_any p v l w h)
  obtain ⟨a, c, rfl, _⟩ := h.opd
  clear h
  go_enter Tryz.func56, Tryz.ntmps56
  go_wp2_with (go_at_call 110; refine HI.out.mono ?_; rintro e w1 ⟨⟨r, rfl, hr⟩, hb⟩; have HB := Lib.hid hb; have HR := Lib.hid hr; clear hb hr)
  go_ret
  exact ⟨ret_bool HR.out, HB.out⟩

theorem zeroB (w : World) : (zeroValue 4).run Tryz.prog w = .ok (.bool false) w := by kernel_rfl
theorem look_set {w : World} {b n : Nat} {D : DataW Unit} (hown : w.ownsMap Tryz.prog 9 (plainElem Tryz.prog 4) b n D) (hD : ∀ s : ByteArray, D.atKey (.string s.data.toList) (.lit (.bool false)) = .lit (.bool (inL opsL s)))
    (s : ByteArray) (hs : s.size ≤ maxLen) : (Instr.lookup 99 (.map (some b)) (.string s) false).run Tryz.prog w = .ok (.bool (inL opsL s)) w := by
  obtain ⟨v, ps, hrun, hat⟩ := hown.lookup (Maps.string_keyed Tryz.underlying9) Tryz.underlying99 (zeroB w) (plainElem_bool Tryz.underlying4 false) (WideMaps.keyOf_string_mk Tryz.underlying9 hs)
  rw [hD] at hat
  rw [hrun]
  cases v <;> simp [plainElem, Tryz.underlying4] at hat
  rw [hat.1]

set_option maxHeartbeats 2000000 in
theorem check_any (p : Blocks) (x : Ins) (v : Value) (w : World) (h : SlR opdR w p v x.args) (hT : Spc w) (hs : x.op.size ≤ maxLen) :
    Calls Tryz.prog 23 #[.agg #[.string x.op, v]] w fun e w' => e = .returned (.int .i64 (check07 x)) ∧ Below w.heap.size w w' := by
  obtain ⟨s, l⟩ := x
  dsimp only at *
  obtain ⟨a, c, rfl, _⟩ := h.opd
  obtain ⟨W, hW⟩ : ∃ W : World, W = w.alloc (.cells #[.string s, .slice a l.length c] 25) := ⟨_, rfl⟩
  have hbW : Below w.heap.size w W := hW ▸ (Below.refl _ _).alloc (Nat.le_refl _) _
  have k1 : Blk W w.heap.size 25 #[.string s, .slice a l.length c] := hW ▸ Blk.new w _ _
  have HBW : Hid (Below w.heap.size w W.drew) := ⟨hbW.os, hbW.tape, hbW.output, hbW.size, hbW.block⟩
  have HK := Lib.hid k1
  have HSL := Lib.hid (h.below hbW).drew
  have hset : Calls Tryz.prog 59 #[] W.drew fun e w' => e = .returned (.map (some W.heap.size)) ∧
    (∃ D : DataW Unit, w'.ownsMap Tryz.prog 9 (plainElem Tryz.prog 4) W.heap.size opsL.length D ∧ ∀ s : ByteArray, D.atKey (.string s.data.toList) (.lit (.bool false)) = .lit (.bool (inL opsL s))) ∧ Below W.heap.size W.drew w' :=
    set_any W.drew ((hT.below hbW).below ⟨rfl, rfl, rfl, Nat.le_refl _, fun _ _ => rfl⟩)
  have HS := Lib.hid hs
  have hs1 : w.heap.size < W.heap.size := k1.lt
  obtain ⟨a0, a1, _, _⟩ := k1.two
  have HSET := Lib.hid hset
  clear h hbW hset k1 hT hs
  cases hin : inL opsL s
  · have HV := Lib.hid (show check07 ⟨s, l⟩ = 12 by simp [check07, hin])
    have HIN := Lib.hid hin
    go_enter Tryz.func23, Tryz.ntmps23
    go_upto_region 1 with fail
    rw [← hW]
    clear hW
    go_region_held3 (fun w' => w'.cell? ⟨w.heap.size, 0, none⟩ = some (.string s) ∧ w'.cell? ⟨w.heap.size, 1, none⟩ = some (.slice a l.length c)) (go_keep)
      (first | (go_at_call 59; refine HSET.out.mono ?_; rintro e w1 ⟨rfl, ⟨D, hown, hD⟩, hb⟩; have HB := Lib.hid hb; have hlook := look_set hown hD s HS.out; rw [HIN.out] at hlook; have b0 : w1.cell? ⟨w.heap.size, 0, none⟩ = some (.string s) := (hb.cell (p := ⟨w.heap.size, 0, none⟩) hs1).trans a0; have b1 : w1.cell? ⟨w.heap.size, 1, none⟩ = some (.slice a l.length c) := (hb.cell (p := ⟨w.heap.size, 1, none⟩) hs1).trans a1; clear hb hown hD))
    go_wp2
    go_ret
    exact ⟨ret_int HV.out.symm, HBW.out.trans (HB.out.mono HBW.out.size)⟩
  · have HIN := Lib.hid hin
    cases hl : decide ((3 : Int) < l.length)
    rotate_left
    · have HV := Lib.hid (show check07 ⟨s, l⟩ = 11 by have := of_decide_eq_true hl; simp [check07, hin]; omega)
      go_enter Tryz.func23, Tryz.ntmps23
      go_upto_region 1 with fail
      rw [← hW]
      clear hW
      go_region_held3 (fun w' => w'.cell? ⟨w.heap.size, 0, none⟩ = some (.string s) ∧ w'.cell? ⟨w.heap.size, 1, none⟩ = some (.slice a l.length c)) (go_keep)
        (first | (go_at_call 59; refine HSET.out.mono ?_; rintro e w1 ⟨rfl, ⟨D, hown, hD⟩, hb⟩; have HB := Lib.hid hb; have hlook := look_set hown hD s HS.out; rw [HIN.out] at hlook; have b0 : w1.cell? ⟨w.heap.size, 0, none⟩ = some (.string s) := (hb.cell (p := ⟨w.heap.size, 0, none⟩) hs1).trans a0; have b1 : w1.cell? ⟨w.heap.size, 1, none⟩ = some (.slice a l.length c) := (hb.cell (p := ⟨w.heap.size, 1, none⟩) hs1).trans a1; clear hb hown hD))
      go_wp2
      go_ret
      exact ⟨ret_int HV.out.symm, HBW.out.trans (HB.out.mono HBW.out.size)⟩
    · have hv : check07 ⟨s, l⟩ = if l.all validOpd then 0 else 2 := by have := of_decide_eq_false hl; simp [check07, hin]; omega
      cases hall : l.all validOpd
      all_goals
        rw [hall] at hv
        have HV := Lib.hid hv
        have HALL := Lib.hid hall
        clear hv hall
        go_enter Tryz.func23, Tryz.ntmps23
        go_upto_region 1 with fail
        rw [← hW]
        clear hW
        go_region_held3 (fun w' => w'.cell? ⟨w.heap.size, 0, none⟩ = some (.string s) ∧ w'.cell? ⟨w.heap.size, 1, none⟩ = some (.slice a l.length c)) (go_keep)
          (first | (go_at_call 59; refine HSET.out.mono ?_; rintro e w1 ⟨rfl, ⟨D, hown, hD⟩, hb⟩; have HB := Lib.hid hb; have hlook := look_set hown hD s HS.out; rw [HIN.out] at hlook; have b0 : w1.cell? ⟨w.heap.size, 0, none⟩ = some (.string s) := (hb.cell (p := ⟨w.heap.size, 0, none⟩) hs1).trans a0; have b1 : w1.cell? ⟨w.heap.size, 1, none⟩ = some (.slice a l.length c) := (hb.cell (p := ⟨w.heap.size, 1, none⟩) hs1).trans a1; clear hb hown hD))
        have HSL1 := Lib.hid (HSL.out.below HB.out)
        go_wp2_with (go_at_call 56; refine (contains_any _ _ _ _ HSL1.out).mono ?_; rw [HALL.out]; rintro e w2 ⟨rfl, hb⟩; have HB2 := Lib.hid hb; clear hb)
        go_ret
        exact ⟨ret_int HV.out.symm, (HBW.out.trans (HB.out.mono HBW.out.size)).trans (HB2.out.mono (Nat.le_trans HBW.out.size HB.out.size))⟩
end Go.Proofs.YtlepicdjnbbndaaGreatDoor
