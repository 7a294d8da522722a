/-
  The two helpers of the statements of chapter 7.
-/
import Derived.Test.YtkkjoghfdmmpaaaDoorK5
import Derived.Test.YtkkjoghfdmmpaaaDoorK2
namespace Go.Proofs.YtkkjoghfdmmpaaaDoor
open Go.RowKit

theorem short7_any (p : Blocks) (x : Ins) (v : Value) (w : World) (h : SlR opdR w p v x.args) :
    Calls Tryd.prog 46 #[.agg #[.string x.op, v]] w fun e w' => e = .returned (.bool (short8 x)) ∧ Below w.heap.size w w' := by
  obtain ⟨s, l⟩ := x
  dsimp only at *
  obtain ⟨a, c, rfl, _⟩ := h.opd
  clear h
  have HB : Hid (Below w.heap.size w (w.alloc (.cells #[.string s, .slice a l.length c] 39))) := (Below.refl _ _).alloc (Nat.le_refl _) _
  have HL0 : Hid (decide ((s.size : Int) ≤ 100) = false → short8 ⟨s, l⟩ = false) := fun h1 => by
    have h1 := of_decide_eq_false h1; simp [short8]; omega
  have HL1 : Hid (∀ b, decide ((s.size : Int) ≤ 100) = true → decide ((l.length : Int) ≤ 20) = b → short8 ⟨s, l⟩ = b) := fun b h1 h2 => by
    subst h2; have h1 := of_decide_eq_true h1; simp [short8]; rw [decide_eq_true (show s.size ≤ 100 by omega)]; simp; omega
  cases h1 : decide ((s.size : Int) ≤ 100)
  · go_enter Tryd.func46, Tryd.ntmps46
    go_wp2
    go_ret
    exact ⟨ret_bool (HL0.out h1).symm, HB.out⟩
  · cases h2 : decide ((l.length : Int) ≤ 20)
    all_goals
      go_enter Tryd.func46, Tryd.ntmps46
      go_wp2
      go_ret
      exact ⟨ret_bool (HL1.out _ h1 h2).symm, HB.out⟩

def insLD : Ins := ⟨⟨#[76, 68]⟩, [⟨5, 5, 5⟩, ⟨6, 0, 7⟩]⟩
theorem upper_ld : upper ⟨#[108, 100]⟩ = ⟨#[76, 68]⟩ := by decide +kernel
theorem shape_LD : (shape07 insLD).toList = [76, 68, 32, 40, 73, 88, 43, 100, 41, 44, 110] := by decide +kernel
theorem shape_LDv : shape07 insLD = ⟨#[76, 68, 32, 40, 73, 88, 43, 100, 41, 44, 110]⟩ := toList_inj (shape_LD.trans (toList_mk _).symm)

set_option maxHeartbeats 2000000 in
theorem alive7_any (w : World) (hT : Spc w) :
    Calls Tryd.prog 47 #[] w fun e w' => e = .returned (.bool true) ∧ Below w.heap.size w w' := by
  obtain ⟨W, hW⟩ : ∃ W : World, W = w.alloc (.cells #[.int .i64 5, .int .i64 5, .int .i64 5, .int .i64 6, .int .i64 0, .int .i64 7] 47) := ⟨_, rfl⟩
  have hbW : Below w.heap.size w W := hW ▸ (Below.refl _ _).alloc (Nat.le_refl _) _
  have hsl : SlR opdR W (fun _ => True) (.slice (some ⟨w.heap.size, 0, none⟩) 2 2) [⟨5, 5, 5⟩, ⟨6, 0, 7⟩] := by
    rw [hW]; exact (opdOwn_new (w := w) (q := fun _ => True) _ _ _ _ 2 rfl rfl (by simp [Opd.cells]) trivial (by simp)).slR
  have HMK := Lib.hid (Make_any _ ⟨#[108, 100]⟩ _ _ W hsl (by simp) (by decide))
  have HTW := Lib.hid (hT.below hbW)
  have HBW := Lib.hid hbW
  clear hbW hsl hT
  go_enter Tryd.func47, Tryd.ntmps47
  go_wp2_with fail
  rw [← hW]
  have HW := Lib.hid hW
  clear hW
  refine HMK.out.mono ?_
  rintro e w1 ⟨v1, rfl, ho1, hb1⟩
  rw [upper_ld]
  obtain ⟨oa, oc, rfl⟩ := ho1.form
  dsimp only [List.length] at *
  have HO1 := Lib.hid (ho1.slR (q := fun _ => True) (fun _ _ => trivial) (fun _ _ => trivial))
  have HB1 := Lib.hid (HBW.out.trans (hb1.mono HBW.out.size))
  have HT1 := Lib.hid (HTW.out.below hb1)
  obtain ⟨W2, hW2⟩ : ∃ W : World, W = w1.alloc (.cells #[.string ⟨#[76, 68]⟩, .slice oa 2 oc] 39) := ⟨_, rfl⟩
  have hb2 : Below w1.heap.size w1 W2 := hW2 ▸ (Below.refl _ _).alloc (Nat.le_refl _) _
  have k2 : Blk W2 w1.heap.size 39 #[.string ⟨#[76, 68]⟩, .slice oa 2 oc] := hW2 ▸ Blk.new w1 _ _
  have HK2 := Lib.hid k2
  have HO2 := Lib.hid (HO1.out.below hb2)
  have HT2 := Lib.hid (HT1.out.below hb2)
  have HB2 := Lib.hid (HB1.out.trans (hb2.mono HB1.out.size))
  have HSH := Lib.hid (shape_any (fun _ => True) insLD _ W2 HO2.out HT2.out (by decide))
  clear hb1 hb2 ho1 k2
  go_wp2_with fail
  rw [← hW2]
  clear hW2
  refine HSH.out.mono ?_
  rw [shape_LDv]
  rintro e w3 ⟨rfl, hb3⟩
  have HB3 := Lib.hid (HB2.out.trans (hb3.mono HB2.out.size))
  have HO3 := Lib.hid (HO2.out.below hb3)
  have HK3 := Lib.hid (HK2.out.below hb3 HK2.out.lt)
  obtain ⟨c0, c1, _, _⟩ := HK3.out.two
  clear hb3
  go_wp2_with fail
  refine (nums_any (fun _ => True) insLD _ _ HO3.out (by simp [insLD])).mono ?_
  rintro e w4 ⟨v4, rfl, ho4, hb4⟩
  have hnl : numsOf insLD.args = [5, 7] := by decide +kernel
  rw [hnl] at ho4
  have HB4 := Lib.hid (HB3.out.trans (hb4.mono HB3.out.size))
  have HO4 := Lib.hid (ho4.slR (q := fun _ => True) (fun _ _ => trivial) (fun _ _ => trivial))
  have HL : Hid (SlR intR (w4.alloc (.cells #[.int .i64 5, .int .i64 7] 3)) (fun _ => True) (.slice (some ⟨w4.heap.size, 0, none⟩) 2 2) [5, 7]) := slR_lit w4 _ _ [5, 7] _ 2 rfl rfl (by simp) (fun _ _ => trivial)
  have HA : Hid (Below w4.heap.size w4 (w4.alloc (.cells #[.int .i64 5, .int .i64 7] 3))) := (Below.refl _ _).alloc (Nat.le_refl _) _
  clear hb4 ho4 hnl
  go_wp2_with fail
  refine (EqualInt_any _ _ _ _ _ _ _ (HO4.out.below HA.out) HL.out).mono ?_
  rintro e w5 ⟨rfl, n, rfl⟩
  go_wp2
  go_ret
  exact ⟨rfl, below_dN (HB4.out.trans (HA.out.mono HB4.out.size)) n⟩
end Go.Proofs.YtkkjoghfdmmpaaaDoor
