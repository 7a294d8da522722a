/-
  canon.Is, and the two helpers of the statements of chapter 8.
-/
import Derived.Test.YtkkjoghfdmmpaaaDoorCanon5
namespace Go.Proofs.YtkkjoghfdmmpaaaDoor
open Go.RowKit

set_option maxHeartbeats 2000000 in
theorem Is_any (p : Blocks) (x : Ins) (v : Value) (w : World) (h : SlR opdR w p v x.args) (hT : Spc w) (hn : x.args.length ≤ 1000000) (hf : ∀ y ∈ x.args, fits64 y.n) :
    Calls Tryd.prog 27 #[.agg #[.string x.op, v]] w fun e w' => e = .returned (.bool (insEq (canonOf x) x)) ∧ Below w.heap.size w w' := by
  have HO := fun W hW (hb : Below w.heap.size w W) => Of_any p x v W hW (hT.below hb) hn hf
  obtain ⟨s, l⟩ := x
  dsimp only at *
  obtain ⟨a, c, rfl, _⟩ := h.opd
  have H := Lib.hid h
  have HOF := Lib.hid HO
  clear h hT hn hf HO
  obtain ⟨W, hW⟩ : ∃ W : World, W = w.alloc (.cells #[.string s, .slice a l.length c] 39) := ⟨_, rfl⟩
  have hbW : Below w.heap.size w W := hW ▸ (Below.refl _ _).alloc (Nat.le_refl _) _
  have k1 : Blk W w.heap.size 39 #[.string s, .slice a l.length c] := hW ▸ Blk.new w _ _
  have HBW := Lib.hid hbW
  obtain ⟨a0, a1, _, _⟩ := k1.two
  have hs1 : w.heap.size < W.heap.size := k1.lt
  clear hbW k1
  go_enter Tryd.func27, Tryd.ntmps27
  go_wp2
  rw [← hW]
  have HW := Lib.hid hW
  clear hW
  have HBD : Hid (Below w.heap.size w W.drew) := ⟨HBW.out.os, HBW.out.tape, HBW.out.output, HBW.out.size, HBW.out.block⟩
  have HCL := Lib.hid (HOF.out W.drew (H.out.below HBW.out).drew HBD.out)
  go_region_held3 (fun w' => w'.cell? ⟨w.heap.size, 0, none⟩ = some (.string s) ∧ w'.cell? ⟨w.heap.size, 1, none⟩ = some (.slice a l.length c)) (go_keep)
    (first | (go_at_call 26; refine HCL.out.mono ?_; rintro e w1 ⟨v', rfl, ho, hb⟩; have HO := Lib.hid ho; have HB := Lib.hid hb; have a0' : w1.cell? ⟨w.heap.size, 0, none⟩ = some (.string s) := (hb.cell (p := ⟨w.heap.size, 0, none⟩) hs1).trans a0; have a1' : w1.cell? ⟨w.heap.size, 1, none⟩ = some (.slice a l.length c) := (hb.cell (p := ⟨w.heap.size, 1, none⟩) hs1).trans a1; clear ho hb)
             | (go_at_call 28; refine (insSame_any _ _ _ ⟨s, l⟩ _ _ _ HO.out.slR ((H.out.below HBW.out).drew.below HB.out)).mono ?_; rintro e w2 ⟨rfl, hb⟩; have HB2 := Lib.hid hb; have a0'' : w2.cell? ⟨w.heap.size, 0, none⟩ = some (.string s) := (hb.cell (p := ⟨w.heap.size, 0, none⟩) (Nat.lt_of_lt_of_le hs1 HB.out.size)).trans a0'; have a1'' : w2.cell? ⟨w.heap.size, 1, none⟩ = some (.slice a l.length c) := (hb.cell (p := ⟨w.heap.size, 1, none⟩) (Nat.lt_of_lt_of_le hs1 HB.out.size)).trans a1'; clear hb))
  go_wp2
  go_ret
  refine ⟨ret_bool rfl, ?_⟩
  exact (HBD.out.trans (HB.out.mono HBW.out.size)).trans (HB2.out.mono (Nat.le_trans HBW.out.size HB.out.size))
def short8 (x : Ins) : Bool := decide (x.op.size ≤ 100) && decide (x.args.length ≤ 20)
theorem short_any (p : Blocks) (x : Ins) (v : Value) (w : World) (h : SlR opdR w p v x.args) :
    Calls Tryd.prog 24 #[.agg #[.string x.op, v]] w fun e w' => e = .returned (.bool (short8 x)) ∧ Below w.heap.size w w' := by
  obtain ⟨s, l⟩ := x
  dsimp only at *
  obtain ⟨a, c, rfl, _⟩ := h.opd
  clear h
  have HB : Hid (Below w.heap.size w (w.alloc (.cells #[.string s, .slice a l.length c] 39))) := (Below.refl _ _).alloc (Nat.le_refl _) _
  have HL0 : Hid (decide ((s.size : Int) ≤ 100) = false → short8 ⟨s, l⟩ = false) := fun h1 => by
    have h1 := of_decide_eq_false h1; simp [short8]; omega
  have HL1 : Hid (∀ b, decide ((s.size : Int) ≤ 100) = true → decide ((l.length : Int) ≤ 20) = b → short8 ⟨s, l⟩ = b) := fun b h1 h2 => by
    subst h2; have h1 := of_decide_eq_true h1; simp [short8]; rw [decide_eq_true (show s.size ≤ 100 by omega)]; simp; omega
  cases h1 : decide ((s.size : Int) ≤ 100)
  · go_enter Tryd.func24, Tryd.ntmps24
    go_wp2
    go_ret
    exact ⟨ret_bool (HL0.out h1).symm, HB.out⟩
  · cases h2 : decide ((l.length : Int) ≤ 20)
    all_goals
      go_enter Tryd.func24, Tryd.ntmps24
      go_wp2
      go_ret
      exact ⟨ret_bool (HL1.out _ h1 h2).symm, HB.out⟩

theorem insEq_refl (x : Ins) : insEq x x = true := insEq_iff.2 rfl
def wSUB : ByteArray := ⟨#[83, 85, 66]⟩
theorem upper_SUB : upper ⟨#[83, 85, 66]⟩ = ⟨#[83, 85, 66]⟩ := by decide +kernel
theorem canonOf_alive : canonOf ⟨⟨#[83, 85, 66]⟩, [⟨1, 7, 0⟩, ⟨6, 0, -1⟩]⟩ = ⟨⟨#[83, 85, 66]⟩, [⟨6, 0, 255⟩]⟩ := by rw [← insEq_iff]; decide +kernel
theorem canonOf_alive2 : canonOf ⟨⟨#[83, 85, 66]⟩, [⟨6, 0, 255⟩]⟩ = ⟨⟨#[83, 85, 66]⟩, [⟨6, 0, 255⟩]⟩ := by rw [← insEq_iff]; decide +kernel

set_option maxHeartbeats 2000000 in
theorem alive8_any (w : World) (hT : Spc w) :
    Calls Tryd.prog 25 #[] w fun e w' => e = .returned (.bool true) ∧ Below w.heap.size w w' := by
  obtain ⟨W, hW⟩ : ∃ W : World, W = w.alloc (.cells #[.int .i64 1, .int .i64 7, .int .i64 0, .int .i64 6, .int .i64 0, .int .i64 (-1)] 47) := ⟨_, rfl⟩
  have hbW : Below w.heap.size w W := hW ▸ (Below.refl _ _).alloc (Nat.le_refl _) _
  have hsl : SlR opdR W (fun _ => True) (.slice (some ⟨w.heap.size, 0, none⟩) 2 2) [⟨1, 7, 0⟩, ⟨6, 0, -1⟩] := by
    rw [hW]; exact (opdOwn_new (w := w) (q := fun _ => True) _ _ _ _ 2 rfl rfl (by simp [Opd.cells]) trivial (by simp)).slR
  have HMK := Lib.hid (Make_any _ ⟨#[83, 85, 66]⟩ _ _ W hsl (by simp) (by decide))
  have HTW := Lib.hid (hT.below hbW)
  have HBW := Lib.hid hbW
  clear hbW hsl hT
  go_enter Tryd.func25, Tryd.ntmps25
  go_wp2_with fail
  rw [← hW]
  have HW := Lib.hid hW
  clear hW
  refine HMK.out.mono ?_
  rintro e w1 ⟨v1, rfl, ho1, hb1⟩
  rw [upper_SUB]
  have HO1 := Lib.hid (ho1.slR (q := fun _ => True) (fun _ _ => trivial) (fun _ _ => trivial))
  have HB1 := Lib.hid (HBW.out.trans (hb1.mono HBW.out.size))
  have HOF := Lib.hid (Of_any _ ⟨⟨#[83, 85, 66]⟩, [⟨1, 7, 0⟩, ⟨6, 0, -1⟩]⟩ v1 w1 HO1.out (HTW.out.below hb1) (by simp) (by simp [fits64]))
  have HT1 := Lib.hid (HTW.out.below hb1)
  clear ho1 hb1
  go_wp2_with fail
  refine HOF.out.mono ?_
  rw [canonOf_alive]
  rintro e w2 ⟨v2, rfl, ho2, hb2⟩
  have HO2 := Lib.hid ho2.slR
  have HB2 := Lib.hid (HB1.out.trans (hb2.mono HB1.out.size))
  have HT2 := Lib.hid (HT1.out.below hb2)
  obtain ⟨a2, c2, rfl, _⟩ := ho2.slR.opd
  clear ho2 hb2
  dsimp only [List.length]
  go_upto_region 2 with fail
  obtain ⟨W3, hW3⟩ : ∃ W : World, W = w2.alloc (.cells #[.string ⟨#[83, 85, 66]⟩, .slice a2 1 c2] 39) := ⟨_, rfl⟩
  have hbW : Below w2.heap.size w2 W3 := hW3 ▸ (Below.refl _ _).alloc (Nat.le_refl _) _
  have k1 : Blk W3 w2.heap.size 39 #[.string ⟨#[83, 85, 66]⟩, .slice a2 1 c2] := hW3 ▸ Blk.new w2 _ _
  obtain ⟨a0, a1, _, _⟩ := k1.two
  have hs1 : w2.heap.size < W3.heap.size := k1.lt
  rw [← hW3]
  clear hW3 k1
  obtain ⟨W4, hW4⟩ : ∃ W : World, W = (W3.alloc (.cells #[.int .i64 6, .int .i64 0, .int .i64 255] 47)).drew := ⟨_, rfl⟩
  have hb34 : Below W3.heap.size W3 W4 := hW4 ▸ ((Below.refl _ _).alloc (Nat.le_refl _) _).trans ⟨rfl, rfl, rfl, Nat.le_refl _, fun _ _ => rfl⟩
  have hsl4 : SlR opdR W4 (fun _ => True) (.slice (some ⟨W3.heap.size, 0, none⟩) 1 1) [⟨6, 0, 255⟩] := by
    rw [hW4]; exact (opdOwn_new (w := W3) (q := fun _ => True) _ _ _ _ 1 rfl rfl (by simp [Opd.cells]) trivial (by simp)).slR.drew
  have hs4 : w2.heap.size < W4.heap.size := Nat.lt_of_lt_of_le hs1 hb34.size
  have a04 : W4.cell? ⟨w2.heap.size, 0, none⟩ = some (.string ⟨#[83, 85, 66]⟩) := (hb34.cell (p := ⟨w2.heap.size, 0, none⟩) hs1).trans a0
  have a14 : W4.cell? ⟨w2.heap.size, 1, none⟩ = some (.slice a2 1 c2) := (hb34.cell (p := ⟨w2.heap.size, 1, none⟩) hs1).trans a1
  have HMK2 := Lib.hid (Make_any _ ⟨#[83, 85, 66]⟩ _ _ W4 hsl4 (by simp) (by decide))
  have HB24 := Lib.hid (hbW.trans (hb34.mono hbW.size))
  have HS4 := Lib.hid ((HO2.out.below hbW).below hb34)
  have HT4 := Lib.hid (HT2.out.below HB24.out)
  clear hbW hb34 hsl4
  go_region_held3 (fun w' => w'.cell? ⟨w2.heap.size, 0, none⟩ = some (.string ⟨#[83, 85, 66]⟩) ∧ w'.cell? ⟨w2.heap.size, 1, none⟩ = some (.slice a2 1 c2)) (go_keep)
    (first | (go_at_call 53; rw [← hW4]; refine HMK2.out.mono ?_; rw [upper_SUB]; rintro e w5 ⟨v5, rfl, ho, hb⟩; have HS5 := Lib.hid (HS4.out.below hb); have HB5 := Lib.hid hb; have HT5 := Lib.hid (HT4.out.below hb); have HO5 := Lib.hid (ho.slR (q := fun _ => True) (fun _ _ => trivial) (fun _ _ => trivial)); have a05 : w5.cell? ⟨w2.heap.size, 0, none⟩ = some (.string ⟨#[83, 85, 66]⟩) := (hb.cell (p := ⟨w2.heap.size, 0, none⟩) hs4).trans a04; have a15 : w5.cell? ⟨w2.heap.size, 1, none⟩ = some (.slice a2 1 c2) := (hb.cell (p := ⟨w2.heap.size, 1, none⟩) hs4).trans a14; have hs5 := Nat.lt_of_lt_of_le hs4 hb.size; clear ho hb)
           | (go_at_call 28; refine (insSame_any _ _ ⟨⟨#[83, 85, 66]⟩, [⟨6, 0, 255⟩]⟩ ⟨⟨#[83, 85, 66]⟩, [⟨6, 0, 255⟩]⟩ _ _ _ HS5.out HO5.out).mono ?_; rw [insEq_refl]; rintro e w6 ⟨rfl, hb⟩; have HB6 := Lib.hid hb; have HS6 := Lib.hid (HS5.out.below hb); have HT6 := Lib.hid (HT5.out.below hb); have a06 : w6.cell? ⟨w2.heap.size, 0, none⟩ = some (.string ⟨#[83, 85, 66]⟩) := (hb.cell (p := ⟨w2.heap.size, 0, none⟩) hs5).trans a05; have a16 : w6.cell? ⟨w2.heap.size, 1, none⟩ = some (.slice a2 1 c2) := (hb.cell (p := ⟨w2.heap.size, 1, none⟩) hs5).trans a15; have hs6 := Nat.lt_of_lt_of_le hs5 hb.size; clear hb)
           | (go_at_call 27; refine (Is_any _ ⟨⟨#[83, 85, 66]⟩, [⟨6, 0, 255⟩]⟩ _ _ HS6.out HT6.out (by simp) (by simp [fits64])).mono ?_; rw [canonOf_alive2, insEq_refl]; rintro e w7 ⟨rfl, hb⟩; have HB7 := Lib.hid hb; have a07 : w7.cell? ⟨w2.heap.size, 0, none⟩ = some (.string ⟨#[83, 85, 66]⟩) := (hb.cell (p := ⟨w2.heap.size, 0, none⟩) hs6).trans a06; have a17 : w7.cell? ⟨w2.heap.size, 1, none⟩ = some (.slice a2 1 c2) := (hb.cell (p := ⟨w2.heap.size, 1, none⟩) hs6).trans a16; clear hb))
  go_wp2
  go_ret
  refine ⟨rfl, ?_⟩
  have b2 := HB2.out
  have b4 := b2.trans (HB24.out.mono b2.size)
  have b5 := b4.trans (HB5.out.mono b4.size)
  have b6 := b5.trans (HB6.out.mono b5.size)
  exact b6.trans (HB7.out.mono b6.size)
end Go.Proofs.YtkkjoghfdmmpaaaDoor
