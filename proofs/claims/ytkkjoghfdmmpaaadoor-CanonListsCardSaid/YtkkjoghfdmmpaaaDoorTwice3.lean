/-
  THE STATEMENT CanonTwice: the walk of the law.
-/
import Derived.Test.YtkkjoghfdmmpaaaDoorKA
namespace Go.Proofs.YtkkjoghfdmmpaaaDoor
open Go.RowKit

theorem below_drew (w : World) : Below w.heap.size w w.drew := ⟨rfl, rfl, rfl, Nat.le_refl _, fun _ _ => rfl⟩
theorem canon_len (x : Ins) : (canonOf x).args.length ≤ x.args.length + 1 := by
  obtain ⟨s, l⟩ := x
  unfold canonOf canonArgs
  simp only [List.length_map]
  unfold exch
  split
  · match l with
    | [] => next h => simp at h; simp [accum] at h
    | [_] => simp
    | _ :: _ :: _ => simp
  · unfold accum
    split
    · split <;> simp
    · split <;> simp
    · simp

/-- What stays in the law's last region: the instruction, its canonical form, both in cells. -/
structure TwH (w0 : World) (p q : Blocks) (x : Ins) (b0 b1 : Nat) (va vc : Value) (w : World) : Prop where
  below : Below w0.heap.size w0 w
  spc : Spc w
  sx : SlR opdR w p va x.args
  sc : SlR opdR w q vc (canonOf x).args
  c0 : w.cell? ⟨b0, 0, none⟩ = some (.string x.op)
  c1 : w.cell? ⟨b0, 1, none⟩ = some va
  c2 : w.cell? ⟨b1, 0, none⟩ = some (.string x.op)
  c3 : w.cell? ⟨b1, 1, none⟩ = some vc
theorem TwH.next {w0 : World} {p q : Blocks} {x : Ins} {b0 b1 : Nat} {va vc : Value} {w w' : World} (h : TwH w0 p q x b0 b1 va vc w) (hb : Below w.heap.size w w') : TwH w0 p q x b0 b1 va vc w' :=
  ⟨h.below.trans (hb.mono h.below.size), h.spc.below hb, h.sx.below hb, h.sc.below hb, (hb.cell (World.block_lt_of_cell? w _ h.c0)).trans h.c0, (hb.cell (World.block_lt_of_cell? w _ h.c1)).trans h.c1,
    (hb.cell (World.block_lt_of_cell? w _ h.c2)).trans h.c2, (hb.cell (World.block_lt_of_cell? w _ h.c3)).trans h.c3⟩

set_option maxHeartbeats 4000000 in
theorem CanonTwice_any (p : Blocks) (x : Ins) (v : Value) (w : World) (h : SlR opdR w p v x.args) (hT : Spc w) (hf : ∀ y ∈ x.args, fits64 y.n) :
    Calls Tryd.prog 6 #[.agg #[.string x.op, v]] w fun e w' => e = .returned (.bool true) ∧ Below w.heap.size w w' := by
  obtain ⟨a, c, rfl, _⟩ := h.opd
  obtain ⟨W, hW⟩ : ∃ W : World, W = w.alloc (.cells #[.string x.op, .slice a x.args.length c] 39) := ⟨_, rfl⟩
  have hbW : Below w.heap.size w W := hW ▸ (Below.refl _ _).alloc (Nat.le_refl _) _
  have k1 : Blk W w.heap.size 39 #[.string x.op, .slice a x.args.length c] := hW ▸ Blk.new w _ _
  have HBW := Lib.hid hbW
  have HSL := Lib.hid (h.below hbW)
  have HT := Lib.hid (hT.below hbW)
  have HF := Lib.hid hf
  have hsh := short_any _ x _ W HSL.out
  clear h hT hf hbW
  cases hs : short8 x
  all_goals
    rw [hs] at hsh
    have HSH := Lib.hid hsh
    clear hsh
  · obtain ⟨a0, a1, _, _⟩ := k1.two
    have hs1 : w.heap.size < W.heap.size := k1.lt
    clear k1
    go_enter Tryd.func6, Tryd.ntmps6
    go_wp2_with fail
    rw [← hW]
    clear hW
    refine HSH.out.mono ?_
    rintro e w1 ⟨rfl, hb⟩
    have HB1 := Lib.hid hb
    clear hb
    go_wp2_with fail
    refine (alive8_any _ (HT.out.below HB1.out)).mono ?_
    rintro e w2 ⟨rfl, hb⟩
    have HB2 := Lib.hid (hb)
    clear hb
    go_wp2
    go_ret
    exact ⟨rfl, (HBW.out.trans (HB1.out.mono HBW.out.size)).trans (HB2.out.mono (Nat.le_trans HBW.out.size HB1.out.size))⟩
  · have hn : x.args.length ≤ 20 := by
      have := hs
      simp [short8] at this
      exact this.2
    have HL := Lib.hid (show x.args.length ≤ 1000000 by omega)
    have HLC := Lib.hid (show (canonOf x).args.length ≤ 1000000 by have := canon_len x; omega)
    have HFC := Lib.hid (show ∀ y ∈ (canonOf x).args, fits64 y.n from canon_fits HF.out)
    obtain ⟨a0, a1, _, _⟩ := k1.two
    have hs1 : w.heap.size < W.heap.size := k1.lt
    clear k1 hn
    go_enter Tryd.func6, Tryd.ntmps6
    go_wp2_with fail
    rw [← hW]
    clear hW
    refine HSH.out.mono ?_
    rintro e w1 ⟨rfl, hb⟩
    have HB1 := Lib.hid hb
    have b0 : w1.cell? ⟨w.heap.size, 0, none⟩ = some (.string x.op) := (hb.cell (p := ⟨w.heap.size, 0, none⟩) hs1).trans a0
    have b1 : w1.cell? ⟨w.heap.size, 1, none⟩ = some (.slice a x.args.length c) := (hb.cell (p := ⟨w.heap.size, 1, none⟩) hs1).trans a1
    clear hb a0 a1
    go_wp2_with fail
    refine (Of_any _ x _ _ (HSL.out.below HB1.out) (HT.out.below HB1.out) HL.out HF.out).mono ?_
    rintro e w2 ⟨vc, rfl, ho, hb⟩
    obtain ⟨a2, c2, rfl, _⟩ := ho.slR.opd
    have hb3 : Below w2.heap.size w2 (w2.alloc (.cells #[.string x.op, .slice a2 (canonOf x).args.length c2] 39)) := (Below.refl _ _).alloc (Nat.le_refl _) _
    have k3 : Blk (w2.alloc (.cells #[.string x.op, .slice a2 (canonOf x).args.length c2] 39)) w2.heap.size 39 #[.string x.op, .slice a2 (canonOf x).args.length c2] := Blk.new w2 _ _
    have hb2 := hb.trans (hb3.mono hb.size)
    have hb1 := HB1.out
    have hl1 : w.heap.size < w1.heap.size := Nat.lt_of_lt_of_le hs1 hb1.size
    have H3 : Hid (TwH w (fun k => p k) (fun k => w1.heap.size ≤ k) x w.heap.size w2.heap.size (.slice a x.args.length c) (.slice a2 (canonOf x).args.length c2) (w2.alloc (.cells #[.string x.op, .slice a2 (canonOf x).args.length c2] 39))) :=
      ⟨(HBW.out.trans (hb1.mono HBW.out.size)).trans (hb2.mono (Nat.le_trans HBW.out.size hb1.size)), (HT.out.below hb1).below hb2, (HSL.out.below hb1).below hb2, ho.slR.below hb3, (hb2.cell (p := ⟨w.heap.size, 0, none⟩) hl1).trans b0, (hb2.cell (p := ⟨w.heap.size, 1, none⟩) hl1).trans b1, k3.two.1, k3.two.2.1⟩
    have H4 := Lib.hid (H3.out.next (below_drew _))
    clear hb ho hb3 hb2 hb1 k3
    go_upto_region 4 with fail
    clear b0 b1
    obtain ⟨W3, hW3⟩ : ∃ W : World, W = w2.alloc (.cells #[.string x.op, .slice a2 (canonOf x).args.length c2] 39) := ⟨_, rfl⟩
    rw [← hW3] at H3 H4
    rw [← hW3]
    clear hW3
    have f0 := H3.out.c0
    have f1 := H3.out.c1
    have f2 := H3.out.c2
    have f3 := H3.out.c3
    go_region_held3 (fun w' => w'.cell? ⟨w.heap.size, 0, none⟩ = some (.string x.op) ∧ w'.cell? ⟨w.heap.size, 1, none⟩ = some (.slice a x.args.length c) ∧ w'.cell? ⟨w2.heap.size, 0, none⟩ = some (.string x.op) ∧ w'.cell? ⟨w2.heap.size, 1, none⟩ = some (.slice a2 (canonOf x).args.length c2)) (go_keep)
      (first | (go_at_call 25; refine (alive8_any _ H4.out.spc).mono ?_; rintro e w5 ⟨rfl, hb⟩; have H5 := Lib.hid (H4.out.next hb); have f0 := H5.out.c0; have f1 := H5.out.c1; have f2 := H5.out.c2; have f3 := H5.out.c3; clear hb)
             | (go_at_call 27; refine (Is_any _ (canonOf x) _ _ H5.out.sc H5.out.spc HLC.out HFC.out).mono ?_; rw [canonOf_canonOf, insEq_refl]; rintro e w6 ⟨rfl, hb⟩; have H6 := Lib.hid (H5.out.next hb); have f0 := H6.out.c0; have f1 := H6.out.c1; have f2 := H6.out.c2; have f3 := H6.out.c3; clear hb)
             | (go_at_call 26; refine (Of_any _ (canonOf x) _ _ H6.out.sc H6.out.spc HLC.out HFC.out).mono ?_; rw [canonOf_canonOf]; rintro e w7 ⟨vc2, rfl, ho, hb⟩; have HC2 := Lib.hid ho.slR; have H7 := Lib.hid (H6.out.next hb); have f0 := H7.out.c0; have f1 := H7.out.c1; have f2 := H7.out.c2; have f3 := H7.out.c3; clear hb ho)
             | (go_at_call 28; refine (insSame_any _ _ (canonOf x) (canonOf x) _ _ _ HC2.out H7.out.sc).mono ?_; rw [insEq_refl]; rintro e w8 ⟨rfl, hb⟩; have H8 := Lib.hid (H7.out.next hb); have f0 := H8.out.c0; have f1 := H8.out.c1; have f2 := H8.out.c2; have f3 := H8.out.c3; clear hb)
             | (go_at_call 29; refine (Width_any _ (canonOf x) _ _ H8.out.sc H8.out.spc).mono ?_; rw [width_canon]; rintro e w9 ⟨rfl, hb⟩; have H9 := Lib.hid (H8.out.next hb); have f0 := H9.out.c0; have f1 := H9.out.c1; have f2 := H9.out.c2; have f3 := H9.out.c3; clear hb)
             | (go_at_call 30; refine (ref08Width_any _ x _ _ H9.out.sx).mono ?_; rintro e w10 ⟨rfl, hb⟩; have H10 := Lib.hid (H9.out.next hb); have f0 := H10.out.c0; have f1 := H10.out.c1; have f2 := H10.out.c2; have f3 := H10.out.c3; clear hb))
    go_wp2
    go_ret
    exact ⟨rfl, H10.out.below⟩
end Go.Proofs.YtkkjoghfdmmpaaaDoor
