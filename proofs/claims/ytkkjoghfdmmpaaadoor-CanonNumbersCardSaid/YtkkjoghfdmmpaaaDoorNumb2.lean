/-
  THE STATEMENT CanonNumbers: the walk of the law.
-/
import Derived.Test.YtkkjoghfdmmpaaaDoorTwice3
import Derived.Test.YtkkjoghfdmmpaaaDoorNumb1
import Derived.Deep.DeepCutAuto
namespace Go.Proofs.YtkkjoghfdmmpaaaDoor
open Go.RowKit

set_option maxHeartbeats 4000000 in
theorem CanonNumbers_any (p : Blocks) (x : Ins) (v : Value) (w : World) (h : SlR opdR w p v x.args) (hT : Spc w) (hf : ∀ y ∈ x.args, fits64 y.n) (hz : x.op.size ≤ maxLen) :
    Calls Tryd.prog 9 #[.agg #[.string x.op, v]] w fun e w' => e = .returned (.bool true) ∧ Below w.heap.size w w' := by
  obtain ⟨a, c, rfl, _⟩ := h.opd
  obtain ⟨W, hW⟩ : ∃ W : World, W = w.alloc (.cells #[.string x.op, .slice a x.args.length c] 39) := ⟨_, rfl⟩
  have hbW : Below w.heap.size w W := hW ▸ (Below.refl _ _).alloc (Nat.le_refl _) _
  have k1 : Blk W w.heap.size 39 #[.string x.op, .slice a x.args.length c] := hW ▸ Blk.new w _ _
  have HBW := Lib.hid hbW
  have HSL := Lib.hid (h.below hbW)
  have HT := Lib.hid (hT.below hbW)
  have HF := Lib.hid hf
  have HZ := Lib.hid hz
  have HCH := Lib.hid (check07_any _ x _ W HSL.out)
  have hs1 : w.heap.size < W.heap.size := k1.lt
  obtain ⟨a0, a1, _, _⟩ := k1.two
  clear h hT hf hbW k1 hz
  cases hc : (check07 x == 0)
  · have hc' : (check07 x == 0) = false := hc
    go_enter Tryd.func9, Tryd.ntmps9
    go_wp2_with fail
    rw [← hW]
    clear hW
    refine HCH.out.mono ?_
    rintro e w1 ⟨rfl, hb⟩
    have HB1 := Lib.hid hb
    clear hb
    go_wp2_with fail
    refine (alive8_any _ (HT.out.below HB1.out)).mono ?_
    rintro e w2 ⟨rfl, hb⟩
    have HB2 := Lib.hid (hb)
    clear hb
    go_wp2
    go_ret
    exact ⟨rfl, (HBW.out.trans (HB1.out.mono HBW.out.size)).trans (HB2.out.mono (Nat.le_trans HBW.out.size HB1.out.size))⟩
  · have hc0 : check07 x = 0 := by simpa using hc
    clear hc
    have HC0 := Lib.hid hc0
    have hn : x.args.length ≤ 3 := (check_zero hc0).2.1
    have HL := Lib.hid (show x.args.length ≤ 1000000 by omega)
    have HCC := Lib.hid (canon_check hc0)
    have HCN := Lib.hid (canon_numb hc0)
    rw [hc0] at HCH
    clear hn hc0
    go_enter Tryd.func9, Tryd.ntmps9
    go_wp2_with fail
    rw [← hW]
    clear hW
    refine HCH.out.mono ?_
    rintro e w1 ⟨rfl, hb⟩
    have HB1 := Lib.hid hb
    have b0 : w1.cell? ⟨w.heap.size, 0, none⟩ = some (.string x.op) := (hb.cell (p := ⟨w.heap.size, 0, none⟩) hs1).trans a0
    have b1 : w1.cell? ⟨w.heap.size, 1, none⟩ = some (.slice a x.args.length c) := (hb.cell (p := ⟨w.heap.size, 1, none⟩) hs1).trans a1
    clear hb a0 a1
    go_wp2_with fail
    refine (Of_any _ x _ _ (HSL.out.below HB1.out) (HT.out.below HB1.out) HL.out HF.out).mono ?_
    rintro e w2 ⟨vc, rfl, ho, hb⟩
    obtain ⟨a2, c2, rfl, _⟩ := ho.slR.opd
    have hb3 : Below w2.heap.size w2 (w2.alloc (.cells #[.string x.op, .slice a2 (canonOf x).args.length c2] 39)) := (Below.refl _ _).alloc (Nat.le_refl _) _
    have k3 : Blk (w2.alloc (.cells #[.string x.op, .slice a2 (canonOf x).args.length c2] 39)) w2.heap.size 39 #[.string x.op, .slice a2 (canonOf x).args.length c2] := Blk.new w2 _ _
    have hb2 := hb.trans (hb3.mono hb.size)
    have hb1 := HB1.out
    have hl1 : w.heap.size < w1.heap.size := Nat.lt_of_lt_of_le hs1 hb1.size
    have H3 : Hid (TwH w (fun k => p k) (fun k => w1.heap.size ≤ k) x w.heap.size w2.heap.size (.slice a x.args.length c) (.slice a2 (canonOf x).args.length c2) (w2.alloc (.cells #[.string x.op, .slice a2 (canonOf x).args.length c2] 39))) :=
      ⟨(HBW.out.trans (hb1.mono HBW.out.size)).trans (hb2.mono (Nat.le_trans HBW.out.size hb1.size)), (HT.out.below hb1).below hb2, (HSL.out.below hb1).below hb2, ho.slR.below hb3, (hb2.cell (p := ⟨w.heap.size, 0, none⟩) hl1).trans b0, (hb2.cell (p := ⟨w.heap.size, 1, none⟩) hl1).trans b1, k3.two.1, k3.two.2.1⟩
    clear hb ho hb3 hb2 hb1 k3
    go_upto_region 4 with fail
    clear b0 b1
    obtain ⟨W3, hW3⟩ : ∃ W : World, W = w2.alloc (.cells #[.string x.op, .slice a2 (canonOf x).args.length c2] 39) := ⟨_, rfl⟩
    rw [← hW3] at H3
    rw [← hW3]
    clear hW3
    have f0 := H3.out.c0
    have f1 := H3.out.c1
    go_wp2_with fail
    refine (Width_any _ x _ _ H3.out.sx H3.out.spc).mono ?_
    rintro e w4 ⟨rfl, hb⟩
    have H4 := Lib.hid (H3.out.next hb)
    clear hb f0 f1
    have f0 := H4.out.c2
    have f1 := H4.out.c3
    go_wp2
    generalize hl : (canonOf x).args = l at *
    go_loopw [18] (fun i wr => ∃ k : Nat, k ≤ l.length ∧ i = .int .i64 k ∧ TwH w (fun k => p k) (fun k => w1.heap.size ≤ k) x w.heap.size w2.heap.size (.slice a x.args.length c) (.slice a2 l.length c2) wr) (fun i _ => l.length - (intOf i).toNat)
    case atStart => exact ⟨0, Nat.zero_le _, rfl, H4.out⟩
    case round =>
      obtain ⟨k, hk, rfl, hx⟩ := hrel
      have HX := Lib.hid hx
      have e0 := hx.c2
      have e1 := hx.c3
      obtain ⟨ad, cd, hv, _, _, g1⟩ := hx.sc.opd
      rw [hl] at hv g1
      obtain ⟨rfl, _, rfl⟩ : a2 = ad ∧ l.length = l.length ∧ c2 = cd := by injection hv with h1 h2 h3; exact ⟨h1, h2, h3⟩
      clear hx hv
      by_cases hlt : k < l.length
      · obtain ⟨b1, o1, rfl, _, d1, d2, d3⟩ := g1 k l[k] (List.getElem?_eq_getElem hlt)
        have hcn := HCN.out l[k] (List.getElem_mem _)
        clear g1
        generalize l[k] = y at *
        have key : ∀ b6 bn b2 b1 b128 : Bool, (y.kind == 6) = b6 → decide (y.n < 0) = bn → (width x == 2) = b2 → (width x == 1) = b1 → decide (-128 ≤ y.n) = b128 → (b6 = true → bn = true → b2 = false ∧ (b1 = true → b128 = false)) := by
          intro b6 bn b2 b1 b128 h1 h2 h3 h4 h5 e6 en
          subst h1; subst h2; subst h3; subst h4; subst h5
          obtain ⟨q1, q2⟩ := hcn (by simpa using e6) (by simpa using en)
          refine ⟨by simpa using q1, fun e1 => ?_⟩
          have := q2 (by simpa using e1)
          simp; omega
        have KEY := Lib.hid key
        clear key hcn
        cases h6 : (y.kind == 6)
        · go_wp2
          go_roundw
          case rel => exact ⟨k + 1, by omega, by go_num, HX.out.next ((Below.refl _ _).alloc (Nat.le_refl _) _)⟩
          case measure => simp [intOf]; omega
        cases hng : decide (y.n < 0)
        · go_wp2
          go_roundw
          case rel => exact ⟨k + 1, by omega, by go_num, HX.out.next ((Below.refl _ _).alloc (Nat.le_refl _) _)⟩
          case measure => simp [intOf]; omega
        cases h2 : (width x == 2)
        rotate_left
        · have := (KEY.out _ _ _ _ _ h6 hng h2 rfl rfl rfl rfl).1
          cases this
        cases h1 : (width x == 1)
        · go_wp2
          go_roundw
          case rel => exact ⟨k + 1, by omega, by go_num, HX.out.next ((Below.refl _ _).alloc (Nat.le_refl _) _)⟩
          case measure => simp [intOf]; omega
        have h128 := (KEY.out _ _ _ _ _ h6 hng h2 h1 rfl rfl rfl).2 rfl
        go_wp2
        go_roundw
        case rel => exact ⟨k + 1, by omega, by go_num, HX.out.next ((Below.refl _ _).alloc (Nat.le_refl _) _)⟩
        case measure => simp [intOf]; omega
      · clear g1
        go_wp2_with (first | (go_at_call 25; refine (alive8_any _ HX.out.spc).mono ?_; rintro e w5 ⟨rfl, hb⟩; have H5 := Lib.hid (HX.out.next hb); have f0 := H5.out.c2; have f1 := H5.out.c3; clear hb)
                           | (go_at_call 39; refine (check_any _ (canonOf x) _ _ H5.out.sc H5.out.spc HZ.out).mono ?_; rw [HCC.out]; rintro e w6 ⟨rfl, hb⟩; have H6 := Lib.hid (H5.out.next hb); clear hb))
        go_ret
        exact ⟨rfl, H6.out.below⟩
end Go.Proofs.YtkkjoghfdmmpaaaDoor
