/-
  Law of chapter 13, ItemsDecode. Conditions: the library's table as its initialiser lays it.
-/
import Derived.Test.YtnbmbcjnncbaiaaGreatDoorJ11
namespace Go.Proofs.YtnbmbcjnncbaiaaGreatDoor
open Go.RowKit Go.Shelf Go.Sort

theorem EqB_any (p q : Blocks) (v1 v2 : Value) (l : List UInt8) (w : World) (h1 : SlR byteR w p v1 l) (h2 : SlR byteR w q v2 l) :
    Calls Tryz.prog 35 #[v1, v2] w fun e w' => e = .returned (.bool true) ∧ RowKit.Below w.heap.size w w' :=
  (EqualByte_any p q v1 v2 l l w h1 h2).mono (by rintro e w' ⟨rfl, n, rfl⟩; exact ⟨by simp, below_dN (Below.refl _ _) n⟩)
set_option maxHeartbeats 8000000 in
set_option maxRecDepth 100000 in
theorem ItemsDecode_law (p : Blocks) (v : Value) (l : List UInt8) (w : World) (h : SlR byteR w p v l) (hT : Spc w) :
    Calls Tryz.prog 9 #[v] w fun e w' => e = .returned (.bool true) ∧ RowKit.Below w.heap.size w w' := by
  obtain ⟨a, c, rfl⟩ : ∃ a c, v = .slice a l.length c := by obtain ⟨a, c, e, _⟩ := h; exact ⟨a, c, e⟩
  have HAL := Lib.hid (fun W (hb : RowKit.Below w.heap.size w W) => alive13_any W (hT.below hb))
  have HH := Lib.hid h
  have HT := Lib.hid hT
  clear h hT
  by_cases h1 : 1000 < l.length
  · have h1' : (1000 : Int) < (l.length : Int) := by omega
    go_enter Tryz.func9, Tryz.ntmps9
    go_wp2_with (go_at_call 24; refine (HAL.out _ (Below.refl _ _)).mono ?_; rintro e w1 ⟨rfl, hb⟩; have H1 := Lib.hid hb; clear hb)
    go_ret
    exact ⟨rfl, H1.out⟩
  have h1' : ¬ (1000 : Int) < (l.length : Int) := by omega
  have hl9 : l.length ≤ 1000000 := by omega
  have HDC := Lib.hid (Dec_any p a c l w HT.out HH.out hl9)
  have HDR := Lib.hid (fun W (hb : RowKit.Below w.heap.size w W) => Dec13_any p a c l W (HH.out.below hb) hl9)
  have hrl : (rawF (itemsF l)).length ≤ 1000000 := by rw [rawF_items]; exact hl9
  have HRW := Lib.hid (fun q v W h => Raw_any q v (itemsF l) W h hrl)
  have HCK := Lib.hid (fun q v W (hT : Spc W) h => Check_any q v (itemsF l) W hT h hrl)
  rw [rawF_items] at HRW HCK
  have hlt : lsEq (itemsF l) (itemsF l) = true := lsEq_iff.2 rfl
  rw [hlt] at HCK
  have HSL := Lib.hid (fun p q v1 v2 W h1 h2 => SameL_any p q v1 v2 (itemsF l) (itemsF l) W h1 h2)
  rw [hlt] at HSL
  have HEB := Lib.hid (fun q v1 W (hb : RowKit.Below w.heap.size w W) h => EqB_any q p v1 (.slice a l.length c) l W h (HH.out.below hb))
  have HCT := Lib.hid (itemsF_cut l)
  have HLN : Hid ((itemsF l).length ≤ 1000) := Lib.hid (Nat.le_trans (itemsF_len l) (by omega))
  clear h1 hl9 hrl hlt
  generalize itemsF l = L at *
  go_enter Tryz.func9, Tryz.ntmps9
  go_wp2_with (first
    | (go_at_call 32; refine (HDC.out).mono ?_; rintro e w1 ⟨⟨v1, rfl, ha⟩, hb⟩; obtain ⟨xa, xc, rfl⟩ := ha.form; have HA1 := Lib.hid ha.slR; have HB1 := Lib.hid hb; clear ha hb)
    | (go_at_call 25; refine (HDR.out _ HB1.out).mono ?_; rintro e w2 ⟨⟨v2, rfl, ha⟩, hb⟩; obtain ⟨ya, yc, rfl⟩ := ha.form; have HA2 := Lib.hid ha.slR; have HX2 := Lib.hid (HA1.out.below hb); have HB2 := Lib.hid (HB1.out.trans (hb.mono HB1.out.size)); clear ha hb)
    | (go_at_call 31; refine (HSL.out _ _ _ _ _ HX2.out HA2.out).mono ?_; rintro e w3 ⟨rfl, hb⟩; have HX3 := Lib.hid (HX2.out.below hb); have HB3 := Lib.hid (HB2.out.trans (hb.mono HB2.out.size)); clear hb)
    | (go_at_call 36; refine (HRW.out _ _ _ HX3.out).mono ?_; rintro e w4 ⟨v4, rfl, ho, hb⟩; obtain ⟨za, zc, rfl⟩ := ho.form; have HO4 := Lib.hid (ho.slR (q := fun _ => True) (fun _ h => h.elim) (fun _ _ => trivial)); have HX4 := Lib.hid (HX3.out.below hb); have HB4 := Lib.hid (HB3.out.trans (hb.mono HB3.out.size)); clear ho hb)
    | (go_at_call 35; refine (HEB.out _ _ _ HB4.out HO4.out).mono ?_; rintro e w5 ⟨rfl, hb⟩; have HX5 := Lib.hid (HX4.out.below hb); have HB5 := Lib.hid (HB4.out.trans (hb.mono HB4.out.size)); clear hb)
    | (go_at_call 37; refine (HCK.out _ _ _ (HT.out.below HB5.out) HX5.out).mono ?_; rintro e w6 ⟨rfl, hb⟩; have HX6 := Lib.hid (HX5.out.below hb); have HB6 := Lib.hid (HB5.out.trans (hb.mono HB5.out.size)); clear hb))
  go_loopw [4, 5, 31] (fun _ _ i wr => ∃ k : Nat, k ≤ L.length ∧ i = .int .i64 k ∧ RowKit.Below w6.heap.size w6 wr) (fun _ _ i _ => L.length - (intOf i).toNat)
  case atStart => exact ⟨0, Nat.zero_le _, rfl, Below.refl _ _⟩
  case round =>
    obtain ⟨k, hk, rfl, hb⟩ := hrel
    have HB := Lib.hid hb
    clear hb
    by_cases hlt : k < L.length
    · obtain ⟨a8, c8, e8, _, _, g8⟩ := (HX6.out.below HB.out).it
      injection e8 with e8 e10 e11
      clear e10
      subst e8 e11
      obtain ⟨b1, o1, ra1, rc1, va1, vc1, rfl, hb1, x0, x1, x2, x3, x4, s1, t1⟩ := g8 k L[k] (List.getElem?_eq_getElem hlt)
      have hct := HCT.out k L[k] (List.getElem?_eq_getElem hlt)
      have HCK9 := Lib.hid hct
      clear g8 s1 t1 hct
      generalize L[k] = x at *
      obtain ⟨k1, R1, op1, ar1, al1⟩ := x
      dsimp only at x0 x1 x2 x3 x4 HCK9
      have HBX := Lib.hid (HB.out.alloc HB.out.size (.cells #[.int .i64 k1, .slice ra1 R1.length rc1, .string ⟨op1.toArray⟩, .slice va1 ar1.length vc1, .bool al1] 29))
      have hw1 : IntKind.i64.wrap ((L.length : Int) - 1) = (L.length : Int) - 1 := by have := HLN.out; rw [IntKind.wrap_i64]; omega
      by_cases hk4 : k1 = 4
      · have hkl := HCK9.out hk4
        have hnl : ¬ (k : Int) < (L.length : Int) - 1 := by omega
        subst hk4
        go_wp2
        go_roundw
        case rel => exact ⟨k + 1, by omega, by go_num, HBX.out⟩
        case measure => simp [intOf]; omega
      · go_wp2
        go_roundw
        case rel => exact ⟨k + 1, by omega, by go_num, HBX.out⟩
        case measure => simp [intOf]; omega
    · have HB7 := Lib.hid (HB6.out.trans (HB.out.mono HB6.out.size))
      go_wp2_with (go_at_call 24; refine (HAL.out _ HB7.out).mono ?_; rintro e w8 ⟨rfl, hb⟩; have HB8 := Lib.hid (HB7.out.trans (hb.mono HB7.out.size)); clear hb)
      go_ret
      exact ⟨rfl, HB8.out⟩
end Go.Proofs.YtnbmbcjnncbaiaaGreatDoor
