/-
  Law of chapter 13, ItemsDecode. Conditions: the library's table as its initialiser lays it.
-/
import Derived.Test.YtnbmbcjnncbaiaaGreatDoorJ6
import Derived.Test.YtnbmbcjnncbaiaaGreatDoorJ10
namespace Go.Proofs.YtnbmbcjnncbaiaaGreatDoor
open Go.RowKit Go.Shelf Go.Sort

set_option maxHeartbeats 4000000 in
set_option maxRecDepth 100000 in
theorem EqualFunc_any (p q : Blocks) (v1 v2 : Value) (l1 l2 : List It) (w : World) (h1 : SlR itR w p v1 l1) (h2 : SlR itR w q v2 l2) :
    Calls Tryz.prog 94 #[v1, v2, .func (.func 29) #[] #[]] w fun e w' => e = .returned (.bool (lsEq l1 l2)) ∧ RowKit.Below w.heap.size w w' := by
  have H1 := Lib.hid h1
  have H2 := Lib.hid h2
  obtain ⟨a1, c1, rfl, hc1, hm1, _⟩ := h1.it
  obtain ⟨a2, c2, rfl, hc2, hm2, _⟩ := h2.it
  have HN : Hid _ := @lsEq_len l1 l2
  have HA : Hid _ := @lsEq_at l1 l2
  have HY : Hid _ := @lsEq_iff l1 l2
  clear h1 h2
  generalize lsEq l1 l2 = R at *
  by_cases hl : l1.length = l2.length
  · have HE := Lib.hid hl
    rw [← hl] at hc2 H2 ⊢
    clear hl HN
    go_enter Tryz.func94, Tryz.ntmps94
    go_wp2
    go_loopw [7, 8, 9, 17] (fun _ _ _ i wr => ∃ k : Nat, k ≤ l1.length ∧ i = .int .i64 k ∧ RowKit.Below w.heap.size w wr ∧ l1.take k = l2.take k) (fun _ _ _ i _ => l1.length - (intOf i).toNat)
    case atStart => exact ⟨0, Nat.zero_le _, rfl, Below.refl _ _, rfl⟩
    case round =>
      obtain ⟨k, hk, rfl, hb, ht⟩ := hrel
      have HT := Lib.hid ht
      have HB := Lib.hid hb
      clear ht hb
      by_cases hlt : k < l1.length
      · have hlt2 : k < l2.length := by have := HE.out; omega
        obtain ⟨a8, c8, e8, _, _, g8⟩ := (H1.out.below HB.out).it
        injection e8 with e8 e10 e11
        clear e10
        subst e8 e11
        obtain ⟨b1, o1, ra1, rc1, va1, vc1, rfl, hb1, x0, x1, x2, x3, x4, s1, t1⟩ := g8 k l1[k] (List.getElem?_eq_getElem hlt)
        have e9' := H2.out.below HB.out
        rw [HE.out] at e9'
        obtain ⟨a9, c9, e9, _, _, g9⟩ := e9'.it
        injection e9 with e9 e10 e11
        clear e10
        subst e9 e11
        obtain ⟨b2, o2, ra2, rc2, va2, vc2, rfl, hb2, y0, y1, y2, y3, y4, s2, t2⟩ := g9 k l2[k] (List.getElem?_eq_getElem hlt2)
        have HS := Lib.hid (fun h => take_succ_eq hlt hlt2 HT.out h)
        have HAK := Lib.hid (HA.out k hlt hlt2)
        have HS1 := Lib.hid s1
        have HS2 := Lib.hid s2
        have HT1 := Lib.hid t1
        have HT2 := Lib.hid t2
        have HI : Hid _ := @itEq_iff l1[k] l2[k]
        clear g8 g9 s1 s2 t1 t2 e9'
        generalize l1[k] = x at *
        generalize l2[k] = y at *
        obtain ⟨k1, R1, op1, ar1, al1⟩ := x
        obtain ⟨k2, R2, op2, ar2, al2⟩ := y
        dsimp only at x0 x1 x2 x3 x4 y0 y1 y2 y3 y4
        have HF := Lib.hid (((Fr.start wr).new 29 #[.int .i64 k1, .slice ra1 R1.length rc1, .string ⟨op1.toArray⟩, .slice va1 ar1.length vc1, .bool al1]).new' 29 #[.int .i64 k2, .slice ra2 R2.length rc2, .string ⟨op2.toArray⟩, .slice va2 ar2.length vc2, .bool al2] (b := wr.heap.size + 1) (World.size_alloc _ _))
        have HSM := Lib.hid (SameD_it ⟨k1, R1, op1, ar1, al1⟩ ⟨k2, R2, op2, ar2, al2⟩ p q (.agg #[.int .i64 k1, .slice ra1 R1.length rc1, .string ⟨op1.toArray⟩, .slice va1 ar1.length vc1, .bool al1]) (.agg #[.int .i64 k2, .slice ra2 R2.length rc2, .string ⟨op2.toArray⟩, .slice va2 ar2.length vc2, .bool al2]) _ ⟨ra1, rc1, va1, vc1, rfl, HS1.out.below HF.out.below, HT1.out.below HF.out.below⟩ ⟨ra2, rc2, va2, vc2, rfl, HS2.out.below HF.out.below, HT2.out.below HF.out.below⟩)
        generalize itEq ⟨k1, R1, op1, ar1, al1⟩ ⟨k2, R2, op2, ar2, al2⟩ = bi at *
        cases bi
        · have HR : Hid (R = false) := Lib.hid (HAK.out rfl)
          go_wp2_with (go_at_call 29; refine (HSM.out).mono ?_; rintro e w4 ⟨rfl, hb4⟩; have HB4 := Lib.hid (HB.out.trans ((HF.out.below.trans (hb4.mono HF.out.below.size)).mono HB.out.size)); clear hb4)
          go_ret
          exact ⟨ret_bool HR.out.symm, HB4.out⟩
        · have HX := Lib.hid (HS.out (HI.out.1 rfl))
          go_wp2_with (go_at_call 29; refine (HSM.out).mono ?_; rintro e w4 ⟨rfl, hb4⟩; have HB4 := Lib.hid (HB.out.trans ((HF.out.below.trans (hb4.mono HF.out.below.size)).mono HB.out.size)); clear hb4)
          go_roundw
          case rel => exact ⟨k + 1, by omega, by go_num, HB4.out, HX.out⟩
          case measure => simp [intOf]; omega
      · have hkl : k = l1.length := by omega
        have HR : Hid (R = true) := Lib.hid (HY.out.2 (by
          have e := HT.out
          rw [hkl, List.take_length, HE.out, List.take_length] at e
          exact e))
        subst hkl
        go_wp2
        go_ret
        exact ⟨ret_bool HR.out.symm, HB.out⟩
  · have HR : Hid (R = false) := Lib.hid (HN.out hl)
    have hl' : ¬ (l1.length : Int) = (l2.length : Int) := by omega
    go_enter Tryz.func94, Tryz.ntmps94
    go_wp2
    go_ret
    exact ⟨ret_bool HR.out.symm, Below.refl _ _⟩
set_option maxRecDepth 100000 in
theorem matcher_any (p q : Blocks) (v1 v2 : Value) (l1 l2 : List It) (w : World) (h1 : SlR itR w p v1 l1) (h2 : SlR itR w q v2 l2) :
    Calls Tryz.prog 66 #[.agg #[.func (.func 29) #[] #[]], v1, v2] w fun e w' => e = .returned (.bool (lsEq l1 l2)) ∧ RowKit.Below w.heap.size w w' := by
  have hb0 : RowKit.Below w.heap.size w (w.alloc (.cells #[.func (.func 29) #[] #[]] 102)) := (Below.refl _ _).alloc (Nat.le_refl _) _
  have HE := Lib.hid (EqualFunc_any p q v1 v2 l1 l2 _ (h1.below hb0) (h2.below hb0))
  have HB := Lib.hid hb0
  obtain ⟨a1, c1, rfl, _, _, _⟩ := h1.it
  obtain ⟨a2, c2, rfl, _, _, _⟩ := h2.it
  clear h1 h2 hb0
  generalize lsEq l1 l2 = R at *
  go_enter Tryz.func66, Tryz.ntmps66
  go_wp2_with (go_at_call 94; refine (HE.out).mono ?_; rintro e w1 ⟨rfl, hb⟩; have HB1 := Lib.hid (HB.out.trans (hb.mono HB.out.size)); clear hb)
  go_ret
  exact ⟨rfl, HB1.out⟩
set_option maxRecDepth 100000 in
theorem Check_any (p : Blocks) (v : Value) (ls : List It) (w : World) (hT : Spc w) (h : SlR itR w p v ls) (hf : (rawF ls).length ≤ 1000000) :
    Calls Tryz.prog 37 #[v] w fun e w' => e = .returned (.bool (lsEq (itemsF (rawF ls)) ls)) ∧ RowKit.Below w.heap.size w w' := by
  have HR := Lib.hid (Raw_any p v ls w h hf)
  have HD := Lib.hid (fun q a c W (hb : RowKit.Below w.heap.size w W) hs => Dec_any q a c (rawF ls) W (hT.below hb) hs hf)
  have HM := Lib.hid (fun q v1 W (hb : RowKit.Below w.heap.size w W) hs => matcher_any q p v1 v (itemsF (rawF ls)) ls W hs (h.below hb))
  clear hT hf
  obtain ⟨a1, c1, rfl, _, _, _⟩ := h.it
  clear h
  generalize lsEq (itemsF (rawF ls)) ls = R at *
  generalize itemsF (rawF ls) = L at *
  generalize rawF ls = B at *
  go_enter Tryz.func37, Tryz.ntmps37
  go_wp2_with (first
    | (go_at_call 36; refine (HR.out).mono ?_; rintro e w1 ⟨v1, rfl, ho, hb⟩; obtain ⟨xa, xc, rfl⟩ := ho.form; have HO := Lib.hid ho; have HB1 := Lib.hid hb; clear ho hb)
    | (go_at_call 32; refine (HD.out _ _ _ _ HB1.out (HO.out.slR (q := fun _ => True) (fun _ h => h.elim) (fun _ _ => trivial))).mono ?_; rintro e w2 ⟨⟨v2, rfl, ha⟩, hb⟩; obtain ⟨ya, yc, rfl⟩ := ha.form; have HA2 := Lib.hid ha; have HB2 := Lib.hid (HB1.out.trans (hb.mono HB1.out.size)); clear ha hb)
    | (go_at_call 66; refine (HM.out _ _ _ HB2.out HA2.out.slR).mono ?_; rintro e w3 ⟨rfl, hb⟩; have HB3 := Lib.hid (HB2.out.trans (hb.mono HB2.out.size)); clear hb))
  go_ret
  exact ⟨rfl, HB3.out⟩
end Go.Proofs.YtnbmbcjnncbaiaaGreatDoor
