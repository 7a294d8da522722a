/-
  Law of chapter 13, ItemsSplits. Conditions: the library's table as its initialiser lays it.
-/
import Derived.Test.YtnbmbcjnncbaiaaGreatDoorJ16
import Derived.Test.YtnbmbcjnncbaiaaGreatDoorJ17
namespace Go.Proofs.YtnbmbcjnncbaiaaGreatDoor
open Go.RowKit Go.Shelf Go.Sort

def onlyF (L : List It) : Int := if L.all okI = true then 1 else 0
theorem onlyF_succ {L : List It} {k : Nat} (h : k < L.length) : onlyF (L.take (k + 1)) = if okI L[k] = true then onlyF (L.take k) else 0 := by
  unfold onlyF
  rw [List.take_succ_eq_append_getElem h, List.all_append]
  cases hk : okI L[k] <;> simp [hk]
set_option maxHeartbeats 8000000 in
set_option maxRecDepth 100000 in
theorem ItemsSplits_law (p : Blocks) (v : Value) (l : List UInt8) (w : World) (h : SlR byteR w p v l) (hT : Spc w) :
    Calls Tryz.prog 6 #[v] w fun e w' => e = .returned (.bool true) ∧ RowKit.Below w.heap.size w w' := by
  obtain ⟨a, c, rfl⟩ : ∃ a c, v = .slice a l.length c := by obtain ⟨a, c, e, _⟩ := h; exact ⟨a, c, e⟩
  have HAL := Lib.hid (fun W (hb : RowKit.Below w.heap.size w W) => alive13_any W (hT.below hb))
  have HH := Lib.hid h
  have HT := Lib.hid hT
  clear h hT
  by_cases h1 : 300 < l.length
  · have h1' : (300 : Int) < (l.length : Int) := by omega
    go_enter Tryz.func6, Tryz.ntmps6
    go_wp2_with (go_at_call 24; refine (HAL.out _ (Below.refl _ _)).mono ?_; rintro e w1 ⟨rfl, hb⟩; have H1 := Lib.hid hb; clear hb)
    go_ret
    exact ⟨rfl, H1.out⟩
  have h1' : ¬ (300 : Int) < (l.length : Int) := by omega
  have HDR := Lib.hid (Dec13_any p a c l w HH.out (by omega))
  have HS9 := Lib.hid (fun W (hb : RowKit.Below w.heap.size w W) => Split13_any p a c l W (HH.out.below hb) (by omega))
  have HSP := Lib.hid (fun W (hb : RowKit.Below w.heap.size w W) => Split_any p a c l W (HT.out.below hb) (HH.out.below hb) (by omega))
  have HWY : Hid ((waysF l : Int) = onlyF (itemsF l)) := Lib.hid (by unfold waysF onlyF; split <;> rfl)
  have HLN : Hid ((itemsF l).length ≤ 300) := Lib.hid (Nat.le_trans (itemsF_len l) (by omega))
  clear h1
  obtain ⟨Y, hY⟩ : ∃ Y : Int, (waysF l : Int) = Y := ⟨_, rfl⟩
  rw [hY] at HS9 HSP HWY
  clear hY
  generalize itemsF l = L at *
  go_enter Tryz.func6, Tryz.ntmps6
  go_wp2_with (go_at_call 25; refine (HDR.out).mono ?_; rintro e w1 ⟨⟨v1, rfl, ha⟩, hb⟩; obtain ⟨xa, xc, rfl⟩ := ha.form; have HA1 := Lib.hid ha.slR; have HB1 := Lib.hid hb; clear ha hb)
  go_loopw [3, 5, 14] (fun o _ i wr => ∃ k : Nat, k ≤ L.length ∧ i = .int .i64 k ∧ o = .int .i64 (onlyF (L.take k)) ∧ RowKit.Below w1.heap.size w1 wr) (fun _ _ i _ => L.length - (intOf i).toNat)
  case atStart => exact ⟨0, Nat.zero_le _, rfl, rfl, Below.refl _ _⟩
  case round =>
    obtain ⟨k, hk, rfl, rfl, hb⟩ := hrel
    have HB := Lib.hid hb
    clear hb
    by_cases hlt : k < L.length
    · obtain ⟨a8, c8, e8, _, _, g8⟩ := (HA1.out.below HB.out).it
      injection e8 with e8 e10 e11
      clear e10
      subst e8 e11
      obtain ⟨b1, o1, ra1, rc1, va1, vc1, rfl, hb1, x0, x1, x2, x3, x4, s1, t1⟩ := g8 k L[k] (List.getElem?_eq_getElem hlt)
      have HOS := Lib.hid (onlyF_succ hlt)
      have HOK : Hid (okI L[k] = (decide (L[k].k = 1) && !L[k].al)) := Lib.hid rfl
      clear g8 s1 t1
      generalize L[k] = x at *
      obtain ⟨O2, hO2⟩ : ∃ O, onlyF (L.take (k + 1)) = O := ⟨_, rfl⟩
      rw [hO2] at HOS
      have HO2 := Lib.hid hO2
      clear hO2
      generalize onlyF (L.take k) = O1 at *
      obtain ⟨k1, R1, op1, ar1, al1⟩ := x
      dsimp only at x0 x1 x2 x3 x4 HOK
      have HBX := Lib.hid (HB.out.alloc HB.out.size (.cells #[.int .i64 k1, .slice ra1 R1.length rc1, .string ⟨op1.toArray⟩, .slice va1 ar1.length vc1, .bool al1] 29))
      by_cases hk1 : k1 = 1
      · subst hk1
        cases al1
        · have HE : Hid (O2 = O1) := Lib.hid (by rw [HOS.out, if_pos (by rw [HOK.out]; rfl)])
          go_wp2
          go_roundw
          case rel => exact ⟨k + 1, by omega, by go_num, by rw [HO2.out, HE.out], HBX.out⟩
          case measure => simp [intOf]; omega
        · have HE : Hid (O2 = 0) := Lib.hid (by rw [HOS.out, if_neg (by rw [HOK.out]; simp)])
          go_wp2
          go_roundw
          case rel => exact ⟨k + 1, by omega, by go_num, by rw [HO2.out, HE.out], HBX.out⟩
          case measure => simp [intOf]; omega
      · have HE : Hid (O2 = 0) := Lib.hid (by rw [HOS.out, if_neg (by rw [HOK.out, decide_eq_false hk1]; simp)])
        go_wp2
        go_roundw
        case rel => exact ⟨k + 1, by omega, by go_num, by rw [HO2.out, HE.out], HBX.out⟩
        case measure => simp [intOf]; omega
    · have HE : Hid (onlyF (L.take k) = Y) := Lib.hid (by rw [HWY.out, List.take_of_length_le (by omega)])
      have HB7 := Lib.hid (HB1.out.trans (HB.out.mono HB1.out.size))
      rw [HE.out]
      go_wp2_with (first
        | (go_at_call 26; refine (HS9.out _ HB7.out).mono ?_; rintro e w8 ⟨rfl, hb⟩; have HB8 := Lib.hid (HB7.out.trans (hb.mono HB7.out.size)); clear hb)
        | (go_at_call 24; refine (HAL.out _ HB8.out).mono ?_; rintro e w9 ⟨rfl, hb⟩; have HB9 := Lib.hid (HB8.out.trans (hb.mono HB8.out.size)); clear hb)
        | (go_at_call 27; refine (HSP.out _ HB9.out).mono ?_; rintro e w10 ⟨rfl, hb⟩; have HB10 := Lib.hid (HB9.out.trans (hb.mono HB9.out.size)); clear hb))
      go_ret
      exact ⟨rfl, HB10.out⟩
end Go.Proofs.YtnbmbcjnncbaiaaGreatDoor
