/-
  breadboardlaw05.HexreadInverse. Conditions: the addresses fit their type; the library's table as its initialiser lays it.
-/
import Derived.Test.YtcfjcoockklkeaaDoorV21
namespace Go.Proofs.YtcfjcoockklkeaaDoor
open Go.RowKit

theorem imgV_of {w : World} {b n : Nat} {S T : ImgS} (h : ImgC w b T.1 T.2 n) (e : cellsOf T.1 T.2 = cellsOf S.1 S.2) : ImgV w (.pointer (some ⟨b, 0, none⟩)) (runsOf S.1 S.2) := .inr ⟨b, n, _, _, rfl, h, (same_runs.2 e).symm⟩
set_option maxHeartbeats 4000000 in
set_option maxRecDepth 100000 in
theorem Inverse_yes (p : Blocks) (v : Value) (R : List (Int × List UInt8)) (z : Nat) (hz : z ≤ 255) (w : World) (h : SlR runIR w p v R) (hT : Deb w) (hA : ∀ r ∈ R, -9223372036854775808 ≤ r.1 ∧ r.1 ≤ 9223372036854775807) (hf : fewB R = true) :
    Calls Tryd.prog 10 #[v, .int .u8 z] w fun e w' => e = .returned (.bool true) ∧ Below w.heap.size w w' := by
  have HT := Lib.hid hT
  have HBU := Lib.hid (Build_yes p v R w h hT hA hf)
  clear h hT hA hf
  generalize putF R = S at *
  obtain ⟨zn, hzn⟩ : ∃ zn, zn = max z 1 := ⟨_, rfl⟩
  have hmax : max (z : Int) 1 = (zn : Int) := by omega
  have hz1 : 1 ≤ zn := by omega
  have hz2 : zn ≤ 255 := by omega
  have hz3 : (z : Int) ≤ 255 := by omega
  have hz4 : (0 : Int) ≤ (z : Int) := by omega
  have HWS := Lib.hid (fun (b n : Nat) (cv : Value) (W : World) (h : Both w W b cv S n) (hT : Deb W) => h.writes hT)
  have HSZ := Lib.hid (fun (b n : Nat) (cv : Value) (W : World) (h : Both w W b cv S n) (hT : Deb W) => h.sized hT zn hz1 hz2)
  have HR1 := Lib.hid (fun (W : World) (hT : Deb W) => ReadText 16 S W (by omega) (by omega) hT)
  have HR2 := Lib.hid (fun (W : World) (hT : Deb W) => ReadText zn S W hz1 hz2 hT)
  have HSM := Lib.hid (fun (ib : Nat) (T : ImgS) (p : Blocks) (cv : Value) (W : World) (hi : ImgC W ib T.1 T.2 (cellsOf T.1 T.2).length) (he : cellsOf T.1 T.2 = cellsOf S.1 S.2) (hc : SlR cellR W p cv (cellsOf S.1 S.2)) (hT : Deb W) => Same2_any ib T p cv W hi (by rw [he]; exact hc) hT)
  generalize (⟨(textOf 16 (runsOf S.1 S.2)).toArray⟩ : ByteArray) = t16 at *
  generalize (⟨(textOf zn (runsOf S.1 S.2)).toArray⟩ : ByteArray) = tz at *
  have hop := run_eqFlt
  have heq : fltEq 0 0 0 0 = true := rfl
  have tok1 : True := trivial
  have tok2 : True := trivial
  clear hz hzn hz1 hz2
  go_enter Tryd.func10, Tryd.ntmps10
  go_wp2_with (first
    | (go_at_call 12; with_reducible refine HBU.out.mono ?_; rintro e w1 ⟨b, n, cv, rfl, hbo⟩; have HB1 := Lib.hid hbo; clear hbo)
    | (go_at_call 18; with_reducible refine (HWS.out b n cv _ HB1.out (HT.out.below HB1.out.below)).mono ?_; rintro e w2 ⟨rfl, hb⟩; have HB2 := Lib.hid (HB1.out.later hb); clear hb)
    | (go_at_call 36; have _t := tok1; with_reducible refine (HR1.out _ (HT.out.below HB2.out.below)).mono ?_; rintro e w3 ⟨ib, T, rfl, _, hi, hc, hb⟩; have hal := (Below.refl w3.heap.size w3).alloc (Nat.le_refl _) (.cells #[.int .i64 0, .int .i64 0] 54); have HB3 := Lib.hid ((HB2.out.later hb).later hal); have HI3 := Lib.hid (hi.below hal hi.lt); have HC3 := Lib.hid hc; have HK3 := Lib.hid (Blk.new w3 54 #[.int .i64 0, .int .i64 0]); clear tok1 _t hi hc hb hal)
    | (go_at_call 21; with_reducible refine (HSZ.out b n cv _ HB3.out (HT.out.below HB3.out.below)).mono ?_; rintro e w4 ⟨rfl, hb⟩; have HB4 := Lib.hid (HB3.out.later hb); have HI4 := Lib.hid (HI3.out.below hb HI3.out.lt); have HK4 := Lib.hid (HK3.out.below hb HK3.out.lt); clear hb)
    | (go_at_call 36; with_reducible refine (HR2.out _ (HT.out.below HB4.out.below)).mono ?_; rintro e w5 ⟨ib2, T2, rfl, _, hi, hc, hb⟩; have hal := (Below.refl w5.heap.size w5).alloc (Nat.le_refl _) (.cells #[.int .i64 0, .int .i64 0] 54); have HB5 := Lib.hid ((HB4.out.later hb).later hal); have HI5 := Lib.hid ((HI4.out.below hb HI4.out.lt).below hal (Nat.lt_of_lt_of_le HI4.out.lt hb.size)); have HJ5 := Lib.hid (hi.below hal hi.lt); have HC5 := Lib.hid hc; have HK5 := Lib.hid ((HK4.out.below hb HK4.out.lt).alloc (.cells #[.int .i64 0, .int .i64 0] 54)); have HL5 := Lib.hid (Blk.new w5 54 #[.int .i64 0, .int .i64 0]); clear hi hc hb hal)
    | (go_at_call 31; with_reducible refine (alive5_any _ (HT.out.below HB5.out.below)).mono ?_; rintro e w6 ⟨rfl, hb⟩; have HB6 := Lib.hid (HB5.out.later hb); have HI6 := Lib.hid (HI5.out.below hb HI5.out.lt); have HJ6 := Lib.hid (HJ5.out.below hb HJ5.out.lt); obtain ⟨k0, k1, _, _⟩ := (HK5.out.below hb HK5.out.lt).two; obtain ⟨l0, l1, _, _⟩ := (HL5.out.below hb HL5.out.lt).two; clear hb)
    | (go_at_call 29; have _t := tok2; with_reducible refine (ImgSame_any _ _ _ _ _ (imgV_of HI6.out HC3.out) HB6.out.imgV (HT.out.below HB6.out.below)).mono ?_; rw [decide_eq_true rfl]; rintro e w7 ⟨rfl, hb⟩; have HB7 := Lib.hid (HB6.out.later hb); have HI7 := Lib.hid (HI6.out.below hb HI6.out.lt); have HJ7 := Lib.hid (HJ6.out.below hb HJ6.out.lt); clear tok2 _t hb)
    | (go_at_call 29; with_reducible refine (ImgSame_any _ _ _ _ _ (imgV_of HJ7.out HC5.out) HB7.out.imgV (HT.out.below HB7.out.below)).mono ?_; rw [decide_eq_true rfl]; rintro e w8 ⟨rfl, hb⟩; have HB8 := Lib.hid (HB7.out.later hb); have HI8 := Lib.hid (HI7.out.below hb HI7.out.lt); clear hb)
    | (go_at_call 35; with_reducible refine (HSM.out _ _ _ _ _ HI8.out HC3.out HB8.out.cells.sl (HT.out.below HB8.out.below)).mono ?_; rintro e w9 ⟨rfl, hb⟩; have HB9 := Lib.hid (HB8.out.later hb); clear hb))
  go_ret
  exact ⟨rfl, HB9.out.below⟩
set_option maxHeartbeats 1000000 in
theorem Inverse_any (p : Blocks) (v : Value) (R : List (Int × List UInt8)) (z : Int) (hz : (Lit.int .u8 z).wf = true) (w : World) (h : SlR runIR w p v R) (hT : Deb w) (hA : ∀ r ∈ R, -9223372036854775808 ≤ r.1 ∧ r.1 ≤ 9223372036854775807) :
    Calls Tryd.prog 10 #[v, .int .u8 z] w fun e w' => e = .returned (.bool true) ∧ Below w.heap.size w w' := by
  by_cases hf : fewB R = true
  · have hzz : 0 ≤ z ∧ z ≤ 255 := by
      unfold Lit.wf at hz
      simp only [Bool.and_eq_true, decide_eq_true_eq] at hz
      exact hz
    obtain ⟨zn, rfl⟩ : ∃ zn : Nat, z = zn := ⟨z.toNat, by omega⟩
    exact Inverse_yes p v R zn (by omega) w h hT hA hf
  · have HT := Lib.hid hT
    have hf : fewB R = false := by simpa using hf
    have HBU := Lib.hid (Build_no p v R w h hf)
    have HF := Lib.hid (fun (W : World) (hb : Below w.heap.size w W) => Few_any _ v R W (h.old.below hb))
    rw [hf] at HF
    clear h hT hA hf hz
    go_enter Tryd.func10, Tryd.ntmps10
    go_wp2_with (first
      | (go_at_call 12; refine HBU.out.mono ?_; rintro e w1 ⟨rfl, rfl⟩)
      | (go_at_call 31; refine (alive5_any _ HT.out).mono ?_; rintro e w2 ⟨rfl, hb⟩; have HB2 := Lib.hid hb; clear hb)
      | (go_at_call 14; refine (HF.out _ HB2.out).mono ?_; rintro e w3 ⟨rfl, rfl⟩))
    go_ret
    exact ⟨rfl, HB2.out⟩
end Go.Proofs.YtcfjcoockklkeaaDoor
