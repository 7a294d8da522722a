/-
  Law of chapter 14, FlowItems. Conditions: the library's tables as their initialisers lay them; the addresses fit their type.
-/
import Derived.Test.YtmpmciccgempeaaGreatDoorF11
import Derived.Test.YtmpmciccgempeaaGreatDoorF7
import Derived.Test.YtmpmciccgempeaaGreatDoorBR1
import Derived.Test.YtmpmciccgempeaaGreatDoorBC4
import Derived.Test.YtmpmciccgempeaaGreatDoorBC3
import Derived.Test.YtmpmciccgempeaaGreatDoorBC2
import Derived.Test.YtmpmciccgempeaaGreatDoorBF1
import Derived.Test.YtmpmciccgempeaaGreatDoorBC1
import Derived.Test.YtmpmciccgempeaaGreatDoorBU1
import Derived.Test.YtmpmciccgempeaaGreatDoorBA17
import Derived.Test.YtmpmciccgempeaaGreatDoorBA14
import Derived.Test.YtmpmciccgempeaaGreatDoorBA12
import Derived.Test.YtmpmciccgempeaaGreatDoorBA6
import Derived.Test.YtmpmciccgempeaaGreatDoorBA5
import Derived.Test.YtmpmciccgempeaaGreatDoorBB1
import Derived.Test.YtmpmciccgempeaaGreatDoorBA1
import Derived.Test.YtmpmciccgempeaaGreatDoorBD1
import Derived.Test.YtmpmciccgempeaaGreatDoorChecked
import Derived.Test.YtmpmciccgempeaaGreatDoorBA4
import Derived.Test.YtmpmciccgempeaaGreatDoorShelf
import Derived.Test.YtmpmciccgempeaaGreatDoorBA2
import Derived.Test.YtmpmciccgempeaaGreatDoorBA3
import Derived.Test.YtmpmciccgempeaaGreatDoorBB2
import Derived.Test.YtmpmciccgempeaaGreatDoorBA9
import Derived.Test.YtmpmciccgempeaaGreatDoorBA7
import Derived.Test.YtmpmciccgempeaaGreatDoorBA8
import Derived.Test.YtmpmciccgempeaaGreatDoorBT1
import Derived.Test.YtmpmciccgempeaaGreatDoorBB3
import Derived.Test.YtmpmciccgempeaaGreatDoorBA11
import Derived.Test.YtmpmciccgempeaaGreatDoorBA10
import Derived.Test.YtmpmciccgempeaaGreatDoorBB8
import Derived.Test.YtmpmciccgempeaaGreatDoorBB4
import Derived.Test.YtmpmciccgempeaaGreatDoorBB6
import Derived.Test.YtmpmciccgempeaaGreatDoorBB5
import Derived.Test.YtmpmciccgempeaaGreatDoorBA13
import Derived.Test.YtmpmciccgempeaaGreatDoorBB7
namespace Go.Proofs.YtmpmciccgempeaaGreatDoor
open Go.RowKit Go.Shelf Go.Sort

set_option maxHeartbeats 4000000 in
set_option maxRecDepth 100000 in
theorem FlowItems_law (R : List (Int × List UInt8)) (addr : Int) (p : aB) (v : Value) (w : World) (h : SlR CC w p v R) (hT : Spc w) (hD : Deb w) (hA : ∀ r ∈ R, -9223372036854775808 ≤ r.1 ∧ r.1 ≤ 9223372036854775807) (ha : cN addr) :
    Calls Tryz.prog 6 #[v, .int .i64 addr] w fun e w' => e = .returned (.bool true) ∧ RowKit.Below w.heap.size w w' := by
  have HT := aA hT
  have HA := aA ha
  cases hf : zJ R
  · have HBN := aA (Build_no p v R w h hf)
    have HFW := aA (fun W (hb : RowKit.Below w.heap.size w W) => AG p v R W (h.below hb))
    rw [hf] at HFW
    have HAL := aA (alive14_any w hT)
    clear h hT hD hA ha hf
    go_enter Tryz.func6, Tryz.ntmps6
    go_wp2_with (first
      | (go_at_call 33; refine HBN.out.mono ?_; rintro e w1 ⟨rfl, hw1⟩; subst hw1)
      | (go_at_call 14; refine HAL.out.mono ?_; rintro e w2 ⟨rfl, hb⟩; have HB := aA hb; clear hb)
      | (go_at_call 34; refine (HFW.out _ HB.out).mono ?_; rintro e w3 ⟨rfl, hw3⟩; subst hw3))
    go_ret
    exact ⟨rfl, HB.out⟩
  · have HBY := aA (Build_yes p v R w h hD hA hf)
    clear h hT hD hA ha hf
    go_enter Tryz.func6, Tryz.ntmps6
    go_upto_region 2 with (go_at_call 33; refine HBY.out.mono ?_; rintro e w1 ⟨b, n, cv, rfl, hb⟩; have HBO := aA hb; clear hb)
    have HF0 := aA (Fr.start w1)
    have HIT := aA (FItem_any b n _ _ addr HA.out w1 (HT.out.below HBO.out.below) HBO.out.img)
    have HRI := aA (fun W (hb : RowKit.Below w1.heap.size w1 W) => RItem_any _ cv _ _ addr HA.out W (HBO.out.cells.sl.below hb))
    have HAL := aA (fun W (hb : RowKit.Below w1.heap.size w1 W) => alive14_any W ((HT.out.below HBO.out.below).below hb))
    have HE : Hid ((70000 : Int) < addr → bys (uS R).1 (uS R).2 addr 4 = []) := aA (fun h => bys_none (gB_out (.inr (by omega))))
    have HW1 := aA HBO.out.below
    generalize bys (uS R).1 (uS R).2 addr 4 = L at *
    unfold FItP at HIT HRI
    go_upto_region 5 with (go_at_call 35; refine HIT.out.mono ?_; rintro e w2 ⟨⟨x, rfl, hi⟩, hb⟩; have hm := hi; obtain ⟨ra, rc, va, vc, hv, _, _⟩ := hi; unfold qU at hv; rw [List.length_take] at hv; subst hv; have HM := aA (hm.next ((Below.refl _ _).alloc (Nat.le_refl _) (.cells #[.int .i64 (itQ L).k, .slice ra (min (itQ L).n L.length) rc, .string ⟨(itQ L).op.toArray⟩, .slice va (itQ L).args.length vc, .bool (itQ L).al] 34))); have HF1 := aA ((HF0.out.next hb).new' 34 #[.int .i64 (itQ L).k, .slice ra (min (itQ L).n L.length) rc, .string ⟨(itQ L).op.toArray⟩, .slice va (itQ L).args.length vc, .bool (itQ L).al] (b := w2.heap.size) rfl); clear hm hb)
    obtain ⟨W2, hW2⟩ : ∃ W : World, W = w2.alloc (.cells #[.int .i64 (itQ L).k, .slice ra (min (itQ L).n L.length) rc, .string ⟨(itQ L).op.toArray⟩, .slice va (itQ L).args.length vc, .bool (itQ L).al] 34) := ⟨_, rfl⟩
    rw [← hW2] at HF1 HM ⊢
    clear hW2
    generalize w2.heap.size = b7 at *
    by_cases hx : (70000 : Int) < addr
    · have he := HE.out hx
      subst he
      go_wp2_with (go_at_call 14; refine (HAL.out _ HF1.out.below).mono ?_; rintro e w3 ⟨rfl, hb⟩; have HF2 := aA (HF1.out.next hb); clear hb)
      go_ret
      exact ⟨rfl, HW1.out.trans (HF2.out.below.mono HW1.out.size)⟩
    · go_upto_region 8 with (go_at_call 36; refine (HRI.out _ HF1.out.below).mono ?_; rintro e w3 ⟨⟨x, rfl, hi⟩, hb⟩; have hm := hi; obtain ⟨sa, sc, ta, tc, hv, _, _⟩ := hi; unfold qU at hv; rw [List.length_take] at hv; subst hv; have HM1 := aA ((HM.out.next hb).next ((Below.refl _ _).alloc (Nat.le_refl _) (.cells #[.int .i64 (itQ L).k, .slice sa (min (itQ L).n L.length) sc, .string ⟨(itQ L).op.toArray⟩, .slice ta (itQ L).args.length tc, .bool (itQ L).al] 34))); have HM2 := aA (hm.next ((Below.refl _ _).alloc (Nat.le_refl _) (.cells #[.int .i64 (itQ L).k, .slice sa (min (itQ L).n L.length) sc, .string ⟨(itQ L).op.toArray⟩, .slice ta (itQ L).args.length tc, .bool (itQ L).al] 34))); have HF2 := aA ((HF1.out.next hb).new' 34 #[.int .i64 (itQ L).k, .slice sa (min (itQ L).n L.length) sc, .string ⟨(itQ L).op.toArray⟩, .slice ta (itQ L).args.length tc, .bool (itQ L).al] (b := w3.heap.size) rfl); clear hm hb)
      obtain ⟨W3, hW3⟩ : ∃ W : World, W = w3.alloc (.cells #[.int .i64 (itQ L).k, .slice sa (min (itQ L).n L.length) sc, .string ⟨(itQ L).op.toArray⟩, .slice ta (itQ L).args.length tc, .bool (itQ L).al] 34) := ⟨_, rfl⟩
      rw [← hW3] at HF2 HM1 HM2 ⊢
      clear hW3
      generalize w3.heap.size = b9 at *
      go_wp2_with (first
        | (go_at_call 14; refine (HAL.out _ HF2.out.below).mono ?_; rintro e w4 ⟨rfl, hb⟩; have HF3 := aA (HF2.out.next hb); have HN1 := aA (HM1.out.next hb); have HN2 := aA (HM2.out.next hb); obtain ⟨⟨c0, c1, c2, c3, c4⟩, _⟩ := (HF3.out.blk 0 rfl).five; obtain ⟨⟨d0, d1, d2, d3, d4⟩, _⟩ := (HF3.out.blk 1 rfl).five; clear hb)
        | (go_at_call 32; refine (EU _ _ _ _ _ _ _ HN1.out HN2.out).mono ?_; rintro e w5 ⟨rfl, hb⟩; have HF4 := aA (HF3.out.next hb); clear hb))
      go_ret
      exact ⟨rfl, HW1.out.trans (HF4.out.below.mono HW1.out.size)⟩
end Go.Proofs.YtmpmciccgempeaaGreatDoor
