/-
  Law of chapter 12, DecodeAt. Conditions: the library's table as its initialiser lays it.
-/
import Derived.Test.YtjmekllgnhkodaaGreatDoorD14
import Derived.Test.YtjmekllgnhkodaaGreatDoorD7
namespace Go.Proofs.YtjmekllgnhkodaaGreatDoor
open Go.RowKit Go.Shelf Go.Sort

set_option maxHeartbeats 8000000 in
set_option maxRecDepth 100000 in
theorem DecodeAt_law (p : Blocks) (v : Value) (l : List UInt8) (i : Int) (w : World) (h : SlR byteR w p v l) (hT : Spc w) :
    Calls Tryz.prog 5 #[v, .int .i64 i] w fun e w' => e = .returned (.bool true) ∧ RowKit.Below w.heap.size w w' := by
  obtain ⟨a, c, rfl⟩ : ∃ a c, v = .slice a l.length c := by obtain ⟨a, c, e, _⟩ := h; exact ⟨a, c, e⟩
  have HAL := Lib.hid (fun W (hb : RowKit.Below w.heap.size w W) => alive12_any W (hT.below hb))
  have HH := Lib.hid h
  have HT := Lib.hid hT
  clear h hT
  by_cases h1 : 1000 < l.length
  · have h1' : (1000 : Int) < (l.length : Int) := by omega
    go_enter Tryz.func5, Tryz.ntmps5
    go_wp2_with (go_at_call 14; refine (HAL.out _ (Below.refl _ _)).mono ?_; rintro e w1 ⟨rfl, hb⟩; have H1 := Lib.hid hb; clear hb)
    go_ret
    exact ⟨rfl, H1.out⟩
  have h1' : ¬ (1000 : Int) < (l.length : Int) := by omega
  by_cases h2 : i < 0 ∨ (l.length : Int) ≤ i
  · have HA := Lib.hid (fun W => At_no a c l.length i W h2)
    have HSM := Lib.hid (fun W => Same12_any ⟨0, 0, [], [], false⟩ [] 0 0 (.agg itm0) (.agg itm0) W ⟨none, 0, none, 0, rfl, SlR.nil _ _ _, SlR.nil _ _ _⟩ ⟨none, 0, none, 0, rfl, SlR.nil _ _ _, SlR.nil _ _ _⟩)
    have H9 := Lib.hid h2
    cases h3 : decide (i < 0)
    all_goals
      have H3 := Lib.hid h3
      clear h3 h2
      have h3 := H3.out
      first
        | (have h3 := of_decide_eq_true h3)
        | (have h4 := of_decide_eq_false h3; have h5 : (l.length : Int) ≤ i := H9.out.resolve_left h4; clear h3)
      go_enter Tryz.func5, Tryz.ntmps5
      go_upto_region 4 with (go_at_call 22; refine (HA.out _).mono ?_; rintro e w1 ⟨rfl, hb⟩; have HF1 := Lib.hid (((Fr.start w).next hb).new' 29 itm0 (b := w1.heap.size) rfl); clear hb)
      generalize w1.alloc (.cells itm0 29) = W1 at *
      generalize w1.heap.size = tb at *
      go_wp2_with (first
        | (go_at_call 14; refine (HAL.out _ HF1.out.below).mono ?_; rintro e w2 ⟨rfl, hb⟩; have HF2 := Lib.hid (HF1.out.next hb); clear hb; obtain ⟨⟨c0, c1, c2, c3, c4⟩, _⟩ := (HF2.out.blk 0 rfl).five)
        | (go_at_call 19; refine (HSM.out _).mono ?_; rintro e w3 ⟨rfl, hb⟩; have HF3 := Lib.hid (HF2.out.next hb); clear hb))
      go_ret
      exact ⟨rfl, HF3.out.below⟩
  · obtain ⟨k, rfl⟩ : ∃ k : Nat, i = k := ⟨i.toNat, by omega⟩
    have hk : k < l.length := by omega
    have h3' : ¬ (k : Int) < 0 := by omega
    have h4' : ¬ (l.length : Int) ≤ (k : Int) := by omega
    obtain ⟨b, o, rfl, hc1, hc2, _⟩ := byteAt HH.out (by omega)
    have hcut := cut_from b o l.length c k (by omega) (by omega)
    have hlen : (l.drop k).length = l.length - k := List.length_drop
    have HA := Lib.hid (fun W (hb : RowKit.Below w.heap.size w W) => At_yes p (some ⟨b, o, none⟩) c l k W (HT.out.below hb) (HH.out.below hb) hk (by omega))
    have HFI := Lib.hid (fun W (hb : RowKit.Below w.heap.size w W) => First12_any p (some ⟨b, o + k, none⟩) (c - k) (l.drop k) W ((HH.out.dropB (by omega)).below hb) (by omega) (by omega))
    have hrl : ((l.drop k).take (itF (l.drop k)).n).length ≤ 1000 := by rw [List.length_take]; omega
    rw [← hlen] at hcut
    clear h1 h2 hc1 hc2 hlen
    have HKL := Lib.hid hk
    have HL9 : Hid (l.length ≤ 1000) := Lib.hid (by omega)
    clear hk
    generalize l.drop k = L at *
    generalize l.length = m at *
    obtain ⟨R1, hR1⟩ : ∃ R, R = L.take (itF L).n := ⟨_, rfl⟩
    rw [← hR1] at HA hrl
    have HR1 := Lib.hid hR1
    clear hR1
    have hw9 : IntKind.i64.wrap ((k : Int) + R1.length) = (k : Int) + R1.length := by have := HKL.out; have := HL9.out; rw [IntKind.wrap_i64]; omega
    clear hrl
    go_enter Tryz.func5, Tryz.ntmps5
    go_upto_region 4 with (go_at_call 22; refine (HA.out _ (Below.refl _ _)).mono ?_; rintro e w1 ⟨⟨v1, rfl, hi⟩, hb⟩; obtain ⟨ra, rc, va, vc, rfl, x1, x2⟩ := hi; rw [← HR1.out] at x1 ⊢; have HX := Lib.hid (show ItmR w1 w.heap.size (itF L) L (.agg #[.int .i64 (itF L).k, .slice ra R1.length rc, .string ⟨(itF L).op.toArray⟩, .slice va (itF L).args.length vc, .bool (itF L).al]) from ⟨ra, rc, va, vc, by rw [← HR1.out]; rfl, by rw [← HR1.out]; exact x1, x2⟩); have HF1 := Lib.hid (((Fr.start w).next hb).new' 29 #[.int .i64 (itF L).k, .slice ra R1.length rc, .string ⟨(itF L).op.toArray⟩, .slice va (itF L).args.length vc, .bool (itF L).al] (b := w1.heap.size) rfl); clear x1 x2 hb; unfold itmV)
    have HX1 := Lib.hid (HX.out.next ((Below.refl _ _).alloc (Nat.le_refl _) (.cells #[.int .i64 (itF L).k, .slice ra R1.length rc, .string ⟨(itF L).op.toArray⟩, .slice va (itF L).args.length vc, .bool (itF L).al] 29)))
    generalize w1.alloc (.cells #[.int .i64 (itF L).k, .slice ra R1.length rc, .string ⟨(itF L).op.toArray⟩, .slice va (itF L).args.length vc, .bool (itF L).al] 29) = W1 at *
    generalize w1.heap.size = tb at *
    go_upto_region 7 with (go_at_call 20; refine (HFI.out _ HF1.out.below).mono ?_; rintro e w2 ⟨⟨v2, rfl, hi⟩, hb⟩; obtain ⟨rb, rd, vb, vd, rfl, x1, x2⟩ := hi; rw [← HR1.out] at x1 ⊢; have HY := Lib.hid (show ItmR w2 W1.heap.size (itF L) L (.agg #[.int .i64 (itF L).k, .slice rb R1.length rd, .string ⟨(itF L).op.toArray⟩, .slice vb (itF L).args.length vd, .bool (itF L).al]) from ⟨rb, rd, vb, vd, by rw [← HR1.out]; rfl, by rw [← HR1.out]; exact x1, x2⟩); have HX2 := Lib.hid (HX1.out.next hb); have HF2 := Lib.hid ((HF1.out.next hb).new' 29 #[.int .i64 (itF L).k, .slice rb R1.length rd, .string ⟨(itF L).op.toArray⟩, .slice vb (itF L).args.length vd, .bool (itF L).al] (b := w2.heap.size) rfl); clear x1 x2 hb; unfold itmV)
    have HX3 := Lib.hid (HX2.out.next ((Below.refl _ _).alloc (Nat.le_refl _) (.cells #[.int .i64 (itF L).k, .slice rb R1.length rd, .string ⟨(itF L).op.toArray⟩, .slice vb (itF L).args.length vd, .bool (itF L).al] 29)))
    have HY3 := Lib.hid (HY.out.next ((Below.refl _ _).alloc (Nat.le_refl _) (.cells #[.int .i64 (itF L).k, .slice rb R1.length rd, .string ⟨(itF L).op.toArray⟩, .slice vb (itF L).args.length vd, .bool (itF L).al] 29)))
    generalize w2.alloc (.cells #[.int .i64 (itF L).k, .slice rb R1.length rd, .string ⟨(itF L).op.toArray⟩, .slice vb (itF L).args.length vd, .bool (itF L).al] 29) = W2 at *
    generalize w2.heap.size = tc at *
    go_wp2_with (first
      | (go_at_call 14; refine (HAL.out _ HF2.out.below).mono ?_; rintro e w3 ⟨rfl, hb⟩; have HF3 := Lib.hid (HF2.out.next hb); have HX4 := Lib.hid (HX3.out.next hb); have HY4 := Lib.hid (HY3.out.next hb); clear hb; obtain ⟨⟨c0, c1, c2, c3, c4⟩, _⟩ := (HF3.out.blk 1 rfl).five; obtain ⟨⟨d0, d1, d2, d3, d4⟩, _⟩ := (HF3.out.blk 0 rfl).five)
      | (go_at_call 19; refine (Same12_any _ _ _ _ _ _ _ HX4.out HY4.out).mono ?_; rintro e w4 ⟨rfl, hb⟩; have HF4 := Lib.hid (HF3.out.next hb); clear hb c0 c1 c2 c3 c4 d0 d1 d2 d3 d4; obtain ⟨⟨d0, d1, d2, d3, d4⟩, _⟩ := (HF4.out.blk 0 rfl).five))
    go_ret
    exact ⟨rfl, HF4.out.below⟩
end Go.Proofs.YtjmekllgnhkodaaGreatDoor
