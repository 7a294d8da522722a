/-
  slices.Equal at bytes, slices.EqualFunc at runs, image.Same. Conditions: the library's table as its initialiser lays it.
-/
import Derived.Test.YtcfjcoockklkeaaGreatDoorM6
namespace Go.Proofs.YtcfjcoockklkeaaGreatDoor
open Go.RowKit

set_option maxRecDepth 100000 in
set_option maxHeartbeats 1000000 in
theorem EqualByte_any (p q : Blocks) (v1 v2 : Value) (l1 l2 : List UInt8) (w : World) (h1 : SlR byteR w p v1 l1) (h2 : SlR byteR w q v2 l2) :
    Calls Tryz.prog 31 #[v1, v2] w fun e w' => e = .returned (.bool (decide (l1 = l2))) ∧ ∃ n, w' = w.drewN n := by
  obtain ⟨a1, c1, rfl, hc1, hm1, g1⟩ := h1.byte
  obtain ⟨a2, c2, rfl, hc2, hm2, g2⟩ := h2.byte
  clear h1 h2
  by_cases hl : l1.length = l2.length
  · have HL := Lib.hid hl
    rw [← hl] at hc2 ⊢
    clear hl
    go_enter Tryz.func31, Tryz.ntmps31
    go_wp2
    go_loopw [5, 13] (fun _ i wr => ∃ k n : Nat, k ≤ l1.length ∧ i = .int .i64 k ∧ wr = w.drewN n ∧ l1.take k = l2.take k) (fun _ i _ => l1.length - (intOf i).toNat)
    case atStart => exact ⟨0, 0, Nat.zero_le _, rfl, rfl, rfl⟩
    case round =>
      obtain ⟨k, n, hk, rfl, rfl, ht⟩ := hrel
      have HT := Lib.hid ht
      clear ht
      by_cases hlt : k < l1.length
      · have hlt2 : k < l2.length := by have := HL.out; omega
        obtain ⟨b1, o1, rfl, _, d1⟩ := g1 k l1[k] (List.getElem?_eq_getElem hlt)
        obtain ⟨b2, o2, rfl, _, e1⟩ := g2 k l2[k] (List.getElem?_eq_getElem hlt2)
        clear g1 g2
        have HS := Lib.hid (take_succ_eq hlt hlt2 HT.out)
        have HN : Hid (l1[k] ≠ l2[k] → l1 ≠ l2) := fun h e => h (by simp only [e])
        generalize l1[k] = x at *
        generalize l2[k] = y at *
        by_cases hxy : x = y
        · have hb : ((x.toNat : Int) != (y.toNat : Int)) = false := by rw [hxy]; simp
          have HXY := Lib.hid hxy
          clear hxy
          go_wp2
          go_quiet (fail)
          go_wp2
          go_roundw
          case rel => exact ⟨k + 1, n + nq, by omega, by go_num, rfl, HS.out HXY.out⟩
          case measure => simp [intOf]; omega
        · have hb : ((x.toNat : Int) != (y.toNat : Int)) = true := by rw [bne_iff_ne]; intro e; exact hxy (UInt8.toNat_inj.1 (by omega))
          have HXY := Lib.hid (HN.out hxy)
          clear hxy
          go_wp2
          go_quiet (fail)
          go_wp2
          go_ret
          exact ⟨ret_bool (decide_eq_false HXY.out).symm, _, drewN2 _ _ _⟩
      · go_wp2
        go_ret
        exact ⟨ret_bool (decide_eq_true (by have h1 := HT.out; have h2 := HL.out; rwa [List.take_of_length_le (by omega), List.take_of_length_le (by omega)] at h1)).symm, n, rfl⟩
  · go_enter Tryz.func31, Tryz.ntmps31
    go_wp2
    go_ret
    exact ⟨by simp; intro h; exact hl (by rw [h]), 0, rfl⟩
set_option maxHeartbeats 1000000 in
theorem Same1_any (p q : Blocks) (a1 a2 : Nat) (v1 v2 : Value) (l1 l2 : List UInt8) (w : World) (h1 : SlR byteR w p v1 l1) (h2 : SlR byteR w q v2 l2) :
    Calls Tryz.prog 43 #[.agg #[.int .i64 a1, v1], .agg #[.int .i64 a2, v2]] w fun e w' => e = .returned (.bool (decide ((a1, l1) = (a2, l2)))) ∧ Below w.heap.size w w' := by
  obtain ⟨s1, c1, rfl, _⟩ := h1.byte
  obtain ⟨s2, c2, rfl, _⟩ := h2.byte
  have HB : Hid (Below w.heap.size w ((w.alloc (.cells #[.int .i64 a1, .slice s1 l1.length c1] 68)).alloc (.cells #[.int .i64 a2, .slice s2 l2.length c2] 68))) := ((Below.refl _ w).alloc (Nat.le_refl _) _).alloc (by rw [World.size_alloc]; exact Nat.le_succ _) _
  have HE := Lib.hid (EqualByte_any _ _ _ _ l1 l2 _ ((h1.alloc (.cells #[.int .i64 a1, .slice s1 l1.length c1] 68)).alloc (.cells #[.int .i64 a2, .slice s2 l2.length c2] 68)) ((h2.alloc (.cells #[.int .i64 a1, .slice s1 l1.length c1] 68)).alloc (.cells #[.int .i64 a2, .slice s2 l2.length c2] 68)))
  clear h1 h2
  by_cases ha : a1 = a2
  · have HR : Hid (decide ((a1, l1) = (a2, l2)) = decide (l1 = l2)) := by show _ = _; simp [ha]
    generalize decide ((a1, l1) = (a2, l2)) = r at *
    obtain rfl := HR.out
    generalize decide (l1 = l2) = b at *
    subst ha
    clear HR
    go_enter Tryz.func43, Tryz.ntmps43
    go_wp2_with (go_at_call 31; refine HE.out.mono ?_; rintro e w' ⟨rfl, n, rfl⟩)
    go_ret
    exact ⟨rfl, HB.out.trans (below_drewN _ _ _)⟩
  · have HR : Hid (decide ((a1, l1) = (a2, l2)) = false) := by show _ = _; simp [ha]
    generalize decide ((a1, l1) = (a2, l2)) = r at *
    obtain rfl := HR.out
    have hb : ((a1 : Int) == (a2 : Int)) = false := by rw [beq_eq_false_iff_ne]; omega
    have hd : ¬ (a1 : Int) = (a2 : Int) := by omega
    clear HR HE ha
    go_enter Tryz.func43, Tryz.ntmps43
    go_wp2
    go_ret
    exact ⟨rfl, HB.out⟩
set_option maxRecDepth 100000 in
set_option maxHeartbeats 2000000 in
theorem EqualFuncRun_any (p q : Blocks) (v1 v2 : Value) (l1 l2 : List (Nat × List UInt8)) (w : World) (h1 : SlR runR w p v1 l1) (h2 : SlR runR w q v2 l2) :
    Calls Tryz.prog 42 #[v1, v2, .func (.func 43) #[] #[]] w fun e w' => e = .returned (.bool (decide (l1 = l2))) ∧ Below w.heap.size w w' := by
  obtain ⟨a1, c1, rfl, hc1, hm1, _⟩ := h1.run
  obtain ⟨a2, c2, rfl, hc2, hm2, _⟩ := h2.run
  have H1 := Lib.hid h1
  have H2 := Lib.hid h2
  clear h1 h2
  by_cases hl : l1.length = l2.length
  · have HL := Lib.hid hl
    clear hl
    have hl2 : (l2.length : Int) = (l1.length : Int) := by have := HL.out; omega
    go_enter Tryz.func42, Tryz.ntmps42
    go_wp2
    clear hl2
    go_loopw [17] (fun i wr => ∃ k : Nat, k ≤ l1.length ∧ i = .int .i64 k ∧ Below w.heap.size w wr ∧ l1.take k = l2.take k) (fun i _ => l1.length - (intOf i).toNat)
    case atStart => exact ⟨0, Nat.zero_le _, rfl, Below.refl _ _, rfl⟩
    case round =>
      obtain ⟨k, hk, rfl, hb, ht⟩ := hrel
      have HT := Lib.hid ht
      have HB := Lib.hid hb
      clear ht hb
      by_cases hlt : k < l1.length
      · have hlt2 : k < l2.length := by have := HL.out; omega
        obtain ⟨aa1, c3, hv1, _, _, g1⟩ := (H1.out.old.below HB.out).run
        obtain ⟨aa2, c4, hv2, _, _, g2⟩ := (H2.out.old.below HB.out).run
        obtain ⟨b1, o1, sa1, sc1, e1, _, d1, d1', s1⟩ := g1 k l1[k] (List.getElem?_eq_getElem hlt)
        obtain ⟨b2, o2, sa2, sc2, e2, _, d2, d2', s2⟩ := g2 k l2[k] (List.getElem?_eq_getElem hlt2)
        obtain ⟨rfl, rfl⟩ : a1 = aa1 ∧ c1 = c3 := by injection hv1 with h1 h2 h3; exact ⟨h1, h3⟩
        obtain ⟨rfl, rfl⟩ : a2 = aa2 ∧ c2 = c4 := by injection hv2 with h1 h2 h3; exact ⟨h1, h3⟩
        subst e1 e2
        clear g1 g2 hv1 hv2
        have HS := Lib.hid (take_succ_eq hlt hlt2 HT.out)
        have HN : Hid (l1[k] ≠ l2[k] → l1 ≠ l2) := fun h e => h (by simp only [e])
        generalize l1[k] = x at *
        generalize l2[k] = y at *
        obtain ⟨xa, xl⟩ := x
        obtain ⟨ya, yl⟩ := y
        have HA : Hid (Below wr.heap.size wr ((wr.alloc (.cells #[.int .i64 xa, .slice sa1 xl.length sc1] 68)).alloc (.cells #[.int .i64 ya, .slice sa2 yl.length sc2] 68))) := ((Below.refl _ wr).alloc (Nat.le_refl _) _).alloc (by rw [World.size_alloc]; exact Nat.le_succ _) _
        have HC := Lib.hid (Same1_any _ _ xa ya _ _ xl yl _ ((s1.alloc (.cells #[.int .i64 xa, .slice sa1 xl.length sc1] 68)).alloc (.cells #[.int .i64 ya, .slice sa2 yl.length sc2] 68)) ((s2.alloc (.cells #[.int .i64 xa, .slice sa1 xl.length sc1] 68)).alloc (.cells #[.int .i64 ya, .slice sa2 yl.length sc2] 68)))
        have hl2 : (k : Int) < (l2.length : Int) := by omega
        have f2 : (wr.alloc (.cells #[.int .i64 xa, .slice sa1 xl.length sc1] 68)).cell? ⟨b2, o2 + k * 2, none⟩ = some (.int .i64 ya) := (World.cell?_alloc_old _ _ _ (Nat.ne_of_lt (World.block_lt_of_cell? _ _ d2))).trans d2
        have f2' : (wr.alloc (.cells #[.int .i64 xa, .slice sa1 xl.length sc1] 68)).cell? ⟨b2, o2 + k * 2 + 1, none⟩ = some (.slice sa2 yl.length sc2) := (World.cell?_alloc_old _ _ _ (Nat.ne_of_lt (World.block_lt_of_cell? _ _ d2'))).trans d2'
        clear s1 s2 d2 d2'
        by_cases hxy : ((xa, xl) : Nat × List UInt8) = (ya, yl)
        · have HSS := Lib.hid (HS.out hxy)
          rw [decide_eq_true hxy] at HC
          clear hxy HS HN
          go_wp2_with (go_at_call 43; refine HC.out.mono ?_; rintro e w7 ⟨rfl, hb⟩; have HB7 := Lib.hid (HB.out.trans ((HA.out.trans (hb.mono HA.out.size)).mono HB.out.size)); clear hb)
          go_roundw
          case rel => exact ⟨k + 1, by omega, by go_num, HB7.out, HSS.out⟩
          case measure => simp [intOf]; omega
        · have HSS := Lib.hid (HN.out hxy)
          rw [decide_eq_false hxy] at HC
          clear hxy HS HN
          go_wp2_with (go_at_call 43; refine HC.out.mono ?_; rintro e w7 ⟨rfl, hb⟩; have HB7 := Lib.hid (HB.out.trans ((HA.out.trans (hb.mono HA.out.size)).mono HB.out.size)); clear hb)
          go_ret
          exact ⟨ret_bool (decide_eq_false HSS.out).symm, HB7.out⟩
      · go_wp2
        go_ret
        exact ⟨ret_bool (decide_eq_true (by have h1 := HT.out; have h2 := HL.out; rwa [List.take_of_length_le (by omega), List.take_of_length_le (by omega)] at h1)).symm, HB.out⟩
  · go_enter Tryz.func42, Tryz.ntmps42
    go_wp2
    go_ret
    exact ⟨by simp; intro h; exact hl (by rw [h]), Below.refl _ _⟩
set_option maxHeartbeats 1000000 in
theorem ImgSame_any (m1 m2 : Option Addr) (R1 R2 : List (Nat × List UInt8)) (w : World) (h1 : ImgV w (.pointer m1) R1) (h2 : ImgV w (.pointer m2) R2) (hT : Deb w) :
    Calls Tryz.prog 19 #[.pointer m1, .pointer m2] w fun e w' => e = .returned (.bool (decide (R1 = R2))) ∧ Below w.heap.size w w' := by
  have HX := Lib.hid (RunsV_any _ R1 w h1 hT)
  have HY := Lib.hid (fun W (hb : Below w.heap.size w W) => RunsV_any _ R2 W (h2.below hb) (hT.below hb))
  clear h1 h2 hT
  have tok1 : True := trivial
  go_enter Tryz.func19, Tryz.ntmps19
  go_wp2_with (first
    | (go_at_call 28; have _t := tok1; with_reducible refine HX.out.mono ?_; rintro e w1 ⟨v1, rfl, ho, hb⟩; have HB1 := Lib.hid hb; have HO1 := Lib.hid ho; clear ho hb tok1 _t)
    | (go_at_call 28; with_reducible refine (HY.out _ HB1.out).mono ?_; rintro e w2 ⟨v2, rfl, ho, hb⟩; have HB2 := Lib.hid (HB1.out.trans (hb.mono HB1.out.size)); have HO2 := Lib.hid ho.slR; have HO3 := Lib.hid (HO1.out.stay hb).slR; clear ho hb)
    | (go_at_call 42; refine (EqualFuncRun_any _ _ _ _ R1 R2 _ HO3.out HO2.out).mono ?_; rintro e w3 ⟨rfl, hb⟩; have HB3 := Lib.hid (HB2.out.trans (hb.mono HB2.out.size)); clear hb))
  go_ret
  exact ⟨rfl, HB3.out⟩
end Go.Proofs.YtcfjcoockklkeaaGreatDoor
