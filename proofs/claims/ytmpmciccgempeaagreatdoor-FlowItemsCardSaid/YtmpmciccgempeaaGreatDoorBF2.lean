/-
  breadboardref12.First. Conditions: sizes.
-/
import Derived.Test.YtmpmciccgempeaaGreatDoorBC3
import Derived.Test.YtmpmciccgempeaaGreatDoorBF1
namespace Go.Proofs.YtmpmciccgempeaaGreatDoor
open Go.RowKit Go.Shelf Go.Sort
abbrev tE9 : TypeId := 72
set_option maxHeartbeats 16000000 in
set_option maxRecDepth 100000 in
theorem BU (p : aB) (a : Option Addr) (c : Nat) (l : List UInt8) (w : World) (hs : SlR aI w p (.slice a l.length c) l) (h0 : 0 < l.length) (hl : l.length ≤ 1000000) :
    Calls Tryz.prog 23 #[.slice a l.length c] w (WJ w (itF l) l) := by
  have HP := aA (fun W (hb : RowKit.Below w.heap.size w W) => UV p a c l W (hs.below hb) h0 hl)
  obtain ⟨b0, o0, rfl, _, _, hcl⟩ := nN hs h0
  have HC := aA (fun W (hb : RowKit.Below w.heap.size w W) k (hk : k < l.length) => (by obtain ⟨b1, o1, e, _, _, h⟩ := nN (hs.below hb) h0; injection e with e; injection e with e1 e2; subst e1 e2; exact h k hk : W.cell? ⟨b0, o0 + k, none⟩ = some (.int .u8 (bAt l k))))
  have HI := aA (fun (k : Int) n (hn : n ≤ l.length) W (hb : RowKit.Below w.heap.size w W) => DX k p ⟨b0, o0, none⟩ c l n W (hs.below hb) hn hl)
  have HL := aA hl
  have H0 := aA h0
  obtain ⟨h7, hpre⟩ := yN (l := l)
  have HF0 := aA ((Fr.start w).new 34 cD)
  have HLT : Hid (w.heap.size < (w.alloc (.cells cD 34)).heap.size) := aA (by rw [World.size_alloc]; omega)
  have HQ : Hid (∃ q, pgB l = q) := aA ⟨_, rfl⟩
  clear hcl hs
  obtain ⟨W0, hW0⟩ : ∃ W : World, W = w.alloc (.cells cD 34) := ⟨_, rfl⟩
  rw [← hW0] at HF0 HLT
  obtain ⟨q, hq⟩ := HQ.out
  rw [hq] at HP h7 hpre
  clear HQ
  have HQ := aA hq
  obtain ⟨K, hK⟩ : ∃ K, pos q = K := ⟨_, rfl⟩
  rw [hK] at HP hpre
  have HK := aA hK
  clear hq hK
  by_cases hA : l.length ≤ K
  · have HIT : Hid (itF l = ⟨4, l.length, [], [], false⟩) := aA (by unfold itF itS; rw [HQ.out, if_pos (by rw [HK.out]; exact hA)])
    have hA' : (l.length : Int) ≤ (K : Int) := by omega
    have HI1 := aA (HI.out 4 l.length (Nat.le_refl _))
    obtain ⟨R1, hR1⟩ : ∃ R, R = l.take l.length := ⟨_, rfl⟩
    rw [← hR1] at HI1
    have HR := aA hR1
    clear hR1 hpre hA
    go_enter Tryz.func23, Tryz.ntmps23
    go_upto_region 1 with fail
    rw [← hW0]
    clear hW0
    go_wp2_with (first
      | (go_at_call 72; refine (HP.out _ HF0.out.below).mono ?_; rintro e w1 ⟨rfl, hw1⟩; subst w1)
      | (go_at_call 73; refine (HI1.out _ HF0.out.below).mono ?_; rintro e w2 ⟨qa, qc, rfl, ho, hb⟩; have HO := aA ho; have HF2 := aA (HF0.out.next hb); clear ho hb; obtain ⟨⟨c0, c1, c2, c3, c4⟩, f0, f1', f2, f3, f4⟩ := (HF2.out.blk 0 rfl).five))
    have F5 := aA (HF2.out.set5 (Nat.le_refl _) (fun x hx => by cases hx) (.int .i64 4) (.slice qa R1.length qc) (.string ⟨#[]⟩) (.slice none 0 0) (.bool false))
    exact bodyPost_ret (eG rfl rfl (F5.out.blk 0 rfl) rfl) rfl ⟨⟨_, rfl, by rw [HIT.out]; exact ((dW.bare HO.out HR.out (Nat.le_refl _)).off5 HLT.out _ _ _ _ _).base (Nat.le_of_lt HLT.out)⟩, F5.out.below⟩
  · have HMP : Hid (K < l.length) := aA (by omega)
    have hpr : cF q (bAt l K) = false := hpre (by omega)
    have hA' : ¬ (l.length : Int) ≤ (K : Int) := by omega
    have hk := HC.out
    have HAT := aA (fun W => pY q (bAt l K) (bT l K) W)
    have hck : W0.cell? ⟨b0, o0 + K, none⟩ = some (.int .u8 (bAt l K)) := HC.out _ HF0.out.below _ HMP.out
    have HNP : Hid (¬ l.length ≤ pos q) := aA (by rw [HK.out]; exact hA)
    clear hk hpre hA
    cases hat : atF q (bAt l K) with
    | mk oe kk =>
    rw [hat] at HAT
    cases oe with
    | none =>
      rcases sA h7 (bT l K) hpr hat with ⟨rfl, _⟩ | ⟨rfl, hq2⟩
      · have HIT := aA (GL HQ.out HNP.out (by rw [HK.out]; exact hat))
        have HI1 := aA (HI.out 2 1 H0.out)
        obtain ⟨R1, hR1⟩ : ∃ R, R = l.take 1 := ⟨_, rfl⟩
        rw [← hR1] at HI1
        have HR := aA hR1
        clear hR1 hat hpr
        go_enter Tryz.func23, Tryz.ntmps23
        go_upto_region 1 with fail
        rw [← hW0]
        clear hW0
        go_wp2_with (first
          | (go_at_call 72; refine (HP.out _ HF0.out.below).mono ?_; rintro e w1 ⟨rfl, hw1⟩; subst w1)
          | (go_at_call 74; refine (HAT.out _).mono ?_; rintro e w3 ⟨rfl, hb⟩; have HF3 := aA ((HF0.out.next hb).alloc (.cells #[.int .i64 0, .int .u8 0, .string ⟨#[]⟩, .slice none 0 0, .string ⟨#[]⟩, .bool false] tE9)); have HLT3 := aA (show w.heap.size < (w3.alloc (.cells #[.int .i64 0, .int .u8 0, .string ⟨#[]⟩, .slice none 0 0, .string ⟨#[]⟩, .bool false] tE9)).heap.size from (HF3.out.blk 0 rfl).lt); clear hb HLT; have HLT := HLT3; clear HLT3; unfold mX)
          | (go_at_call 73; refine (HI1.out _ HF3.out.below).mono ?_; rintro e w2 ⟨qa, qc, rfl, ho, hb⟩; have HO := aA ho; have HF2 := aA (HF3.out.next hb); clear ho hb; obtain ⟨⟨c0, c1, c2, c3, c4⟩, f0, f1', f2, f3, f4⟩ := (HF2.out.blk 0 rfl).five))
        have F5 := aA (HF2.out.set5 (Nat.le_refl _) (fun x hx => by cases hx) (.int .i64 2) (.slice qa R1.length qc) (.string ⟨#[]⟩) (.slice none 0 0) (.bool false))
        exact bodyPost_ret (eG rfl rfl (F5.out.blk 0 rfl) rfl) rfl ⟨⟨_, rfl, by rw [HIT.out]; exact ((dW.bare HO.out HR.out (Nat.le_refl _)).off5 HLT.out _ _ _ _ _).base (Nat.le_of_lt HLT.out)⟩, F5.out.below⟩
      · have HM1 : Hid (K = 1) := aA (by rw [← HK.out, hq2]; rfl)
        clear hq2
        have HIT := aA (JR HM1.out HQ.out HNP.out (by rw [HK.out]; exact hat))
        have HI1 := aA (HI.out 3 2 (by have := HMP.out; have := HM1.out; omega))
        obtain ⟨R1, hR1⟩ : ∃ R, R = l.take (K + 1) := ⟨_, rfl⟩
        rw [show (2 : Nat) = K + 1 by rw [HM1.out], ← hR1] at HI1
        have HR := aA hR1
        have hk2 : ((K + 1 : Nat) : Int) = 2 := by have := HM1.out; omega
        rw [hk2] at HI1
        clear hR1 hat hpr hk2
        go_enter Tryz.func23, Tryz.ntmps23
        go_upto_region 1 with fail
        rw [← hW0]
        clear hW0
        go_wp2_with (first
          | (go_at_call 72; refine (HP.out _ HF0.out.below).mono ?_; rintro e w1 ⟨rfl, hw1⟩; subst w1)
          | (go_at_call 74; refine (HAT.out _).mono ?_; rintro e w3 ⟨rfl, hb⟩; have HF3 := aA ((HF0.out.next hb).alloc (.cells #[.int .i64 0, .int .u8 0, .string ⟨#[]⟩, .slice none 0 0, .string ⟨#[]⟩, .bool false] tE9)); have HLT3 := aA (show w.heap.size < (w3.alloc (.cells #[.int .i64 0, .int .u8 0, .string ⟨#[]⟩, .slice none 0 0, .string ⟨#[]⟩, .bool false] tE9)).heap.size from (HF3.out.blk 0 rfl).lt); clear hb HLT; have HLT := HLT3; clear HLT3; unfold mX)
          | (go_at_call 73; refine (HI1.out _ HF3.out.below).mono ?_; rintro e w2 ⟨qa, qc, rfl, ho, hb⟩; have HO := aA ho; have HF2 := aA (HF3.out.next hb); clear ho hb; obtain ⟨⟨c0, c1, c2, c3, c4⟩, f0, f1', f2, f3, f4⟩ := (HF2.out.blk 0 rfl).five))
        have F5 := aA (HF2.out.set5 (Nat.le_refl _) (fun x hx => by cases hx) (.int .i64 3) (.slice qa R1.length qc) (.string ⟨#[]⟩) (.slice none 0 0) (.bool false))
        exact bodyPost_ret (eG rfl rfl (F5.out.blk 0 rfl) rfl) rfl ⟨⟨_, rfl, by rw [HIT.out]; exact ((dW.bare HO.out HR.out (Nat.le_refl _)).off5 HLT.out _ _ _ _ _).base (Nat.le_of_lt HLT.out)⟩, F5.out.below⟩
    | some ev =>
      have HE1 := aA (xZ h7 (bT l K) hat)
      obtain rfl := HE1.out.1
      have HEW := aA (kZ h7 (bT l K) (by rw [hat]))
      have HOK := aA (mG (bT l K) (by rw [hat]))
      have HWD := aA (at_word h7 (bT l K) (by rw [hat]))
      have HIF := aA (RV HQ.out HNP.out (by rw [HK.out]; exact hat))
      have HSZ : Hid (gX ev = (aR q).length + 1 + rdN ev.ex) := aA (by unfold gX; rw [HEW.out.2.1])
      have HK0 : Hid ((if 5 ≤ q then 2 else K + 1) + rdN ev.ex ≤ gX ev) := aA (by
        rw [HSZ.out]
        by_cases h5 : 5 ≤ q
        · rw [if_pos h5]
          have : q = 5 ∨ q = 6 := by omega
          rcases this with e | e <;> rw [e] <;> show 2 + rdN ev.ex ≤ 2 + 1 + rdN ev.ex <;> omega
        · rw [if_neg h5, ← HK.out]; unfold pos; rw [if_neg h5]; omega)
      have HNB : Hid (gP q ev l = rdF ev.ex l (if 5 ≤ q then 2 else K + 1) 0 0) := aA (by unfold gP; rw [HK.out])
      have HIN : Hid (itE q ev l = if l.length < gX ev then ⟨4, l.length, [], [], false⟩ else ⟨1, gX ev, (jO ev (gP q ev l).1 (gP q ev l).2).1, (jO ev (gP q ev l).1 (gP q ev l).2).2, ev.al⟩) := aA rfl
      have HFI := aA (fun d n v W h => BG ev HOK.out HEW.out.1 d n (fun k => w.heap.size ≤ k) v W h)
      have HLS : Hid (∀ k (h : k < (⟨ev.ex.toArray⟩ : ByteArray).size), rN (⟨ev.ex.toArray⟩ : ByteArray)[k]) := aA (fun k h => HEW.out.1.lets _ (by show ev.ex.toArray[k] ∈ _; simp))
      have hxs : (⟨ev.ex.toArray⟩ : ByteArray).size ≤ 1000 := by have := HEW.out.1.len; show ev.ex.toArray.size ≤ _; rw [List.size_toArray]; omega
      have HSIZ := aA (fun va vn vc W => LE ev.pg ev.op ⟨ev.iop.toArray⟩ ⟨ev.ex.toArray⟩ ev.al va vn vc W hxs)
      have HSV : Hid (((aR ev.pg).length : Int) + 1 + mU (⟨ev.ex.toArray⟩ : ByteArray).data.toList = (gX ev : Int)) := aA (by rw [show (⟨ev.ex.toArray⟩ : ByteArray).data.toList = ev.ex from rfl, CO]; unfold gX; push_cast; rfl)
      rw [HSV.out] at HSIZ
      clear HSV hat hpr HE1 HOK
      obtain ⟨xb, hxb⟩ : ∃ b : ByteArray, b = ⟨ev.ex.toArray⟩ := ⟨_, rfl⟩
      have HXL : Hid (xb.data.toList = ev.ex) := aA (by rw [hxb])
      rw [← hxb] at HSIZ HLS hxs
      rw [← HXL.out] at HK0 HNB HWD
      generalize gX ev = SZ at *
      clear HSZ
      obtain ⟨k0, hk0⟩ : ∃ k, k = (if 5 ≤ q then 2 else K + 1) := ⟨_, rfl⟩
      rw [← hk0] at HK0 HNB
      have HK9 := aA hk0
      clear hk0
      rcases hRR : rdF xb.data.toList l k0 0 0 with ⟨dd, nn⟩
      have HRR := aA hRR
      rw [HNB.out, hRR] at HIN
      dsimp only at HIN
      have HFJ := aA (fun v W h => HFI.out dd nn v W h)
      have HIA : Hid (∃ IW IA, (jO ev dd nn).1 = IW ∧ (jO ev dd nn).2 = IA) := aA ⟨_, _, rfl, rfl⟩
      obtain ⟨IW, IA, hIO, hIA⟩ := HIA.out
      rw [hIO, hIA] at HFJ HIN
      clear hIO hIA HIA HFI HNB hRR HEW
      obtain ⟨p1, o1, i1, l1, s1, f1⟩ := ev
      dsimp only at *
      unfold bQ at HFJ
      dsimp only at HFJ
      rw [← hxb] at HFJ
      have HXB := aA hxb
      clear hxb
      by_cases hB : l.length < SZ
      · have hB' : (l.length : Int) < (SZ : Int) := by omega
        have HIT : Hid (itF l = ⟨4, l.length, [], [], false⟩) := aA (by rw [HIF.out, HIN.out, if_pos hB])
        have HI1 := aA (HI.out 4 l.length (Nat.le_refl _))
        obtain ⟨R1, hR1⟩ : ∃ R, R = l.take l.length := ⟨_, rfl⟩
        rw [← hR1] at HI1
        have HR := aA hR1
        clear hR1 hB
        go_enter Tryz.func23, Tryz.ntmps23
        go_upto_region 1 with fail
        rw [← hW0]
        clear hW0
        go_upto_region 10 with (first
          | (go_at_call 72; refine (HP.out _ HF0.out.below).mono ?_; rintro e w1 ⟨rfl, hw1⟩; subst w1)
          | (go_at_call 74; refine (HAT.out _).mono ?_; rintro e w3 ⟨⟨v3, rfl, ho3⟩, hb⟩; obtain ⟨va, vc, rfl⟩ : ∃ a c, v3 = .slice a l1.length c := ho3.form; have HF3 := aA ((HF0.out.next hb).new' tE9 #[.int .i64 p1, .int .u8 o1, .string ⟨i1.toArray⟩, .slice va l1.length vc, .string xb, .bool f1] (b := w3.heap.size) rfl); have HA3 := aA ((ho3.slR.mono (q := fun k => w.heap.size ≤ k) (fun k hk => Nat.le_trans HF0.out.below.size hk)).below ((Below.refl _ _).alloc (Nat.le_refl _) (.cells #[.int .i64 p1, .int .u8 o1, .string ⟨i1.toArray⟩, .slice va l1.length vc, .string xb, .bool f1] tE9))); have HLE : Hid (w.heap.size ≠ w3.heap.size) := aA (by have := ((HF0.out.next hb).blk 0 rfl).lt; omega); clear hb ho3; unfold bQ; dsimp only))
        rw [← HXB.out]
        generalize w3.alloc (.cells #[.int .i64 p1, .int .u8 o1, .string ⟨i1.toArray⟩, .slice va l1.length vc, .string xb, .bool f1] tE9) = W3 at *
        generalize w3.heap.size = eb at *
        obtain ⟨d0, d1, d2, d3, d4, d5⟩ := (HF3.out.blk 0 rfl).cell6
        go_wp2_with (first
          | (go_at_call 75; refine (HSIZ.out _ _ _ _).mono ?_; rintro e w5 ⟨rfl, hb⟩; have HF5 := aA (HF3.out.next hb); have HA5 := aA (HA3.out.below hb); clear hb)
          | (go_at_call 73; refine (HI1.out _ HF5.out.below).mono ?_; rintro e w2 ⟨qa, qc, rfl, ho, hb⟩; have HLT5 := aA ((HF5.out.blk 1 rfl).lt); have HO := aA ho; have HF2 := aA (HF5.out.next hb); clear ho hb; obtain ⟨⟨c0, c1, c2, c3, c4⟩, f00, f01, f02, f03, f04⟩ := (HF2.out.blk 1 rfl).five))
        have F5 := aA (HF2.out.swap.set5 (Nat.le_refl _) (fun x hx => by rw [List.mem_singleton.1 hx]; exact fun e => HLE.out e.symm) (.int .i64 4) (.slice qa R1.length qc) (.string ⟨#[]⟩) (.slice none 0 0) (.bool false))
        exact bodyPost_ret (eG rfl rfl (F5.out.blk 0 rfl) rfl) rfl ⟨⟨_, rfl, by rw [HIT.out]; exact ((dW.bare HO.out HR.out (Nat.le_refl _)).off5 HLT5.out _ _ _ _ _).base (Nat.le_of_lt HLT5.out)⟩, F5.out.below⟩
      · have hB' : ¬ (l.length : Int) < (SZ : Int) := by omega
        have HB1 : Hid (SZ ≤ l.length) := aA (by omega)
        have HIT : Hid (itF l = ⟨1, SZ, IW, IA, f1⟩) := aA (by rw [HIF.out, HIN.out, if_neg hB])
        have HI1 := aA (HI.out 1 SZ HB1.out)
        obtain ⟨R1, hR1⟩ : ∃ R, R = l.take SZ := ⟨_, rfl⟩
        rw [← hR1] at HI1
        have HR := aA hR1
        have HKL : Hid (k0 + rdN xb.data.toList ≤ l.length) := aA (Nat.le_trans HK0.out HB1.out)
        have hkz : 0 < xb.data.toList.length → 0 < rdN xb.data.toList := fun h => JZ (fun e => by rw [e] at h; exact absurd h (by decide))
        have HKZ := aA hkz
        clear hkz hR1 hB hB' HIF HIN
        have hcase : (5 ≤ q ∧ (2 : Int) = k0) ∨ (¬ 5 ≤ q ∧ (K : Int) + 1 = k0) := by
          by_cases h5 : 5 ≤ q
          · exact .inl ⟨h5, by rw [HK9.out, if_pos h5]; rfl⟩
          · exact .inr ⟨h5, by rw [HK9.out, if_neg h5]; rfl⟩
        have H5 : Hid ((5 ≤ q ∧ (2 : Int) = k0) ∨ (¬ 5 ≤ q ∧ (K : Int) + 1 = k0)) := aA hcase
        clear hcase
        have hcase : (((5 : Int) ≤ (q : Int)) ∧ Hid ((2 : Int) = k0)) ∨ ((¬ (5 : Int) ≤ (q : Int)) ∧ Hid ((K : Int) + 1 = k0)) := by
          rcases H5.out with ⟨h, e⟩ | ⟨h, e⟩
          · exact .inl ⟨by omega, aA e⟩
          · exact .inr ⟨by omega, aA e⟩
        clear H5
        rcases hcase with ⟨h5', HK8⟩ | ⟨h5', HK8⟩
        all_goals
          go_enter Tryz.func23, Tryz.ntmps23
          go_upto_region 1 with fail
          rw [← hW0]
          clear hW0
          go_upto_region 10 with (first
            | (go_at_call 72; refine (HP.out _ HF0.out.below).mono ?_; rintro e w1 ⟨rfl, hw1⟩; subst w1)
            | (go_at_call 74; refine (HAT.out _).mono ?_; rintro e w3 ⟨⟨v3, rfl, ho3⟩, hb⟩; obtain ⟨va, vc, rfl⟩ : ∃ a c, v3 = .slice a l1.length c := ho3.form; have HF3 := aA ((HF0.out.next hb).new' tE9 #[.int .i64 p1, .int .u8 o1, .string ⟨i1.toArray⟩, .slice va l1.length vc, .string xb, .bool f1] (b := w3.heap.size) rfl); have HA3 := aA ((ho3.slR.mono (q := fun k => w.heap.size ≤ k) (fun k hk => Nat.le_trans HF0.out.below.size hk)).below ((Below.refl _ _).alloc (Nat.le_refl _) (.cells #[.int .i64 p1, .int .u8 o1, .string ⟨i1.toArray⟩, .slice va l1.length vc, .string xb, .bool f1] tE9))); have HLE : Hid (w.heap.size ≠ w3.heap.size) := aA (by have := ((HF0.out.next hb).blk 0 rfl).lt; omega); clear hb ho3; unfold bQ; dsimp only))
          rw [← HXB.out]
          generalize w3.alloc (.cells #[.int .i64 p1, .int .u8 o1, .string ⟨i1.toArray⟩, .slice va l1.length vc, .string xb, .bool f1] tE9) = W3 at *
          generalize w3.heap.size = eb at *
          obtain ⟨d0, d1, d2, d3, d4, d5⟩ := (HF3.out.blk 0 rfl).cell6
          have hb8 : ¬ (l.length : Int) < (SZ : Int) := by have := HB1.out; omega
          go_wp2_with (go_at_call 75; refine (HSIZ.out _ _ _ _).mono ?_; rintro e w5 ⟨rfl, hb⟩; have HF5 := aA (HF3.out.next hb); have HA5 := aA (HA3.out.below hb); clear hb)
          try rw [show decide (l.length < SZ) = false from decide_eq_false (by have := HB1.out; omega)]
          try rw [show decide ((l.length : Int) < (SZ : Int)) = false from decide_eq_false (by have := HB1.out; omega)]
          try rw [show decide ((SZ : Int) > (l.length : Int)) = false from decide_eq_false (by have := HB1.out; omega)]
          clear d0 d1 d2 d3 d4 d5 HF3 HA3 hb8
          go_loopw [8, 9, 10, 11] (fun s8 s9 s10 i wr => ∃ (j nx : Nat) (d' n' : Int), j ≤ xb.size ∧ i = .int .i64 j ∧ s10 = .int .i64 nx ∧ s8 = .int .i64 d' ∧ s9 = .int .i64 n' ∧ Fr w [(eb, tE9, #[.int .i64 p1, .int .u8 o1, .string ⟨i1.toArray⟩, .slice va l1.length vc, .string xb, .bool f1]), (w.heap.size, 34, cD)] wr ∧ SlR aM wr (fun k => w.heap.size ≤ k) (.slice va l1.length vc) l1 ∧ (j < xb.size → nx + rdN (xb.data.toList.drop j) ≤ l.length) ∧ rdF (xb.data.toList.drop j) l nx d' n' = (dd, nn)) (fun _ _ _ i _ => xb.size - (intOf i).toNat)
          case atStart => exact ⟨0, k0, 0, 0, Nat.zero_le _, rfl, by rw [HK8.out], rfl, rfl, HF5.out, HA5.out, fun _ => HKL.out, HRR.out⟩
          obtain ⟨j, nx, d', n', hj, rfl, rfl, rfl, rfl, hfr, har, hn0, hr0⟩ := hrel
          have HFR := aA hfr
          have HAR := aA har
          have HR0 := aA hr0
          have d4 : wr.cell? ⟨eb, 4, none⟩ = some (.string xb) := (HFR.out.blk 0 rfl).cell 4
          clear hfr har hr0 HF5 HA5
          by_cases hlt : j < xb.size
          · have HJ : Hid (j < xb.size ∧ True) := aA ⟨hlt, trivial⟩
            have HN0 := aA (hn0 hlt)
            have HD : Hid (xb.data.toList.drop j = xb[j] :: xb.data.toList.drop (j + 1)) := aA (by rw [List.drop_eq_getElem_cons (by simpa using hlt)]; rfl)
            have hx1 : nx < l.length := by
              have h1 := HN0.out
              have h2 := JZ (ex := xb.data.toList.drop j) (by rw [HD.out]; simp)
              omega
            have hcx : wr.cell? ⟨b0, o0 + nx, none⟩ = some (.int .u8 (bAt l nx)) := HC.out _ HFR.out.below _ hx1
            have hx1' : (nx : Int) < (l.length : Int) := by omega
            have hnx9 : nx < 1000000 := by have := HL.out; omega
            have hlet := HLS.out j hlt
            clear hn0
            rcases hlet with hlet | hlet | hlet | hlet
            all_goals have HLE8 := aA hlet
            · have HRN : Hid (rdF (xb.data.toList.drop (j + 1)) l (nx + 1) (sg (bAt l nx)) n' = (dd, nn)) := aA (HR0.out.symm.trans (by rw [HD.out, HLE8.out]; rfl)).symm
              have HFN : Hid (j + 1 < xb.size → nx + 1 + rdN (xb.data.toList.drop (j + 1)) ≤ l.length) := aA (fun _ => by have := HN0.out; rw [HD.out, HLE8.out] at this; rw [rdN, if_neg (by decide)] at this; omega)
              have q100 : ((xb[j].toNat : Int) == 100) = true := by rw [hlet]; decide
              clear hlet
              clear HR0 HN0 HD
              go_wp2_with (go_at_call 76; refine (pA _ (bT _ _) _).mono ?_; rintro e w6 ⟨rfl, hw6⟩; subst w6)
              go_roundw
              case rel => exact ⟨j + 1, nx + 1, _, _, HJ.out.1, rfl, rfl, rfl, rfl, HFR.out, HAR.out, HFN.out, HRN.out⟩
              case measure => simp [intOf]; have := HJ.out.1; omega
            · have HRN : Hid (rdF (xb.data.toList.drop (j + 1)) l (nx + 1) d' (sg (bAt l nx)) = (dd, nn)) := aA (HR0.out.symm.trans (by rw [HD.out, HLE8.out]; rfl)).symm
              have HFN : Hid (j + 1 < xb.size → nx + 1 + rdN (xb.data.toList.drop (j + 1)) ≤ l.length) := aA (fun _ => by have := HN0.out; rw [HD.out, HLE8.out] at this; rw [rdN, if_neg (by decide)] at this; omega)
              have q100 : ((xb[j].toNat : Int) == 100) = false := by rw [hlet]; decide
              have q101 : ((xb[j].toNat : Int) == 101) = true := by rw [hlet]; decide
              clear hlet
              clear HR0 HN0 HD
              go_wp2_with (go_at_call 76; refine (pA _ (bT _ _) _).mono ?_; rintro e w6 ⟨rfl, hw6⟩; subst w6)
              go_roundw
              case rel => exact ⟨j + 1, nx + 1, _, _, HJ.out.1, rfl, rfl, rfl, rfl, HFR.out, HAR.out, HFN.out, HRN.out⟩
              case measure => simp [intOf]; have := HJ.out.1; omega
            · have HRN : Hid (rdF (xb.data.toList.drop (j + 1)) l (nx + 1) d' (bAt l nx) = (dd, nn)) := aA (HR0.out.symm.trans (by rw [HD.out, HLE8.out]; rfl)).symm
              have HFN : Hid (j + 1 < xb.size → nx + 1 + rdN (xb.data.toList.drop (j + 1)) ≤ l.length) := aA (fun _ => by have := HN0.out; rw [HD.out, HLE8.out] at this; rw [rdN, if_neg (by decide)] at this; omega)
              have q100 : ((xb[j].toNat : Int) == 100) = false := by rw [hlet]; decide
              have q101 : ((xb[j].toNat : Int) == 101) = false := by rw [hlet]; decide
              have q110 : ((xb[j].toNat : Int) == 110) = true := by rw [hlet]; decide
              clear hlet
              have w110 : IntKind.i64.wrap (bAt l nx : Int) = bAt l nx := by have := bT l nx; rw [IntKind.wrap_i64]; omega
              clear HR0 HN0 HD
              go_wp2
              go_roundw
              case rel => exact ⟨j + 1, nx + 1, _, _, HJ.out.1, rfl, rfl, rfl, rfl, HFR.out, HAR.out, HFN.out, HRN.out⟩
              case measure => simp [intOf]; have := HJ.out.1; omega
            · have hone : xb.data.toList = [119] := by
                rcases HWD.out with h | h
                · exact h
                · exact absurd (by have hh : xb[j] ∈ xb.data.toList := (by have : xb[j] = xb.data.toList[j]'(by simpa using HJ.out.1) := rfl; rw [this]; exact List.getElem_mem _); rw [hlet] at hh; exact hh) h
              have hsz1 : xb.size = 1 := by have := congrArg List.length hone; simpa using this
              have HJ0 : Hid (j = 0 ∧ ¬ j + 1 < xb.size) := aA (by have := HJ.out.1; omega)
              have HRN : Hid (rdF (xb.data.toList.drop (j + 1)) l (nx + 1) d' ((bAt l nx : Int) + 256 * bAt l (nx + 1)) = (dd, nn)) := aA (HR0.out.symm.trans (by rw [HD.out, HLE8.out]; rw [show xb.data.toList.drop (j + 1) = [] from List.drop_of_length_le (by have := HJ0.out; simp; omega)]; rfl)).symm
              have hx2 : nx + 1 < l.length := by have := HN0.out; rw [HD.out, HLE8.out, rdN, if_pos rfl] at this; omega
              have hcy : wr.cell? ⟨b0, o0 + (nx + 1), none⟩ = some (.int .u8 (bAt l (nx + 1))) := HC.out _ HFR.out.below _ hx2
              have hcy' : wr.cell? ⟨b0, o0 + nx + 1, none⟩ = some (.int .u8 (bAt l (nx + 1))) := hcy
              have hx2' : (nx : Int) + 1 < (l.length : Int) := by omega
              have q100 : ((xb[j].toNat : Int) == 100) = false := by rw [hlet]; decide
              have q101 : ((xb[j].toNat : Int) == 101) = false := by rw [hlet]; decide
              have q110 : ((xb[j].toNat : Int) == 110) = false := by rw [hlet]; decide
              have q119 : ((xb[j].toNat : Int) == 119) = true := by rw [hlet]; decide
              have w119 : IntKind.i64.wrap (bAt l nx : Int) = bAt l nx := by have := bT l nx; rw [IntKind.wrap_i64]; omega
              have v119 : IntKind.i64.wrap (bAt l (nx + 1) : Int) = bAt l (nx + 1) := by have := bT l (nx + 1); rw [IntKind.wrap_i64]; omega
              have u119 : IntKind.i64.wrap (256 * (bAt l (nx + 1) : Int)) = 256 * bAt l (nx + 1) := by have := bT l (nx + 1); rw [IntKind.wrap_i64]; omega
              have t119 : IntKind.i64.wrap ((bAt l nx : Int) + 256 * bAt l (nx + 1)) = (bAt l nx : Int) + 256 * bAt l (nx + 1) := by have := bT l nx; have := bT l (nx + 1); rw [IntKind.wrap_i64]; omega
              have s119 : IntKind.i64.wrap ((nx : Int) + 1) = (nx : Int) + 1 := by rw [IntKind.wrap_i64]; omega
              clear HR0 HN0 HD hlet hone hsz1
              go_wp2
              go_quiet (fail)
              go_wp2
              go_roundw
              case rel => exact ⟨j + 1, nx + 1, _, _, HJ.out.1, rfl, rfl, rfl, rfl, HFR.out.drewN _, HAR.out.drewN _, fun h => absurd h HJ0.out.2, HRN.out⟩
              case measure => simp [intOf]; have := HJ.out.1; omega
          · obtain rfl : j = xb.size := by omega
            have HDR : Hid ((d', n') = (dd, nn)) := aA (HR0.out.symm.trans (by rw [List.drop_of_length_le (by simp)]; rfl)).symm
            obtain ⟨rfl, rfl⟩ : d' = dd ∧ n' = nn := by have := HDR.out; injection this with e1 e2; exact ⟨e1, e2⟩
            clear hn0 hlt HDR
            go_upto_region 32 with (go_at_call 73; refine (HI1.out _ HFR.out.below).mono ?_; rintro e w7 ⟨qa, qc, rfl, ho, hb⟩; have HLT7 := aA ((HFR.out.blk 1 rfl).lt); have HO := aA ho; have HF7 := aA (HFR.out.next hb); have HA7 := aA (HAR.out.below hb); clear ho hb)
            have HF8 := aA (HF7.out.new' 34 #[.int .i64 1, .slice qa R1.length qc, .string ⟨#[]⟩, .slice none 0 0, .bool false] (b := w7.heap.size) rfl)
            have HA8 := aA (HA7.out.alloc (.cells #[.int .i64 1, .slice qa R1.length qc, .string ⟨#[]⟩, .slice none 0 0, .bool false] 34))
            have HZ8 : Hid ((w7.alloc (.cells #[.int .i64 1, .slice qa R1.length qc, .string ⟨#[]⟩, .slice none 0 0, .bool false] 34)).heap.size = w7.heap.size + 1) := aA (World.size_alloc _ _)
            have HZT : Hid (w.heap.size < w7.heap.size ∧ eb < w7.heap.size) := aA ⟨(HF7.out.blk 1 rfl).lt, (HF7.out.blk 0 rfl).lt⟩
            have HR8 := aA (((Own.slR (q := fun k => w.heap.size + 1 ≤ k) HO.out (fun _ h => h.elim) (fun k hk => Nat.lt_of_lt_of_le HLT7.out hk)).old.mono (q := fun k => w.heap.size + 1 ≤ k ∧ k ≠ w7.heap.size) (fun k hk => ⟨hk.1, Nat.ne_of_lt hk.2⟩)).below ((Below.refl _ _).alloc (Nat.le_refl _) (.cells #[.int .i64 1, .slice qa R1.length qc, .string ⟨#[]⟩, .slice none 0 0, .bool false] 34)))
            generalize w7.alloc (.cells #[.int .i64 1, .slice qa R1.length qc, .string ⟨#[]⟩, .slice none 0 0, .bool false] 34) = W8 at *
            generalize w7.heap.size = tb at *
            obtain ⟨PB, hPB⟩ : ∃ P : aB, P = fun k => w.heap.size + 1 ≤ k ∧ k ≠ tb := ⟨_, rfl⟩
            rw [← hPB] at HR8
            have HPT : Hid (∀ k, PB k → k ≠ tb) := aA (fun k hk => by rw [hPB] at hk; exact hk.2)
            have HPO : Hid (∀ k, PB k → k ≠ w.heap.size) := aA (fun k hk => by rw [hPB] at hk; have := hk.1; omega)
            have HPW : Hid (∀ k, PB k → w.heap.size ≤ k) := aA (fun k hk => by rw [hPB] at hk; have := hk.1; omega)
            have HPI : Hid (∀ k, W8.heap.size ≤ k → PB k) := aA (fun k hk => by rw [hPB]; exact ⟨by have := HZT.out; have := HZ8.out; omega, by have := HZ8.out; omega⟩)
            clear hPB
            have HTN : Hid (∀ (r : Array Value), ∀ x ∈ [(eb, tE9, #[.int .i64 p1, .int .u8 o1, .string ⟨i1.toArray⟩, .slice va l1.length vc, .string xb, .bool f1]), (w.heap.size, 34, cD)], x.1 ≠ tb) := aA (fun _ x hx => by rcases List.mem_cons.1 hx with e | hx; rw [e]; have := HZT.out; show eb ≠ tb; omega; rw [List.mem_singleton.1 hx]; have := HZT.out; show w.heap.size ≠ tb; omega)
            have HTB : Hid (w.heap.size ≤ tb) := aA (by have := HZT.out; omega)
            obtain ⟨⟨c0, c1, c2, c3, c4⟩, g0, g1, g2, g3, g4⟩ := (HF8.out.blk 0 rfl).five
            obtain ⟨d0, d1, d2, d3, d4, d5⟩ := (HF8.out.blk 1 rfl).cell6
            go_upto_region 33 with (go_at_call 77; refine (HFJ.out _ _ HA8.out).mono ?_; rintro e w9 ⟨ja, jc, jb, rfl, hj, hb9⟩; have HF9 := aA (HF8.out.next hb9); have HJ9 := aA (hj.mono (q := PB) HPI.out); have HR9 := aA (HR8.out.below hb9); clear hj hb9 d0 d1 d2 d3 d4 d5 c0 c1 c2 c3 c4 g0 g1 g2 g3 g4; obtain ⟨⟨c0, c1, c2, c3, c4⟩, g0, g1, g2, g3, g4⟩ := (HF9.out.blk 0 rfl).five; obtain ⟨d0, d1, d2, d3, d4, d5⟩ := (HF9.out.blk 1 rfl).cell6)
            have HFA := aA (show Fr w [(tb, 34, #[.int .i64 1, .slice qa R1.length qc, .string ⟨IW.toArray⟩, .slice ja IA.length jc, .bool false]), (eb, tE9, #[.int .i64 p1, .int .u8 o1, .string ⟨i1.toArray⟩, .slice va l1.length vc, .string xb, .bool f1]), (w.heap.size, 34, cD)] ((w9.setCell ⟨tb, 2, none⟩ (.string ⟨IW.toArray⟩)).setCell ⟨tb, 3, none⟩ (.slice ja IA.length jc)) from (HF9.out.set HTB.out (HTN.out #[]) 2 _).set HTB.out (HTN.out #[]) 3 _)
            have HJA := aA (show SlR aM ((w9.setCell ⟨tb, 2, none⟩ (.string ⟨IW.toArray⟩)).setCell ⟨tb, 3, none⟩ (.slice ja IA.length jc)) PB (.slice ja IA.length jc) IA from (HJ9.out.keep (aS.setCell HPT.out _)).keep (aS.setCell HPT.out _))
            have HRA := aA (show SlR aI ((w9.setCell ⟨tb, 2, none⟩ (.string ⟨IW.toArray⟩)).setCell ⟨tb, 3, none⟩ (.slice ja IA.length jc)) PB (.slice qa R1.length qc) R1 from (HR9.out.keep (aS.setCell HPT.out _)).keep (aS.setCell HPT.out _))
            generalize ((w9.setCell ⟨tb, 2, none⟩ (.string ⟨IW.toArray⟩)).setCell ⟨tb, 3, none⟩ (.slice ja IA.length jc)) = WA at *
            clear HF9 HJ9 HR9 c0 c1 c2 c3 c4 g0 g1 g2 g3 g4 d0 d1 d2 d3 d4 d5
            obtain ⟨⟨c0, c1, c2, c3, c4⟩, g0, g1, g2, g3, g4⟩ := (HFA.out.blk 0 rfl).five
            obtain ⟨d0, d1, d2, d3, d4, d5⟩ := (HFA.out.blk 1 rfl).cell6
            go_upto_region 34 with fail
            have HFB := aA (show Fr w [(tb, 34, #[.int .i64 1, .slice qa R1.length qc, .string ⟨IW.toArray⟩, .slice ja IA.length jc, .bool f1]), (eb, tE9, #[.int .i64 p1, .int .u8 o1, .string ⟨i1.toArray⟩, .slice va l1.length vc, .string xb, .bool f1]), (w.heap.size, 34, cD)] (WA.setCell ⟨tb, 4, none⟩ (.bool f1)) from HFA.out.set HTB.out (HTN.out #[]) 4 _)
            have HJB := aA (HJA.out.keep (aS.setCell (a := ⟨tb, 4, none⟩) HPT.out (.bool f1)))
            have HRB := aA (HRA.out.keep (aS.setCell (a := ⟨tb, 4, none⟩) HPT.out (.bool f1)))
            generalize WA.setCell ⟨tb, 4, none⟩ (.bool f1) = WB at *
            clear HFA HJA HRA c0 c1 c2 c3 c4 g0 g1 g2 g3 g4 d0 d1 d2 d3 d4 d5
            obtain ⟨⟨c0, c1, c2, c3, c4⟩, _⟩ := (HFB.out.blk 0 rfl).five
            obtain ⟨⟨m0, m1, m2, m3, m4⟩, g0, g1, g2, g3, g4⟩ := (HFB.out.blk 2 rfl).five
            go_wp2
            have F5 := aA ((HFB.out.rot.rot).set5 (Nat.le_refl _) (fun x hx => by rcases List.mem_cons.1 hx with e | hx; rw [e]; have := HZT.out; show tb ≠ w.heap.size; omega; rw [List.mem_singleton.1 hx]; exact fun e => HLE.out e.symm) (.int .i64 1) (.slice qa R1.length qc) (.string ⟨IW.toArray⟩) (.slice ja IA.length jc) (.bool f1))
            refine bodyPost_ret (eG rfl rfl (F5.out.blk 0 rfl) rfl) rfl ⟨⟨_, rfl, ?_⟩, F5.out.below⟩
            rw [HIT.out]
            refine ⟨qa, qc, ja, jc, by rw [← HR.out]; rfl, ?_, ?_⟩
            · rw [← HR.out]
              exact (((((HRB.out.keep (aS.setCell HPO.out _)).keep (aS.setCell HPO.out _)).keep (aS.setCell HPO.out _)).keep (aS.setCell HPO.out _)).keep (aS.setCell HPO.out _)).mono HPW.out
            · exact (((((HJB.out.keep (aS.setCell HPO.out _)).keep (aS.setCell HPO.out _)).keep (aS.setCell HPO.out _)).keep (aS.setCell HPO.out _)).keep (aS.setCell HPO.out _)).mono HPW.out
end Go.Proofs.YtmpmciccgempeaaGreatDoor
