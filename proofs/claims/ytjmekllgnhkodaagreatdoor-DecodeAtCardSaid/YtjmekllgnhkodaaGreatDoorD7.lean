/-
  breadboardref12.First. Conditions: sizes.
-/
import Derived.Test.YtjmekllgnhkodaaGreatDoorD5
namespace Go.Proofs.YtjmekllgnhkodaaGreatDoor
open Go.RowKit Go.Shelf Go.Sort

abbrev tE9 : TypeId := 53
set_option maxHeartbeats 16000000 in
set_option maxRecDepth 100000 in
theorem First12_any (p : Blocks) (a : Option Addr) (c : Nat) (l : List UInt8) (w : World) (hs : SlR byteR w p (.slice a l.length c) l) (h0 : 0 < l.length) (hl : l.length ≤ 1000000) :
    Calls Tryz.prog 20 #[.slice a l.length c] w (FirstP w (itF l) l) := by
  have HP := Lib.hid (fun W (hb : RowKit.Below w.heap.size w W) => page_any p a c l W (hs.below hb) h0 hl)
  obtain ⟨b0, o0, rfl, _, _, hcl⟩ := byteAt hs h0
  have HC := Lib.hid (fun W (hb : RowKit.Below w.heap.size w W) k (hk : k < l.length) => (by obtain ⟨b1, o1, e, _, _, h⟩ := byteAt (hs.below hb) h0; injection e with e; injection e with e1 e2; subst e1 e2; exact h k hk : W.cell? ⟨b0, o0 + k, none⟩ = some (.int .u8 (bAt l k))))
  have HI := Lib.hid (fun (k : Int) n (hn : n ≤ l.length) W (hb : RowKit.Below w.heap.size w W) => item12_any k p ⟨b0, o0, none⟩ c l n W (hs.below hb) hn hl)
  have HL := Lib.hid hl
  have H0 := Lib.hid h0
  obtain ⟨h7, hpre⟩ := pgB_pre (l := l)
  have HF0 := Lib.hid ((Fr.start w).new 29 itm0)
  have HLT : Hid (w.heap.size < (w.alloc (.cells itm0 29)).heap.size) := Lib.hid (by rw [World.size_alloc]; omega)
  have HQ : Hid (∃ q, pgB l = q) := Lib.hid ⟨_, rfl⟩
  clear hcl hs
  obtain ⟨W0, hW0⟩ : ∃ W : World, W = w.alloc (.cells itm0 29) := ⟨_, rfl⟩
  rw [← hW0] at HF0 HLT
  obtain ⟨q, hq⟩ := HQ.out
  rw [hq] at HP h7 hpre
  clear HQ
  have HQ := Lib.hid hq
  obtain ⟨K, hK⟩ : ∃ K, pos q = K := ⟨_, rfl⟩
  rw [hK] at HP hpre
  have HK := Lib.hid hK
  clear hq hK
  by_cases hA : l.length ≤ K
  · have HIT : Hid (itF l = ⟨4, l.length, [], [], false⟩) := Lib.hid (by unfold itF itS; rw [HQ.out, if_pos (by rw [HK.out]; exact hA)])
    have hA' : (l.length : Int) ≤ (K : Int) := by omega
    have HI1 := Lib.hid (HI.out 4 l.length (Nat.le_refl _))
    obtain ⟨R1, hR1⟩ : ∃ R, R = l.take l.length := ⟨_, rfl⟩
    rw [← hR1] at HI1
    have HR := Lib.hid hR1
    clear hR1 hpre hA
    go_enter Tryz.func20, Tryz.ntmps20
    go_upto_region 1 with fail
    rw [← hW0]
    clear hW0
    go_wp2_with (first
      | (go_at_call 50; refine (HP.out _ HF0.out.below).mono ?_; rintro e w1 ⟨rfl, hw1⟩; subst w1)
      | (go_at_call 52; refine (HI1.out _ HF0.out.below).mono ?_; rintro e w2 ⟨qa, qc, rfl, ho, hb⟩; have HO := Lib.hid ho; have HF2 := Lib.hid (HF0.out.next hb); clear ho hb; obtain ⟨⟨c0, c1, c2, c3, c4⟩, f0, f1', f2, f3, f4⟩ := (HF2.out.blk 0 rfl).five))
    have F5 := Lib.hid (HF2.out.set5 (Nat.le_refl _) (fun x hx => by cases hx) (.int .i64 4) (.slice qa R1.length qc) (.string ⟨#[]⟩) (.slice none 0 0) (.bool false))
    exact bodyPost_ret (item_end rfl rfl (F5.out.blk 0 rfl) rfl) rfl ⟨⟨_, rfl, by rw [HIT.out]; exact ((ItmR.bare HO.out HR.out (Nat.le_refl _)).off5 HLT.out _ _ _ _ _).base (Nat.le_of_lt HLT.out)⟩, F5.out.below⟩
  · have HMP : Hid (K < l.length) := Lib.hid (by omega)
    have hpr : isPre q (bAt l K) = false := hpre (by omega)
    have hA' : ¬ (l.length : Int) ≤ (K : Int) := by omega
    have hk := HC.out
    have HAT := Lib.hid (fun W => AtRef_any q (bAt l K) (bAt_lt l K) W)
    have hck : W0.cell? ⟨b0, o0 + K, none⟩ = some (.int .u8 (bAt l K)) := HC.out _ HF0.out.below _ HMP.out
    have HNP : Hid (¬ l.length ≤ pos q) := Lib.hid (by rw [HK.out]; exact hA)
    clear hk hpre hA
    cases hat : atF q (bAt l K) with
    | mk oe kk =>
    rw [hat] at HAT
    cases oe with
    | none =>
      rcases at_none h7 (bAt_lt l K) hpr hat with ⟨rfl, _⟩ | ⟨rfl, hq2⟩
      · have HIT := Lib.hid (itF_no0 HQ.out HNP.out (by rw [HK.out]; exact hat))
        have HI1 := Lib.hid (HI.out 2 1 H0.out)
        obtain ⟨R1, hR1⟩ : ∃ R, R = l.take 1 := ⟨_, rfl⟩
        rw [← hR1] at HI1
        have HR := Lib.hid hR1
        clear hR1 hat hpr
        go_enter Tryz.func20, Tryz.ntmps20
        go_upto_region 1 with fail
        rw [← hW0]
        clear hW0
        go_wp2_with (first
          | (go_at_call 50; refine (HP.out _ HF0.out.below).mono ?_; rintro e w1 ⟨rfl, hw1⟩; subst w1)
          | (go_at_call 34; refine (HAT.out _).mono ?_; rintro e w3 ⟨rfl, hb⟩; have HF3 := Lib.hid ((HF0.out.next hb).alloc (.cells #[.int .i64 0, .int .u8 0, .string ⟨#[]⟩, .slice none 0 0, .string ⟨#[]⟩, .bool false] tE9)); have HLT3 := Lib.hid (show w.heap.size < (w3.alloc (.cells #[.int .i64 0, .int .u8 0, .string ⟨#[]⟩, .slice none 0 0, .string ⟨#[]⟩, .bool false] tE9)).heap.size from (HF3.out.blk 0 rfl).lt); clear hb HLT; have HLT := HLT3; clear HLT3; unfold ent0)
          | (go_at_call 52; refine (HI1.out _ HF3.out.below).mono ?_; rintro e w2 ⟨qa, qc, rfl, ho, hb⟩; have HO := Lib.hid ho; have HF2 := Lib.hid (HF3.out.next hb); clear ho hb; obtain ⟨⟨c0, c1, c2, c3, c4⟩, f0, f1', f2, f3, f4⟩ := (HF2.out.blk 0 rfl).five))
        have F5 := Lib.hid (HF2.out.set5 (Nat.le_refl _) (fun x hx => by cases hx) (.int .i64 2) (.slice qa R1.length qc) (.string ⟨#[]⟩) (.slice none 0 0) (.bool false))
        exact bodyPost_ret (item_end rfl rfl (F5.out.blk 0 rfl) rfl) rfl ⟨⟨_, rfl, by rw [HIT.out]; exact ((ItmR.bare HO.out HR.out (Nat.le_refl _)).off5 HLT.out _ _ _ _ _).base (Nat.le_of_lt HLT.out)⟩, F5.out.below⟩
      · have HM1 : Hid (K = 1) := Lib.hid (by rw [← HK.out, hq2]; rfl)
        clear hq2
        have HIT := Lib.hid (itF_no3 HM1.out HQ.out HNP.out (by rw [HK.out]; exact hat))
        have HI1 := Lib.hid (HI.out 3 2 (by have := HMP.out; have := HM1.out; omega))
        obtain ⟨R1, hR1⟩ : ∃ R, R = l.take (K + 1) := ⟨_, rfl⟩
        rw [show (2 : Nat) = K + 1 by rw [HM1.out], ← hR1] at HI1
        have HR := Lib.hid hR1
        have hk2 : ((K + 1 : Nat) : Int) = 2 := by have := HM1.out; omega
        rw [hk2] at HI1
        clear hR1 hat hpr hk2
        go_enter Tryz.func20, Tryz.ntmps20
        go_upto_region 1 with fail
        rw [← hW0]
        clear hW0
        go_wp2_with (first
          | (go_at_call 50; refine (HP.out _ HF0.out.below).mono ?_; rintro e w1 ⟨rfl, hw1⟩; subst w1)
          | (go_at_call 34; refine (HAT.out _).mono ?_; rintro e w3 ⟨rfl, hb⟩; have HF3 := Lib.hid ((HF0.out.next hb).alloc (.cells #[.int .i64 0, .int .u8 0, .string ⟨#[]⟩, .slice none 0 0, .string ⟨#[]⟩, .bool false] tE9)); have HLT3 := Lib.hid (show w.heap.size < (w3.alloc (.cells #[.int .i64 0, .int .u8 0, .string ⟨#[]⟩, .slice none 0 0, .string ⟨#[]⟩, .bool false] tE9)).heap.size from (HF3.out.blk 0 rfl).lt); clear hb HLT; have HLT := HLT3; clear HLT3; unfold ent0)
          | (go_at_call 52; refine (HI1.out _ HF3.out.below).mono ?_; rintro e w2 ⟨qa, qc, rfl, ho, hb⟩; have HO := Lib.hid ho; have HF2 := Lib.hid (HF3.out.next hb); clear ho hb; obtain ⟨⟨c0, c1, c2, c3, c4⟩, f0, f1', f2, f3, f4⟩ := (HF2.out.blk 0 rfl).five))
        have F5 := Lib.hid (HF2.out.set5 (Nat.le_refl _) (fun x hx => by cases hx) (.int .i64 3) (.slice qa R1.length qc) (.string ⟨#[]⟩) (.slice none 0 0) (.bool false))
        exact bodyPost_ret (item_end rfl rfl (F5.out.blk 0 rfl) rfl) rfl ⟨⟨_, rfl, by rw [HIT.out]; exact ((ItmR.bare HO.out HR.out (Nat.le_refl _)).off5 HLT.out _ _ _ _ _).base (Nat.le_of_lt HLT.out)⟩, F5.out.below⟩
    | some ev =>
      have HE1 := Lib.hid (at_some h7 (bAt_lt l K) hat)
      obtain rfl := HE1.out.1
      have HEW := Lib.hid (entW_at h7 (bAt_lt l K) (by rw [hat]))
      have HOK := Lib.hid (ent_at (bAt_lt l K) (by rw [hat]))
      have HWD := Lib.hid (at_word h7 (bAt_lt l K) (by rw [hat]))
      have HIF := Lib.hid (itF_e HQ.out HNP.out (by rw [HK.out]; exact hat))
      have HSZ : Hid (sizF ev = (prefF q).length + 1 + rdN ev.ex) := Lib.hid (by unfold sizF; rw [HEW.out.2.1])
      have HK0 : Hid ((if 5 ≤ q then 2 else K + 1) + rdN ev.ex ≤ sizF ev) := Lib.hid (by
        rw [HSZ.out]
        by_cases h5 : 5 ≤ q
        · rw [if_pos h5]
          have : q = 5 ∨ q = 6 := by omega
          rcases this with e | e <;> rw [e] <;> show 2 + rdN ev.ex ≤ 2 + 1 + rdN ev.ex <;> omega
        · rw [if_neg h5, ← HK.out]; unfold pos; rw [if_neg h5]; omega)
      have HNB : Hid (numB q ev l = rdF ev.ex l (if 5 ≤ q then 2 else K + 1) 0 0) := Lib.hid (by unfold numB; rw [HK.out])
      have HIN : Hid (itE q ev l = if l.length < sizF ev then ⟨4, l.length, [], [], false⟩ else ⟨1, sizF ev, (insF ev (numB q ev l).1 (numB q ev l).2).1, (insF ev (numB q ev l).1 (numB q ev l).2).2, ev.al⟩) := Lib.hid rfl
      have HFI := Lib.hid (fun d n v W h => Fill10I_any ev HOK.out HEW.out.1 d n (fun k => w.heap.size ≤ k) v W h)
      have HLS : Hid (∀ k (h : k < (⟨ev.ex.toArray⟩ : ByteArray).size), okLet (⟨ev.ex.toArray⟩ : ByteArray)[k]) := Lib.hid (fun k h => HEW.out.1.lets _ (by show ev.ex.toArray[k] ∈ _; simp))
      have hxs : (⟨ev.ex.toArray⟩ : ByteArray).size ≤ 1000 := by have := HEW.out.1.len; show ev.ex.toArray.size ≤ _; rw [List.size_toArray]; omega
      have HSIZ := Lib.hid (fun va vn vc W => Size9_any ev.pg ev.op ⟨ev.iop.toArray⟩ ⟨ev.ex.toArray⟩ ev.al va vn vc W hxs)
      have HSV : Hid (((prefF ev.pg).length : Int) + 1 + lenX (⟨ev.ex.toArray⟩ : ByteArray).data.toList = (sizF ev : Int)) := Lib.hid (by rw [show (⟨ev.ex.toArray⟩ : ByteArray).data.toList = ev.ex from rfl, rdN_lenX]; unfold sizF; push_cast; rfl)
      rw [HSV.out] at HSIZ
      clear HSV hat hpr HE1 HOK
      obtain ⟨xb, hxb⟩ : ∃ b : ByteArray, b = ⟨ev.ex.toArray⟩ := ⟨_, rfl⟩
      have HXL : Hid (xb.data.toList = ev.ex) := Lib.hid (by rw [hxb])
      rw [← hxb] at HSIZ HLS hxs
      rw [← HXL.out] at HK0 HNB HWD
      generalize sizF ev = SZ at *
      clear HSZ
      obtain ⟨k0, hk0⟩ : ∃ k, k = (if 5 ≤ q then 2 else K + 1) := ⟨_, rfl⟩
      rw [← hk0] at HK0 HNB
      have HK9 := Lib.hid hk0
      clear hk0
      rcases hRR : rdF xb.data.toList l k0 0 0 with ⟨dd, nn⟩
      have HRR := Lib.hid hRR
      rw [HNB.out, hRR] at HIN
      dsimp only at HIN
      have HFJ := Lib.hid (fun v W h => HFI.out dd nn v W h)
      have HIA : Hid (∃ IW IA, (insF ev dd nn).1 = IW ∧ (insF ev dd nn).2 = IA) := Lib.hid ⟨_, _, rfl, rfl⟩
      obtain ⟨IW, IA, hIO, hIA⟩ := HIA.out
      rw [hIO, hIA] at HFJ HIN
      clear hIO hIA HIA HFI HNB hRR HEW
      obtain ⟨p1, o1, i1, l1, s1, f1⟩ := ev
      dsimp only at *
      unfold entVal at HFJ
      dsimp only at HFJ
      rw [← hxb] at HFJ
      have HXB := Lib.hid hxb
      clear hxb
      by_cases hB : l.length < SZ
      · have hB' : (l.length : Int) < (SZ : Int) := by omega
        have HIT : Hid (itF l = ⟨4, l.length, [], [], false⟩) := Lib.hid (by rw [HIF.out, HIN.out, if_pos hB])
        have HI1 := Lib.hid (HI.out 4 l.length (Nat.le_refl _))
        obtain ⟨R1, hR1⟩ : ∃ R, R = l.take l.length := ⟨_, rfl⟩
        rw [← hR1] at HI1
        have HR := Lib.hid hR1
        clear hR1 hB
        go_enter Tryz.func20, Tryz.ntmps20
        go_upto_region 1 with fail
        rw [← hW0]
        clear hW0
        go_upto_region 10 with (first
          | (go_at_call 50; refine (HP.out _ HF0.out.below).mono ?_; rintro e w1 ⟨rfl, hw1⟩; subst w1)
          | (go_at_call 34; refine (HAT.out _).mono ?_; rintro e w3 ⟨⟨v3, rfl, ho3⟩, hb⟩; obtain ⟨va, vc, rfl⟩ : ∃ a c, v3 = .slice a l1.length c := ho3.form; have HF3 := Lib.hid ((HF0.out.next hb).new' tE9 #[.int .i64 p1, .int .u8 o1, .string ⟨i1.toArray⟩, .slice va l1.length vc, .string xb, .bool f1] (b := w3.heap.size) rfl); have HA3 := Lib.hid ((ho3.slR.mono (q := fun k => w.heap.size ≤ k) (fun k hk => Nat.le_trans HF0.out.below.size hk)).below ((Below.refl _ _).alloc (Nat.le_refl _) (.cells #[.int .i64 p1, .int .u8 o1, .string ⟨i1.toArray⟩, .slice va l1.length vc, .string xb, .bool f1] tE9))); have HLE : Hid (w.heap.size ≠ w3.heap.size) := Lib.hid (by have := ((HF0.out.next hb).blk 0 rfl).lt; omega); clear hb ho3; unfold entVal; dsimp only))
        rw [← HXB.out]
        generalize w3.alloc (.cells #[.int .i64 p1, .int .u8 o1, .string ⟨i1.toArray⟩, .slice va l1.length vc, .string xb, .bool f1] tE9) = W3 at *
        generalize w3.heap.size = eb at *
        obtain ⟨d0, d1, d2, d3, d4, d5⟩ := (HF3.out.blk 0 rfl).cell6
        go_wp2_with (first
          | (go_at_call 51; refine (HSIZ.out _ _ _ _).mono ?_; rintro e w5 ⟨rfl, hb⟩; have HF5 := Lib.hid (HF3.out.next hb); have HA5 := Lib.hid (HA3.out.below hb); clear hb)
          | (go_at_call 52; refine (HI1.out _ HF5.out.below).mono ?_; rintro e w2 ⟨qa, qc, rfl, ho, hb⟩; have HLT5 := Lib.hid ((HF5.out.blk 1 rfl).lt); have HO := Lib.hid ho; have HF2 := Lib.hid (HF5.out.next hb); clear ho hb; obtain ⟨⟨c0, c1, c2, c3, c4⟩, f00, f01, f02, f03, f04⟩ := (HF2.out.blk 1 rfl).five))
        have F5 := Lib.hid (HF2.out.swap.set5 (Nat.le_refl _) (fun x hx => by rw [List.mem_singleton.1 hx]; exact fun e => HLE.out e.symm) (.int .i64 4) (.slice qa R1.length qc) (.string ⟨#[]⟩) (.slice none 0 0) (.bool false))
        exact bodyPost_ret (item_end rfl rfl (F5.out.blk 0 rfl) rfl) rfl ⟨⟨_, rfl, by rw [HIT.out]; exact ((ItmR.bare HO.out HR.out (Nat.le_refl _)).off5 HLT5.out _ _ _ _ _).base (Nat.le_of_lt HLT5.out)⟩, F5.out.below⟩
      · have hB' : ¬ (l.length : Int) < (SZ : Int) := by omega
        have HB1 : Hid (SZ ≤ l.length) := Lib.hid (by omega)
        have HIT : Hid (itF l = ⟨1, SZ, IW, IA, f1⟩) := Lib.hid (by rw [HIF.out, HIN.out, if_neg hB])
        have HI1 := Lib.hid (HI.out 1 SZ HB1.out)
        obtain ⟨R1, hR1⟩ : ∃ R, R = l.take SZ := ⟨_, rfl⟩
        rw [← hR1] at HI1
        have HR := Lib.hid hR1
        have HKL : Hid (k0 + rdN xb.data.toList ≤ l.length) := Lib.hid (Nat.le_trans HK0.out HB1.out)
        have hkz : 0 < xb.data.toList.length → 0 < rdN xb.data.toList := fun h => rdN_pos (fun e => by rw [e] at h; exact absurd h (by decide))
        have HKZ := Lib.hid hkz
        clear hkz hR1 hB hB' HIF HIN
        have hcase : (5 ≤ q ∧ (2 : Int) = k0) ∨ (¬ 5 ≤ q ∧ (K : Int) + 1 = k0) := by
          by_cases h5 : 5 ≤ q
          · exact .inl ⟨h5, by rw [HK9.out, if_pos h5]; rfl⟩
          · exact .inr ⟨h5, by rw [HK9.out, if_neg h5]; rfl⟩
        have H5 : Hid ((5 ≤ q ∧ (2 : Int) = k0) ∨ (¬ 5 ≤ q ∧ (K : Int) + 1 = k0)) := Lib.hid hcase
        clear hcase
        have hcase : (((5 : Int) ≤ (q : Int)) ∧ Hid ((2 : Int) = k0)) ∨ ((¬ (5 : Int) ≤ (q : Int)) ∧ Hid ((K : Int) + 1 = k0)) := by
          rcases H5.out with ⟨h, e⟩ | ⟨h, e⟩
          · exact .inl ⟨by omega, Lib.hid e⟩
          · exact .inr ⟨by omega, Lib.hid e⟩
        clear H5
        rcases hcase with ⟨h5', HK8⟩ | ⟨h5', HK8⟩
        all_goals
          go_enter Tryz.func20, Tryz.ntmps20
          go_upto_region 1 with fail
          rw [← hW0]
          clear hW0
          go_upto_region 10 with (first
            | (go_at_call 50; refine (HP.out _ HF0.out.below).mono ?_; rintro e w1 ⟨rfl, hw1⟩; subst w1)
            | (go_at_call 34; refine (HAT.out _).mono ?_; rintro e w3 ⟨⟨v3, rfl, ho3⟩, hb⟩; obtain ⟨va, vc, rfl⟩ : ∃ a c, v3 = .slice a l1.length c := ho3.form; have HF3 := Lib.hid ((HF0.out.next hb).new' tE9 #[.int .i64 p1, .int .u8 o1, .string ⟨i1.toArray⟩, .slice va l1.length vc, .string xb, .bool f1] (b := w3.heap.size) rfl); have HA3 := Lib.hid ((ho3.slR.mono (q := fun k => w.heap.size ≤ k) (fun k hk => Nat.le_trans HF0.out.below.size hk)).below ((Below.refl _ _).alloc (Nat.le_refl _) (.cells #[.int .i64 p1, .int .u8 o1, .string ⟨i1.toArray⟩, .slice va l1.length vc, .string xb, .bool f1] tE9))); have HLE : Hid (w.heap.size ≠ w3.heap.size) := Lib.hid (by have := ((HF0.out.next hb).blk 0 rfl).lt; omega); clear hb ho3; unfold entVal; dsimp only))
          rw [← HXB.out]
          generalize w3.alloc (.cells #[.int .i64 p1, .int .u8 o1, .string ⟨i1.toArray⟩, .slice va l1.length vc, .string xb, .bool f1] tE9) = W3 at *
          generalize w3.heap.size = eb at *
          obtain ⟨d0, d1, d2, d3, d4, d5⟩ := (HF3.out.blk 0 rfl).cell6
          have hb8 : ¬ (l.length : Int) < (SZ : Int) := by have := HB1.out; omega
          go_wp2_with (go_at_call 51; refine (HSIZ.out _ _ _ _).mono ?_; rintro e w5 ⟨rfl, hb⟩; have HF5 := Lib.hid (HF3.out.next hb); have HA5 := Lib.hid (HA3.out.below hb); clear hb)
          try rw [show decide (l.length < SZ) = false from decide_eq_false (by have := HB1.out; omega)]
          try rw [show decide ((l.length : Int) < (SZ : Int)) = false from decide_eq_false (by have := HB1.out; omega)]
          try rw [show decide ((SZ : Int) > (l.length : Int)) = false from decide_eq_false (by have := HB1.out; omega)]
          clear d0 d1 d2 d3 d4 d5 HF3 HA3 hb8
          go_loopw [8, 9, 10, 11] (fun s8 s9 s10 i wr => ∃ (j nx : Nat) (d' n' : Int), j ≤ xb.size ∧ i = .int .i64 j ∧ s10 = .int .i64 nx ∧ s8 = .int .i64 d' ∧ s9 = .int .i64 n' ∧ Fr w [(eb, tE9, #[.int .i64 p1, .int .u8 o1, .string ⟨i1.toArray⟩, .slice va l1.length vc, .string xb, .bool f1]), (w.heap.size, 29, itm0)] wr ∧ SlR opdR wr (fun k => w.heap.size ≤ k) (.slice va l1.length vc) l1 ∧ (j < xb.size → nx + rdN (xb.data.toList.drop j) ≤ l.length) ∧ rdF (xb.data.toList.drop j) l nx d' n' = (dd, nn)) (fun _ _ _ i _ => xb.size - (intOf i).toNat)
          case atStart => exact ⟨0, k0, 0, 0, Nat.zero_le _, rfl, by rw [HK8.out], rfl, rfl, HF5.out, HA5.out, fun _ => HKL.out, HRR.out⟩
          obtain ⟨j, nx, d', n', hj, rfl, rfl, rfl, rfl, hfr, har, hn0, hr0⟩ := hrel
          have HFR := Lib.hid hfr
          have HAR := Lib.hid har
          have HR0 := Lib.hid hr0
          have d4 : wr.cell? ⟨eb, 4, none⟩ = some (.string xb) := (HFR.out.blk 0 rfl).cell 4
          clear hfr har hr0 HF5 HA5
          by_cases hlt : j < xb.size
          · have HJ : Hid (j < xb.size ∧ True) := Lib.hid ⟨hlt, trivial⟩
            have HN0 := Lib.hid (hn0 hlt)
            have HD : Hid (xb.data.toList.drop j = xb[j] :: xb.data.toList.drop (j + 1)) := Lib.hid (by rw [List.drop_eq_getElem_cons (by simpa using hlt)]; rfl)
            have hx1 : nx < l.length := by
              have h1 := HN0.out
              have h2 := rdN_pos (ex := xb.data.toList.drop j) (by rw [HD.out]; simp)
              omega
            have hcx : wr.cell? ⟨b0, o0 + nx, none⟩ = some (.int .u8 (bAt l nx)) := HC.out _ HFR.out.below _ hx1
            have hx1' : (nx : Int) < (l.length : Int) := by omega
            have hnx9 : nx < 1000000 := by have := HL.out; omega
            have hlet := HLS.out j hlt
            clear hn0
            rcases hlet with hlet | hlet | hlet | hlet
            all_goals have HLE8 := Lib.hid hlet
            · have HRN : Hid (rdF (xb.data.toList.drop (j + 1)) l (nx + 1) (sg (bAt l nx)) n' = (dd, nn)) := Lib.hid (HR0.out.symm.trans (by rw [HD.out, HLE8.out]; rfl)).symm
              have HFN : Hid (j + 1 < xb.size → nx + 1 + rdN (xb.data.toList.drop (j + 1)) ≤ l.length) := Lib.hid (fun _ => by have := HN0.out; rw [HD.out, HLE8.out] at this; rw [rdN, if_neg (by decide)] at this; omega)
              have q100 : ((xb[j].toNat : Int) == 100) = true := by rw [hlet]; decide
              clear hlet
              clear HR0 HN0 HD
              go_wp2_with (go_at_call 53; refine (signed01_any _ (bAt_lt _ _) _).mono ?_; rintro e w6 ⟨rfl, hw6⟩; subst w6)
              go_roundw
              case rel => exact ⟨j + 1, nx + 1, _, _, HJ.out.1, rfl, rfl, rfl, rfl, HFR.out, HAR.out, HFN.out, HRN.out⟩
              case measure => simp [intOf]; have := HJ.out.1; omega
            · have HRN : Hid (rdF (xb.data.toList.drop (j + 1)) l (nx + 1) d' (sg (bAt l nx)) = (dd, nn)) := Lib.hid (HR0.out.symm.trans (by rw [HD.out, HLE8.out]; rfl)).symm
              have HFN : Hid (j + 1 < xb.size → nx + 1 + rdN (xb.data.toList.drop (j + 1)) ≤ l.length) := Lib.hid (fun _ => by have := HN0.out; rw [HD.out, HLE8.out] at this; rw [rdN, if_neg (by decide)] at this; omega)
              have q100 : ((xb[j].toNat : Int) == 100) = false := by rw [hlet]; decide
              have q101 : ((xb[j].toNat : Int) == 101) = true := by rw [hlet]; decide
              clear hlet
              clear HR0 HN0 HD
              go_wp2_with (go_at_call 53; refine (signed01_any _ (bAt_lt _ _) _).mono ?_; rintro e w6 ⟨rfl, hw6⟩; subst w6)
              go_roundw
              case rel => exact ⟨j + 1, nx + 1, _, _, HJ.out.1, rfl, rfl, rfl, rfl, HFR.out, HAR.out, HFN.out, HRN.out⟩
              case measure => simp [intOf]; have := HJ.out.1; omega
            · have HRN : Hid (rdF (xb.data.toList.drop (j + 1)) l (nx + 1) d' (bAt l nx) = (dd, nn)) := Lib.hid (HR0.out.symm.trans (by rw [HD.out, HLE8.out]; rfl)).symm
              have HFN : Hid (j + 1 < xb.size → nx + 1 + rdN (xb.data.toList.drop (j + 1)) ≤ l.length) := Lib.hid (fun _ => by have := HN0.out; rw [HD.out, HLE8.out] at this; rw [rdN, if_neg (by decide)] at this; omega)
              have q100 : ((xb[j].toNat : Int) == 100) = false := by rw [hlet]; decide
              have q101 : ((xb[j].toNat : Int) == 101) = false := by rw [hlet]; decide
              have q110 : ((xb[j].toNat : Int) == 110) = true := by rw [hlet]; decide
              clear hlet
              have w110 : IntKind.i64.wrap (bAt l nx : Int) = bAt l nx := by have := bAt_lt l nx; rw [IntKind.wrap_i64]; omega
              clear HR0 HN0 HD
              go_wp2
              go_roundw
              case rel => exact ⟨j + 1, nx + 1, _, _, HJ.out.1, rfl, rfl, rfl, rfl, HFR.out, HAR.out, HFN.out, HRN.out⟩
              case measure => simp [intOf]; have := HJ.out.1; omega
            · have hone : xb.data.toList = [119] := by
                rcases HWD.out with h | h
                · exact h
                · exact absurd (by have hh : xb[j] ∈ xb.data.toList := by
                                     have : xb[j] = xb.data.toList[j]'(by simpa using HJ.out.1) := rfl
                                     rw [this]; exact List.getElem_mem _
                                   rw [hlet] at hh; exact hh) h
              have hsz1 : xb.size = 1 := by have := congrArg List.length hone; simpa using this
              have HJ0 : Hid (j = 0 ∧ ¬ j + 1 < xb.size) := Lib.hid (by have := HJ.out.1; omega)
              have HRN : Hid (rdF (xb.data.toList.drop (j + 1)) l (nx + 1) d' ((bAt l nx : Int) + 256 * bAt l (nx + 1)) = (dd, nn)) := Lib.hid (HR0.out.symm.trans (by rw [HD.out, HLE8.out]; rw [show xb.data.toList.drop (j + 1) = [] from List.drop_of_length_le (by have := HJ0.out; simp; omega)]; rfl)).symm
              have hx2 : nx + 1 < l.length := by have := HN0.out; rw [HD.out, HLE8.out, rdN, if_pos rfl] at this; omega
              have hcy : wr.cell? ⟨b0, o0 + (nx + 1), none⟩ = some (.int .u8 (bAt l (nx + 1))) := HC.out _ HFR.out.below _ hx2
              have hcy' : wr.cell? ⟨b0, o0 + nx + 1, none⟩ = some (.int .u8 (bAt l (nx + 1))) := hcy
              have hx2' : (nx : Int) + 1 < (l.length : Int) := by omega
              have q100 : ((xb[j].toNat : Int) == 100) = false := by rw [hlet]; decide
              have q101 : ((xb[j].toNat : Int) == 101) = false := by rw [hlet]; decide
              have q110 : ((xb[j].toNat : Int) == 110) = false := by rw [hlet]; decide
              have q119 : ((xb[j].toNat : Int) == 119) = true := by rw [hlet]; decide
              have w119 : IntKind.i64.wrap (bAt l nx : Int) = bAt l nx := by have := bAt_lt l nx; rw [IntKind.wrap_i64]; omega
              have v119 : IntKind.i64.wrap (bAt l (nx + 1) : Int) = bAt l (nx + 1) := by have := bAt_lt l (nx + 1); rw [IntKind.wrap_i64]; omega
              have u119 : IntKind.i64.wrap (256 * (bAt l (nx + 1) : Int)) = 256 * bAt l (nx + 1) := by have := bAt_lt l (nx + 1); rw [IntKind.wrap_i64]; omega
              have t119 : IntKind.i64.wrap ((bAt l nx : Int) + 256 * bAt l (nx + 1)) = (bAt l nx : Int) + 256 * bAt l (nx + 1) := by have := bAt_lt l nx; have := bAt_lt l (nx + 1); rw [IntKind.wrap_i64]; omega
              have s119 : IntKind.i64.wrap ((nx : Int) + 1) = (nx : Int) + 1 := by rw [IntKind.wrap_i64]; omega
              clear HR0 HN0 HD hlet hone hsz1
              go_wp2
              go_quiet (fail)
              go_wp2
              go_roundw
              case rel => exact ⟨j + 1, nx + 1, _, _, HJ.out.1, rfl, rfl, rfl, rfl, HFR.out.drewN _, HAR.out.drewN _, fun h => absurd h HJ0.out.2, HRN.out⟩
              case measure => simp [intOf]; have := HJ.out.1; omega
          · obtain rfl : j = xb.size := by omega
            have HDR : Hid ((d', n') = (dd, nn)) := Lib.hid (HR0.out.symm.trans (by rw [List.drop_of_length_le (by simp)]; rfl)).symm
            obtain ⟨rfl, rfl⟩ : d' = dd ∧ n' = nn := by have := HDR.out; injection this with e1 e2; exact ⟨e1, e2⟩
            clear hn0 hlt HDR
            go_upto_region 32 with (go_at_call 52; refine (HI1.out _ HFR.out.below).mono ?_; rintro e w7 ⟨qa, qc, rfl, ho, hb⟩; have HLT7 := Lib.hid ((HFR.out.blk 1 rfl).lt); have HO := Lib.hid ho; have HF7 := Lib.hid (HFR.out.next hb); have HA7 := Lib.hid (HAR.out.below hb); clear ho hb)
            have HF8 := Lib.hid (HF7.out.new' 29 #[.int .i64 1, .slice qa R1.length qc, .string ⟨#[]⟩, .slice none 0 0, .bool false] (b := w7.heap.size) rfl)
            have HA8 := Lib.hid (HA7.out.alloc (.cells #[.int .i64 1, .slice qa R1.length qc, .string ⟨#[]⟩, .slice none 0 0, .bool false] 29))
            have HZ8 : Hid ((w7.alloc (.cells #[.int .i64 1, .slice qa R1.length qc, .string ⟨#[]⟩, .slice none 0 0, .bool false] 29)).heap.size = w7.heap.size + 1) := Lib.hid (World.size_alloc _ _)
            have HZT : Hid (w.heap.size < w7.heap.size ∧ eb < w7.heap.size) := Lib.hid ⟨(HF7.out.blk 1 rfl).lt, (HF7.out.blk 0 rfl).lt⟩
            have HR8 := Lib.hid (((Own.slR (q := fun k => w.heap.size + 1 ≤ k) HO.out (fun _ h => h.elim) (fun k hk => Nat.lt_of_lt_of_le HLT7.out hk)).old.mono (q := fun k => w.heap.size + 1 ≤ k ∧ k ≠ w7.heap.size) (fun k hk => ⟨hk.1, Nat.ne_of_lt hk.2⟩)).below ((Below.refl _ _).alloc (Nat.le_refl _) (.cells #[.int .i64 1, .slice qa R1.length qc, .string ⟨#[]⟩, .slice none 0 0, .bool false] 29)))
            generalize w7.alloc (.cells #[.int .i64 1, .slice qa R1.length qc, .string ⟨#[]⟩, .slice none 0 0, .bool false] 29) = W8 at *
            generalize w7.heap.size = tb at *
            obtain ⟨PB, hPB⟩ : ∃ P : Blocks, P = fun k => w.heap.size + 1 ≤ k ∧ k ≠ tb := ⟨_, rfl⟩
            rw [← hPB] at HR8
            have HPT : Hid (∀ k, PB k → k ≠ tb) := Lib.hid (fun k hk => by rw [hPB] at hk; exact hk.2)
            have HPO : Hid (∀ k, PB k → k ≠ w.heap.size) := Lib.hid (fun k hk => by rw [hPB] at hk; have := hk.1; omega)
            have HPW : Hid (∀ k, PB k → w.heap.size ≤ k) := Lib.hid (fun k hk => by rw [hPB] at hk; have := hk.1; omega)
            have HPI : Hid (∀ k, W8.heap.size ≤ k → PB k) := Lib.hid (fun k hk => by rw [hPB]; exact ⟨by have := HZT.out; have := HZ8.out; omega, by have := HZ8.out; omega⟩)
            clear hPB
            have HTN : Hid (∀ (r : Array Value), ∀ x ∈ [(eb, tE9, #[.int .i64 p1, .int .u8 o1, .string ⟨i1.toArray⟩, .slice va l1.length vc, .string xb, .bool f1]), (w.heap.size, 29, itm0)], x.1 ≠ tb) := Lib.hid (fun _ x hx => by rcases List.mem_cons.1 hx with e | hx; rw [e]; have := HZT.out; show eb ≠ tb; omega; rw [List.mem_singleton.1 hx]; have := HZT.out; show w.heap.size ≠ tb; omega)
            have HTB : Hid (w.heap.size ≤ tb) := Lib.hid (by have := HZT.out; omega)
            obtain ⟨⟨c0, c1, c2, c3, c4⟩, g0, g1, g2, g3, g4⟩ := (HF8.out.blk 0 rfl).five
            obtain ⟨d0, d1, d2, d3, d4, d5⟩ := (HF8.out.blk 1 rfl).cell6
            go_upto_region 33 with (go_at_call 54; refine (HFJ.out _ _ HA8.out).mono ?_; rintro e w9 ⟨ja, jc, jb, rfl, hj, hb9⟩; have HF9 := Lib.hid (HF8.out.next hb9); have HJ9 := Lib.hid (hj.mono (q := PB) HPI.out); have HR9 := Lib.hid (HR8.out.below hb9); clear hj hb9 d0 d1 d2 d3 d4 d5 c0 c1 c2 c3 c4 g0 g1 g2 g3 g4; obtain ⟨⟨c0, c1, c2, c3, c4⟩, g0, g1, g2, g3, g4⟩ := (HF9.out.blk 0 rfl).five; obtain ⟨d0, d1, d2, d3, d4, d5⟩ := (HF9.out.blk 1 rfl).cell6)
            have HFA := Lib.hid (show Fr w [(tb, 29, #[.int .i64 1, .slice qa R1.length qc, .string ⟨IW.toArray⟩, .slice ja IA.length jc, .bool false]), (eb, tE9, #[.int .i64 p1, .int .u8 o1, .string ⟨i1.toArray⟩, .slice va l1.length vc, .string xb, .bool f1]), (w.heap.size, 29, itm0)] ((w9.setCell ⟨tb, 2, none⟩ (.string ⟨IW.toArray⟩)).setCell ⟨tb, 3, none⟩ (.slice ja IA.length jc)) from (HF9.out.set HTB.out (HTN.out #[]) 2 _).set HTB.out (HTN.out #[]) 3 _)
            have HJA := Lib.hid (show SlR opdR ((w9.setCell ⟨tb, 2, none⟩ (.string ⟨IW.toArray⟩)).setCell ⟨tb, 3, none⟩ (.slice ja IA.length jc)) PB (.slice ja IA.length jc) IA from (HJ9.out.keep (Keep.setCell HPT.out _)).keep (Keep.setCell HPT.out _))
            have HRA := Lib.hid (show SlR byteR ((w9.setCell ⟨tb, 2, none⟩ (.string ⟨IW.toArray⟩)).setCell ⟨tb, 3, none⟩ (.slice ja IA.length jc)) PB (.slice qa R1.length qc) R1 from (HR9.out.keep (Keep.setCell HPT.out _)).keep (Keep.setCell HPT.out _))
            generalize ((w9.setCell ⟨tb, 2, none⟩ (.string ⟨IW.toArray⟩)).setCell ⟨tb, 3, none⟩ (.slice ja IA.length jc)) = WA at *
            clear HF9 HJ9 HR9 c0 c1 c2 c3 c4 g0 g1 g2 g3 g4 d0 d1 d2 d3 d4 d5
            obtain ⟨⟨c0, c1, c2, c3, c4⟩, g0, g1, g2, g3, g4⟩ := (HFA.out.blk 0 rfl).five
            obtain ⟨d0, d1, d2, d3, d4, d5⟩ := (HFA.out.blk 1 rfl).cell6
            go_upto_region 34 with fail
            have HFB := Lib.hid (show Fr w [(tb, 29, #[.int .i64 1, .slice qa R1.length qc, .string ⟨IW.toArray⟩, .slice ja IA.length jc, .bool f1]), (eb, tE9, #[.int .i64 p1, .int .u8 o1, .string ⟨i1.toArray⟩, .slice va l1.length vc, .string xb, .bool f1]), (w.heap.size, 29, itm0)] (WA.setCell ⟨tb, 4, none⟩ (.bool f1)) from HFA.out.set HTB.out (HTN.out #[]) 4 _)
            have HJB := Lib.hid (HJA.out.keep (Keep.setCell (a := ⟨tb, 4, none⟩) HPT.out (.bool f1)))
            have HRB := Lib.hid (HRA.out.keep (Keep.setCell (a := ⟨tb, 4, none⟩) HPT.out (.bool f1)))
            generalize WA.setCell ⟨tb, 4, none⟩ (.bool f1) = WB at *
            clear HFA HJA HRA c0 c1 c2 c3 c4 g0 g1 g2 g3 g4 d0 d1 d2 d3 d4 d5
            obtain ⟨⟨c0, c1, c2, c3, c4⟩, _⟩ := (HFB.out.blk 0 rfl).five
            obtain ⟨⟨m0, m1, m2, m3, m4⟩, g0, g1, g2, g3, g4⟩ := (HFB.out.blk 2 rfl).five
            go_wp2
            have F5 := Lib.hid ((HFB.out.rot.rot).set5 (Nat.le_refl _) (fun x hx => by rcases List.mem_cons.1 hx with e | hx; rw [e]; have := HZT.out; show tb ≠ w.heap.size; omega; rw [List.mem_singleton.1 hx]; exact fun e => HLE.out e.symm) (.int .i64 1) (.slice qa R1.length qc) (.string ⟨IW.toArray⟩) (.slice ja IA.length jc) (.bool f1))
            refine bodyPost_ret (item_end rfl rfl (F5.out.blk 0 rfl) rfl) rfl ⟨⟨_, rfl, ?_⟩, F5.out.below⟩
            rw [HIT.out]
            refine ⟨qa, qc, ja, jc, by rw [← HR.out]; rfl, ?_, ?_⟩
            · rw [← HR.out]
              exact (((((HRB.out.keep (Keep.setCell HPO.out _)).keep (Keep.setCell HPO.out _)).keep (Keep.setCell HPO.out _)).keep (Keep.setCell HPO.out _)).keep (Keep.setCell HPO.out _)).mono HPW.out
            · exact (((((HJB.out.keep (Keep.setCell HPO.out _)).keep (Keep.setCell HPO.out _)).keep (Keep.setCell HPO.out _)).keep (Keep.setCell HPO.out _)).keep (Keep.setCell HPO.out _)).mono HPW.out
end Go.Proofs.YtjmekllgnhkodaaGreatDoor
