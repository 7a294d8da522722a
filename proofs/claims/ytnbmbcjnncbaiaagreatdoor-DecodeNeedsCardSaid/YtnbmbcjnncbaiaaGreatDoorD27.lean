/-
  Law of chapter 12, DecodeNeeds. Conditions: the library's table as its initialiser lays it.
-/
import Derived.Test.YtnbmbcjnncbaiaaGreatDoorD21
import Derived.Test.YtnbmbcjnncbaiaaGreatDoorD24
namespace Go.Proofs.YtnbmbcjnncbaiaaGreatDoor
open Go.RowKit Go.Shelf Go.Sort

theorem fld0 (k : Int) (v1 v2 v3 v4 : Value) (W : World) : (Instr.field 29 (.agg #[.int .i64 k, v1, v2, v3, v4]) 0).run Tryz.prog W = .ok (.int .i64 k) W := by
  simp [Instr.field, asAgg, go_sem]
theorem lit0 (W : World) : SlR byteR (W.alloc (.cells #[.int .u8 0, .int .u8 0, .int .u8 0, .int .u8 0] 5)) (fun k => W.heap.size ≤ k) (.slice (some ⟨W.heap.size, 0, none⟩) 4 4) [0, 0, 0, 0] := slR_lit W 5 _ [0, 0, 0, 0] #[.int .u8 0, .int .u8 0, .int .u8 0, .int .u8 0] 4 rfl rfl (by simp) (fun _ h => h)
set_option maxHeartbeats 8000000 in
set_option maxRecDepth 100000 in
theorem DecodeNeeds_law (p : Blocks) (v : Value) (l : List UInt8) (w : World) (h : SlR byteR w p v l) (hT : Spc w) :
    Calls Tryz.prog 3 #[v] w fun e w' => e = .returned (.bool true) ∧ RowKit.Below w.heap.size w w' := by
  obtain ⟨a, c, rfl⟩ : ∃ a c, v = .slice a l.length c := by obtain ⟨a, c, e, _⟩ := h; exact ⟨a, c, e⟩
  have HAL := Lib.hid (fun W (hb : RowKit.Below w.heap.size w W) => alive12_any W (hT.below hb))
  have HH := Lib.hid h.old
  have HT := Lib.hid hT
  clear h hT
  by_cases h1 : 1000 < l.length
  · have h1' : (1000 : Int) < (l.length : Int) := by omega
    go_enter Tryz.func3, Tryz.ntmps3
    go_wp2_with (go_at_call 15; refine (HAL.out _ (Below.refl _ _)).mono ?_; rintro e w1 ⟨rfl, hb⟩; have H1 := Lib.hid hb; clear hb)
    go_ret
    exact ⟨rfl, H1.out⟩
  have h1' : ¬ (1000 : Int) < (l.length : Int) := by omega
  by_cases h2 : l.length = 0
  · have h2' : (l.length : Int) = 0 := by omega
    go_enter Tryz.func3, Tryz.ntmps3
    go_wp2_with (go_at_call 15; refine (HAL.out _ (Below.refl _ _)).mono ?_; rintro e w1 ⟨rfl, hb⟩; have H1 := Lib.hid hb; clear hb)
    go_ret
    exact ⟨rfl, H1.out⟩
  have h2' : ¬ (l.length : Int) = 0 := by omega
  have h0 : 0 < l.length := by omega
  have hl9 : l.length ≤ 1000000 := by omega
  have HND := Lib.hid (fun W (hb : RowKit.Below w.heap.size w W) => Need_any _ a c l W (HT.out.below hb) (HH.out.below hb) h0 hl9)
  have HNR := Lib.hid (fun W (hb : RowKit.Below w.heap.size w W) => Need12_any _ a c l W (HH.out.below hb) h0 hl9)
  have HFB := Lib.hid (fun W (hb : RowKit.Below w.heap.size w W) => First_any _ a c l W (HT.out.below hb) (HH.out.below hb) h0 hl9)
  have hle := need_le l h0
  have hif := need_iff l h0
  have hlw := needs_law l h0
  obtain ⟨M, hM⟩ : ∃ M, M = max (needF l) l.length := ⟨_, rfl⟩
  rw [← hM] at hlw
  generalize needF l = NF at *
  have hMi : max (NF : Int) (l.length : Int) = (M : Int) := by omega
  have hM4 : M ≤ l.length + 4 := by omega
  have hMp : (padF l M).length = M := padF_len hM4
  have HFP := Lib.hid (fun q ad cc W (hb : RowKit.Below w.heap.size w W) hs => First_any q ad cc (padF l M) W (HT.out.below hb) hs (by rw [hMp]; omega) (by rw [hMp]; omega))
  rw [hMp] at HFP
  have HPD : Hid (padF l M = (l ++ [0, 0, 0, 0]).take M) := Lib.hid rfl
  have HM4 := Lib.hid hM4
  have HL9 : Hid (l.length ≤ 1000) := Lib.hid (by omega)
  have hn1 : ¬ (NF : Int) < 1 := by omega
  have hn4 : ¬ (4 : Int) < (NF : Int) := by omega
  have HL4 : Hid (M ≤ (l ++ [0, 0, 0, 0]).length) := Lib.hid (by rw [List.length_append]; exact hM4)
  generalize padF l M = PD at *
  have HKP := Lib.hid hlw
  have HIF := Lib.hid hif
  have HMP := Lib.hid hMp
  clear hle hif hlw hM hM4 h1 h2 h0 hl9 hMp
  have hfd := fld0
  go_enter Tryz.func3, Tryz.ntmps3
  go_upto_region 6 with (first
    | (go_at_call 16; refine (HND.out _ (Below.refl _ _)).mono ?_; rintro e w1 ⟨rfl, hb⟩; have HB1 := Lib.hid hb; clear hb)
    | (go_at_call 17; refine (HNR.out _ HB1.out).mono ?_; rintro e w2 ⟨rfl, hb⟩; have HB2 := Lib.hid (HB1.out.trans (hb.mono HB1.out.size)); clear hb))
  have HB3 : Hid (RowKit.Below w.heap.size w (w2.alloc (.cells #[] 5))) := Lib.hid (HB2.out.alloc HB2.out.size _)
  have HO : Hid (Own byteR (w2.alloc (.cells #[] 5)) w2.heap.size 5 NoB (.slice (some ⟨w2.heap.size, 0, none⟩) 0 0) []) := Own.made w2 _ _
  have HX : Hid (SlR byteR (w2.alloc (.cells #[] 5)) _ (.slice a l.length c) l) := Lib.hid (HH.out.below HB3.out)
  have HZ2 := Lib.hid HB2.out.size
  have C2 : Hid (∀ k, p k ∧ k < w.heap.size → some k ≠ Value.ownBlock (.slice (some ⟨w2.heap.size, 0, none⟩) 0 0)) := fun k hk e => by have e2 : k = w2.heap.size := Option.some.inj e; have := HZ2.out; omega
  have C3 : Hid (([] : List UInt8).length + l.length ≤ 1000000) := by have := HL9.out; show 0 + l.length ≤ 1000000; omega
  have HZ3 : Hid (w2.heap.size ≤ (w2.alloc (.cells #[] 5)).heap.size) := Lib.hid (by rw [World.size_alloc]; omega)
  go_upto_region 7 with (first
    | (at_builtin; refine wpList_append_R _ rfl (.tmp 29) (.tmp 30) 22 rfl w2.heap.size 5 1 elByte NoB _ _ _ [] l rfl rfl HO.out HX.out (fun _ h => False.elim h) C2.out (by have := C3.out; omega) (by have := C3.out; omega) HZ3.out ?_; intro v' w' hap; obtain ⟨ho, hg, hv⟩ := hap; obtain ⟨qa, qc, rfl⟩ := (ho.flat NoB).form;
       have HO3 := Lib.hid ((ho.flat NoB).stay ((Below.refl _ _).alloc (Nat.le_refl _) (.cells #[.int .u8 0, .int .u8 0, .int .u8 0, .int .u8 0] 5)));
       have HL3 := Lib.hid (ho.flat NoB).lt;
       have HB4 := Lib.hid ((HB3.out.grown hg HB3.out.size (fun k e => by have e2 : w2.heap.size = k := Option.some.inj e; have := HZ2.out; omega)).alloc (Nat.le_trans HB3.out.size hg.size) (.cells #[.int .u8 0, .int .u8 0, .int .u8 0, .int .u8 0] 5));
       have HZ4 : Hid (w2.heap.size ≤ (w'.alloc (.cells #[.int .u8 0, .int .u8 0, .int .u8 0, .int .u8 0] 5)).heap.size) := Lib.hid (by rw [World.size_alloc]; have := HZ3.out; have := hg.size; omega);
       have HY := Lib.hid (lit0 w');
       have C4 : Hid (∀ k, w'.heap.size ≤ k → some k ≠ Value.ownBlock (.slice qa l.length qc)) := Lib.hid (fun k hk e => by have := (HL3.out k e.symm).2; omega); clear ho hg hv)
    | (at_builtin; refine wpList_append_R _ rfl (.tmp 31) (.tmp 32) 22 rfl w2.heap.size 5 1 elByte NoB _ _ _ l [0, 0, 0, 0] rfl rfl HO3.out HY.out (fun _ h => False.elim h) C4.out (by have := HL9.out; show (l.length + 4) * 1 ≤ _; omega) (by have := HL9.out; show l.length + 4 ≤ _; omega) HZ4.out ?_; intro v' w4 hap; obtain ⟨ho, hg, hv⟩ := hap; obtain ⟨ra, rc, rfl⟩ := (ho.flat NoB).form; have HO5 := Lib.hid (ho.flat NoB); have HB5 := Lib.hid (HB4.out.grown hg HB4.out.size (fun k e => Nat.le_trans HZ2.out (HL3.out k e).1)); clear ho hg hv))
  have hsl := HO5.out.slR (q := fun _ => True) (fun _ h => h.elim) (fun _ _ => trivial)
  obtain ⟨b9, o9, rfl, hc9, _, _⟩ := byteAt hsl (by rw [List.length_append]; show 0 < l.length + 4; omega)
  have hcut := cut_to ⟨b9, o9, none⟩ (l.length + 4) rc M (Nat.le_trans HL4.out hc9)
  obtain ⟨hs2, _⟩ := hsl.cutB HL4.out
  rw [← HPD.out] at hs2
  have HS2 := Lib.hid hs2
  have HMI := Lib.hid hMi
  clear hsl hc9 hs2 HO HX HO3 HL3 HY C2 C3 C4 HZ2 HZ3 HZ4 HO5
  generalize itF PD = J at *
  obtain ⟨R2, hR2⟩ : ∃ R, R = PD.take J.n := ⟨_, rfl⟩
  have HR2 := Lib.hid hR2
  have hkp := HKP.out
  clear hR2
  go_upto_region 8 with (go_at_call 18; refine (HFP.out _ _ _ _ HB5.out HS2.out).mono ?_; rintro e w5 ⟨⟨v5, rfl, hi⟩, hb⟩; obtain ⟨r5, s5, v5, z5, hv, _, _⟩ := hi; unfold itmV at hv; rw [← HR2.out] at hv; subst hv; have HF6 := Lib.hid (((Fr.start w).next (HB5.out.trans (hb.mono HB5.out.size))).new' 29 #[.int .i64 J.k, .slice r5 R2.length s5, .string ⟨J.op.toArray⟩, .slice v5 J.args.length z5, .bool J.al] (b := w5.heap.size) rfl); clear hb)
  generalize w5.alloc (.cells #[.int .i64 J.k, .slice r5 R2.length s5, .string ⟨J.op.toArray⟩, .slice v5 J.args.length z5, .bool J.al] 29) = W6 at *
  generalize w5.heap.size = tb at *
  generalize itF l = IT at *
  by_cases hk4 : IT.k = 4
  · have hnl : ¬ (NF : Int) ≤ (l.length : Int) := fun h => HIF.out.1 (by omega) hk4
    have HK4 := Lib.hid hk4
    clear hk4
    go_wp2_with (first
      | (go_at_call 15; refine (HAL.out _ HF6.out.below).mono ?_; rintro e w7 ⟨rfl, hb⟩; have HF7 := Lib.hid (HF6.out.next hb); clear hb; obtain ⟨⟨c0, c1, c2, c3, c4⟩, _⟩ := (HF7.out.blk 0 rfl).five)
      | (go_at_call 18; refine (HFB.out _ HF7.out.below).mono ?_; rintro e w8 ⟨⟨v8, rfl, hi⟩, hb⟩; obtain ⟨r8, s8, v8, z8, hv, _, _⟩ := hi; unfold itmV at hv; rw [HK4.out] at hv; subst hv; have HF8 := Lib.hid (HF7.out.next hb); clear hb))
    go_ret
    have h1 : ¬ NF ≤ l.length := by omega
    exact ⟨ret_bool (a := (J.k != 4 && !decide (NF ≤ l.length))) (by simp [hkp, h1]), HF8.out.below⟩
  · have hnl : (NF : Int) ≤ (l.length : Int) := by have := HIF.out.2 hk4; omega
    go_wp2_with (first
      | (go_at_call 15; refine (HAL.out _ HF6.out.below).mono ?_; rintro e w7 ⟨rfl, hb⟩; have HF7 := Lib.hid (HF6.out.next hb); clear hb; obtain ⟨⟨c0, c1, c2, c3, c4⟩, _⟩ := (HF7.out.blk 0 rfl).five)
      | (go_at_call 18; refine (HFB.out _ HF7.out.below).mono ?_; rintro e w8 ⟨⟨v8, rfl, hi⟩, hb⟩; obtain ⟨r8, s8, v8, z8, hv, _, _⟩ := hi; unfold itmV at hv; subst hv; have HF8 := Lib.hid (HF7.out.next hb); clear hb))
    go_ret
    exact ⟨ret_bool (a := (J.k != 4 && IT.k != 4)) (by simp [hkp, hk4]), HF8.out.below⟩
end Go.Proofs.YtnbmbcjnncbaiaaGreatDoor
