/-
  record.Parse, whole. Conditions: the line's size.
-/
import Derived.Test.YtcfjcoockklkeaaGreatDoorV8
import Derived.Test.YtcfjcoockklkeaaGreatDoorM6
namespace Go.Proofs.YtcfjcoockklkeaaGreatDoor
open Go.RowKit

theorem Cur.later {w0 w w' : World} {g bb oo L c i : Nat} (h : Cur w0 w g bb oo L c i) (hb : Below w.heap.size w w') : Cur w0 w' g bb oo L c i :=
  ⟨(hb.cell h.lt).trans h.cell, (hb.frozen h.lt).trans h.free, h.at_, Nat.lt_of_lt_of_le h.lt hb.size, h.below.trans (hb.mono h.below.size)⟩
theorem Cur.far {w0 w : World} {g bb oo L c i : Nat} (h : Cur w0 w g bb oo L c i) {p : Addr} (hp : g ≠ p.block) (hB : w0.heap.size ≤ p.block) (u : Value) : Cur w0 (w.setCell p u) g bb oo L c i := by
  have hb := Below.heap_setCell w p u g hp
  refine ⟨?_, ?_, h.at_, by rw [World.size_setCell]; exact h.lt, h.below.setCell hB _⟩
  · have := h.cell; unfold World.cell? at this ⊢; rw [hb]; exact this
  · have := h.free; unfold World.frozen? at this ⊢; rw [hb]; exact this
theorem cells_of_kept {w w' : World} {g : Nat} (hk : ∀ k, k ≠ g → w'.heap[k]? = w.heap[k]?) : (∀ k o, k ≠ g → w'.cell? ⟨k, o, none⟩ = w.cell? ⟨k, o, none⟩) ∧ (∀ k o, k ≠ g → w'.frozen? ⟨k, o, none⟩ = w.frozen? ⟨k, o, none⟩) :=
  ⟨fun k o h => by unfold World.cell?; rw [hk k h], fun k o h => by unfold World.frozen?; rw [hk k h]⟩
set_option maxHeartbeats 2000000 in
set_option maxRecDepth 100000 in
theorem Parse_sum (r ys : List UInt8) (w : World) (hs : r.length ≤ 1000000000) (h : bytesH r = some ys) (h5 : 5 ≤ ys.length) (hn : byteN ys 0 + 5 = ys.length) (hz : sumN ys ≠ 0) :
    Calls Tryz.prog 46 #[.string ⟨(58 :: r).toArray⟩] w (ParseP w (58 :: r)) := by
  have HC := Lib.hid (fun W => cut58_yes r W)
  have HB := Lib.hid (fun W => bytes_yes r ys W hs h)
  have HP : Hid (parseH (58 :: r) = (5, recZ)) := by show _ = _; rw [parseH_colon, h]; show parseB ys = _; unfold parseB; rw [if_neg (by omega), if_neg (by omega), if_pos hz]
  have HL5 := Lib.hid h5
  have hl5 : (5 : Int) ≤ (ys.length : Int) := by omega
  have hl6 : (ys.length : Int) ≤ 1000000000 := by have := bytesH_len r ys h; omega
  have hnb : ((byteN ys 0 : Int) != (ys.length : Int) - 5) = false := by rw [bne_eq_false_iff_eq]; omega
  have hzb : (((sum03 ys).toNat : Int) != 0) = true := by rw [bne_iff_ne]; intro e; exact hz ((sum_zero ys).1 (by omega))
  have HSUM := Lib.hid (fun (p : Blocks) (v : Value) (W : World) (hv : SlR byteR W p v ys) => Sum_any p v ys W hv)
  clear h hs h5 hn hz
  generalize (sum03 ys).toNat = z at *
  generalize (⟨(58 :: r).toArray⟩ : ByteArray) = s at *
  generalize (⟨r.toArray⟩ : ByteArray) = s2 at *
  generalize 58 :: r = l at *
  have HB0 : Hid (Below w.heap.size w (w.alloc (.cells #[.int .i64 0, .int .i64 0, .slice none 0 0] 98))) := (Below.refl _ w).alloc (Nat.le_refl _) _
  have HK := Lib.hid (Blk.new w 98 #[.int .i64 0, .int .i64 0, .slice none 0 0])
  go_enter Tryz.func46, Tryz.ntmps46
  go_wp2_with (first
    | (go_at_call 77; refine (HC.out _).mono ?_; rintro e w1 ⟨rfl, rfl⟩)
    | (go_at_call 78; refine (HB.out _).mono ?_; rintro e w2 ⟨a, c, rfl, ho, hb⟩; have HB2 := Lib.hid (HB0.out.trans (hb.mono HB0.out.size)); have HK2 := Lib.hid (HK.out.below hb HK.out.lt); obtain ⟨bb, c', hv, hbb⟩ := own_someV ho (by have := HL5.out; omega); obtain ⟨rfl, rfl⟩ : a = some ⟨bb, 0, none⟩ ∧ c = c' := (by injection hv with h1 h2 h3; exact ⟨h1, h3⟩); have HSL : Hid (SlR byteR w2 (fun k => k < w2.heap.size) (.slice (some ⟨bb, 0, none⟩) ys.length c) ys) := ((ho.slR (q := fun _ => True) (fun _ h => h.elim) (fun _ _ => trivial)).old.mono fun _ h => h.2); clear hb ho hv hbb)
    | (go_at_call 79; refine (take_1 w2 (fun k => k < w2.heap.size) w2.heap.size bb 0 c 0 ys _ Cur.start HSL.out (fun _ h => h) (by have := HL5.out; omega)).mono ?_; rintro e w3 ⟨rfl, hcu, _, hkp⟩; have HB3 := Lib.hid (HB2.out.trans (hcu.below.mono HB2.out.size)); have HK3 := Lib.hid ((HK2.out.alloc _).kept hkp (Nat.ne_of_lt HK2.out.lt)); have HSL3 : Hid (SlR byteR w3 (fun k => k < w2.heap.size) (.slice (some ⟨bb, 0, none⟩) ys.length c) ys) := HSL.out.keep (Keep.of_below hcu.below fun _ h => h); clear hcu hkp)
    | (go_at_call 80; refine (HSUM.out _ _ _ HSL3.out).mono ?_; rintro e w4 ⟨rfl, hb⟩; have HB4 := Lib.hid (HB3.out.trans (hb.mono HB3.out.size)); obtain ⟨k0, k1, k2, f0, f1, f2⟩ := (HK3.out.below hb HK3.out.lt).three; clear hb))
  exact bodyPost_ret (v := .tuple #[.agg #[.int .i64 0, .int .i64 0, .slice none 0 0], .int .i64 5]) (by simp [results, Tryz.results46, go_sem, k0, k1, k2]) rfl (ParseP.bad HP.out (((HB4.out.setCell (Nat.le_refl _) _).setCell (Nat.le_refl _) _).setCell (Nat.le_refl _) _))
set_option maxHeartbeats 4000000 in
set_option maxRecDepth 100000 in
theorem Parse_ok (r ys : List UInt8) (w : World) (hs : r.length ≤ 1000000000) (h : bytesH r = some ys) (h5 : 5 ≤ ys.length) (hn : byteN ys 0 + 5 = ys.length) (hz : sumN ys = 0) :
    Calls Tryz.prog 46 #[.string ⟨(58 :: r).toArray⟩] w (ParseP w (58 :: r)) := by
  have HC := Lib.hid (fun W => cut58_yes r W)
  have HB := Lib.hid (fun W => bytes_yes r ys W hs h)
  have HP : Hid (parseH (58 :: r) = (0, ⟨byteN ys 3, byteN ys 1 * 256 + byteN ys 2, (ys.drop 4).take (byteN ys 0)⟩)) := by
    show _ = _
    rw [parseH_colon, h]
    show parseB ys = _
    unfold parseB
    rw [if_neg (by omega), if_neg (by omega), if_neg (by omega), show ys.length - 5 = byteN ys 0 by omega]
  have HL5 := Lib.hid h5
  have HLN := Lib.hid hn
  have hl5 : (5 : Int) ≤ (ys.length : Int) := by omega
  have hl6 : (ys.length : Int) ≤ 1000000000 := by have := bytesH_len r ys h; omega
  have hnb : ((byteN ys 0 : Int) != (ys.length : Int) - 5) = false := by rw [bne_eq_false_iff_eq]; omega
  have hzz : (sum03 ys).toNat = 0 := (sum_zero ys).2 hz
  have HSUM := Lib.hid (fun (p : Blocks) (v : Value) (W : World) (hv : SlR byteR W p v ys) => Sum_any p v ys W hv)
  rw [hzz] at HSUM
  clear h hs h5 hn hz hzz
  generalize (⟨(58 :: r).toArray⟩ : ByteArray) = s at *
  generalize (⟨r.toArray⟩ : ByteArray) = s2 at *
  generalize 58 :: r = l at *
  have HB0 : Hid (Below w.heap.size w (w.alloc (.cells #[.int .i64 0, .int .i64 0, .slice none 0 0] 98))) := (Below.refl _ w).alloc (Nat.le_refl _) _
  have HK := Lib.hid (Blk.new w 98 #[.int .i64 0, .int .i64 0, .slice none 0 0])
  go_enter Tryz.func46, Tryz.ntmps46
  go_upto_region 11 with (first
    | (go_at_call 77; refine (HC.out _).mono ?_; rintro e w1 ⟨rfl, rfl⟩)
    | (go_at_call 78; refine (HB.out _).mono ?_; rintro e w2 ⟨a, c, rfl, ho, hb⟩; have HB2 := Lib.hid (HB0.out.trans (hb.mono HB0.out.size)); have HK2 := Lib.hid (HK.out.below hb HK.out.lt); obtain ⟨bb, c', hv, hbb⟩ := own_someV ho (by have := HL5.out; omega); obtain ⟨rfl, rfl⟩ : a = some ⟨bb, 0, none⟩ ∧ c = c' := (by injection hv with h1 h2 h3; exact ⟨h1, h3⟩); have HSL : Hid (SlR byteR w2 (fun k => k < w2.heap.size) (.slice (some ⟨bb, 0, none⟩) ys.length c) ys) := ((ho.slR (q := fun _ => True) (fun _ h => h.elim) (fun _ _ => trivial)).old.mono fun _ h => h.2); clear hb ho hv hbb)
    | (go_at_call 79; refine (take_1 w2 (fun k => k < w2.heap.size) w2.heap.size bb 0 c 0 ys _ Cur.start HSL.out (fun _ h => h) (by have := HL5.out; omega)).mono ?_; rintro e w3 ⟨rfl, hcu, _, hkp⟩; have HB3 := Lib.hid (HB2.out.trans (hcu.below.mono HB2.out.size)); have HK3 := Lib.hid ((HK2.out.alloc _).kept hkp (Nat.ne_of_lt HK2.out.lt)); have HSL3 : Hid (SlR byteR w3 (fun k => k < w2.heap.size) (.slice (some ⟨bb, 0, none⟩) ys.length c) ys) := HSL.out.keep (Keep.of_below hcu.below fun _ h => h); have HCU3 := Lib.hid hcu; clear hcu hkp)
    | (go_at_call 80; refine (HSUM.out _ _ _ HSL3.out).mono ?_; rintro e w4 ⟨rfl, hb⟩; have HB4 := Lib.hid (HB3.out.trans (hb.mono HB3.out.size)); have HK4 := Lib.hid (HK3.out.below hb HK3.out.lt); have HCU4 := Lib.hid (HCU3.out.later hb); clear hb))
  go_cut [10] (fun s10 wx => ∃ g : Nat, s10 = .pointer (some ⟨g, 0, none⟩) ∧ Blk wx g 98 #[.int .i64 (byteN ys 3), .int .i64 ((byteN ys 1 : Int) * 256 + (byteN ys 2 : Int)), .slice none 0 0] ∧ Cur w2 wx w2.heap.size bb 0 ys.length c 4 ∧ Blk wx w.heap.size 98 #[.int .i64 0, .int .i64 0, .slice none 0 0] ∧ w2.heap.size < g ∧ Below w.heap.size w wx)
  case first =>
    have HCD : Hid (Cur w2 w4.drew w2.heap.size bb 0 ys.length c 1) := HCU4.out.drew
    have HCA : Hid (∀ o, Cur w2 (w4.alloc o).drew w2.heap.size bb 0 ys.length c 1) := fun o => (HCU4.out.alloc o).drew
    have hg4 : w2.heap.size < w4.heap.size := HCU4.out.lt
    have n4 : ¬ w4.heap.size = w2.heap.size := Nat.ne_of_gt hg4
    go_region_held3 (fun _ => True) (exact trivial)
      (first
        | (go_at_call_of 79 (Value.int .i64 2); refine (take_2 w2 (fun k => k < w2.heap.size) w2.heap.size bb 0 c 1 ys _ (by first | exact HCD.out | exact HCA.out _) HSL.out (fun _ h => h) (by have := HL5.out; omega)).mono ?_; rintro e w5 ⟨rfl, hcu, hz5, hkp⟩; have HCU5 := Lib.hid hcu; have HKP5 := Lib.hid hkp; have HZ5 := Lib.hid hz5; have HK5 : Hid (Blk w5 w.heap.size 98 #[.int .i64 0, .int .i64 0, .slice none 0 0]) := Blk.kept (by first | exact HK4.out | exact HK4.out.alloc _) hkp (Nat.ne_of_lt HK2.out.lt); obtain ⟨q5, r5⟩ := cells_of_kept hkp; have n5 : ¬ w5.heap.size = w2.heap.size := Nat.ne_of_gt hcu.lt; clear hcu hz5 hkp)
        | (go_at_call 79; refine (take_1 w2 (fun k => k < w2.heap.size) w2.heap.size bb 0 c 3 ys _ (by first | exact HCU5.out | exact HCU5.out.alloc _) HSL.out (fun _ h => h) (by have := HL5.out; omega)).mono ?_; rintro e w6 ⟨rfl, hcu, hz6, hkp⟩; have HCU6 := Lib.hid hcu; have HKP6 := Lib.hid hkp; have HZ6 := Lib.hid hz6; have HK6 : Hid (Blk w6 w.heap.size 98 #[.int .i64 0, .int .i64 0, .slice none 0 0]) := Blk.kept (by first | exact HK5.out | exact HK5.out.alloc _) hkp (Nat.ne_of_lt HK2.out.lt); obtain ⟨q6, r6⟩ := cells_of_kept hkp; have n6 : ¬ w6.heap.size = w2.heap.size := Nat.ne_of_gt hcu.lt; clear hcu hz6 hkp))
    all_goals
      have HB6 := Lib.hid (HB2.out.trans (HCU6.out.below.mono HB2.out.size))
      have hw2 : w.heap.size ≤ w2.heap.size := HB2.out.size
      have hw3 : w.heap.size < w2.heap.size := HK2.out.lt
      go_wp2_with fail
      go_meet
    all_goals first
      | (exact ⟨_, rfl, Blk.new _ _ _, HCU6.out.alloc _, HK6.out.alloc _, HCU6.out.lt, HB6.out.alloc HB6.out.size _⟩)
      | (have h5 := HCU5.out.lt
         have e1 : w2.heap.size ≠ w5.heap.size := Nat.ne_of_lt h5
         have e2 : w.heap.size ≠ w5.heap.size := Nat.ne_of_lt (Nat.lt_trans hw3 h5)
         exact ⟨_, rfl, ((((Blk.new w5 _ _).kept HKP6.out n5).set 0 _).set 1 _).set 2 _, ((HCU6.out.far e1 (Nat.le_of_lt h5) _).far e1 (Nat.le_of_lt h5) _).far e1 (Nat.le_of_lt h5) _, ((HK6.out.far e2 _).far e2 _).far e2 _, h5, ((HB6.out.setCell (Nat.le_trans hw2 (Nat.le_of_lt h5)) _).setCell (Nat.le_trans hw2 (Nat.le_of_lt h5)) _).setCell (Nat.le_trans hw2 (Nat.le_of_lt h5)) _⟩)
      | (have e1 : w2.heap.size ≠ w4.heap.size := Nat.ne_of_lt hg4
         have e2 : w.heap.size ≠ w4.heap.size := Nat.ne_of_lt (Nat.lt_trans hw3 hg4)
         exact ⟨_, rfl, (((((Blk.new w4 _ _).kept HKP5.out n4).kept HKP6.out n4).set 0 _).set 1 _).set 2 _, ((HCU6.out.far e1 (Nat.le_of_lt hg4) _).far e1 (Nat.le_of_lt hg4) _).far e1 (Nat.le_of_lt hg4) _, ((HK6.out.far e2 _).far e2 _).far e2 _, hg4, ((HB6.out.setCell (Nat.le_trans hw2 (Nat.le_of_lt hg4)) _).setCell (Nat.le_trans hw2 (Nat.le_of_lt hg4)) _).setCell (Nat.le_trans hw2 (Nat.le_of_lt hg4)) _⟩)
  case rest =>
    obtain ⟨g, rfl, hkg, hcu, hkz, hg, hbx⟩ := hcut
    have HLT := Lib.hid HK2.out.lt
    have HSX : Hid (SlR byteR wc (fun k => k < w2.heap.size) (.slice (some ⟨bb, 0, none⟩) ys.length c) ys) := HSL.out.keep (Keep.of_below hcu.below fun _ h => h)
    have hdl : ((ys.drop 4).take (byteN ys 0)).length = byteN ys 0 := by rw [List.length_take, List.length_drop]; have := HLN.out; omega
    have hpart := byte_part HSX.out 4 (byteN ys 0) (by have := HL5.out; omega)
    rw [hdl] at hpart
    obtain ⟨_, c9, hc9, hcc, _⟩ := HSX.out.byte
    obtain rfl : c = c9 := by injection hc9
    have hcut := cut_h bb (0 + 4) (ys.length - 4) (c - 4) (byteN ys 0) (by have := HLN.out; omega)
    have HCL := Lib.hid (CloneByte_any _ _ _ _ hpart (by rw [hdl]; have := byteN_lt ys 0; omega))
    have d0 := hcu.cell
    have HKG := Lib.hid hkg
    have HKZ := Lib.hid hkz
    have HBX := Lib.hid hbx
    have HG := Lib.hid hg
    have hne : ¬ w.heap.size = g := Nat.ne_of_lt (Nat.lt_trans HLT.out hg)
    have hne2 : ¬ g = w.heap.size := fun e => hne e.symm
    have hb0 : (byteN ys 0 : Int) ≤ 1000000000 := by have := byteN_lt ys 0; omega
    clear hkg hcu hkz hbx hc9 hcc hpart hdl hg
    generalize hD : (ys.drop 4).take (byteN ys 0) = D at *
    have HD := Lib.hid hD
    clear hD
    generalize byteN ys 0 = n at *
    go_wp2_with (go_at_call 54; refine HCL.out.mono ?_; rintro e w7 ⟨v7, rfl, ho, hb⟩; have HO := Lib.hid ho; have HB7 := Lib.hid (HBX.out.trans (hb.mono HBX.out.size)); obtain ⟨k0, k1, k2, f0, f1, f2⟩ := (HKG.out.below hb HKG.out.lt).three; obtain ⟨z0, z1, z2, y0, y1, y2⟩ := (HKZ.out.below hb HKZ.out.lt).three; have HGX : Hid (g < wc.heap.size) := HKG.out.lt; obtain ⟨va, vc, rfl⟩ := ho.form; clear ho hb)
    have hsl := HO.out.slR (q := fun k => wc.heap.size ≤ k) (fun _ h => h.elim) (fun _ h => h)
    have hwl : w.heap.size ≤ wc.heap.size := HBX.out.size
    refine bodyPost_ret (v := .tuple #[.agg #[.int .i64 (byteN ys 3), .int .i64 ((byteN ys 1 : Int) * 256 + (byteN ys 2 : Int)), .slice va D.length vc], .int .i64 0]) (by simp [results, Tryz.results46, go_sem, z0, z1, z2]) rfl ⟨_, 0, .slice va D.length vc, HP.out, ?_, ?_, ?_⟩
    · simp
    · have e1 : ∀ k, wc.heap.size ≤ k → k ≠ g := fun k hk e => by have := HGX.out; omega
      have e2 : ∀ k, wc.heap.size ≤ k → k ≠ w.heap.size := fun k hk e => by have := HGX.out; have := HG.out; have := HLT.out; omega
      exact ((((hsl.keep (Keep.setCell (a := ⟨g, 2, none⟩) e1 _)).keep (Keep.setCell (a := ⟨w.heap.size, 0, none⟩) e2 _)).keep (Keep.setCell (a := ⟨w.heap.size, 1, none⟩) e2 _)).keep (Keep.setCell (a := ⟨w.heap.size, 2, none⟩) e2 _)).mono fun _ hk => Nat.le_trans hwl hk
    · have hg : w.heap.size ≤ g := by have := HG.out; have := HLT.out; omega
      exact (((HB7.out.setCell hg _).setCell (Nat.le_refl _) _).setCell (Nat.le_refl _) _).setCell (Nat.le_refl _) _
theorem Parse_any (s : ByteArray) (w : World) (hs : s.size ≤ 1000000000) :
    Calls Tryz.prog 46 #[.string s] w (ParseP w s.data.toList) := by
  by_cases h : ∃ r, s.data.toList = 58 :: r
  · obtain ⟨r, hr⟩ := h
    obtain rfl := ba_of hr
    have hrs : r.length ≤ 1000000000 := by
      have h1 : (58 :: r).toArray.size ≤ 1000000000 := hs
      simp at h1
      omega
    show Calls _ _ _ _ (ParseP w (58 :: r))
    cases hb : bytesH r with
    | none => exact Parse_none r w hrs hb
    | some ys =>
      by_cases h5 : ys.length < 5
      · exact Parse_short r ys w hrs hb h5
      · by_cases hn : byteN ys 0 + 5 = ys.length
        · by_cases hz : sumN ys = 0
          · exact Parse_ok r ys w hrs hb (by omega) hn hz
          · exact Parse_sum r ys w hrs hb (by omega) hn hz
        · exact Parse_len r ys w hrs hb (by omega) hn
  · exact Parse_no s w hs fun r e => h ⟨r, e⟩
end Go.Proofs.YtcfjcoockklkeaaGreatDoor
