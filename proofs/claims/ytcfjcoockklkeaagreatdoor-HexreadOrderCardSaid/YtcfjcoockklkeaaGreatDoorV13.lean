/-
  breadboardref03.Parse. Conditions: the line's size.
-/
import Derived.Test.YtcfjcoockklkeaaGreatDoorV11
namespace Go.Proofs.YtcfjcoockklkeaaGreatDoor
open Go.RowKit

theorem parseH_short (l : List UInt8) (h : l.length < 11) : parseH l = (3, recZ) := by
  cases l with
  | nil => rfl
  | cons c r =>
    by_cases hc : c = 58
    · subst hc
      rw [parseH_colon]
      cases hb : bytesH r with
      | none => rfl
      | some ys =>
        show parseB ys = _
        have := bytesH_len r ys hb
        simp at h
        unfold parseB
        rw [if_pos (by omega)]
    · unfold parseH
      dsimp only
      rw [if_neg hc]
theorem parseH_nocol {c : UInt8} {r : List UInt8} (h : c ≠ 58) : parseH (c :: r) = (3, recZ) := by
  unfold parseH
  dsimp only
  rw [if_neg h]
theorem sum_last (l : List UInt8) (c : UInt8) : c = sum03 l ↔ sumN (l ++ [c]) = 0 := by
  have h := sumN_256 l
  have e : ((sum03 l).toNat : Int) = ((256 - (sumN l : Int)) % 256) % 256 := lowB_is _
  have hc := c.toNat_lt
  rw [sumN_app]
  constructor
  · intro he
    rw [he]
    omega
  · intro he
    refine UInt8.toNat_inj.1 ?_
    omega
theorem b1_none (s : ByteArray) (w : World) (hs : s.size ≤ 1000000) (h : bytesH s.data.toList = none) : Calls Tryz.prog 49 #[.string s] w fun e w' => e = .returned (.tuple #[.slice none 0 0, .bool false]) ∧ Below w.heap.size w w' :=
  (Bytes01_any s w hs).mono fun e w' ⟨h1, h2⟩ => by
    rcases h1 with ⟨_, rfl⟩ | ⟨v, ys, hy, _⟩
    · exact ⟨rfl, h2⟩
    · rw [h] at hy; cases hy
theorem b1_yes (s : ByteArray) (ys : List UInt8) (w : World) (hs : s.size ≤ 1000000) (h : bytesH s.data.toList = some ys) : Calls Tryz.prog 49 #[.string s] w fun e w' => ∃ a c, e = .returned (.tuple #[.slice a ys.length c, .bool true]) ∧ Own byteR w' w.heap.size 5 NoB (.slice a ys.length c) ys ∧ Below w.heap.size w w' :=
  (Bytes01_any s w hs).mono fun e w' ⟨h1, h2⟩ => by
    rcases h1 with ⟨hn, rfl⟩ | ⟨v, zs, hy, rfl, ho⟩
    · rw [h] at hn; cases hn
    · rw [h] at hy
      injection hy with hy
      subst hy
      obtain ⟨a, c, rfl⟩ := ho.form
      exact ⟨a, c, rfl, ho, h2⟩
set_option maxHeartbeats 2000000 in
set_option maxRecDepth 100000 in
theorem Parse3_no (s : ByteArray) (w : World) (hs : s.size ≤ 1000000) (h : s.size < 11 ∨ ∃ c r, s.data.toList = c :: r ∧ c ≠ 58) :
    Calls Tryz.prog 25 #[.string s] w (ParseP w s.data.toList) := by
  have HB0 : Hid (Below w.heap.size w (w.alloc (.cells #[.int .i64 0, .int .i64 0, .slice none 0 0] 57))) := (Below.refl _ w).alloc (Nat.le_refl _) _
  have hs1 : (s.size : Int) ≤ 1000000 := by omega
  by_cases h11 : s.size < 11
  · have HP : Hid (parseH s.data.toList = (3, recZ)) := parseH_short _ (by simpa using h11)
    clear h hs
    go_enter Tryz.func25, Tryz.ntmps25
    go_wp2
    exact bodyPost_ret (v := .tuple #[.agg #[.int .i64 0, .int .i64 0, .slice none 0 0], .int .i64 3]) (by simp [results, Tryz.results25, go_sem]) rfl (ParseP.bad HP.out HB0.out)
  · obtain ⟨c, r, hl, hc⟩ : ∃ c r, s.data.toList = c :: r ∧ c ≠ 58 := by
      rcases h with h | h
      · omega
      · exact h
    have HP : Hid (parseH s.data.toList = (3, recZ)) := by show _ = _; rw [hl]; exact parseH_nocol hc
    have h0 : 0 < s.size := by omega
    have e0 : s[0] = c := by
      have : s.data.toList[0]? = some c := by rw [hl]; rfl
      rw [List.getElem?_eq_getElem (by simpa using h0)] at this
      injection this
    have hne : ((s[0].toNat : Int) != 58) = true := by rw [bne_iff_ne, e0]; intro e; exact hc (UInt8.toNat_inj.1 (by show _ = 58; omega))
    have hge : ¬ (s.size : Int) < 11 := by omega
    clear h hs hl hc e0 h11
    go_enter Tryz.func25, Tryz.ntmps25
    go_wp2
    exact bodyPost_ret (v := .tuple #[.agg #[.int .i64 0, .int .i64 0, .slice none 0 0], .int .i64 3]) (by simp [results, Tryz.results25, go_sem]) rfl (ParseP.bad HP.out HB0.out)
theorem colon_facts {s : ByteArray} {r : List UInt8} (h11 : ¬ s.size < 11) (hl : s.data.toList = 58 :: r) (h0 : 0 < s.size) : ((s[0].toNat : Int) != 58) = false ∧ (s.extract 1 s.size).data.toList = r ∧ r.length + 1 = s.size ∧ (s.extract 1 s.size).size ≤ s.size := by
  have hsz : s.data.toList.length = s.size := by simp
  refine ⟨?_, ?_, ?_, ?_⟩
  · have : s.data.toList[0]? = some 58 := by rw [hl]; rfl
    rw [List.getElem?_eq_getElem (by simpa using h0)] at this
    injection this with this
    have e0 : s[0] = 58 := this
    rw [e0]; rfl
  · rw [extract_take, hl, List.take_of_length_le]
    · rfl
    · have : (58 :: r).length = s.size := by rw [← hl]; exact hsz
      simp at this ⊢
      omega
  · have : (58 :: r).length = s.size := by rw [← hl]; exact hsz
    simpa using this
  · rw [ByteArray.size_extract]; omega
set_option maxHeartbeats 2000000 in
set_option maxRecDepth 100000 in
theorem Parse3_none (s : ByteArray) (r : List UInt8) (w : World) (hs : s.size ≤ 1000000) (h11 : ¬ s.size < 11) (hl : s.data.toList = 58 :: r) (h : bytesH r = none) :
    Calls Tryz.prog 25 #[.string s] w (ParseP w s.data.toList) := by
  have HB0 : Hid (Below w.heap.size w (w.alloc (.cells #[.int .i64 0, .int .i64 0, .slice none 0 0] 57))) := (Below.refl _ w).alloc (Nat.le_refl _) _
  have HK := Lib.hid (Blk.new w 57 #[.int .i64 0, .int .i64 0, .slice none 0 0])
  have h0 : 0 < s.size := by omega
  obtain ⟨hne, hx, _, hxs⟩ := colon_facts h11 hl h0
  have hs1 : (s.size : Int) ≤ 1000000 := by omega
  have HB := Lib.hid (fun W => b1_none (s.extract 1 s.size) W (by omega) (by rw [hx]; exact h))
  have HP : Hid (parseH s.data.toList = (3, recZ)) := by show _ = _; rw [hl, parseH_colon, h]
  have hge : ¬ (s.size : Int) < 11 := by omega
  have hge2 : (11 : Int) ≤ (s.size : Int) := by omega
  clear h11 hl h hx hxs hs
  go_enter Tryz.func25, Tryz.ntmps25
  go_wp2_with (go_at_call 49; refine (HB.out _).mono ?_; rintro e w2 ⟨rfl, hb⟩; have HB2 := Lib.hid (HB0.out.trans (hb.mono HB0.out.size)); obtain ⟨k0, k1, k2, f0, f1, f2⟩ := (HK.out.below hb HK.out.lt).three; clear hb)
  exact bodyPost_ret (v := .tuple #[.agg #[.int .i64 0, .int .i64 0, .slice none 0 0], .int .i64 3]) (by simp [results, Tryz.results25, go_sem, k0, k1, k2]) rfl (ParseP.bad HP.out (((HB2.out.setCell (Nat.le_refl _) _).setCell (Nat.le_refl _) _).setCell (Nat.le_refl _) _))
theorem byte_cell {w : World} {p : Blocks} {b o c n : Nat} {l : List UInt8} (h : SlR byteR w p (.slice (some ⟨b, o, none⟩) n c) l) {i : Nat} (hi : i < l.length) : w.cell? ⟨b, o + i, none⟩ = some (.int .u8 l[i].toNat) := by
  obtain ⟨a, c', hv, _, _, g⟩ := h.byte
  obtain ⟨b1, o1, ha, _, hc⟩ := g i l[i] (List.getElem?_eq_getElem hi)
  injection hv with hv _ _
  rw [ha] at hv
  injection hv with hv
  injection hv with h1 h2
  subst h1 h2
  exact hc
theorem byteN_cell {w : World} {p : Blocks} {b c n : Nat} {l : List UInt8} (h : SlR byteR w p (.slice (some ⟨b, 0, none⟩) n c) l) {i : Nat} (hi : i < l.length) : w.cell? ⟨b, i, none⟩ = some (.int .u8 (byteN l i : Nat)) := by
  have := byte_cell h hi
  rw [Nat.zero_add] at this
  rw [byteN_at hi]
  exact this
set_option maxHeartbeats 2000000 in
set_option maxRecDepth 100000 in
theorem Parse3_len (s : ByteArray) (r ys : List UInt8) (w : World) (hs : s.size ≤ 1000000) (h11 : ¬ s.size < 11) (hl : s.data.toList = 58 :: r) (h : bytesH r = some ys) (hn : byteN ys 0 + 5 ≠ ys.length) :
    Calls Tryz.prog 25 #[.string s] w (ParseP w s.data.toList) := by
  have HB0 : Hid (Below w.heap.size w (w.alloc (.cells #[.int .i64 0, .int .i64 0, .slice none 0 0] 57))) := (Below.refl _ w).alloc (Nat.le_refl _) _
  have HK := Lib.hid (Blk.new w 57 #[.int .i64 0, .int .i64 0, .slice none 0 0])
  have h0 : 0 < s.size := by omega
  obtain ⟨hne, hx, hrl, hxs⟩ := colon_facts h11 hl h0
  have hs1 : (s.size : Int) ≤ 1000000 := by omega
  have hyl := bytesH_len r ys h
  have HB := Lib.hid (fun W => b1_yes (s.extract 1 s.size) ys W (by omega) (by rw [hx]; exact h))
  have HP : Hid (parseH s.data.toList = (6, recZ)) := by show _ = _; rw [hl, parseH_colon, h]; show parseB ys = _; unfold parseB; rw [if_neg (by omega), if_pos hn]
  have hge : ¬ (s.size : Int) < 11 := by omega
  have hge2 : (11 : Int) ≤ (s.size : Int) := by omega
  have hl5 : (5 : Int) ≤ (ys.length : Int) := by omega
  have hl6 : (ys.length : Int) ≤ 1000000 := by omega
  have HL5 : Hid (5 ≤ ys.length) := by show _ ≤ _; omega
  have hb0 : (byteN ys 0 : Int) < 256 := by have := byteN_lt ys 0; omega
  have hb00 : (0 : Int) ≤ (byteN ys 0 : Int) := by omega
  have hnb : ((byteN ys 0 : Int) != (ys.length : Int) - 5) = true := by rw [bne_iff_ne]; omega
  clear h11 hl h hx hxs hs hn hyl hrl
  go_enter Tryz.func25, Tryz.ntmps25
  go_wp2_with (go_at_call 49; refine (HB.out _).mono ?_; rintro e w2 ⟨a, c, rfl, ho, hb⟩; have HB2 := Lib.hid (HB0.out.trans (hb.mono HB0.out.size)); obtain ⟨k0, k1, k2, f0, f1, f2⟩ := (HK.out.below hb HK.out.lt).three; obtain ⟨bb, c', hv, hbb⟩ := own_someV ho (by have := HL5.out; omega); obtain ⟨rfl, rfl⟩ : a = some ⟨bb, 0, none⟩ ∧ c = c' := (by injection hv with h1 h2 h3; exact ⟨h1, h3⟩); have q0 := byteN_cell (ho.slR (q := fun _ => True) (fun _ h => h.elim) (fun _ _ => trivial)) (i := 0) (by have := HL5.out; omega); clear hb ho hv hbb)
  exact bodyPost_ret (v := .tuple #[.agg #[.int .i64 0, .int .i64 0, .slice none 0 0], .int .i64 6]) (by simp [results, Tryz.results25, go_sem, k0, k1, k2]) rfl (ParseP.bad HP.out (((HB2.out.setCell (Nat.le_refl _) _).setCell (Nat.le_refl _) _).setCell (Nat.le_refl _) _))
theorem last_split {ys : List UInt8} (h : 0 < ys.length) : ys = ys.take (ys.length - 1) ++ [UInt8.ofNat (byteN ys (ys.length - 1))] := by
  have e : UInt8.ofNat (byteN ys (ys.length - 1)) = ys[ys.length - 1] := by rw [byteN_at (by omega), UInt8.ofNat_toNat]
  rw [e]
  conv => lhs; rw [← List.take_append_drop (ys.length - 1) ys, List.drop_eq_getElem_cons (by omega), List.drop_eq_nil_of_le (by omega)]
theorem sum_test {ys : List UInt8} (h : 0 < ys.length) : byteN ys (ys.length - 1) = (sum03 (ys.take (ys.length - 1))).toNat ↔ sumN ys = 0 := by
  conv => rhs; rw [last_split h]
  rw [← sum_last]
  constructor
  · intro e; rw [e, UInt8.ofNat_toNat]
  · intro e; rw [← e, ofNat_toNat (byteN_lt _ _)]
theorem cut_lh4 (b len cap h : Nat) (h1 : 4 ≤ h) (h2 : h ≤ cap) (h4 : 4 < cap) (W : World) : (Instr.sliceAt 55 (.slice (some ⟨b, 0, none⟩) len cap) (some (.int .i64 4)) (some (.int .i64 (h : Int))) none).run Tryz.prog W = .ok (.slice (some ⟨b, 4, none⟩) (h - 4) (cap - 4)) W := by
  rw [run_sliceAt_slice _ _ _ _ _ _ (by kernel_rfl), run_slice_lh W _ (some ⟨b, 0, none⟩) len cap (by kernel_rfl) .i64 .i64 4 (h : Int) (by omega) (by omega) (by omega)]
  go_simp
  omega
set_option maxHeartbeats 4000000 in
set_option maxRecDepth 100000 in
theorem Parse3_rest (s : ByteArray) (r ys : List UInt8) (w : World) (hs : s.size ≤ 1000000) (h11 : ¬ s.size < 11) (hl : s.data.toList = 58 :: r) (h : bytesH r = some ys) (hn : byteN ys 0 + 5 = ys.length) :
    Calls Tryz.prog 25 #[.string s] w (ParseP w s.data.toList) := by
  have HB0 : Hid (Below w.heap.size w (w.alloc (.cells #[.int .i64 0, .int .i64 0, .slice none 0 0] 57))) := (Below.refl _ w).alloc (Nat.le_refl _) _
  have HK := Lib.hid (Blk.new w 57 #[.int .i64 0, .int .i64 0, .slice none 0 0])
  have h0 : 0 < s.size := by omega
  obtain ⟨hne, hx, hrl, hxs⟩ := colon_facts h11 hl h0
  have hs1 : (s.size : Int) ≤ 1000000 := by omega
  have hyl := bytesH_len r ys h
  obtain ⟨n1, hn1⟩ : ∃ n1, ys.length = n1 + 1 := ⟨ys.length - 1, by omega⟩
  have HB := Lib.hid (fun W => b1_yes (s.extract 1 s.size) ys W (by omega) (by rw [hx]; exact h))
  rw [hn1] at HB
  have HP : Hid (sumN ys ≠ 0 → parseH s.data.toList = (5, recZ)) := by
    intro hz
    rw [hl, parseH_colon, h]
    show parseB ys = _
    unfold parseB
    rw [if_neg (by omega), if_neg (by omega), if_pos hz]
  have HP0 : Hid (sumN ys = 0 → parseH s.data.toList = (0, ⟨byteN ys 3, byteN ys 1 * 256 + byteN ys 2, (ys.drop 4).take (n1 - 4)⟩)) := by
    intro hz
    rw [hl, parseH_colon, h]
    show parseB ys = _
    unfold parseB
    rw [if_neg (by omega), if_neg (by omega), if_neg (by omega), show ys.length - 5 = n1 - 4 by omega]
  have hge : ¬ (s.size : Int) < 11 := by omega
  have hge2 : (11 : Int) ≤ (s.size : Int) := by omega
  have hn4 : (4 : Int) ≤ (n1 : Int) := by omega
  have hn6 : (n1 : Int) ≤ 1000000 := by omega
  have HL1 := Lib.hid hn1
  have HN4 : Hid (4 ≤ n1) := by show _ ≤ _; omega
  have hb0 : (byteN ys 0 : Int) < 256 := by have := byteN_lt ys 0; omega
  have hb00 : (0 : Int) ≤ (byteN ys 0 : Int) := by omega
  have hnb : ((byteN ys 0 : Int) != (n1 : Int) + 1 - 5) = false := by rw [bne_eq_false_iff_eq]; omega
  have hnb2 : ((byteN ys 0 : Int) != (n1 : Int) - 4) = false := by rw [bne_eq_false_iff_eq]; omega
  have HST := Lib.hid (sum_test (ys := ys) (by omega))
  rw [hn1, Nat.add_sub_cancel] at HST
  clear h11 hl h hx hxs hs hn hyl hrl hn1
  go_enter Tryz.func25, Tryz.ntmps25
  go_upto_region 9 with (go_at_call 49; refine (HB.out _).mono ?_; rintro e w2 ⟨a, c, rfl, ho, hb⟩; have HB2 := Lib.hid (HB0.out.trans (hb.mono HB0.out.size)); have HK2 := Lib.hid (HK.out.below hb HK.out.lt); obtain ⟨bb, c', hv, hbb⟩ := own_someV ho (by have := HL1.out; omega); obtain ⟨rfl, rfl⟩ : a = some ⟨bb, 0, none⟩ ∧ c = c' := (by injection hv with h1 h2 h3; exact ⟨h1, h3⟩); have hsl := ho.slR (q := fun k => w.heap.size < k) (fun _ h => h.elim) (fun k h => by rw [World.size_alloc] at h; omega); have q0 := byteN_cell hsl (i := 0) (by have := HL1.out; omega); have HSL := Lib.hid hsl; have HBB := Lib.hid hbb; clear hb ho hv hbb hsl)
  have hsl1 := byte_part (l := ys) (b := bb) (o := 0) (c := c) (w := w2) (q := fun k => w.heap.size < k) (by rw [HL1.out]; exact HSL.out) 0 n1 (Nat.zero_le _)
  have hln : ((ys.drop 0).take n1).length = n1 := by rw [List.length_take, List.drop_zero]; have := HL1.out; omega
  rw [hln, List.drop_zero, Nat.add_zero, Nat.sub_zero] at hsl1
  have HSM := Lib.hid (fun n => (Sum03_any _ _ _ (w2.drewN n) (hsl1.drewN n)).mono fun _ _ ⟨h1, h2⟩ => (⟨h1, h2.symm⟩ : _ ∧ _))
  have q1 := byteN_cell HSL.out (i := n1) (by have := HL1.out; omega)
  obtain ⟨_, c9, hc9, hcc, _⟩ := HSL.out.byte
  obtain rfl : c = c9 := by injection hc9
  have hcc : n1 + 1 ≤ c := by have := HL1.out; omega
  have hcut := cut_h bb 0 (n1 + 1) c n1 (by omega)
  have HCC := Lib.hid hcc
  have HWB : Hid (w.heap.size < bb) := by show _ < _; have := HBB.out.1; rw [World.size_alloc] at this; omega
  clear hsl1 hln hc9 hcc
  have hlb : (byteN ys n1 : Int) < 256 := by have := byteN_lt ys n1; omega
  have hwr : IntKind.i64.wrap (n1 : Int) = (n1 : Int) := by rw [IntKind.wrap_i64]; omega
  have hi0 : (0 : Int) ≤ (n1 : Int) := by omega
  have hi1 : (n1 : Int) < (n1 : Int) + 1 := by omega
  by_cases hz : sumN ys = 0
  · have HPP := Lib.hid (HP0.out hz)
    have e9 := HST.out.2 hz
    rw [← e9] at HSM
    have HZ := Lib.hid hz
    clear hz HP HP0 HST e9
    go_quiet ((go_at_call 50; exact Calls.quiet_of_same (HSM.out _)))
    have p1 := byteN_cell HSL.out (i := 1) (by have := HL1.out; have := HN4.out; omega)
    have p2 := byteN_cell HSL.out (i := 2) (by have := HL1.out; have := HN4.out; omega)
    have p3 := byteN_cell HSL.out (i := 3) (by have := HL1.out; have := HN4.out; omega)
    have HPART := Lib.hid ((byte_part (l := ys) (b := bb) (o := 0) (c := c) (w := w2) (q := fun k => w.heap.size < k) (by rw [HL1.out]; exact HSL.out) 4 (n1 - 4) (by have := HL1.out; have := HN4.out; omega)).drewN nq)
    have HPL : Hid (((ys.drop 4).take (n1 - 4)).length = n1 - 4) := by show _ = _; rw [List.length_take, List.length_drop]; have := HL1.out; omega
    have hcut2 := cut_lh4 bb (n1 + 1) c n1 (by have := HN4.out; omega) (by have := HCC.out; omega) (by have := HN4.out; have := HCC.out; omega)
    obtain ⟨k0, k1, k2, f0, f1, f2⟩ := HK2.out.three
    have HBX : Hid (Below w.heap.size w (w2.drewN nq)) := below_dN HB2.out nq
    replace p1 : (w2.drewN nq).cell? ⟨bb, 1, none⟩ = some (.int .u8 (byteN ys 1 : Nat)) := p1
    replace p2 : (w2.drewN nq).cell? ⟨bb, 2, none⟩ = some (.int .u8 (byteN ys 2 : Nat)) := p2
    replace p3 : (w2.drewN nq).cell? ⟨bb, 3, none⟩ = some (.int .u8 (byteN ys 3 : Nat)) := p3
    replace k0 : (w2.drewN nq).cell? ⟨w.heap.size, 0, none⟩ = some (.int .i64 0) := k0
    replace k1 : (w2.drewN nq).cell? ⟨w.heap.size, 1, none⟩ = some (.int .i64 0) := k1
    replace k2 : (w2.drewN nq).cell? ⟨w.heap.size, 2, none⟩ = some (.slice none 0 0) := k2
    replace f0 : (w2.drewN nq).frozen? ⟨w.heap.size, 0, none⟩ = false := f0
    replace f1 : (w2.drewN nq).frozen? ⟨w.heap.size, 1, none⟩ = false := f1
    replace f2 : (w2.drewN nq).frozen? ⟨w.heap.size, 2, none⟩ = false := f2
    have hne1 : ¬ w.heap.size = bb := Nat.ne_of_lt HWB.out
    have hne2 : ¬ bb = w.heap.size := fun e => hne1 e.symm
    clear q0 q1 hcut HSM HSL HB2 HK2
    have i1 : (1 : Int) < (n1 : Int) + 1 := by omega
    have i2 : (2 : Int) < (n1 : Int) + 1 := by omega
    have i3 : (3 : Int) < (n1 : Int) + 1 := by omega
    have j1 : (1 : Int) ≤ (n1 : Int) := by omega
    have j2 : (2 : Int) ≤ (n1 : Int) := by omega
    have j3 : (3 : Int) ≤ (n1 : Int) := by omega
    have hw1 : IntKind.i64.wrap ((byteN ys 1 : Int) * 256) = (byteN ys 1 : Int) * 256 := by have := byteN_lt ys 1; rw [IntKind.wrap_i64]; omega
    have hw2 : IntKind.i64.wrap ((byteN ys 1 : Int) * 256 + (byteN ys 2 : Int)) = (byteN ys 1 : Int) * 256 + (byteN ys 2 : Int) := by have := byteN_lt ys 1; have := byteN_lt ys 2; rw [IntKind.wrap_i64]; omega
    have hw3 : IntKind.i64.wrap (byteN ys 1 : Int) = (byteN ys 1 : Int) := by have := byteN_lt ys 1; rw [IntKind.wrap_i64]; omega
    have hw4 : IntKind.i64.wrap (byteN ys 2 : Int) = (byteN ys 2 : Int) := by have := byteN_lt ys 2; rw [IntKind.wrap_i64]; omega
    have hw5 : IntKind.i64.wrap (byteN ys 3 : Int) = (byteN ys 3 : Int) := by have := byteN_lt ys 3; rw [IntKind.wrap_i64]; omega
    generalize w2.drewN nq = wq at *
    have hl1 : (byteN ys 1 : Int) < 256 := by have := byteN_lt ys 1; omega
    have hl2 : (byteN ys 2 : Int) < 256 := by have := byteN_lt ys 2; omega
    have hl3 : (byteN ys 3 : Int) < 256 := by have := byteN_lt ys 3; omega
    have hl1' : (0 : Int) ≤ (byteN ys 1 : Int) := by omega
    have hl2' : (0 : Int) ≤ (byteN ys 2 : Int) := by omega
    have hl3' : (0 : Int) ≤ (byteN ys 3 : Int) := by omega
    go_upto_region 11 with fail
    go_region_held3 (fun w' => w'.cell? ⟨bb, 1, none⟩ = some (.int .u8 (byteN ys 1 : Nat)) ∧ w'.cell? ⟨bb, 2, none⟩ = some (.int .u8 (byteN ys 2 : Nat)) ∧ w'.cell? ⟨bb, 3, none⟩ = some (.int .u8 (byteN ys 3 : Nat))) (go_keep) (fail)
    go_wp2
    have hpt := HPART.out
    rw [HPL.out] at hpt
    refine bodyPost_ret (v := .tuple #[.agg #[.int .i64 (byteN ys 3), .int .i64 ((byteN ys 1 : Int) * 256 + (byteN ys 2 : Int)), .slice (some ⟨bb, 4, none⟩) (n1 - 4) (c - 4)], .int .i64 0]) (by simp [results, Tryz.results25, go_sem, k0, k1, k2]) rfl ⟨_, 0, .slice (some ⟨bb, 4, none⟩) (n1 - 4) (c - 4), HPP.out, ?_, ?_, ?_⟩
    · simp
    · have e2 : ∀ k, w.heap.size < k → k ≠ w.heap.size := fun k hk e => by omega
      exact ((((hpt.keep (Keep.setCell (a := ⟨w.heap.size, 0, none⟩) e2 _)).keep (Keep.setCell (a := ⟨w.heap.size, 1, none⟩) e2 _)).keep (Keep.setCell (a := ⟨w.heap.size, 2, none⟩) e2 _)).drew).mono fun _ hk => Nat.le_of_lt hk
    · exact (((HBX.out.setCell (Nat.le_refl _) _).setCell (Nat.le_refl _) _).setCell (Nat.le_refl _) _).drew
  · have HPP := Lib.hid (HP.out hz)
    have hne9 : ((byteN ys n1 : Int) != ((sum03 (ys.take n1)).toNat : Int)) = true := by rw [bne_iff_ne]; intro e; exact hz (HST.out.1 (by omega))
    clear hz HP HP0 HST
    go_quiet ((go_at_call 50; exact Calls.quiet_of_same (HSM.out _)))
    obtain ⟨k0, k1, k2, f0, f1, f2⟩ := HK2.out.three
    go_wp2
    exact bodyPost_ret (v := .tuple #[.agg #[.int .i64 0, .int .i64 0, .slice none 0 0], .int .i64 5]) (by simp [results, Tryz.results25, go_sem, k0, k1, k2]) rfl (ParseP.bad HPP.out ((((below_dN HB2.out nq).setCell (Nat.le_refl _) _).setCell (Nat.le_refl _) _).setCell (Nat.le_refl _) _))
theorem Parse3_any (s : ByteArray) (w : World) (hs : s.size ≤ 1000000) :
    Calls Tryz.prog 25 #[.string s] w (ParseP w s.data.toList) := by
  by_cases h11 : s.size < 11
  · exact Parse3_no s w hs (.inl h11)
  · cases hl : s.data.toList with
    | nil =>
      have : s.data.toList.length = s.size := by simp
      rw [hl] at this
      simp at this
      omega
    | cons c r =>
      rw [← hl]
      by_cases hc : c = 58
      · subst hc
        cases hb : bytesH r with
        | none => exact Parse3_none s r w hs h11 hl hb
        | some ys =>
          by_cases hn : byteN ys 0 + 5 = ys.length
          · exact Parse3_rest s r ys w hs h11 hl hb hn
          · exact Parse3_len s r ys w hs h11 hl hb hn
      · exact Parse3_no s w hs (.inr ⟨c, r, hl, hc⟩)
end Go.Proofs.YtcfjcoockklkeaaGreatDoor
