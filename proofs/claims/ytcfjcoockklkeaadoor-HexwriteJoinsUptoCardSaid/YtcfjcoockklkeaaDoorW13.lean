/-
  hexwrite.Dump. Conditions: none.
-/
import Derived.Test.YtcfjcoockklkeaaDoorW12
namespace Go.Proofs.YtcfjcoockklkeaaDoor
open Go.RowKit

def dumpR (r : Nat × List UInt8) : ByteArray := dumpB r.1 r.2
theorem parts_take {R : List (Nat × List UInt8)} {k : Nat} (hk : k < R.length) : parts (R.take (k + 1)) = parts (R.take k) ++ partL R[k].1 R[k].2 := by
  rw [List.take_succ_eq_append_getElem hk]
  unfold parts
  rw [List.flatMap_append]
  simp
theorem partL_le : ∀ (k a : Nat) (l : List UInt8), l.length ≤ k → (partL a l).length ≤ l.length
  | 0, a, l, h => by
    obtain rfl : l = [] := List.length_eq_zero_iff.1 (by omega)
    simp [partL_nil]
  | k + 1, a, l, h => by
    by_cases hl : l = []
    · subst hl; simp [partL_nil]
    · have hp := List.length_pos_iff.2 hl
      obtain ⟨i1, i2, _⟩ := inLine_pos (a := a) hp
      rw [partL_step a l hl, List.length_cons]
      have := partL_le k (a + inLine a l.length) (l.drop (inLine a l.length)) (by rw [List.length_drop]; omega)
      rw [List.length_drop] at this
      omega
theorem parts_count : ∀ {R : List (Nat × List UInt8)} {lo : Nat}, Sep lo R → R = [] ∨ (parts R).length + lo ≤ 65536
  | [], _, _ => .inl rfl
  | (a, l) :: R, lo, h => by
    obtain ⟨h1, h2, h3, h4⟩ := h
    right
    have hs := partL_le l.length a l (Nat.le_refl _)
    have hc : (parts ((a, l) :: R)).length = (partL a l).length + (parts R).length := by
      unfold parts
      rw [List.flatMap_cons, List.length_append]
    rw [hc]
    rcases parts_count h4 with rfl | h5
    · have : (parts []).length = 0 := rfl
      omega
    · omega
theorem parts_le {R : List (Nat × List UInt8)} {lo : Nat} (h : Sep lo R) : (parts R).length ≤ 65536 := by
  rcases parts_count h with rfl | h
  · simp [parts]
  · omega
theorem parts_mono (R : List (Nat × List UInt8)) (k : Nat) : (parts (R.take k)).length ≤ (parts R).length := by
  have : parts R = parts (R.take k) ++ parts (R.drop k) := by
    unfold parts
    rw [← List.flatMap_append, List.take_append_drop]
  rw [this, List.length_append]; omega
theorem dump_text (R : List (Nat × List UInt8)) : joinS ((parts R).map dumpR) = dumpOf R := by
  unfold joinS dumpOf
  rw [List.map_map]
  rfl
theorem dumpLine_len (a : Nat) (l : List UInt8) : (dumpLine a l).length = 5 + 3 * l.length := by
  have hfl : ∀ m : List UInt8, (m.flatMap (fun b => 32 :: byteTxt b)).length = 3 * m.length := fun m => by
    induction m with
    | nil => rfl
    | cons x m ih => rw [List.flatMap_cons, List.length_append, ih, List.length_cons, List.length_cons, byteTxt_len]; omega
  unfold dumpLine
  rw [List.length_append, List.length_cons, hexs_len, hfl]; omega
theorem lined_le : ∀ {D : List (Nat × List UInt8)} {p : Option Nat}, Lined p D → ∀ r ∈ D, r.2.length ≤ 16
  | [], _, _, r, hr => by cases hr
  | (a, l) :: D, p, h, r, hr => by
    obtain ⟨h1, h2, h3, h4⟩ := h
    rcases List.mem_cons.1 hr with rfl | hr
    · show l.length ≤ 16; omega
    · exact lined_le h4 r hr
theorem dumpOf_len {R : List (Nat × List UInt8)} (h : Sep 0 R) : (dumpOf R).length ≤ 1000000000 := by
  have hl : ∀ D : List (Nat × List UInt8), (∀ r ∈ D, r.2.length ≤ 16) → (joinL (D.map fun r => dumpLine r.1 r.2)).length ≤ 54 * D.length := by
    intro D
    induction D with
    | nil => intro _; exact Nat.zero_le _
    | cons r D ih =>
      intro hD
      have h1 := ih (fun x hx => hD x (by simp [hx]))
      have h2 := hD r (by simp)
      rw [List.map_cons, joinL_cons, List.length_append, List.length_cons, dumpLine_len, List.length_cons]
      omega
  have h1 := hl (parts R) (lined_le (parts_lined R 0 none h (fun x hx => by cases hx)))
  have h2 := parts_le h
  unfold dumpOf
  omega
/-- what stands while a run is listed -/
structure DpI (w0 : World) (bO : Nat) (R : List (Nat × List UInt8)) (v9 : Value) (done : List (Nat × List UInt8)) (w : World) : Prop where
  str : StrI w0 bO (done.map dumpR) w
  runs : SlR runR w (TyB w dataTs) v9 R
theorem DpI.later {w0 : World} {bO : Nat} {R : List (Nat × List UInt8)} {v9 : Value} {done : List (Nat × List UInt8)} {w w' : World} (h : DpI w0 bO R v9 done w) (hb : Below w.heap.size w w') : DpI w0 bO R v9 done w' := ⟨h.str.later hb, h.runs.tb hb⟩
theorem part_cut {w : World} {p : Blocks} {sa : Option Addr} {c n : Nat} {l : List UInt8} (h : SlR byteR w p (.slice sa l.length c) l) (hn : n ≤ l.length) : SlR byteR w p (.slice sa n c) (l.take n) := by
  obtain ⟨a', c', e, h1, h2, h3⟩ := h
  injection e with e1 e2 e3
  subst e1 e3
  have hlen : (l.take n).length = n := by simp; omega
  refine ⟨_, _, by rw [hlen], by omega, h2, fun i y hy => ?_⟩
  have hi : i < n := by rw [← hlen]; exact (List.getElem?_eq_some_iff.1 hy).1
  rw [List.getElem?_take, if_pos hi] at hy
  exact h3 i y hy
theorem part_rest {w : World} {p : Blocks} {b o c n : Nat} {l : List UInt8} (h : SlR byteR w p (.slice (some ⟨b, o, none⟩) l.length c) l) (hn : n ≤ l.length) : SlR byteR w p (.slice (some ⟨b, o + n, none⟩) (l.length - n) (c - n)) (l.drop n) := by
  obtain ⟨a', c', e, h1, h2, h3⟩ := h
  injection e with e1 e2 e3
  subst e1 e3
  have hlen : (l.drop n).length = l.length - n := by simp
  refine ⟨_, _, by rw [hlen], by omega, by omega, fun i y hy => ?_⟩
  rw [List.getElem?_drop] at hy
  obtain ⟨b', o', cs, e, hp, hlt, hcs, hr⟩ := h3 (n + i) y hy
  injection e with e
  injection e with e4 e5
  subst e4 e5
  refine ⟨_, _, cs, rfl, hp, hlt, ?_, hr⟩
  rw [byteR_size] at hcs ⊢
  rw [show o + n + i * 1 = o + (n + i) * 1 by omega]
  exact hcs
set_option maxHeartbeats 4000000 in
set_option maxRecDepth 100000 in
theorem Dump_any (R : List (Nat × List UInt8)) (mo : Option Addr) (w : World) (hI : ImgV w (.pointer mo) R) (hT : Deb w) (hRl : R.length ≤ 65536) :
    Calls Tryd.prog 15 #[.pointer mo] w fun e w' => e = .returned (.string ⟨(dumpOf R).toArray⟩) ∧ Below w.heap.size w w' := by
  have hmf : ∀ (fn : Fn) (first cap : Array Value) (w : World), (Instr.makeFunc fn first cap).run Tryd.prog w = .ok (.func fn first cap) w := fun _ _ _ _ => rfl
  have hb0 : Below w.heap.size w (w.alloc (.cells #[.slice none 0 0] 33)) := (Below.refl _ w).alloc (Nat.le_refl _) _
  have HB0 := Lib.hid hb0
  have HSEP := Lib.hid hI.sep
  have HRV := Lib.hid (RunsV_any _ R _ (hI.below hb0) (hT.below hb0))
  have HPL := Lib.hid (parts_le hI.sep)
  have HK0 : Hid (Blk (w.alloc (.cells #[.slice none 0 0] 33)) w.heap.size 33 #[.slice none 0 0]) := Blk.new _ _ _
  have hR1 : (R.length : Int) ≤ 65536 := by omega
  clear hI hT hRl hb0
  go_enter Tryd.func15, Tryd.ntmps15
  go_wp2_with (go_at_call 47; refine HRV.out.mono ?_; rintro e w1 ⟨v9, rfl, ho, hb⟩; have HO := Lib.hid ho; have HB := Lib.hid hb; obtain ⟨a9, c9, rfl⟩ := ho.form; clear ho hb)
  have HST : Hid (DpI w w.heap.size R (.slice a9 R.length c9) (parts (R.take 0)) w1) := ⟨⟨⟨_, HK0.out.below HB.out HK0.out.lt, Own.nil _ _ _ _ _⟩, HB0.out.trans (HB.out.mono HB0.out.size)⟩, HO.out.slD (by simp [dataTs])⟩
  clear hmf
  go_loopw [14] (fun i wr => ∃ (k : Nat), k ≤ R.length ∧ i = .int .i64 k ∧ DpI w w.heap.size R (.slice a9 R.length c9) (parts (R.take k)) wr) (fun i _ => R.length - (intOf i).toNat)
  case atStart => exact ⟨0, Nat.zero_le _, rfl, HST.out⟩
  case round =>
    obtain ⟨k, hk, rfl, hh⟩ := hrel
    have HH := Lib.hid hh
    clear hh
    by_cases hlt : k < R.length
    · obtain ⟨ad, cd, hv, _, _, g⟩ := HH.out.runs.run
      obtain ⟨rfl, _, rfl⟩ : a9 = ad ∧ R.length = R.length ∧ c9 = cd := by injection hv with h1 h2 h3; exact ⟨h1, h2, h3⟩
      obtain ⟨b1, o1, sa, sc, rfl, hb1, d0, d1, hsl⟩ := g k R[k] (List.getElem?_eq_getElem hlt)
      have HSL := Lib.hid hsl
      have hb1l : b1 < wr.heap.size := World.block_lt_of_cell? _ _ d0
      have hse := sep_le HSEP.out R[k] (List.getElem_mem hlt)
      have HS1 := Lib.hid hse.1
      have HTK := Lib.hid (parts_take hlt)
      have HMO := Lib.hid (parts_mono R (k + 1))
      clear g hv hsl hb1 hse
      have hr1 : (R[k].1 : Int) ≤ 65536 := by have := HS1.out; omega
      generalize R[k] = r at *
      have hr0 : (0 : Int) ≤ (r.1 : Int) := by omega
      have hrl : (r.2.length : Int) ≤ 65536 := by have := HS1.out; omega
      go_upto_region 6 with fail
      go_quiet (fail)
      have hbA : Below wr.heap.size wr ((wr.alloc (.cells #[.int .i64 r.1, .slice sa r.2.length sc] 79)).drewN nq) := below_dN ((Below.refl _ wr).alloc (Nat.le_refl _) _) nq
      have HH2 := Lib.hid (HH.out.later hbA)
      have HSL2 := Lib.hid (HSL.out.tb hbA)
      clear hbA d0 d1
      generalize (wr.alloc (.cells #[.int .i64 r.1, .slice sa r.2.length sc] 79)).drewN nq = W1 at *
      go_wp2
      go_loopw [7, 8] (fun z y wr => ∃ (x : Nat) (rl : List UInt8) (sb : Option Addr) (se : Nat) (Ld : List (Nat × List UInt8)), z = .int .i64 x ∧ y = .slice sb rl.length se ∧ SlR byteR wr (TyB wr dataTs) (.slice sb rl.length se) rl ∧ DpI w w.heap.size R (.slice (some ⟨b1, o1, none⟩) R.length c9) Ld wr ∧ Ld ++ partL x rl = parts (R.take (k + 1)) ∧ x + rl.length ≤ 65536) (fun _ y _ => match y with | .slice _ n _ => n | _ => 0)
      case atStart => exact ⟨r.1, r.2, sa, sc, parts (R.take k), rfl, rfl, HSL2.out, HH2.out, HTK.out.symm, HS1.out⟩
      case round =>
        obtain ⟨x, rl, sb, se, Ld, rfl, rfl, hsl, hdp, hal, hxl⟩ := hrel
        have HSL3 := Lib.hid hsl
        have HDP := Lib.hid hdp
        have HAL := Lib.hid hal
        have HXL := Lib.hid hxl
        have hx0 : (0 : Int) ≤ (x : Int) := by omega
        have hx1 : (x : Int) ≤ 65536 := by omega
        have hrl2 : (rl.length : Int) ≤ 65536 := by omega
        clear hsl hdp hal
        by_cases hpos : 0 < rl.length
        · have hne : rl ≠ [] := fun e => by subst e; simp at hpos
          obtain ⟨b2, o2, rfl⟩ : ∃ b o, sb = some ⟨b, o, none⟩ := by
            obtain ⟨_, _, e, _, _, g⟩ := HSL3.out.byte
            obtain ⟨b, o, e2, _⟩ := g 0 _ (List.getElem?_eq_getElem hpos)
            injection e with e _ _
            exact ⟨b, o, e.trans e2⟩
          have hcap : rl.length ≤ se := by
            obtain ⟨_, _, e, h1, _, _⟩ := HSL3.out.byte
            injection e with _ _ e
            omega
          obtain ⟨i1, i2, i3⟩ := inLine_pos (a := x) hpos
          have HPS := Lib.hid (partL_step x rl hne)
          have HMI : Hid (min (rl.length : Int) (16 - (x : Int) % 16) = (inLine x rl.length : Nat)) := by show _ = _; unfold inLine; omega
          have HI16 : Hid (inLine x rl.length ≤ 16) := by show _ ≤ _; unfold inLine; omega
          have HCUT := Lib.hid (part_cut HSL3.out i2)
          have HRST := Lib.hid (part_rest HSL3.out i2)
          have HLT : Hid ((rl.take (inLine x rl.length)).length = inLine x rl.length) := by show _ = _; simp; omega
          have HLD : Hid ((rl.drop (inLine x rl.length)).length = rl.length - inLine x rl.length) := by show _ = _; simp
          have hp1 : (0 : Int) < (rl.length : Int) := by omega
          have hp2 : decide ((rl.length : Int) > 0) = true := by simp; omega
          go_upto_region 9 with fail
          rw [HMI.out]
          generalize inLine x rl.length = q at *
          have hq0 : (0 : Int) ≤ (q : Int) := by omega
          have hq1 : (q : Int) ≤ (rl.length : Int) := by omega
          have hq2 : (q : Int) ≤ 16 := by have := HI16.out; omega
          have hqs : q ≤ se := by omega
          have hqsi : (q : Int) ≤ (se : Int) := by omega
          have HLL : Hid ((Ld.map dumpR).length ≤ 100000) := by
            show _ ≤ _
            have h1 := congrArg List.length HAL.out
            have h2 := HMO.out
            have h3 := HPL.out
            rw [List.length_append] at h1
            rw [List.length_map]
            omega
          have HD1 := Lib.hid (Dump1_any x _ _ (rl.take q) w w.heap.size (Ld.map dumpR) wr HCUT.out (by have := HXL.out; omega) (by rw [HLT.out]; omega) HDP.out.str HLL.out (Nat.le_refl _))
          go_wp2_with (go_at_call 45; refine HD1.out.mono ?_; rintro e w5 ⟨rfl, htk, hst⟩; have HTKK := Lib.hid htk; have HSTR := Lib.hid hst; clear htk hst)
          have hile : q ≤ rl.length := i2
          have HI2 := Lib.hid i2
          have HI1 := Lib.hid i1
          have HDP2 : Hid (DpI w w.heap.size R (.slice (some ⟨b1, o1, none⟩) R.length c9) (Ld ++ [(x, rl.take q)]) w5) := ⟨by rw [List.map_append]; exact HSTR.out, HDP.out.runs.tk HTKK.out⟩
          have HR5 := Lib.hid (HRST.out.tk HTKK.out)
          have HAL2 : Hid ((Ld ++ [(x, rl.take q)]) ++ partL (x + q) (rl.drop q) = parts (R.take (k + 1))) := by
            show _ = _
            rw [← HAL.out, HPS.out, List.append_assoc]; rfl
          clear i1 i2 i3
          by_cases hce : se = q
          · have hce2 : se - q = 0 := by omega
            have HZ : Hid ((rl.drop q).length = 0) := by show _ = _; rw [HLD.out]; omega
            go_quiet (fail)
            generalize hw6 : w5.drewN nq = w6 at *
            have hb6 : Below w5.heap.size w5 w6 := by rw [← hw6]; exact below_dN (Below.refl _ _) nq
            have HB6 := Lib.hid hb6
            clear hb6 hw6
            go_wp2
            go_roundw
            case rel => exact ⟨x + q, rl.drop q, some ⟨b2, o2, none⟩, 0, Ld ++ [(x, rl.take q)], by go_num, by rw [HLD.out], ⟨_, 0, rfl, by rw [HZ.out]; exact Nat.le_refl _, by unfold maxLen; omega, fun i y hy => by rw [List.length_eq_zero_iff.1 HZ.out] at hy; simp at hy⟩, HDP2.out.later HB6.out, HAL2.out, by rw [HLD.out]; have := HXL.out; have := HI2.out; omega⟩
            case measure => have := HI1.out; simp; omega
          · go_quiet (fail)
            generalize hw6 : w5.drewN nq = w6 at *
            have hb6 : Below w5.heap.size w5 w6 := by rw [← hw6]; exact below_dN (Below.refl _ _) nq
            have HB6 := Lib.hid hb6
            clear hb6 hw6
            go_wp2
            go_roundw
            case rel => exact ⟨x + q, rl.drop q, some ⟨b2, o2 + q, none⟩, se - q, Ld ++ [(x, rl.take q)], by go_num, by rw [HLD.out], by rw [HLD.out]; exact HR5.out.tb HB6.out, HDP2.out.later HB6.out, HAL2.out, by rw [HLD.out]; have := HXL.out; have := HI2.out; omega⟩
            case measure => have := HI1.out; simp; omega
        · obtain rfl : rl = [] := List.length_eq_zero_iff.1 (by omega)
          have ha := HAL.out
          rw [partL_nil, List.append_nil] at ha
          have HDP3 := HDP.out
          rw [ha] at HDP3
          have HDE := Lib.hid HDP3
          clear HDP3 ha
          go_wp2
          go_roundw
          case rel => exact ⟨k + 1, by omega, by go_num, HDE.out⟩
          case measure => simp [intOf]; omega
    · obtain rfl : k = R.length := by omega
      have hdp := HH.out
      rw [List.take_length] at hdp
      obtain ⟨⟨ov, hko, hov⟩, hbw⟩ := hdp.str
      have HDT := Lib.hid (dump_text R)
      have HJL : Hid ((joinS ((parts R).map dumpR)).length ≤ 1000000000) := by show _ ≤ _; rw [dump_text]; exact dumpOf_len HSEP.out
      have HJN : Hid (((parts R).map dumpR).length ≤ 1000000) := by show _ ≤ _; have := HPL.out; rw [List.length_map]; omega
      have c1 := hko.cell 0
      generalize (parts R).map dumpR = LS at *
      have HOV := Lib.hid hov
      have HBW := Lib.hid hbw
      obtain ⟨ao, co, rfl⟩ := hov.form
      clear hdp hko hov hbw
      go_wp2_with (go_at_call 19; refine (Join_any _ _ LS _ (HOV.out.slR (q := fun _ => True) (fun _ h => h.elim) (fun _ _ => trivial)) HJN.out HJL.out).mono ?_; rw [HDT.out]; rintro e w7 ⟨rfl, hb⟩; have HB7 := Lib.hid (HBW.out.trans (hb.mono HBW.out.size)); clear hb)
      go_ret
      exact ⟨rfl, HB7.out⟩
end Go.Proofs.YtcfjcoockklkeaaDoor
