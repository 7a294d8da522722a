/-
  breadboardref02.Put where the bytes are laid. Conditions: sizes.
-/
import Derived.Test.YtcfjcoockklkeaaDoorW16
namespace Go.Proofs.YtcfjcoockklkeaaDoor
open Go.RowKit

theorem cel_enc (x : CellV) : (#[Value.int .i64 x.addr, .int .u8 x.byte.toNat] : Array Value) = [Value.int .i64 (x.addr : Int), .int .u8 (x.byte.toNat : Int)].toArray := rfl
theorem cel_cut {w : World} {p : Blocks} {sa : Option Addr} {c n : Nat} {l : List CellV} (h : SlR cellR w p (.slice sa l.length c) l) (hn : n ≤ l.length) : SlR cellR w p (.slice sa n c) (l.take n) := by
  obtain ⟨a', c', e, h1, h2, h3⟩ := h
  injection e with e1 e2 e3
  subst e1 e3
  have hlen : (l.take n).length = n := by simp; omega
  refine ⟨_, _, by rw [hlen], by omega, h2, fun i y hy => ?_⟩
  have hi : i < n := by rw [← hlen]; exact (List.getElem?_eq_some_iff.1 hy).1
  rw [List.getElem?_take, if_pos hi] at hy
  exact h3 i y hy
theorem cel_rest {w : World} {p : Blocks} {b o c n : Nat} {l : List CellV} (h : SlR cellR w p (.slice (some ⟨b, o, none⟩) l.length c) l) (hn : n ≤ l.length) : SlR cellR w p (.slice (some ⟨b, o + n * 2, none⟩) (l.length - n) (c - n)) (l.drop n) := by
  obtain ⟨a', c', e, h1, h2, h3⟩ := h
  injection e with e1 e2 e3
  subst e1 e3
  have hlen : (l.drop n).length = l.length - n := by simp
  refine ⟨_, _, by rw [hlen], by omega, by omega, fun i y hy => ?_⟩
  rw [List.getElem?_drop] at hy
  obtain ⟨b', o', cs, e, hp, hlt, hcs, hr⟩ := h3 (n + i) y hy
  injection e with e
  injection e with e4 e5
  subst e4 e5
  refine ⟨_, _, cs, rfl, hp, hlt, ?_, hr⟩
  rw [cellR_size] at hcs ⊢
  rw [show o + n * 2 + i * 2 = o + (n + i) * 2 by omega]
  exact hcs
/-- the three appends of Put -/
structure PutH (w wl : World) (p : Blocks) (m : List CellV) (cs : List CellV) (v9 : Value) : Prop where
  own : Own cellR wl w.heap.size 81 NoB v9 cs
  below : Below w.heap.size w wl
set_option maxHeartbeats 4000000 in
set_option maxRecDepth 100000 in
theorem Put02_in (p q : Blocks) (ma : Option Addr) (mc : Nat) (vb : Value) (m : List CellV) (a : Nat) (l : List UInt8) (w : World) (h : SlR cellR w p (.slice ma m.length mc) m) (hs : SlR byteR w q vb l) (hl : a + l.length ≤ 65536) (hm : m.length ≤ 100000) (h0 : l ≠ []) (hf : find02 a m < m.length)
    (h4 : ∀ hf : find02 a m < m.length, ¬ ((m[find02 a m]'hf).addr : Int) < a + l.length) (v1 v2 : Value) (l1 l2 : List CellV) (e12 : m.take (find02 a m) = l1 ∧ m.drop (find02 a m) = l2) (hv1 : SlR cellR w p v1 l1) (hv2 : SlR cellR w p v2 l2)
    (hc1 : ∀ w, (Instr.sliceAt 24 (.slice ma m.length mc) none (some (.int .i64 (find02 a m : Nat))) none).run Tryd.prog w = .ok v1 w) (hc2 : ∀ w, (Instr.sliceAt 24 (.slice ma m.length mc) (some (.int .i64 (find02 a m : Nat))) none none).run Tryd.prog w = .ok v2 w) :
    Calls Tryd.prog 44 #[.slice ma m.length mc, .int .i64 a, vb] w fun e w' => ∃ v', e = .returned (.tuple #[v', .int .i64 0]) ∧ SlR cellR w' (fun k => w.heap.size ≤ k) v' (l1 ++ cellsF a l ++ l2) ∧ Below w.heap.size w w' := by
  obtain ⟨sa, c, rfl, _, _, gb⟩ := hs.byte
  have HFD := Lib.hid (Find_any p _ m a w h)
  have hpos := List.length_pos_iff.2 h0
  have hl1 : (l.length : Int) ≤ 65536 := by omega
  have hm1 : (m.length : Int) ≤ 100000 := by omega
  have ha0 : (0 : Int) ≤ (a : Int) := by omega
  have ha9 : (a : Int) ≤ 65535 := by omega
  have hd1 : decide ((a : Int) < 0) = false := by simp
  have hd2 : decide ((65535 : Int) < a) = false := by simp; omega
  have hd3 : decide ((65536 : Int) - a < (l.length : Int)) = false := by simp; omega
  have hd4 : ((l.length : Int) == 0) = false := by rw [beq_eq_false_iff_ne]; omega
  have HBS := Lib.hid hs
  have HV1 := Lib.hid hv1
  have HV2 := Lib.hid hv2
  have HL12 : Hid (l1.length + l2.length = m.length) := by
    show _ = _
    rw [← e12.1, ← e12.2, List.length_take, List.length_drop]
    have := find02_le a m
    omega
  have HLL := Lib.hid hl
  have hfl := find02_le a m
  have hf0 : (0 : Int) ≤ (find02 a m : Int) := by omega
  have HM := Lib.hid hm
  obtain ⟨_, _, em, _, _, gm⟩ := h.cel
  injection em with em1 _ em3
  subst em1 em3
  have HCF := Lib.hid (cellsF_len l a)
  obtain ⟨b1, o1, rfl, _, d0, d0'⟩ := gm _ _ (List.getElem?_eq_getElem hf)
  have hd5 : decide (((m[find02 a m]'hf).addr : Int) < (a : Int) + (l.length : Int)) = false := decide_eq_false (h4 hf)
  have hf2 : (find02 a m : Int) < (m.length : Int) := by omega
  have hf3 : decide ((find02 a m : Int) < (m.length : Int)) = true := by simp; omega
  clear h4 gm gb d0'
  generalize (m[find02 a m]'hf).addr = y0 at *
  clear h hs hv1 hv2 hl hm e12 hfl hf
  generalize find02 a m = f at *
  go_enter Tryd.func44, Tryd.ntmps44
  go_wp2_with (go_at_call 83; refine HFD.out.mono ?_; rintro e w' ⟨rfl, rfl⟩)
  go_loopw [9, 10] (fun v i wr => ∃ k : Nat, k ≤ l.length ∧ i = .int .i64 k ∧ Own cellR wr w.heap.size 81 NoB v ((cellsF a l).take k) ∧ Below w.heap.size w wr) (fun _ i _ => l.length - (intOf i).toNat)
  case atStart => exact ⟨0, Nat.zero_le _, rfl, Own.nil _ _ _ _ _, Below.refl _ _⟩
  case round =>
    obtain ⟨k, hk, rfl, ho, hb⟩ := hrel
    by_cases hlt : k < l.length
    · have hlt2 : k < (cellsF a l).length := by rw [HCF.out]; exact hlt
      have HT := List.take_succ_eq_append_getElem hlt2
      rw [cellsF_get l a k hlt hlt2] at HT
      have HTT := Lib.hid HT
      obtain ⟨ad, cd, hv, _, _, g⟩ := (HBS.out.old.below hb).byte
      obtain ⟨rfl, _, rfl⟩ : sa = ad ∧ l.length = l.length ∧ c = cd := by injection hv with h1 h2 h3; exact ⟨h1, h2, h3⟩
      obtain ⟨b1, o1, rfl, _, hcell⟩ := g k l[k] (List.getElem?_eq_getElem hlt)
      have hlen : ((cellsF a l).take k).length = k := by rw [List.length_take, HCF.out]; omega
      have HLEN := Lib.hid hlen
      have hak : (a : Int) + k ≤ 65536 := by have := HLL.out; omega
      have hk0 : (0 : Int) ≤ (k : Int) := by omega
      clear g hv HT hlen hlt2
      generalize l[k] = y at *
      generalize hx : (cellsF a l).take k = xs at *
      have HX := Lib.hid hx
      have HO := Lib.hid ho
      have HB := Lib.hid hb
      obtain ⟨oa, oc, rfl⟩ := ho.form
      clear hx ho hb
      have HC1 : Hid ((xs.length + 1) * 16 ≤ 140737488355328) := by show _ ≤ _; have := HLEN.out; omega
      have HC2 : Hid (xs.length + 1 ≤ 9223372036854775807) := by show _ ≤ _; have := HLEN.out; omega
      go_wp2_with (at_builtin; refine wpList_push rfl (.tmp 54) (.tmp 63) 24 rfl w.heap.size 81 16 elCel _ xs ⟨a + k, y⟩ _ rfl rfl HO.out (by go_num) HC1.out HC2.out HB.out.size ?_; intro a' c' w' hp; have HP := Lib.hid hp; clear hp)
      go_roundw
      case rel => exact ⟨k + 1, by omega, by go_num, by rw [HTT.out]; exact HP.out.1, HB.out.grown HP.out.2 HB.out.size (fun j hj => (HO.out.lt j hj).1)⟩
      case measure => simp [intOf]; omega
    · obtain rfl : k = l.length := by omega
      have hco := ho
      rw [← HCF.out, List.take_length] at hco
      have HCO := Lib.hid hco
      have HB := Lib.hid hb
      obtain ⟨ca, cc, rfl⟩ := ho.form
      rw [show ((cellsF a l).take l.length).length = l.length by rw [List.length_take, HCF.out]; omega] at *
      clear ho hb hco
      go_upto_region 15 with fail
      have HOM : Hid (Own cellR (wr.alloc (.cells #[] 81)).drew wr.heap.size 81 NoB (.slice (some ⟨wr.heap.size, 0, none⟩) 0 0) []) := (Own.made wr _ _).keep (Keep.drew _)
      have HX1 : Hid (SlR cellR (wr.alloc (.cells #[] 81)).drew (fun k => p k ∧ k < w.heap.size) v1 l1) := ((HV1.out.old.below HB.out).alloc _).drew
      have HQ1 : Hid (∀ k, p k ∧ k < w.heap.size → some k ≠ Value.ownBlock (.slice (some ⟨wr.heap.size, 0, none⟩) 0 0)) := fun k hk e => by have := HB.out.size; simp [Value.ownBlock] at e; omega
      have HB1 : Hid (Below wr.heap.size wr (wr.alloc (.cells #[] 81)).drew) := ((Below.refl _ wr).alloc (Nat.le_refl _) _).drew
      have HN1 : Hid ((([] : List CellV).length + l1.length) * 16 ≤ 140737488355328) := by show (0 + _) * 16 ≤ _; have := HL12.out; have := HM.out; omega
      have HN2 : Hid (([] : List CellV).length + l1.length ≤ 9223372036854775807) := by show 0 + _ ≤ _; have := HL12.out; have := HM.out; omega
      have HN3 : Hid ((l1.length + (cellsF a l).length) * 16 ≤ 140737488355328) := by show _ ≤ _; rw [HCF.out]; have := HL12.out; have := HM.out; have := HLL.out; omega
      have HN4 : Hid (l1.length + (cellsF a l).length ≤ 9223372036854775807) := by show _ ≤ _; rw [HCF.out]; have := HL12.out; have := HM.out; have := HLL.out; omega
      have HN5 : Hid (((l1 ++ cellsF a l).length + l2.length) * 16 ≤ 140737488355328) := by show _ ≤ _; rw [List.length_append, HCF.out]; have := HL12.out; have := HM.out; have := HLL.out; omega
      have HN6 : Hid ((l1 ++ cellsF a l).length + l2.length ≤ 9223372036854775807) := by show _ ≤ _; rw [List.length_append, HCF.out]; have := HL12.out; have := HM.out; have := HLL.out; omega
      go_region_held3 (fun _ => True) (exact trivial)
        (first
          | ((refine step_append_R (o := ⟨some 69, _, _, _, _, _⟩) _ ?g69 (.tmp 65) (.tmp 68) 24 ?o69 wr.heap.size 81 16 elCel NoB (fun k => p k ∧ k < w.heap.size) (.slice (some ⟨wr.heap.size, 0, none⟩) 0 0) v1 [] l1 ?x69 ?y69 HOM.out HX1.out (fun _ h => h.elim) HQ1.out HN1.out HN2.out HB1.out.size ?z69); (case g69 => rfl); (case o69 => rfl); (case x69 => rfl); (case y69 => rfl); intro v5 wA hap; rw [List.nil_append] at hap; have HB2 := Lib.hid (HB1.out.grown hap.2.1 HB1.out.size (fun k e => by simp [Value.ownBlock] at e; omega)); have HO2 : Hid (Own cellR wA wr.heap.size 81 NoB v5 l1) := hap.1.flat NoB; obtain ⟨a5, c5, rfl⟩ := hap.1.form; have HX2 : Hid (SlR cellR wA (fun k => w.heap.size ≤ k ∧ k < wr.heap.size) (.slice ca l.length cc) (cellsF a l)) := (HCO.out.slR (q := fun k => w.heap.size ≤ k) (fun _ h => h.elim) (fun _ h => h)).old.below HB2.out; have HQ2 : Hid (∀ k, w.heap.size ≤ k ∧ k < wr.heap.size → some k ≠ Value.ownBlock (.slice a5 l1.length c5)) := fun k hk e => by { have := (HO2.out.lt k e.symm).1; omega }; clear hap)
          | (refine step_append_R (o := ⟨some 71, _, _, _, _, _⟩) _ ?g71 (.tmp 69) (.tmp 70) 24 ?o71 wr.heap.size 81 16 elCel NoB (fun k => w.heap.size ≤ k ∧ k < wr.heap.size) (.slice a5 l1.length c5) (.slice ca l.length cc) l1 (cellsF a l) ?x71 ?y71 HO2.out HX2.out (fun _ h => h.elim) HQ2.out HN3.out HN4.out HB2.out.size ?z71; (case g71 => rfl); (case o71 => rfl); (case x71 => rfl); (case y71 => rfl); intro v6 wC hap; have HB3 := Lib.hid (HB2.out.grown hap.2.1 HB2.out.size (fun k e => (HO2.out.lt k e).1)); have HO3 : Hid (Own cellR wC wr.heap.size 81 NoB v6 (l1 ++ cellsF a l)) := hap.1.flat NoB; obtain ⟨a6, c6, rfl⟩ := hap.1.form; have HX3 : Hid (SlR cellR wC (fun k => p k ∧ k < w.heap.size) v2 l2) := HV2.out.old.below (HB.out.trans (HB3.out.mono HB.out.size)); have HQ3 : Hid (∀ k, p k ∧ k < w.heap.size → some k ≠ Value.ownBlock (.slice a6 (l1 ++ cellsF a l).length c6)) := fun k hk e => by { have := (HO3.out.lt k e.symm).1; have := HB.out.size; omega }; clear hap)
          | (refine step_append_R (o := ⟨some 75, _, _, _, _, _⟩) _ ?g75 (.tmp 71) (.tmp 74) 24 ?o75 wr.heap.size 81 16 elCel NoB (fun k => p k ∧ k < w.heap.size) (.slice a6 (l1 ++ cellsF a l).length c6) v2 (l1 ++ cellsF a l) l2 ?x75 ?y75 HO3.out HX3.out (fun _ h => h.elim) HQ3.out HN5.out HN6.out HB3.out.size ?z75; (case g75 => rfl); (case o75 => rfl); (case x75 => rfl); (case y75 => rfl); intro v7 wD hap; have HB4 := Lib.hid (HB3.out.grown hap.2.1 HB3.out.size (fun k e => (HO3.out.lt k e).1)); have HO4 : Hid (Own cellR wD wr.heap.size 81 NoB v7 (l1 ++ cellsF a l ++ l2)) := hap.1.flat NoB; obtain ⟨a7, c7, rfl⟩ := hap.1.form; clear hap))
      go_wp2
      go_ret2
      refine ⟨_, rfl, ?_, HB.out.trans (HB4.out.mono HB.out.size)⟩
      have HF := HO4.out.slR (q := fun k => w.heap.size ≤ k) (fun _ h => h.elim) (fun k hk => Nat.le_trans HB.out.size hk)
      simp only [List.length_append, Nat.add_assoc] at HF
      exact HF
set_option maxHeartbeats 4000000 in
set_option maxRecDepth 100000 in
theorem Put02_end (p q : Blocks) (ma : Option Addr) (mc : Nat) (vb : Value) (m : List CellV) (a : Nat) (l : List UInt8) (w : World) (h : SlR cellR w p (.slice ma m.length mc) m) (hs : SlR byteR w q vb l) (hl : a + l.length ≤ 65536) (hm : m.length ≤ 100000) (h0 : l ≠ []) (hf : ¬ find02 a m < m.length)
    (v1 v2 : Value) (l1 l2 : List CellV) (e12 : m.take (find02 a m) = l1 ∧ m.drop (find02 a m) = l2) (hv1 : SlR cellR w p v1 l1) (hv2 : SlR cellR w p v2 l2)
    (hc1 : ∀ w, (Instr.sliceAt 24 (.slice ma m.length mc) none (some (.int .i64 (find02 a m : Nat))) none).run Tryd.prog w = .ok v1 w) (hc2 : ∀ w, (Instr.sliceAt 24 (.slice ma m.length mc) (some (.int .i64 (find02 a m : Nat))) none none).run Tryd.prog w = .ok v2 w) :
    Calls Tryd.prog 44 #[.slice ma m.length mc, .int .i64 a, vb] w fun e w' => ∃ v', e = .returned (.tuple #[v', .int .i64 0]) ∧ SlR cellR w' (fun k => w.heap.size ≤ k) v' (l1 ++ cellsF a l ++ l2) ∧ Below w.heap.size w w' := by
  obtain ⟨sa, c, rfl, _, _, gb⟩ := hs.byte
  have HFD := Lib.hid (Find_any p _ m a w h)
  have hpos := List.length_pos_iff.2 h0
  have hl1 : (l.length : Int) ≤ 65536 := by omega
  have hm1 : (m.length : Int) ≤ 100000 := by omega
  have ha0 : (0 : Int) ≤ (a : Int) := by omega
  have ha9 : (a : Int) ≤ 65535 := by omega
  have hd1 : decide ((a : Int) < 0) = false := by simp
  have hd2 : decide ((65535 : Int) < a) = false := by simp; omega
  have hd3 : decide ((65536 : Int) - a < (l.length : Int)) = false := by simp; omega
  have hd4 : ((l.length : Int) == 0) = false := by rw [beq_eq_false_iff_ne]; omega
  have HBS := Lib.hid hs
  have HV1 := Lib.hid hv1
  have HV2 := Lib.hid hv2
  have HL12 : Hid (l1.length + l2.length = m.length) := by
    show _ = _
    rw [← e12.1, ← e12.2, List.length_take, List.length_drop]
    have := find02_le a m
    omega
  have HLL := Lib.hid hl
  have hfl := find02_le a m
  have hf0 : (0 : Int) ≤ (find02 a m : Int) := by omega
  have HM := Lib.hid hm
  obtain ⟨_, _, em, _, _, gm⟩ := h.cel
  injection em with em1 _ em3
  subst em1 em3
  have HCF := Lib.hid (cellsF_len l a)
  have hd5 : decide (find02 a m < m.length) = false := decide_eq_false hf
  clear h hs hv1 hv2 hl hm e12 gm gb hfl hf
  generalize find02 a m = f at *
  go_enter Tryd.func44, Tryd.ntmps44
  go_wp2_with (go_at_call 83; refine HFD.out.mono ?_; rintro e w' ⟨rfl, rfl⟩)
  go_loopw [9, 10] (fun v i wr => ∃ k : Nat, k ≤ l.length ∧ i = .int .i64 k ∧ Own cellR wr w.heap.size 81 NoB v ((cellsF a l).take k) ∧ Below w.heap.size w wr) (fun _ i _ => l.length - (intOf i).toNat)
  case atStart => exact ⟨0, Nat.zero_le _, rfl, Own.nil _ _ _ _ _, Below.refl _ _⟩
  case round =>
    obtain ⟨k, hk, rfl, ho, hb⟩ := hrel
    by_cases hlt : k < l.length
    · have hlt2 : k < (cellsF a l).length := by rw [HCF.out]; exact hlt
      have HT := List.take_succ_eq_append_getElem hlt2
      rw [cellsF_get l a k hlt hlt2] at HT
      have HTT := Lib.hid HT
      obtain ⟨ad, cd, hv, _, _, g⟩ := (HBS.out.old.below hb).byte
      obtain ⟨rfl, _, rfl⟩ : sa = ad ∧ l.length = l.length ∧ c = cd := by injection hv with h1 h2 h3; exact ⟨h1, h2, h3⟩
      obtain ⟨b1, o1, rfl, _, hcell⟩ := g k l[k] (List.getElem?_eq_getElem hlt)
      have hlen : ((cellsF a l).take k).length = k := by rw [List.length_take, HCF.out]; omega
      have HLEN := Lib.hid hlen
      have hak : (a : Int) + k ≤ 65536 := by have := HLL.out; omega
      have hk0 : (0 : Int) ≤ (k : Int) := by omega
      clear g hv HT hlen hlt2
      generalize l[k] = y at *
      generalize hx : (cellsF a l).take k = xs at *
      have HX := Lib.hid hx
      have HO := Lib.hid ho
      have HB := Lib.hid hb
      obtain ⟨oa, oc, rfl⟩ := ho.form
      clear hx ho hb
      have HC1 : Hid ((xs.length + 1) * 16 ≤ 140737488355328) := by show _ ≤ _; have := HLEN.out; omega
      have HC2 : Hid (xs.length + 1 ≤ 9223372036854775807) := by show _ ≤ _; have := HLEN.out; omega
      go_wp2_with (at_builtin; refine wpList_push rfl (.tmp 54) (.tmp 63) 24 rfl w.heap.size 81 16 elCel _ xs ⟨a + k, y⟩ _ rfl rfl HO.out (by go_num) HC1.out HC2.out HB.out.size ?_; intro a' c' w' hp; have HP := Lib.hid hp; clear hp)
      go_roundw
      case rel => exact ⟨k + 1, by omega, by go_num, by rw [HTT.out]; exact HP.out.1, HB.out.grown HP.out.2 HB.out.size (fun j hj => (HO.out.lt j hj).1)⟩
      case measure => simp [intOf]; omega
    · obtain rfl : k = l.length := by omega
      have hco := ho
      rw [← HCF.out, List.take_length] at hco
      have HCO := Lib.hid hco
      have HB := Lib.hid hb
      obtain ⟨ca, cc, rfl⟩ := ho.form
      rw [show ((cellsF a l).take l.length).length = l.length by rw [List.length_take, HCF.out]; omega] at *
      clear ho hb hco
      go_upto_region 15 with fail
      have HOM : Hid (Own cellR (wr.alloc (.cells #[] 81)).drew wr.heap.size 81 NoB (.slice (some ⟨wr.heap.size, 0, none⟩) 0 0) []) := (Own.made wr _ _).keep (Keep.drew _)
      have HX1 : Hid (SlR cellR (wr.alloc (.cells #[] 81)).drew (fun k => p k ∧ k < w.heap.size) v1 l1) := ((HV1.out.old.below HB.out).alloc _).drew
      have HQ1 : Hid (∀ k, p k ∧ k < w.heap.size → some k ≠ Value.ownBlock (.slice (some ⟨wr.heap.size, 0, none⟩) 0 0)) := fun k hk e => by have := HB.out.size; simp [Value.ownBlock] at e; omega
      have HB1 : Hid (Below wr.heap.size wr (wr.alloc (.cells #[] 81)).drew) := ((Below.refl _ wr).alloc (Nat.le_refl _) _).drew
      have HN1 : Hid ((([] : List CellV).length + l1.length) * 16 ≤ 140737488355328) := by show (0 + _) * 16 ≤ _; have := HL12.out; have := HM.out; omega
      have HN2 : Hid (([] : List CellV).length + l1.length ≤ 9223372036854775807) := by show 0 + _ ≤ _; have := HL12.out; have := HM.out; omega
      have HN3 : Hid ((l1.length + (cellsF a l).length) * 16 ≤ 140737488355328) := by show _ ≤ _; rw [HCF.out]; have := HL12.out; have := HM.out; have := HLL.out; omega
      have HN4 : Hid (l1.length + (cellsF a l).length ≤ 9223372036854775807) := by show _ ≤ _; rw [HCF.out]; have := HL12.out; have := HM.out; have := HLL.out; omega
      have HN5 : Hid (((l1 ++ cellsF a l).length + l2.length) * 16 ≤ 140737488355328) := by show _ ≤ _; rw [List.length_append, HCF.out]; have := HL12.out; have := HM.out; have := HLL.out; omega
      have HN6 : Hid ((l1 ++ cellsF a l).length + l2.length ≤ 9223372036854775807) := by show _ ≤ _; rw [List.length_append, HCF.out]; have := HL12.out; have := HM.out; have := HLL.out; omega
      go_region_held3 (fun _ => True) (exact trivial)
        (first
          | ((refine step_append_R (o := ⟨some 69, _, _, _, _, _⟩) _ ?g69 (.tmp 65) (.tmp 68) 24 ?o69 wr.heap.size 81 16 elCel NoB (fun k => p k ∧ k < w.heap.size) (.slice (some ⟨wr.heap.size, 0, none⟩) 0 0) v1 [] l1 ?x69 ?y69 HOM.out HX1.out (fun _ h => h.elim) HQ1.out HN1.out HN2.out HB1.out.size ?z69); (case g69 => rfl); (case o69 => rfl); (case x69 => rfl); (case y69 => rfl); intro v5 wA hap; rw [List.nil_append] at hap; have HB2 := Lib.hid (HB1.out.grown hap.2.1 HB1.out.size (fun k e => by simp [Value.ownBlock] at e; omega)); have HO2 : Hid (Own cellR wA wr.heap.size 81 NoB v5 l1) := hap.1.flat NoB; obtain ⟨a5, c5, rfl⟩ := hap.1.form; have HX2 : Hid (SlR cellR wA (fun k => w.heap.size ≤ k ∧ k < wr.heap.size) (.slice ca l.length cc) (cellsF a l)) := (HCO.out.slR (q := fun k => w.heap.size ≤ k) (fun _ h => h.elim) (fun _ h => h)).old.below HB2.out; have HQ2 : Hid (∀ k, w.heap.size ≤ k ∧ k < wr.heap.size → some k ≠ Value.ownBlock (.slice a5 l1.length c5)) := fun k hk e => by { have := (HO2.out.lt k e.symm).1; omega }; clear hap)
          | (refine step_append_R (o := ⟨some 71, _, _, _, _, _⟩) _ ?g71 (.tmp 69) (.tmp 70) 24 ?o71 wr.heap.size 81 16 elCel NoB (fun k => w.heap.size ≤ k ∧ k < wr.heap.size) (.slice a5 l1.length c5) (.slice ca l.length cc) l1 (cellsF a l) ?x71 ?y71 HO2.out HX2.out (fun _ h => h.elim) HQ2.out HN3.out HN4.out HB2.out.size ?z71; (case g71 => rfl); (case o71 => rfl); (case x71 => rfl); (case y71 => rfl); intro v6 wC hap; have HB3 := Lib.hid (HB2.out.grown hap.2.1 HB2.out.size (fun k e => (HO2.out.lt k e).1)); have HO3 : Hid (Own cellR wC wr.heap.size 81 NoB v6 (l1 ++ cellsF a l)) := hap.1.flat NoB; obtain ⟨a6, c6, rfl⟩ := hap.1.form; have HX3 : Hid (SlR cellR wC (fun k => p k ∧ k < w.heap.size) v2 l2) := HV2.out.old.below (HB.out.trans (HB3.out.mono HB.out.size)); have HQ3 : Hid (∀ k, p k ∧ k < w.heap.size → some k ≠ Value.ownBlock (.slice a6 (l1 ++ cellsF a l).length c6)) := fun k hk e => by { have := (HO3.out.lt k e.symm).1; have := HB.out.size; omega }; clear hap)
          | (refine step_append_R (o := ⟨some 75, _, _, _, _, _⟩) _ ?g75 (.tmp 71) (.tmp 74) 24 ?o75 wr.heap.size 81 16 elCel NoB (fun k => p k ∧ k < w.heap.size) (.slice a6 (l1 ++ cellsF a l).length c6) v2 (l1 ++ cellsF a l) l2 ?x75 ?y75 HO3.out HX3.out (fun _ h => h.elim) HQ3.out HN5.out HN6.out HB3.out.size ?z75; (case g75 => rfl); (case o75 => rfl); (case x75 => rfl); (case y75 => rfl); intro v7 wD hap; have HB4 := Lib.hid (HB3.out.grown hap.2.1 HB3.out.size (fun k e => (HO3.out.lt k e).1)); have HO4 : Hid (Own cellR wD wr.heap.size 81 NoB v7 (l1 ++ cellsF a l ++ l2)) := hap.1.flat NoB; obtain ⟨a7, c7, rfl⟩ := hap.1.form; clear hap))
      go_wp2
      go_ret2
      refine ⟨_, rfl, ?_, HB.out.trans (HB4.out.mono HB.out.size)⟩
      have HF := HO4.out.slR (q := fun k => w.heap.size ≤ k) (fun _ h => h.elim) (fun k hk => Nat.le_trans HB.out.size hk)
      simp only [List.length_append, Nat.add_assoc] at HF
      exact HF
end Go.Proofs.YtcfjcoockklkeaaDoor
