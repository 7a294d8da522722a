/-
  strings.Join on a list of strings; instr.Shape.
-/
import Derived.Test.YtkkjoghfdmmpaaaDoorShape0
import Derived.Test.YtkkjoghfdmmpaaaDoorShelf2
import Derived.Deep.RegionHeld3
namespace Go.Proofs.YtkkjoghfdmmpaaaDoor
open Go.RowKit

def joinL (l : List ByteArray) (sep : ByteArray) : List UInt8 := Lib.join (l.map (·.data.toList)) sep.data.toList
theorem join_any (p : Blocks) (v : Value) (l : List ByteArray) (sep : ByteArray) (w : World) (h : SlR strR w p v l) (hN : l.length ≤ 140737488355328) (hlen : (joinL l sep).length ≤ 140737488355328) :
    Calls Tryd.prog 69 #[v, .string sep] w fun e w' => (∃ j : ByteArray, e = .returned (.string j) ∧ j.data.toList = joinL l sep) ∧ Below w.heap.size w w' := by
  obtain ⟨a, c, rfl, hc, _, g⟩ := h.str
  cases l with
  | nil =>
    refine (Tryd.strings_Join_none a c sep w).mono ?_
    rintro e w' ⟨rfl, rfl⟩
    exact ⟨⟨_, rfl, by simp [joinL, Lib.join_nil]⟩, Below.refl _ _⟩
  | cons x xs =>
    obtain ⟨b, o, rfl, _, hx⟩ := g 0 x rfl
    refine (Tryd.strings_Join b o c (x :: xs) sep w (fun j y hy => ?_) (World.block_lt_of_cell? _ _ hx) hN hc hlen).mono ?_
    · obtain ⟨b', o', e, _, hy'⟩ := g j y hy
      injection e with e
      injection e with e1 e2
      subst e1 e2
      exact hy'
    · rintro e w' ⟨rfl, hb⟩
      exact ⟨⟨_, rfl, rfl⟩, hb⟩

theorem markP_size {o : Opd} (h : validOpd o = true) : (markP o).size ≤ 6 := by rw [mark_eq o h]; exact mark07_size o
theorem joinL_size (l : List ByteArray) (h : ∀ s ∈ l, s.size ≤ 6) (hl : l.length ≤ 3) : (joinL l ⟨#[44]⟩).length ≤ 20 := by
  have hs : ∀ s ∈ l, s.data.toList.length ≤ 6 := fun s hs => by have := h s hs; simpa using this
  match l, hl with
  | [], _ => simp [joinL, Lib.join_nil]
  | [a], _ => have := hs a (by simp); simp only [joinL, List.map, Lib.join_one]; omega
  | [a, b], _ =>
    have h1 := hs a (by simp)
    have h2 := hs b (by simp)
    simp [joinL, Lib.join, List.intercalate] at h1 h2 ⊢; omega
  | [a, b, c], _ =>
    have h1 := hs a (by simp)
    have h2 := hs b (by simp)
    have h3 := hs c (by simp)
    simp [joinL, Lib.join, List.intercalate] at h1 h2 h3 ⊢; omega

theorem size_of_join {j : ByteArray} {l : List UInt8} (h : j.data.toList = l) (hl : l.length ≤ 20) : j.size ≤ 20 := by rw [← h] at hl; simpa using hl
theorem size_le_max {s j : ByteArray} (h1 : s.size ≤ 4) (h2 : j.size ≤ 20) : (s ++ ⟨#[32]⟩ ++ j).size ≤ 9223372036854775807 := by
  rw [ByteArray.size_append, ByteArray.size_append]; show s.size + 1 + j.size ≤ _; omega
theorem cat_le_max {s j : ByteArray} (h1 : s.size ≤ 4) (h2 : j.size ≤ 20) : (s ++ ⟨#[32]⟩).size + j.size ≤ 9223372036854775807 := by
  rw [ByteArray.size_append]; show s.size + 1 + j.size ≤ _; omega
/-- What stands while the marks are gathered. -/
structure ShH (w0 : World) (x : Ins) (b0 bm : Nat) (va vm : Value) (k : Nat) (w : World) : Prop where
  below : Below w0.heap.size w0 w
  lt : w0.heap.size ≤ bm
  sx : SlR opdR w (fun b => b < bm) va x.args
  blk : Blk w b0 39 #[.string x.op, va]
  lt0 : b0 < bm
  mks : Blk w bm 33 #[vm]
  own : Own strR w (bm + 1) 9 NoB vm ((x.args.take k).map markP)

theorem ShH.step {w0 w w' : World} {x : Ins} {b0 bm k : Nat} {va vm v' : Value} (h : ShH w0 x b0 bm va vm k w) (hk : k < x.args.length) (hb : Below bm w w') (hm : Blk w' bm 33 #[v'])
    (ho : Own strR w' (bm + 1) 9 NoB v' ((x.args.take k).map markP ++ [markP x.args[k]])) : ShH w0 x b0 bm va v' (k + 1) w' :=
  ⟨h.below.trans (hb.mono h.lt), h.lt, h.sx.keep (Keep.of_below hb fun _ hk => hk), h.blk.below hb h.lt0, h.lt0, hm, by
    rw [List.take_succ_eq_append_getElem hk, List.map_append]; exact ho⟩
theorem ShH.drew {w0 w : World} {x : Ins} {b0 bm k : Nat} {va vm : Value} (h : ShH w0 x b0 bm va vm k w) : ShH w0 x b0 bm va vm k w.drew :=
  ⟨⟨h.below.os, h.below.tape, h.below.output, h.below.size, h.below.block⟩, h.lt, h.sx.drew, h.blk, h.lt0, h.mks, h.own.keep fun _ _ => rfl⟩

set_option maxHeartbeats 2000000 in
theorem shape_any (p : Blocks) (x : Ins) (v : Value) (w : World) (h : SlR opdR w p v x.args) (hT : Spc w) (hs : x.op.size ≤ maxLen) :
    Calls Tryd.prog 48 #[.agg #[.string x.op, v]] w fun e w' => e = .returned (.string (shape07 x)) ∧ Below w.heap.size w w' := by
  obtain ⟨a, c, rfl, _⟩ := h.opd
  obtain ⟨W, hW⟩ : ∃ W : World, W = w.alloc (.cells #[.string x.op, .slice a x.args.length c] 39) := ⟨_, rfl⟩
  have hbW : Below w.heap.size w W := hW ▸ (Below.refl _ _).alloc (Nat.le_refl _) _
  have k1 : Blk W w.heap.size 39 #[.string x.op, .slice a x.args.length c] := hW ▸ Blk.new w _ _
  have HBW := Lib.hid hbW
  have HK := Lib.hid k1
  have HSL := Lib.hid (h.below hbW)
  have HCH := Lib.hid (check_any _ x _ W HSL.out (hT.below hbW) hs)
  obtain ⟨a0, a1, _, _⟩ := k1.two
  clear h hbW k1 hT hs
  cases hc : (check07 x == 0)
  · have HV := Lib.hid (show shape07 x = ⟨#[]⟩ by simp only [shape07, hc]; rfl)
    have hne : (check07 x != 0) = true := by simpa [bne] using hc
    go_enter Tryd.func48, Tryd.ntmps48
    go_wp2_with fail
    rw [← hW]
    clear hW
    refine HCH.out.mono ?_
    rintro e w1 ⟨rfl, hb⟩
    have HB1 := Lib.hid hb
    clear hb
    go_wp2
    go_ret
    exact ⟨ret_str HV.out.symm, HBW.out.trans (HB1.out.mono HBW.out.size)⟩
  · have hc0 : check07 x = 0 := by simpa using hc
    have HV := Lib.hid (show shape07 x = shapeUpto x.op x.args x.args.length by simp only [shape07, hc]; rfl)
    obtain ⟨hop, hn, hval⟩ := check_zero hc0
    have hsz : x.op.size ≤ 4 := (show ∀ s ∈ opsL, s.size ≤ 4 by decide +kernel) _ (inL_iff.1 hop)
    have HN := Lib.hid hn
    have HVAL := Lib.hid hval
    rw [hc0] at HCH
    clear hc hc0 hop hn hval
    go_enter Tryd.func48, Tryd.ntmps48
    go_wp2_with fail
    rw [← hW]
    clear hW
    refine HCH.out.mono ?_
    rintro e w1 ⟨rfl, hb⟩
    have hl1 := Nat.lt_of_lt_of_le HK.out.lt hb.size
    have H0 : Hid (ShH w x w.heap.size w1.heap.size (.slice a x.args.length c) (.slice none 0 0) 0 (w1.alloc (.cells #[.slice none 0 0] 33))) :=
      ⟨(HBW.out.trans (hb.mono HBW.out.size)).alloc (Nat.le_trans HBW.out.size hb.size) _, Nat.le_trans HBW.out.size hb.size,
       (((HSL.out.below hb).old).mono fun _ hk => hk.2).alloc _, (HK.out.below hb HK.out.lt).alloc _, hl1, Blk.new w1 _ _, Own.nil _ _ _ _ _⟩
    obtain ⟨b0, b1, _, _⟩ := (HK.out.below hb HK.out.lt).two
    clear hb a0 a1
    go_wp2
    go_loopw [14] (fun i wr => ∃ (k : Nat) (vm : Value), k ≤ x.args.length ∧ i = .int .i64 k ∧ ShH w x w.heap.size w1.heap.size (.slice a x.args.length c) vm k wr) (fun i _ => x.args.length - (intOf i).toNat)
    case atStart => exact ⟨0, _, Nat.zero_le _, rfl, H0.out⟩
    case round =>
      obtain ⟨k, vm, hk, rfl, hh⟩ := hrel
      have H := Lib.hid hh
      have hbm : w1.heap.size < wr.heap.size := hh.mks.lt
      obtain ⟨p0, p1⟩ := hh.mks.one
      obtain ⟨a0, a1, _, _⟩ := hh.blk.two
      clear hh
      by_cases hlt : k < x.args.length
      · obtain ⟨ad, cd, hv, _, _, g1⟩ := H.out.sx.opd
        obtain ⟨rfl, _, rfl⟩ : a = ad ∧ x.args.length = x.args.length ∧ c = cd := by injection hv with h1 h2 h3; exact ⟨h1, h2, h3⟩
        obtain ⟨b2, o2, rfl, _, d1, d2, d3⟩ := g1 k x.args[k] (List.getElem?_eq_getElem hlt)
        clear g1 hv
        have HSTEP := fun w' v' => Lib.hid (H.out.step (w' := w') (v' := v') hlt)
        have HMS : Hid (((x.args.take k).map markP).length ≤ 1000) := by have := HN.out; show _ ≤ _; simp; omega
        have HOX := Lib.hid H.out.own
        generalize (x.args.take k).map markP = ms at *
        generalize x.args[k] = y at *
        have HADD := Lib.hid (add_any y w1.heap.size w1.heap.size vm ms (wr.alloc (.cells #[.int .i64 y.kind, .int .i64 y.reg, .int .i64 y.n] 47)) (H.out.mks.alloc _) (HOX.out.stay ((Below.refl _ _).alloc (Nat.le_refl _) _)) (Nat.le_refl _) HMS.out)
        go_wp2_with (go_at_call 100; refine HADD.out.mono ?_; rintro e w3 ⟨rfl, ⟨v3, hk3, ho3⟩, hb⟩; have H3 := (HSTEP w3 v3).out (((Below.refl _ _).alloc (Nat.le_of_lt hbm) _).trans hb) hk3 ho3; have H4 := Lib.hid H3; clear hb hk3 ho3 H3)
        go_roundw
        case rel => exact ⟨k + 1, v3, by omega, by go_num, H4.out⟩
        case measure => simp [intOf]; omega
      · obtain rfl : k = x.args.length := by omega
        have HNS := H.out.own
        rw [List.take_length] at HNS
        have HSLM := Lib.hid ((HNS.slR (q := fun _ => True) (fun _ _ => trivial) (fun _ _ => trivial)).drew)
        have HJN := Lib.hid (joinL_size (x.args.map markP) (fun s hs => by obtain ⟨y, hy, rfl⟩ := List.mem_map.1 hs; exact markP_size (HVAL.out y hy)) (by simpa using HN.out))
        have HJ := Lib.hid (join_any _ _ _ ⟨#[44]⟩ _ HSLM.out (by have := HN.out; simp; omega) (by have := HJN.out; omega))
        clear HNS
        have hcat := fun wz => run_string_add_sum (P := Tryd.prog) wz x.op ⟨#[32]⟩ (by show x.op.size + 1 ≤ _; omega)
        have HBW3 := Lib.hid H.out.below
        have HFIN := Lib.hid (shape_eq x.op x.args HN.out HVAL.out)
        go_wp2
        go_region_held3 (fun w' => w'.cell? ⟨w.heap.size, 0, none⟩ = some (.string x.op) ∧ w'.cell? ⟨w1.heap.size, 0, none⟩ = some vm) (go_keep)
          (first | (go_at_call 69; refine HJ.out.mono ?_; rintro e w3 ⟨⟨j, rfl, hj⟩, hb⟩; have HB3 := Lib.hid hb; have HJ3 := Lib.hid hj; have f0 : w3.cell? ⟨w.heap.size, 0, none⟩ = some (.string x.op) := (hb.cell (p := ⟨w.heap.size, 0, none⟩) (Nat.lt_trans hl1 hbm)).trans a0; have f1 : w3.cell? ⟨w1.heap.size, 0, none⟩ = some vm := (hb.cell (p := ⟨w1.heap.size, 0, none⟩) hbm).trans p0; have hjs : j.size ≤ 20 := size_of_join hj HJN.out; have hcat2 := (fun wz => run_string_add_sum (P := Tryd.prog) wz (x.op ++ ⟨#[32]⟩) j (cat_le_max hsz hjs)); clear hb hj)
                 | (go_at_call 103; refine (Tryd.strings_TrimSuffix _ _ _ (size_le_max hsz hjs)).mono ?_; rintro e w4 ⟨rfl, rfl⟩))
        go_wp2
        go_ret
        refine ⟨ret_str ?_, HBW3.out.drew.trans (HB3.out.mono HBW3.out.size)⟩
        rw [HV.out]
        apply toList_inj
        rw [Go.ByteArray.toList_eq, Go.ByteArray.toList_eq]
        show Lib.trimSuffix _ _ = _
        rw [HJ3.out, ← HFIN.out]
        simp [shapeL, joinL]
end Go.Proofs.YtkkjoghfdmmpaaaDoor
