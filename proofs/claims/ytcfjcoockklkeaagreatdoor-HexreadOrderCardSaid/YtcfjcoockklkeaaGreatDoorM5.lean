/-
  Texts merged: W15 W16 W17 W18 W19 W20 
-/
import Derived.Test.YtcfjcoockklkeaaGreatDoorM4
/-
  breadboardref02.Few. Conditions: none.
-/
namespace Go.Proofs.YtcfjcoockklkeaaGreatDoor
open Go.RowKit

def runIR : Rep (Int × List UInt8) := Rep.pair intR (Rep.slice byteR)
theorem SlR.irun {w : World} {p : Blocks} {v : Value} {l : List (Int × List UInt8)} (h : SlR runIR w p v l) : ∃ a cap, v = .slice a l.length cap ∧ l.length ≤ cap ∧ cap ≤ 9223372036854775807 ∧
    ∀ i x, l[i]? = some x → ∃ b o sa sc, a = some ⟨b, o, none⟩ ∧ p b ∧ w.cell? ⟨b, o + i * 2, none⟩ = some (.int .i64 x.1) ∧ w.cell? ⟨b, o + i * 2 + 1, none⟩ = some (.slice sa x.2.length sc) ∧ SlR byteR w p (.slice sa x.2.length sc) x.2 := by
  obtain ⟨a, cap, e, h1, h2, h3⟩ := h
  refine ⟨a, cap, e, h1, by simpa [maxLen] using h2, fun i x hx => ?_⟩
  obtain ⟨b, o, cs, ea, hb, hbs, hc, hr⟩ := h3 i x hx
  obtain ⟨c1, c2, ecs, hr1, vs, hv, hs⟩ := hr
  have hr1 : c1 = [.int .i64 x.1] := hr1
  obtain ⟨sa, sc, rfl, _⟩ := hs.byte
  subst ecs hr1 hv
  exact ⟨b, o, sa, sc, ea, hb, hc 0 _ rfl, hc 1 _ rfl, hs⟩
def sumF (l : List (Int × List UInt8)) : Nat := (l.map fun r => min r.2.length 5000).sum
def fewB (l : List (Int × List UInt8)) : Bool := decide (l.length ≤ 60) && decide (sumF l ≤ 3000)
theorem sumF_take {l : List (Int × List UInt8)} {k : Nat} {x : Int × List UInt8} (h : l.take (k + 1) = l.take k ++ [x]) : sumF (l.take (k + 1)) = sumF (l.take k) + min x.2.length 5000 := by
  unfold sumF
  rw [h]
  simp
theorem sumF_le (l : List (Int × List UInt8)) : sumF l ≤ 5000 * l.length := by
  unfold sumF
  induction l with
  | nil => simp
  | cons x l ih => rw [List.map_cons, List.sum_cons, List.length_cons]; omega
set_option maxHeartbeats 2000000 in
set_option maxRecDepth 100000 in
theorem Few_any (p : Blocks) (v : Value) (l : List (Int × List UInt8)) (w : World) (h : SlR runIR w p v l) :
    Calls Tryz.prog 14 #[v] w fun e w' => e = .returned (.bool (fewB l)) ∧ w = w' := by
  obtain ⟨a, c, rfl, hc1, hc2, g⟩ := h.irun
  have G := Lib.hid g
  have hlen : (l.length : Int) ≤ 9223372036854775807 := by omega
  have HLN := Lib.hid hlen
  clear h g hc1 hc2 hlen
  go_enter Tryz.func14, Tryz.ntmps14
  go_wp2
  go_loop [3, 4] (fun z i => ∃ (k : Nat) (m : Int), k ≤ l.length ∧ i = .int .i64 k ∧ z = .int .i64 m ∧ (k ≤ 1000 → m = sumF (l.take k))) (fun _ i => l.length - (intOf i).toNat)
  case atStart => exact ⟨0, 0, Nat.zero_le _, rfl, rfl, fun _ => rfl⟩
  case round =>
    obtain ⟨k, m, hk, rfl, rfl, hm⟩ := hrel
    have HM := Lib.hid hm
    clear hm
    by_cases hlt : k < l.length
    · have HTK := Lib.hid (sumF_take (List.take_succ_eq_append_getElem hlt))
      obtain ⟨b1, o1, sa, sc, rfl, _, d0, d1, hsl⟩ := G.out k l[k] (List.getElem?_eq_getElem hlt)
      have hsz : (l[k].2.length : Int) ≤ 9223372036854775807 := by
        obtain ⟨_, _, e, h1, h2, _⟩ := hsl.byte
        omega
      clear hsl d0
      generalize l[k] = x at *
      have hk9 := HLN.out
      have hmn : min (x.2.length : Int) 5000 = ((min x.2.length 5000 : Nat) : Int) := by omega
      have hm2 : min x.2.length 5000 ≤ 5000 := Nat.min_le_right _ _
      have HMN := Lib.hid hmn
      clear hmn
      by_cases hkk : k < 1000
      · have hme := HM.out (by omega)
        have hsl2 := sumF_le (l.take k)
        have hlk : (l.take k).length ≤ k := List.length_take_le _ _
        have hm0 : (0 : Int) ≤ m := by omega
        have hm1 : m ≤ 5000000 := by omega
        have HME := Lib.hid hme
        clear hme hsl2 hlk
        go_wp2
        rw [HMN.out]
        go_round
        case rel => exact ⟨k + 1, m + (min x.2.length 5000 : Nat), by omega, by go_num, by go_num, fun _ => by rw [HTK.out, HME.out]; omega⟩
        case measure => simp [intOf]; omega
      · go_wp2
        go_round
        case rel => exact ⟨k + 1, _, by omega, by go_num, rfl, fun h => absurd h (by omega)⟩
        case measure => simp [intOf]; omega
    · obtain rfl : k = l.length := by omega
      rw [List.take_length] at HM
      by_cases hl60 : l.length ≤ 60
      · have hme := HM.out (by omega)
        have hsl2 := sumF_le l
        subst hme
        have h60 : decide ((l.length : Int) ≤ 60) = true := by simp; omega
        have HF : Hid (fewB l = decide ((sumF l : Int) ≤ 3000)) := by
          show _ = _
          unfold fewB
          rw [decide_eq_true hl60, Bool.true_and, Bool.eq_iff_iff]
          simp; omega
        clear HM hsl2
        generalize hq : decide ((sumF l : Int) ≤ 3000) = q at *
        go_wp2
        go_ret
        exact ⟨ret_bool (by rw [HF.out]), rfl⟩
      · have h60 : decide ((l.length : Int) ≤ 60) = false := by simp; omega
        have HF : Hid (fewB l = false) := by
          show _ = _
          unfold fewB
          rw [decide_eq_false hl60, Bool.false_and]
        go_wp2
        go_ret
        exact ⟨ret_bool HF.out.symm, rfl⟩
end Go.Proofs.YtcfjcoockklkeaaGreatDoor

/-
  breadboardref02.Put. Conditions: sizes.
-/
namespace Go.Proofs.YtcfjcoockklkeaaGreatDoor
open Go.RowKit

/-- cells in memory: nil if there are none -/
def CelV (w : World) (p : Blocks) (v : Value) (m : List CellV) : Prop := (m = [] ∧ v = .slice none 0 0) ∨ (m ≠ [] ∧ SlR cellR w p v m)
theorem CelV.sl {w : World} {p : Blocks} {v : Value} {m : List CellV} (h : CelV w p v m) : SlR cellR w p v m := by
  rcases h with ⟨rfl, rfl⟩ | ⟨_, h⟩
  · exact SlR.nil _ _ _
  · exact h
theorem CelV.below {w w' : World} {p q : Blocks} {v : Value} {m : List CellV} (h : CelV w p v m) (hb : Below w.heap.size w w') (hq : ∀ k, p k → q k) : CelV w' q v m := by
  rcases h with ⟨rfl, rfl⟩ | ⟨h0, h⟩
  · exact .inl ⟨rfl, rfl⟩
  · exact .inr ⟨h0, (h.old.below hb).mono fun k hk => hq k hk.1⟩
theorem elCel : ElT Tryz.prog 29 111 cellR.size 16 := ElT.mk' (z := .agg #[.int .i64 0, .int .u8 0]) Tryz.underlying29 (by kernel_rfl) rfl (by decide)
theorem cellsF_get : ∀ (l : List UInt8) (a k : Nat) (h : k < l.length) (h2 : k < (cellsF a l).length), (cellsF a l)[k] = ⟨a + k, l[k]⟩
  | [], _, _, h, _ => by simp at h
  | b :: l, a, 0, _, _ => rfl
  | b :: l, a, k + 1, h, h2 => by
    show (cellsF (a + 1) l)[k]'_ = _
    rw [cellsF_get l (a + 1) k (by simpa using h) (by simpa [cellsF_len] using h)]
    simp; omega
theorem find02_le (a : Int) : ∀ m : List CellV, find02 a m ≤ m.length
  | [] => Nat.le_refl _
  | c :: m => by
    unfold find02
    split
    · have := find02_le a m; simp; omega
    · simp
/-- What Put answers. -/
def Put02R (w : World) (p : Blocks) (m : List CellV) (a : Int) (l : List UInt8) (e : Ending) (w' : World) : Prop :=
  ∃ v', e = .returned (.tuple #[v', .int .i64 ((put02 m a l).2 : Nat)]) ∧ CelV w' (fun k => p k ∨ w.heap.size ≤ k) v' (put02 m a l).1 ∧ Below w.heap.size w w'
theorem put02_out {m : List CellV} {a : Int} {l : List UInt8} (h : a < 0 ∨ 65535 < a) : put02 m a l = (m, 2) := by unfold put02; rw [if_pos h]
theorem put02_wrap {m : List CellV} {a : Int} {l : List UInt8} (h : ¬ (a < 0 ∨ 65535 < a)) (h2 : (65536 : Int) - a < l.length) : put02 m a l = (m, 10) := by unfold put02; rw [if_neg h, if_pos h2]
theorem put02_none {m : List CellV} {a : Int} (h : ¬ (a < 0 ∨ 65535 < a)) : put02 m a [] = (m, 0) := by
  unfold put02
  rw [if_neg h, if_neg (by simp; omega), if_pos rfl]
theorem put02_over {m : List CellV} {a : Int} {l : List UInt8} (h : ¬ (a < 0 ∨ 65535 < a)) (h2 : ¬ (65536 : Int) - a < l.length) (h3 : l ≠ []) (hf : find02 a m < m.length) (h4 : ((m[find02 a m]'hf).addr : Int) < a + l.length) : put02 m a l = (m, 4) := by
  unfold put02
  rw [if_neg h, if_neg h2, if_neg h3, if_pos ⟨_, List.getElem?_eq_getElem hf, h4⟩]
theorem put02_yes {m : List CellV} {a : Int} {l : List UInt8} (h : ¬ (a < 0 ∨ 65535 < a)) (h2 : ¬ (65536 : Int) - a < l.length) (h3 : l ≠ []) (h4 : ∀ hf : find02 a m < m.length, ¬ ((m[find02 a m]'hf).addr : Int) < a + l.length) : put02 m a l = (m.take (find02 a m) ++ cellsF a.toNat l ++ m.drop (find02 a m), 0) := by
  unfold put02
  rw [if_neg h, if_neg h2, if_neg h3, if_neg]
  rintro ⟨c, hc, hlt⟩
  obtain ⟨hf, rfl⟩ := List.getElem?_eq_some_iff.1 hc
  exact h4 hf hlt
set_option maxHeartbeats 2000000 in
set_option maxRecDepth 100000 in
theorem Put02_no (p q : Blocks) (v vb : Value) (m : List CellV) (a : Int) (l : List UInt8) (w : World) (h : CelV w p v m) (hs : SlR byteR w q vb l) (hl : l.length ≤ 100000) (hm : m.length ≤ 100000) (ha1 : -9223372036854775808 ≤ a) (ha2 : a ≤ 9223372036854775807) (hc : (put02 m a l).2 ≠ 0 ∨ l = []) :
    Calls Tryz.prog 34 #[v, .int .i64 a, vb] w (Put02R w p m a l) := by
  obtain ⟨sa, c, rfl, _⟩ := hs.byte
  obtain ⟨ma, mc, rfl, _, _, gm⟩ := h.sl.cel
  have HFD := Lib.hid (Find_any p _ m a w h.sl)
  have HCV : Hid (CelV w (fun k => p k ∨ w.heap.size ≤ k) (.slice ma m.length mc) m) := h.below (Below.refl _ _) (fun _ h => .inl h)
  have hl1 : (l.length : Int) ≤ 100000 := by omega
  have hm1 : (m.length : Int) ≤ 100000 := by omega
  have fin : ∀ c, put02 m a l = (m, c) → Hid (Put02R w p m a l (.returned (.tuple #[.slice ma m.length mc, .int .i64 (c : Nat)])) w) := fun c hc => ⟨_, by rw [hc], by rw [hc]; exact HCV.out, Below.refl _ _⟩
  have FIN := Lib.hid fin
  clear fin h hs
  by_cases h1 : a < 0
  · have hd1 : decide (a < 0) = true := by simp; omega
    have HF := FIN.out 2 (put02_out (.inl h1))
    clear h1 hc ha1 ha2 gm
    generalize Put02R w p m a l = PR at *
    go_enter Tryz.func34, Tryz.ntmps34
    go_wp2
    exact HF.out
  · have hd1 : decide (a < 0) = false := by simp; omega
    by_cases h2 : 65535 < a
    · have hd2 : decide (65535 < a) = true := by simp; omega
      have HF := FIN.out 2 (put02_out (.inr h2))
      clear h1 h2 hc ha1 ha2 gm
      generalize Put02R w p m a l = PR at *
      go_enter Tryz.func34, Tryz.ntmps34
      go_wp2
      exact HF.out
    · have hd2 : decide (65535 < a) = false := by simp; omega
      have hno : ¬ (a < 0 ∨ 65535 < a) := by omega
      have ha0 : (0 : Int) ≤ a := by omega
      have ha9 : a ≤ 65535 := by omega
      by_cases h3 : (65536 : Int) - a < l.length
      · have hd3 : decide ((65536 : Int) - a < (l.length : Int)) = true := by simp; omega
        have HF := FIN.out 10 (put02_wrap hno h3)
        clear h1 h2 h3 hno hc ha1 ha2 gm
        generalize Put02R w p m a l = PR at *
        go_enter Tryz.func34, Tryz.ntmps34
        go_wp2
        exact HF.out
      · have hd3 : decide ((65536 : Int) - a < (l.length : Int)) = false := by simp; omega
        by_cases h4 : l = []
        · subst h4
          have HF := FIN.out 0 (put02_none hno)
          clear h1 h2 h3 hno hc ha1 ha2 gm
          generalize Put02R w p m a [] = PR at *
          go_enter Tryz.func34, Tryz.ntmps34
          go_wp2_with (go_at_call 58; refine HFD.out.mono ?_; rintro e w' ⟨rfl, rfl⟩)
          exact HF.out
        · have hlp := List.length_pos_iff.2 h4
          have hd4 : ((l.length : Int) == 0) = false := by simp; omega
          by_cases h5 : ∃ hf : find02 a m < m.length, ((m[find02 a m]'hf).addr : Int) < a + l.length
          · obtain ⟨hf, h5⟩ := h5
            have HF := FIN.out 4 (put02_over hno h3 h4 hf h5)
            obtain ⟨b1, o1, rfl, _, d0, _⟩ := gm _ _ (List.getElem?_eq_getElem hf)
            have hxl : ((m[find02 a m]'hf).addr : Int) ≤ 300000 := by omega
            clear h1 h2 h3 hno hc ha1 ha2 gm
            generalize (m[find02 a m]'hf).addr = y at *
            generalize find02 a m = f at *
            generalize Put02R w p m a l = PR at *
            have hf2 : (f : Int) < (m.length : Int) := by omega
            have hf3 : decide ((f : Int) < (m.length : Int)) = true := by simp; omega
            have hd5 : decide ((y : Int) < a + (l.length : Int)) = true := by simp; omega
            go_enter Tryz.func34, Tryz.ntmps34
            go_wp2_with (go_at_call 58; refine HFD.out.mono ?_; rintro e w' ⟨rfl, rfl⟩)
            exact HF.out
          · have := put02_yes hno h3 h4 (fun hf h => h5 ⟨hf, h⟩)
            rw [this] at hc
            rcases hc with hc | hc
            · exact absurd rfl hc
            · exact absurd hc h4
end Go.Proofs.YtcfjcoockklkeaaGreatDoor

/-
  breadboardref02.Put where the bytes are laid. Conditions: sizes.
-/
namespace Go.Proofs.YtcfjcoockklkeaaGreatDoor
open Go.RowKit

theorem cel_enc (x : CellV) : (#[Value.int .i64 x.addr, .int .u8 x.byte.toNat] : Array Value) = [Value.int .i64 (x.addr : Int), .int .u8 (x.byte.toNat : Int)].toArray := rfl
theorem cel_cut {w : World} {p : Blocks} {sa : Option Addr} {c n : Nat} {l : List CellV} (h : SlR cellR w p (.slice sa l.length c) l) (hn : n ≤ l.length) : SlR cellR w p (.slice sa n c) (l.take n) := by
  obtain ⟨a', c', e, h1, h2, h3⟩ := h
  injection e with e1 e2 e3
  subst e1 e3
  have hlen : (l.take n).length = n := by simp; omega
  refine ⟨_, _, by rw [hlen], by omega, h2, fun i y hy => ?_⟩
  have hi : i < n := by rw [← hlen]; exact (List.getElem?_eq_some_iff.1 hy).1
  rw [List.getElem?_take, if_pos hi] at hy
  exact h3 i y hy
theorem cel_rest {w : World} {p : Blocks} {b o c n : Nat} {l : List CellV} (h : SlR cellR w p (.slice (some ⟨b, o, none⟩) l.length c) l) (hn : n ≤ l.length) : SlR cellR w p (.slice (some ⟨b, o + n * 2, none⟩) (l.length - n) (c - n)) (l.drop n) := by
  obtain ⟨a', c', e, h1, h2, h3⟩ := h
  injection e with e1 e2 e3
  subst e1 e3
  have hlen : (l.drop n).length = l.length - n := by simp
  refine ⟨_, _, by rw [hlen], by omega, by omega, fun i y hy => ?_⟩
  rw [List.getElem?_drop] at hy
  obtain ⟨b', o', cs, e, hp, hlt, hcs, hr⟩ := h3 (n + i) y hy
  injection e with e
  injection e with e4 e5
  subst e4 e5
  refine ⟨_, _, cs, rfl, hp, hlt, ?_, hr⟩
  rw [cellR_size] at hcs ⊢
  rw [show o + n * 2 + i * 2 = o + (n + i) * 2 by omega]
  exact hcs
/-- the three appends of Put -/
structure PutH (w wl : World) (p : Blocks) (m : List CellV) (cs : List CellV) (v9 : Value) : Prop where
  own : Own cellR wl w.heap.size 111 NoB v9 cs
  below : Below w.heap.size w wl
set_option maxHeartbeats 4000000 in
set_option maxRecDepth 100000 in
theorem Put02_in (p q : Blocks) (ma : Option Addr) (mc : Nat) (vb : Value) (m : List CellV) (a : Nat) (l : List UInt8) (w : World) (h : SlR cellR w p (.slice ma m.length mc) m) (hs : SlR byteR w q vb l) (hl : a + l.length ≤ 65536) (hm : m.length ≤ 100000) (h0 : l ≠ []) (hf : find02 a m < m.length)
    (h4 : ∀ hf : find02 a m < m.length, ¬ ((m[find02 a m]'hf).addr : Int) < a + l.length) (v1 v2 : Value) (l1 l2 : List CellV) (e12 : m.take (find02 a m) = l1 ∧ m.drop (find02 a m) = l2) (hv1 : SlR cellR w p v1 l1) (hv2 : SlR cellR w p v2 l2)
    (hc1 : ∀ w, (Instr.sliceAt 29 (.slice ma m.length mc) none (some (.int .i64 (find02 a m : Nat))) none).run Tryz.prog w = .ok v1 w) (hc2 : ∀ w, (Instr.sliceAt 29 (.slice ma m.length mc) (some (.int .i64 (find02 a m : Nat))) none none).run Tryz.prog w = .ok v2 w) :
    Calls Tryz.prog 34 #[.slice ma m.length mc, .int .i64 a, vb] w fun e w' => ∃ v', e = .returned (.tuple #[v', .int .i64 0]) ∧ SlR cellR w' (fun k => w.heap.size ≤ k) v' (l1 ++ cellsF a l ++ l2) ∧ Below w.heap.size w w' := by
  obtain ⟨sa, c, rfl, _, _, gb⟩ := hs.byte
  have HFD := Lib.hid (Find_any p _ m a w h)
  have hpos := List.length_pos_iff.2 h0
  have hl1 : (l.length : Int) ≤ 65536 := by omega
  have hm1 : (m.length : Int) ≤ 100000 := by omega
  have ha0 : (0 : Int) ≤ (a : Int) := by omega
  have ha9 : (a : Int) ≤ 65535 := by omega
  have hd1 : decide ((a : Int) < 0) = false := by simp
  have hd2 : decide ((65535 : Int) < a) = false := by simp; omega
  have hd3 : decide ((65536 : Int) - a < (l.length : Int)) = false := by simp; omega
  have hd4 : ((l.length : Int) == 0) = false := by rw [beq_eq_false_iff_ne]; omega
  have HBS := Lib.hid hs
  have HV1 := Lib.hid hv1
  have HV2 := Lib.hid hv2
  have HL12 : Hid (l1.length + l2.length = m.length) := by
    show _ = _
    rw [← e12.1, ← e12.2, List.length_take, List.length_drop]
    have := find02_le a m
    omega
  have HLL := Lib.hid hl
  have hfl := find02_le a m
  have hf0 : (0 : Int) ≤ (find02 a m : Int) := by omega
  have HM := Lib.hid hm
  obtain ⟨_, _, em, _, _, gm⟩ := h.cel
  injection em with em1 _ em3
  subst em1 em3
  have HCF := Lib.hid (cellsF_len l a)
  obtain ⟨b1, o1, rfl, _, d0, d0'⟩ := gm _ _ (List.getElem?_eq_getElem hf)
  have hd5 : decide (((m[find02 a m]'hf).addr : Int) < (a : Int) + (l.length : Int)) = false := decide_eq_false (h4 hf)
  have hf2 : (find02 a m : Int) < (m.length : Int) := by omega
  have hf3 : decide ((find02 a m : Int) < (m.length : Int)) = true := by simp; omega
  clear h4 gm gb d0'
  generalize (m[find02 a m]'hf).addr = y0 at *
  clear h hs hv1 hv2 hl hm e12 hfl hf
  generalize find02 a m = f at *
  go_enter Tryz.func34, Tryz.ntmps34
  go_wp2_with (go_at_call 58; refine HFD.out.mono ?_; rintro e w' ⟨rfl, rfl⟩)
  go_loopw [9, 10] (fun v i wr => ∃ k : Nat, k ≤ l.length ∧ i = .int .i64 k ∧ Own cellR wr w.heap.size 111 NoB v ((cellsF a l).take k) ∧ Below w.heap.size w wr) (fun _ i _ => l.length - (intOf i).toNat)
  case atStart => exact ⟨0, Nat.zero_le _, rfl, Own.nil _ _ _ _ _, Below.refl _ _⟩
  case round =>
    obtain ⟨k, hk, rfl, ho, hb⟩ := hrel
    by_cases hlt : k < l.length
    · have hlt2 : k < (cellsF a l).length := by rw [HCF.out]; exact hlt
      have HT := List.take_succ_eq_append_getElem hlt2
      rw [cellsF_get l a k hlt hlt2] at HT
      have HTT := Lib.hid HT
      obtain ⟨ad, cd, hv, _, _, g⟩ := (HBS.out.old.below hb).byte
      obtain ⟨rfl, _, rfl⟩ : sa = ad ∧ l.length = l.length ∧ c = cd := by injection hv with h1 h2 h3; exact ⟨h1, h2, h3⟩
      obtain ⟨b1, o1, rfl, _, hcell⟩ := g k l[k] (List.getElem?_eq_getElem hlt)
      have hlen : ((cellsF a l).take k).length = k := by rw [List.length_take, HCF.out]; omega
      have HLEN := Lib.hid hlen
      have hak : (a : Int) + k ≤ 65536 := by have := HLL.out; omega
      have hk0 : (0 : Int) ≤ (k : Int) := by omega
      clear g hv HT hlen hlt2
      generalize l[k] = y at *
      generalize hx : (cellsF a l).take k = xs at *
      have HX := Lib.hid hx
      have HO := Lib.hid ho
      have HB := Lib.hid hb
      obtain ⟨oa, oc, rfl⟩ := ho.form
      clear hx ho hb
      have HC1 : Hid ((xs.length + 1) * 16 ≤ 140737488355328) := by show _ ≤ _; have := HLEN.out; omega
      have HC2 : Hid (xs.length + 1 ≤ 9223372036854775807) := by show _ ≤ _; have := HLEN.out; omega
      go_wp2_with (at_builtin; refine wpList_push rfl (.tmp 54) (.tmp 63) 29 rfl w.heap.size 111 16 elCel _ xs ⟨a + k, y⟩ _ rfl rfl HO.out (by go_num) HC1.out HC2.out HB.out.size ?_; intro a' c' w' hp; have HP := Lib.hid hp; clear hp)
      go_roundw
      case rel => exact ⟨k + 1, by omega, by go_num, by rw [HTT.out]; exact HP.out.1, HB.out.grown HP.out.2 HB.out.size (fun j hj => (HO.out.lt j hj).1)⟩
      case measure => simp [intOf]; omega
    · obtain rfl : k = l.length := by omega
      have hco := ho
      rw [← HCF.out, List.take_length] at hco
      have HCO := Lib.hid hco
      have HB := Lib.hid hb
      obtain ⟨ca, cc, rfl⟩ := ho.form
      rw [show ((cellsF a l).take l.length).length = l.length by rw [List.length_take, HCF.out]; omega] at *
      clear ho hb hco
      go_upto_region 15 with fail
      have HOM : Hid (Own cellR (wr.alloc (.cells #[] 111)).drew wr.heap.size 111 NoB (.slice (some ⟨wr.heap.size, 0, none⟩) 0 0) []) := (Own.made wr _ _).keep (Keep.drew _)
      have HX1 : Hid (SlR cellR (wr.alloc (.cells #[] 111)).drew (fun k => p k ∧ k < w.heap.size) v1 l1) := ((HV1.out.old.below HB.out).alloc _).drew
      have HQ1 : Hid (∀ k, p k ∧ k < w.heap.size → some k ≠ Value.ownBlock (.slice (some ⟨wr.heap.size, 0, none⟩) 0 0)) := fun k hk e => by have := HB.out.size; simp [Value.ownBlock] at e; omega
      have HB1 : Hid (Below wr.heap.size wr (wr.alloc (.cells #[] 111)).drew) := ((Below.refl _ wr).alloc (Nat.le_refl _) _).drew
      have HN1 : Hid ((([] : List CellV).length + l1.length) * 16 ≤ 140737488355328) := by show (0 + _) * 16 ≤ _; have := HL12.out; have := HM.out; omega
      have HN2 : Hid (([] : List CellV).length + l1.length ≤ 9223372036854775807) := by show 0 + _ ≤ _; have := HL12.out; have := HM.out; omega
      have HN3 : Hid ((l1.length + (cellsF a l).length) * 16 ≤ 140737488355328) := by show _ ≤ _; rw [HCF.out]; have := HL12.out; have := HM.out; have := HLL.out; omega
      have HN4 : Hid (l1.length + (cellsF a l).length ≤ 9223372036854775807) := by show _ ≤ _; rw [HCF.out]; have := HL12.out; have := HM.out; have := HLL.out; omega
      have HN5 : Hid (((l1 ++ cellsF a l).length + l2.length) * 16 ≤ 140737488355328) := by show _ ≤ _; rw [List.length_append, HCF.out]; have := HL12.out; have := HM.out; have := HLL.out; omega
      have HN6 : Hid ((l1 ++ cellsF a l).length + l2.length ≤ 9223372036854775807) := by show _ ≤ _; rw [List.length_append, HCF.out]; have := HL12.out; have := HM.out; have := HLL.out; omega
      go_region_held3 (fun _ => True) (exact trivial)
        (first
          | ((refine step_append_R (o := ⟨some 69, _, _, _, _, _⟩) _ ?g69 (.tmp 65) (.tmp 68) 29 ?o69 wr.heap.size 111 16 elCel NoB (fun k => p k ∧ k < w.heap.size) (.slice (some ⟨wr.heap.size, 0, none⟩) 0 0) v1 [] l1 ?x69 ?y69 HOM.out HX1.out (fun _ h => h.elim) HQ1.out HN1.out HN2.out HB1.out.size ?z69); (case g69 => rfl); (case o69 => rfl); (case x69 => rfl); (case y69 => rfl); intro v5 wA hap; rw [List.nil_append] at hap; have HB2 := Lib.hid (HB1.out.grown hap.2.1 HB1.out.size (fun k e => by simp [Value.ownBlock] at e; omega)); have HO2 : Hid (Own cellR wA wr.heap.size 111 NoB v5 l1) := hap.1.flat NoB; obtain ⟨a5, c5, rfl⟩ := hap.1.form; have HX2 : Hid (SlR cellR wA (fun k => w.heap.size ≤ k ∧ k < wr.heap.size) (.slice ca l.length cc) (cellsF a l)) := (HCO.out.slR (q := fun k => w.heap.size ≤ k) (fun _ h => h.elim) (fun _ h => h)).old.below HB2.out; have HQ2 : Hid (∀ k, w.heap.size ≤ k ∧ k < wr.heap.size → some k ≠ Value.ownBlock (.slice a5 l1.length c5)) := fun k hk e => by { have := (HO2.out.lt k e.symm).1; omega }; clear hap)
          | (refine step_append_R (o := ⟨some 71, _, _, _, _, _⟩) _ ?g71 (.tmp 69) (.tmp 70) 29 ?o71 wr.heap.size 111 16 elCel NoB (fun k => w.heap.size ≤ k ∧ k < wr.heap.size) (.slice a5 l1.length c5) (.slice ca l.length cc) l1 (cellsF a l) ?x71 ?y71 HO2.out HX2.out (fun _ h => h.elim) HQ2.out HN3.out HN4.out HB2.out.size ?z71; (case g71 => rfl); (case o71 => rfl); (case x71 => rfl); (case y71 => rfl); intro v6 wC hap; have HB3 := Lib.hid (HB2.out.grown hap.2.1 HB2.out.size (fun k e => (HO2.out.lt k e).1)); have HO3 : Hid (Own cellR wC wr.heap.size 111 NoB v6 (l1 ++ cellsF a l)) := hap.1.flat NoB; obtain ⟨a6, c6, rfl⟩ := hap.1.form; have HX3 : Hid (SlR cellR wC (fun k => p k ∧ k < w.heap.size) v2 l2) := HV2.out.old.below (HB.out.trans (HB3.out.mono HB.out.size)); have HQ3 : Hid (∀ k, p k ∧ k < w.heap.size → some k ≠ Value.ownBlock (.slice a6 (l1 ++ cellsF a l).length c6)) := fun k hk e => by { have := (HO3.out.lt k e.symm).1; have := HB.out.size; omega }; clear hap)
          | (refine step_append_R (o := ⟨some 75, _, _, _, _, _⟩) _ ?g75 (.tmp 71) (.tmp 74) 29 ?o75 wr.heap.size 111 16 elCel NoB (fun k => p k ∧ k < w.heap.size) (.slice a6 (l1 ++ cellsF a l).length c6) v2 (l1 ++ cellsF a l) l2 ?x75 ?y75 HO3.out HX3.out (fun _ h => h.elim) HQ3.out HN5.out HN6.out HB3.out.size ?z75; (case g75 => rfl); (case o75 => rfl); (case x75 => rfl); (case y75 => rfl); intro v7 wD hap; have HB4 := Lib.hid (HB3.out.grown hap.2.1 HB3.out.size (fun k e => (HO3.out.lt k e).1)); have HO4 : Hid (Own cellR wD wr.heap.size 111 NoB v7 (l1 ++ cellsF a l ++ l2)) := hap.1.flat NoB; obtain ⟨a7, c7, rfl⟩ := hap.1.form; clear hap))
      go_wp2
      go_ret2
      refine ⟨_, rfl, ?_, HB.out.trans (HB4.out.mono HB.out.size)⟩
      have HF := HO4.out.slR (q := fun k => w.heap.size ≤ k) (fun _ h => h.elim) (fun k hk => Nat.le_trans HB.out.size hk)
      simp only [List.length_append, Nat.add_assoc] at HF
      exact HF
set_option maxHeartbeats 4000000 in
set_option maxRecDepth 100000 in
theorem Put02_end (p q : Blocks) (ma : Option Addr) (mc : Nat) (vb : Value) (m : List CellV) (a : Nat) (l : List UInt8) (w : World) (h : SlR cellR w p (.slice ma m.length mc) m) (hs : SlR byteR w q vb l) (hl : a + l.length ≤ 65536) (hm : m.length ≤ 100000) (h0 : l ≠ []) (hf : ¬ find02 a m < m.length)
    (v1 v2 : Value) (l1 l2 : List CellV) (e12 : m.take (find02 a m) = l1 ∧ m.drop (find02 a m) = l2) (hv1 : SlR cellR w p v1 l1) (hv2 : SlR cellR w p v2 l2)
    (hc1 : ∀ w, (Instr.sliceAt 29 (.slice ma m.length mc) none (some (.int .i64 (find02 a m : Nat))) none).run Tryz.prog w = .ok v1 w) (hc2 : ∀ w, (Instr.sliceAt 29 (.slice ma m.length mc) (some (.int .i64 (find02 a m : Nat))) none none).run Tryz.prog w = .ok v2 w) :
    Calls Tryz.prog 34 #[.slice ma m.length mc, .int .i64 a, vb] w fun e w' => ∃ v', e = .returned (.tuple #[v', .int .i64 0]) ∧ SlR cellR w' (fun k => w.heap.size ≤ k) v' (l1 ++ cellsF a l ++ l2) ∧ Below w.heap.size w w' := by
  obtain ⟨sa, c, rfl, _, _, gb⟩ := hs.byte
  have HFD := Lib.hid (Find_any p _ m a w h)
  have hpos := List.length_pos_iff.2 h0
  have hl1 : (l.length : Int) ≤ 65536 := by omega
  have hm1 : (m.length : Int) ≤ 100000 := by omega
  have ha0 : (0 : Int) ≤ (a : Int) := by omega
  have ha9 : (a : Int) ≤ 65535 := by omega
  have hd1 : decide ((a : Int) < 0) = false := by simp
  have hd2 : decide ((65535 : Int) < a) = false := by simp; omega
  have hd3 : decide ((65536 : Int) - a < (l.length : Int)) = false := by simp; omega
  have hd4 : ((l.length : Int) == 0) = false := by rw [beq_eq_false_iff_ne]; omega
  have HBS := Lib.hid hs
  have HV1 := Lib.hid hv1
  have HV2 := Lib.hid hv2
  have HL12 : Hid (l1.length + l2.length = m.length) := by
    show _ = _
    rw [← e12.1, ← e12.2, List.length_take, List.length_drop]
    have := find02_le a m
    omega
  have HLL := Lib.hid hl
  have hfl := find02_le a m
  have hf0 : (0 : Int) ≤ (find02 a m : Int) := by omega
  have HM := Lib.hid hm
  obtain ⟨_, _, em, _, _, gm⟩ := h.cel
  injection em with em1 _ em3
  subst em1 em3
  have HCF := Lib.hid (cellsF_len l a)
  have hd5 : decide (find02 a m < m.length) = false := decide_eq_false hf
  clear h hs hv1 hv2 hl hm e12 gm gb hfl hf
  generalize find02 a m = f at *
  go_enter Tryz.func34, Tryz.ntmps34
  go_wp2_with (go_at_call 58; refine HFD.out.mono ?_; rintro e w' ⟨rfl, rfl⟩)
  go_loopw [9, 10] (fun v i wr => ∃ k : Nat, k ≤ l.length ∧ i = .int .i64 k ∧ Own cellR wr w.heap.size 111 NoB v ((cellsF a l).take k) ∧ Below w.heap.size w wr) (fun _ i _ => l.length - (intOf i).toNat)
  case atStart => exact ⟨0, Nat.zero_le _, rfl, Own.nil _ _ _ _ _, Below.refl _ _⟩
  case round =>
    obtain ⟨k, hk, rfl, ho, hb⟩ := hrel
    by_cases hlt : k < l.length
    · have hlt2 : k < (cellsF a l).length := by rw [HCF.out]; exact hlt
      have HT := List.take_succ_eq_append_getElem hlt2
      rw [cellsF_get l a k hlt hlt2] at HT
      have HTT := Lib.hid HT
      obtain ⟨ad, cd, hv, _, _, g⟩ := (HBS.out.old.below hb).byte
      obtain ⟨rfl, _, rfl⟩ : sa = ad ∧ l.length = l.length ∧ c = cd := by injection hv with h1 h2 h3; exact ⟨h1, h2, h3⟩
      obtain ⟨b1, o1, rfl, _, hcell⟩ := g k l[k] (List.getElem?_eq_getElem hlt)
      have hlen : ((cellsF a l).take k).length = k := by rw [List.length_take, HCF.out]; omega
      have HLEN := Lib.hid hlen
      have hak : (a : Int) + k ≤ 65536 := by have := HLL.out; omega
      have hk0 : (0 : Int) ≤ (k : Int) := by omega
      clear g hv HT hlen hlt2
      generalize l[k] = y at *
      generalize hx : (cellsF a l).take k = xs at *
      have HX := Lib.hid hx
      have HO := Lib.hid ho
      have HB := Lib.hid hb
      obtain ⟨oa, oc, rfl⟩ := ho.form
      clear hx ho hb
      have HC1 : Hid ((xs.length + 1) * 16 ≤ 140737488355328) := by show _ ≤ _; have := HLEN.out; omega
      have HC2 : Hid (xs.length + 1 ≤ 9223372036854775807) := by show _ ≤ _; have := HLEN.out; omega
      go_wp2_with (at_builtin; refine wpList_push rfl (.tmp 54) (.tmp 63) 29 rfl w.heap.size 111 16 elCel _ xs ⟨a + k, y⟩ _ rfl rfl HO.out (by go_num) HC1.out HC2.out HB.out.size ?_; intro a' c' w' hp; have HP := Lib.hid hp; clear hp)
      go_roundw
      case rel => exact ⟨k + 1, by omega, by go_num, by rw [HTT.out]; exact HP.out.1, HB.out.grown HP.out.2 HB.out.size (fun j hj => (HO.out.lt j hj).1)⟩
      case measure => simp [intOf]; omega
    · obtain rfl : k = l.length := by omega
      have hco := ho
      rw [← HCF.out, List.take_length] at hco
      have HCO := Lib.hid hco
      have HB := Lib.hid hb
      obtain ⟨ca, cc, rfl⟩ := ho.form
      rw [show ((cellsF a l).take l.length).length = l.length by rw [List.length_take, HCF.out]; omega] at *
      clear ho hb hco
      go_upto_region 15 with fail
      have HOM : Hid (Own cellR (wr.alloc (.cells #[] 111)).drew wr.heap.size 111 NoB (.slice (some ⟨wr.heap.size, 0, none⟩) 0 0) []) := (Own.made wr _ _).keep (Keep.drew _)
      have HX1 : Hid (SlR cellR (wr.alloc (.cells #[] 111)).drew (fun k => p k ∧ k < w.heap.size) v1 l1) := ((HV1.out.old.below HB.out).alloc _).drew
      have HQ1 : Hid (∀ k, p k ∧ k < w.heap.size → some k ≠ Value.ownBlock (.slice (some ⟨wr.heap.size, 0, none⟩) 0 0)) := fun k hk e => by have := HB.out.size; simp [Value.ownBlock] at e; omega
      have HB1 : Hid (Below wr.heap.size wr (wr.alloc (.cells #[] 111)).drew) := ((Below.refl _ wr).alloc (Nat.le_refl _) _).drew
      have HN1 : Hid ((([] : List CellV).length + l1.length) * 16 ≤ 140737488355328) := by show (0 + _) * 16 ≤ _; have := HL12.out; have := HM.out; omega
      have HN2 : Hid (([] : List CellV).length + l1.length ≤ 9223372036854775807) := by show 0 + _ ≤ _; have := HL12.out; have := HM.out; omega
      have HN3 : Hid ((l1.length + (cellsF a l).length) * 16 ≤ 140737488355328) := by show _ ≤ _; rw [HCF.out]; have := HL12.out; have := HM.out; have := HLL.out; omega
      have HN4 : Hid (l1.length + (cellsF a l).length ≤ 9223372036854775807) := by show _ ≤ _; rw [HCF.out]; have := HL12.out; have := HM.out; have := HLL.out; omega
      have HN5 : Hid (((l1 ++ cellsF a l).length + l2.length) * 16 ≤ 140737488355328) := by show _ ≤ _; rw [List.length_append, HCF.out]; have := HL12.out; have := HM.out; have := HLL.out; omega
      have HN6 : Hid ((l1 ++ cellsF a l).length + l2.length ≤ 9223372036854775807) := by show _ ≤ _; rw [List.length_append, HCF.out]; have := HL12.out; have := HM.out; have := HLL.out; omega
      go_region_held3 (fun _ => True) (exact trivial)
        (first
          | ((refine step_append_R (o := ⟨some 69, _, _, _, _, _⟩) _ ?g69 (.tmp 65) (.tmp 68) 29 ?o69 wr.heap.size 111 16 elCel NoB (fun k => p k ∧ k < w.heap.size) (.slice (some ⟨wr.heap.size, 0, none⟩) 0 0) v1 [] l1 ?x69 ?y69 HOM.out HX1.out (fun _ h => h.elim) HQ1.out HN1.out HN2.out HB1.out.size ?z69); (case g69 => rfl); (case o69 => rfl); (case x69 => rfl); (case y69 => rfl); intro v5 wA hap; rw [List.nil_append] at hap; have HB2 := Lib.hid (HB1.out.grown hap.2.1 HB1.out.size (fun k e => by simp [Value.ownBlock] at e; omega)); have HO2 : Hid (Own cellR wA wr.heap.size 111 NoB v5 l1) := hap.1.flat NoB; obtain ⟨a5, c5, rfl⟩ := hap.1.form; have HX2 : Hid (SlR cellR wA (fun k => w.heap.size ≤ k ∧ k < wr.heap.size) (.slice ca l.length cc) (cellsF a l)) := (HCO.out.slR (q := fun k => w.heap.size ≤ k) (fun _ h => h.elim) (fun _ h => h)).old.below HB2.out; have HQ2 : Hid (∀ k, w.heap.size ≤ k ∧ k < wr.heap.size → some k ≠ Value.ownBlock (.slice a5 l1.length c5)) := fun k hk e => by { have := (HO2.out.lt k e.symm).1; omega }; clear hap)
          | (refine step_append_R (o := ⟨some 71, _, _, _, _, _⟩) _ ?g71 (.tmp 69) (.tmp 70) 29 ?o71 wr.heap.size 111 16 elCel NoB (fun k => w.heap.size ≤ k ∧ k < wr.heap.size) (.slice a5 l1.length c5) (.slice ca l.length cc) l1 (cellsF a l) ?x71 ?y71 HO2.out HX2.out (fun _ h => h.elim) HQ2.out HN3.out HN4.out HB2.out.size ?z71; (case g71 => rfl); (case o71 => rfl); (case x71 => rfl); (case y71 => rfl); intro v6 wC hap; have HB3 := Lib.hid (HB2.out.grown hap.2.1 HB2.out.size (fun k e => (HO2.out.lt k e).1)); have HO3 : Hid (Own cellR wC wr.heap.size 111 NoB v6 (l1 ++ cellsF a l)) := hap.1.flat NoB; obtain ⟨a6, c6, rfl⟩ := hap.1.form; have HX3 : Hid (SlR cellR wC (fun k => p k ∧ k < w.heap.size) v2 l2) := HV2.out.old.below (HB.out.trans (HB3.out.mono HB.out.size)); have HQ3 : Hid (∀ k, p k ∧ k < w.heap.size → some k ≠ Value.ownBlock (.slice a6 (l1 ++ cellsF a l).length c6)) := fun k hk e => by { have := (HO3.out.lt k e.symm).1; have := HB.out.size; omega }; clear hap)
          | (refine step_append_R (o := ⟨some 75, _, _, _, _, _⟩) _ ?g75 (.tmp 71) (.tmp 74) 29 ?o75 wr.heap.size 111 16 elCel NoB (fun k => p k ∧ k < w.heap.size) (.slice a6 (l1 ++ cellsF a l).length c6) v2 (l1 ++ cellsF a l) l2 ?x75 ?y75 HO3.out HX3.out (fun _ h => h.elim) HQ3.out HN5.out HN6.out HB3.out.size ?z75; (case g75 => rfl); (case o75 => rfl); (case x75 => rfl); (case y75 => rfl); intro v7 wD hap; have HB4 := Lib.hid (HB3.out.grown hap.2.1 HB3.out.size (fun k e => (HO3.out.lt k e).1)); have HO4 : Hid (Own cellR wD wr.heap.size 111 NoB v7 (l1 ++ cellsF a l ++ l2)) := hap.1.flat NoB; obtain ⟨a7, c7, rfl⟩ := hap.1.form; clear hap))
      go_wp2
      go_ret2
      refine ⟨_, rfl, ?_, HB.out.trans (HB4.out.mono HB.out.size)⟩
      have HF := HO4.out.slR (q := fun k => w.heap.size ≤ k) (fun _ h => h.elim) (fun k hk => Nat.le_trans HB.out.size hk)
      simp only [List.length_append, Nat.add_assoc] at HF
      exact HF
end Go.Proofs.YtcfjcoockklkeaaGreatDoor

/-
  breadboardref02.Put, every case. Conditions: sizes.
-/
namespace Go.Proofs.YtcfjcoockklkeaaGreatDoor
open Go.RowKit

theorem cel_run1 (a : Option Addr) (n c f : Nat) (hf : f ≤ n) (hc : n ≤ c) (w : World) : (Instr.sliceAt 29 (.slice a n c) none (some (.int .i64 (f : Nat))) none).run Tryz.prog w = .ok (sliced a 0 f c 2) w := by
  rw [run_sliceAt_slice _ _ _ _ _ _ (by kernel_rfl), run_slice_h w _ a n c (by kernel_rfl) .i64 (f : Int) (by omega) (by omega)]
  go_simp
theorem cel_run2 (a : Option Addr) (n c f : Nat) (hf : f ≤ n) (w : World) : (Instr.sliceAt 29 (.slice a n c) (some (.int .i64 (f : Nat))) none none).run Tryz.prog w = .ok (sliced a f n c 2) w := by
  rw [run_sliceAt_slice _ _ _ _ _ _ (by kernel_rfl), run_slice_l w _ a n c (by kernel_rfl) .i64 (f : Int) (by omega) (by omega)]
  go_simp
theorem cel_parts {w : World} {p : Blocks} {a : Option Addr} {c : Nat} {m : List CellV} (h : SlR cellR w p (.slice a m.length c) m) (f : Nat) (hf : f ≤ m.length) :
    SlR cellR w p (sliced a 0 f c 2) (m.take f) ∧ SlR cellR w p (sliced a f m.length c 2) (m.drop f) := by
  have h := Lib.hid h
  obtain ⟨a', c', e, h1, h2, _⟩ := h.out
  injection e with e1 _ e3
  subst e1 e3
  by_cases hm : m = []
  · subst hm
    obtain rfl : f = 0 := by simpa using hf
    exact ⟨⟨_, _, rfl, Nat.zero_le _, by simpa using h2, fun i x hx => by simp at hx⟩, ⟨_, _, rfl, Nat.zero_le _, by simpa using h2, fun i x hx => by simp at hx⟩⟩
  · obtain ⟨_, _, e, _, _, g⟩ := h.out.cel
    injection e with e1 _ e3
    subst e1 e3
    have hp := List.length_pos_iff.2 hm
    obtain ⟨b, o, rfl, _⟩ := g 0 _ (List.getElem?_eq_getElem hp)
    constructor
    · unfold sliced
      simp only [Option.map_some, Nat.zero_mul, Addr.add_zero', ite_self, Nat.sub_zero]
      exact cel_cut h.out hf
    · have hr := cel_rest h.out hf
      unfold sliced
      split
      · next hc =>
        have h0 : m.length - f = 0 := by omega
        have hd : m.drop f = [] := List.drop_eq_nil_of_le (by omega)
        rw [h0, hd]
        exact ⟨_, _, rfl, Nat.zero_le _, by omega, fun i x hx => by simp at hx⟩
      · simp only [Option.map_some, Addr.add_lit]
        exact hr
theorem Put02_any (p q : Blocks) (v vb : Value) (m : List CellV) (a : Int) (l : List UInt8) (w : World) (h : CelV w p v m) (hs : SlR byteR w q vb l) (hl : l.length ≤ 65536) (hm : m.length ≤ 100000) (ha1 : -9223372036854775808 ≤ a) (ha2 : a ≤ 9223372036854775807) :
    Calls Tryz.prog 34 #[v, .int .i64 a, vb] w (Put02R w p m a l) := by
  by_cases hc : (put02 m a l).2 ≠ 0 ∨ l = []
  · exact Put02_no p q v vb m a l w h hs (by omega) hm ha1 ha2 hc
  · have h0 : l ≠ [] := fun e => hc (.inr e)
    have hz : (put02 m a l).2 = 0 := by
      by_cases e : (put02 m a l).2 = 0
      · exact e
      · exact absurd (.inl e) hc
    have hno : ¬ (a < 0 ∨ 65535 < a) := fun e => by rw [put02_out e] at hz; simp at hz
    have hw : ¬ (65536 : Int) - a < l.length := fun e => by rw [put02_wrap hno e] at hz; simp at hz
    have h4 : ∀ hf : find02 a m < m.length, ¬ ((m[find02 a m]'hf).addr : Int) < a + l.length := fun hf e => by rw [put02_over hno hw h0 hf e] at hz; simp at hz
    have hy := put02_yes hno hw h0 h4
    obtain ⟨n, rfl⟩ : ∃ n : Nat, a = n := ⟨a.toNat, by omega⟩
    obtain ⟨ma, mc, rfl, hmc, _, _⟩ := h.sl.cel
    obtain ⟨hv1, hv2⟩ := cel_parts h.sl _ (find02_le (n : Int) m)
    have key : Calls Tryz.prog 34 #[.slice ma m.length mc, .int .i64 n, vb] w fun e w' => ∃ v', e = .returned (.tuple #[v', .int .i64 0]) ∧ SlR cellR w' (fun k => w.heap.size ≤ k) v' (m.take (find02 (n : Int) m) ++ cellsF n l ++ m.drop (find02 (n : Int) m)) ∧ Below w.heap.size w w' := by
      by_cases hf : find02 (n : Int) m < m.length
      · exact Put02_in p q ma mc vb m n l w h.sl hs (by omega) hm h0 hf h4 _ _ _ _ ⟨rfl, rfl⟩ hv1 hv2 (fun w => cel_run1 ma m.length mc _ (find02_le _ m) hmc w) (fun w => cel_run2 ma m.length mc _ (find02_le _ m) w)
      · exact Put02_end p q ma mc vb m n l w h.sl hs (by omega) hm h0 hf _ _ _ _ ⟨rfl, rfl⟩ hv1 hv2 (fun w => cel_run1 ma m.length mc _ (find02_le _ m) hmc w) (fun w => cel_run2 ma m.length mc _ (find02_le _ m) w)
    refine key.mono ?_
    rintro e w' ⟨v', rfl, hv, hb⟩
    refine ⟨v', by rw [hy]; rfl, ?_, hb⟩
    rw [hy]
    refine .inr ⟨?_, hv.mono fun k hk => .inr hk⟩
    intro e
    have := congrArg List.length e
    simp [cellsF_len] at this
    exact h0 (by simpa using this.2.1)
end Go.Proofs.YtcfjcoockklkeaaGreatDoor

/-
  breadboardref04.Dump. Conditions: sizes, addresses.
-/
namespace Go.Proofs.YtcfjcoockklkeaaGreatDoor
open Go.RowKit

theorem hex1_4 (a : Nat) (ha : a ≤ 65535) (w : World) : Calls Tryz.prog 87 #[.int .i64 a, .int .i64 4] w fun e w' => e = .returned (.string ⟨(hexs a 4).toArray⟩) ∧ w = w' := (Hex01_any a 4 w (by omega) (by omega)).mono fun e w' h => by
  obtain ⟨⟨s, rfl, hs⟩, rfl⟩ := h
  exact ⟨by rw [ba_of hs], rfl⟩
theorem hex1_2 (x : UInt8) (w : World) : Calls Tryz.prog 87 #[.int .i64 x.toNat, .int .i64 2] w fun e w' => e = .returned (.string ⟨(byteTxt x).toArray⟩) ∧ w = w' := (Hex01_any x.toNat 2 w (by have := x.toNat_lt; omega) (by omega)).mono fun e w' h => by
  obtain ⟨⟨s, rfl, hs⟩, rfl⟩ := h
  exact ⟨by rw [ba_of hs]; rfl, rfl⟩
def dst (m : List CellV) (k : Nat) : List UInt8 × Option Nat := (m.take k).foldl dstep ([], none)
theorem dst_succ {m : List CellV} {k : Nat} (hk : k < m.length) : dst m (k + 1) = dstep (dst m k) m[k] := by
  unfold dst
  rw [List.take_succ_eq_append_getElem hk, List.foldl_append]
  rfl
theorem dstep_len (s : List UInt8 × Option Nat) (c : CellV) : (dstep s c).1.length ≤ s.1.length + 10 := by
  unfold dstep
  have h4 := hexs_len 4 c.addr
  have h2 := byteTxt_len c.byte
  dsimp only
  split <;> split <;> simp [h4, h2]
theorem dst_len (m : List CellV) : ∀ k, k ≤ m.length → (dst m k).1.length ≤ 10 * k
  | 0, _ => by simp [dst]
  | k + 1, h => by
    rw [dst_succ (Nat.lt_of_succ_le h)]
    have := dstep_len (dst m k) (m[k]'(Nat.lt_of_succ_le h))
    have := dst_len m k (by omega)
    omega
theorem dst_prev {m : List CellV} {k : Nat} (hk : k < m.length) : (dst m (k + 1)).2 = some (m[k].addr + 1) := by
  rw [dst_succ hk]
  rfl
theorem dst_first {m : List CellV} (h : 0 < m.length) : (dst m 1).1 = ([] : List UInt8) ++ hexs m[0].addr 4 ++ [(58 : UInt8)] ++ [(32 : UInt8)] ++ byteTxt m[0].byte := by
  rw [dst_succ h]
  simp [dst, dstep]
theorem dst_new {m : List CellV} {k : Nat} (hk : k + 1 < m.length) (h : ¬ (m[k].addr : Int) = (m[k+1].addr : Int) - 1 ∨ m[k+1].addr % 16 = 0) : (dst m (k + 1 + 1)).1 = (dst m (k + 1)).1 ++ [(10 : UInt8)] ++ hexs m[k+1].addr 4 ++ [(58 : UInt8)] ++ [(32 : UInt8)] ++ byteTxt m[k+1].byte := by
  rw [dst_succ hk]
  have hp := dst_prev (show k < m.length by omega)
  unfold dstep
  have hc : (dst m (k + 1)).2 ≠ some m[k+1].addr ∨ m[k+1].addr % 16 = 0 := by
    rcases h with h | h
    · left
      rw [hp]
      intro e
      injection e with e
      omega
    · exact .inr h
  rw [if_pos hc, if_pos ⟨by rw [hp]; simp, hc⟩]
  simp
theorem dst_more {m : List CellV} {k : Nat} (hk : k + 1 < m.length) (h : (m[k].addr : Int) = (m[k+1].addr : Int) - 1) (h2 : ¬ m[k+1].addr % 16 = 0) : (dst m (k + 1 + 1)).1 = (dst m (k + 1)).1 ++ [32] ++ byteTxt m[k+1].byte := by
  rw [dst_succ hk]
  have hp := dst_prev (show k < m.length by omega)
  unfold dstep
  have hc : ¬ ((dst m (k + 1)).2 ≠ some m[k+1].addr ∨ m[k+1].addr % 16 = 0) := by
    rintro (h | h)
    · apply h
      rw [hp, show m[k].addr + 1 = m[k+1].addr by omega]
    · exact h2 h
  rw [if_neg hc, if_neg fun h => hc h.2]
  simp
theorem dst_end (m : List CellV) : dump02 m = if (dst m m.length).1 = [] then [] else (dst m m.length).1 ++ [10] := by
  unfold dump02 dst
  rw [List.take_length]
theorem dst_ne {m : List CellV} {k : Nat} (hk : k < m.length) : (dst m (k + 1)).1 ≠ [] := by
  rw [dst_succ hk]
  unfold dstep
  dsimp only
  simp
end Go.Proofs.YtcfjcoockklkeaaGreatDoor

/-
  breadboardlaw04.Build. Conditions: the addresses fit their type; the library's table as its initialiser lays it.
-/
namespace Go.Proofs.YtcfjcoockklkeaaGreatDoor
open Go.RowKit

def putF (R : List (Int × List UInt8)) : ImgS := R.foldl (fun s r => imgPut s.1 s.2 r.1 r.2) (fun _ => false, fun _ => 0)
theorem putF_succ {R : List (Int × List UInt8)} {k : Nat} (h : k < R.length) : putF (R.take (k + 1)) = imgPut (putF (R.take k)).1 (putF (R.take k)).2 R[k].1 R[k].2 := by
  unfold putF
  rw [List.take_succ_eq_append_getElem h, List.foldl_append]
  rfl
theorem segC_len (d : Nat → Bool) (v : Nat → UInt8) : ∀ n a, (segC d v a n).length ≤ n
  | 0, _ => Nat.le_refl _
  | n + 1, a => by
    have := segC_len d v n (a + 1)
    unfold segC
    split
    · simp; omega
    · rw [List.nil_append]; omega
theorem cellsOf_len (d : Nat → Bool) (v : Nat → UInt8) : (cellsOf d v).length ≤ 65536 := segC_len d v _ _
theorem le_sum {x : Nat} : ∀ {l : List Nat}, x ∈ l → x ≤ l.sum
  | y :: l, h => by
    rw [List.sum_cons]
    rcases List.mem_cons.1 h with rfl | h
    · omega
    · have := le_sum h; omega
theorem few_len {R : List (Int × List UInt8)} (h : fewB R = true) : R.length ≤ 60 ∧ ∀ r ∈ R, r.2.length ≤ 3000 := by
  unfold fewB at h
  simp only [Bool.and_eq_true, decide_eq_true_eq] at h
  refine ⟨h.1, fun r hr => ?_⟩
  have hle : min r.2.length 5000 ≤ sumF R := by
    unfold sumF
    exact le_sum (List.mem_map.2 ⟨r, hr, rfl⟩)
  omega
theorem put_img {w' : World} {b n : Nat} {d : Nat → Bool} {v : Nat → UInt8} {a : Int} {l : List UInt8} (h : Put w' b n d v a l) : ∃ n', n' ≤ n + l.length ∧ ImgC w' b (imgPut d v a l).1 (imgPut d v a l).2 n' := by
  unfold Put at h
  unfold imgPut
  by_cases hc : putCode d a l.length = 0
  · rw [if_pos hc] at h ⊢
    exact ⟨_, Nat.le_refl _, h⟩
  · rw [if_neg hc] at h ⊢
    exact ⟨n, by omega, h⟩
/-- image and cells side by side -/
structure Both (w0 w : World) (b : Nat) (cv : Value) (S : ImgS) (n : Nat) : Prop where
  img : ImgC w b S.1 S.2 n
  cells : CelV w (fun x => b < x) cv (cellsOf S.1 S.2)
  at_ : w0.heap.size ≤ b
  below : Below w0.heap.size w0 w
theorem CelV.keep {w w' : World} {p : Blocks} {v : Value} {m : List CellV} (h : CelV w p v m) (hk : Keep (fun k => p k ∧ k < w.heap.size) w w') : CelV w' p v m := by
  rcases h with ⟨rfl, rfl⟩ | ⟨h0, h⟩
  · exact .inl ⟨rfl, rfl⟩
  · exact .inr ⟨h0, (h.old.keep hk).mono fun _ hq => hq.1⟩
theorem Both.one {w0 w w1 : World} {b n : Nat} {cv : Value} {S : ImgS} {a : Int} {l : List UInt8} (h : Both w0 w b cv S n) (hb : Below w.heap.size w w1) :
    ImgC w1 b S.1 S.2 n ∧ ∀ w2, w1.grownBy w2 (some b) → Put w2 b n S.1 S.2 a l → ∃ n', n' ≤ n + l.length ∧ ImgC w2 b (imgPut S.1 S.2 a l).1 (imgPut S.1 S.2 a l).2 n' ∧ CelV w2 (fun x => b < x) cv (cellsOf S.1 S.2) ∧ Below w0.heap.size w0 w2 := by
  have hi := h.img.below hb h.img.lt
  refine ⟨hi, fun w2 hg hp => ?_⟩
  obtain ⟨n', hn, hi2⟩ := put_img hp
  refine ⟨n', hn, hi2, ?_, ?_⟩
  · have hc := h.cells.below hb (fun _ hk => hk)
    refine hc.keep (Keep.grown hg fun k hk => ⟨hk.2, fun e => ?_⟩)
    injection e with e
    have := hk.1
    omega
  · exact (h.below.trans (hb.mono h.below.size)).grown hg (Nat.le_trans h.below.size hb.size) (fun k e => by injection e with e; have := h.at_; omega)
theorem Both.two {w0 w2 w3 : World} {b n : Nat} {S : ImgS} {a : Int} {l : List UInt8} {e : Ending} (hi : ImgC w2 b (imgPut S.1 S.2 a l).1 (imgPut S.1 S.2 a l).2 n) (hat : w0.heap.size ≤ b) (hb0 : Below w0.heap.size w0 w2)
    (h : Put02R w2 (fun x => b < x) (cellsOf S.1 S.2) a l e w3) : ∃ v' c : Value, e = .returned (.tuple #[v', c]) ∧ Both w0 w3 b v' (imgPut S.1 S.2 a l) n := by
  obtain ⟨v', rfl, hv, hb⟩ := h
  rw [put_match] at hv ⊢
  refine ⟨v', _, rfl, hi.below hb hi.lt, ?_, hat, hb0.trans (hb.mono hb0.size)⟩
  rcases hv with ⟨h1, h2⟩ | ⟨h1, h2⟩
  · exact .inl ⟨h1, h2⟩
  · exact .inr ⟨h1, h2.mono fun k hk => by rcases hk with hk | hk; exact hk; have := hi.lt; omega⟩
theorem Build_no (p : Blocks) (v : Value) (R : List (Int × List UInt8)) (w : World) (h : SlR runIR w p v R) (hf : fewB R = false) :
    Calls Tryz.prog 13 #[v] w fun e w' => e = .returned (.tuple #[.pointer none, .slice none 0 0]) ∧ w = w' := by
  have HF := Lib.hid (Few_any p v R w h)
  rw [hf] at HF
  go_enter Tryz.func13, Tryz.ntmps13
  go_wp2_with (go_at_call 14; refine HF.out.mono ?_; rintro e w' ⟨rfl, rfl⟩)
  go_ret2
  exact ⟨rfl, rfl⟩
set_option maxHeartbeats 2000000 in
set_option maxRecDepth 100000 in
theorem Build_yes (p : Blocks) (v : Value) (R : List (Int × List UInt8)) (w : World) (h : SlR runIR w p v R) (hT : Deb w) (hA : ∀ r ∈ R, -9223372036854775808 ≤ r.1 ∧ r.1 ≤ 9223372036854775807) (hf : fewB R = true) :
    Calls Tryz.prog 13 #[v] w fun e w' => ∃ b n cv, e = .returned (.tuple #[.pointer (some ⟨b, 0, none⟩), cv]) ∧ Both w w' b cv (putF R) n := by
  have HF := Lib.hid (Few_any p v R w h)
  rw [hf] at HF
  obtain ⟨hl60, hl3⟩ := few_len hf
  obtain ⟨ra, rc, rfl, _, _, g⟩ := h.irun
  have G := Lib.hid g
  have HT := Lib.hid hT
  have HA := Lib.hid hA
  have HL3 := Lib.hid hl3
  have hlen : (R.length : Int) ≤ 60 := by omega
  clear g hT hA hl3 h hf
  go_enter Tryz.func13, Tryz.ntmps13
  go_wp2_with (first
    | (go_at_call 14; refine HF.out.mono ?_; rintro e w' ⟨rfl, rfl⟩)
    | (go_at_call 20; refine (New_any _).mono ?_; rintro e w1 ⟨rfl, hi, hb⟩; have HI1 := Lib.hid hi; have HB1 := Lib.hid hb; clear hi hb))
  go_loopw [5, 14] (fun cv i wr => ∃ k n : Nat, k ≤ R.length ∧ i = .int .i64 k ∧ n ≤ 3000 * k ∧ Both w wr w.heap.size cv (putF (R.take k)) n) (fun _ i _ => R.length - (intOf i).toNat)
  case atStart => exact ⟨0, 0, Nat.zero_le _, rfl, Nat.le_refl _, HI1.out, .inl ⟨cellsOf_none _, rfl⟩, Nat.le_refl _, HB1.out⟩
  case round =>
    obtain ⟨k, n, hk, rfl, hn, hr⟩ := hrel
    have HR := Lib.hid hr
    clear hr
    by_cases hlt : k < R.length
    · obtain ⟨b1, o1, sa, sc, rfl, _, d0, d1, hsl⟩ := G.out k R[k] (List.getElem?_eq_getElem hlt)
      have HSU := Lib.hid (putF_succ hlt)
      have hlx : R[k].2.length ≤ 3000 := HL3.out _ (List.getElem_mem hlt)
      obtain ⟨hx1, hx2⟩ := HA.out _ (List.getElem_mem hlt)
      have HSL := Lib.hid hsl
      have e0 := (HR.out.below.cell (World.block_lt_of_cell? _ _ d0)).trans d0
      have e1 := (HR.out.below.cell (World.block_lt_of_cell? _ _ d1)).trans d1
      generalize R[k] = x at *
      clear d0 d1 hsl
      have HAL : Hid (Below wr.heap.size wr (wr.alloc (.cells #[.int .i64 x.1, .slice sa x.2.length sc] 69))) := (Below.refl _ wr).alloc (Nat.le_refl _) _
      have HLT : Hid (w.heap.size < wr.heap.size) := HR.out.img.lt
      generalize putF (R.take k) = S at *
      have hn9 : n ≤ 900000000 := by omega
      go_wp2_with (first
        | (go_at_call 33
           have hone := HR.out.one (l := x.2) (a := x.1) HAL.out
           refine (Put_any w.heap.size n x.1 _ _ _ _ x.2 _ hone.1 hn9 (HSL.out.old.below (HR.out.below.trans (HAL.out.mono HR.out.below.size))) (HT.out.below (HR.out.below.trans (HAL.out.mono HR.out.below.size))) hx1 hx2 (by omega)).mono ?_
           rintro e w2 ⟨rfl, hp, hg⟩
           obtain ⟨n', hn', hi2, hc2, hb2⟩ := hone.2 w2 hg hp
           have HI2 := Lib.hid hi2
           have HC2 := Lib.hid hc2
           have HB2 := Lib.hid hb2
           have hbl := hg.block wr.heap.size (by simp) (fun e => by injection e with e; have := HLT.out; omega)
           have d2 : w2.cell? ⟨wr.heap.size, 0, none⟩ = some (.int .i64 x.1) := (World.cell?_of_block (w := wr.alloc (.cells #[.int .i64 x.1, .slice sa x.2.length sc] 69)) hbl).trans (by go_simp)
           have d3 : w2.cell? ⟨wr.heap.size, 1, none⟩ = some (.slice sa x.2.length sc) := (World.cell?_of_block (w := wr.alloc (.cells #[.int .i64 x.1, .slice sa x.2.length sc] 69)) hbl).trans (by go_simp)
           clear hone hp hg hi2 hc2 hb2 hbl)
        | (go_at_call 34
           refine (Put02_any (fun y => w.heap.size < y) _ _ _ _ x.1 x.2 _ HC2.out (HSL.out.old.below HB2.out) (by omega) (Nat.le_trans (cellsOf_len _ _) (by omega)) hx1 hx2).mono ?_
           rintro e w3 h3
           obtain ⟨v3, c3, rfl, hbo⟩ := Both.two HI2.out (Nat.le_refl _) HB2.out h3
           have HBO := Lib.hid hbo
           clear h3 hbo))
      go_roundw
      case rel => exact ⟨k + 1, n', by omega, by go_num, by omega, by rw [HSU.out]; exact HBO.out⟩
      case measure => simp [intOf]; omega
    · obtain rfl : k = R.length := by omega
      rw [List.take_length] at HR
      go_wp2
      go_ret2
      exact ⟨_, _, _, rfl, HR.out⟩
end Go.Proofs.YtcfjcoockklkeaaGreatDoor
