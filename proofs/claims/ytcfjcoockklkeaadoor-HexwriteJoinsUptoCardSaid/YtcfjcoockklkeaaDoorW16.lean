/-
  breadboardref02.Put. Conditions: sizes.
-/
import Derived.Test.YtcfjcoockklkeaaDoorW15
namespace Go.Proofs.YtcfjcoockklkeaaDoor
open Go.RowKit

/-- cells in memory: nil if there are none -/
def CelV (w : World) (p : Blocks) (v : Value) (m : List CellV) : Prop := (m = [] ∧ v = .slice none 0 0) ∨ (m ≠ [] ∧ SlR cellR w p v m)
theorem CelV.sl {w : World} {p : Blocks} {v : Value} {m : List CellV} (h : CelV w p v m) : SlR cellR w p v m := by
  rcases h with ⟨rfl, rfl⟩ | ⟨_, h⟩
  · exact SlR.nil _ _ _
  · exact h
theorem CelV.below {w w' : World} {p q : Blocks} {v : Value} {m : List CellV} (h : CelV w p v m) (hb : Below w.heap.size w w') (hq : ∀ k, p k → q k) : CelV w' q v m := by
  rcases h with ⟨rfl, rfl⟩ | ⟨h0, h⟩
  · exact .inl ⟨rfl, rfl⟩
  · exact .inr ⟨h0, (h.old.below hb).mono fun k hk => hq k hk.1⟩
theorem elCel : ElT Tryd.prog 24 81 cellR.size 16 := ElT.mk' (z := .agg #[.int .i64 0, .int .u8 0]) Tryd.underlying24 (by kernel_rfl) rfl (by decide)
theorem cellsF_get : ∀ (l : List UInt8) (a k : Nat) (h : k < l.length) (h2 : k < (cellsF a l).length), (cellsF a l)[k] = ⟨a + k, l[k]⟩
  | [], _, _, h, _ => by simp at h
  | b :: l, a, 0, _, _ => rfl
  | b :: l, a, k + 1, h, h2 => by
    show (cellsF (a + 1) l)[k]'_ = _
    rw [cellsF_get l (a + 1) k (by simpa using h) (by simpa [cellsF_len] using h)]
    simp; omega
theorem find02_le (a : Int) : ∀ m : List CellV, find02 a m ≤ m.length
  | [] => Nat.le_refl _
  | c :: m => by
    unfold find02
    split
    · have := find02_le a m; simp; omega
    · simp
/-- What Put answers. -/
def Put02R (w : World) (p : Blocks) (m : List CellV) (a : Int) (l : List UInt8) (e : Ending) (w' : World) : Prop :=
  ∃ v', e = .returned (.tuple #[v', .int .i64 ((put02 m a l).2 : Nat)]) ∧ CelV w' (fun k => p k ∨ w.heap.size ≤ k) v' (put02 m a l).1 ∧ Below w.heap.size w w'
theorem put02_out {m : List CellV} {a : Int} {l : List UInt8} (h : a < 0 ∨ 65535 < a) : put02 m a l = (m, 2) := by unfold put02; rw [if_pos h]
theorem put02_wrap {m : List CellV} {a : Int} {l : List UInt8} (h : ¬ (a < 0 ∨ 65535 < a)) (h2 : (65536 : Int) - a < l.length) : put02 m a l = (m, 10) := by unfold put02; rw [if_neg h, if_pos h2]
theorem put02_none {m : List CellV} {a : Int} (h : ¬ (a < 0 ∨ 65535 < a)) : put02 m a [] = (m, 0) := by
  unfold put02
  rw [if_neg h, if_neg (by simp; omega), if_pos rfl]
theorem put02_over {m : List CellV} {a : Int} {l : List UInt8} (h : ¬ (a < 0 ∨ 65535 < a)) (h2 : ¬ (65536 : Int) - a < l.length) (h3 : l ≠ []) (hf : find02 a m < m.length) (h4 : ((m[find02 a m]'hf).addr : Int) < a + l.length) : put02 m a l = (m, 4) := by
  unfold put02
  rw [if_neg h, if_neg h2, if_neg h3, if_pos ⟨_, List.getElem?_eq_getElem hf, h4⟩]
theorem put02_yes {m : List CellV} {a : Int} {l : List UInt8} (h : ¬ (a < 0 ∨ 65535 < a)) (h2 : ¬ (65536 : Int) - a < l.length) (h3 : l ≠ []) (h4 : ∀ hf : find02 a m < m.length, ¬ ((m[find02 a m]'hf).addr : Int) < a + l.length) : put02 m a l = (m.take (find02 a m) ++ cellsF a.toNat l ++ m.drop (find02 a m), 0) := by
  unfold put02
  rw [if_neg h, if_neg h2, if_neg h3, if_neg]
  rintro ⟨c, hc, hlt⟩
  obtain ⟨hf, rfl⟩ := List.getElem?_eq_some_iff.1 hc
  exact h4 hf hlt
set_option maxHeartbeats 2000000 in
set_option maxRecDepth 100000 in
theorem Put02_no (p q : Blocks) (v vb : Value) (m : List CellV) (a : Int) (l : List UInt8) (w : World) (h : CelV w p v m) (hs : SlR byteR w q vb l) (hl : l.length ≤ 100000) (hm : m.length ≤ 100000) (ha1 : -9223372036854775808 ≤ a) (ha2 : a ≤ 9223372036854775807) (hc : (put02 m a l).2 ≠ 0 ∨ l = []) :
    Calls Tryd.prog 44 #[v, .int .i64 a, vb] w (Put02R w p m a l) := by
  obtain ⟨sa, c, rfl, _⟩ := hs.byte
  obtain ⟨ma, mc, rfl, _, _, gm⟩ := h.sl.cel
  have HFD := Lib.hid (Find_any p _ m a w h.sl)
  have HCV : Hid (CelV w (fun k => p k ∨ w.heap.size ≤ k) (.slice ma m.length mc) m) := h.below (Below.refl _ _) (fun _ h => .inl h)
  have hl1 : (l.length : Int) ≤ 100000 := by omega
  have hm1 : (m.length : Int) ≤ 100000 := by omega
  have fin : ∀ c, put02 m a l = (m, c) → Hid (Put02R w p m a l (.returned (.tuple #[.slice ma m.length mc, .int .i64 (c : Nat)])) w) := fun c hc => ⟨_, by rw [hc], by rw [hc]; exact HCV.out, Below.refl _ _⟩
  have FIN := Lib.hid fin
  clear fin h hs
  by_cases h1 : a < 0
  · have hd1 : decide (a < 0) = true := by simp; omega
    have HF := FIN.out 2 (put02_out (.inl h1))
    clear h1 hc ha1 ha2 gm
    generalize Put02R w p m a l = PR at *
    go_enter Tryd.func44, Tryd.ntmps44
    go_wp2
    exact HF.out
  · have hd1 : decide (a < 0) = false := by simp; omega
    by_cases h2 : 65535 < a
    · have hd2 : decide (65535 < a) = true := by simp; omega
      have HF := FIN.out 2 (put02_out (.inr h2))
      clear h1 h2 hc ha1 ha2 gm
      generalize Put02R w p m a l = PR at *
      go_enter Tryd.func44, Tryd.ntmps44
      go_wp2
      exact HF.out
    · have hd2 : decide (65535 < a) = false := by simp; omega
      have hno : ¬ (a < 0 ∨ 65535 < a) := by omega
      have ha0 : (0 : Int) ≤ a := by omega
      have ha9 : a ≤ 65535 := by omega
      by_cases h3 : (65536 : Int) - a < l.length
      · have hd3 : decide ((65536 : Int) - a < (l.length : Int)) = true := by simp; omega
        have HF := FIN.out 10 (put02_wrap hno h3)
        clear h1 h2 h3 hno hc ha1 ha2 gm
        generalize Put02R w p m a l = PR at *
        go_enter Tryd.func44, Tryd.ntmps44
        go_wp2
        exact HF.out
      · have hd3 : decide ((65536 : Int) - a < (l.length : Int)) = false := by simp; omega
        by_cases h4 : l = []
        · subst h4
          have HF := FIN.out 0 (put02_none hno)
          clear h1 h2 h3 hno hc ha1 ha2 gm
          generalize Put02R w p m a [] = PR at *
          go_enter Tryd.func44, Tryd.ntmps44
          go_wp2_with (go_at_call 83; refine HFD.out.mono ?_; rintro e w' ⟨rfl, rfl⟩)
          exact HF.out
        · have hlp := List.length_pos_iff.2 h4
          have hd4 : ((l.length : Int) == 0) = false := by simp; omega
          by_cases h5 : ∃ hf : find02 a m < m.length, ((m[find02 a m]'hf).addr : Int) < a + l.length
          · obtain ⟨hf, h5⟩ := h5
            have HF := FIN.out 4 (put02_over hno h3 h4 hf h5)
            obtain ⟨b1, o1, rfl, _, d0, _⟩ := gm _ _ (List.getElem?_eq_getElem hf)
            have hxl : ((m[find02 a m]'hf).addr : Int) ≤ 300000 := by omega
            clear h1 h2 h3 hno hc ha1 ha2 gm
            generalize (m[find02 a m]'hf).addr = y at *
            generalize find02 a m = f at *
            generalize Put02R w p m a l = PR at *
            have hf2 : (f : Int) < (m.length : Int) := by omega
            have hf3 : decide ((f : Int) < (m.length : Int)) = true := by simp; omega
            have hd5 : decide ((y : Int) < a + (l.length : Int)) = true := by simp; omega
            go_enter Tryd.func44, Tryd.ntmps44
            go_wp2_with (go_at_call 83; refine HFD.out.mono ?_; rintro e w' ⟨rfl, rfl⟩)
            exact HF.out
          · have := put02_yes hno h3 h4 (fun hf h => h5 ⟨hf, h⟩)
            rw [this] at hc
            rcases hc with hc | hc
            · exact absurd rfl hc
            · exact absurd hc h4
end Go.Proofs.YtcfjcoockklkeaaDoor
