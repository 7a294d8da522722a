/-
  breadboardref13.Split. Conditions: sizes.
-/
import Derived.Test.YtnbmbcjnncbaiaaGreatDoorJ8
import Derived.Test.YtnbmbcjnncbaiaaGreatDoorJ3
namespace Go.Proofs.YtnbmbcjnncbaiaaGreatDoor
open Go.RowKit Go.Shelf Go.Sort

theorem made_getI (z : Value) {k j : Nat} (hj : j < k) : (madeCells #[z] k)[j]? = some z := by simp [madeCells, hj, Nat.mod_one]
/-- a row of ints of the call's own -/
def IntsB (W : World) (g : Nat) (n : Nat) (f : Nat → Int) : Prop := ∃ cs, Blk W g 3 cs ∧ n ≤ cs.size ∧ ∀ j, j < n → cs[j]? = some (.int .i64 (f j))
theorem IntsB.below {W W' : World} {g n : Nat} {f : Nat → Int} (h : IntsB W g n f) (hb : RowKit.Below W.heap.size W W') : IntsB W' g n f := by
  obtain ⟨cs, h1, h2, h3⟩ := h
  exact ⟨cs, h1.below hb h1.lt, h2, h3⟩
theorem IntsB.drew {W : World} {g n : Nat} {f : Nat → Int} (h : IntsB W g n f) : IntsB W.drew g n f := h.below (Below.refl _ _).drew
theorem IntsB.set {W : World} {g n i : Nat} {f f' : Nat → Int} {v : Int} (h : IntsB W g n f) (hi : i < n) (hv : f' i = v) (hf : ∀ j, j < n → j ≠ i → f' j = f j) : IntsB (W.setCell ⟨g, i, none⟩ (.int .i64 v)) g n f' := by
  obtain ⟨cs, h1, h2, h3⟩ := h
  refine ⟨_, h1.set i _, by rw [Array.size_setIfInBounds]; exact h2, fun j hj => ?_⟩
  rw [Array.getElem?_setIfInBounds]
  by_cases e : i = j
  · subst e; rw [if_pos rfl, if_pos (by omega), hv]
  · rw [if_neg e, h3 j hj, hf j hj (fun e2 => e e2.symm)]
theorem IntsB.eqv {W : World} {g n : Nat} {f f' : Nat → Int} (h : IntsB W g n f) (hf : ∀ j, j < n → f' j = f j) : IntsB W g n f' := by
  obtain ⟨cs, h1, h2, h3⟩ := h
  exact ⟨cs, h1, h2, fun j hj => by rw [h3 j hj, hf j hj]⟩
theorem IntsB.cell {W : World} {g n i : Nat} {f : Nat → Int} (h : IntsB W g n f) (hi : i < n) : W.cell? ⟨g, i, none⟩ = some (.int .i64 (f i)) ∧ W.frozen? ⟨g, i, none⟩ = false := by
  obtain ⟨cs, h1, _, h3⟩ := h
  exact ⟨(h1.cell i).trans (h3 i hi), h1.free i⟩
set_option maxRecDepth 100000 in
theorem run_make_ints (w : World) (k : Nat) (hk : k ≤ 1000) : ∃ w0, (Instr.makeSlice 56 (.int .i64 (k : Int)) (.int .i64 (k : Int))).run Tryz.prog w = .ok (.slice (some ⟨w.heap.size, 0, none⟩) k k) w0 ∧
    RowKit.Below w.heap.size w w0 ∧ IntsB w0 w.heap.size k (fun _ => 0) := by
  have hm : (Tryz.prog.info? 3).map (fun i => (i.zero, i.size, i.bytes)) = some (some (.int .i64 0), 1, 8) := by kernel_rfl
  cases hq : Tryz.prog.info? 3 with
  | none => simp [hq] at hm
  | some i =>
    simp only [hq, Option.map_some, Option.some.injEq, Prod.mk.injEq] at hm
    obtain ⟨hz, hs, hb⟩ := hm
    have e := run_makeSlice (P := Tryz.prog) w 56 3 i _ Tryz.underlying56 hq hz .i64 .i64 (k : Int) (k : Int) (by omega) (Int.le_refl _) (by rw [hs]; simp; omega) (by rw [hb]; omega) (by omega)
    rw [hs, Int.toNat_natCast, Nat.mul_one] at e
    exact ⟨_, e, (Below.refl _ _).alloc (Nat.le_refl _) _, _, Blk.new w _ _, by rw [size_madeCells]; exact Nat.le_refl _, fun j hj => made_getI (.int .i64 0) hj⟩
/-- a piece of a row of bytes, as a run -/
theorem cut_mid {w : World} {p : Blocks} {a : Option Addr} {c : Nat} {l : List UInt8} (h : SlR byteR w p (.slice a l.length c) l) (i m : Nat) (hi : i < l.length) (hm : i + m ≤ l.length) :
    ∃ a' c', (∀ W, (Instr.sliceAt 22 (.slice a l.length c) (some (.int .i64 (i : Int))) (some (.int .i64 ((i : Int) + (m : Int)))) none).run Tryz.prog W = .ok (.slice a' m c') W) ∧ SlR byteR w p (.slice a' ((l.drop i).take m).length c') ((l.drop i).take m) ∧ ((l.drop i).take m).length = m := by
  obtain ⟨b, o, rfl, hc1, hc2, _⟩ := byteAt h (by omega)
  have hd := h.dropB (k := i) (by omega)
  have hlen : ((l.drop i).take m).length = m := by rw [List.length_take, List.length_drop]; omega
  obtain ⟨hs, _⟩ := hd.cutB (m := m) (by rw [List.length_drop]; omega)
  refine ⟨some ⟨b, o + i, none⟩, c - i, fun W => ?_, by rw [hlen]; exact hs, hlen⟩
  rw [run_sliceAt_slice _ _ _ _ _ _ (by kernel_rfl), run_slice_lh W _ (some ⟨b, o, none⟩) l.length c (by kernel_rfl) .i64 .i64 (i : Int) ((i : Int) + (m : Int)) (by omega) (by omega) (by omega)]
  go_simp
  omega
/-- what has been counted at an offset ahead of a length -/
def partF (L : List UInt8) (m : Nat) : Int := if okI ((itF L).it L) = true ∧ (itF L).n < m then (waysF (L.drop (itF L).n) : Int) else 0
theorem partF_one {L : List UInt8} (h0 : 0 < L.length) : partF L 1 = 0 := by
  unfold partF
  rw [if_neg (fun h => by have := (itF_n L h0).1; omega)]
theorem waysF_le (L : List UInt8) : waysF L ≤ 1 := by unfold waysF; split <;> omega
theorem partF_end {L : List UInt8} {m : Nat} (h0 : 0 < L.length) (h : 5 ≤ m ∨ L.length < m) : partF L m = waysF L := by
  unfold partF
  rw [waysF_cons h0]
  by_cases hk : okI ((itF L).it L) = true
  · have hn := (itF_n L h0).2
    have h4 : (itF L).n ≤ 4 := itF_four h0 (fun e => by
      unfold okI at hk
      have h1 : (itF L).k = 1 := of_decide_eq_true (Bool.and_eq_true_iff.1 hk).1
      omega)
    rw [if_pos ⟨hk, by omega⟩, if_pos hk]
  · rw [if_neg (fun h => hk h.1), if_neg hk]; rfl
theorem partF_no {L : List UInt8} {m : Nat} (h1 : 1 ≤ m) (h2 : m ≤ L.length) (h : wayB L m = false) : partF L (m + 1) = partF L m := by
  rw [wayB_iff L m h1 h2] at h
  unfold partF
  by_cases hk : okI ((itF L).it L) = true
  · have hn : ¬ m = (itF L).n := by
      intro e
      rw [hk, decide_eq_true e] at h
      exact absurd h (by decide)
    by_cases hl : (itF L).n < m
    · rw [if_pos ⟨hk, by omega⟩, if_pos ⟨hk, hl⟩]
    · rw [if_neg (fun h => by have := h.2; omega), if_neg (fun h => hl h.2)]
  · rw [if_neg (fun h => hk h.1), if_neg (fun h => hk h.1)]
theorem partF_yes {L : List UInt8} {m : Nat} (h1 : 1 ≤ m) (h2 : m ≤ L.length) (h : wayB L m = true) : partF L m = 0 ∧ partF L (m + 1) = waysF (L.drop m) := by
  rw [wayB_iff L m h1 h2] at h
  obtain ⟨hk, hn⟩ := Bool.and_eq_true_iff.1 h
  have hn := of_decide_eq_true hn
  unfold partF
  exact ⟨by rw [if_neg (fun h => by have := h.2; omega)], by rw [if_pos ⟨hk, by omega⟩, ← hn]⟩
end Go.Proofs.YtnbmbcjnncbaiaaGreatDoor
