/-
  breadboardref02.Put, every case. Conditions: sizes.
-/
import Derived.Test.YtcfjcoockklkeaaDoorW17
namespace Go.Proofs.YtcfjcoockklkeaaDoor
open Go.RowKit

theorem cel_run1 (a : Option Addr) (n c f : Nat) (hf : f ≤ n) (hc : n ≤ c) (w : World) : (Instr.sliceAt 24 (.slice a n c) none (some (.int .i64 (f : Nat))) none).run Tryd.prog w = .ok (sliced a 0 f c 2) w := by
  rw [run_sliceAt_slice _ _ _ _ _ _ (by kernel_rfl), run_slice_h w _ a n c (by kernel_rfl) .i64 (f : Int) (by omega) (by omega)]
  go_simp
theorem cel_run2 (a : Option Addr) (n c f : Nat) (hf : f ≤ n) (w : World) : (Instr.sliceAt 24 (.slice a n c) (some (.int .i64 (f : Nat))) none none).run Tryd.prog w = .ok (sliced a f n c 2) w := by
  rw [run_sliceAt_slice _ _ _ _ _ _ (by kernel_rfl), run_slice_l w _ a n c (by kernel_rfl) .i64 (f : Int) (by omega) (by omega)]
  go_simp
theorem cel_parts {w : World} {p : Blocks} {a : Option Addr} {c : Nat} {m : List CellV} (h : SlR cellR w p (.slice a m.length c) m) (f : Nat) (hf : f ≤ m.length) :
    SlR cellR w p (sliced a 0 f c 2) (m.take f) ∧ SlR cellR w p (sliced a f m.length c 2) (m.drop f) := by
  have h := Lib.hid h
  obtain ⟨a', c', e, h1, h2, _⟩ := h.out
  injection e with e1 _ e3
  subst e1 e3
  by_cases hm : m = []
  · subst hm
    obtain rfl : f = 0 := by simpa using hf
    exact ⟨⟨_, _, rfl, Nat.zero_le _, by simpa using h2, fun i x hx => by simp at hx⟩, ⟨_, _, rfl, Nat.zero_le _, by simpa using h2, fun i x hx => by simp at hx⟩⟩
  · obtain ⟨_, _, e, _, _, g⟩ := h.out.cel
    injection e with e1 _ e3
    subst e1 e3
    have hp := List.length_pos_iff.2 hm
    obtain ⟨b, o, rfl, _⟩ := g 0 _ (List.getElem?_eq_getElem hp)
    constructor
    · unfold sliced
      simp only [Option.map_some, Nat.zero_mul, Addr.add_zero', ite_self, Nat.sub_zero]
      exact cel_cut h.out hf
    · have hr := cel_rest h.out hf
      unfold sliced
      split
      · next hc =>
        have h0 : m.length - f = 0 := by omega
        have hd : m.drop f = [] := List.drop_eq_nil_of_le (by omega)
        rw [h0, hd]
        exact ⟨_, _, rfl, Nat.zero_le _, by omega, fun i x hx => by simp at hx⟩
      · simp only [Option.map_some, Addr.add_lit]
        exact hr
theorem Put02_any (p q : Blocks) (v vb : Value) (m : List CellV) (a : Int) (l : List UInt8) (w : World) (h : CelV w p v m) (hs : SlR byteR w q vb l) (hl : l.length ≤ 65536) (hm : m.length ≤ 100000) (ha1 : -9223372036854775808 ≤ a) (ha2 : a ≤ 9223372036854775807) :
    Calls Tryd.prog 44 #[v, .int .i64 a, vb] w (Put02R w p m a l) := by
  by_cases hc : (put02 m a l).2 ≠ 0 ∨ l = []
  · exact Put02_no p q v vb m a l w h hs (by omega) hm ha1 ha2 hc
  · have h0 : l ≠ [] := fun e => hc (.inr e)
    have hz : (put02 m a l).2 = 0 := by
      by_cases e : (put02 m a l).2 = 0
      · exact e
      · exact absurd (.inl e) hc
    have hno : ¬ (a < 0 ∨ 65535 < a) := fun e => by rw [put02_out e] at hz; simp at hz
    have hw : ¬ (65536 : Int) - a < l.length := fun e => by rw [put02_wrap hno e] at hz; simp at hz
    have h4 : ∀ hf : find02 a m < m.length, ¬ ((m[find02 a m]'hf).addr : Int) < a + l.length := fun hf e => by rw [put02_over hno hw h0 hf e] at hz; simp at hz
    have hy := put02_yes hno hw h0 h4
    obtain ⟨n, rfl⟩ : ∃ n : Nat, a = n := ⟨a.toNat, by omega⟩
    obtain ⟨ma, mc, rfl, hmc, _, _⟩ := h.sl.cel
    obtain ⟨hv1, hv2⟩ := cel_parts h.sl _ (find02_le (n : Int) m)
    have key : Calls Tryd.prog 44 #[.slice ma m.length mc, .int .i64 n, vb] w fun e w' => ∃ v', e = .returned (.tuple #[v', .int .i64 0]) ∧ SlR cellR w' (fun k => w.heap.size ≤ k) v' (m.take (find02 (n : Int) m) ++ cellsF n l ++ m.drop (find02 (n : Int) m)) ∧ Below w.heap.size w w' := by
      by_cases hf : find02 (n : Int) m < m.length
      · exact Put02_in p q ma mc vb m n l w h.sl hs (by omega) hm h0 hf h4 _ _ _ _ ⟨rfl, rfl⟩ hv1 hv2 (fun w => cel_run1 ma m.length mc _ (find02_le _ m) hmc w) (fun w => cel_run2 ma m.length mc _ (find02_le _ m) w)
      · exact Put02_end p q ma mc vb m n l w h.sl hs (by omega) hm h0 hf _ _ _ _ ⟨rfl, rfl⟩ hv1 hv2 (fun w => cel_run1 ma m.length mc _ (find02_le _ m) hmc w) (fun w => cel_run2 ma m.length mc _ (find02_le _ m) w)
    refine key.mono ?_
    rintro e w' ⟨v', rfl, hv, hb⟩
    refine ⟨v', by rw [hy]; rfl, ?_, hb⟩
    rw [hy]
    refine .inr ⟨?_, hv.mono fun k hk => .inr hk⟩
    intro e
    have := congrArg List.length e
    simp [cellsF_len] at this
    exact h0 (by simpa using this.2.1)
end Go.Proofs.YtcfjcoockklkeaaDoor
