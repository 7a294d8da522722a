/-
  Arguments opened.
-/
import Derived.Test.YtlepicdjnbbndaaGreatDoorK2
import Derived.Test.YtlepicdjnbbndaaGreatDoorCards
import Derived.Test.YtlepicdjnbbndaaGreatDoorTie
import Derived.WalkKit
import Derived.ProofKit
import Derived.OpenShut
import Derived.LaidMore
import Derived.LaidOnce
import Derived.Deep.DeepHandedRow
import Derived.Deep.DeepWitnessRowRef
import Derived.Deep.Slices
import Derived.Lib.LaidTab
import Derived.Lib.LaidU8
import Derived.Lib.SmallJoins
/-
  ARGUMENTS OPENED: an instruction by value; the table of white space off the row's list.
-/
namespace Go.Proofs.YtlepicdjnbbndaaGreatDoor
open Go.RowKit Go.ChangeShapes Go.WideShapes Go.ChangeAt Go.Deep Go.Joins

theorem own_knob : ownKnob Tryz.prog.godebug = none := by kernel_rfl
theorem gSpc : Tryz.prog.globalNamed "strings.asciiSpace" = some 1 := by kernel_rfl
theorem spc_of_reads {w : World} (h : Lib.VarReads Tryz.prog w "strings.asciiSpace" (Lib.tabData .u8 Lib.asciiSpaceTab)) : Spc w := by
  obtain ⟨g, t, cs, fuel, p, hg, ht, hv, hd⟩ := h
  obtain rfl := Option.some.inj (gSpc.symm.trans hg)
  obtain rfl := Option.some.inj ((show (Tryz.prog.globals[1]?).map (·.type) = some 196 by kernel_rfl).symm.trans ht)
  unfold Spc Lib.TabIs
  rw [hv, ← Lib.cells_of_tab Tryz.underlying196 Tryz.underlying5 (by kernel_rfl) (by kernel_rfl) hd]

theorem c_int : Tryz.prog.cellsOf 3 = 1 := by kernel_rfl
theorem c_ins : Tryz.prog.cellsOf 25 = 2 := by kernel_rfl
theorem c_string : Tryz.prog.cellsOf 9 = 1 := by kernel_rfl
theorem c_opds : Tryz.prog.cellsOf 23 = 1 := by kernel_rfl
theorem add_at (b o n : Nat) : (⟨b, o, none⟩ : Addr).add n = ⟨b, o + n, none⟩ := by
  unfold Addr.add; split <;> simp_all
theorem list3 {α : Type} {l : List α} (h : l.length = 3) : ∃ a b c, l = [a, b, c] := by
  match l, h with
  | [a, b, c], _ => exact ⟨a, b, c, rfl⟩
variable {H : Type} {enc : TypeId × Value → H} {W : World}
/-- A list of operands that came in. -/
theorem open_opds {fuel : Nat} {v : Value} {y : DataW H × List MemPlace} (h : DataW.trod enc Tryz.prog W 0 (fun _ => true) true fuel 23 [v] = some y) :
    ∃ l, SlR opdR W (fun _ => True) v l ∧ ∀ x ∈ l, fits64 x.n := by
  rcases open_slice Tryz.underlying23 h with ⟨hv, _⟩ | ⟨a, len, cap, m, n, D, Pl, hv, _, hl, hm, hmm, _, hi⟩
  · obtain rfl := List.cons.inj hv |>.1
    exact ⟨[], SlR.nil _ _ _, by simp⟩
  · obtain rfl := List.cons.inj hv |>.1
    have key : ∀ i, i < len → ∃ x : Opd, W.cell? (a.add (i * 3)) = some (.int .i64 x.kind) ∧ W.cell? (a.add (i * 3 + 1)) = some (.int .i64 x.reg) ∧ W.cell? (a.add (i * 3 + 2)) = some (.int .i64 x.n) ∧ fits64 x.n := fun i hil => by
      obtain ⟨cs, hc, ht⟩ := hi i (by rw [hmm, if_pos rfl]; omega)
      rw [show Tryz.prog.cellsOf 87 = 3 by kernel_rfl] at hc
      obtain ⟨_, hlen, hat⟩ := World.cells?_some hc
      obtain ⟨y0, y1, y2, n', _, _, h0, h1, h2⟩ := trod_struct3 Tryz.underlying87 ht
      obtain ⟨c0, c1, c2, rfl⟩ := list3 hlen
      have e0 := hat 0 (by omega)
      have e1 := hat 1 (by omega)
      have e2 := hat 2 (by omega)
      rw [add_add] at e0 e1 e2
      dsimp only at h0 h1 h2
      rw [c_int] at h0 h1 h2
      obtain ⟨k0, q0, _, _⟩ := DataW.trod_int Tryz.underlying3 (fuel := n') (cs := [c0]) h0
      obtain ⟨k1, q1, _, _⟩ := DataW.trod_int Tryz.underlying3 (fuel := n') (cs := [c1]) h1
      obtain ⟨k2, q2, _, wf⟩ := DataW.trod_int Tryz.underlying3 (fuel := n') (cs := [c2]) h2
      obtain rfl := List.cons.inj q0 |>.1
      obtain rfl := List.cons.inj q1 |>.1
      obtain rfl := List.cons.inj q2 |>.1
      exact ⟨⟨k0, k1, k2⟩, e0, e1, e2, bounds_i64 wf⟩
    obtain ⟨f, hf⟩ := choose_lt key
    have hg : ∀ i x, ((List.range len).map f)[i]? = some x → i < len ∧ f i = x := fun i x hx => by
      rw [List.getElem?_map, Option.map_eq_some_iff] at hx
      obtain ⟨j, hj, rfl⟩ := hx
      obtain ⟨h1, h2⟩ := List.getElem?_eq_some_iff.1 hj
      simp at h1 h2
      subst h2
      exact ⟨h1, rfl⟩
    refine ⟨(List.range len).map f, ⟨some a, cap, by simp, by simpa using hl, hm, fun i x hx => ?_⟩, fun x hx => ?_⟩
    · obtain ⟨hil, rfl⟩ := hg i x hx
      obtain ⟨h0, h1, h2, _⟩ := hf i hil
      obtain ⟨b, o, spot⟩ := a
      have hspot : spot = none := by simpa [Addr.add] using World.cell?_spot (hf 0 (by omega)).1
      subst hspot
      rw [add_at] at h0 h1 h2
      refine ⟨b, o, (f i).cells, rfl, trivial, World.block_lt_of_cell? W _ h0, fun j u hu => ?_, rfl⟩
      rw [opdR_size, Nat.add_assoc]
      match j, hu with
      | 0, hu => simp [Opd.cells] at hu; subst hu; exact h0
      | 1, hu => simp [Opd.cells] at hu; subst hu; exact h1
      | 2, hu => simp [Opd.cells] at hu; subst hu; exact h2
    · obtain ⟨i, hi, rfl⟩ := List.mem_map.1 hx
      exact (hf i (by simpa using hi)).2.2.2
set_option maxRecDepth 100000 in
/-- An instruction that came in by value. -/
theorem open_ins {b0 : Nat} {v : Value} {d : DataW H} {p : List MemPlace} (hv : Value.okWide Tryz.prog W .any b0 25 v) (h : DataW.Trod enc Tryz.prog W 0 (fun _ => true) true 25 v d p) :
    ∃ (x : Ins) (v1 : Value), v = .agg #[.string x.op, v1] ∧ SlR opdR W (fun _ => True) v1 x.args ∧ (∀ y ∈ x.args, fits64 y.n) ∧ x.op.size ≤ maxLen := by
  obtain ⟨c0, c1, y0, y1, m, rfl, _, _, h0, h1⟩ := open_agg2 Tryz.underlying25 (by kernel_rfl) c_ins hv h
  dsimp only at h0 h1
  obtain ⟨s, q0, _, hs⟩ := DataW.trod_string Tryz.underlying9 h0
  obtain rfl := List.cons.inj q0 |>.1
  obtain ⟨l, hl, hf⟩ := open_opds h1
  exact ⟨⟨s, l⟩, c1, rfl, hl, hf, hs⟩
end Go.Proofs.YtlepicdjnbbndaaGreatDoor

/-
  MORE ARGUMENTS OPENED: lists of operands, numbers, strings, bytes, instructions.
-/
namespace Go.Proofs.YtlepicdjnbbndaaGreatDoor
open Go.RowKit Go.ChangeShapes Go.WideShapes Go.ChangeAt Go.Deep Go.Joins
end Go.Proofs.YtlepicdjnbbndaaGreatDoor
