/-
  ARGUMENTS OPENED: a list of instructions.
-/
import Derived.Test.YtjmekllgnhkodaaGreatDoorKP
import Derived.Test.YtjmekllgnhkodaaGreatDoorPB
namespace Go.Proofs.YtjmekllgnhkodaaGreatDoor
open Go.RowKit Go.ChangeShapes Go.WideShapes Go.ChangeAt Go.Deep Go.Joins

variable {H : Type} {enc : TypeId × Value → H} {W : World}
theorem list2' {α : Type} {l : List α} (h : l.length = 2) : ∃ a b, l = [a, b] := by
  match l, h with
  | [a, b], _ => exact ⟨a, b, rfl⟩
instance : Inhabited Ins := ⟨⟨⟨#[]⟩, []⟩⟩
/-- What an instruction that came in is good for. -/
def insFits (x : Ins) : Prop := (∀ y ∈ x.args, fits64 y.n) ∧ x.op.size ≤ maxLen
set_option maxRecDepth 100000 in
theorem open_inss_arg {b0 : Nat} {v : Value} {d : DataW H} {p : List MemPlace} (hv : Value.okWide Tryz.prog W .any b0 68 v) (h : DataW.Trod enc Tryz.prog W 0 (fun _ => true) true 68 v d p) :
    ∃ l, SlR insSR W (fun _ => True) v l ∧ ∀ x ∈ l, insFits x := by
  have hcl : v.cells.toList = [v] := by
    obtain ⟨a, n, c, rfl⟩ := okWide_slice Tryz.underlying68 hv
    rfl
  obtain ⟨fuel, hf⟩ := h
  rw [hcl] at hf
  rcases open_slice Tryz.underlying68 hf with ⟨hv, _⟩ | ⟨a, len, cap, m, n, D, Pl, hv, _, hl, hm, hmm, _, hi⟩
  · obtain rfl := List.cons.inj hv |>.1
    exact ⟨[], SlR.nil _ _ _, by simp⟩
  · obtain rfl := List.cons.inj hv |>.1
    have key : ∀ i, i < len → ∃ x : Ins, (∃ va, W.cell? (a.add (i * 2)) = some (.string x.op) ∧ W.cell? (a.add (i * 2 + 1)) = some va ∧ SlR opdR W (fun _ => True) va x.args) ∧ insFits x := fun i hil => by
      obtain ⟨cs, hc, ht⟩ := hi i (by rw [hmm, if_pos rfl]; omega)
      rw [c_ins] at hc
      obtain ⟨_, hlen, hat⟩ := World.cells?_some hc
      obtain ⟨y0, y1, n', _, _, h0, h1⟩ := trod_struct2 Tryz.underlying27 ht
      obtain ⟨c0, c1, rfl⟩ := list2' hlen
      have e0 := hat 0 (by omega)
      have e1 := hat 1 (by omega)
      rw [add_add] at e0 e1
      dsimp only at h0 h1
      rw [c_string] at h0
      rw [c_opds] at h1
      obtain ⟨s, q0, _, hs⟩ := DataW.trod_string Tryz.underlying9 (fuel := n') (cs := [c0]) h0
      obtain rfl := List.cons.inj q0 |>.1
      obtain ⟨l, hl, hf⟩ := open_opds (fuel := n') (v := c1) h1
      exact ⟨⟨s, l⟩, ⟨c1, e0, e1, hl⟩, hf, hs⟩
    obtain ⟨f, hf⟩ := choose_lt key
    have hg : ∀ i x, ((List.range len).map f)[i]? = some x → i < len ∧ f i = x := fun i x hx => by
      rw [List.getElem?_map, Option.map_eq_some_iff] at hx
      obtain ⟨j, hj, rfl⟩ := hx
      obtain ⟨h1, h2⟩ := List.getElem?_eq_some_iff.1 hj
      simp at h1 h2
      subst h2
      exact ⟨h1, rfl⟩
    refine ⟨(List.range len).map f, ⟨some a, cap, by simp, by simpa using hl, hm, fun i x hx => ?_⟩, fun x hx => ?_⟩
    · obtain ⟨hil, rfl⟩ := hg i x hx
      obtain ⟨⟨va, h0, h1, h2⟩, _⟩ := hf i hil
      obtain ⟨b, o, spot⟩ := a
      have hspot : spot = none := by
        obtain ⟨⟨_, h00, _⟩, _⟩ := hf 0 (by omega)
        simpa [Addr.add] using World.cell?_spot h00
      subst hspot
      rw [add_at] at h0 h1
      refine ⟨b, o, [.string (f i).op, va], rfl, trivial, World.block_lt_of_cell? W _ h0, fun j u hu => ?_, va, rfl, h2⟩
      show W.cell? ⟨b, o + i * 2 + j, none⟩ = _
      rw [Nat.add_assoc]
      match j, hu with
      | 0, hu => simp at hu; subst hu; exact h0
      | 1, hu => simp at hu; subst hu; exact h1
    · obtain ⟨i, hi, rfl⟩ := List.mem_map.1 hx
      exact (hf i (by simpa using hi)).2
end Go.Proofs.YtjmekllgnhkodaaGreatDoor
