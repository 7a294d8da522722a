/-
  The canonical form: canon.Of and what it computes. Conditions: sizes.
-/
import Derived.Test.YtlepicdjnbbndaaGreatDoorK1
import Derived.Lib.QuietBelow
import Derived.BigRegion
import Derived.Deep.RegionHeld3
/-
  canon.Width, the accumulator's step. Conditions: the library's table of white space as its initialiser lays it; at most a million operands.
-/
namespace Go.Proofs.YtlepicdjnbbndaaGreatDoor
open Go.RowKit Go.Sort

/-- A list of operands in a row of the call's own, in a block of q: its cells may be written. -/
def OpdOwn (w : World) (q : Blocks) (v : Value) (l : List Opd) : Prop :=
  ∃ a cap, v = .slice a l.length cap ∧ l.length ≤ cap ∧ cap ≤ 9223372036854775807 ∧
    ∀ i x, l[i]? = some x → ∃ b o, a = some ⟨b, o, none⟩ ∧ q b ∧ b < w.heap.size ∧ w.cell? ⟨b, o + i * 3, none⟩ = some (.int .i64 x.kind) ∧ w.cell? ⟨b, o + i * 3 + 1, none⟩ = some (.int .i64 x.reg) ∧ w.cell? ⟨b, o + i * 3 + 2, none⟩ = some (.int .i64 x.n) ∧
      ∀ j, w.frozen? ⟨b, j, none⟩ = false
theorem OpdOwn.keep {w w' : World} {q : Blocks} {v : Value} {l : List Opd} (h : OpdOwn w q v l) (hk : Keep q w w') : OpdOwn w' q v l := by
  obtain ⟨a, cap, e, h1, h2, h3⟩ := h
  refine ⟨a, cap, e, h1, h2, fun i x hx => ?_⟩
  obtain ⟨b, o, ea, hq, hb, c0, c1, c2, f2⟩ := h3 i x hx
  have hh := hk b hq
  have hc : ∀ j, w'.cell? ⟨b, j, none⟩ = w.cell? ⟨b, j, none⟩ := fun j => World.cell?_of_block (w := w) hh
  exact ⟨b, o, ea, hq, heap_lt hb hh, (hc _).trans c0, (hc _).trans c1, (hc _).trans c2, fun j => (World.frozen?_of_block (w := w) (a := ⟨b, j, none⟩) hh).trans (f2 j)⟩
theorem OpdOwn.below {w w' : World} {q : Blocks} {v : Value} {l : List Opd} (h : OpdOwn w q v l) (hb : Below w.heap.size w w') : OpdOwn w' q v l := by
  obtain ⟨a, cap, e, h1, h2, h3⟩ := h
  refine ⟨a, cap, e, h1, h2, fun i x hx => ?_⟩
  obtain ⟨b, o, ea, hq, hbs, c0, c1, c2, f2⟩ := h3 i x hx
  have hc : ∀ j, w'.cell? ⟨b, j, none⟩ = w.cell? ⟨b, j, none⟩ := fun j => hb.cell (p := ⟨b, j, none⟩) hbs
  exact ⟨b, o, ea, hq, Nat.lt_of_lt_of_le hbs hb.size, (hc _).trans c0, (hc _).trans c1, (hc _).trans c2, fun j => (hb.frozen (p := ⟨b, j, none⟩) hbs).trans (f2 j)⟩
theorem OpdOwn.mono {w : World} {q r : Blocks} {v : Value} {l : List Opd} (h : OpdOwn w q v l) (hq : ∀ k, q k → r k) : OpdOwn w r v l := by
  obtain ⟨a, cap, e, h1, h2, h3⟩ := h
  refine ⟨a, cap, e, h1, h2, fun i x hx => ?_⟩
  obtain ⟨b, o, ea, hb, r⟩ := h3 i x hx
  exact ⟨b, o, ea, hq _ hb, r⟩
theorem OpdOwn.slR {w : World} {q : Blocks} {v : Value} {l : List Opd} (h : OpdOwn w q v l) : SlR opdR w q v l := by
  obtain ⟨a, cap, e, h1, h2, h3⟩ := h
  refine ⟨a, cap, e, h1, by simpa [maxLen] using h2, fun i x hx => ?_⟩
  obtain ⟨b, o, ea, hq, hb, c0, c1, c2, f2⟩ := h3 i x hx
  refine ⟨b, o, x.cells, ea, hq, hb, fun j u hu => ?_, rfl⟩
  match j, hu with
  | 0, hu => simp [Opd.cells] at hu; subst hu; exact c0
  | 1, hu => simp [Opd.cells] at hu; subst hu; exact c1
  | 2, hu => simp [Opd.cells] at hu; subst hu; exact c2
theorem Own.opdOwn {w : World} {B : Nat} {e : TypeId} {p q : Blocks} {v : Value} {l : List Opd} (h : Own opdR w B e p v l) (hq : ∀ k, v.ownBlock = some k → q k) : OpdOwn w q v l := by
  have hs := h.slR (q := fun k => p k ∨ B ≤ k) (fun k hk => .inl hk) (fun k hk => .inr hk)
  obtain ⟨cs, hrow, hels⟩ := h
  obtain ⟨a, cap, rfl, h1, h2, h3⟩ := hs.opd
  refine ⟨a, cap, rfl, h1, h2, fun i x hx => ?_⟩
  obtain ⟨b, o, ea, hb, c0, c1, c2⟩ := h3 i x hx
  subst ea
  refine ⟨b, o, rfl, hq b rfl, World.block_lt_of_cell? w _ c0, c0, c1, c2, ?_⟩
  rcases hrow.2 with ⟨hv, _⟩ | ⟨g, cap', cur, hv, hbg, hg, _⟩
  · cases hv
  · injection hv with hv
    injection hv with hv
    injection hv with hv1
    subst hv1
    exact fun j => frozen_of_row w b j cur e hg


/-- What the steps of the canonical form leave: the writer's block, its operands in a row of the call's own. -/
structure Wr (w0 w : World) (bw : Nat) (s : ByteArray) (v : Value) (l : List Opd) : Prop where
  blk : Blk w bw 169 #[.string s, v]
  own : OpdOwn w (fun b => w0.heap.size ≤ b ∧ b ≠ bw) v l
  old : w0.heap.size ≤ bw
  below : Below w0.heap.size w0 w
  spc0 : Spc w0
/-- the operands' field is written -/
theorem Wr.set {w0 w : World} {bw : Nat} {s : ByteArray} {v v' : Value} {l l' : List Opd} (h : Wr w0 w bw s v l) (ho : OpdOwn w (fun b => w0.heap.size ≤ b ∧ b ≠ bw) v' l') : Wr w0 (w.setCell ⟨bw, 1, none⟩ v') bw s v' l' :=
  ⟨h.blk.set 1 v', ho.keep fun _ hk => Below.heap_setCell _ _ _ _ hk.2, h.old, h.below.setCell h.old _, h.spc0⟩

/-- the operands of a new block -/
theorem opdOwn_new {w : World} {q : Blocks} (l : List Opd) (cs : Array Value) (t : TypeId) (b n : Nat) (hb : b = w.heap.size) (hn : n = l.length) (hcs : cs.toList = l.flatMap Opd.cells) (hq : q b) (hl : l.length ≤ 1000000) : OpdOwn (w.alloc (.cells cs t)) q (.slice (some ⟨b, 0, none⟩) n n) l := by
  subst hb hn
  have hels : ∀ (l : List Opd) (p : Blocks) (w : World), Els opdR w p (l.flatMap Opd.cells) l := by
    intro l p w
    induction l with
    | nil => rfl
    | cons x l ih => exact ⟨x.cells, l.flatMap Opd.cells, rfl, rfl, ih⟩
  have hlen : cs.size = l.length * 3 := by
    have := (hels l (fun _ => True) w).len
    rw [← hcs] at this
    simpa [opdR_size] using this
  have ho : Own opdR (w.alloc (.cells cs t)) w.heap.size t (fun _ => True) (.slice (some ⟨w.heap.size, 0, none⟩) l.length l.length) l :=
    ⟨cs.toList, ⟨by rw [opdR_size]; simpa using hlen, .inr ⟨w.heap.size, l.length, cs, rfl, Nat.le_refl _, heap_alloc_new w _, Nat.le_refl _, by unfold maxLen; omega, by rw [opdR_size]; exact hlen, List.take_of_length_le (by rw [opdR_size, ← hlen, Array.length_toList]; exact Nat.le_refl _)⟩⟩, by rw [hcs]; exact hels l _ _⟩
  exact ho.opdOwn (fun k hk => by cases hk; exact hq)


theorem Wr.later {w0 w w' : World} {bw : Nat} {s : ByteArray} {v : Value} {l : List Opd} (h : Wr w0 w bw s v l) (hb : Below w.heap.size w w') : Wr w0 w' bw s v l :=
  ⟨h.blk.below hb h.blk.lt, h.own.below hb, h.old, h.below.trans (hb.mono h.below.size), h.spc0⟩




end Go.Proofs.YtlepicdjnbbndaaGreatDoor

/-
  slices.Reverse at two operands in a row of the call's own. Conditions: none.
-/
namespace Go.Proofs.YtlepicdjnbbndaaGreatDoor
open Go.RowKit


end Go.Proofs.YtlepicdjnbbndaaGreatDoor

/-
  canon: the order of EX's operands. Conditions: the library's table of white space as its initialiser lays it.
-/
namespace Go.Proofs.YtlepicdjnbbndaaGreatDoor
open Go.RowKit Go.Sort

theorem Wr.drewN {w0 w : World} {bw : Nat} {s : ByteArray} {v : Value} {l : List Opd} (h : Wr w0 w bw s v l) (n : Nat) : Wr w0 (w.drewN n) bw s v l := h.later ⟨rfl, rfl, rfl, Nat.le_refl _, fun _ _ => rfl⟩
theorem Wr.drew {w0 w : World} {bw : Nat} {s : ByteArray} {v : Value} {l : List Opd} (h : Wr w0 w bw s v l) : Wr w0 w.drew bw s v l := h.later ⟨rfl, rfl, rfl, Nat.le_refl _, fun _ _ => rfl⟩
theorem Wr.alloc {w0 w : World} {bw : Nat} {s : ByteArray} {v : Value} {l : List Opd} (h : Wr w0 w bw s v l) (o : Obj) : Wr w0 (w.alloc o) bw s v l := h.later ((Below.refl _ _).alloc (Nat.le_refl _) o)

end Go.Proofs.YtlepicdjnbbndaaGreatDoor

/-
  canon.Width. Conditions: the library's table of white space as its initialiser lays it.
-/
namespace Go.Proofs.YtlepicdjnbbndaaGreatDoor
open Go.RowKit

theorem toList_mk (l : List UInt8) : (⟨l.toArray⟩ : ByteArray).toList = l := by rw [Go.ByteArray.toList_eq]

end Go.Proofs.YtlepicdjnbbndaaGreatDoor

/-
  canon: numbers made positive. Conditions: the library's table of white space as its initialiser lays it.
-/
namespace Go.Proofs.YtlepicdjnbbndaaGreatDoor
open Go.RowKit


/-- One operand's number is written. -/
theorem OpdOwn.setN {w : World} {q : Blocks} {b o n c : Nat} {l : List Opd} {k : Nat} {x : Opd} {m : Int} (h : OpdOwn w q (.slice (some ⟨b, o, none⟩) n c) l) (hx : l[k]? = some x) : OpdOwn (w.setCell ⟨b, o + k * 3 + 2, none⟩ (.int .i64 m)) q (.slice (some ⟨b, o, none⟩) n c) (l.set k { x with n := m }) := by
  obtain ⟨a, cap, e, h1, h2, h3⟩ := h
  injection e with e1 e2 e3
  subst e1 e3
  refine ⟨_, c, by rw [List.length_set, e2], by rw [List.length_set]; exact h1, h2, fun i z hz => ?_⟩
  have hk := (List.getElem?_eq_some_iff.1 hx).1
  have hi : i < l.length := by have := (List.getElem?_eq_some_iff.1 hz).1; simpa using this
  obtain ⟨b', o', eb, hq, hb, c0, c1, c2, f⟩ := h3 i l[i] (List.getElem?_eq_getElem hi)
  injection eb with eb
  injection eb with eb1 eb2
  subst eb1 eb2
  have far : ∀ j v, j ≠ o + k * 3 + 2 → w.cell? ⟨b, j, none⟩ = some v → (w.setCell ⟨b, o + k * 3 + 2, none⟩ (.int .i64 m)).cell? ⟨b, j, none⟩ = some v := fun j v hj hv => by
    rw [World.cell?_setCell_other _ _ _ _ (by simp)]; exact hv
  refine ⟨b, o, rfl, hq, by simpa [World.setCell] using hb, ?_, ?_, ?_, fun j => (World.frozen?_setCell _ _ _ _).trans (f j)⟩
  · by_cases hik : k = i
    · subst hik
      rw [List.getElem?_set_self hk] at hz
      obtain rfl := Option.some.inj hz
      obtain rfl : l[k] = x := Option.some.inj ((List.getElem?_eq_getElem hk).symm.trans hx)
      exact far _ _ (by omega) c0
    · rw [List.getElem?_set_ne hik, List.getElem?_eq_getElem hi] at hz
      obtain rfl := Option.some.inj hz
      exact far _ _ (by omega) c0
  · by_cases hik : k = i
    · subst hik
      rw [List.getElem?_set_self hk] at hz
      obtain rfl := Option.some.inj hz
      obtain rfl : l[k] = x := Option.some.inj ((List.getElem?_eq_getElem hk).symm.trans hx)
      exact far _ _ (by omega) c1
    · rw [List.getElem?_set_ne hik, List.getElem?_eq_getElem hi] at hz
      obtain rfl := Option.some.inj hz
      exact far _ _ (by omega) c1
  · by_cases hik : k = i
    · subst hik
      rw [List.getElem?_set_self hk] at hz
      obtain rfl := Option.some.inj hz
      exact World.cell?_setCell_same' _ _ _ (by rw [c2]; rfl)
    · rw [List.getElem?_set_ne hik, List.getElem?_eq_getElem hi] at hz
      obtain rfl := Option.some.inj hz
      exact far _ _ (by omega) c2
theorem Wr.setN {w0 w : World} {bw b o n c k : Nat} {s : ByteArray} {l : List Opd} {x : Opd} {m : Int} (h : Wr w0 w bw s (.slice (some ⟨b, o, none⟩) n c) l) (hx : l[k]? = some x) (hq : w0.heap.size ≤ b ∧ b ≠ bw) :
    Wr w0 (w.setCell ⟨b, o + k * 3 + 2, none⟩ (.int .i64 m)) bw s (.slice (some ⟨b, o, none⟩) n c) (l.set k { x with n := m }) :=
  ⟨h.blk.far (Ne.symm hq.2) _, h.own.setN hx, h.old, h.below.setCell hq.1 _, h.spc0⟩

end Go.Proofs.YtlepicdjnbbndaaGreatDoor

/-
  canon.Of. Conditions: the library's table of white space as its initialiser lays it; at most a million operands.
-/
namespace Go.Proofs.YtlepicdjnbbndaaGreatDoor
open Go.RowKit

def fits64 (n : Int) : Prop := -9223372036854775808 ≤ n ∧ n ≤ 9223372036854775807

end Go.Proofs.YtlepicdjnbbndaaGreatDoor

/-
  canon.Is, and the two helpers of the statements of chapter 8.
-/
namespace Go.Proofs.YtlepicdjnbbndaaGreatDoor
open Go.RowKit



end Go.Proofs.YtlepicdjnbbndaaGreatDoor

/-
  PLAIN LAWS OF THE CANONICAL FORM: it is its own canonical form, and its width is the instruction's.
-/
namespace Go.Proofs.YtlepicdjnbbndaaGreatDoor
open Go.RowKit



end Go.Proofs.YtlepicdjnbbndaaGreatDoor
