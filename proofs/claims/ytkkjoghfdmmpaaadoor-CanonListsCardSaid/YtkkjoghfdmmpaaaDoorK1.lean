/-
  Go's data in memory, operands, instructions, append, copies, words of a text. Conditions: sizes.
-/
import Derived.WalkKit
import Derived.WalkSpells
import Derived.WalkLawsBesides
import Derived.Lib.Hide
import Derived.Maps.AppendAt
import Derived.Test.YtkkjoghfdmmpaaaDoorChecked
import Derived.Deep.QuietTactic
import Derived.BigQuiet
import Derived.Laws.StructEq
import Derived.Lib.ConvBytes
import Derived.OwnWalkIn
import Derived.Deep.RegionLaw
import Derived.Test.YtkkjoghfdmmpaaaDoorShelf
/-
  The representation of Go's data in memory: cells, slices of structs (nested ones too), what keeps a reading, an accumulator of the call's own. Conditions: none.
-/
namespace Go.Proofs.YtkkjoghfdmmpaaaDoor
open Go.RowKit

theorem ret_bool {a b : Bool} (h : a = b) : Ending.returned (.bool a) = .returned (.bool b) := by rw [h]
theorem ret_int {k : IntKind} {a b : Int} (h : a = b) : Ending.returned (.int k a) = .returned (.int k b) := by rw [h]
theorem ret_str {a b : ByteArray} (h : a = b) : Ending.returned (.string a) = .returned (.string b) := by rw [h]
theorem drewN2 (w : World) (a b : Nat) : (w.drewN a).drewN b = w.drewN (a + b) := World.drewN_drewN w a b
theorem drew_drewN (w : World) (a : Nat) : (w.drewN a).drew = w.drewN (a + 1) := World.drewN_drewN w a 1

theorem below_dN {B : Nat} {a w : World} (h : Below B a w) (n : Nat) : Below B a (w.drewN n) := ⟨h.os, h.tape, h.output, h.size, h.block⟩

/-- The cells of a stretch. -/
def Cells (w : World) (b o : Nat) (vs : List Value) : Prop := ∀ j v, vs[j]? = some v → w.cell? ⟨b, o + j, none⟩ = some v

/-- Block g is just the cells cs of element type t, none frozen. -/
def Blk (w : World) (g : Nat) (t : TypeId) (cs : Array Value) : Prop := w.heap[g]? = some (.cells cs t (0, 0))
theorem Blk.lt {w : World} {g : Nat} {t : TypeId} {cs : Array Value} (h : Blk w g t cs) : g < w.heap.size := (Array.getElem?_eq_some_iff.1 h).1
theorem Blk.cell {w : World} {g : Nat} {t : TypeId} {cs : Array Value} (h : Blk w g t cs) (i : Nat) : w.cell? ⟨g, i, none⟩ = cs[i]? := cell_of_row w g i cs t (0, 0) h
theorem Blk.free {w : World} {g : Nat} {t : TypeId} {cs : Array Value} (h : Blk w g t cs) (i : Nat) : w.frozen? ⟨g, i, none⟩ = false := frozen_of_row w g i cs t h
theorem Blk.new (w : World) (t : TypeId) (cs : Array Value) : Blk (w.alloc (.cells cs t)) w.heap.size t cs := heap_alloc_new w _
theorem Blk.alloc {w : World} {g : Nat} {t : TypeId} {cs : Array Value} (h : Blk w g t cs) (o : Obj) : Blk (w.alloc o) g t cs := (Below.heap_alloc w o g h.lt).trans h
theorem Blk.below {w w' : World} {g : Nat} {t : TypeId} {cs : Array Value} {B : Nat} (h : Blk w g t cs) (hb : Below B w w') (hg : g < B) : Blk w' g t cs := (hb.block g hg).trans h
theorem Blk.grown {w w' : World} {g : Nat} {t : TypeId} {cs : Array Value} {row : Option Nat} (h : Blk w g t cs) (hb : w.grownBy w' row) (hg : some g ≠ row) : Blk w' g t cs := (hb.block g h.lt hg).trans h
theorem Blk.set {w : World} {g : Nat} {t : TypeId} {cs : Array Value} (h : Blk w g t cs) (i : Nat) (u : Value) : Blk (w.setCell ⟨g, i, none⟩ u) g t (cs.setIfInBounds i u) := by
  unfold Blk at h ⊢
  simp [World.setCell, Array.getElem?_modify, h]
theorem Blk.far {w : World} {g : Nat} {t : TypeId} {cs : Array Value} (h : Blk w g t cs) {p : Addr} (hp : g ≠ p.block) (u : Value) : Blk (w.setCell p u) g t cs := (Below.heap_setCell w p u g hp).trans h
theorem Blk.one {w : World} {g : Nat} {t : TypeId} {x : Value} (h : Blk w g t #[x]) : w.cell? ⟨g, 0, none⟩ = some x ∧ w.frozen? ⟨g, 0, none⟩ = false := ⟨h.cell 0, h.free 0⟩
theorem Blk.two {w : World} {g : Nat} {t : TypeId} {x y : Value} (h : Blk w g t #[x, y]) : w.cell? ⟨g, 0, none⟩ = some x ∧ w.cell? ⟨g, 1, none⟩ = some y ∧ w.frozen? ⟨g, 0, none⟩ = false ∧ w.frozen? ⟨g, 1, none⟩ = false :=
  ⟨h.cell 0, h.cell 1, h.free 0, h.free 1⟩
theorem Blk.three {w : World} {g : Nat} {t : TypeId} {x y z : Value} (h : Blk w g t #[x, y, z]) : w.cell? ⟨g, 0, none⟩ = some x ∧ w.cell? ⟨g, 1, none⟩ = some y ∧ w.cell? ⟨g, 2, none⟩ = some z ∧ w.frozen? ⟨g, 0, none⟩ = false ∧ w.frozen? ⟨g, 1, none⟩ = false ∧ w.frozen? ⟨g, 2, none⟩ = false :=
  ⟨h.cell 0, h.cell 1, h.cell 2, h.free 0, h.free 1, h.free 2⟩

abbrev Blocks := Nat → Prop
/-- All blocks of p read as they did. -/
def Keep (p : Blocks) (w w' : World) : Prop := ∀ k, p k → w'.heap[k]? = w.heap[k]?
theorem Keep.refl (p : Blocks) (w : World) : Keep p w w := fun _ _ => rfl
theorem Keep.trans {p : Blocks} {a b c : World} (h : Keep p a b) (k : Keep p b c) : Keep p a c := fun i hi => (k i hi).trans (h i hi)
theorem Keep.mono {p q : Blocks} {a b : World} (h : Keep q a b) (hp : ∀ k, p k → q k) : Keep p a b := fun i hi => h i (hp i hi)
theorem Keep.of_below {B : Nat} {p : Blocks} {w w' : World} (h : Below B w w') (hp : ∀ k, p k → k < B) : Keep p w w' := fun k hk => h.block k (hp k hk)
theorem Keep.alloc {p : Blocks} {w : World} (hp : ∀ k, p k → k < w.heap.size) (o : Obj) : Keep p w (w.alloc o) := fun k hk => Below.heap_alloc _ _ _ (hp k hk)
theorem Keep.grown {p : Blocks} {w w' : World} {row : Option Nat} (h : w.grownBy w' row) (hp : ∀ k, p k → k < w.heap.size ∧ some k ≠ row) : Keep p w w' := fun k hk => h.block k (hp k hk).1 (hp k hk).2
theorem Keep.setCell {p : Blocks} {w : World} {a : Addr} (hp : ∀ k, p k → k ≠ a.block) (u : Value) : Keep p w (w.setCell a u) := fun k hk => Below.heap_setCell _ _ _ _ (hp k hk)
theorem Keep.drew {p : Blocks} (w : World) : Keep p w w.drew := fun _ _ => rfl

theorem Cells.keep {w w' : World} {b o : Nat} {vs : List Value} (h : Cells w b o vs) (hk : w'.heap[b]? = w.heap[b]?) : Cells w' b o vs :=
  fun j v hv => (World.cell?_of_block (w := w) hk).trans (h j v hv)
theorem Cells.nil (w : World) (b o : Nat) : Cells w b o [] := fun j v h => by simp at h
theorem Cells.append {w : World} {b o : Nat} {xs ys : List Value} (h1 : Cells w b o xs) (h2 : Cells w b (o + xs.length) ys) : Cells w b o (xs ++ ys) := by
  intro j v hv
  by_cases hj : j < xs.length
  · rw [List.getElem?_append_left hj] at hv; exact h1 j v hv
  · rw [List.getElem?_append_right (by omega)] at hv
    have := h2 _ v hv
    rwa [show o + xs.length + (j - xs.length) = o + j by omega] at this
theorem Cells.left {w : World} {b o : Nat} {xs ys : List Value} (h : Cells w b o (xs ++ ys)) : Cells w b o xs := fun j v hv =>
  h j v (by rw [List.getElem?_append_left (List.getElem?_eq_some_iff.1 hv).1]; exact hv)
theorem Cells.right {w : World} {b o : Nat} {xs ys : List Value} (h : Cells w b o (xs ++ ys)) : Cells w b (o + xs.length) ys := fun j v hv => by
  have := h (xs.length + j) v (by rw [List.getElem?_append_right (by omega)]; simpa using hv)
  rwa [← Nat.add_assoc] at this
theorem Cells.one {w : World} {b o : Nat} {v : Value} (h : w.cell? ⟨b, o, none⟩ = some v) : Cells w b o [v] := fun j u hu => by
  cases j with
  | zero => simp at hu; subst hu; exact h
  | succ j => simp at hu
theorem Cells.get {w : World} {b o : Nat} {vs : List Value} (h : Cells w b o vs) (j : Nat) {v : Value} (hv : vs[j]? = some v) : w.cell? ⟨b, o + j, none⟩ = some v := h j v hv
theorem Cells.head {w : World} {b o : Nat} {v : Value} {vs : List Value} (h : Cells w b o (v :: vs)) : w.cell? ⟨b, o, none⟩ = some v := h 0 v rfl

/-- How a Go type's values lie in cells: how many cells; what cells read as x, all blocks that the reading meets being of p. -/
structure Rep (α : Type) where
  size : Nat
  rel : World → Blocks → List Value → α → Prop
  len : ∀ {w p cs x}, rel w p cs x → cs.length = size
  keep : ∀ {w w' p cs x}, Keep p w w' → rel w p cs x → rel w' p cs x
  mono : ∀ {w p q cs x}, (∀ k, p k → q k) → rel w p cs x → rel w q cs x
  old : ∀ {w p cs x}, rel w p cs x → rel w (fun k => p k ∧ k < w.heap.size) cs x
  one : ∀ {w p cs x}, rel w p cs x → ∀ u ∈ cs, u.oneCell' = true

/-- No cell is a pointer: the cells are a function of x. -/
def Rep.flat {α : Type} (n : Nat) (enc : α → List Value) (h : ∀ x, (enc x).length = n) (h1 : ∀ x, ∀ u ∈ enc x, u.oneCell' = true) : Rep α where
  size := n
  rel := fun _ _ cs x => cs = enc x
  len := fun e => by subst e; exact h _
  keep := fun _ e => e
  mono := fun _ e => e
  old := fun e => e
  one := fun e => by subst e; exact h1 _

/-- A slice value that reads as xs. -/
def SlR {α : Type} (R : Rep α) (w : World) (p : Blocks) (v : Value) (xs : List α) : Prop :=
  ∃ a cap, v = .slice a xs.length cap ∧ xs.length ≤ cap ∧ cap ≤ maxLen ∧
    ∀ i x, xs[i]? = some x → ∃ b o cs, a = some ⟨b, o, none⟩ ∧ p b ∧ b < w.heap.size ∧ Cells w b (o + i * R.size) cs ∧ R.rel w p cs x

theorem heap_lt {w w' : World} {k : Nat} (h : k < w.heap.size) (e : w'.heap[k]? = w.heap[k]?) : k < w'.heap.size := by
  rw [Array.getElem?_eq_getElem h] at e
  exact (Array.getElem?_eq_some_iff.1 e).1
theorem SlR.keep {α : Type} {R : Rep α} {w w' : World} {p : Blocks} {v : Value} {xs : List α} (h : SlR R w p v xs) (hk : Keep p w w') : SlR R w' p v xs := by
  obtain ⟨a, cap, e, h1, h2, h3⟩ := h
  refine ⟨a, cap, e, h1, h2, fun i x hx => ?_⟩
  obtain ⟨b, o, cs, ea, hb, hbs, hc, hr⟩ := h3 i x hx
  exact ⟨b, o, cs, ea, hb, heap_lt hbs (hk b hb), hc.keep (hk b hb), R.keep hk hr⟩
theorem SlR.mono {α : Type} {R : Rep α} {w : World} {p q : Blocks} {v : Value} {xs : List α} (h : SlR R w p v xs) (hp : ∀ k, p k → q k) : SlR R w q v xs := by
  obtain ⟨a, cap, e, h1, h2, h3⟩ := h
  refine ⟨a, cap, e, h1, h2, fun i x hx => ?_⟩
  obtain ⟨b, o, cs, ea, hb, hbs, hc, hr⟩ := h3 i x hx
  exact ⟨b, o, cs, ea, hp _ hb, hbs, hc, R.mono hp hr⟩
theorem SlR.old {α : Type} {R : Rep α} {w : World} {p : Blocks} {v : Value} {xs : List α} (h : SlR R w p v xs) : SlR R w (fun k => p k ∧ k < w.heap.size) v xs := by
  obtain ⟨a, cap, e, h1, h2, h3⟩ := h
  refine ⟨a, cap, e, h1, h2, fun i x hx => ?_⟩
  obtain ⟨b, o, cs, ea, hb, hbs, hc, hr⟩ := h3 i x hx
  exact ⟨b, o, cs, ea, ⟨hb, hbs⟩, hbs, hc, R.old hr⟩
/-- A reading stands in a world in which all that there was lies unturned. -/
theorem SlR.below {α : Type} {R : Rep α} {w w' : World} {p : Blocks} {v : Value} {xs : List α} (h : SlR R w p v xs) (hb : Below w.heap.size w w') : SlR R w' p v xs :=
  (h.old.keep (Keep.of_below hb fun _ hk => hk.2)).mono fun _ hk => hk.1
theorem SlR.alloc {α : Type} {R : Rep α} {w : World} {p : Blocks} {v : Value} {xs : List α} (h : SlR R w p v xs) (o : Obj) : SlR R (w.alloc o) p v xs :=
  h.below ((Below.refl _ _).alloc (Nat.le_refl _) o)
theorem SlR.drewN {α : Type} {R : Rep α} {w : World} {p : Blocks} {v : Value} {xs : List α} (h : SlR R w p v xs) (n : Nat) : SlR R (w.drewN n) p v xs := h.keep fun _ _ => rfl
theorem SlR.drew {α : Type} {R : Rep α} {w : World} {p : Blocks} {v : Value} {xs : List α} (h : SlR R w p v xs) : SlR R w.drew p v xs := h.keep fun _ _ => rfl
theorem SlR.nil {α : Type} (R : Rep α) (w : World) (p : Blocks) : SlR R w p (.slice none 0 0) [] := ⟨none, 0, rfl, Nat.le_refl _, Nat.zero_le _, fun i x h => by simp at h⟩
theorem SlR.len_le {α : Type} {R : Rep α} {w : World} {p : Blocks} {v : Value} {xs : List α} (h : SlR R w p v xs) : xs.length ≤ 9223372036854775807 := by
  obtain ⟨a, cap, e, h1, h2, h3⟩ := h
  simp only [maxLen] at h2
  omega
/-- A slice as a field or an element. -/
def Rep.slice {α : Type} (R : Rep α) : Rep (List α) where
  size := 1
  rel := fun w p cs xs => ∃ v, cs = [v] ∧ SlR R w p v xs
  len := fun ⟨_, e, _⟩ => by subst e; rfl
  keep := fun hk ⟨v, e, h⟩ => ⟨v, e, h.keep hk⟩
  mono := fun hp ⟨v, e, h⟩ => ⟨v, e, h.mono hp⟩
  old := fun ⟨v, e, h⟩ => ⟨v, e, h.old⟩
  one := fun ⟨v, e, a, cap, hv, _⟩ u hu => by subst e; subst hv; simp at hu; subst hu; rfl
/-- Two parts, one behind the other. -/
def Rep.pair {α β : Type} (R : Rep α) (S : Rep β) : Rep (α × β) where
  size := R.size + S.size
  rel := fun w p cs x => ∃ c1 c2, cs = c1 ++ c2 ∧ R.rel w p c1 x.1 ∧ S.rel w p c2 x.2
  len := fun ⟨c1, c2, e, h1, h2⟩ => by subst e; rw [List.length_append, R.len h1, S.len h2]
  keep := fun hk ⟨c1, c2, e, h1, h2⟩ => ⟨c1, c2, e, R.keep hk h1, S.keep hk h2⟩
  mono := fun hp ⟨c1, c2, e, h1, h2⟩ => ⟨c1, c2, e, R.mono hp h1, S.mono hp h2⟩
  old := fun ⟨c1, c2, e, h1, h2⟩ => ⟨c1, c2, e, R.old h1, S.old h2⟩
  one := fun ⟨c1, c2, e, h1, h2⟩ u hu => by
    subst e
    rcases List.mem_append.1 hu with h | h
    · exact R.one h1 u h
    · exact S.one h2 u h
/-- Seen through a function. -/
def Rep.via {α β : Type} (R : Rep α) (f : β → α) : Rep β where
  size := R.size
  rel := fun w p cs x => R.rel w p cs (f x)
  len := R.len
  keep := R.keep
  mono := R.mono
  old := R.old
  one := R.one

/-- Cells that read as a list's elements, one behind the other. -/
def Els {α : Type} (R : Rep α) (w : World) (p : Blocks) : List Value → List α → Prop
  | cs, [] => cs = []
  | cs, x :: xs => ∃ c1 c2, cs = c1 ++ c2 ∧ R.rel w p c1 x ∧ Els R w p c2 xs
theorem Els.keep {α : Type} {R : Rep α} {w w' : World} {p : Blocks} (hk : Keep p w w') : ∀ {xs : List α} {cs : List Value}, Els R w p cs xs → Els R w' p cs xs
  | [], _, h => h
  | _ :: _, _, ⟨c1, c2, e, h1, h2⟩ => ⟨c1, c2, e, R.keep hk h1, Els.keep hk h2⟩
theorem Els.mono {α : Type} {R : Rep α} {w : World} {p q : Blocks} (hp : ∀ k, p k → q k) : ∀ {xs : List α} {cs : List Value}, Els R w p cs xs → Els R w q cs xs
  | [], _, h => h
  | _ :: _, _, ⟨c1, c2, e, h1, h2⟩ => ⟨c1, c2, e, R.mono hp h1, Els.mono hp h2⟩
theorem Els.snoc {α : Type} {R : Rep α} {w : World} {p : Blocks} {x : α} {c : List Value} (hc : R.rel w p c x) : ∀ {xs : List α} {cs : List Value}, Els R w p cs xs → Els R w p (cs ++ c) (xs ++ [x])
  | [], _, h => ⟨c, [], by simp only [Els] at h; subst h; simp, hc, rfl⟩
  | _ :: _, _, ⟨c1, c2, e, h1, h2⟩ => ⟨c1, c2 ++ c, by rw [e, List.append_assoc], h1, Els.snoc hc h2⟩
theorem Els.append {α : Type} {R : Rep α} {w : World} {p : Blocks} {ys : List α} {ds : List Value} (hd : Els R w p ds ys) : ∀ {xs : List α} {cs : List Value}, Els R w p cs xs → Els R w p (cs ++ ds) (xs ++ ys)
  | [], _, h => by simp only [Els] at h; subst h; simpa using hd
  | _ :: _, _, ⟨c1, c2, e, h1, h2⟩ => ⟨c1, c2 ++ ds, by rw [e, List.append_assoc], h1, Els.append hd h2⟩
theorem Els.len {α : Type} {R : Rep α} {w : World} {p : Blocks} : ∀ {xs : List α} {cs : List Value}, Els R w p cs xs → cs.length = xs.length * R.size
  | [], _, h => by simp only [Els] at h; subst h; simp
  | _ :: _, _, ⟨c1, c2, e, h1, h2⟩ => by subst e; rw [List.length_append, R.len h1, Els.len h2, List.length_cons, Nat.add_mul]; omega
theorem Els.old {α : Type} {R : Rep α} {w : World} {p : Blocks} : ∀ {xs : List α} {cs : List Value}, Els R w p cs xs → Els R w (fun k => p k ∧ k < w.heap.size) cs xs
  | [], _, h => h
  | _ :: _, _, ⟨c1, c2, e, h1, h2⟩ => ⟨c1, c2, e, R.old h1, Els.old h2⟩
theorem Els.one {α : Type} {R : Rep α} {w : World} {p : Blocks} : ∀ {xs : List α} {cs : List Value}, Els R w p cs xs → ∀ u ∈ cs, u.oneCell' = true
  | [], _, h, u, hu => by simp only [Els] at h; subst h; simp at hu
  | _ :: _, _, ⟨c1, c2, e, h1, h2⟩, u, hu => by
    subst e
    rcases List.mem_append.1 hu with h | h
    · exact R.one h1 u h
    · exact Els.one h2 u h
theorem Els.get {α : Type} {R : Rep α} {w : World} {p : Blocks} {b o : Nat} : ∀ {xs : List α} {cs : List Value}, Els R w p cs xs → Cells w b o cs → ∀ i x, xs[i]? = some x → ∃ c, Cells w b (o + i * R.size) c ∧ R.rel w p c x
  | [], _, _, _, i, x, hx => by simp at hx
  | y :: ys, _, ⟨c1, c2, e, h1, h2⟩, hc, i, x, hx => by
    subst e
    cases i with
    | zero => simp at hx; subst hx; exact ⟨c1, by simpa using hc.left, h1⟩
    | succ i =>
      have hr := hc.right
      rw [R.len h1] at hr
      obtain ⟨c, hcc, hrel⟩ := Els.get h2 hr i x (by simpa using hx)
      refine ⟨c, ?_, hrel⟩
      rwa [show o + R.size + i * R.size = o + (i + 1) * R.size by rw [Nat.add_mul]; omega] at hcc

/-- An accumulator of the call's own, from block B on: its row, and what the row's cells read as. -/
def Own {α : Type} (R : Rep α) (w : World) (B : Nat) (e : TypeId) (p : Blocks) (v : Value) (xs : List α) : Prop :=
  ∃ cs, w.ownsRow B e R.size v xs.length cs ∧ Els R w p cs xs
theorem Own.nil {α : Type} (R : Rep α) (w : World) (B : Nat) (e : TypeId) (p : Blocks) : Own R w B e p (.slice none 0 0) ([] : List α) := ⟨[], World.ownsRow_nil _ _ _ _, rfl⟩
theorem Own.keep {α : Type} {R : Rep α} {w w' : World} {B : Nat} {e : TypeId} {p : Blocks} {v : Value} {xs : List α} (h : Own R w B e p v xs) (hk : Keep (fun k => p k ∨ v.ownBlock = some k) w w') : Own R w' B e p v xs := by
  obtain ⟨cs, hrow, hels⟩ := h
  refine ⟨cs, ⟨hrow.1, ?_⟩, hels.keep (hk.mono fun k hp => .inl hp)⟩
  rcases hrow.2 with hn | ⟨g, cap, cur, rfl, hb, hg, rest⟩
  · exact .inl hn
  · exact .inr ⟨g, cap, cur, rfl, hb, (hk g (.inr rfl)).trans hg, rest⟩
theorem Own.base {α : Type} {R : Rep α} {w : World} {B B' : Nat} {e : TypeId} {p : Blocks} {v : Value} {xs : List α} (h : Own R w B e p v xs) (hB : B' ≤ B) : Own R w B' e p v xs := by
  obtain ⟨cs, hrow, hels⟩ := h
  refine ⟨cs, ⟨hrow.1, ?_⟩, hels⟩
  rcases hrow.2 with hn | ⟨g, cap, cur, rfl, hb, rest⟩
  · exact .inl hn
  · exact .inr ⟨g, cap, cur, rfl, Nat.le_trans hB hb, rest⟩
theorem Own.lt {α : Type} {R : Rep α} {w : World} {B : Nat} {e : TypeId} {p : Blocks} {v : Value} {xs : List α} (h : Own R w B e p v xs) : ∀ k, v.ownBlock = some k → B ≤ k ∧ k < w.heap.size := by
  obtain ⟨cs, hrow, _⟩ := h
  exact hrow.lt
theorem Own.mono {α : Type} {R : Rep α} {w : World} {B : Nat} {e : TypeId} {p q : Blocks} {v : Value} {xs : List α} (h : Own R w B e p v xs) (hp : ∀ k, p k → q k) : Own R w B e q v xs := by
  obtain ⟨cs, hrow, hels⟩ := h
  exact ⟨cs, hrow, hels.mono hp⟩
theorem Own.form {α : Type} {R : Rep α} {w : World} {B : Nat} {e : TypeId} {p : Blocks} {v : Value} {xs : List α} (h : Own R w B e p v xs) : ∃ a cap, v = .slice a xs.length cap := by
  obtain ⟨cs, hrow, hels⟩ := h
  rcases hrow.2 with ⟨rfl, hn⟩ | ⟨g, cap, cur, rfl, _⟩
  · exact ⟨none, 0, by rw [hn]⟩
  · exact ⟨_, cap, rfl⟩
theorem Own.slR {α : Type} {R : Rep α} {w : World} {B : Nat} {e : TypeId} {p q : Blocks} {v : Value} {xs : List α} (h : Own R w B e p v xs) (hq : ∀ k, p k → q k) (hB : ∀ k, B ≤ k → q k) : SlR R w q v xs := by
  obtain ⟨cs, hrow, hels⟩ := h
  rcases hrow.2 with ⟨rfl, hn⟩ | ⟨g, cap, cur, rfl, hb, hg, hnc, hcm, hcs, htake⟩
  · obtain rfl : xs = [] := List.eq_nil_of_length_eq_zero hn
    exact SlR.nil _ _ _
  · have hcells : Cells w g 0 cs := fun j u hu => by
      have := hrow.cells (g := g) rfl j u hu
      have hadd : (⟨g, 0, none⟩ : Addr).add j = ⟨g, 0 + j, none⟩ := by unfold Addr.add; split <;> simp_all
      rwa [hadd] at this
    refine ⟨_, cap, rfl, hnc, hcm, fun i x hx => ?_⟩
    obtain ⟨c, hc, hr⟩ := hels.get hcells i x hx
    exact ⟨g, 0, c, rfl, hB _ hb, (Array.getElem?_eq_some_iff.1 hg).1, hc, R.mono hq hr⟩
end Go.Proofs.YtkkjoghfdmmpaaaDoor

/-
  Operands and instructions in memory; Go's comparison of lists of operands. Conditions: none.
-/
namespace Go.Proofs.YtkkjoghfdmmpaaaDoor
open Go.RowKit

structure Opd where
  kind : Int
  reg : Int
  n : Int
  deriving DecidableEq, Inhabited
def Opd.cells (o : Opd) : List Value := [.int .i64 o.kind, .int .i64 o.reg, .int .i64 o.n]
def opdR : Rep Opd := Rep.flat 3 Opd.cells (fun _ => rfl) (fun _ u hu => by simp [Opd.cells] at hu; rcases hu with rfl | rfl | rfl <;> rfl)
theorem opdR_size : opdR.size = 3 := rfl

/-- Three cells of an operand in a list. -/
theorem SlR.opd {w : World} {p : Blocks} {v : Value} {l : List Opd} (h : SlR opdR w p v l) : ∃ a cap, v = .slice a l.length cap ∧ l.length ≤ cap ∧ cap ≤ 9223372036854775807 ∧
    ∀ i x, l[i]? = some x → ∃ b o, a = some ⟨b, o, none⟩ ∧ p b ∧ w.cell? ⟨b, o + i * 3, none⟩ = some (.int .i64 x.kind) ∧ w.cell? ⟨b, o + i * 3 + 1, none⟩ = some (.int .i64 x.reg) ∧ w.cell? ⟨b, o + i * 3 + 2, none⟩ = some (.int .i64 x.n) := by
  obtain ⟨a, cap, e, h1, h2, h3⟩ := h
  refine ⟨a, cap, e, h1, by simpa [maxLen] using h2, fun i x hx => ?_⟩
  obtain ⟨b, o, cs, ea, hb, hbs, hc, hr⟩ := h3 i x hx
  have hr : cs = x.cells := hr
  subst hr
  exact ⟨b, o, ea, hb, hc 0 _ rfl, hc 1 _ rfl, hc 2 _ rfl⟩

def opdEq (x y : Opd) : Bool := decide (x = y)
theorem opdEq_iff {x y : Opd} : opdEq x y = true ↔ x = y := by simp [opdEq]
theorem opdEq_no {x y : Opd} : opdEq x y = false ↔ x ≠ y := by simp [opdEq]
/-- '==' and '!=' on two operands. -/
theorem run_eqOpd (a b c d e f : Int) (w : World) : (binOp .eql 47 (.agg #[.int .i64 a, .int .i64 b, .int .i64 c]) (.agg #[.int .i64 d, .int .i64 e, .int .i64 f])).run Tryd.prog w = .ok (.bool (opdEq ⟨a, b, c⟩ ⟨d, e, f⟩)) w := by
  have hS : Tryd.prog.underlying 47 = some (.struct (Tryd.prog.fieldsOf 47)) := by kernel_rfl
  have hp : Tryd.prog.stoodInHeld 47 = false := by kernel_rfl
  rw [run_eql_struct, show (10000 : Nat) = 9999 + 1 from rfl, run_equalIn_agg w 9999 47 _ _ hS hp]
  simp only [Program.fieldsOf, Tryd.underlying47]
  go_simp
  by_cases h1 : a = d <;> by_cases h2 : b = e <;> by_cases h3 : c = f <;> simp [h1, h2, h3, opdEq]
theorem run_neqOpd (a b c d e f : Int) (w : World) : (binOp .neq 47 (.agg #[.int .i64 a, .int .i64 b, .int .i64 c]) (.agg #[.int .i64 d, .int .i64 e, .int .i64 f])).run Tryd.prog w = .ok (.bool (!opdEq ⟨a, b, c⟩ ⟨d, e, f⟩)) w := by
  have hS : Tryd.prog.underlying 47 = some (.struct (Tryd.prog.fieldsOf 47)) := by kernel_rfl
  have hp : Tryd.prog.stoodInHeld 47 = false := by kernel_rfl
  rw [run_neq_struct, show (10000 : Nat) = 9999 + 1 from rfl, run_equalIn_agg w 9999 47 _ _ hS hp]
  simp only [Program.fieldsOf, Tryd.underlying47]
  go_simp
  by_cases h1 : a = d <;> by_cases h2 : b = e <;> by_cases h3 : c = f <;> simp [h1, h2, h3, opdEq]

theorem take_succ_eq {α : Type} {l1 l2 : List α} {k : Nat} (h1 : k < l1.length) (h2 : k < l2.length) (ht : l1.take k = l2.take k) (he : l1[k] = l2[k]) : l1.take (k + 1) = l2.take (k + 1) := by
  rw [List.take_succ_eq_append_getElem h1, List.take_succ_eq_append_getElem h2, ht, he]

set_option maxHeartbeats 400000 in
theorem EqualOpd_any (p q : Blocks) (v1 v2 : Value) (l1 l2 : List Opd) (w : World) (h1 : SlR opdR w p v1 l1) (h2 : SlR opdR w q v2 l2) :
    Calls Tryd.prog 74 #[v1, v2] w fun e w' => e = .returned (.bool (decide (l1 = l2))) ∧ ∃ n, w' = w.drewN n := by
  obtain ⟨a1, c1, rfl, hc1, hm1, g1⟩ := h1.opd
  obtain ⟨a2, c2, rfl, hc2, hm2, g2⟩ := h2.opd
  clear h1 h2
  have hop := run_neqOpd
  by_cases hl : l1.length = l2.length
  · have HL := Lib.hid hl
    rw [← hl] at hc2 ⊢
    clear hl
    go_enter Tryd.func74, Tryd.ntmps74
    go_wp2
    go_loopw [5, 13] (fun _ i wr => ∃ k n : Nat, k ≤ l1.length ∧ i = .int .i64 k ∧ wr = w.drewN n ∧ l1.take k = l2.take k) (fun _ i _ => l1.length - (intOf i).toNat)
    case atStart => exact ⟨0, 0, Nat.zero_le _, rfl, rfl, rfl⟩
    case round =>
      obtain ⟨k, n, hk, rfl, rfl, ht⟩ := hrel
      have HT := Lib.hid ht
      clear ht
      by_cases hlt : k < l1.length
      · have hlt2 : k < l2.length := by have := HL.out; omega
        obtain ⟨b1, o1, rfl, _, d1, d2, d3⟩ := g1 k l1[k] (List.getElem?_eq_getElem hlt)
        obtain ⟨b2, o2, rfl, _, e1, e2, e3⟩ := g2 k l2[k] (List.getElem?_eq_getElem hlt2)
        clear g1 g2
        have HS := Lib.hid (take_succ_eq hlt hlt2 HT.out)
        have HN : Hid (l1[k] ≠ l2[k] → l1 ≠ l2) := fun h e => h (by simp only [e])
        generalize l1[k] = x at *
        generalize l2[k] = y at *
        by_cases hxy : opdEq x y = true
        · go_wp2
          go_quiet (fail)
          go_wp2
          go_roundw
          case rel => exact ⟨k + 1, n + nq, by omega, by go_num, rfl, HS.out (opdEq_iff.1 hxy)⟩
          case measure => simp [intOf]; omega
        · have hxy : opdEq x y = false := by simpa using hxy
          go_wp2
          go_quiet (fail)
          go_wp2
          go_ret
          exact ⟨ret_bool (decide_eq_false (HN.out (opdEq_no.1 hxy))).symm, _, drewN2 _ _ _⟩
      · go_wp2
        go_ret
        exact ⟨ret_bool (decide_eq_true (by have h1 := HT.out; have h2 := HL.out; rwa [List.take_of_length_le (by omega), List.take_of_length_le (by omega)] at h1)).symm, n, rfl⟩
  · go_enter Tryd.func74, Tryd.ntmps74
    go_wp2
    go_ret
    exact ⟨by simp; intro h; exact hl (by rw [h]), 0, rfl⟩
end Go.Proofs.YtkkjoghfdmmpaaaDoor

/-
  Lists of strings: the references' search, Go's search. Conditions: none.
-/
namespace Go.Proofs.YtkkjoghfdmmpaaaDoor
open Go.RowKit

def strR : Rep ByteArray := Rep.flat 1 (fun s => [.string s]) (fun _ => rfl) (fun _ u hu => by simp at hu; subst hu; rfl)
theorem SlR.str {w : World} {p : Blocks} {v : Value} {l : List ByteArray} (h : SlR strR w p v l) : ∃ a cap, v = .slice a l.length cap ∧ l.length ≤ cap ∧ cap ≤ 9223372036854775807 ∧
    ∀ i x, l[i]? = some x → ∃ b o, a = some ⟨b, o, none⟩ ∧ p b ∧ w.cell? ⟨b, o + i, none⟩ = some (.string x) := by
  obtain ⟨a, cap, e, h1, h2, h3⟩ := h
  refine ⟨a, cap, e, h1, by simpa [maxLen] using h2, fun i x hx => ?_⟩
  obtain ⟨b, o, cs, ea, hb, hbs, hc, hr⟩ := h3 i x hx
  have hr : cs = [.string x] := hr
  subst hr
  have := hc 0 _ rfl
  exact ⟨b, o, ea, hb, by simpa [strR, Rep.flat] using this⟩

/-- Is the string in the list? (a name that the walk does not open) -/
def inL (l : List ByteArray) (s : ByteArray) : Bool := l.any fun x => x.toList == s.toList
theorem toList_inj {a b : ByteArray} (h : a.toList = b.toList) : a = b := by
  rw [Go.ByteArray.toList_eq, Go.ByteArray.toList_eq] at h
  obtain ⟨⟨x⟩⟩ := a
  obtain ⟨⟨y⟩⟩ := b
  simp at h
  rw [h]
theorem inL_iff {l : List ByteArray} {s : ByteArray} : inL l s = true ↔ s ∈ l := by
  unfold inL
  rw [List.any_eq_true]
  constructor
  · rintro ⟨x, hx, he⟩
    have e : x = s := toList_inj (by simpa using he)
    exact e ▸ hx
  · intro h; exact ⟨s, h, by simp⟩
theorem inL_drop_yes {l : List ByteArray} {s : ByteArray} {k : Nat} (hk : k < l.length) (h : (l[k].toList == s.toList) = true) : inL l s = true := by
  unfold inL; rw [List.any_eq_true]; exact ⟨l[k], List.getElem_mem _, h⟩

set_option maxHeartbeats 400000 in
theorem in08_any (p : Blocks) (v : Value) (l : List ByteArray) (s : ByteArray) (w : World) (h1 : SlR strR w p v l) :
    Calls Tryd.prog 76 #[v, .string s] w fun e w' => e = .returned (.bool (inL l s)) ∧ w = w' := by
  obtain ⟨a1, c1, rfl, hc1, hm1, g1⟩ := h1.str
  clear h1
  go_enter Tryd.func76, Tryd.ntmps76
  go_wp2
  go_loop [5] (fun i => ∃ k : Nat, k ≤ l.length ∧ i = .int .i64 k ∧ inL l s = inL (l.drop k) s) (fun i => l.length - (intOf i).toNat)
  case atStart => exact ⟨0, Nat.zero_le _, rfl, rfl⟩
  case round =>
    obtain ⟨k, hk, rfl, ht⟩ := hrel
    have HT := Lib.hid ht
    clear ht
    by_cases hlt : k < l.length
    · obtain ⟨b1, o1, rfl, _, d1⟩ := g1 k l[k] (List.getElem?_eq_getElem hlt)
      clear g1
      have HD := Lib.hid (List.drop_eq_getElem_cons hlt)
      have HY : Hid ((l[k].toList == s.toList) = true → inL l s = true) := inL_drop_yes hlt
      generalize l[k] = x at *
      go_wp2
      · go_ret
        exact ⟨ret_bool (HY.out (by assumption)).symm, rfl⟩
      · go_round
        case rel => exact ⟨k + 1, by omega, by go_num, by rw [HT.out, HD.out]; simp only [inL, List.any_cons]; simp [*]⟩
        case measure => simp [intOf]; omega
    · go_wp2
      go_ret
      exact ⟨ret_bool (by rw [HT.out, List.drop_of_length_le (by omega)]; rfl), rfl⟩
end Go.Proofs.YtkkjoghfdmmpaaaDoor

/-
  Instructions in memory; the program's and the reference's comparison of them; short. Conditions: none.
-/
namespace Go.Proofs.YtkkjoghfdmmpaaaDoor
open Go.RowKit

structure Ins where
  op : ByteArray
  args : List Opd
/-- The same instruction? (a name that the walk does not open) -/
def insEq (x y : Ins) : Bool := decide (x.op = y.op ∧ x.args = y.args)
theorem insEq_iff {x y : Ins} : insEq x y = true ↔ x = y := by cases x; cases y; simp [insEq]
theorem insEq_yes {x y : Ins} (h : (x.op.toList == y.op.toList) = true) : insEq x y = decide (x.args = y.args) := by
  have := toList_inj (by simpa using h); simp [insEq, this]
theorem insEq_no {x y : Ins} (h : (x.op.toList == y.op.toList) = false) : insEq x y = false := by
  have : x.op ≠ y.op := fun e => by simp [e] at h
  simp [insEq, this]

set_option maxHeartbeats 400000 in
theorem insSame_any (p q : Blocks) (x y : Ins) (v1 v2 : Value) (w : World) (h1 : SlR opdR w p v1 x.args) (h2 : SlR opdR w q v2 y.args) :
    Calls Tryd.prog 28 #[.agg #[.string x.op, v1], .agg #[.string y.op, v2]] w fun e w' => e = .returned (.bool (insEq x y)) ∧ Below w.heap.size w w' := by
  have HB : Below w.heap.size w ((w.alloc (.cells #[.string x.op, v1] 39)).alloc (.cells #[.string y.op, v2] 39)) := ((Below.refl _ _).alloc (Nat.le_refl _) _).alloc (by simp) _
  have g1 := h1.below HB
  have g2 := h2.below HB
  have HY : Hid _ := @insEq_yes x y
  have HN : Hid _ := @insEq_no x y
  clear h1 h2
  obtain ⟨s, l⟩ := x
  obtain ⟨t, m⟩ := y
  by_cases hs : (s.toList == t.toList) = true
  · go_enter Tryd.func28, Tryd.ntmps28
    go_wp2_with (go_at_call 74; refine (EqualOpd_any _ _ _ _ _ _ _ g1 g2).mono ?_; rintro e w' ⟨rfl, n, rfl⟩)
    go_ret
    exact ⟨ret_bool (HY.out hs).symm, below_dN HB n⟩
  · have hs : (s.toList == t.toList) = false := by simpa using hs
    go_enter Tryd.func28, Tryd.ntmps28
    go_wp2
    go_ret
    exact ⟨ret_bool (HN.out hs).symm, HB⟩

theorem insEq_len {x y : Ins} (h : x.args.length ≠ y.args.length) : insEq x y = false := by
  have : x.args ≠ y.args := fun e => h (by rw [e])
  simp [insEq, this]
theorem insEq_at {x y : Ins} (k : Nat) (h1 : k < x.args.length) (h2 : k < y.args.length) (h : x.args[k] ≠ y.args[k]) : insEq x y = false := by
  have : x.args ≠ y.args := fun e => h (by simp only [e])
  simp [insEq, this]

set_option maxHeartbeats 600000 in
theorem ref07Same_any (p q : Blocks) (x y : Ins) (v1 v2 : Value) (w : World) (h1 : SlR opdR w p v1 x.args) (h2 : SlR opdR w q v2 y.args) :
    Calls Tryd.prog 32 #[.agg #[.string x.op, v1], .agg #[.string y.op, v2]] w fun e w' => e = .returned (.bool (insEq x y)) ∧ Below w.heap.size w w' := by
  have HB : Below w.heap.size w ((w.alloc (.cells #[.string x.op, v1] 39)).alloc (.cells #[.string y.op, v2] 39)) := ((Below.refl _ _).alloc (Nat.le_refl _) _).alloc (by simp) _
  obtain ⟨a1, c1, rfl, hc1, hm1, g1⟩ := (h1.below HB).opd
  obtain ⟨a2, c2, rfl, hc2, hm2, g2⟩ := (h2.below HB).opd
  have HY : Hid _ := @insEq_yes x y
  have HN : Hid _ := @insEq_no x y
  have HL : Hid _ := @insEq_len x y
  have HA : Hid _ := @insEq_at x y
  clear h1 h2
  have hop := run_neqOpd
  obtain ⟨s, l1⟩ := x
  obtain ⟨t, l2⟩ := y
  dsimp only at *
  by_cases hs : (s.toList == t.toList) = true
  · by_cases hl : l1.length = l2.length
    · have HE := Lib.hid hl
      rw [← hl] at hc2 HB g1 g2 ⊢
      clear hl
      go_enter Tryd.func32, Tryd.ntmps32
      go_wp2
      go_loopw [5] (fun i wr => ∃ k n : Nat, k ≤ l1.length ∧ i = .int .i64 k ∧ wr = ((w.alloc (.cells #[.string s, .slice a1 l1.length c1] 39)).alloc (.cells #[.string t, .slice a2 l1.length c2] 39)).drewN n ∧ l1.take k = l2.take k) (fun i _ => l1.length - (intOf i).toNat)
      case atStart => exact ⟨0, 0, Nat.zero_le _, rfl, rfl, rfl⟩
      case round =>
        obtain ⟨k, n, hk, rfl, rfl, ht⟩ := hrel
        have HT := Lib.hid ht
        clear ht
        by_cases hlt : k < l1.length
        · have hlt2 : k < l2.length := by have := HE.out; omega
          obtain ⟨b1, o1, rfl, _, d1, d2, d3⟩ := g1 k l1[k] (List.getElem?_eq_getElem hlt)
          obtain ⟨b2, o2, rfl, _, e1, e2, e3⟩ := g2 k l2[k] (List.getElem?_eq_getElem hlt2)
          clear g1 g2
          have HS := Lib.hid (take_succ_eq hlt hlt2 HT.out)
          have HN : Hid _ := HA.out k hlt hlt2
          generalize l1[k] = x at *
          generalize l2[k] = y at *
          by_cases hxy : opdEq x y = true
          · go_wp2
            go_quiet (fail)
            go_wp2
            go_roundw
            case rel => exact ⟨k + 1, n + nq, by omega, by go_num, rfl, HS.out (opdEq_iff.1 hxy)⟩
            case measure => simp [intOf]; omega
          · have hxy : opdEq x y = false := by simpa using hxy
            go_wp2
            go_quiet (fail)
            go_wp2
            go_ret
            exact ⟨ret_bool (HN.out (opdEq_no.1 hxy)).symm, below_dN (below_dN HB _) _⟩
        · go_wp2
          go_ret
          exact ⟨ret_bool (by rw [HY.out hs]; exact (decide_eq_true (by have h1 := HT.out; have h2 := HE.out; rwa [List.take_of_length_le (by omega), List.take_of_length_le (by omega)] at h1)).symm), below_dN HB _⟩
    · go_enter Tryd.func32, Tryd.ntmps32
      go_wp2
      go_ret
      exact ⟨ret_bool (HL.out hl).symm, HB⟩
  · have hs : (s.toList == t.toList) = false := by simpa using hs
    go_enter Tryd.func32, Tryd.ntmps32
    go_wp2
    go_ret
    exact ⟨ret_bool (HN.out hs).symm, HB⟩
end Go.Proofs.YtkkjoghfdmmpaaaDoor

/-
  A row of bytes of the call's own; num.Upper. Conditions: the string's size.
-/
namespace Go.Proofs.YtkkjoghfdmmpaaaDoor
open Go.RowKit

/-- Block b holds the bytes l from its first cell on; they may be written. -/
structure ByteRow (w : World) (b : Nat) (l : List UInt8) : Prop where
  cell : ∀ j x, l[j]? = some x → w.cell? ⟨b, j, none⟩ = some (.int .u8 x.toNat)
  free : ∀ j, j < l.length → w.frozen? ⟨b, j, none⟩ = false
theorem ByteRow.set {w : World} {b : Nat} {l : List UInt8} (h : ByteRow w b l) (k : Nat) (y : UInt8) : ByteRow (w.setCell ⟨b, k, none⟩ (.int .u8 y.toNat)) b (l.set k y) := by
  refine ⟨fun j x hx => ?_, fun j hj => ?_⟩
  · by_cases hjk : k = j
    · subst hjk
      have hk : k < l.length := by have := (List.getElem?_eq_some_iff.1 hx).1; simpa using this
      rw [List.getElem?_set_self hk] at hx
      obtain rfl : y = x := by simpa using hx
      exact World.cell?_setCell_same' _ _ _ (by rw [h.cell k l[k] (List.getElem?_eq_getElem hk)]; rfl)
    · rw [List.getElem?_set_ne hjk] at hx
      rw [World.cell?_setCell_other _ _ _ _ (by simp)]
      exact h.cell j x hx
  · rw [World.frozen?_setCell]
    exact h.free j (by simpa using hj)
theorem ByteRow.below {w w' : World} {b B : Nat} {l : List UInt8} (h : ByteRow w b l) (hb : Below B w w') (hB : b < B) : ByteRow w' b l :=
  ⟨fun j x hx => (hb.cell (p := ⟨b, j, none⟩) hB).trans (h.cell j x hx), fun j hj => (hb.frozen (p := ⟨b, j, none⟩) hB).trans (h.free j hj)⟩

/-- '[]byte(s)': a new row, the string's bytes. -/
theorem run_bytes (w : World) (s : ByteArray) : ∃ cap w0, (convert 9 58 (.string s)).run Tryd.prog w = .ok (.slice (some ⟨w.heap.size, 0, none⟩) s.size cap) w0 ∧
    s.size ≤ cap ∧ Below w.heap.size w w0 ∧ w0.heap.size = w.heap.size + 1 ∧ ByteRow w0 w.heap.size s.data.toList := by
  refine ⟨_, _, Lib.run_convert_string_bytes w _ _ _ s Tryd.underlying9 Tryd.underlying58 Tryd.underlying5, grownCap_ge _ _ _ _, ⟨rfl, rfl, rfl, ?_, fun k hk => Lib.bytesWorld_at_old _ _ _ _ hk⟩, Lib.bytesWorld_size _ _ _, ⟨fun j x hx => ?_, fun j hj => ?_⟩⟩
  · rw [Lib.bytesWorld_size]; omega
  · have hj := (List.getElem?_eq_some_iff.1 hx).1
    rw [Lib.bytesWorld_cell _ _ _ _ (by simpa using hj)]
    rw [List.getD_eq_getElem?_getD, hx]; rfl
  · unfold World.frozen?
    rw [show (Lib.bytesWorld w 5 s).heap[w.heap.size]? = _ from Lib.bytesWorld_at_new _ _ _]
    have : s.size ≤ (Lib.bytesCells w 5 s).size := by simp [Lib.bytesCells]
    have hj' : j < s.size := by simpa using hj
    simp
    omega
/-- 'string(b)' of such a row. -/
theorem run_string (w : World) (b cap : Nat) (l : List UInt8) (h : ByteRow w b l) : (convert 58 9 (.slice (some ⟨b, 0, none⟩) l.length cap)).run Tryd.prog w = .ok (.string ⟨l.toArray⟩) w :=
  run_convert_bytes_back w _ _ _ _ cap l Tryd.underlying58 Tryd.underlying5 Tryd.underlying9 (fun j hj => by
    have hadd : (⟨b, 0, none⟩ : Addr).add j = ⟨b, j, none⟩ := by unfold Addr.add; split <;> simp_all
    rw [hadd]
    exact h.cell j l[j] (List.getElem?_eq_getElem hj))

def up (c : UInt8) : UInt8 := if 97 ≤ c.toNat ∧ c.toNat ≤ 122 then c - 32 else c
theorem up_step {l : List UInt8} {k : Nat} {c : UInt8} (hk : k < l.length) (HT : l.take (k+1) = l.take k ++ [c]) (HD : l.drop k = c :: l.drop (k+1)) :
    ((l.take k).map up ++ l.drop k).set k (up c) = (l.take (k+1)).map up ++ l.drop (k+1) := by
  rw [HT, HD, List.set_append_right _ _ (by simp; omega)]
  simp [List.length_take, Nat.min_eq_left (Nat.le_of_lt hk)]
theorem up_keep {l : List UInt8} {k : Nat} {c : UInt8} (hc : up c = c) (HT : l.take (k+1) = l.take k ++ [c]) (HD : l.drop k = c :: l.drop (k+1)) :
    (l.take k).map up ++ l.drop k = (l.take (k+1)).map up ++ l.drop (k+1) := by
  rw [HT, HD]; simp [hc]
theorem up_yes {c : UInt8} (h1 : 97 ≤ c.toNat) (h2 : c.toNat ≤ 122) : ((up c).toNat : Int) = (c.toNat : Int) - 97 + 65 := by
  have : (up c).toNat = c.toNat - 32 := by
    unfold up
    rw [if_pos ⟨h1, h2⟩, UInt8.toNat_sub_of_le _ _ (by rw [UInt8.le_iff_toNat_le]; show 32 ≤ c.toNat; omega)]
    rfl
  omega
theorem up_no {c : UInt8} (h : ¬ (97 ≤ c.toNat ∧ c.toNat ≤ 122)) : up c = c := by unfold up; rw [if_neg h]
def upper (s : ByteArray) : ByteArray := ⟨(s.data.toList.map up).toArray⟩

set_option maxHeartbeats 600000 in
theorem Upper_any (s : ByteArray) (w : World) (hs : s.size ≤ 9223372036854775807) :
    Calls Tryd.prog 106 #[.string s] w fun e w' => e = .returned (.string (upper s)) ∧ Below w.heap.size w w' := by
  obtain ⟨cap, w0, hconv, hcap, hb, hsz, hrow⟩ := run_bytes w s
  have HSZ := Lib.hid hsz
  clear hsz
  generalize hl : s.data.toList = l at *
  have hlen : l.length = s.size := by rw [← hl]; simp
  have HL := Lib.hid hl
  have HLEN := Lib.hid hlen
  clear hl hlen
  go_enter Tryd.func106, Tryd.ntmps106
  go_wp2
  go_loopw [4, 5, 10] (fun _ _ i wr => ∃ k : Nat, k ≤ s.size ∧ i = .int .i64 k ∧ ByteRow wr w.heap.size ((l.take k).map up ++ l.drop k) ∧ Below w.heap.size w wr) (fun _ _ i _ => s.size - (intOf i).toNat)
  case atStart => exact ⟨0, Nat.zero_le _, rfl, by simpa using hrow, hb⟩
  case round =>
    clear hconv hrow hb
    obtain ⟨k, hk, rfl, hrow, hb⟩ := hrel
    by_cases hlt : k < s.size
    · have hlt' : k < l.length := by have := HLEN.out; omega
      have hc := hrow.cell k l[k] (by rw [List.getElem?_append_right (by simp; omega)]; simp [Nat.min_eq_left (Nat.le_of_lt hlt')])
      have hf := hrow.free k (by simp; omega)
      have HSET := Lib.hid (hrow.set k (up l[k]))
      have HROW := Lib.hid hrow
      have HT : Hid (l.take (k+1) = l.take k ++ [l[k]]) := List.take_succ_eq_append_getElem hlt'
      have HD : Hid (l.drop k = l[k] :: l.drop (k+1)) := List.drop_eq_getElem_cons hlt'
      clear hrow
      generalize l[k] = c at *
      have hc256 : c.toNat < 256 := c.toNat_lt
      by_cases h1 : 97 ≤ c.toNat
      · by_cases h2 : c.toNat ≤ 122
        · have HU := Lib.hid (up_yes h1 h2)
          go_wp2
          go_roundw
          case rel => exact ⟨k + 1, by omega, by go_num, by rw [← up_step hlt' HT.out HD.out, ← HU.out]; exact HSET.out, hb.setCell (p := ⟨w.heap.size, k, none⟩) (Nat.le_refl _) _⟩
          case measure => simp [intOf]; omega
        · go_wp2
          go_roundw
          case rel => exact ⟨k + 1, by omega, by go_num, by rw [← up_keep (up_no (by omega)) HT.out HD.out]; exact HROW.out, hb⟩
          case measure => simp [intOf]; omega
      · go_wp2
        go_roundw
        case rel => exact ⟨k + 1, by omega, by go_num, by rw [← up_keep (up_no (by omega)) HT.out HD.out]; exact HROW.out, hb⟩
        case measure => simp [intOf]; omega
    · have hk' : k = s.size := by omega
      have hfull : (l.take k).map up ++ l.drop k = l.map up := by
        have := HLEN.out
        rw [List.take_of_length_le (by omega), List.drop_of_length_le (by omega)]; simp
      rw [hfull] at hrow
      have hstr := run_string wr w.heap.size cap (l.map up) hrow
      rw [List.length_map, HLEN.out, ← HL.out] at hstr
      clear hfull hrow hk'
      go_wp2
      go_ret
      exact ⟨rfl, hb⟩
end Go.Proofs.YtkkjoghfdmmpaaaDoor

/-
  append onto an accumulator of the call's own, the source a slice that reads as a list (nil let in). Conditions: the new length's bytes.
-/
namespace Go.Proofs.YtkkjoghfdmmpaaaDoor
open Go.RowKit

/-- What the program's tables say of a slice type and its element type. -/
structure ElT (P : Program) (t e : TypeId) (size bytes : Nat) : Prop where
  ht : P.underlying t = some (.slice e)
  info : ∃ i z, P.info? e = some i ∧ i.zero = some z ∧ i.size = size ∧ i.bytes = bytes ∧ z.cells.size = size
  pos : 0 < size
theorem ElT.mk' {P : Program} {t e : TypeId} {z : Value} {size bytes : Nat} (ht : P.underlying t = some (.slice e)) (hi : (P.info? e).map (fun i => (i.zero, i.size, i.bytes)) = some (some z, size, bytes)) (hz : z.cells.size = size) (hp : 0 < size) : ElT P t e size bytes := by
  obtain ⟨i, h1, h2, h3, h4⟩ := info_parts hi
  exact ⟨ht, ⟨i, z, h1, h2, h3, h4, hz⟩, hp⟩

theorem Els.of_slR {α : Type} {R : Rep α} {w : World} {p : Blocks} {b o : Nat} : ∀ (xs : List α) (k : Nat), (∀ i x, xs[i]? = some x → ∃ cs, Cells w b (o + (k + i) * R.size) cs ∧ R.rel w p cs x) →
    ∃ cs, Els R w p cs xs ∧ Cells w b (o + k * R.size) cs
  | [], k, _ => ⟨[], rfl, Cells.nil _ _ _⟩
  | x :: xs, k, h => by
    obtain ⟨c1, hc1, hr1⟩ := h 0 x rfl
    obtain ⟨c2, he, hc2⟩ := Els.of_slR xs (k + 1) (fun i y hy => by
      obtain ⟨c, h1, h2⟩ := h (i + 1) y (by simpa using hy)
      exact ⟨c, by rwa [show k + (i + 1) = k + 1 + i by omega] at h1, h2⟩)
    refine ⟨c1 ++ c2, ⟨c1, c2, rfl, hr1, he⟩, Cells.append (by simpa using hc1) ?_⟩
    rw [R.len hr1]
    rwa [show (k + 1) * R.size = k * R.size + R.size by rw [Nat.add_mul]; omega, ← Nat.add_assoc] at hc2
/-- The cells behind a slice that reads as a list. -/
theorem SlR.cells {α : Type} {R : Rep α} {w : World} {p : Blocks} {a : Option Addr} {n cap : Nat} {xs : List α} (h : SlR R w p (.slice a n cap) xs) (ad : Addr) (ha : a = some ad) :
    n = xs.length ∧ ∃ cs, Els R w p cs xs ∧ ∀ j u, cs[j]? = some u → w.cell? (ad.add j) = some u := by
  obtain ⟨a', cap', e, h1, h2, h3⟩ := h
  injection e with e1 e2 e3
  subst e1 e2 e3 ha
  refine ⟨rfl, ?_⟩
  cases xs with
  | nil => exact ⟨[], rfl, fun j u hu => by simp at hu⟩
  | cons x xs =>
    obtain ⟨b, o, cs0, ea, _⟩ := h3 0 x rfl
    injection ea with ea
    subst ea
    obtain ⟨cs, he, hc⟩ := Els.of_slR (o := o) (b := b) (x :: xs) 0 (fun i y hy => by
      obtain ⟨b', o', c, ea, _, _, hc, hr⟩ := h3 i y hy
      injection ea with ea
      injection ea with e1 e2
      subst e1 e2
      exact ⟨c, by simpa using hc, hr⟩)
    refine ⟨cs, he, fun j u hu => ?_⟩
    have := hc j u hu
    have hadd : (⟨b, o, none⟩ : Addr).add j = ⟨b, o + j, none⟩ := by unfold Addr.add; split <;> simp_all
    rw [hadd]
    simpa using this

/-- The one-element slice that 'append(s, x)' lays. -/
theorem slR_one {α : Type} {R : Rep α} {w : World} {p : Blocks} {cs : List Value} {x : α} (h : R.rel w p cs x) (e : TypeId) : SlR R (w.alloc (.cells cs.toArray e)) (fun k => p k ∨ k = w.heap.size) (.slice (some ⟨w.heap.size, 0, none⟩) 1 1) [x] := by
  refine ⟨_, 1, rfl, Nat.le_refl _, by simp [maxLen], fun i y hy => ?_⟩
  cases i with
  | succ i => simp at hy
  | zero =>
    simp at hy
    subst hy
    refine ⟨w.heap.size, 0, cs, rfl, .inr rfl, by simp, fun j u hu => ?_, R.mono (fun k hk => .inl hk.1) (R.keep (Keep.alloc (fun k hk => hk.2) _) (R.old h))⟩
    simp only [Nat.zero_mul, Nat.zero_add]
    rw [World.cell?_alloc_at _ _ _ _ rfl]
    simpa using hu

section
variable {P : Program} (w : World)
theorem run_append_nothing (base : Nat) (t ty e : TypeId) (size bytes : Nat) (hE : ElT P t e size bytes) (v : Value) (n : Nat) (xs : List Value) (hown : w.ownsRow base e size v n xs) (c : Nat) :
    (Builtin.append_ #[t, t] ty #[v, .slice none 0 c]).run P w = .ok v w := by
  obtain ⟨i, z, hi, _⟩ := hE.info
  rcases hown.2 with ⟨rfl, rfl⟩ | ⟨g, cap, cur, rfl, _, _, hnc, _⟩
  · simp [Builtin.append_, run_underlying hE.ht, sizeOf, typeInfo, hi, Builtin.lenOf, Builtin.firstCells]
  · simp [Builtin.append_, run_underlying hE.ht, sizeOf, typeInfo, hi, Builtin.lenOf, Builtin.firstCells, hnc, storeCells]

/-- What an append leaves: the accumulator with the new elements; the new row lies where the elder lay, or is the new block. -/
def Appended {α : Type} (R : Rep α) (w : World) (B : Nat) (e : TypeId) (p : Blocks) (v : Value) (zs : List α) (v' : Value) (w' : World) : Prop :=
  Own R w' B e p v' zs ∧ w.grownBy w' v.ownBlock ∧ (v'.ownBlock = v.ownBlock ∨ v'.ownBlock = some w.heap.size)

theorem run_append_R {α : Type} {R : Rep α} (B : Nat) (t ty e : TypeId) (bytes : Nat) (hE : ElT P t e R.size bytes) {p q : Blocks} {v vx : Value} {xs ys : List α} (hown : Own R w B e p v xs) (hx : SlR R w q vx ys)
    (hp : ∀ k, p k → some k ≠ v.ownBlock) (hq : ∀ k, q k → some k ≠ v.ownBlock) (hbytes : (xs.length + ys.length) * bytes ≤ 140737488355328) (hlen : xs.length + ys.length ≤ 9223372036854775807) (hB : B ≤ w.heap.size) :
    ∃ v' w', (Builtin.append_ #[t, t] ty #[v, vx]).run P w = .ok v' w' ∧ Appended R w B e (fun k => p k ∨ q k) v (xs ++ ys) v' w' := by
  obtain ⟨cs, hrow, hels⟩ := hown
  have hx' := hx
  obtain ⟨a, cap, rfl, h1, h2, h3⟩ := hx'
  have keepP : ∀ {w' : World}, w.grownBy w' v.ownBlock → ∀ {r : Blocks}, (∀ k, r k → some k ≠ v.ownBlock) → Keep (fun k => r k ∧ k < w.heap.size) w w' := fun hg r hr => Keep.grown hg (fun k hk => ⟨hk.2, hr k hk.1⟩)
  cases a with
  | none =>
    obtain rfl : ys = [] := by
      cases ys with
      | nil => rfl
      | cons y ys => obtain ⟨b, o, c, ea, _⟩ := h3 0 y rfl; cases ea
    exact ⟨v, w, run_append_nothing w B t ty e R.size bytes hE v _ cs hrow cap, ⟨cs, by simpa using hrow, by simpa using hels.mono (fun k hk => .inl hk)⟩, World.grownBy.refl w _, .inl rfl⟩
  | some ad =>
    obtain ⟨_, news, hn, hcells⟩ := hx.cells ad rfl
    obtain ⟨i, z, hi, hz, hs, hb, hzs⟩ := hE.info
    obtain ⟨v', w', hrun, h4, h5, _, h6⟩ := run_append_own_at (P := P) w B t ty e i z R.size bytes hE.ht hi hz hs hb hzs hE.pos v xs.length cs hrow ad ys.length cap news hn.len hcells hn.one (by simp only [maxLen]; omega) hbytes hB
    refine ⟨v', w', hrun, ⟨cs ++ news, by simpa using h4, ?_⟩, h5, h6⟩
    refine Els.append ?_ ?_
    · exact (Els.keep (keepP h5 hq) (Els.old hn)).mono (fun k hk => .inr hk.1)
    · exact (Els.keep (keepP h5 hp) (Els.old hels)).mono (fun k hk => .inl hk.1)

theorem wp_append_R {α : Type} {R : Rep α} {o : Oper} {a : Act} {K : Act → World → Prop} {Q : Exit → Act → World → Prop} (s x : Operand) (t : TypeId)
    (ho : o.op = .call { callee := .builtin .append, args := #[s, x], argTypes := #[t, t] })
    (B : Nat) (e : TypeId) (bytes : Nat) (hE : ElT P t e R.size bytes) (p q : Blocks) (v vx : Value) (xs ys : List α) (hs : a.eval s = v) (hxe : a.eval x = vx) (hown : Own R w B e p v xs) (hx : SlR R w q vx ys)
    (hp : ∀ k, p k → some k ≠ v.ownBlock) (hq : ∀ k, q k → some k ≠ v.ownBlock) (hbytes : (xs.length + ys.length) * bytes ≤ 140737488355328) (hlen : xs.length + ys.length ≤ 9223372036854775807) (hB : B ≤ w.heap.size)
    (h : ∀ v' w', Appended R w B e (fun k => p k ∨ q k) v (xs ++ ys) v' w' → K (a.put o.dst v') w') : o.wp P a w K Q := by
  obtain ⟨v', w', hrun, h2⟩ := run_append_R (P := P) w B t o.type e bytes hE hown hx hp hq hbytes hlen hB
  unfold Oper.wp execOp
  simp only [ho, resolve, invoke, builtin, Sem.run_bind, Sem.run_pure, Result.andThen_ok, List.map_toArray, List.map_cons, List.map_nil, hs, hxe, hrun]
  exact h v' w' h2
theorem wpList_append_R {α : Type} {R : Rep α} {ops : Array Oper} {rest : List Oper} {o : Oper} {a : Act} {Q : Exit → Act → World → Prop} (hgd : o.guard = none) (s x : Operand) (t : TypeId)
    (ho : o.op = .call { callee := .builtin .append, args := #[s, x], argTypes := #[t, t] })
    (B : Nat) (e : TypeId) (bytes : Nat) (hE : ElT P t e R.size bytes) (p q : Blocks) (v vx : Value) (xs ys : List α) (hs : a.eval s = v) (hxe : a.eval x = vx) (hown : Own R w B e p v xs) (hx : SlR R w q vx ys)
    (hp : ∀ k, p k → some k ≠ v.ownBlock) (hq : ∀ k, q k → some k ≠ v.ownBlock) (hbytes : (xs.length + ys.length) * bytes ≤ 140737488355328) (hlen : xs.length + ys.length ≤ 9223372036854775807) (hB : B ≤ w.heap.size)
    (h : ∀ v' w', Appended R w B e (fun k => p k ∨ q k) v (xs ++ ys) v' w' → wpList P ops Q rest (a.put o.dst v') w') : wpList P ops Q (o :: rest) a w :=
  wpList_plain hgd fun _ hK => wp_append_R w s x t ho B e bytes hE p q v vx xs ys hs hxe hown hx hp hq hbytes hlen hB fun v' w' h2 => hK _ _ (h v' w' h2)
theorem step_append_R {α : Type} {R : Rep α} {ops : Array Oper} {o : Oper} {a : Act} {K : Act → World → Prop} {Q : Exit → Act → World → Prop} {E : Prop} (hgd : o.guard = none) (s x : Operand) (t : TypeId)
    (ho : o.op = .call { callee := .builtin .append, args := #[s, x], argTypes := #[t, t] })
    (B : Nat) (e : TypeId) (bytes : Nat) (hE : ElT P t e R.size bytes) (p q : Blocks) (v vx : Value) (xs ys : List α) (hs : a.eval s = v) (hxe : a.eval x = vx) (hown : Own R w B e p v xs) (hx : SlR R w q vx ys)
    (hp : ∀ k, p k → some k ≠ v.ownBlock) (hq : ∀ k, q k → some k ≠ v.ownBlock) (hbytes : (xs.length + ys.length) * bytes ≤ 140737488355328) (hlen : xs.length + ys.length ≤ 9223372036854775807) (hB : B ≤ w.heap.size)
    (h : ∀ v' w', Appended R w B e (fun k => p k ∨ q k) v (xs ++ ys) v' w' → K (a.put o.dst v') w') : if Region.wanted o (yielded ops a.tmps) = true then Oper.wp P o a w K Q else E := by
  have hw : Region.wanted o (yielded ops a.tmps) = true := by simp [Region.wanted, hgd]
  rw [if_pos hw]
  exact wp_append_R w s x t ho B e bytes hE p q v vx xs ys hs hxe hown hx hp hq hbytes hlen hB h
theorem wpListIn_append_R {F : Fence} {nF : Nat} {α : Type} {R : Rep α} {ops : Array Oper} {rest : List Oper} {o : Oper} {a : Act} {Q : Exit → Act → World → Prop} (hgd : o.guard = none) (s x : Operand) (t : TypeId)
    (ho : o.op = .call { callee := .builtin .append, args := #[s, x], argTypes := #[t, t] })
    (B : Nat) (e : TypeId) (bytes : Nat) (hE : ElT P t e R.size bytes) (p q : Blocks) (v vx : Value) (xs ys : List α) (hs : a.eval s = v) (hxe : a.eval x = vx) (hown : Own R w B e p v xs) (hx : SlR R w q vx ys)
    (hp : ∀ k, p k → some k ≠ v.ownBlock) (hq : ∀ k, q k → some k ≠ v.ownBlock) (hbytes : (xs.length + ys.length) * bytes ≤ 140737488355328) (hlen : xs.length + ys.length ≤ 9223372036854775807) (hB : B ≤ w.heap.size)
    (h : ∀ v' w', Appended R w B e (fun k => p k ∨ q k) v (xs ++ ys) v' w' → wpListIn F nF P ops Q rest (a.put o.dst v') w') : wpListIn F nF P ops Q (o :: rest) a w := by
  refine wpListIn_plain hgd fun K hK' => ?_
  obtain ⟨v', w', hrun, h2⟩ := run_append_R (P := P) w B t o.type e bytes hE hown hx hp hq hbytes hlen hB
  unfold Oper.wpIn
  refine ⟨?_, ?_⟩
  · simp [Oper.about, ho, resolve, Target.leads, Sem.run_pure]
  · rw [Oper.semAt_plain F _ _ (by rw [ho]; intro c hc'; cases hc')]
    simp [execOp, ho, resolve, invoke, builtin, hs, hxe, hrun, Result.andThen]
    exact hK' _ _ (h v' w' h2)
end
end Go.Proofs.YtkkjoghfdmmpaaaDoor

/-
  slices.Clone at operands; instr.Make. Conditions: at most a million operands.
-/
namespace Go.Proofs.YtkkjoghfdmmpaaaDoor
open Go.RowKit

theorem elOpd : ElT Tryd.prog 37 47 opdR.size 24 := ElT.mk' (z := .agg #[.int .i64 0, .int .i64 0, .int .i64 0]) Tryd.underlying37 (by kernel_rfl) rfl (by decide)
abbrev NoB : Blocks := fun _ => False
theorem Own.flat {α : Type} {n : Nat} {enc : α → List Value} {h : ∀ x, (enc x).length = n} {h1 : ∀ x, ∀ u ∈ enc x, u.oneCell' = true} {w : World} {B : Nat} {e : TypeId} {p : Blocks} (q : Blocks) {v : Value} {xs : List α} (ho : Own (Rep.flat n enc h h1) w B e p v xs) : Own (Rep.flat n enc h h1) w B e q v xs := by
  obtain ⟨cs, hr, he⟩ := ho
  refine ⟨cs, hr, ?_⟩
  clear hr
  induction xs generalizing cs with
  | nil => exact he
  | cons x xs ih => obtain ⟨c1, c2, e1, h2, h3⟩ := he; exact ⟨c1, c2, e1, h2, ih _ h3⟩
theorem Own.opd {w : World} {B : Nat} {e : TypeId} {p : Blocks} (q : Blocks) {v : Value} {xs : List Opd} (ho : Own opdR w B e p v xs) : Own opdR w B e q v xs := Own.flat q ho
theorem Own.made {α : Type} {R : Rep α} (w : World) (e : TypeId) (p : Blocks) : Own R (w.alloc (.cells #[] e)) w.heap.size e p (.slice (some ⟨w.heap.size, 0, none⟩) 0 0) ([] : List α) :=
  ⟨[], World.ownsRow_made w #[] 0 (Nat.le_refl _) (by simp [maxLen]) (by simp), rfl⟩

set_option maxHeartbeats 400000 in
theorem CloneOpd_any (p : Blocks) (v : Value) (l : List Opd) (w : World) (h : SlR opdR w p v l) (hn : l.length ≤ 1000000) :
    Calls Tryd.prog 70 #[v] w fun e w' => ∃ v', e = .returned v' ∧ Own opdR w' w.heap.size 47 NoB v' l ∧ Below w.heap.size w w' := by
  have HN := Lib.hid hn
  clear hn
  obtain ⟨a, c, rfl, hc, hm, g⟩ := h.opd
  have HH := Lib.hid h
  clear h
  have heq := fun wx a n c => Lib.run_eql_slice_nil (P := Tryd.prog) wx 37 47 a n c 0 0 Tryd.underlying37
  cases a with
  | none =>
    obtain rfl : l = [] := by
      cases l with
      | nil => rfl
      | cons y ys => obtain ⟨b, o, ea, _⟩ := g 0 y rfl; cases ea
    clear g
    go_enter Tryd.func70, Tryd.ntmps70
    go_wp2
    go_ret
    exact ⟨_, rfl, Own.nil _ _ _ _ _, Below.refl _ _⟩
  | some ad =>
    clear g
    go_enter Tryd.func70, Tryd.ntmps70
    have HB : Below w.heap.size w (w.alloc (.cells #[] 47)) := (Below.refl _ _).alloc (Nat.le_refl _) _
    have HX : Hid (SlR opdR (w.alloc (.cells #[] 47)) (fun k => p k ∧ k < w.heap.size) (.slice (some ad) l.length c) l) := HH.out.old.below HB
    have HO : Hid (Own opdR (w.alloc (.cells #[] 47)) w.heap.size 47 NoB (.slice (some ⟨w.heap.size, 0, none⟩) 0 0) []) := Own.made w _ _
    have C2 : Hid (∀ k, p k ∧ k < w.heap.size → some k ≠ Value.ownBlock (.slice (some ⟨w.heap.size, 0, none⟩) 0 0)) := fun k hk e => by simp [Value.ownBlock] at e; omega
    have C3 : Hid (([] : List Opd).length + l.length ≤ 1000000) := by have := HN.out; simp; omega
    go_wp2_with (at_builtin; refine wpList_append_R _ rfl (.tmp 5) (.tmp 6) 37 rfl w.heap.size 47 24 elOpd NoB _ _ _ [] l rfl rfl HO.out HX.out (fun _ h => False.elim h) C2.out (by have := C3.out; omega) (by have := C3.out; omega) HB.size ?_; intro v' w' hap; have HAP := Lib.hid hap; clear hap)
    obtain ⟨ho, hg, _⟩ := HAP.out
    go_ret
    exact ⟨_, rfl, ho.opd NoB, HB.grown hg HB.size (fun k hk => by cases hk; exact Nat.le_refl _)⟩

set_option maxHeartbeats 400000 in
theorem Make_any (p : Blocks) (s : ByteArray) (v : Value) (l : List Opd) (w : World) (h : SlR opdR w p v l) (hn : l.length ≤ 1000000) (hs : s.size ≤ 9223372036854775807) :
    Calls Tryd.prog 53 #[.string s, v] w fun e w' => ∃ v', e = .returned (.agg #[.string (upper s), v']) ∧ Own opdR w' w.heap.size 47 NoB v' l ∧ Below w.heap.size w w' := by
  have HH := Lib.hid h
  have HN := Lib.hid hn
  clear h hn
  go_enter Tryd.func53, Tryd.ntmps53
  go_wp2_with fail
  refine (Upper_any _ _ hs).mono ?_
  rintro e w1 ⟨rfl, hb1⟩
  have HB1 := Lib.hid hb1
  clear hb1
  go_wp2_with fail
  have hl : SlR opdR w1 p v l := (HH.out.alloc _).below HB1.out
  refine (CloneOpd_any p _ _ _ hl HN.out).mono ?_
  rintro e w2 ⟨v', rfl, ho, hb2⟩
  have hk : Blk w2 w.heap.size 39 #[.string ⟨#[]⟩, .slice none 0 0] := ((Blk.new w _ _).below HB1.out (by simp)).below hb2 (by have := HB1.out.size; simp at this; omega)
  obtain ⟨c0, c1, f0, f1⟩ := hk.two
  obtain ⟨a', cap', rfl⟩ := ho.form
  have HK := Lib.hid ((hk.set 0 (.string (upper s))).set 1 (.slice a' l.length cap'))
  have HO := Lib.hid ho
  have HB2 := Lib.hid hb2
  clear ho hb2 hk hl
  go_wp2
  refine bodyPost_ret (results_cell_row rfl _ _ w.heap.size 39 #[.string (upper s), .slice a' l.length cap'] (0, 0) _ rfl HK.out Tryd.underlying39 rfl (by kernel_rfl)) rfl ⟨_, rfl, ?_, ?_⟩
  · have hsz := HB1.out.size
    simp at hsz
    refine (HO.out.keep fun k hk => ?_).base (by omega)
    have hk' : w1.heap.size ≤ k := hk.elim (fun h => False.elim h) (fun h => (HO.out.lt k h).1)
    rw [Below.heap_setCell _ _ _ _ (by simp; omega), Below.heap_setCell _ _ _ _ (by simp; omega)]
  · exact (((Below.refl _ w).alloc (Nat.le_refl _) _).trans ((HB1.out.mono (by simp)).trans (HB2.out.mono (by have := HB1.out.size; simp at this; omega)))).setCell (Nat.le_refl _) _ |>.setCell (Nat.le_refl _) _
end Go.Proofs.YtkkjoghfdmmpaaaDoor

/-
  The width of an instruction: the reference's. Conditions: none.
-/
namespace Go.Proofs.YtkkjoghfdmmpaaaDoor
open Go.RowKit

/-- The strings of a literal slice. -/
theorem slR_strs (w : World) (e : TypeId) (p : Blocks) (l : List ByteArray) (b : Nat) (hb : b = w.heap.size) (hp : p b) (hl : l.length ≤ maxLen) : SlR strR (w.alloc (.cells (l.map Value.string).toArray e)) p (.slice (some ⟨b, 0, none⟩) l.length l.length) l := by
  subst hb
  refine ⟨_, l.length, rfl, Nat.le_refl _, hl, fun i x hx => ⟨_, _, [.string x], rfl, hp, by simp, fun j u hu => ?_, rfl⟩⟩
  cases j with
  | succ j => simp at hu
  | zero =>
    simp at hu
    subst hu
    rw [World.cell?_alloc_at _ _ _ _ rfl]
    simp [strR, Rep.flat, hx]

def bs (l : List UInt8) : ByteArray := ⟨l.toArray⟩
/-- BIT RES SET IM RST OUT -/
def wZero : List ByteArray := [⟨#[66, 73, 84]⟩, ⟨#[82, 69, 83]⟩, ⟨#[83, 69, 84]⟩, ⟨#[73, 77]⟩, ⟨#[82, 83, 84]⟩, ⟨#[79, 85, 84]⟩]
def head3 (l : List Opd) : Bool := match l with | a :: _ => a.kind == 3 | [] => false
def width (x : Ins) : Int :=
  if inL wZero x.op then 0 else if (x.op.toList == [74, 80]) || (x.op.toList == [67, 65, 76, 76]) || ((x.op.toList == [76, 68]) && head3 x.args) then 2 else 1

set_option maxHeartbeats 400000 in
theorem ref08Width_any (p : Blocks) (x : Ins) (v : Value) (w : World) (h : SlR opdR w p v x.args) :
    Calls Tryd.prog 30 #[.agg #[.string x.op, v]] w fun e w' => e = .returned (.int .i64 (width x)) ∧ Below w.heap.size w w' := by
  obtain ⟨s, l⟩ := x
  dsimp only at h
  obtain ⟨a, c, rfl, hc, hm, g⟩ := h.opd
  clear h
  have HF : Hid (∀ (wx : World) (b : Nat), b = wx.heap.size → SlR strR (World.alloc wx (.cells #[.string ⟨#[66, 73, 84]⟩, .string ⟨#[82, 69, 83]⟩, .string ⟨#[83, 69, 84]⟩, .string ⟨#[73, 77]⟩, .string ⟨#[82, 83, 84]⟩, .string ⟨#[79, 85, 84]⟩] 9)) (fun _ => True) (.slice (some ⟨b, 0, none⟩) 6 6) wZero) :=
    fun wx b hb => slR_strs wx 9 (fun _ => True) wZero b hb trivial (by simp [wZero, maxLen])
  have HB : ∀ A B : Obj, Below w.heap.size w ((w.alloc A).alloc B) := fun A B => ((Below.refl _ _).alloc (Nat.le_refl _) _).alloc (by simp) _
  cases hz : inL wZero s
  · cases h1 : (s.toList == [74, 80])
    · cases h2 : (s.toList == [67, 65, 76, 76])
      · cases h3 : (s.toList == [76, 68])
        · clear g
          have HV := Lib.hid (show width ⟨s, l⟩ = 1 by simp [width, hz, h1, h2, h3])
          go_enter Tryd.func30, Tryd.ntmps30
          go_wp2_with (go_at_call 76; refine (in08_any _ _ wZero _ _ (HF.out _ _ (by simp))).mono ?_; rintro e w' ⟨rfl, rfl⟩)
          go_ret
          exact ⟨ret_int HV.out.symm, HB _ _⟩
        · cases l with
          | nil =>
            clear g
            have HV := Lib.hid (show width ⟨s, []⟩ = 1 by simp [width, hz, h1, h2, h3, head3])
            go_enter Tryd.func30, Tryd.ntmps30
            go_wp2_with (go_at_call 76; refine (in08_any _ _ wZero _ _ (HF.out _ _ (by simp))).mono ?_; rintro e w' ⟨rfl, rfl⟩)
            go_ret
            exact ⟨ret_int HV.out.symm, HB _ _⟩
          | cons x l =>
            obtain ⟨b, o, rfl, _, d1, d2, d3⟩ := g 0 x rfl
            clear g
            simp only [Nat.zero_mul, Nat.add_zero] at d1
            clear d2 d3
            have hbl : b < w.heap.size := World.block_lt_of_cell? w _ d1
            have hk0 : (0 : Int) < ((x :: l).length : Int) := by simp
            have hk1 : 0 < (x :: l).length := by simp
            cases h4 : (x.kind == 3)
            · have HV := Lib.hid (show width ⟨s, x :: l⟩ = 1 by simp [width, hz, h1, h2, h3, head3, h4])
              generalize (x :: l).length = n at *
              go_enter Tryd.func30, Tryd.ntmps30
              go_wp2_with (go_at_call 76; refine (in08_any _ _ wZero _ _ (HF.out _ _ (by simp))).mono ?_; rintro e w' ⟨rfl, rfl⟩)
              go_ret
              exact ⟨ret_int HV.out.symm, HB _ _⟩
            · have HV := Lib.hid (show width ⟨s, x :: l⟩ = 2 by simp [width, hz, h1, h2, h3, head3, h4])
              generalize (x :: l).length = n at *
              go_enter Tryd.func30, Tryd.ntmps30
              go_wp2_with (go_at_call 76; refine (in08_any _ _ wZero _ _ (HF.out _ _ (by simp))).mono ?_; rintro e w' ⟨rfl, rfl⟩)
              go_ret
              exact ⟨ret_int HV.out.symm, HB _ _⟩
      · clear g
        have HV := Lib.hid (show width ⟨s, l⟩ = 2 by simp [width, hz, h1, h2])
        go_enter Tryd.func30, Tryd.ntmps30
        go_wp2_with (go_at_call 76; refine (in08_any _ _ wZero _ _ (HF.out _ _ (by simp))).mono ?_; rintro e w' ⟨rfl, rfl⟩)
        go_ret
        exact ⟨ret_int HV.out.symm, HB _ _⟩
    · clear g
      have HV := Lib.hid (show width ⟨s, l⟩ = 2 by simp [width, hz, h1])
      go_enter Tryd.func30, Tryd.ntmps30
      go_wp2_with (go_at_call 76; refine (in08_any _ _ wZero _ _ (HF.out _ _ (by simp))).mono ?_; rintro e w' ⟨rfl, rfl⟩)
      go_ret
      exact ⟨ret_int HV.out.symm, HB _ _⟩
  · clear g
    have HV := Lib.hid (show width ⟨s, l⟩ = 0 by simp [width, hz])
    go_enter Tryd.func30, Tryd.ntmps30
    go_wp2_with (go_at_call 76; refine (in08_any _ _ wZero _ _ (HF.out _ _ (by simp))).mono ?_; rintro e w' ⟨rfl, rfl⟩)
    go_ret
    exact ⟨ret_int HV.out.symm, HB _ _⟩
end Go.Proofs.YtkkjoghfdmmpaaaDoor

/-
  canon.word: is a word in a list of words? Conditions: the library's table of white space as its initialiser lays it.
-/
namespace Go.Proofs.YtkkjoghfdmmpaaaDoor
open Go.RowKit

/-- The library's table of white space. -/
def Spc (w : World) : Prop := Lib.TabIs Tryd.prog w "strings.asciiSpace" .u8 Lib.asciiSpaceTab
theorem Spc.below {w w' : World} (h : Spc w) (hb : Below w.heap.size w w') : Spc w' := by
  have hg : Tryd.prog.globalNamed "strings.asciiSpace" = some 1 := by kernel_rfl
  exact var?_below hb hg (World.block_lt_of_cell? w _ (h.cell hg 0 (by rw [Lib.asciiSpaceTab_length]; decide))) h

/-- The words of a text. -/
def fieldsOf (c : ByteArray) : List ByteArray := (Lib.fields c.data.toList).map fun l => ⟨l.toArray⟩
theorem containsS_inL (l : List ByteArray) (s : ByteArray) : Lib.containsS l s = inL l s := by
  rw [Bool.eq_iff_iff, Lib.containsS_iff, inL_iff]

set_option maxHeartbeats 400000 in
theorem word_any (c : ByteArray) (L : List ByteArray) (s : ByteArray) (w : World) (hL : fieldsOf c = L) (hn : L.length ≤ 1000) (hs : c.size < 4294967281) (ha : ∀ (j : Nat) b, c.data.toList[j]? = some b → b.toNat < 128) (hT : Spc w) :
    Calls Tryd.prog 75 #[.string c, .string s] w fun e w' => e = .returned (.bool (inL L s)) ∧ Below w.heap.size w w' := by
  have hf := Tryd.strings_Fields c w hs ha hT
  have hlen : (Lib.fields c.data.toList).length = L.length := by rw [← hL]; simp [fieldsOf]
  have hcells : ((Lib.fields c.data.toList).map fun l => Value.string ⟨l.toArray⟩) = L.map Value.string := by rw [← hL]; simp [fieldsOf]
  rw [hlen, hcells] at hf
  have HF := Lib.hid hf
  have HC : Hid (∀ j, j < L.length → (w.alloc (.cells (L.map Value.string).toArray 9)).cell? ⟨w.heap.size, 0 + j, none⟩ = some (.string (L.getD j ByteArray.empty))) := fun j hj => by
    rw [World.cell?_alloc_at _ _ _ _ rfl]
    simp [hj]
  have HT : Hid (L.length ≤ 9223372036854775807) := Lib.hid (by omega)
  clear hf hlen hcells hL hs ha hT hn
  go_enter Tryd.func75, Tryd.ntmps75
  go_wp2_with fail
  refine HF.out.mono ?_
  rintro e w1 ⟨rfl, rfl⟩
  go_wp2_with fail
  refine (Tryd.slices_Contains_string _ 0 _ _ L s _ (Nat.le_refl _) HT.out HC.out).mono ?_
  rintro e w1 ⟨rfl, rfl⟩
  go_wp2
  go_ret
  exact ⟨ret_bool (containsS_inL _ _), (Below.refl _ _).alloc (Nat.le_refl _) _⟩
end Go.Proofs.YtkkjoghfdmmpaaaDoor
