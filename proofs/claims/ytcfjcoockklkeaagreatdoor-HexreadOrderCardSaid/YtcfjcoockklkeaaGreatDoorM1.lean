/-
  Texts merged: G1 Img0 Img1 Img2 Img3 Img4 Img5 Img6 Img7 
-/
import Derived.WalkKit
import Derived.Lib.QuietBelow
import Derived.BigRegion
import Derived.Deep.RegionHeld3
import Derived.Deep.DeepCutAuto
import Derived.Laws.CopyOwn
import Derived.Laws.EntriesVeiled
import Derived.Lib.Strings
import Derived.WalkSpells
import Derived.WalkLawsBesides
import Derived.Lib.Hide
import Derived.Maps.AppendAt
import Derived.Test.YtcfjcoockklkeaaGreatDoorChecked
import Derived.Deep.QuietTactic
import Derived.BigQuiet
import Derived.Laws.StructEq
import Derived.Lib.ConvBytes
import Derived.OwnWalkIn
import Derived.Deep.RegionLaw
import Derived.Laws.BitsAllLaws
import Derived.Shelf.Spec.TrailingZeros
import Derived.Laws.ShiftsVarLaws
import Derived.Laws.IdiomCopy
import Derived.Shelf.Spec.SlicesInsert
/-
  Go's data in memory, append, rows of bytes, strings and numbers. Conditions: sizes.
-/
/-
  The representation of Go's data in memory: cells, slices of structs (nested ones too), what keeps a reading, an accumulator of the call's own. Conditions: none.
-/
namespace Go.Proofs.YtcfjcoockklkeaaGreatDoor
open Go.RowKit

theorem ret_bool {a b : Bool} (h : a = b) : Ending.returned (.bool a) = .returned (.bool b) := by rw [h]
theorem ret_int {k : IntKind} {a b : Int} (h : a = b) : Ending.returned (.int k a) = .returned (.int k b) := by rw [h]
theorem ret_str {a b : ByteArray} (h : a = b) : Ending.returned (.string a) = .returned (.string b) := by rw [h]
theorem drewN2 (w : World) (a b : Nat) : (w.drewN a).drewN b = w.drewN (a + b) := World.drewN_drewN w a b
theorem drew_drewN (w : World) (a : Nat) : (w.drewN a).drew = w.drewN (a + 1) := World.drewN_drewN w a 1

theorem below_dN {B : Nat} {a w : World} (h : Below B a w) (n : Nat) : Below B a (w.drewN n) := ⟨h.os, h.tape, h.output, h.size, h.block⟩

/-- The cells of a stretch. -/
def Cells (w : World) (b o : Nat) (vs : List Value) : Prop := ∀ j v, vs[j]? = some v → w.cell? ⟨b, o + j, none⟩ = some v

/-- Block g is just the cells cs of element type t, none frozen. -/
def Blk (w : World) (g : Nat) (t : TypeId) (cs : Array Value) : Prop := w.heap[g]? = some (.cells cs t (0, 0))
theorem Blk.lt {w : World} {g : Nat} {t : TypeId} {cs : Array Value} (h : Blk w g t cs) : g < w.heap.size := (Array.getElem?_eq_some_iff.1 h).1
theorem Blk.cell {w : World} {g : Nat} {t : TypeId} {cs : Array Value} (h : Blk w g t cs) (i : Nat) : w.cell? ⟨g, i, none⟩ = cs[i]? := cell_of_row w g i cs t (0, 0) h
theorem Blk.free {w : World} {g : Nat} {t : TypeId} {cs : Array Value} (h : Blk w g t cs) (i : Nat) : w.frozen? ⟨g, i, none⟩ = false := frozen_of_row w g i cs t h
theorem Blk.new (w : World) (t : TypeId) (cs : Array Value) : Blk (w.alloc (.cells cs t)) w.heap.size t cs := heap_alloc_new w _
theorem Blk.alloc {w : World} {g : Nat} {t : TypeId} {cs : Array Value} (h : Blk w g t cs) (o : Obj) : Blk (w.alloc o) g t cs := (Below.heap_alloc w o g h.lt).trans h
theorem Blk.below {w w' : World} {g : Nat} {t : TypeId} {cs : Array Value} {B : Nat} (h : Blk w g t cs) (hb : Below B w w') (hg : g < B) : Blk w' g t cs := (hb.block g hg).trans h
theorem Blk.grown {w w' : World} {g : Nat} {t : TypeId} {cs : Array Value} {row : Option Nat} (h : Blk w g t cs) (hb : w.grownBy w' row) (hg : some g ≠ row) : Blk w' g t cs := (hb.block g h.lt hg).trans h
theorem Blk.set {w : World} {g : Nat} {t : TypeId} {cs : Array Value} (h : Blk w g t cs) (i : Nat) (u : Value) : Blk (w.setCell ⟨g, i, none⟩ u) g t (cs.setIfInBounds i u) := by
  unfold Blk at h ⊢
  simp [World.setCell, Array.getElem?_modify, h]
theorem Blk.far {w : World} {g : Nat} {t : TypeId} {cs : Array Value} (h : Blk w g t cs) {p : Addr} (hp : g ≠ p.block) (u : Value) : Blk (w.setCell p u) g t cs := (Below.heap_setCell w p u g hp).trans h
theorem Blk.one {w : World} {g : Nat} {t : TypeId} {x : Value} (h : Blk w g t #[x]) : w.cell? ⟨g, 0, none⟩ = some x ∧ w.frozen? ⟨g, 0, none⟩ = false := ⟨h.cell 0, h.free 0⟩
theorem Blk.two {w : World} {g : Nat} {t : TypeId} {x y : Value} (h : Blk w g t #[x, y]) : w.cell? ⟨g, 0, none⟩ = some x ∧ w.cell? ⟨g, 1, none⟩ = some y ∧ w.frozen? ⟨g, 0, none⟩ = false ∧ w.frozen? ⟨g, 1, none⟩ = false :=
  ⟨h.cell 0, h.cell 1, h.free 0, h.free 1⟩
theorem Blk.three {w : World} {g : Nat} {t : TypeId} {x y z : Value} (h : Blk w g t #[x, y, z]) : w.cell? ⟨g, 0, none⟩ = some x ∧ w.cell? ⟨g, 1, none⟩ = some y ∧ w.cell? ⟨g, 2, none⟩ = some z ∧ w.frozen? ⟨g, 0, none⟩ = false ∧ w.frozen? ⟨g, 1, none⟩ = false ∧ w.frozen? ⟨g, 2, none⟩ = false :=
  ⟨h.cell 0, h.cell 1, h.cell 2, h.free 0, h.free 1, h.free 2⟩

abbrev Blocks := Nat → Prop
/-- All blocks of p read as they did. -/
def Keep (p : Blocks) (w w' : World) : Prop := ∀ k, p k → w'.heap[k]? = w.heap[k]?
theorem Keep.refl (p : Blocks) (w : World) : Keep p w w := fun _ _ => rfl
theorem Keep.trans {p : Blocks} {a b c : World} (h : Keep p a b) (k : Keep p b c) : Keep p a c := fun i hi => (k i hi).trans (h i hi)
theorem Keep.mono {p q : Blocks} {a b : World} (h : Keep q a b) (hp : ∀ k, p k → q k) : Keep p a b := fun i hi => h i (hp i hi)
theorem Keep.of_below {B : Nat} {p : Blocks} {w w' : World} (h : Below B w w') (hp : ∀ k, p k → k < B) : Keep p w w' := fun k hk => h.block k (hp k hk)
theorem Keep.alloc {p : Blocks} {w : World} (hp : ∀ k, p k → k < w.heap.size) (o : Obj) : Keep p w (w.alloc o) := fun k hk => Below.heap_alloc _ _ _ (hp k hk)
theorem Keep.grown {p : Blocks} {w w' : World} {row : Option Nat} (h : w.grownBy w' row) (hp : ∀ k, p k → k < w.heap.size ∧ some k ≠ row) : Keep p w w' := fun k hk => h.block k (hp k hk).1 (hp k hk).2
theorem Keep.setCell {p : Blocks} {w : World} {a : Addr} (hp : ∀ k, p k → k ≠ a.block) (u : Value) : Keep p w (w.setCell a u) := fun k hk => Below.heap_setCell _ _ _ _ (hp k hk)
theorem Keep.drew {p : Blocks} (w : World) : Keep p w w.drew := fun _ _ => rfl

theorem Cells.keep {w w' : World} {b o : Nat} {vs : List Value} (h : Cells w b o vs) (hk : w'.heap[b]? = w.heap[b]?) : Cells w' b o vs :=
  fun j v hv => (World.cell?_of_block (w := w) hk).trans (h j v hv)
theorem Cells.nil (w : World) (b o : Nat) : Cells w b o [] := fun j v h => by simp at h
theorem Cells.append {w : World} {b o : Nat} {xs ys : List Value} (h1 : Cells w b o xs) (h2 : Cells w b (o + xs.length) ys) : Cells w b o (xs ++ ys) := by
  intro j v hv
  by_cases hj : j < xs.length
  · rw [List.getElem?_append_left hj] at hv; exact h1 j v hv
  · rw [List.getElem?_append_right (by omega)] at hv
    have := h2 _ v hv
    rwa [show o + xs.length + (j - xs.length) = o + j by omega] at this
theorem Cells.left {w : World} {b o : Nat} {xs ys : List Value} (h : Cells w b o (xs ++ ys)) : Cells w b o xs := fun j v hv =>
  h j v (by rw [List.getElem?_append_left (List.getElem?_eq_some_iff.1 hv).1]; exact hv)
theorem Cells.right {w : World} {b o : Nat} {xs ys : List Value} (h : Cells w b o (xs ++ ys)) : Cells w b (o + xs.length) ys := fun j v hv => by
  have := h (xs.length + j) v (by rw [List.getElem?_append_right (by omega)]; simpa using hv)
  rwa [← Nat.add_assoc] at this
theorem Cells.one {w : World} {b o : Nat} {v : Value} (h : w.cell? ⟨b, o, none⟩ = some v) : Cells w b o [v] := fun j u hu => by
  cases j with
  | zero => simp at hu; subst hu; exact h
  | succ j => simp at hu
theorem Cells.get {w : World} {b o : Nat} {vs : List Value} (h : Cells w b o vs) (j : Nat) {v : Value} (hv : vs[j]? = some v) : w.cell? ⟨b, o + j, none⟩ = some v := h j v hv
theorem Cells.head {w : World} {b o : Nat} {v : Value} {vs : List Value} (h : Cells w b o (v :: vs)) : w.cell? ⟨b, o, none⟩ = some v := h 0 v rfl

/-- How a Go type's values lie in cells: how many cells; what cells read as x, all blocks that the reading meets being of p. -/
structure Rep (α : Type) where
  size : Nat
  rel : World → Blocks → List Value → α → Prop
  len : ∀ {w p cs x}, rel w p cs x → cs.length = size
  keep : ∀ {w w' p cs x}, Keep p w w' → rel w p cs x → rel w' p cs x
  mono : ∀ {w p q cs x}, (∀ k, p k → q k) → rel w p cs x → rel w q cs x
  old : ∀ {w p cs x}, rel w p cs x → rel w (fun k => p k ∧ k < w.heap.size) cs x
  one : ∀ {w p cs x}, rel w p cs x → ∀ u ∈ cs, u.oneCell' = true

/-- No cell is a pointer: the cells are a function of x. -/
def Rep.flat {α : Type} (n : Nat) (enc : α → List Value) (h : ∀ x, (enc x).length = n) (h1 : ∀ x, ∀ u ∈ enc x, u.oneCell' = true) : Rep α where
  size := n
  rel := fun _ _ cs x => cs = enc x
  len := fun e => by subst e; exact h _
  keep := fun _ e => e
  mono := fun _ e => e
  old := fun e => e
  one := fun e => by subst e; exact h1 _

/-- A slice value that reads as xs. -/
def SlR {α : Type} (R : Rep α) (w : World) (p : Blocks) (v : Value) (xs : List α) : Prop :=
  ∃ a cap, v = .slice a xs.length cap ∧ xs.length ≤ cap ∧ cap ≤ maxLen ∧
    ∀ i x, xs[i]? = some x → ∃ b o cs, a = some ⟨b, o, none⟩ ∧ p b ∧ b < w.heap.size ∧ Cells w b (o + i * R.size) cs ∧ R.rel w p cs x

theorem heap_lt {w w' : World} {k : Nat} (h : k < w.heap.size) (e : w'.heap[k]? = w.heap[k]?) : k < w'.heap.size := by
  rw [Array.getElem?_eq_getElem h] at e
  exact (Array.getElem?_eq_some_iff.1 e).1
theorem SlR.keep {α : Type} {R : Rep α} {w w' : World} {p : Blocks} {v : Value} {xs : List α} (h : SlR R w p v xs) (hk : Keep p w w') : SlR R w' p v xs := by
  obtain ⟨a, cap, e, h1, h2, h3⟩ := h
  refine ⟨a, cap, e, h1, h2, fun i x hx => ?_⟩
  obtain ⟨b, o, cs, ea, hb, hbs, hc, hr⟩ := h3 i x hx
  exact ⟨b, o, cs, ea, hb, heap_lt hbs (hk b hb), hc.keep (hk b hb), R.keep hk hr⟩
theorem SlR.mono {α : Type} {R : Rep α} {w : World} {p q : Blocks} {v : Value} {xs : List α} (h : SlR R w p v xs) (hp : ∀ k, p k → q k) : SlR R w q v xs := by
  obtain ⟨a, cap, e, h1, h2, h3⟩ := h
  refine ⟨a, cap, e, h1, h2, fun i x hx => ?_⟩
  obtain ⟨b, o, cs, ea, hb, hbs, hc, hr⟩ := h3 i x hx
  exact ⟨b, o, cs, ea, hp _ hb, hbs, hc, R.mono hp hr⟩
theorem SlR.old {α : Type} {R : Rep α} {w : World} {p : Blocks} {v : Value} {xs : List α} (h : SlR R w p v xs) : SlR R w (fun k => p k ∧ k < w.heap.size) v xs := by
  obtain ⟨a, cap, e, h1, h2, h3⟩ := h
  refine ⟨a, cap, e, h1, h2, fun i x hx => ?_⟩
  obtain ⟨b, o, cs, ea, hb, hbs, hc, hr⟩ := h3 i x hx
  exact ⟨b, o, cs, ea, ⟨hb, hbs⟩, hbs, hc, R.old hr⟩
/-- A reading stands in a world in which all that there was lies unturned. -/
theorem SlR.below {α : Type} {R : Rep α} {w w' : World} {p : Blocks} {v : Value} {xs : List α} (h : SlR R w p v xs) (hb : Below w.heap.size w w') : SlR R w' p v xs :=
  (h.old.keep (Keep.of_below hb fun _ hk => hk.2)).mono fun _ hk => hk.1
theorem SlR.alloc {α : Type} {R : Rep α} {w : World} {p : Blocks} {v : Value} {xs : List α} (h : SlR R w p v xs) (o : Obj) : SlR R (w.alloc o) p v xs :=
  h.below ((Below.refl _ _).alloc (Nat.le_refl _) o)
theorem SlR.drewN {α : Type} {R : Rep α} {w : World} {p : Blocks} {v : Value} {xs : List α} (h : SlR R w p v xs) (n : Nat) : SlR R (w.drewN n) p v xs := h.keep fun _ _ => rfl
theorem SlR.drew {α : Type} {R : Rep α} {w : World} {p : Blocks} {v : Value} {xs : List α} (h : SlR R w p v xs) : SlR R w.drew p v xs := h.keep fun _ _ => rfl
theorem SlR.nil {α : Type} (R : Rep α) (w : World) (p : Blocks) : SlR R w p (.slice none 0 0) [] := ⟨none, 0, rfl, Nat.le_refl _, Nat.zero_le _, fun i x h => by simp at h⟩
theorem SlR.len_le {α : Type} {R : Rep α} {w : World} {p : Blocks} {v : Value} {xs : List α} (h : SlR R w p v xs) : xs.length ≤ 9223372036854775807 := by
  obtain ⟨a, cap, e, h1, h2, h3⟩ := h
  simp only [maxLen] at h2
  omega
/-- A slice as a field or an element. -/
def Rep.slice {α : Type} (R : Rep α) : Rep (List α) where
  size := 1
  rel := fun w p cs xs => ∃ v, cs = [v] ∧ SlR R w p v xs
  len := fun ⟨_, e, _⟩ => by subst e; rfl
  keep := fun hk ⟨v, e, h⟩ => ⟨v, e, h.keep hk⟩
  mono := fun hp ⟨v, e, h⟩ => ⟨v, e, h.mono hp⟩
  old := fun ⟨v, e, h⟩ => ⟨v, e, h.old⟩
  one := fun ⟨v, e, a, cap, hv, _⟩ u hu => by subst e; subst hv; simp at hu; subst hu; rfl
/-- Two parts, one behind the other. -/
def Rep.pair {α β : Type} (R : Rep α) (S : Rep β) : Rep (α × β) where
  size := R.size + S.size
  rel := fun w p cs x => ∃ c1 c2, cs = c1 ++ c2 ∧ R.rel w p c1 x.1 ∧ S.rel w p c2 x.2
  len := fun ⟨c1, c2, e, h1, h2⟩ => by subst e; rw [List.length_append, R.len h1, S.len h2]
  keep := fun hk ⟨c1, c2, e, h1, h2⟩ => ⟨c1, c2, e, R.keep hk h1, S.keep hk h2⟩
  mono := fun hp ⟨c1, c2, e, h1, h2⟩ => ⟨c1, c2, e, R.mono hp h1, S.mono hp h2⟩
  old := fun ⟨c1, c2, e, h1, h2⟩ => ⟨c1, c2, e, R.old h1, S.old h2⟩
  one := fun ⟨c1, c2, e, h1, h2⟩ u hu => by
    subst e
    rcases List.mem_append.1 hu with h | h
    · exact R.one h1 u h
    · exact S.one h2 u h
/-- Seen through a function. -/
def Rep.via {α β : Type} (R : Rep α) (f : β → α) : Rep β where
  size := R.size
  rel := fun w p cs x => R.rel w p cs (f x)
  len := R.len
  keep := R.keep
  mono := R.mono
  old := R.old
  one := R.one

/-- Cells that read as a list's elements, one behind the other. -/
def Els {α : Type} (R : Rep α) (w : World) (p : Blocks) : List Value → List α → Prop
  | cs, [] => cs = []
  | cs, x :: xs => ∃ c1 c2, cs = c1 ++ c2 ∧ R.rel w p c1 x ∧ Els R w p c2 xs
theorem Els.keep {α : Type} {R : Rep α} {w w' : World} {p : Blocks} (hk : Keep p w w') : ∀ {xs : List α} {cs : List Value}, Els R w p cs xs → Els R w' p cs xs
  | [], _, h => h
  | _ :: _, _, ⟨c1, c2, e, h1, h2⟩ => ⟨c1, c2, e, R.keep hk h1, Els.keep hk h2⟩
theorem Els.mono {α : Type} {R : Rep α} {w : World} {p q : Blocks} (hp : ∀ k, p k → q k) : ∀ {xs : List α} {cs : List Value}, Els R w p cs xs → Els R w q cs xs
  | [], _, h => h
  | _ :: _, _, ⟨c1, c2, e, h1, h2⟩ => ⟨c1, c2, e, R.mono hp h1, Els.mono hp h2⟩
theorem Els.snoc {α : Type} {R : Rep α} {w : World} {p : Blocks} {x : α} {c : List Value} (hc : R.rel w p c x) : ∀ {xs : List α} {cs : List Value}, Els R w p cs xs → Els R w p (cs ++ c) (xs ++ [x])
  | [], _, h => ⟨c, [], by simp only [Els] at h; subst h; simp, hc, rfl⟩
  | _ :: _, _, ⟨c1, c2, e, h1, h2⟩ => ⟨c1, c2 ++ c, by rw [e, List.append_assoc], h1, Els.snoc hc h2⟩
theorem Els.append {α : Type} {R : Rep α} {w : World} {p : Blocks} {ys : List α} {ds : List Value} (hd : Els R w p ds ys) : ∀ {xs : List α} {cs : List Value}, Els R w p cs xs → Els R w p (cs ++ ds) (xs ++ ys)
  | [], _, h => by simp only [Els] at h; subst h; simpa using hd
  | _ :: _, _, ⟨c1, c2, e, h1, h2⟩ => ⟨c1, c2 ++ ds, by rw [e, List.append_assoc], h1, Els.append hd h2⟩
theorem Els.len {α : Type} {R : Rep α} {w : World} {p : Blocks} : ∀ {xs : List α} {cs : List Value}, Els R w p cs xs → cs.length = xs.length * R.size
  | [], _, h => by simp only [Els] at h; subst h; simp
  | _ :: _, _, ⟨c1, c2, e, h1, h2⟩ => by subst e; rw [List.length_append, R.len h1, Els.len h2, List.length_cons, Nat.add_mul]; omega
theorem Els.old {α : Type} {R : Rep α} {w : World} {p : Blocks} : ∀ {xs : List α} {cs : List Value}, Els R w p cs xs → Els R w (fun k => p k ∧ k < w.heap.size) cs xs
  | [], _, h => h
  | _ :: _, _, ⟨c1, c2, e, h1, h2⟩ => ⟨c1, c2, e, R.old h1, Els.old h2⟩
theorem Els.one {α : Type} {R : Rep α} {w : World} {p : Blocks} : ∀ {xs : List α} {cs : List Value}, Els R w p cs xs → ∀ u ∈ cs, u.oneCell' = true
  | [], _, h, u, hu => by simp only [Els] at h; subst h; simp at hu
  | _ :: _, _, ⟨c1, c2, e, h1, h2⟩, u, hu => by
    subst e
    rcases List.mem_append.1 hu with h | h
    · exact R.one h1 u h
    · exact Els.one h2 u h
theorem Els.get {α : Type} {R : Rep α} {w : World} {p : Blocks} {b o : Nat} : ∀ {xs : List α} {cs : List Value}, Els R w p cs xs → Cells w b o cs → ∀ i x, xs[i]? = some x → ∃ c, Cells w b (o + i * R.size) c ∧ R.rel w p c x
  | [], _, _, _, i, x, hx => by simp at hx
  | y :: ys, _, ⟨c1, c2, e, h1, h2⟩, hc, i, x, hx => by
    subst e
    cases i with
    | zero => simp at hx; subst hx; exact ⟨c1, by simpa using hc.left, h1⟩
    | succ i =>
      have hr := hc.right
      rw [R.len h1] at hr
      obtain ⟨c, hcc, hrel⟩ := Els.get h2 hr i x (by simpa using hx)
      refine ⟨c, ?_, hrel⟩
      rwa [show o + R.size + i * R.size = o + (i + 1) * R.size by rw [Nat.add_mul]; omega] at hcc

/-- An accumulator of the call's own, from block B on: its row, and what the row's cells read as. -/
def Own {α : Type} (R : Rep α) (w : World) (B : Nat) (e : TypeId) (p : Blocks) (v : Value) (xs : List α) : Prop :=
  ∃ cs, w.ownsRow B e R.size v xs.length cs ∧ Els R w p cs xs
theorem Own.nil {α : Type} (R : Rep α) (w : World) (B : Nat) (e : TypeId) (p : Blocks) : Own R w B e p (.slice none 0 0) ([] : List α) := ⟨[], World.ownsRow_nil _ _ _ _, rfl⟩
theorem Own.keep {α : Type} {R : Rep α} {w w' : World} {B : Nat} {e : TypeId} {p : Blocks} {v : Value} {xs : List α} (h : Own R w B e p v xs) (hk : Keep (fun k => p k ∨ v.ownBlock = some k) w w') : Own R w' B e p v xs := by
  obtain ⟨cs, hrow, hels⟩ := h
  refine ⟨cs, ⟨hrow.1, ?_⟩, hels.keep (hk.mono fun k hp => .inl hp)⟩
  rcases hrow.2 with hn | ⟨g, cap, cur, rfl, hb, hg, rest⟩
  · exact .inl hn
  · exact .inr ⟨g, cap, cur, rfl, hb, (hk g (.inr rfl)).trans hg, rest⟩
theorem Own.base {α : Type} {R : Rep α} {w : World} {B B' : Nat} {e : TypeId} {p : Blocks} {v : Value} {xs : List α} (h : Own R w B e p v xs) (hB : B' ≤ B) : Own R w B' e p v xs := by
  obtain ⟨cs, hrow, hels⟩ := h
  refine ⟨cs, ⟨hrow.1, ?_⟩, hels⟩
  rcases hrow.2 with hn | ⟨g, cap, cur, rfl, hb, rest⟩
  · exact .inl hn
  · exact .inr ⟨g, cap, cur, rfl, Nat.le_trans hB hb, rest⟩
theorem Own.lt {α : Type} {R : Rep α} {w : World} {B : Nat} {e : TypeId} {p : Blocks} {v : Value} {xs : List α} (h : Own R w B e p v xs) : ∀ k, v.ownBlock = some k → B ≤ k ∧ k < w.heap.size := by
  obtain ⟨cs, hrow, _⟩ := h
  exact hrow.lt
theorem Own.mono {α : Type} {R : Rep α} {w : World} {B : Nat} {e : TypeId} {p q : Blocks} {v : Value} {xs : List α} (h : Own R w B e p v xs) (hp : ∀ k, p k → q k) : Own R w B e q v xs := by
  obtain ⟨cs, hrow, hels⟩ := h
  exact ⟨cs, hrow, hels.mono hp⟩
theorem Own.form {α : Type} {R : Rep α} {w : World} {B : Nat} {e : TypeId} {p : Blocks} {v : Value} {xs : List α} (h : Own R w B e p v xs) : ∃ a cap, v = .slice a xs.length cap := by
  obtain ⟨cs, hrow, hels⟩ := h
  rcases hrow.2 with ⟨rfl, hn⟩ | ⟨g, cap, cur, rfl, _⟩
  · exact ⟨none, 0, by rw [hn]⟩
  · exact ⟨_, cap, rfl⟩
theorem Own.slR {α : Type} {R : Rep α} {w : World} {B : Nat} {e : TypeId} {p q : Blocks} {v : Value} {xs : List α} (h : Own R w B e p v xs) (hq : ∀ k, p k → q k) (hB : ∀ k, B ≤ k → q k) : SlR R w q v xs := by
  obtain ⟨cs, hrow, hels⟩ := h
  rcases hrow.2 with ⟨rfl, hn⟩ | ⟨g, cap, cur, rfl, hb, hg, hnc, hcm, hcs, htake⟩
  · obtain rfl : xs = [] := List.eq_nil_of_length_eq_zero hn
    exact SlR.nil _ _ _
  · have hcells : Cells w g 0 cs := fun j u hu => by
      have := hrow.cells (g := g) rfl j u hu
      have hadd : (⟨g, 0, none⟩ : Addr).add j = ⟨g, 0 + j, none⟩ := by unfold Addr.add; split <;> simp_all
      rwa [hadd] at this
    refine ⟨_, cap, rfl, hnc, hcm, fun i x hx => ?_⟩
    obtain ⟨c, hc, hr⟩ := hels.get hcells i x hx
    exact ⟨g, 0, c, rfl, hB _ hb, (Array.getElem?_eq_some_iff.1 hg).1, hc, R.mono hq hr⟩

/-- Block b holds the bytes l from its first cell on; they may be written. -/
structure ByteRow (w : World) (b : Nat) (l : List UInt8) : Prop where
  cell : ∀ j x, l[j]? = some x → w.cell? ⟨b, j, none⟩ = some (.int .u8 x.toNat)
  free : ∀ j, j < l.length → w.frozen? ⟨b, j, none⟩ = false
theorem ByteRow.set {w : World} {b : Nat} {l : List UInt8} (h : ByteRow w b l) (k : Nat) (y : UInt8) : ByteRow (w.setCell ⟨b, k, none⟩ (.int .u8 y.toNat)) b (l.set k y) := by
  refine ⟨fun j x hx => ?_, fun j hj => ?_⟩
  · by_cases hjk : k = j
    · subst hjk
      have hk : k < l.length := by have := (List.getElem?_eq_some_iff.1 hx).1; simpa using this
      rw [List.getElem?_set_self hk] at hx
      obtain rfl : y = x := by simpa using hx
      exact World.cell?_setCell_same' _ _ _ (by rw [h.cell k l[k] (List.getElem?_eq_getElem hk)]; rfl)
    · rw [List.getElem?_set_ne hjk] at hx
      rw [World.cell?_setCell_other _ _ _ _ (by simp)]
      exact h.cell j x hx
  · rw [World.frozen?_setCell]
    exact h.free j (by simpa using hj)
theorem ByteRow.below {w w' : World} {b B : Nat} {l : List UInt8} (h : ByteRow w b l) (hb : Below B w w') (hB : b < B) : ByteRow w' b l :=
  ⟨fun j x hx => (hb.cell (p := ⟨b, j, none⟩) hB).trans (h.cell j x hx), fun j hj => (hb.frozen (p := ⟨b, j, none⟩) hB).trans (h.free j hj)⟩

/-- '[]byte(s)': a new row, the string's bytes. -/
theorem run_bytes (w : World) (s : ByteArray) : ∃ cap w0, (convert 9 55 (.string s)).run Tryz.prog w = .ok (.slice (some ⟨w.heap.size, 0, none⟩) s.size cap) w0 ∧
    s.size ≤ cap ∧ Below w.heap.size w w0 ∧ w0.heap.size = w.heap.size + 1 ∧ ByteRow w0 w.heap.size s.data.toList := by
  refine ⟨_, _, Lib.run_convert_string_bytes w _ _ _ s Tryz.underlying9 Tryz.underlying55 Tryz.underlying5, grownCap_ge _ _ _ _, ⟨rfl, rfl, rfl, ?_, fun k hk => Lib.bytesWorld_at_old _ _ _ _ hk⟩, Lib.bytesWorld_size _ _ _, ⟨fun j x hx => ?_, fun j hj => ?_⟩⟩
  · rw [Lib.bytesWorld_size]; omega
  · have hj := (List.getElem?_eq_some_iff.1 hx).1
    rw [Lib.bytesWorld_cell _ _ _ _ (by simpa using hj)]
    rw [List.getD_eq_getElem?_getD, hx]; rfl
  · unfold World.frozen?
    rw [show (Lib.bytesWorld w 5 s).heap[w.heap.size]? = _ from Lib.bytesWorld_at_new _ _ _]
    have : s.size ≤ (Lib.bytesCells w 5 s).size := by simp [Lib.bytesCells]
    have hj' : j < s.size := by simpa using hj
    simp
    omega
/-- 'string(b)' of such a row. -/
theorem run_string (w : World) (b cap : Nat) (l : List UInt8) (h : ByteRow w b l) : (convert 55 9 (.slice (some ⟨b, 0, none⟩) l.length cap)).run Tryz.prog w = .ok (.string ⟨l.toArray⟩) w :=
  run_convert_bytes_back w _ _ _ _ cap l Tryz.underlying55 Tryz.underlying5 Tryz.underlying9 (fun j hj => by
    have hadd : (⟨b, 0, none⟩ : Addr).add j = ⟨b, j, none⟩ := by unfold Addr.add; split <;> simp_all
    rw [hadd]
    exact h.cell j l[j] (List.getElem?_eq_getElem hj))

/-- What the program's tables say of a slice type and its element type. -/
structure ElT (P : Program) (t e : TypeId) (size bytes : Nat) : Prop where
  ht : P.underlying t = some (.slice e)
  info : ∃ i z, P.info? e = some i ∧ i.zero = some z ∧ i.size = size ∧ i.bytes = bytes ∧ z.cells.size = size
  pos : 0 < size
theorem ElT.mk' {P : Program} {t e : TypeId} {z : Value} {size bytes : Nat} (ht : P.underlying t = some (.slice e)) (hi : (P.info? e).map (fun i => (i.zero, i.size, i.bytes)) = some (some z, size, bytes)) (hz : z.cells.size = size) (hp : 0 < size) : ElT P t e size bytes := by
  obtain ⟨i, h1, h2, h3, h4⟩ := info_parts hi
  exact ⟨ht, ⟨i, z, h1, h2, h3, h4, hz⟩, hp⟩

theorem Els.of_slR {α : Type} {R : Rep α} {w : World} {p : Blocks} {b o : Nat} : ∀ (xs : List α) (k : Nat), (∀ i x, xs[i]? = some x → ∃ cs, Cells w b (o + (k + i) * R.size) cs ∧ R.rel w p cs x) →
    ∃ cs, Els R w p cs xs ∧ Cells w b (o + k * R.size) cs
  | [], k, _ => ⟨[], rfl, Cells.nil _ _ _⟩
  | x :: xs, k, h => by
    obtain ⟨c1, hc1, hr1⟩ := h 0 x rfl
    obtain ⟨c2, he, hc2⟩ := Els.of_slR xs (k + 1) (fun i y hy => by
      obtain ⟨c, h1, h2⟩ := h (i + 1) y (by simpa using hy)
      exact ⟨c, by rwa [show k + (i + 1) = k + 1 + i by omega] at h1, h2⟩)
    refine ⟨c1 ++ c2, ⟨c1, c2, rfl, hr1, he⟩, Cells.append (by simpa using hc1) ?_⟩
    rw [R.len hr1]
    rwa [show (k + 1) * R.size = k * R.size + R.size by rw [Nat.add_mul]; omega, ← Nat.add_assoc] at hc2
/-- The cells behind a slice that reads as a list. -/
theorem SlR.cells {α : Type} {R : Rep α} {w : World} {p : Blocks} {a : Option Addr} {n cap : Nat} {xs : List α} (h : SlR R w p (.slice a n cap) xs) (ad : Addr) (ha : a = some ad) :
    n = xs.length ∧ ∃ cs, Els R w p cs xs ∧ ∀ j u, cs[j]? = some u → w.cell? (ad.add j) = some u := by
  obtain ⟨a', cap', e, h1, h2, h3⟩ := h
  injection e with e1 e2 e3
  subst e1 e2 e3 ha
  refine ⟨rfl, ?_⟩
  cases xs with
  | nil => exact ⟨[], rfl, fun j u hu => by simp at hu⟩
  | cons x xs =>
    obtain ⟨b, o, cs0, ea, _⟩ := h3 0 x rfl
    injection ea with ea
    subst ea
    obtain ⟨cs, he, hc⟩ := Els.of_slR (o := o) (b := b) (x :: xs) 0 (fun i y hy => by
      obtain ⟨b', o', c, ea, _, _, hc, hr⟩ := h3 i y hy
      injection ea with ea
      injection ea with e1 e2
      subst e1 e2
      exact ⟨c, by simpa using hc, hr⟩)
    refine ⟨cs, he, fun j u hu => ?_⟩
    have := hc j u hu
    have hadd : (⟨b, o, none⟩ : Addr).add j = ⟨b, o + j, none⟩ := by unfold Addr.add; split <;> simp_all
    rw [hadd]
    simpa using this

/-- The one-element slice that 'append(s, x)' lays. -/
theorem slR_one {α : Type} {R : Rep α} {w : World} {p : Blocks} {cs : List Value} {x : α} (h : R.rel w p cs x) (e : TypeId) : SlR R (w.alloc (.cells cs.toArray e)) (fun k => p k ∨ k = w.heap.size) (.slice (some ⟨w.heap.size, 0, none⟩) 1 1) [x] := by
  refine ⟨_, 1, rfl, Nat.le_refl _, by simp [maxLen], fun i y hy => ?_⟩
  cases i with
  | succ i => simp at hy
  | zero =>
    simp at hy
    subst hy
    refine ⟨w.heap.size, 0, cs, rfl, .inr rfl, by simp, fun j u hu => ?_, R.mono (fun k hk => .inl hk.1) (R.keep (Keep.alloc (fun k hk => hk.2) _) (R.old h))⟩
    simp only [Nat.zero_mul, Nat.zero_add]
    rw [World.cell?_alloc_at _ _ _ _ rfl]
    simpa using hu

section
variable {P : Program} (w : World)
theorem run_append_nothing (base : Nat) (t ty e : TypeId) (size bytes : Nat) (hE : ElT P t e size bytes) (v : Value) (n : Nat) (xs : List Value) (hown : w.ownsRow base e size v n xs) (c : Nat) :
    (Builtin.append_ #[t, t] ty #[v, .slice none 0 c]).run P w = .ok v w := by
  obtain ⟨i, z, hi, _⟩ := hE.info
  rcases hown.2 with ⟨rfl, rfl⟩ | ⟨g, cap, cur, rfl, _, _, hnc, _⟩
  · simp [Builtin.append_, run_underlying hE.ht, sizeOf, typeInfo, hi, Builtin.lenOf, Builtin.firstCells]
  · simp [Builtin.append_, run_underlying hE.ht, sizeOf, typeInfo, hi, Builtin.lenOf, Builtin.firstCells, hnc, storeCells]

/-- What an append leaves: the accumulator with the new elements; the new row lies where the elder lay, or is the new block. -/
def Appended {α : Type} (R : Rep α) (w : World) (B : Nat) (e : TypeId) (p : Blocks) (v : Value) (zs : List α) (v' : Value) (w' : World) : Prop :=
  Own R w' B e p v' zs ∧ w.grownBy w' v.ownBlock ∧ (v'.ownBlock = v.ownBlock ∨ v'.ownBlock = some w.heap.size)

theorem run_append_R {α : Type} {R : Rep α} (B : Nat) (t ty e : TypeId) (bytes : Nat) (hE : ElT P t e R.size bytes) {p q : Blocks} {v vx : Value} {xs ys : List α} (hown : Own R w B e p v xs) (hx : SlR R w q vx ys)
    (hp : ∀ k, p k → some k ≠ v.ownBlock) (hq : ∀ k, q k → some k ≠ v.ownBlock) (hbytes : (xs.length + ys.length) * bytes ≤ 140737488355328) (hlen : xs.length + ys.length ≤ 9223372036854775807) (hB : B ≤ w.heap.size) :
    ∃ v' w', (Builtin.append_ #[t, t] ty #[v, vx]).run P w = .ok v' w' ∧ Appended R w B e (fun k => p k ∨ q k) v (xs ++ ys) v' w' := by
  obtain ⟨cs, hrow, hels⟩ := hown
  have hx' := hx
  obtain ⟨a, cap, rfl, h1, h2, h3⟩ := hx'
  have keepP : ∀ {w' : World}, w.grownBy w' v.ownBlock → ∀ {r : Blocks}, (∀ k, r k → some k ≠ v.ownBlock) → Keep (fun k => r k ∧ k < w.heap.size) w w' := fun hg r hr => Keep.grown hg (fun k hk => ⟨hk.2, hr k hk.1⟩)
  cases a with
  | none =>
    obtain rfl : ys = [] := by
      cases ys with
      | nil => rfl
      | cons y ys => obtain ⟨b, o, c, ea, _⟩ := h3 0 y rfl; cases ea
    exact ⟨v, w, run_append_nothing w B t ty e R.size bytes hE v _ cs hrow cap, ⟨cs, by simpa using hrow, by simpa using hels.mono (fun k hk => .inl hk)⟩, World.grownBy.refl w _, .inl rfl⟩
  | some ad =>
    obtain ⟨_, news, hn, hcells⟩ := hx.cells ad rfl
    obtain ⟨i, z, hi, hz, hs, hb, hzs⟩ := hE.info
    obtain ⟨v', w', hrun, h4, h5, _, h6⟩ := run_append_own_at (P := P) w B t ty e i z R.size bytes hE.ht hi hz hs hb hzs hE.pos v xs.length cs hrow ad ys.length cap news hn.len hcells hn.one (by simp only [maxLen]; omega) hbytes hB
    refine ⟨v', w', hrun, ⟨cs ++ news, by simpa using h4, ?_⟩, h5, h6⟩
    refine Els.append ?_ ?_
    · exact (Els.keep (keepP h5 hq) (Els.old hn)).mono (fun k hk => .inr hk.1)
    · exact (Els.keep (keepP h5 hp) (Els.old hels)).mono (fun k hk => .inl hk.1)

theorem wp_append_R {α : Type} {R : Rep α} {o : Oper} {a : Act} {K : Act → World → Prop} {Q : Exit → Act → World → Prop} (s x : Operand) (t : TypeId)
    (ho : o.op = .call { callee := .builtin .append, args := #[s, x], argTypes := #[t, t] })
    (B : Nat) (e : TypeId) (bytes : Nat) (hE : ElT P t e R.size bytes) (p q : Blocks) (v vx : Value) (xs ys : List α) (hs : a.eval s = v) (hxe : a.eval x = vx) (hown : Own R w B e p v xs) (hx : SlR R w q vx ys)
    (hp : ∀ k, p k → some k ≠ v.ownBlock) (hq : ∀ k, q k → some k ≠ v.ownBlock) (hbytes : (xs.length + ys.length) * bytes ≤ 140737488355328) (hlen : xs.length + ys.length ≤ 9223372036854775807) (hB : B ≤ w.heap.size)
    (h : ∀ v' w', Appended R w B e (fun k => p k ∨ q k) v (xs ++ ys) v' w' → K (a.put o.dst v') w') : o.wp P a w K Q := by
  obtain ⟨v', w', hrun, h2⟩ := run_append_R (P := P) w B t o.type e bytes hE hown hx hp hq hbytes hlen hB
  unfold Oper.wp execOp
  simp only [ho, resolve, invoke, builtin, Sem.run_bind, Sem.run_pure, Result.andThen_ok, List.map_toArray, List.map_cons, List.map_nil, hs, hxe, hrun]
  exact h v' w' h2
theorem wpList_append_R {α : Type} {R : Rep α} {ops : Array Oper} {rest : List Oper} {o : Oper} {a : Act} {Q : Exit → Act → World → Prop} (hgd : o.guard = none) (s x : Operand) (t : TypeId)
    (ho : o.op = .call { callee := .builtin .append, args := #[s, x], argTypes := #[t, t] })
    (B : Nat) (e : TypeId) (bytes : Nat) (hE : ElT P t e R.size bytes) (p q : Blocks) (v vx : Value) (xs ys : List α) (hs : a.eval s = v) (hxe : a.eval x = vx) (hown : Own R w B e p v xs) (hx : SlR R w q vx ys)
    (hp : ∀ k, p k → some k ≠ v.ownBlock) (hq : ∀ k, q k → some k ≠ v.ownBlock) (hbytes : (xs.length + ys.length) * bytes ≤ 140737488355328) (hlen : xs.length + ys.length ≤ 9223372036854775807) (hB : B ≤ w.heap.size)
    (h : ∀ v' w', Appended R w B e (fun k => p k ∨ q k) v (xs ++ ys) v' w' → wpList P ops Q rest (a.put o.dst v') w') : wpList P ops Q (o :: rest) a w :=
  wpList_plain hgd fun _ hK => wp_append_R w s x t ho B e bytes hE p q v vx xs ys hs hxe hown hx hp hq hbytes hlen hB fun v' w' h2 => hK _ _ (h v' w' h2)
theorem step_append_R {α : Type} {R : Rep α} {ops : Array Oper} {o : Oper} {a : Act} {K : Act → World → Prop} {Q : Exit → Act → World → Prop} {E : Prop} (hgd : o.guard = none) (s x : Operand) (t : TypeId)
    (ho : o.op = .call { callee := .builtin .append, args := #[s, x], argTypes := #[t, t] })
    (B : Nat) (e : TypeId) (bytes : Nat) (hE : ElT P t e R.size bytes) (p q : Blocks) (v vx : Value) (xs ys : List α) (hs : a.eval s = v) (hxe : a.eval x = vx) (hown : Own R w B e p v xs) (hx : SlR R w q vx ys)
    (hp : ∀ k, p k → some k ≠ v.ownBlock) (hq : ∀ k, q k → some k ≠ v.ownBlock) (hbytes : (xs.length + ys.length) * bytes ≤ 140737488355328) (hlen : xs.length + ys.length ≤ 9223372036854775807) (hB : B ≤ w.heap.size)
    (h : ∀ v' w', Appended R w B e (fun k => p k ∨ q k) v (xs ++ ys) v' w' → K (a.put o.dst v') w') : if Region.wanted o (yielded ops a.tmps) = true then Oper.wp P o a w K Q else E := by
  have hw : Region.wanted o (yielded ops a.tmps) = true := by simp [Region.wanted, hgd]
  rw [if_pos hw]
  exact wp_append_R w s x t ho B e bytes hE p q v vx xs ys hs hxe hown hx hp hq hbytes hlen hB h
theorem wpListIn_append_R {F : Fence} {nF : Nat} {α : Type} {R : Rep α} {ops : Array Oper} {rest : List Oper} {o : Oper} {a : Act} {Q : Exit → Act → World → Prop} (hgd : o.guard = none) (s x : Operand) (t : TypeId)
    (ho : o.op = .call { callee := .builtin .append, args := #[s, x], argTypes := #[t, t] })
    (B : Nat) (e : TypeId) (bytes : Nat) (hE : ElT P t e R.size bytes) (p q : Blocks) (v vx : Value) (xs ys : List α) (hs : a.eval s = v) (hxe : a.eval x = vx) (hown : Own R w B e p v xs) (hx : SlR R w q vx ys)
    (hp : ∀ k, p k → some k ≠ v.ownBlock) (hq : ∀ k, q k → some k ≠ v.ownBlock) (hbytes : (xs.length + ys.length) * bytes ≤ 140737488355328) (hlen : xs.length + ys.length ≤ 9223372036854775807) (hB : B ≤ w.heap.size)
    (h : ∀ v' w', Appended R w B e (fun k => p k ∨ q k) v (xs ++ ys) v' w' → wpListIn F nF P ops Q rest (a.put o.dst v') w') : wpListIn F nF P ops Q (o :: rest) a w := by
  refine wpListIn_plain hgd fun K hK' => ?_
  obtain ⟨v', w', hrun, h2⟩ := run_append_R (P := P) w B t o.type e bytes hE hown hx hp hq hbytes hlen hB
  unfold Oper.wpIn
  refine ⟨?_, ?_⟩
  · simp [Oper.about, ho, resolve, Target.leads, Sem.run_pure]
  · rw [Oper.semAt_plain F _ _ (by rw [ho]; intro c hc'; cases hc')]
    simp [execOp, ho, resolve, invoke, builtin, hs, hxe, hrun, Result.andThen]
    exact hK' _ _ (h v' w' h2)
end

abbrev NoB : Blocks := fun _ => False
theorem Own.flat {α : Type} {n : Nat} {enc : α → List Value} {h : ∀ x, (enc x).length = n} {h1 : ∀ x, ∀ u ∈ enc x, u.oneCell' = true} {w : World} {B : Nat} {e : TypeId} {p : Blocks} (q : Blocks) {v : Value} {xs : List α} (ho : Own (Rep.flat n enc h h1) w B e p v xs) : Own (Rep.flat n enc h h1) w B e q v xs := by
  obtain ⟨cs, hr, he⟩ := ho
  refine ⟨cs, hr, ?_⟩
  clear hr
  induction xs generalizing cs with
  | nil => exact he
  | cons x xs ih => obtain ⟨c1, c2, e1, h2, h3⟩ := he; exact ⟨c1, c2, e1, h2, ih _ h3⟩
theorem Own.made {α : Type} {R : Rep α} (w : World) (e : TypeId) (p : Blocks) : Own R (w.alloc (.cells #[] e)) w.heap.size e p (.slice (some ⟨w.heap.size, 0, none⟩) 0 0) ([] : List α) :=
  ⟨[], World.ownsRow_made w #[] 0 (Nat.le_refl _) (by simp [maxLen]) (by simp), rfl⟩
def strR : Rep ByteArray := Rep.flat 1 (fun s => [.string s]) (fun _ => rfl) (fun _ u hu => by simp at hu; subst hu; rfl)
theorem SlR.str {w : World} {p : Blocks} {v : Value} {l : List ByteArray} (h : SlR strR w p v l) : ∃ a cap, v = .slice a l.length cap ∧ l.length ≤ cap ∧ cap ≤ 9223372036854775807 ∧
    ∀ i x, l[i]? = some x → ∃ b o, a = some ⟨b, o, none⟩ ∧ p b ∧ w.cell? ⟨b, o + i, none⟩ = some (.string x) := by
  obtain ⟨a, cap, e, h1, h2, h3⟩ := h
  refine ⟨a, cap, e, h1, by simpa [maxLen] using h2, fun i x hx => ?_⟩
  obtain ⟨b, o, cs, ea, hb, hbs, hc, hr⟩ := h3 i x hx
  have hr : cs = [.string x] := hr
  subst hr
  have := hc 0 _ rfl
  exact ⟨b, o, ea, hb, by simpa [strR, Rep.flat] using this⟩
theorem toList_inj {a b : ByteArray} (h : a.toList = b.toList) : a = b := by
  rw [Go.ByteArray.toList_eq, Go.ByteArray.toList_eq] at h
  obtain ⟨⟨x⟩⟩ := a
  obtain ⟨⟨y⟩⟩ := b
  simp at h
  rw [h]
/-- The strings of a literal slice. -/
theorem slR_strs (w : World) (e : TypeId) (p : Blocks) (l : List ByteArray) (b : Nat) (hb : b = w.heap.size) (hp : p b) (hl : l.length ≤ maxLen) : SlR strR (w.alloc (.cells (l.map Value.string).toArray e)) p (.slice (some ⟨b, 0, none⟩) l.length l.length) l := by
  subst hb
  refine ⟨_, l.length, rfl, Nat.le_refl _, hl, fun i x hx => ⟨_, _, [.string x], rfl, hp, by simp, fun j u hu => ?_, rfl⟩⟩
  cases j with
  | succ j => simp at hu
  | zero =>
    simp at hu
    subst hu
    rw [World.cell?_alloc_at _ _ _ _ rfl]
    simp [strR, Rep.flat, hx]
def bs (l : List UInt8) : ByteArray := ⟨l.toArray⟩
def intR : Rep Int := Rep.flat 1 (fun n => [.int .i64 n]) (fun _ => rfl) (fun _ u hu => by simp at hu; subst hu; rfl)
theorem elInt : ElT Tryz.prog 185 3 intR.size 8 := ElT.mk' (z := .int .i64 0) Tryz.underlying185 (by kernel_rfl) rfl (by decide)
theorem SlR.int {w : World} {p : Blocks} {v : Value} {l : List Int} (h : SlR intR w p v l) : ∃ a cap, v = .slice a l.length cap ∧ l.length ≤ cap ∧ cap ≤ 9223372036854775807 ∧
    ∀ i x, l[i]? = some x → ∃ b o, a = some ⟨b, o, none⟩ ∧ p b ∧ w.cell? ⟨b, o + i, none⟩ = some (.int .i64 x) := by
  obtain ⟨a, cap, e, h1, h2, h3⟩ := h
  refine ⟨a, cap, e, h1, by simpa [maxLen] using h2, fun i x hx => ?_⟩
  obtain ⟨b, o, cs, ea, hb, hbs, hc, hr⟩ := h3 i x hx
  have hr : cs = [.int .i64 x] := hr
  subst hr
  have := hc 0 _ rfl
  rw [show intR.size = 1 from rfl, Nat.mul_one, Nat.add_zero] at this
  exact ⟨b, o, ea, hb, this⟩

theorem grown_step {w0 w1 w2 : World} {row : Option Nat} (h1 : w0.grownBy w1 row) (h2 : w1.grownBy w2 row) : w0.grownBy w2 row :=
  ⟨h2.1.trans h1.1, h2.2.trans h1.2, h2.3.trans h1.3, Nat.le_trans h1.4 h2.4, fun k hk hne => (h2.5 k (Nat.lt_of_lt_of_le hk h1.4) hne).trans (h1.5 k hk hne)⟩

section
variable {P : Program} {α : Type} {n : Nat} {enc : α → List Value} {h0 : ∀ x, (enc x).length = n} {h1 : ∀ x, ∀ u ∈ enc x, u.oneCell' = true}
/-- What one more element leaves. -/
def Pushed (R : Rep α) (w : World) (B : Nat) (e : TypeId) (row : Option Nat) (zs : List α) (v' : Value) (w' : World) : Prop := Own R w' B e NoB v' zs ∧ w.grownBy w' row
theorem Own.pushed {w : World} {B bytes : Nat} {t ty e : TypeId} {v : Value} {xs : List α} {x : α} (hE : ElT P t e n bytes) (h : Own (Rep.flat n enc h0 h1) w B e NoB v xs) (cs : Array Value) (hcs : cs = (enc x).toArray)
    (hbytes : (xs.length + 1) * bytes ≤ 140737488355328) (hlen : xs.length + 1 ≤ 9223372036854775807) (hB : B ≤ w.heap.size) :
    ∃ a c w', (Builtin.append_ #[t, t] ty #[v, .slice (some ⟨w.heap.size, 0, none⟩) 1 1]).run P (w.alloc (.cells cs e)) = .ok (.slice a (xs.length + 1) c) w' ∧ Pushed (Rep.flat n enc h0 h1) w B e v.ownBlock (xs ++ [x]) (.slice a (xs.length + 1) c) w' := by
  subst hcs
  have hlt := h.lt
  obtain ⟨v', w', hrun, ho, hg, _⟩ := run_append_R (P := P) (R := Rep.flat n enc h0 h1) (w := w.alloc (.cells (enc x).toArray e)) B t ty e bytes hE (p := NoB) (q := fun k => NoB k ∨ k = w.heap.size) (v := v)
    (vx := .slice (some ⟨w.heap.size, 0, none⟩) 1 1) (xs := xs) (ys := [x]) (h.keep (Keep.of_below ((Below.refl _ _).alloc (Nat.le_refl _) _) (fun k hk => by rcases hk with hk | hk; exact hk.elim; exact (hlt k hk).2))) (slR_one (R := Rep.flat n enc h0 h1) (p := NoB) rfl _) (fun _ hk => hk.elim)
    (fun k hk e => by
      rcases hk with hk | rfl
      · exact hk.elim
      · exact absurd (hlt _ e.symm).2 (Nat.lt_irrefl _)) (by simpa using hbytes) (by simpa using hlen) (by simp; omega)
  obtain ⟨a, c, rfl⟩ := ho.form
  have ho' := ho.flat NoB
  rw [List.length_append, List.length_singleton] at hrun ho'
  exact ⟨a, c, w', hrun, ho', grown_step (World.grownBy_alloc w _ _) hg⟩
theorem wp_push {o : Oper} {a : Act} {w : World} {K : Act → World → Prop} {Q : Exit → Act → World → Prop} (s x : Operand) (t : TypeId)
    (ho : o.op = .call { callee := .builtin .append, args := #[s, x], argTypes := #[t, t] })
    (B : Nat) (e : TypeId) (bytes : Nat) (hE : ElT P t e n bytes) (v : Value) (xs : List α) (y : α) (cs : Array Value) (hs : a.eval s = v) (hxe : a.eval x = .slice (some ⟨w.heap.size, 0, none⟩) 1 1) (hown : Own (Rep.flat n enc h0 h1) w B e NoB v xs)
    (hcs : cs = (enc y).toArray) (hbytes : (xs.length + 1) * bytes ≤ 140737488355328) (hlen : xs.length + 1 ≤ 9223372036854775807) (hB : B ≤ w.heap.size)
    (h : ∀ a' c' w', Pushed (Rep.flat n enc h0 h1) w B e v.ownBlock (xs ++ [y]) (.slice a' (xs.length + 1) c') w' → K (a.put o.dst (.slice a' (xs.length + 1) c')) w') : o.wp P a (w.alloc (.cells cs e)) K Q := by
  obtain ⟨a', c', w', hrun, h2⟩ := hown.pushed (P := P) (ty := o.type) hE cs hcs hbytes hlen hB
  unfold Oper.wp execOp
  simp only [ho, resolve, invoke, builtin, Sem.run_bind, Sem.run_pure, Result.andThen_ok, List.map_toArray, List.map_cons, List.map_nil, hs, hxe, hrun]
  exact h a' c' w' h2
theorem wpList_push {ops : Array Oper} {rest : List Oper} {o : Oper} {a : Act} {w : World} {Q : Exit → Act → World → Prop} (hgd : o.guard = none) (s x : Operand) (t : TypeId)
    (ho : o.op = .call { callee := .builtin .append, args := #[s, x], argTypes := #[t, t] })
    (B : Nat) (e : TypeId) (bytes : Nat) (hE : ElT P t e n bytes) (v : Value) (xs : List α) (y : α) (cs : Array Value) (hs : a.eval s = v) (hxe : a.eval x = .slice (some ⟨w.heap.size, 0, none⟩) 1 1) (hown : Own (Rep.flat n enc h0 h1) w B e NoB v xs)
    (hcs : cs = (enc y).toArray) (hbytes : (xs.length + 1) * bytes ≤ 140737488355328) (hlen : xs.length + 1 ≤ 9223372036854775807) (hB : B ≤ w.heap.size)
    (h : ∀ a' c' w', Pushed (Rep.flat n enc h0 h1) w B e v.ownBlock (xs ++ [y]) (.slice a' (xs.length + 1) c') w' → wpList P ops Q rest (a.put o.dst (.slice a' (xs.length + 1) c')) w') : wpList P ops Q (o :: rest) a (w.alloc (.cells cs e)) :=
  wpList_plain hgd fun _ hK => wp_push s x t ho B e bytes hE v xs y cs hs hxe hown hcs hbytes hlen hB fun a' c' w' h2 => hK _ _ (h a' c' w' h2)
end

/-- A row just laid out of a literal. -/
theorem Own.lit {α : Type} {n : Nat} {enc : α → List Value} {h0 : ∀ x, (enc x).length = n} {h1 : ∀ x, ∀ u ∈ enc x, u.oneCell' = true} (w : World) (e : TypeId) (l : List α) (cs : Array Value) (m : Nat) (hm : m = l.length) (hcs : cs.toList = l.flatMap enc) (hl : l.length ≤ 1000000) :
    Own (Rep.flat n enc h0 h1) (w.alloc (.cells cs e)) w.heap.size e NoB (.slice (some ⟨w.heap.size, 0, none⟩) m m) l := by
  subst hm
  have hels : ∀ (l : List α) (p : Blocks) (w : World), Els (Rep.flat n enc h0 h1) w p (l.flatMap enc) l := by
    intro l p w
    induction l with
    | nil => rfl
    | cons x l ih => exact ⟨enc x, l.flatMap enc, rfl, rfl, ih⟩
  have hlen : cs.size = l.length * n := by
    have := (hels l (fun _ => True) w).len
    rw [← hcs] at this
    simpa [Rep.flat] using this
  exact ⟨cs.toList, ⟨by simpa [Rep.flat] using hlen, .inr ⟨w.heap.size, l.length, cs, rfl, Nat.le_refl _, heap_alloc_new w _, Nat.le_refl _, by unfold maxLen; omega, hlen, List.take_of_length_le (by show cs.toList.length ≤ l.length * n; rw [← hlen, Array.length_toList]; exact Nat.le_refl _)⟩⟩, by rw [hcs]; exact hels l _ _⟩
theorem slR_lit {α : Type} {n : Nat} {enc : α → List Value} {h0 : ∀ x, (enc x).length = n} {h1 : ∀ x, ∀ u ∈ enc x, u.oneCell' = true} (w : World) (e : TypeId) (q : Blocks) (l : List α) (cs : Array Value) (m : Nat) (hm : m = l.length) (hcs : cs.toList = l.flatMap enc) (hl : l.length ≤ 1000000) (hq : ∀ k, w.heap.size ≤ k → q k) :
    SlR (Rep.flat n enc h0 h1) (w.alloc (.cells cs e)) q (.slice (some ⟨w.heap.size, 0, none⟩) m m) l := (Own.lit w e l cs m hm hcs hl).slR (fun _ h => h.elim) hq

def byteR : Rep UInt8 := Rep.flat 1 (fun b => [.int .u8 b.toNat]) (fun _ => rfl) (fun _ u hu => by simp at hu; subst hu; rfl)
theorem elByte : ElT Tryz.prog 55 5 byteR.size 1 := ElT.mk' (z := .int .u8 0) Tryz.underlying55 (by kernel_rfl) rfl (by decide)
/-- 'string(b)' of a slice of bytes. -/
theorem run_string_sl (w : World) (p : Blocks) (v : Value) (l : List UInt8) (h : SlR byteR w p v l) : (convert 55 9 v).run Tryz.prog w = .ok (.string ⟨l.toArray⟩) w := by
  obtain ⟨a, c, rfl, hc, hm, g⟩ := h
  cases l with
  | nil =>
    have hx := run_convert_bytes_string (P := Tryz.prog) w 55 9 5 a 0 c Tryz.underlying55 Tryz.underlying5 Tryz.underlying9
    show (convert _ _ (.slice a 0 c)).run _ w = _
    rw [hx]
    cases a <;> (simp [Conv.bytesToString, loadCells, loadCellsFrom]; rfl)
  | cons x xs =>
    obtain ⟨b, o, cs, rfl, _, _, _⟩ := g 0 x rfl
    exact run_convert_bytes_back w _ _ _ _ c (x :: xs) Tryz.underlying55 Tryz.underlying5 Tryz.underlying9 (fun j hj => by
      obtain ⟨b', o', cs', e, _, _, hcs, hr⟩ := g j (x :: xs)[j] (List.getElem?_eq_getElem hj)
      injection e with e
      injection e with e1 e2
      subst e1 e2
      have hr : cs' = [.int .u8 ((x :: xs)[j].toNat : Int)] := hr
      subst hr
      have := hcs 0 _ rfl
      have hadd : (⟨b, o, none⟩ : Addr).add j = ⟨b, o + j, none⟩ := by unfold Addr.add; split <;> simp_all
      rw [hadd]
      simpa [byteR, Rep.flat] using this)
end Go.Proofs.YtcfjcoockklkeaaGreatDoor

/-
  PLAIN: sets of addresses as words of 64 bits. Conditions: none.
-/
namespace Go.Proofs.YtcfjcoockklkeaaGreatDoor

theorem tb1 (j : Nat) : Nat.testBit 1 j = decide (j = 0) := by
  cases j with
  | zero => rfl
  | succ n => rw [Nat.testBit_succ]; simp
/-- the bits of d from base on, n of them -/
def bitsTo (d : Nat → Bool) (base : Nat) : Nat → Nat
  | 0 => 0
  | n + 1 => bitsTo d base n ||| (if d (base + n) then 1 <<< n else 0)
theorem bitsTo_lt (d : Nat → Bool) (base : Nat) : ∀ n, bitsTo d base n < 2 ^ n
  | 0 => by simp [bitsTo]
  | n + 1 => by
    have h := bitsTo_lt d base n
    refine Nat.or_lt_two_pow (Nat.lt_trans h (Nat.pow_lt_pow_right (by omega) (by omega))) ?_
    split
    · rw [Nat.shiftLeft_eq, Nat.one_mul]; exact Nat.pow_lt_pow_right (by omega) (by omega)
    · exact Nat.two_pow_pos _
theorem bitsTo_bit (d : Nat → Bool) (base j : Nat) : ∀ n, (bitsTo d base n).testBit j = (decide (j < n) && d (base + j))
  | 0 => by simp [bitsTo]
  | n + 1 => by
    rw [bitsTo, Nat.testBit_or, bitsTo_bit d base j n]
    by_cases hj : j = n
    · subst hj
      cases h : d (base + j) <;> simp [Nat.testBit_shiftLeft]
    · have h0 : (if d (base + n) = true then 1 <<< n else 0).testBit j = false := by
        split
        · rw [Nat.testBit_shiftLeft]
          by_cases hjn : n ≤ j
          · have : 1 ≤ j - n := by omega
            simp [tb1, show j - n ≠ 0 by omega]
          · simp [hjn]
        · simp
      rw [h0, Bool.or_false]
      congr 1
      simp; omega
/-- word i of the set d -/
def wordOf (d : Nat → Bool) (i : Nat) : Nat := bitsTo d (i * 64) 64
theorem wordOf_lt (d : Nat → Bool) (i : Nat) : wordOf d i < 2 ^ 64 := bitsTo_lt d _ 64
theorem wordOf_bit (d : Nat → Bool) (i j : Nat) : (wordOf d i).testBit j = (decide (j < 64) && d (i * 64 + j)) := bitsTo_bit d _ j 64
theorem wordOf_congr {d e : Nat → Bool} {i : Nat} (h : ∀ j, j < 64 → d (i * 64 + j) = e (i * 64 + j)) : wordOf d i = wordOf e i := by
  apply Nat.eq_of_testBit_eq
  intro j
  rw [wordOf_bit, wordOf_bit]
  by_cases hj : j < 64
  · simp [hj, h j hj]
  · simp [hj]
def addTo (d : Nat → Bool) (a : Nat) : Nat → Bool := fun x => d x || x == a
theorem wordOf_add (d : Nat → Bool) (a : Nat) : wordOf (addTo d a) (a / 64) = wordOf d (a / 64) ||| (1 <<< (a % 64)) := by
  apply Nat.eq_of_testBit_eq
  intro j
  rw [wordOf_bit, Nat.testBit_or, wordOf_bit, Nat.testBit_shiftLeft]
  have ha : a = a / 64 * 64 + a % 64 := by omega
  have hm := Nat.mod_lt a (show 0 < 64 by omega)
  by_cases hj : j = a % 64
  · subst hj
    simp [addTo, hm, ← ha]
  · have h1 : (a / 64 * 64 + j == a) = false := by simp; omega
    by_cases hjm : a % 64 ≤ j
    · have h2 : j - a % 64 ≠ 0 := by omega
      simp [addTo, h1, tb1, h2]
    · simp [addTo, h1, hjm]
theorem wordOf_other (d : Nat → Bool) (a i : Nat) (h : i ≠ a / 64) : wordOf (addTo d a) i = wordOf d i :=
  wordOf_congr fun j hj => by simp [addTo]; omega
/-- how many of the first n addresses are in the set -/
def cnt (d : Nat → Bool) : Nat → Nat
  | 0 => 0
  | n + 1 => cnt d n + if d n then 1 else 0
theorem cnt_le (d : Nat → Bool) : ∀ n, cnt d n ≤ n
  | 0 => Nat.le_refl _
  | n + 1 => by have := cnt_le d n; unfold cnt; split <;> omega
theorem cnt_add {d : Nat → Bool} {a : Nat} (h : d a = false) : ∀ n, cnt (addTo d a) n = cnt d n + if a < n then 1 else 0
  | 0 => by simp [cnt]
  | n + 1 => by
    rw [cnt, cnt, cnt_add h n]
    by_cases hn : n = a
    · subst hn; simp [addTo, h]
    · have h1 : addTo d a n = d n := by simp [addTo, hn]
      rw [h1]
      by_cases hl : a < n
      · have h2 : a < n + 1 := by omega
        simp only [hl, h2, if_true]; omega
      · have h2 : ¬ a < n + 1 := by omega
        simp only [hl, h2, if_false]; omega
/-- the first address from a on, below n, that is in the set (or is not): n if there is none -/
def nextUpto (d : Nat → Bool) (b : Bool) : Nat → Nat → Nat
  | 0, a => a
  | f + 1, a => if d a == b then a else nextUpto d b f (a + 1)
def nextS (d : Nat → Bool) (b : Bool) (a : Nat) : Nat := if a < 65536 then nextUpto d b (65536 - a) a else 65536
theorem nextUpto_spec (d : Nat → Bool) (b : Bool) : ∀ f a, a ≤ nextUpto d b f a ∧ nextUpto d b f a ≤ a + f ∧ (∀ x, a ≤ x → x < nextUpto d b f a → (d x == b) = false) ∧ (nextUpto d b f a < a + f → (d (nextUpto d b f a) == b) = true)
  | 0, a => by simp [nextUpto]; omega
  | f + 1, a => by
    obtain ⟨h1, h2, h3, h4⟩ := nextUpto_spec d b f (a + 1)
    unfold nextUpto
    by_cases h : (d a == b) = true
    · rw [if_pos h]
      exact ⟨Nat.le_refl _, by omega, fun x hx hx2 => by omega, fun _ => h⟩
    · rw [if_neg h]
      refine ⟨by omega, by omega, fun x hx hx2 => ?_, fun hl => h4 (by omega)⟩
      by_cases e : x = a
      · subst e; simpa using h
      · exact h3 x (by omega) hx2
/-- What 'next' answers is the one number with these properties. -/
theorem nextS_eq {d : Nat → Bool} {b : Bool} {a r : Nat} (h1 : a ≤ r) (h2 : r ≤ 65536) (h3 : ∀ x, a ≤ x → x < r → (d x == b) = false) (h4 : r < 65536 → (d r == b) = true) : nextS d b a = r := by
  unfold nextS
  by_cases ha : a < 65536
  · rw [if_pos ha]
    obtain ⟨g1, g2, g3, g4⟩ := nextUpto_spec d b (65536 - a) a
    generalize nextUpto d b (65536 - a) a = q at *
    rcases Nat.lt_trichotomy q r with hlt | heq | hgt
    · have e1 := h3 q g1 hlt
      have e2 := g4 (by omega)
      rw [e1] at e2; cases e2
    · exact heq
    · have e1 := g3 r h1 hgt
      have e2 := h4 (by omega)
      rw [e1] at e2; cases e2
  · rw [if_neg ha]; omega
theorem nextS_spec (d : Nat → Bool) (b : Bool) (a : Nat) (ha : a ≤ 65536) : a ≤ nextS d b a ∧ nextS d b a ≤ 65536 ∧ (∀ x, a ≤ x → x < nextS d b a → (d x == b) = false) ∧ (nextS d b a < 65536 → (d (nextS d b a) == b) = true) := by
  unfold nextS
  by_cases h : a < 65536
  · rw [if_pos h]
    obtain ⟨g1, g2, g3, g4⟩ := nextUpto_spec d b (65536 - a) a
    exact ⟨g1, by omega, g3, fun hl => g4 (by omega)⟩
  · rw [if_neg h]
    exact ⟨by omega, Nat.le_refl _, fun x hx hx2 => by omega, fun hl => by omega⟩
end Go.Proofs.YtcfjcoockklkeaaGreatDoor

/-
  Images in memory; image.set.add. Conditions: none.
-/
namespace Go.Proofs.YtcfjcoockklkeaaGreatDoor
open Go.RowKit

/-- Which addresses have which bytes. -/
abbrev Mem := Nat → Option UInt8
def dom (m : Mem) : Nat → Bool := fun a => (m a).isSome
/-- Block b is an image: 1024 words, the count, 65536 bytes; the words say d, the bytes v. -/
structure ImgC (w : World) (b : Nat) (d : Nat → Bool) (v : Nat → UInt8) (n : Nat) : Prop where
  words : ∀ i, i < 1024 → w.cell? ⟨b, i, none⟩ = some (.int .u64 (wordOf d i))
  count : w.cell? ⟨b, 1024, none⟩ = some (.int .i64 n)
  bytes : ∀ a, a < 65536 → w.cell? ⟨b, 1025 + a, none⟩ = some (.int .u8 (v a).toNat)
  free : ∀ o, w.frozen? ⟨b, o, none⟩ = false
theorem ImgC.lt {w : World} {b n : Nat} {d : Nat → Bool} {v : Nat → UInt8} (h : ImgC w b d v n) : b < w.heap.size := World.block_lt_of_cell? _ _ h.count
theorem ImgC.below {w w' : World} {b n B : Nat} {d : Nat → Bool} {v : Nat → UInt8} (h : ImgC w b d v n) (hb : Below B w w') (hB : b < B) : ImgC w' b d v n :=
  ⟨fun i hi => (hb.cell (p := ⟨b, i, none⟩) hB).trans (h.words i hi), (hb.cell (p := ⟨b, 1024, none⟩) hB).trans h.count, fun a ha => (hb.cell (p := ⟨b, 1025 + a, none⟩) hB).trans (h.bytes a ha), fun o => (hb.frozen (p := ⟨b, o, none⟩) hB).trans (h.free o)⟩

theorem wrap_pow {k : Nat} (h : k < 64) : IntKind.u64.wrap ((2 : Int) ^ k) = ((1 <<< k : Nat) : Int) := by
  have h1 : (2 : Nat) ^ k < 2 ^ 64 := Nat.pow_lt_pow_right (by omega) h
  have h2 : ((2 : Int) ^ k) = ((2 ^ k : Nat) : Int) := by simp
  rw [h2, Nat.shiftLeft_eq, Nat.one_mul]
  generalize 2 ^ k = x at *
  have h3 : (x : Int) < 18446744073709551616 := by
    have : (2 : Nat) ^ 64 = 18446744073709551616 := by decide
    omega
  have e2 : ((2 : Int) ^ IntKind.u64.bits) = 18446744073709551616 := by decide
  have e : IntKind.u64.signed = false := rfl
  simp only [IntKind.wrap, e, e2, Bool.false_and]
  rw [if_neg (by simp)]
  omega
theorem or_add (d : Nat → Bool) (a : Nat) : bits .or .u64 ((wordOf d (a / 64) : Nat) : Int) (IntKind.u64.wrap ((2 : Int) ^ (a % 64))) = ((wordOf (addTo d a) (a / 64) : Nat) : Int) := by
  rw [wrap_pow (Nat.mod_lt a (by omega)), wordOf_add]
  have h1 : (2 : Nat) ^ 64 = 18446744073709551616 := by decide
  have h2 := wordOf_lt d (a / 64)
  have h3 : 1 <<< (a % 64) < 2 ^ 64 := by rw [Nat.shiftLeft_eq, Nat.one_mul]; exact Nat.pow_lt_pow_right (by omega) (Nat.mod_lt a (by omega))
  exact u64_or_nat _ _ (by omega) (by omega)
theorem ImgC.drew {w : World} {b n : Nat} {d : Nat → Bool} {v : Nat → UInt8} (h : ImgC w b d v n) : ImgC w.drew b d v n := ⟨h.words, h.count, h.bytes, h.free⟩
theorem ImgC.add {w : World} {b n a : Nat} {d : Nat → Bool} {v : Nat → UInt8} (h : ImgC w b d v n) (ha : a < 65536) :
    ImgC ((w.setCell ⟨b, a / 64, none⟩ (.int .u64 (wordOf (addTo d a) (a / 64)))).setCell ⟨b, 1024, none⟩ (.int .i64 ((n : Int) + 1))) b (addTo d a) v (n + 1) := by
  refine ⟨fun i hi => ?_, ?_, fun x hx => ?_, fun o => ?_⟩
  · rw [World.cell?_setCell_other _ _ _ _ (by intro e; injection e with _ e2; omega)]
    by_cases hia : i = a / 64
    · subst hia
      exact World.cell?_setCell_same' _ _ _ (by rw [h.words _ hi]; rfl)
    · rw [World.cell?_setCell_other _ _ _ _ (by intro e; injection e with _ e2; omega), h.words i hi, wordOf_other d a i hia]
  · exact World.cell?_setCell_same' _ _ _ (by rw [World.cell?_setCell_other _ _ _ _ (by intro e; injection e with _ e2; omega), h.count]; rfl)
  · rw [World.cell?_setCell_other _ _ _ _ (by intro e; injection e with _ e2; omega), World.cell?_setCell_other _ _ _ _ (by intro e; injection e with _ e2; omega)]
    exact h.bytes x hx
  · rw [World.frozen?_setCell, World.frozen?_setCell]; exact h.free o

set_option maxHeartbeats 1000000 in
theorem setAdd_any (b n a : Nat) (d : Nat → Bool) (v : Nat → UInt8) (w : World) (h : ImgC w b d v n) (ha : a < 65536) (hn : n ≤ 1000000000) :
    Calls Tryz.prog 57 #[.pointer (some ⟨b, 0, none⟩), .int .i64 a] w fun e w' => e = .returned (.tuple #[]) ∧ ImgC w' b (addTo d a) v (n + 1) ∧ ∃ q, w' = ((w.setCell ⟨b, a / 64, none⟩ (.int .u64 (wordOf (addTo d a) (a / 64)))).setCell ⟨b, 1024, none⟩ (.int .i64 ((n : Int) + 1))).drewN q := by
  have hw := h.words (a / 64) (by omega)
  have hc := h.count
  have hf := h.free
  have hai : (0 : Int) ≤ a := by omega
  have hai2 : (a : Int) / 64 < 1024 := by omega
  have hai3 : (0 : Int) ≤ (a : Int) / 64 := by omega
  have HO := Lib.hid (or_add d a)
  have HH := Lib.hid (h.add ha)
  generalize wordOf d (a / 64) = W at *
  clear h
  go_enter Tryz.func57, Tryz.ntmps57
  go_wp2
  go_region
  all_goals
    go_wp2
    go_end0
    rw [HO.out]
    exact ⟨rfl, HH.out.drew, 1, rfl⟩
end Go.Proofs.YtcfjcoockklkeaaGreatDoor

/-
  math/bits.TrailingZeros64 at this program; image.set.next. Conditions: the library's table as its initialiser lays it.
-/
namespace Go.Proofs.YtcfjcoockklkeaaGreatDoor
open Go.RowKit Go.Shelf

def tzRen : Ren := ⟨fun | 29 => 84 | n => n, fun | 0 => 0 | 3 => 3 | 4 => 4 | 5 => 5 | 22 => 90 | 25 => 165 | 54 => 171 | n => n, fun | 1 => 1 | n => n⟩
theorem tzLays : Lays7.n29 Tryz.prog tzRen := {
  mixed := by kernel_rfl
  f29 := Tryz.func84.trans (congrArg some (by kernel_rfl))
  t0 := Tryz.underlying0
  a0 := Tryz.isAgg0
  z0 := Tryz.sizeOf0
  v0 := Tryz.zeroValue0
  i0 := by kernel_rfl
  t3 := Tryz.underlying3
  a3 := Tryz.isAgg3
  z3 := Tryz.sizeOf3
  v3 := Tryz.zeroValue3
  i3 := by kernel_rfl
  t4 := Tryz.underlying4
  a4 := Tryz.isAgg4
  z4 := Tryz.sizeOf4
  v4 := Tryz.zeroValue4
  i4 := by kernel_rfl
  t5 := Tryz.underlying5
  a5 := Tryz.isAgg5
  z5 := Tryz.sizeOf5
  v5 := Tryz.zeroValue5
  i5 := by kernel_rfl
  t22 := Tryz.underlying90
  a22 := Tryz.isAgg90
  z22 := Tryz.sizeOf90
  v22 := Tryz.zeroValue90
  i22 := by kernel_rfl
  t25 := Tryz.underlying165
  a25 := Tryz.isAgg165
  z25 := Tryz.sizeOf165
  v25 := Tryz.zeroValue165
  i25 := by kernel_rfl
  t54 := Tryz.underlying171
  a54 := Tryz.isAgg171
  z54 := Tryz.sizeOf171
  g1 := by kernel_rfl }
def Deb (w : World) : Prop := TabAt 1 Lib.deBruijn64tab w
theorem Deb.below {w w' : World} (h : Deb w) (hb : Below w.heap.size w w') : Deb w' := fun j hj => (hb.cell (World.block_lt_of_cell? _ _ (h j hj))).trans (h j hj)
theorem tz64_any (x : Nat) (hx : x < 18446744073709551616) (w : World) (hT : Deb w) :
    Calls Tryz.prog 84 #[.int .u64 x] w fun e w' => e = .returned (.int .i64 (Lib.ctz 64 x)) ∧ w' = w :=
  Any7.bits_TrailingZeros64 tzLays x hx w (fun _ => hT)
end Go.Proofs.YtcfjcoockklkeaaGreatDoor

/-
  image.set.next. Conditions: the library's table as its initialiser lays it.
-/
namespace Go.Proofs.YtcfjcoockklkeaaGreatDoor
open Go.RowKit

/-- the bits from c on to its word's end: those in the set, or those not in it -/
def segN (d : Nat → Bool) (q : Bool) (c : Nat) : Nat := (if q then wordOf d (c / 64) else (2 ^ 64 - 1) ^^^ wordOf d (c / 64)) / 2 ^ (c % 64)
theorem seg_bit (d : Nat → Bool) (q : Bool) (c j : Nat) : (segN d q c).testBit j = (decide (c % 64 + j < 64) && (d (c + j) == q)) := by
  have hc : c / 64 * 64 + (c % 64 + j) = c + j := by omega
  unfold segN
  rw [Nat.testBit_div_two_pow, Nat.add_comm j (c % 64)]
  cases q
  · simp only [Bool.false_eq_true, if_false]
    rw [Nat.testBit_xor, Nat.testBit_two_pow_sub_one, wordOf_bit, hc]
    cases h : decide (c % 64 + j < 64) <;> cases d (c + j) <;> rfl
  · simp only [if_true]
    rw [wordOf_bit, hc]
    cases h : decide (c % 64 + j < 64) <;> cases d (c + j) <;> rfl
theorem seg_lt (d : Nat → Bool) (q : Bool) (c : Nat) : segN d q c < 18446744073709551616 := by
  have h64 : (2 : Nat) ^ 64 = 18446744073709551616 := by decide
  have h := wordOf_lt d (c / 64)
  unfold segN
  refine Nat.lt_of_le_of_lt (Nat.div_le_self _ _) ?_
  rw [← h64]
  cases q
  · simp only [Bool.false_eq_true, if_false]
    exact Nat.xor_lt_two_pow (by omega) h
  · exact h
theorem seg_zero {d : Nat → Bool} {q : Bool} {c : Nat} (h : segN d q c = 0) (x : Nat) (h1 : c ≤ x) (h2 : x < (c / 64 + 1) * 64) : (d x == q) = false := by
  have hb := seg_bit d q c (x - c)
  rw [h, Nat.zero_testBit, show c + (x - c) = x by omega, decide_eq_true (show c % 64 + (x - c) < 64 by omega), Bool.true_and] at hb
  exact hb.symm
theorem tb_div (x i : Nat) : x.testBit i = decide (x / 2 ^ i % 2 = 1) := Nat.testBit_eq_decide_div_mod_eq
theorem ctz_spec {x : Nat} (h0 : x ≠ 0) (h : x < 18446744073709551616) : x.testBit (Lib.ctz 64 x) = true ∧ ∀ j, j < Lib.ctz 64 x → x.testBit j = false := by
  have h64 : (2 : Nat) ^ 64 = 18446744073709551616 := by decide
  obtain ⟨m, hm, _⟩ := Lib.ctzFrom_spec 64 x (by omega) (by omega)
  have e : Lib.ctz 64 x = Lib.ctzFrom 64 x := by unfold Lib.ctz; rw [if_neg h0]
  rw [e]
  generalize Lib.ctzFrom 64 x = t at *
  subst hm
  refine ⟨?_, fun j hj => ?_⟩
  · rw [tb_div, Nat.mul_div_cancel_left _ (Nat.two_pow_pos t)]
    simp
  · rw [tb_div]
    have e2 : 2 ^ t * (2 * m + 1) = 2 ^ j * (2 * (2 ^ (t - j - 1) * (2 * m + 1))) := by
      rw [show (2 : Nat) ^ t = 2 ^ j * (2 * 2 ^ (t - j - 1)) by rw [← Nat.pow_succ', ← Nat.pow_add]; congr 1; omega]
      simp [Nat.mul_assoc]
    rw [e2, Nat.mul_div_cancel_left _ (Nat.two_pow_pos j)]
    simp
theorem seg_next {d : Nat → Bool} {q : Bool} {a c : Nat} (h0 : segN d q c ≠ 0) (hac : a ≤ c) (hc : c < 65536) (hno : ∀ x, a ≤ x → x < c → (d x == q) = false) : nextS d q a = c + Lib.ctz 64 (segN d q c) ∧ Lib.ctz 64 (segN d q c) < 64 := by
  obtain ⟨h1, h2⟩ := ctz_spec h0 (seg_lt d q c)
  generalize Lib.ctz 64 (segN d q c) = t at *
  rw [seg_bit] at h1
  obtain ⟨h3, h4⟩ := (Bool.and_eq_true _ _).mp h1
  have h3 := of_decide_eq_true h3
  refine ⟨nextS_eq (by omega) (by omega) (fun x hx1 hx2 => ?_) (fun _ => h4), by omega⟩
  by_cases hx : x < c
  · exact hno x hx1 hx
  · have h5 := h2 (x - c) (by omega)
    rw [seg_bit, show c + (x - c) = x by omega, decide_eq_true (show c % 64 + (x - c) < 64 by omega), Bool.true_and] at h5
    exact h5
theorem seg_true (d : Nat → Bool) (c : Nat) : ((wordOf d (c / 64) : Nat) : Int) / 2 ^ (c % 64) = ((segN d true c : Nat) : Int) := by
  simp [segN]
theorem seg_false (d : Nat → Bool) (c : Nat) : bits BinOp.xor IntKind.u64 (if IntKind.u64.signed = true then -1 else IntKind.u64.max) ((wordOf d (c / 64) : Nat) : Int) / 2 ^ (c % 64) = ((segN d false c : Nat) : Int) := by
  have h64 : (2 : Nat) ^ 64 = 18446744073709551616 := by decide
  have h := wordOf_lt d (c / 64)
  have e : (if IntKind.u64.signed = true then -1 else IntKind.u64.max) = ((18446744073709551615 : Nat) : Int) := by decide
  rw [e, u64_xor_nat _ _ (by omega) (by omega)]
  simp [segN]

set_option maxHeartbeats 1000000 in
theorem next_false (b n a : Nat) (d : Nat → Bool) (v : Nat → UInt8) (w : World) (h : ImgC w b d v n) (hT : Deb w) (ha : a ≤ 65536) :
    Calls Tryz.prog 53 #[.pointer (some ⟨b, 0, none⟩), .int .i64 a, .bool false] w fun e w' => e = .returned (.int .i64 (nextS d false a)) ∧ w = w' := by
  have H := Lib.hid h
  have HT := Lib.hid hT
  clear h hT
  go_enter Tryz.func53, Tryz.ntmps53
  go_wp2
  go_loop [1] (fun i => ∃ c : Nat, a ≤ c ∧ c ≤ 65536 ∧ i = .int .i64 c ∧ (∀ x, a ≤ x → x < c → (d x == false) = false)) (fun i => 65536 - (intOf i).toNat)
  case atStart => exact ⟨a, Nat.le_refl _, ha, rfl, fun x h1 h2 => by omega⟩
  case round =>
    obtain ⟨c, hac, hc, rfl, hno⟩ := hrel
    have HNO := Lib.hid hno
    clear hno
    by_cases hlt : c < 65536
    · have hw := H.out.words (c / 64) (by omega)
      have HWL := Lib.hid (wordOf_lt d (c / 64))
      have hi1 : (0 : Int) ≤ (c : Int) / 64 := by omega
      have hi2 : (c : Int) / 64 < 1024 := by omega
      generalize hW : wordOf d (c / 64) = W at *
      have HW := Lib.hid hW
      clear hW
      have hlti : decide ((c : Int) < 65536) = true := by simp; omega
      have hc0 : (0 : Int) ≤ (c : Int) := by omega
      have hcm : (c : Int) ≤ 100000 := by omega
      have HLT := Lib.hid hlt
      have HCC := Lib.hid hc
      clear hlt hc
      go_upto_region 6 with fail
      have hv := seg_false d c
      rw [HW.out] at hv
      rw [hv]
      clear hv
      have HNX := Lib.hid (fun h0 => seg_next (d := d) (q := false) (a := a) (c := c) h0 hac HLT.out HNO.out)
      have HZR := Lib.hid (fun h0 x => seg_zero (d := d) (q := false) (c := c) h0 x)
      have HSL := Lib.hid (seg_lt d false c)
      generalize segN d false c = S at *
      by_cases h0 : S = 0
      · have HS0 := Lib.hid h0
        have hz : ((S : Int) != 0) = false := by rw [h0]; rfl
        clear h0 hi1 hi2 hlti
        go_wp2
        go_round
        case rel => exact ⟨(c / 64 + 1) * 64, by omega, by have := HLT.out; omega, by go_num, fun x h1 h2 => if hx : x < c then HNO.out x h1 hx else HZR.out HS0.out x (by omega) h2⟩
        case measure => have := HLT.out; simp [intOf]; omega
      · have hz : ((S : Int) != 0) = true := by simp [bne]; omega
        have hk := (HNX.out h0).2
        have HK := Lib.hid (HNX.out h0).1
        clear h0 hi1 hi2 hlti
        have HTZ := Lib.hid (tz64_any S HSL.out w HT.out)
        generalize Lib.ctz 64 S = t at *
        have ht0 : (0 : Int) ≤ (t : Int) := by omega
        have htm : (t : Int) ≤ 64 := by omega
        have hcm2 : (c : Int) ≤ 100000 := hcm
        have hac' := Lib.hid hac
        have hk' := Lib.hid hk
        have ha' := Lib.hid ha
        clear hac hk ha
        go_wp2_with (go_at_call 84; refine HTZ.out.mono ?_; rintro e w' ⟨rfl, rfl⟩)
        go_ret
        exact ⟨ret_int (by rw [HK.out]; simp), rfl⟩
    · obtain rfl : c = 65536 := by omega
      have HF := Lib.hid (nextS_eq (d := d) (b := false) hac (Nat.le_refl _) HNO.out (fun h => absurd h (by omega)))
      go_wp2
      go_ret
      exact ⟨ret_int (by rw [HF.out]; rfl), rfl⟩

set_option maxHeartbeats 1000000 in
theorem next_true (b n a : Nat) (d : Nat → Bool) (v : Nat → UInt8) (w : World) (h : ImgC w b d v n) (hT : Deb w) (ha : a ≤ 65536) :
    Calls Tryz.prog 53 #[.pointer (some ⟨b, 0, none⟩), .int .i64 a, .bool true] w fun e w' => e = .returned (.int .i64 (nextS d true a)) ∧ w = w' := by
  have H := Lib.hid h
  have HT := Lib.hid hT
  clear h hT
  go_enter Tryz.func53, Tryz.ntmps53
  go_wp2
  go_loop [1] (fun i => ∃ c : Nat, a ≤ c ∧ c ≤ 65536 ∧ i = .int .i64 c ∧ (∀ x, a ≤ x → x < c → (d x == true) = false)) (fun i => 65536 - (intOf i).toNat)
  case atStart => exact ⟨a, Nat.le_refl _, ha, rfl, fun x h1 h2 => by omega⟩
  case round =>
    obtain ⟨c, hac, hc, rfl, hno⟩ := hrel
    have HNO := Lib.hid hno
    clear hno
    by_cases hlt : c < 65536
    · have hw := H.out.words (c / 64) (by omega)
      have HWL := Lib.hid (wordOf_lt d (c / 64))
      have hi1 : (0 : Int) ≤ (c : Int) / 64 := by omega
      have hi2 : (c : Int) / 64 < 1024 := by omega
      generalize hW : wordOf d (c / 64) = W at *
      have HW := Lib.hid hW
      clear hW
      have hlti : decide ((c : Int) < 65536) = true := by simp; omega
      have hc0 : (0 : Int) ≤ (c : Int) := by omega
      have hcm : (c : Int) ≤ 100000 := by omega
      have HLT := Lib.hid hlt
      have HCC := Lib.hid hc
      clear hlt hc
      go_upto_region 6 with fail
      have hv := seg_true d c
      rw [HW.out] at hv
      rw [hv]
      clear hv
      have HNX := Lib.hid (fun h0 => seg_next (d := d) (q := true) (a := a) (c := c) h0 hac HLT.out HNO.out)
      have HZR := Lib.hid (fun h0 x => seg_zero (d := d) (q := true) (c := c) h0 x)
      have HSL := Lib.hid (seg_lt d true c)
      generalize segN d true c = S at *
      by_cases h0 : S = 0
      · have HS0 := Lib.hid h0
        have hz : ((S : Int) != 0) = false := by rw [h0]; rfl
        clear h0 hi1 hi2 hlti
        go_wp2
        go_round
        case rel => exact ⟨(c / 64 + 1) * 64, by omega, by have := HLT.out; omega, by go_num, fun x h1 h2 => if hx : x < c then HNO.out x h1 hx else HZR.out HS0.out x (by omega) h2⟩
        case measure => have := HLT.out; simp [intOf]; omega
      · have hz : ((S : Int) != 0) = true := by simp [bne]; omega
        have hk := (HNX.out h0).2
        have HK := Lib.hid (HNX.out h0).1
        clear h0 hi1 hi2 hlti
        have HTZ := Lib.hid (tz64_any S HSL.out w HT.out)
        generalize Lib.ctz 64 S = t at *
        have ht0 : (0 : Int) ≤ (t : Int) := by omega
        have htm : (t : Int) ≤ 64 := by omega
        have hcm2 : (c : Int) ≤ 100000 := hcm
        have hac' := Lib.hid hac
        have hk' := Lib.hid hk
        have ha' := Lib.hid ha
        clear hac hk ha
        go_wp2_with (go_at_call 84; refine HTZ.out.mono ?_; rintro e w' ⟨rfl, rfl⟩)
        go_ret
        exact ⟨ret_int (by rw [HK.out]; simp), rfl⟩
    · obtain rfl : c = 65536 := by omega
      have HF := Lib.hid (nextS_eq (d := d) (b := true) hac (Nat.le_refl _) HNO.out (fun h => absurd h (by omega)))
      go_wp2
      go_ret
      exact ⟨ret_int (by rw [HF.out]; rfl), rfl⟩
end Go.Proofs.YtcfjcoockklkeaaGreatDoor

/-
  image.New, image.Len. Conditions: none.
-/
namespace Go.Proofs.YtcfjcoockklkeaaGreatDoor
open Go.RowKit

/-- k cells x, one cell y, m cells z -/
def row3 (k m : Nat) (x y z : Value) : Array Value := (List.replicate k x ++ ([y] ++ List.replicate m z)).toArray
theorem row3_a (k m : Nat) (x y z : Value) {i : Nat} (hi : i < k) : (row3 k m x y z)[i]? = some x := by
  unfold row3
  rw [List.getElem?_toArray, List.getElem?_append_left (by simpa using hi), List.getElem?_replicate, if_pos hi]
theorem row3_b (k m : Nat) (x y z : Value) : (row3 k m x y z)[k]? = some y := by
  unfold row3
  rw [List.getElem?_toArray, List.getElem?_append_right (by simp), List.length_replicate, Nat.sub_self]; rfl
theorem row3_c (k m : Nat) (x y z : Value) {i : Nat} (hi : i < m) : (row3 k m x y z)[k + 1 + i]? = some z := by
  unfold row3
  rw [List.getElem?_toArray, List.getElem?_append_right (by rw [List.length_replicate]; omega), List.length_replicate, List.getElem?_append_right (by simp; omega), List.getElem?_replicate]
  rw [if_pos (by simp; omega)]
theorem wordOf_none (i : Nat) : wordOf (fun _ => false) i = 0 := by
  apply Nat.eq_of_testBit_eq
  intro j
  rw [wordOf_bit, Nat.zero_testBit, Bool.and_false]
theorem ImgC.zero (w : World) (t : TypeId) (cs : Array Value) (h : cs = row3 1024 65536 (.int .u64 0) (.int .i64 0) (.int .u8 0)) : ImgC (w.alloc (.cells cs t)) w.heap.size (fun _ => false) (fun _ => 0) 0 := by
  subst h
  have hB : Blk (w.alloc (.cells (row3 1024 65536 (.int .u64 0) (.int .i64 0) (.int .u8 0)) t)) w.heap.size t (row3 1024 65536 (.int .u64 0) (.int .i64 0) (.int .u8 0)) := Blk.new w t _
  exact ⟨fun i hi => (hB.cell i).trans ((row3_a _ _ _ _ _ hi).trans (by rw [wordOf_none]; rfl)), (hB.cell 1024).trans (row3_b _ _ _ _ _), fun a ha => (hB.cell (1025 + a)).trans (row3_c 1024 65536 _ _ _ ha), fun o => hB.free o⟩
set_option maxRecDepth 1000000 in
theorem zImg_is : Tryz.zeroCells96 = row3 1024 65536 (.int .u64 0) (.int .i64 0) (.int .u8 0) := by kernel_rfl

theorem New_any (w : World) : Calls Tryz.prog 20 #[] w fun e w' => e = .returned (.pointer (some ⟨w.heap.size, 0, none⟩)) ∧ ImgC w' w.heap.size (fun _ => false) (fun _ => 0) 0 ∧ Below w.heap.size w w' := by
  have HZ := Lib.hid (ImgC.zero w 96 _ zImg_is)
  go_enter Tryz.func20, Tryz.ntmps20
  go_wp2
  go_ret
  exact ⟨rfl, HZ.out, (Below.refl _ w).alloc (Nat.le_refl _) _⟩
theorem Len_any (b n : Nat) (d : Nat → Bool) (v : Nat → UInt8) (w : World) (h : ImgC w b d v n) :
    Calls Tryz.prog 30 #[.pointer (some ⟨b, 0, none⟩)] w fun e w' => e = .returned (.int .i64 n) ∧ w = w' := by
  have hc := h.count
  clear h
  go_enter Tryz.func30, Tryz.ntmps30
  go_wp2
  go_ret
  exact ⟨rfl, rfl⟩
end Go.Proofs.YtcfjcoockklkeaaGreatDoor

/-
  image.Put. Conditions: the library's table as its initialiser lays it.
-/
namespace Go.Proofs.YtcfjcoockklkeaaGreatDoor
open Go.RowKit

theorem byteR_size : byteR.size = 1 := rfl
theorem SlR.byte {w : World} {p : Blocks} {v : Value} {l : List UInt8} (h : SlR byteR w p v l) : ∃ a cap, v = .slice a l.length cap ∧ l.length ≤ cap ∧ cap ≤ 9223372036854775807 ∧
    ∀ i x, l[i]? = some x → ∃ b o, a = some ⟨b, o, none⟩ ∧ p b ∧ w.cell? ⟨b, o + i, none⟩ = some (.int .u8 x.toNat) := by
  obtain ⟨a, cap, e, h1, h2, h3⟩ := h
  refine ⟨a, cap, e, h1, by simpa [maxLen] using h2, fun i x hx => ?_⟩
  obtain ⟨b, o, cs, ea, hb, hbs, hc, hr⟩ := h3 i x hx
  have hr : cs = [.int .u8 x.toNat] := hr
  subst hr
  have := hc 0 _ rfl
  exact ⟨b, o, ea, hb, by simpa [byteR_size] using this⟩
def encB (l : List UInt8) : List Value := l.map fun x => .int .u8 x.toNat

/-- the set with k addresses from a on -/
def span (d : Nat → Bool) (a k : Nat) : Nat → Bool := fun x => d x || (decide (a ≤ x) && decide (x < a + k))
/-- the bytes l laid from a on -/
def over (v : Nat → UInt8) (a : Nat) (l : List UInt8) : Nat → UInt8 := fun x => if a ≤ x then l.getD (x - a) (v x) else v x
theorem span_zero (d : Nat → Bool) (a : Nat) : span d a 0 = d := by
  funext x
  have : (decide (a ≤ x) && decide (x < a + 0)) = false := by simp
  unfold span
  rw [this, Bool.or_false]
theorem span_succ (d : Nat → Bool) (a k : Nat) : addTo (span d a k) (a + k) = span d a (k + 1) := by
  funext x
  unfold addTo span
  rw [Bool.or_assoc]
  congr 1
  rw [Bool.eq_iff_iff]
  simp
  omega
theorem setCells_grown (b : Nat) : ∀ (vs : List Value) (o : Nat) (w : World), w.grownBy (w.setCells b o vs) (some b)
  | [], _, w => World.grownBy.refl w _
  | v :: r, o, w => grown_step (w1 := w.setCell ⟨b, o, none⟩ v) ⟨rfl, rfl, rfl, by simp [World.setCell], fun k _ hk => Below.heap_setCell _ _ _ _ (fun e => hk (by rw [e]))⟩ (setCells_grown b r (o + 1) _)
theorem ImgC.copied {w : World} {b n a : Nat} {d : Nat → Bool} {v : Nat → UInt8} (h : ImgC w b d v n) {l : List UInt8} (hl : a + l.length ≤ 65536) :
    ImgC (w.setCells b (1025 + a) (encB l)) b d (over v a l) n := by
  have hlen : (encB l).length = l.length := by simp [encB]
  refine ⟨fun i hi => ?_, ?_, fun x hx => ?_, fun o => ?_⟩
  · rw [World.cell?_setCells_out _ _ _ _ _ (fun _ _ => .inl (by show i < _; omega))]
    exact h.words i hi
  · rw [World.cell?_setCells_out _ _ _ _ _ (fun _ _ => .inl (by show 1024 < _; omega))]
    exact h.count
  · by_cases hin : a ≤ x ∧ x < a + l.length
    · have e := World.cell?_setCells_in b (encB l) (1025 + a) w (fun j hj => by rw [show 1025 + a + j = 1025 + (a + j) by omega, h.bytes (a + j) (by omega)]; rfl) (x - a) (by omega)
      rw [show 1025 + a + (x - a) = 1025 + x by omega] at e
      rw [e]
      have hx2 : x - a < l.length := by omega
      simp [encB, over, hin.1, List.getD_eq_getElem?_getD, hx2]
    · rw [World.cell?_setCells_out _ _ _ _ _ (fun _ _ => by rw [hlen]; show 1025 + x < _ ∨ _ ≤ 1025 + x; omega), h.bytes x hx]
      have : over v a l x = v x := by
        unfold over
        split
        · rw [List.getD_eq_getElem?_getD, List.getElem?_eq_none (by omega)]; rfl
        · rfl
      rw [this]
  · rw [World.frozen?_setCells]; exact h.free o
theorem run_copy_img (w : World) (b n a : Nat) (d : Nat → Bool) (v : Nat → UInt8) (h : ImgC w b d v n) (p : Blocks) (vl : Value) (l : List UInt8) (hs : SlR byteR w p vl l) (hl : a + l.length ≤ 65536) (ty : TypeId) :
    (Builtin.copy_ #[55, 55] ty #[.slice (some ⟨b, 1025 + a, none⟩) (65536 - a) (65536 - a), vl]).run Tryz.prog w = .ok (goInt l.length) (w.setCells b (1025 + a) (encB l)) := by
  obtain ⟨sa, cap, rfl, _, _, g⟩ := hs.byte
  have hlen : (encB l).length = l.length := by simp [encB]
  have hz : (Tryz.prog.info? 5).map (·.size) = some 1 := by kernel_rfl
  cases l with
  | nil => exact run_copy_none w _ _ _ 5 _ _ _ _ _ _ Tryz.underlying55 hz (by simp)
  | cons y r =>
    obtain ⟨sb, o, rfl, _, _⟩ := g 0 y rfl
    have e := run_copy_cells (P := Tryz.prog) w 55 55 ty 5 b (1025 + a) (65536 - a) (65536 - a) ⟨sb, o, none⟩ (y :: r).length cap (encB (y :: r)) Tryz.underlying55 hz
      (by rw [hlen]; exact (Nat.min_eq_left (Nat.le_sub_of_add_le (by rw [Nat.add_comm]; exact hl))).symm)
      (fun j u hu => by
        obtain ⟨x, hx, rfl⟩ : ∃ x, (y :: r)[j]? = some x ∧ Value.int .u8 x.toNat = u := by
          unfold encB at hu
          rw [List.getElem?_map] at hu
          exact Option.map_eq_some_iff.1 hu
        obtain ⟨b2, o2, e2, _, hc⟩ := g j x hx
        obtain ⟨rfl, rfl⟩ : sb = b2 ∧ o = o2 := by simpa using e2
        have ea : (⟨sb, o, none⟩ : Addr).add j = ⟨sb, o + j, none⟩ := by unfold Addr.add; split <;> simp_all
        rw [ea]
        exact hc)
      (fun j hj => by rw [show 1025 + a + j = 1025 + (a + j) by omega, h.bytes (a + j) (by omega)]; rfl) (fun j _ => h.free _)
      (fun u hu => by obtain ⟨x, _, rfl⟩ := List.mem_map.1 hu; rfl)
    rw [hlen] at e
    exact e

theorem run_cut_img (b a : Nat) (ha : a < 65536) (w : World) : (Instr.sliceAt 94 (.pointer (some ⟨b, 1025, none⟩)) (some (.int .i64 (a : Int))) none none).run Tryz.prog w = .ok (.slice (some ⟨b, 1025 + a, none⟩) (65536 - a) (65536 - a)) w := by
  have hu : Tryz.prog.underlying 94 = some (.array 65536 5) := by kernel_rfl
  have he : Tryz.prog.elem 94 = 5 := by simp [Program.elem, hu]
  have hl : Tryz.prog.arrayLen 94 = 65536 := by simp [Program.arrayLen, hu]
  have hz : (Tryz.prog.info? 5).map (·.size) = some 1 := by kernel_rfl
  have hs : (sizeOf 5).run Tryz.prog w = .ok 1 w := by
    cases hq : Tryz.prog.info? 5 with
    | none => simp [hq] at hz
    | some i => have : i.size = 1 := by simpa [hq] using hz
                simp [sizeOf, typeInfo, hq, this]
  have e := run_sliceAt_array_l (P := Tryz.prog) w 94 ⟨b, 1025, none⟩ (by rw [hl, he]; exact hu) .i64 (a : Int) (by omega) (by rw [hl]; omega)
  rw [e, he, hs, hl]
  have ea : (⟨b, 1025, none⟩ : Addr).add (a * 1) = ⟨b, 1025 + a, none⟩ := by rw [Nat.mul_one]; unfold Addr.add; split <;> simp_all
  have hne : ¬ (65536 = a) := by omega
  simp only [Result.andThen, slicedAt, Int.toNat_natCast, ea, if_neg hne]
def putCode (d : Nat → Bool) (a : Int) (k : Nat) : Nat := if a < 0 ∨ 65536 ≤ a then 2 else if 65536 < a + k then 10 else if nextS d true a.toNat < a.toNat + k then 4 else 0
/-- What Put leaves of an image. -/
def Put (w' : World) (b n : Nat) (d : Nat → Bool) (v : Nat → UInt8) (a : Int) (l : List UInt8) : Prop :=
  if putCode d a l.length = 0 then ImgC w' b (span d a.toNat l.length) (over v a.toNat l) (n + l.length) else ImgC w' b d v n
theorem putCode_out {d : Nat → Bool} {a : Int} {k : Nat} (h : a < 0 ∨ 65536 ≤ a) : putCode d a k = 2 := by unfold putCode; rw [if_pos h]
set_option maxRecDepth 100000 in
set_option maxHeartbeats 2000000 in
theorem Put_any (b n : Nat) (a : Int) (d : Nat → Bool) (v : Nat → UInt8) (p : Blocks) (vl : Value) (l : List UInt8) (w : World) (h : ImgC w b d v n) (hn : n ≤ 900000000) (hs : SlR byteR w p vl l) (hT : Deb w) (ha1 : -9223372036854775808 ≤ a) (ha2 : a ≤ 9223372036854775807) (hl : l.length ≤ 1000000) :
    Calls Tryz.prog 33 #[.pointer (some ⟨b, 0, none⟩), .int .i64 a, vl] w fun e w' => e = .returned (.int .i64 (putCode d a l.length)) ∧ Put w' b n d v a l ∧ w.grownBy w' (some b) := by
  obtain ⟨sa, cap, rfl, _⟩ := hs.byte
  by_cases ho : a < 0 ∨ 65536 ≤ a
  · have HI := Lib.hid h
    have HC := Lib.hid (putCode_out (d := d) (k := l.length) ho)
    have hfin : Put w b n d v a l := by unfold Put; rw [putCode_out ho, if_neg (by decide)]; exact h
    have HF := Lib.hid hfin
    clear h hfin hT hs
    rcases ho with ho | ho
    · have h1 : decide (a < 0) = true := by simpa using ho
      go_enter Tryz.func33, Tryz.ntmps33
      go_wp2
      go_ret
      exact ⟨by rw [HC.out]; rfl, HF.out, World.grownBy.refl w _⟩
    · have h1 : decide (a < 0) = false := by simp; omega
      have h2 : decide (65536 ≤ a) = true := by simpa using ho
      go_enter Tryz.func33, Tryz.ntmps33
      go_wp2
      go_ret
      exact ⟨by rw [HC.out]; rfl, HF.out, World.grownBy.refl w _⟩
  · obtain ⟨a, rfl⟩ : ∃ m : Nat, a = m := ⟨a.toNat, by omega⟩
    have hA : (putCode d (a : Int) l.length) = if 65536 < a + l.length then 10 else if nextS d true a < a + l.length then 4 else 0 := by
      unfold putCode
      rw [if_neg ho]
      simp only [Int.toNat_natCast]
      by_cases h1 : 65536 < a + l.length
      · rw [if_pos h1, if_pos (by omega)]
      · rw [if_neg h1, if_neg (by omega)]
    have hlt : a < 65536 := by omega
    have h1 : decide ((a : Int) < 0) = false := by simp
    have h2 : decide ((65536 : Int) ≤ a) = false := by simp; omega
    have ha0 : (0 : Int) ≤ a := by omega
    have ham : (a : Int) ≤ 100000 := by omega
    have HI := Lib.hid h
    have HS := Lib.hid hs
    have HT := Lib.hid hT
    have HLT := Lib.hid hlt
    clear h hs hT ho ha1 ha2 hlt
    by_cases hw : 65536 < a + l.length
    · have h3 : decide ((65536 : Int) - a < (l.length : Int)) = true := by simp; omega
      have hfin : Put w b n d v a l := by unfold Put; rw [hA, if_pos hw, if_neg (by decide)]; exact HI.out
      have HF := Lib.hid hfin
      rw [if_pos hw] at hA
      have HA := Lib.hid hA
      clear hfin hw hA
      go_enter Tryz.func33, Tryz.ntmps33
      go_wp2
      go_ret
      exact ⟨by rw [HA.out]; rfl, HF.out, World.grownBy.refl w _⟩
    · have h3 : decide ((65536 : Int) - a < (l.length : Int)) = false := by simp; omega
      have hfin : nextS d true a < a + l.length → Put w b n d v a l := fun hx => by unfold Put; rw [hA, if_neg hw, if_pos hx, if_neg (by decide)]; exact HI.out
      have HF := Lib.hid hfin
      rw [if_neg hw] at hA
      have HA := Lib.hid hA
      have HW := Lib.hid (Nat.not_lt.1 hw)
      have HN := Lib.hid (next_true b n a d v w HI.out HT.out (Nat.le_of_lt HLT.out))
      clear hfin hw hA
      generalize nextS d true a = t at *
      by_cases hx : t < a + l.length
      · have h4 : decide ((t : Int) < (a : Int) + (l.length : Int)) = true := by simp; omega
        rw [if_pos hx] at HA
        have HFX := Lib.hid (HF.out hx)
        clear hx
        go_enter Tryz.func33, Tryz.ntmps33
        go_wp2_with (go_at_call 53; refine HN.out.mono ?_; rintro e w' ⟨rfl, rfl⟩)
        go_ret
        exact ⟨by rw [HA.out]; rfl, HFX.out, World.grownBy.refl w _⟩
      · have h4 : decide ((t : Int) < (a : Int) + (l.length : Int)) = false := by simp; omega
        rw [if_neg hx] at HA
        clear hx
        have HRC := Lib.hid (run_copy_img w b n a d v HI.out p _ l HS.out HW.out)
        have HCP := Lib.hid (HI.out.copied HW.out)
        have hcut := run_cut_img b a HLT.out
        generalize 65536 - a = M at HRC hcut
        go_enter Tryz.func33, Tryz.ntmps33
        go_upto_region 9 with (go_at_call 53; refine HN.out.mono ?_; rintro e w' ⟨rfl, rfl⟩)
        clear h1 h2 h3 h4
        have hrc := HRC.out 3
        go_wp2
        have HG0 := Lib.hid (setCells_grown b (encB l) (1025 + a) w)
        generalize w.setCells b (1025 + a) (encB l) = W at *
        clear hcut hrc
        have ham2 : (a : Int) ≤ 100000 := ham
        have hll : (l.length : Int) ≤ 1000000 := by omega
        have HNN := Lib.hid hn
        clear hn hl
        go_loopw [44] (fun i wr => ∃ k : Nat, k ≤ l.length ∧ i = .int .i64 k ∧ ImgC wr b (span d a k) (over v a l) (n + k) ∧ w.grownBy wr (some b)) (fun i _ => l.length - (intOf i).toNat)
        case atStart => exact ⟨0, Nat.zero_le _, rfl, by rw [span_zero]; exact HCP.out, HG0.out⟩
        case round =>
          obtain ⟨k, hk, rfl, hi, hg⟩ := hrel
          have HI2 := Lib.hid hi
          have HG2 := Lib.hid hg
          clear hi hg
          by_cases hkl : k < l.length
          · have hb1 : (0 : Int) ≤ (k : Int) := by omega
            have hb2 : (k : Int) ≤ 1000000 := by omega
            have hadd := setAdd_any b (n + k) (a + k) (span d a k) (over v a l) wr HI2.out (by have := HW.out; omega) (by have := HNN.out; omega)
            rw [Int.natCast_add, span_succ] at hadd
            have HAD := Lib.hid hadd
            clear hadd
            go_wp2_with (go_at_call 57; refine HAD.out.mono ?_; rintro e w' ⟨rfl, hi, q, hw⟩; have HI3 := Lib.hid hi; have HQ := Lib.hid hw; clear hi hw)
            go_roundw
            case rel =>
              refine ⟨k + 1, by omega, by go_num, HI3.out, grown_step HG2.out ?_⟩
              rw [HQ.out]
              exact ⟨rfl, rfl, rfl, by simp [World.setCell], fun j _ hj => by
                have hjb : j ≠ b := fun e => hj (by rw [e])
                exact (Below.heap_setCell _ _ _ _ hjb).trans (Below.heap_setCell _ _ _ _ hjb)⟩
            case measure => simp [intOf]; omega
          · obtain rfl : k = l.length := by omega
            go_wp2
            go_ret
            refine ⟨by rw [HA.out]; rfl, ?_, HG2.out⟩
            unfold Put
            rw [HA.out, if_pos rfl]
            exact HI2.out
end Go.Proofs.YtcfjcoockklkeaaGreatDoor

/-
  slices.Clone of bytes; append of one element with blocks of its own. Conditions: the new length's bytes.
-/
namespace Go.Proofs.YtcfjcoockklkeaaGreatDoor
open Go.RowKit

theorem SlR.byte_nil {w : World} {p : Blocks} {n c : Nat} {l : List UInt8} (h : SlR byteR w p (.slice none n c) l) : l = [] := by
  obtain ⟨a, c2, e, _, _, g⟩ := h.byte
  cases l with
  | nil => rfl
  | cons y ys =>
    obtain ⟨b, o, ea, _⟩ := g 0 y rfl
    rw [ea] at e
    cases e
set_option maxRecDepth 100000 in
theorem CloneByte_any (p : Blocks) (v : Value) (l : List UInt8) (w : World) (h : SlR byteR w p v l) (hn : l.length ≤ 1000000) :
    Calls Tryz.prog 54 #[v] w fun e w' => ∃ v', e = .returned v' ∧ Own byteR w' w.heap.size 5 NoB v' l ∧ Below w.heap.size w w' := by
  have HN := Lib.hid hn
  clear hn
  obtain ⟨a, c, rfl, hc, hm, _⟩ := h.byte
  have HH := Lib.hid h
  clear h
  have heq := fun wx a n c => Lib.run_eql_slice_nil (P := Tryz.prog) wx 55 5 a n c 0 0 Tryz.underlying55
  cases a with
  | none =>
    obtain rfl : l = [] := HH.out.byte_nil
    go_enter Tryz.func54, Tryz.ntmps54
    go_wp2
    go_ret
    exact ⟨_, rfl, Own.nil _ _ _ _ _, Below.refl _ _⟩
  | some ad =>
    go_enter Tryz.func54, Tryz.ntmps54
    have HB : Below w.heap.size w (w.alloc (.cells #[] 5)) := (Below.refl _ _).alloc (Nat.le_refl _) _
    have HX : Hid (SlR byteR (w.alloc (.cells #[] 5)) (fun k => p k ∧ k < w.heap.size) (.slice (some ad) l.length c) l) := HH.out.old.below HB
    have HO : Hid (Own byteR (w.alloc (.cells #[] 5)) w.heap.size 5 NoB (.slice (some ⟨w.heap.size, 0, none⟩) 0 0) []) := Own.made w _ _
    have C2 : Hid (∀ k, p k ∧ k < w.heap.size → some k ≠ Value.ownBlock (.slice (some ⟨w.heap.size, 0, none⟩) 0 0)) := fun k hk e => by simp [Value.ownBlock] at e; omega
    have C3 : Hid (([] : List UInt8).length + l.length ≤ 1000000) := by have := HN.out; simp; omega
    go_wp2_with (at_builtin; refine wpList_append_R _ rfl (.tmp 5) (.tmp 6) 55 rfl w.heap.size 5 1 elByte NoB _ _ _ [] l rfl rfl HO.out HX.out (fun _ h => False.elim h) C2.out (by have := C3.out; omega) (by have := C3.out; omega) HB.size ?_; intro v' w' hap; have HAP := Lib.hid hap; clear hap)
    obtain ⟨ho, hg, _⟩ := HAP.out
    go_ret
    exact ⟨_, rfl, ho.flat NoB, HB.grown hg HB.size (fun k hk => by cases hk; exact Nat.le_refl _)⟩

/-- block k is a row of bytes -/
def ByB (w : World) (k : Nat) : Prop := ∃ cs, w.heap[k]? = some (.cells cs 5 (0, 0))
theorem ByB.lt {w : World} {k : Nat} (h : ByB w k) : k < w.heap.size := by obtain ⟨cs, h⟩ := h; exact (Array.getElem?_eq_some_iff.1 h).1
/-- block k is a row of one of some types -/
def TyB (w : World) (ts : List TypeId) (k : Nat) : Prop := ∃ cs t, t ∈ ts ∧ w.heap[k]? = some (.cells cs t (0, 0))
theorem TyB.lt {w : World} {ts : List TypeId} {k : Nat} (h : TyB w ts k) : k < w.heap.size := by obtain ⟨cs, t, _, h⟩ := h; exact (Array.getElem?_eq_some_iff.1 h).1
theorem TyB.same {w w' : World} {ts : List TypeId} {k : Nat} (h : TyB w ts k) (e : w'.heap[k]? = w.heap[k]?) : TyB w' ts k := by obtain ⟨cs, t, ht, h⟩ := h; exact ⟨cs, t, ht, e.trans h⟩
/-- An accumulator with elements whose blocks, too, are the call's own rows of bytes, none of them the row. -/
def OwnL {α : Type} (R : Rep α) (w : World) (B : Nat) (e : TypeId) (v : Value) (xs : List α) : Prop :=
  ∃ p : Blocks, Own R w B e p v xs ∧ ∀ k, p k → B ≤ k ∧ v.ownBlock ≠ some k ∧ TyB w [e, 5] k
section
variable {α : Type} {R : Rep α}
theorem OwnL.nil (w : World) (B : Nat) (e : TypeId) : OwnL R w B e (.slice none 0 0) ([] : List α) := ⟨NoB, Own.nil _ _ _ _ _, fun _ h => h.elim⟩
theorem OwnL.slR {w : World} {B : Nat} {e : TypeId} {v : Value} {xs : List α} (h : OwnL R w B e v xs) : SlR R w (fun k => B ≤ k ∧ k < w.heap.size) v xs := by
  obtain ⟨p, ho, hp⟩ := h
  exact ((ho.slR (q := fun k => B ≤ k) (fun k hk => (hp k hk).1) (fun _ h => h)).old)
theorem Own.rowT {w : World} {B : Nat} {e : TypeId} {p : Blocks} {v : Value} {xs : List α} (h : Own R w B e p v xs) {k : Nat} (hk : v.ownBlock = some k) : ∃ cs, w.heap[k]? = some (.cells cs e (0, 0)) := by
  obtain ⟨cs, ho, _⟩ := h
  rcases ho.2 with ⟨hv, _⟩ | ⟨g, cap, cur, hv, _, hg, _⟩
  · rw [hv] at hk; cases hk
  · rw [hv] at hk
    injection hk with hk
    subst hk
    exact ⟨_, hg⟩
theorem Own.slO {w : World} {B : Nat} {e : TypeId} {p q : Blocks} {v : Value} {xs : List α} (h : Own R w B e p v xs) (hq : ∀ k, p k → q k) (hB : ∀ k, v.ownBlock = some k → q k) : SlR R w q v xs := by
  obtain ⟨cs, hrow, hels⟩ := h
  rcases hrow.2 with ⟨rfl, hn⟩ | ⟨g, cap, cur, rfl, hb, hg, hnc, hcm, hcs, htake⟩
  · obtain rfl : xs = [] := List.eq_nil_of_length_eq_zero hn
    exact SlR.nil _ _ _
  · have hcells : Cells w g 0 cs := fun j u hu => by
      have := hrow.cells (g := g) rfl j u hu
      have hadd : (⟨g, 0, none⟩ : Addr).add j = ⟨g, 0 + j, none⟩ := by unfold Addr.add; split <;> simp_all
      rwa [hadd] at this
    refine ⟨_, cap, rfl, hnc, hcm, fun i x hx => ?_⟩
    obtain ⟨c, hc, hr⟩ := hels.get hcells i x hx
    exact ⟨g, 0, c, rfl, hB _ rfl, (Array.getElem?_eq_some_iff.1 hg).1, hc, R.mono hq hr⟩
theorem OwnL.form {w : World} {B : Nat} {e : TypeId} {v : Value} {xs : List α} (h : OwnL R w B e v xs) : ∃ a cap, v = .slice a xs.length cap := by
  obtain ⟨p, ho, _⟩ := h
  exact ho.form
theorem OwnL.lt {w : World} {B : Nat} {e : TypeId} {v : Value} {xs : List α} (h : OwnL R w B e v xs) : ∀ k, v.ownBlock = some k → B ≤ k ∧ k < w.heap.size := by
  obtain ⟨p, ho, _⟩ := h
  exact ho.lt
/-- Whatever leaves rows of the two types from B on as they were. -/
theorem OwnL.keepT {w w' : World} {B : Nat} {e : TypeId} {v : Value} {xs : List α} (h : OwnL R w B e v xs) (hk : ∀ k, B ≤ k → TyB w [e, 5] k → w'.heap[k]? = w.heap[k]?) : OwnL R w' B e v xs := by
  obtain ⟨p, ho, hp⟩ := h
  have hsame : ∀ k, p k → w'.heap[k]? = w.heap[k]? := fun k hk2 => by
    obtain ⟨h1, _, h3⟩ := hp k hk2
    exact hk k h1 h3
  refine ⟨p, ho.keep (fun k hk2 => ?_), fun k hk2 => ⟨(hp k hk2).1, (hp k hk2).2.1, ?_⟩⟩
  · rcases hk2 with h2 | h2
    · exact hsame k h2
    · obtain ⟨cs, h3⟩ := ho.rowT h2
      exact hk k (ho.lt k h2).1 ⟨cs, _, by simp, h3⟩
  · exact (hp k hk2).2.2.same (hsame k hk2)
theorem OwnL.keep {w w' : World} {B : Nat} {e : TypeId} {v : Value} {xs : List α} (h : OwnL R w B e v xs) (hk : Keep (fun k => B ≤ k ∧ k < w.heap.size) w w') : OwnL R w' B e v xs :=
  h.keepT fun k h1 ⟨_, _, _, h2⟩ => hk k ⟨h1, (Array.getElem?_eq_some_iff.1 h2).1⟩
theorem OwnL.stay {w w' : World} {B : Nat} {e : TypeId} {v : Value} {xs : List α} (h : OwnL R w B e v xs) (hb : Below w.heap.size w w') : OwnL R w' B e v xs := h.keep (Keep.of_below hb fun _ hk => hk.2)
theorem OwnL.base {w : World} {B B' : Nat} {e : TypeId} {v : Value} {xs : List α} (h : OwnL R w B e v xs) (hB : B' ≤ B) : OwnL R w B' e v xs := by
  obtain ⟨p, ho, hp⟩ := h
  exact ⟨p, ho.base hB, fun k hk => ⟨Nat.le_trans hB (hp k hk).1, (hp k hk).2⟩⟩
/-- read, with the types of the blocks -/
theorem OwnL.slT {w : World} {B : Nat} {e : TypeId} {v : Value} {xs : List α} (h : OwnL R w B e v xs) : SlR R w (fun k => B ≤ k ∧ TyB w [e, 5] k) v xs := by
  obtain ⟨p, ho, hp⟩ := h
  refine ho.slO (fun k hk => ?_) (fun k hk => ?_)
  · exact ⟨(hp k hk).1, (hp k hk).2.2⟩
  · obtain ⟨cs, h3⟩ := ho.rowT hk
    exact ⟨(ho.lt k hk).1, cs, _, by simp, h3⟩

variable {P : Program}
def PushedL (R : Rep α) (w : World) (B : Nat) (e : TypeId) (row : Option Nat) (zs : List α) (v' : Value) (w' : World) : Prop := OwnL R w' B e v' zs ∧ w.grownBy w' row
theorem OwnL.pushed {w : World} {B bytes : Nat} {t ty e : TypeId} {v : Value} {xs : List α} {x : α} {q : Blocks} (hE : ElT P t e R.size bytes) (h : OwnL R w B e v xs) (cs : Array Value) (hx : R.rel w q cs.toList x)
    (hq : ∀ k, q k → B ≤ k ∧ v.ownBlock ≠ some k ∧ ByB w k) (hbytes : (xs.length + 1) * bytes ≤ 140737488355328) (hlen : xs.length + 1 ≤ 9223372036854775807) (hB : B ≤ w.heap.size) :
    ∃ a c w', (Builtin.append_ #[t, t] ty #[v, .slice (some ⟨w.heap.size, 0, none⟩) 1 1]).run P (w.alloc (.cells cs e)) = .ok (.slice a (xs.length + 1) c) w' ∧ PushedL R w B e v.ownBlock (xs ++ [x]) (.slice a (xs.length + 1) c) w' := by
  have hlt := h.lt
  obtain ⟨p, ho, hp⟩ := h
  have hone := slR_one hx e
  rw [Array.toArray_toList] at hone
  obtain ⟨v', w', hrun, ho2, hg, hv⟩ := run_append_R (P := P) (w := w.alloc (.cells cs e)) B t ty e bytes hE (p := p) (q := fun k => q k ∨ k = w.heap.size) (v := v)
    (vx := .slice (some ⟨w.heap.size, 0, none⟩) 1 1) (xs := xs) (ys := [x])
    (ho.keep (Keep.of_below ((Below.refl _ _).alloc (Nat.le_refl _) _) (fun k hk => by rcases hk with hk | hk; exact (hp k hk).2.2.lt; exact (hlt k hk).2))) hone (fun k hk e => (hp k hk).2.1 e.symm)
    (fun k hk e => by
      rcases hk with hk | rfl
      · exact (hq k hk).2.1 e.symm
      · exact absurd (hlt _ e.symm).2 (Nat.lt_irrefl _)) (by simpa using hbytes) (by simpa using hlen) (by simp; omega)
  obtain ⟨a, c, rfl⟩ := ho2.form
  have hg2 := grown_step (World.grownBy_alloc w (.cells cs e) _) hg
  rw [List.length_append, List.length_singleton] at hrun ho2 hv
  have hs1 : w.heap.size + 1 ≤ w'.heap.size := by have := hg.size; simpa using this
  have hv2 : Value.ownBlock (.slice a (xs.length + 1) c) = v.ownBlock ∨ Value.ownBlock (.slice a (xs.length + 1) c) = some (w.heap.size + 1) := by
    rcases hv with hv | hv
    · exact .inl hv
    · exact .inr (by simpa using hv)
  refine ⟨a, c, w', hrun, ⟨_, ho2, fun k hk => ?_⟩, hg2⟩
  have hne : ∀ k, v.ownBlock ≠ some k → k < w.heap.size + 1 → Value.ownBlock (.slice a (xs.length + 1) c) ≠ some k := fun k hk1 hk2 e => by
    rcases hv2 with e2 | e2
    · rw [e2] at e; exact hk1 e
    · rw [e2] at e; injection e with e; omega
  rcases hk with hk | hk | rfl
  · obtain ⟨h1, h2, h3⟩ := hp k hk
    exact ⟨h1, hne k h2 (by have := h3.lt; omega), h3.same (hg2.block k h3.lt (fun e => h2 e.symm))⟩
  · obtain ⟨h1, h2, cs2, h3⟩ := hq k hk
    have hlt3 := (Array.getElem?_eq_some_iff.1 h3).1
    exact ⟨h1, hne k h2 (by omega), cs2, _, by simp, (hg2.block k hlt3 (fun e => h2 e.symm)).trans h3⟩
  · have h2 : v.ownBlock ≠ some w.heap.size := fun e => absurd (hlt _ e).2 (Nat.lt_irrefl _)
    refine ⟨hB, hne _ h2 (by omega), cs, e, by simp, ?_⟩
    exact (hg.block _ (by simp) (fun e => h2 e.symm)).trans (heap_alloc_new w _)
theorem wp_pushL {o : Oper} {a : Act} {w : World} {K : Act → World → Prop} {Q : Exit → Act → World → Prop} (s x : Operand) (t : TypeId)
    (ho : o.op = .call { callee := .builtin .append, args := #[s, x], argTypes := #[t, t] })
    (B : Nat) (e : TypeId) (bytes : Nat) (hE : ElT P t e R.size bytes) (v : Value) (xs : List α) (y : α) (cs : Array Value) (q : Blocks) (hs : a.eval s = v) (hxe : a.eval x = .slice (some ⟨w.heap.size, 0, none⟩) 1 1) (hown : OwnL R w B e v xs)
    (hx : R.rel w q cs.toList y) (hq : ∀ k, q k → B ≤ k ∧ v.ownBlock ≠ some k ∧ ByB w k) (hbytes : (xs.length + 1) * bytes ≤ 140737488355328) (hlen : xs.length + 1 ≤ 9223372036854775807) (hB : B ≤ w.heap.size)
    (h : ∀ a' c' w', PushedL R w B e v.ownBlock (xs ++ [y]) (.slice a' (xs.length + 1) c') w' → K (a.put o.dst (.slice a' (xs.length + 1) c')) w') : o.wp P a (w.alloc (.cells cs e)) K Q := by
  obtain ⟨a', c', w', hrun, h2⟩ := hown.pushed (P := P) (ty := o.type) hE cs hx hq hbytes hlen hB
  unfold Oper.wp execOp
  simp only [ho, resolve, invoke, builtin, Sem.run_bind, Sem.run_pure, Result.andThen_ok, List.map_toArray, List.map_cons, List.map_nil, hs, hxe, hrun]
  exact h a' c' w' h2
theorem wpList_pushL {ops : Array Oper} {rest : List Oper} {o : Oper} {a : Act} {w : World} {Q : Exit → Act → World → Prop} (hgd : o.guard = none) (s x : Operand) (t : TypeId)
    (ho : o.op = .call { callee := .builtin .append, args := #[s, x], argTypes := #[t, t] })
    (B : Nat) (e : TypeId) (bytes : Nat) (hE : ElT P t e R.size bytes) (v : Value) (xs : List α) (y : α) (cs : Array Value) (q : Blocks) (hs : a.eval s = v) (hxe : a.eval x = .slice (some ⟨w.heap.size, 0, none⟩) 1 1) (hown : OwnL R w B e v xs)
    (hx : R.rel w q cs.toList y) (hq : ∀ k, q k → B ≤ k ∧ v.ownBlock ≠ some k ∧ ByB w k) (hbytes : (xs.length + 1) * bytes ≤ 140737488355328) (hlen : xs.length + 1 ≤ 9223372036854775807) (hB : B ≤ w.heap.size)
    (h : ∀ a' c' w', PushedL R w B e v.ownBlock (xs ++ [y]) (.slice a' (xs.length + 1) c') w' → wpList P ops Q rest (a.put o.dst (.slice a' (xs.length + 1) c')) w') : wpList P ops Q (o :: rest) a (w.alloc (.cells cs e)) :=
  wpList_plain hgd fun _ hK => wp_pushL s x t ho B e bytes hE v xs y cs q hs hxe hown hx hq hbytes hlen hB fun a' c' w' h2 => hK _ _ (h a' c' w' h2)
end
end Go.Proofs.YtcfjcoockklkeaaGreatDoor

/-
  image.Runs. Conditions: the library's table as its initialiser lays it.
-/
namespace Go.Proofs.YtcfjcoockklkeaaGreatDoor
open Go.RowKit

def runR : Rep (Nat × List UInt8) := Rep.pair (intR.via fun n : Nat => (n : Int)) (Rep.slice byteR)
theorem runR_size : runR.size = 2 := rfl
theorem elRun : ElT Tryz.prog 63 68 runR.size 32 := ElT.mk' (z := .agg #[.int .i64 0, .slice none 0 0]) Tryz.underlying63 (by kernel_rfl) rfl (by decide)
def bytesOf (v : Nat → UInt8) (a n : Nat) : List UInt8 := (List.range n).map fun i => v (a + i)
/-- the longest ranges from f on -/
def runsN (d : Nat → Bool) (v : Nat → UInt8) : Nat → Nat → List (Nat × List UInt8)
  | 0, _ => []
  | g + 1, f => if f < 65536 then (f, bytesOf v f (nextS d false f - f)) :: runsN d v g (nextS d true (nextS d false f)) else []
def runsOf (d : Nat → Bool) (v : Nat → UInt8) : List (Nat × List UInt8) := runsN d v 65537 (nextS d true 0)
theorem next_past {d : Nat → Bool} {f : Nat} (hf : f < 65536) (h : d f = true) : f < nextS d false f ∧ nextS d false f ≤ 65536 := by
  obtain ⟨h1, h2, _, h4⟩ := nextS_spec d false f (Nat.le_of_lt hf)
  refine ⟨?_, h2⟩
  rcases Nat.lt_or_ge f (nextS d false f) with hlt | hge
  · exact hlt
  · have e : nextS d false f = f := Nat.le_antisymm hge h1
    rw [e] at h4
    have := h4 hf
    rw [h] at this
    cases this
theorem img_bytes {w : World} {b n f t : Nat} {d : Nat → Bool} {v : Nat → UInt8} (h : ImgC w b d v n) (hf : f ≤ t) (ht : t ≤ 65536) :
    SlR byteR w (fun k => k = b) (.slice (some ⟨b, 1025 + f, none⟩) (t - f) (65536 - f)) (bytesOf v f (t - f)) := by
  have hl : (bytesOf v f (t - f)).length = t - f := by simp [bytesOf]
  refine ⟨_, 65536 - f, by rw [hl], by omega, by unfold maxLen; omega, fun i x hx => ?_⟩
  have hi : i < t - f := by rw [← hl]; exact (List.getElem?_eq_some_iff.1 hx).1
  have hx2 : v (f + i) = x := by simpa [bytesOf, hi] using hx
  refine ⟨b, 1025 + f, [.int .u8 x.toNat], rfl, rfl, h.lt, fun j u hu => ?_, rfl⟩
  cases j with
  | succ j => simp at hu
  | zero =>
    simp at hu
    subst hu
    rw [byteR_size, show 1025 + f + i * 1 + 0 = 1025 + (f + i) by omega, h.bytes (f + i) (by omega), hx2]
theorem run_cut_img2 (b f t : Nat) (hf : f < 65536) (hft : f ≤ t) (ht : t ≤ 65536) (w : World) : (Instr.sliceAt 94 (.pointer (some ⟨b, 1025, none⟩)) (some (.int .i64 (f : Int))) (some (.int .i64 (t : Int))) none).run Tryz.prog w = .ok (.slice (some ⟨b, 1025 + f, none⟩) (t - f) (65536 - f)) w := by
  have hu : Tryz.prog.underlying 94 = some (.array 65536 5) := by kernel_rfl
  have he : Tryz.prog.elem 94 = 5 := by simp [Program.elem, hu]
  have hl : Tryz.prog.arrayLen 94 = 65536 := by simp [Program.arrayLen, hu]
  have hz : (Tryz.prog.info? 5).map (·.size) = some 1 := by kernel_rfl
  have hs : (sizeOf 5).run Tryz.prog w = .ok 1 w := by
    cases hq : Tryz.prog.info? 5 with
    | none => simp [hq] at hz
    | some i => have : i.size = 1 := by simpa [hq] using hz
                simp [sizeOf, typeInfo, hq, this]
  have e := run_sliceAt_array_lh (P := Tryz.prog) w 94 ⟨b, 1025, none⟩ (by rw [hl, he]; exact hu) .i64 .i64 (f : Int) (t : Int) (by omega) (by omega) (by rw [hl]; omega)
  rw [e, he, hs, hl]
  have ea : (⟨b, 1025, none⟩ : Addr).add (f * 1) = ⟨b, 1025 + f, none⟩ := by rw [Nat.mul_one]; unfold Addr.add; split <;> simp_all
  have hne : ¬ (65536 = f) := by omega
  simp only [Result.andThen, slicedAt, Int.toNat_natCast, ea, if_neg hne]
theorem runsN_end (d : Nat → Bool) (v : Nat → UInt8) : ∀ g, runsN d v g 65536 = []
  | 0 => rfl
  | g + 1 => by rw [runsN, if_neg (by omega)]
/-- What stands while Runs works. -/
structure RnH (w0 : World) (b n : Nat) (d : Nat → Bool) (v : Nat → UInt8) (rs : List (Nat × List UInt8)) (g f : Nat) (o : Value) (w : World) : Prop where
  le : f ≤ 65536
  at_ : f < 65536 → d f = true
  fuel : 65536 < g + f
  all : runsOf d v = rs ++ runsN d v g f
  own : OwnL runR w w0.heap.size 68 o rs
  few : rs.length ≤ f
  below : Below w0.heap.size w0 w
theorem rnH_start {w : World} {b n : Nat} {d : Nat → Bool} {v : Nat → UInt8} : RnH w b n d v [] 65537 (nextS d true 0) (.slice none 0 0) w := by
  obtain ⟨_, h2, _, h4⟩ := nextS_spec d true 0 (by omega)
  exact ⟨h2, fun h => by have := h4 h; simpa using this, by omega, rfl, OwnL.nil _ _ _, by simp, Below.refl _ _⟩
theorem RnH.step {w0 wr w' : World} {b n g f : Nat} {d : Nat → Bool} {v : Nat → UInt8} {rs : List (Nat × List UInt8)} {o o' : Value} (h : RnH w0 b n d v rs (g + 1) f o wr) (hf : f < 65536)
    (ho : OwnL runR w' w0.heap.size 68 o' (rs ++ [(f, bytesOf v f (nextS d false f - f))])) (hb : Below w0.heap.size w0 w') : RnH w0 b n d v (rs ++ [(f, bytesOf v f (nextS d false f - f))]) g (nextS d true (nextS d false f)) o' w' := by
  obtain ⟨h1, h2⟩ := next_past hf (h.at_ hf)
  obtain ⟨g1, g2, _, g4⟩ := nextS_spec d true (nextS d false f) h2
  refine ⟨g2, fun hx => by simpa using g4 hx, by have := h.fuel; omega, ?_, ho, by have := h.few; simp; omega, hb⟩
  rw [h.all, runsN, if_pos hf, List.append_assoc]; rfl

set_option maxRecDepth 100000 in
set_option maxHeartbeats 2000000 in
theorem Runs_any (b n : Nat) (d : Nat → Bool) (v : Nat → UInt8) (w : World) (h : ImgC w b d v n) (hT : Deb w) :
    Calls Tryz.prog 28 #[.pointer (some ⟨b, 0, none⟩)] w fun e w' => ∃ v', e = .returned v' ∧ OwnL runR w' w.heap.size 68 v' (runsOf d v) ∧ Below w.heap.size w w' := by
  have HI := Lib.hid h
  have HT := Lib.hid hT
  have HN0 := Lib.hid (next_true b n 0 d v w h hT (by omega))
  have HST := Lib.hid (rnH_start (w := w) (b := b) (n := n) (d := d) (v := v))
  have HBL := Lib.hid h.lt
  have hle0 : nextS d true 0 ≤ 65536 := HST.out.le
  have HL0 := Lib.hid hle0
  clear h hT hle0
  generalize nextS d true 0 = f0 at *
  go_enter Tryz.func28, Tryz.ntmps28
  go_wp2_with (go_at_call 53; refine HN0.out.mono ?_; rintro e w' ⟨rfl, rfl⟩)
  go_loopw [3, 4] (fun o i wr => ∃ g f : Nat, ∃ rs, i = .int .i64 f ∧ RnH w b n d v rs g f o wr) (fun _ i _ => 65536 - (intOf i).toNat)
  case atStart => exact ⟨65537, f0, [], rfl, HST.out⟩
  case round =>
    obtain ⟨g, f, rs, rfl, hr⟩ := hrel
    have HR := Lib.hid hr
    obtain ⟨oa, oc, rfl⟩ := hr.own.form
    have hf0 : (0 : Int) ≤ (f : Int) := by omega
    have hfm : (f : Int) ≤ 100000 := by have := hr.le; omega
    clear hr
    by_cases hlt : f < 65536
    · obtain ⟨g, rfl⟩ : ∃ k, g = k + 1 := ⟨g - 1, by have := HR.out.fuel; omega⟩
      have h1 : decide ((f : Int) < 65536) = true := by simp; omega
      obtain ⟨hp1, hp2⟩ := next_past hlt (HR.out.at_ hlt)
      have HIr := Lib.hid (HI.out.below HR.out.below HBL.out)
      have HTr := Lib.hid (HT.out.below HR.out.below)
      have HNF := Lib.hid (next_false b n f d v wr HIr.out HTr.out (Nat.le_of_lt hlt))
      have HSTEP := Lib.hid (fun (w' : World) (o' : Value) => HR.out.step (w' := w') (o' := o') hlt)
      have HSL := Lib.hid (img_bytes (f := f) HIr.out (Nat.le_of_lt hp1) hp2)
      have HLT := Lib.hid hlt
      have HLF := Lib.hid hp1
      have HLE := Lib.hid hp2
      have hlb : (bytesOf v f (nextS d false f - f)).length ≤ 1000000 := by simp [bytesOf]; omega
      have HLB := Lib.hid hlb
      clear hlt hp1 hp2 hlb
      generalize nextS d false f = t at *
      have HCUT := Lib.hid (run_cut_img2 b f t HLT.out (Nat.le_of_lt HLF.out) HLE.out)
      generalize bytesOf v f (t - f) = bl at *
      have ht0 : (0 : Int) ≤ (t : Int) := by omega
      have htm : (t : Int) ≤ 100000 := by have := HLE.out; omega
      have hcut := HCUT.out
      generalize t - f = k1 at *
      generalize 65536 - f = k2 at *
      go_upto_region 7 with (go_at_call 53; refine HNF.out.mono ?_; rintro e w' ⟨rfl, rfl⟩)
      clear h1
      have hs0 : w.heap.size ≤ wr.heap.size := HR.out.below.size
      have HS0 := Lib.hid hs0
      clear hs0
      go_wp2_with (first
        | (go_at_call 54; refine (CloneByte_any _ _ _ _ HSL.out HLB.out).mono ?_; rintro e w2 ⟨v2, rfl, ho2, hb2⟩; obtain ⟨a2, c2, rfl⟩ := ho2.form; have HO2 := Lib.hid ho2; have HB2 := Lib.hid hb2; clear ho2 hb2)
        | (at_builtin; refine wpList_pushL rfl (.tmp 19) (.tmp 29) 63 rfl w.heap.size 68 32 elRun _ rs (f, bl) _ (fun k => Value.ownBlock (.slice a2 bl.length c2) = some k) rfl rfl (HR.out.own.stay HB2.out) ⟨[.int .i64 f], [.slice a2 bl.length c2], rfl, rfl, ⟨_, rfl, HO2.out.slO (fun _ h => h.elim) (fun _ h => h)⟩⟩ (fun k hk => ⟨Nat.le_trans HS0.out (HO2.out.lt k hk).1, fun e => absurd (HR.out.own.lt _ e).2 (Nat.not_lt.2 (HO2.out.lt k hk).1), HO2.out.rowT hk⟩) (by have := HR.out.few; have := HR.out.le; omega) (by have := HR.out.few; have := HR.out.le; omega) (Nat.le_trans HS0.out HB2.out.size) ?_
           intro a' c' w' hp
           have HBW : Hid (Below w.heap.size w w') := (HR.out.below.trans (HB2.out.mono HS0.out)).grown hp.2 (Nat.le_trans HS0.out HB2.out.size) (fun k hk => (HR.out.own.lt k hk).1)
           have HP := Lib.hid hp.1
           clear hp)
        | (go_at_call 53; refine (next_true b n t d v w' (HI.out.below HBW.out HBL.out) (HT.out.below HBW.out) HLE.out).mono ?_; rintro e w3 ⟨rfl, rfl⟩))
      have hnx := (nextS_spec d true t HLE.out).1
      go_roundw
      case rel => exact ⟨g, nextS d true t, rs ++ [(f, bl)], rfl, HSTEP.out _ _ HP.out HBW.out⟩
      case measure => have := HLF.out; have := HLT.out; simp [intOf]; omega
    · obtain rfl : f = 65536 := by have := HR.out.le; omega
      have hall := HR.out.all
      rw [runsN_end, List.append_nil] at hall
      have HALL := Lib.hid hall
      clear hall
      go_wp2
      go_ret
      exact ⟨_, rfl, by rw [HALL.out]; exact HR.out.own, HR.out.below⟩
end Go.Proofs.YtcfjcoockklkeaaGreatDoor
