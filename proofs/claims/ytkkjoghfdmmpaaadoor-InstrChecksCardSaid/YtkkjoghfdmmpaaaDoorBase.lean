/-
  The representation of Go's data in memory: cells, slices of structs (nested ones too), what keeps a reading, an accumulator of the call's own. Conditions: none.
-/
import Derived.WalkKit
import Derived.WalkSpells
import Derived.WalkLawsBesides
import Derived.Lib.Hide
import Derived.Maps.AppendAt
namespace Go.Proofs.YtkkjoghfdmmpaaaDoor
open Go.RowKit

theorem ret_bool {a b : Bool} (h : a = b) : Ending.returned (.bool a) = .returned (.bool b) := by rw [h]
theorem ret_int {k : IntKind} {a b : Int} (h : a = b) : Ending.returned (.int k a) = .returned (.int k b) := by rw [h]
theorem ret_str {a b : ByteArray} (h : a = b) : Ending.returned (.string a) = .returned (.string b) := by rw [h]
theorem drewN2 (w : World) (a b : Nat) : (w.drewN a).drewN b = w.drewN (a + b) := World.drewN_drewN w a b
theorem drew_drewN (w : World) (a : Nat) : (w.drewN a).drew = w.drewN (a + 1) := World.drewN_drewN w a 1

/-- The cells of a stretch. -/
def Cells (w : World) (b o : Nat) (vs : List Value) : Prop := ∀ j v, vs[j]? = some v → w.cell? ⟨b, o + j, none⟩ = some v

/-- Block g is just the cells cs of element type t, none frozen. -/
def Blk (w : World) (g : Nat) (t : TypeId) (cs : Array Value) : Prop := w.heap[g]? = some (.cells cs t (0, 0))
theorem Blk.lt {w : World} {g : Nat} {t : TypeId} {cs : Array Value} (h : Blk w g t cs) : g < w.heap.size := (Array.getElem?_eq_some_iff.1 h).1
theorem Blk.cell {w : World} {g : Nat} {t : TypeId} {cs : Array Value} (h : Blk w g t cs) (i : Nat) : w.cell? ⟨g, i, none⟩ = cs[i]? := cell_of_row w g i cs t (0, 0) h
theorem Blk.free {w : World} {g : Nat} {t : TypeId} {cs : Array Value} (h : Blk w g t cs) (i : Nat) : w.frozen? ⟨g, i, none⟩ = false := frozen_of_row w g i cs t h
theorem Blk.new (w : World) (t : TypeId) (cs : Array Value) : Blk (w.alloc (.cells cs t)) w.heap.size t cs := heap_alloc_new w _
theorem Blk.alloc {w : World} {g : Nat} {t : TypeId} {cs : Array Value} (h : Blk w g t cs) (o : Obj) : Blk (w.alloc o) g t cs := (Below.heap_alloc w o g h.lt).trans h
theorem Blk.below {w w' : World} {g : Nat} {t : TypeId} {cs : Array Value} {B : Nat} (h : Blk w g t cs) (hb : Below B w w') (hg : g < B) : Blk w' g t cs := (hb.block g hg).trans h
theorem Blk.grown {w w' : World} {g : Nat} {t : TypeId} {cs : Array Value} {row : Option Nat} (h : Blk w g t cs) (hb : w.grownBy w' row) (hg : some g ≠ row) : Blk w' g t cs := (hb.block g h.lt hg).trans h
theorem Blk.set {w : World} {g : Nat} {t : TypeId} {cs : Array Value} (h : Blk w g t cs) (i : Nat) (u : Value) : Blk (w.setCell ⟨g, i, none⟩ u) g t (cs.setIfInBounds i u) := by
  unfold Blk at h ⊢
  simp [World.setCell, Array.getElem?_modify, h]
theorem Blk.far {w : World} {g : Nat} {t : TypeId} {cs : Array Value} (h : Blk w g t cs) {p : Addr} (hp : g ≠ p.block) (u : Value) : Blk (w.setCell p u) g t cs := (Below.heap_setCell w p u g hp).trans h
theorem Blk.one {w : World} {g : Nat} {t : TypeId} {x : Value} (h : Blk w g t #[x]) : w.cell? ⟨g, 0, none⟩ = some x ∧ w.frozen? ⟨g, 0, none⟩ = false := ⟨h.cell 0, h.free 0⟩
theorem Blk.two {w : World} {g : Nat} {t : TypeId} {x y : Value} (h : Blk w g t #[x, y]) : w.cell? ⟨g, 0, none⟩ = some x ∧ w.cell? ⟨g, 1, none⟩ = some y ∧ w.frozen? ⟨g, 0, none⟩ = false ∧ w.frozen? ⟨g, 1, none⟩ = false :=
  ⟨h.cell 0, h.cell 1, h.free 0, h.free 1⟩
theorem Blk.three {w : World} {g : Nat} {t : TypeId} {x y z : Value} (h : Blk w g t #[x, y, z]) : w.cell? ⟨g, 0, none⟩ = some x ∧ w.cell? ⟨g, 1, none⟩ = some y ∧ w.cell? ⟨g, 2, none⟩ = some z ∧ w.frozen? ⟨g, 0, none⟩ = false ∧ w.frozen? ⟨g, 1, none⟩ = false ∧ w.frozen? ⟨g, 2, none⟩ = false :=
  ⟨h.cell 0, h.cell 1, h.cell 2, h.free 0, h.free 1, h.free 2⟩

abbrev Blocks := Nat → Prop
/-- All blocks of p read as they did. -/
def Keep (p : Blocks) (w w' : World) : Prop := ∀ k, p k → w'.heap[k]? = w.heap[k]?
theorem Keep.refl (p : Blocks) (w : World) : Keep p w w := fun _ _ => rfl
theorem Keep.trans {p : Blocks} {a b c : World} (h : Keep p a b) (k : Keep p b c) : Keep p a c := fun i hi => (k i hi).trans (h i hi)
theorem Keep.mono {p q : Blocks} {a b : World} (h : Keep q a b) (hp : ∀ k, p k → q k) : Keep p a b := fun i hi => h i (hp i hi)
theorem Keep.of_below {B : Nat} {p : Blocks} {w w' : World} (h : Below B w w') (hp : ∀ k, p k → k < B) : Keep p w w' := fun k hk => h.block k (hp k hk)
theorem Keep.alloc {p : Blocks} {w : World} (hp : ∀ k, p k → k < w.heap.size) (o : Obj) : Keep p w (w.alloc o) := fun k hk => Below.heap_alloc _ _ _ (hp k hk)
theorem Keep.grown {p : Blocks} {w w' : World} {row : Option Nat} (h : w.grownBy w' row) (hp : ∀ k, p k → k < w.heap.size ∧ some k ≠ row) : Keep p w w' := fun k hk => h.block k (hp k hk).1 (hp k hk).2
theorem Keep.setCell {p : Blocks} {w : World} {a : Addr} (hp : ∀ k, p k → k ≠ a.block) (u : Value) : Keep p w (w.setCell a u) := fun k hk => Below.heap_setCell _ _ _ _ (hp k hk)
theorem Keep.drew {p : Blocks} (w : World) : Keep p w w.drew := fun _ _ => rfl

theorem Cells.keep {w w' : World} {b o : Nat} {vs : List Value} (h : Cells w b o vs) (hk : w'.heap[b]? = w.heap[b]?) : Cells w' b o vs :=
  fun j v hv => (World.cell?_of_block (w := w) hk).trans (h j v hv)
theorem Cells.nil (w : World) (b o : Nat) : Cells w b o [] := fun j v h => by simp at h
theorem Cells.append {w : World} {b o : Nat} {xs ys : List Value} (h1 : Cells w b o xs) (h2 : Cells w b (o + xs.length) ys) : Cells w b o (xs ++ ys) := by
  intro j v hv
  by_cases hj : j < xs.length
  · rw [List.getElem?_append_left hj] at hv; exact h1 j v hv
  · rw [List.getElem?_append_right (by omega)] at hv
    have := h2 _ v hv
    rwa [show o + xs.length + (j - xs.length) = o + j by omega] at this
theorem Cells.left {w : World} {b o : Nat} {xs ys : List Value} (h : Cells w b o (xs ++ ys)) : Cells w b o xs := fun j v hv =>
  h j v (by rw [List.getElem?_append_left (List.getElem?_eq_some_iff.1 hv).1]; exact hv)
theorem Cells.right {w : World} {b o : Nat} {xs ys : List Value} (h : Cells w b o (xs ++ ys)) : Cells w b (o + xs.length) ys := fun j v hv => by
  have := h (xs.length + j) v (by rw [List.getElem?_append_right (by omega)]; simpa using hv)
  rwa [← Nat.add_assoc] at this
theorem Cells.one {w : World} {b o : Nat} {v : Value} (h : w.cell? ⟨b, o, none⟩ = some v) : Cells w b o [v] := fun j u hu => by
  cases j with
  | zero => simp at hu; subst hu; exact h
  | succ j => simp at hu
theorem Cells.get {w : World} {b o : Nat} {vs : List Value} (h : Cells w b o vs) (j : Nat) {v : Value} (hv : vs[j]? = some v) : w.cell? ⟨b, o + j, none⟩ = some v := h j v hv
theorem Cells.head {w : World} {b o : Nat} {v : Value} {vs : List Value} (h : Cells w b o (v :: vs)) : w.cell? ⟨b, o, none⟩ = some v := h 0 v rfl

/-- How a Go type's values lie in cells: how many cells; what cells read as x, all blocks that the reading meets being of p. -/
structure Rep (α : Type) where
  size : Nat
  rel : World → Blocks → List Value → α → Prop
  len : ∀ {w p cs x}, rel w p cs x → cs.length = size
  keep : ∀ {w w' p cs x}, Keep p w w' → rel w p cs x → rel w' p cs x
  mono : ∀ {w p q cs x}, (∀ k, p k → q k) → rel w p cs x → rel w q cs x
  old : ∀ {w p cs x}, rel w p cs x → rel w (fun k => p k ∧ k < w.heap.size) cs x
  one : ∀ {w p cs x}, rel w p cs x → ∀ u ∈ cs, u.oneCell' = true

/-- No cell is a pointer: the cells are a function of x. -/
def Rep.flat {α : Type} (n : Nat) (enc : α → List Value) (h : ∀ x, (enc x).length = n) (h1 : ∀ x, ∀ u ∈ enc x, u.oneCell' = true) : Rep α where
  size := n
  rel := fun _ _ cs x => cs = enc x
  len := fun e => by subst e; exact h _
  keep := fun _ e => e
  mono := fun _ e => e
  old := fun e => e
  one := fun e => by subst e; exact h1 _

/-- A slice value that reads as xs. -/
def SlR {α : Type} (R : Rep α) (w : World) (p : Blocks) (v : Value) (xs : List α) : Prop :=
  ∃ a cap, v = .slice a xs.length cap ∧ xs.length ≤ cap ∧ cap ≤ maxLen ∧
    ∀ i x, xs[i]? = some x → ∃ b o cs, a = some ⟨b, o, none⟩ ∧ p b ∧ b < w.heap.size ∧ Cells w b (o + i * R.size) cs ∧ R.rel w p cs x

theorem heap_lt {w w' : World} {k : Nat} (h : k < w.heap.size) (e : w'.heap[k]? = w.heap[k]?) : k < w'.heap.size := by
  rw [Array.getElem?_eq_getElem h] at e
  exact (Array.getElem?_eq_some_iff.1 e).1
theorem SlR.keep {α : Type} {R : Rep α} {w w' : World} {p : Blocks} {v : Value} {xs : List α} (h : SlR R w p v xs) (hk : Keep p w w') : SlR R w' p v xs := by
  obtain ⟨a, cap, e, h1, h2, h3⟩ := h
  refine ⟨a, cap, e, h1, h2, fun i x hx => ?_⟩
  obtain ⟨b, o, cs, ea, hb, hbs, hc, hr⟩ := h3 i x hx
  exact ⟨b, o, cs, ea, hb, heap_lt hbs (hk b hb), hc.keep (hk b hb), R.keep hk hr⟩
theorem SlR.mono {α : Type} {R : Rep α} {w : World} {p q : Blocks} {v : Value} {xs : List α} (h : SlR R w p v xs) (hp : ∀ k, p k → q k) : SlR R w q v xs := by
  obtain ⟨a, cap, e, h1, h2, h3⟩ := h
  refine ⟨a, cap, e, h1, h2, fun i x hx => ?_⟩
  obtain ⟨b, o, cs, ea, hb, hbs, hc, hr⟩ := h3 i x hx
  exact ⟨b, o, cs, ea, hp _ hb, hbs, hc, R.mono hp hr⟩
theorem SlR.old {α : Type} {R : Rep α} {w : World} {p : Blocks} {v : Value} {xs : List α} (h : SlR R w p v xs) : SlR R w (fun k => p k ∧ k < w.heap.size) v xs := by
  obtain ⟨a, cap, e, h1, h2, h3⟩ := h
  refine ⟨a, cap, e, h1, h2, fun i x hx => ?_⟩
  obtain ⟨b, o, cs, ea, hb, hbs, hc, hr⟩ := h3 i x hx
  exact ⟨b, o, cs, ea, ⟨hb, hbs⟩, hbs, hc, R.old hr⟩
/-- A reading stands in a world in which all that there was lies unturned. -/
theorem SlR.below {α : Type} {R : Rep α} {w w' : World} {p : Blocks} {v : Value} {xs : List α} (h : SlR R w p v xs) (hb : Below w.heap.size w w') : SlR R w' p v xs :=
  (h.old.keep (Keep.of_below hb fun _ hk => hk.2)).mono fun _ hk => hk.1
theorem SlR.alloc {α : Type} {R : Rep α} {w : World} {p : Blocks} {v : Value} {xs : List α} (h : SlR R w p v xs) (o : Obj) : SlR R (w.alloc o) p v xs :=
  h.below ((Below.refl _ _).alloc (Nat.le_refl _) o)
theorem SlR.drewN {α : Type} {R : Rep α} {w : World} {p : Blocks} {v : Value} {xs : List α} (h : SlR R w p v xs) (n : Nat) : SlR R (w.drewN n) p v xs := h.keep fun _ _ => rfl
theorem SlR.drew {α : Type} {R : Rep α} {w : World} {p : Blocks} {v : Value} {xs : List α} (h : SlR R w p v xs) : SlR R w.drew p v xs := h.keep fun _ _ => rfl
theorem SlR.nil {α : Type} (R : Rep α) (w : World) (p : Blocks) : SlR R w p (.slice none 0 0) [] := ⟨none, 0, rfl, Nat.le_refl _, Nat.zero_le _, fun i x h => by simp at h⟩
theorem SlR.len_le {α : Type} {R : Rep α} {w : World} {p : Blocks} {v : Value} {xs : List α} (h : SlR R w p v xs) : xs.length ≤ 9223372036854775807 := by
  obtain ⟨a, cap, e, h1, h2, h3⟩ := h
  simp only [maxLen] at h2
  omega
/-- A slice as a field or an element. -/
def Rep.slice {α : Type} (R : Rep α) : Rep (List α) where
  size := 1
  rel := fun w p cs xs => ∃ v, cs = [v] ∧ SlR R w p v xs
  len := fun ⟨_, e, _⟩ => by subst e; rfl
  keep := fun hk ⟨v, e, h⟩ => ⟨v, e, h.keep hk⟩
  mono := fun hp ⟨v, e, h⟩ => ⟨v, e, h.mono hp⟩
  old := fun ⟨v, e, h⟩ => ⟨v, e, h.old⟩
  one := fun ⟨v, e, a, cap, hv, _⟩ u hu => by subst e; subst hv; simp at hu; subst hu; rfl
/-- Two parts, one behind the other. -/
def Rep.pair {α β : Type} (R : Rep α) (S : Rep β) : Rep (α × β) where
  size := R.size + S.size
  rel := fun w p cs x => ∃ c1 c2, cs = c1 ++ c2 ∧ R.rel w p c1 x.1 ∧ S.rel w p c2 x.2
  len := fun ⟨c1, c2, e, h1, h2⟩ => by subst e; rw [List.length_append, R.len h1, S.len h2]
  keep := fun hk ⟨c1, c2, e, h1, h2⟩ => ⟨c1, c2, e, R.keep hk h1, S.keep hk h2⟩
  mono := fun hp ⟨c1, c2, e, h1, h2⟩ => ⟨c1, c2, e, R.mono hp h1, S.mono hp h2⟩
  old := fun ⟨c1, c2, e, h1, h2⟩ => ⟨c1, c2, e, R.old h1, S.old h2⟩
  one := fun ⟨c1, c2, e, h1, h2⟩ u hu => by
    subst e
    rcases List.mem_append.1 hu with h | h
    · exact R.one h1 u h
    · exact S.one h2 u h
/-- Seen through a function. -/
def Rep.via {α β : Type} (R : Rep α) (f : β → α) : Rep β where
  size := R.size
  rel := fun w p cs x => R.rel w p cs (f x)
  len := R.len
  keep := R.keep
  mono := R.mono
  old := R.old
  one := R.one

/-- Cells that read as a list's elements, one behind the other. -/
def Els {α : Type} (R : Rep α) (w : World) (p : Blocks) : List Value → List α → Prop
  | cs, [] => cs = []
  | cs, x :: xs => ∃ c1 c2, cs = c1 ++ c2 ∧ R.rel w p c1 x ∧ Els R w p c2 xs
theorem Els.keep {α : Type} {R : Rep α} {w w' : World} {p : Blocks} (hk : Keep p w w') : ∀ {xs : List α} {cs : List Value}, Els R w p cs xs → Els R w' p cs xs
  | [], _, h => h
  | _ :: _, _, ⟨c1, c2, e, h1, h2⟩ => ⟨c1, c2, e, R.keep hk h1, Els.keep hk h2⟩
theorem Els.mono {α : Type} {R : Rep α} {w : World} {p q : Blocks} (hp : ∀ k, p k → q k) : ∀ {xs : List α} {cs : List Value}, Els R w p cs xs → Els R w q cs xs
  | [], _, h => h
  | _ :: _, _, ⟨c1, c2, e, h1, h2⟩ => ⟨c1, c2, e, R.mono hp h1, Els.mono hp h2⟩
theorem Els.snoc {α : Type} {R : Rep α} {w : World} {p : Blocks} {x : α} {c : List Value} (hc : R.rel w p c x) : ∀ {xs : List α} {cs : List Value}, Els R w p cs xs → Els R w p (cs ++ c) (xs ++ [x])
  | [], _, h => ⟨c, [], by simp only [Els] at h; subst h; simp, hc, rfl⟩
  | _ :: _, _, ⟨c1, c2, e, h1, h2⟩ => ⟨c1, c2 ++ c, by rw [e, List.append_assoc], h1, Els.snoc hc h2⟩
theorem Els.append {α : Type} {R : Rep α} {w : World} {p : Blocks} {ys : List α} {ds : List Value} (hd : Els R w p ds ys) : ∀ {xs : List α} {cs : List Value}, Els R w p cs xs → Els R w p (cs ++ ds) (xs ++ ys)
  | [], _, h => by simp only [Els] at h; subst h; simpa using hd
  | _ :: _, _, ⟨c1, c2, e, h1, h2⟩ => ⟨c1, c2 ++ ds, by rw [e, List.append_assoc], h1, Els.append hd h2⟩
theorem Els.len {α : Type} {R : Rep α} {w : World} {p : Blocks} : ∀ {xs : List α} {cs : List Value}, Els R w p cs xs → cs.length = xs.length * R.size
  | [], _, h => by simp only [Els] at h; subst h; simp
  | _ :: _, _, ⟨c1, c2, e, h1, h2⟩ => by subst e; rw [List.length_append, R.len h1, Els.len h2, List.length_cons, Nat.add_mul]; omega
theorem Els.old {α : Type} {R : Rep α} {w : World} {p : Blocks} : ∀ {xs : List α} {cs : List Value}, Els R w p cs xs → Els R w (fun k => p k ∧ k < w.heap.size) cs xs
  | [], _, h => h
  | _ :: _, _, ⟨c1, c2, e, h1, h2⟩ => ⟨c1, c2, e, R.old h1, Els.old h2⟩
theorem Els.one {α : Type} {R : Rep α} {w : World} {p : Blocks} : ∀ {xs : List α} {cs : List Value}, Els R w p cs xs → ∀ u ∈ cs, u.oneCell' = true
  | [], _, h, u, hu => by simp only [Els] at h; subst h; simp at hu
  | _ :: _, _, ⟨c1, c2, e, h1, h2⟩, u, hu => by
    subst e
    rcases List.mem_append.1 hu with h | h
    · exact R.one h1 u h
    · exact Els.one h2 u h
theorem Els.get {α : Type} {R : Rep α} {w : World} {p : Blocks} {b o : Nat} : ∀ {xs : List α} {cs : List Value}, Els R w p cs xs → Cells w b o cs → ∀ i x, xs[i]? = some x → ∃ c, Cells w b (o + i * R.size) c ∧ R.rel w p c x
  | [], _, _, _, i, x, hx => by simp at hx
  | y :: ys, _, ⟨c1, c2, e, h1, h2⟩, hc, i, x, hx => by
    subst e
    cases i with
    | zero => simp at hx; subst hx; exact ⟨c1, by simpa using hc.left, h1⟩
    | succ i =>
      have hr := hc.right
      rw [R.len h1] at hr
      obtain ⟨c, hcc, hrel⟩ := Els.get h2 hr i x (by simpa using hx)
      refine ⟨c, ?_, hrel⟩
      rwa [show o + R.size + i * R.size = o + (i + 1) * R.size by rw [Nat.add_mul]; omega] at hcc

/-- An accumulator of the call's own, from block B on: its row, and what the row's cells read as. -/
def Own {α : Type} (R : Rep α) (w : World) (B : Nat) (e : TypeId) (p : Blocks) (v : Value) (xs : List α) : Prop :=
  ∃ cs, w.ownsRow B e R.size v xs.length cs ∧ Els R w p cs xs
theorem Own.nil {α : Type} (R : Rep α) (w : World) (B : Nat) (e : TypeId) (p : Blocks) : Own R w B e p (.slice none 0 0) ([] : List α) := ⟨[], World.ownsRow_nil _ _ _ _, rfl⟩
theorem Own.keep {α : Type} {R : Rep α} {w w' : World} {B : Nat} {e : TypeId} {p : Blocks} {v : Value} {xs : List α} (h : Own R w B e p v xs) (hk : Keep (fun k => p k ∨ v.ownBlock = some k) w w') : Own R w' B e p v xs := by
  obtain ⟨cs, hrow, hels⟩ := h
  refine ⟨cs, ⟨hrow.1, ?_⟩, hels.keep (hk.mono fun k hp => .inl hp)⟩
  rcases hrow.2 with hn | ⟨g, cap, cur, rfl, hb, hg, rest⟩
  · exact .inl hn
  · exact .inr ⟨g, cap, cur, rfl, hb, (hk g (.inr rfl)).trans hg, rest⟩
theorem Own.base {α : Type} {R : Rep α} {w : World} {B B' : Nat} {e : TypeId} {p : Blocks} {v : Value} {xs : List α} (h : Own R w B e p v xs) (hB : B' ≤ B) : Own R w B' e p v xs := by
  obtain ⟨cs, hrow, hels⟩ := h
  refine ⟨cs, ⟨hrow.1, ?_⟩, hels⟩
  rcases hrow.2 with hn | ⟨g, cap, cur, rfl, hb, rest⟩
  · exact .inl hn
  · exact .inr ⟨g, cap, cur, rfl, Nat.le_trans hB hb, rest⟩
theorem Own.lt {α : Type} {R : Rep α} {w : World} {B : Nat} {e : TypeId} {p : Blocks} {v : Value} {xs : List α} (h : Own R w B e p v xs) : ∀ k, v.ownBlock = some k → B ≤ k ∧ k < w.heap.size := by
  obtain ⟨cs, hrow, _⟩ := h
  exact hrow.lt
theorem Own.mono {α : Type} {R : Rep α} {w : World} {B : Nat} {e : TypeId} {p q : Blocks} {v : Value} {xs : List α} (h : Own R w B e p v xs) (hp : ∀ k, p k → q k) : Own R w B e q v xs := by
  obtain ⟨cs, hrow, hels⟩ := h
  exact ⟨cs, hrow, hels.mono hp⟩
theorem Own.form {α : Type} {R : Rep α} {w : World} {B : Nat} {e : TypeId} {p : Blocks} {v : Value} {xs : List α} (h : Own R w B e p v xs) : ∃ a cap, v = .slice a xs.length cap := by
  obtain ⟨cs, hrow, hels⟩ := h
  rcases hrow.2 with ⟨rfl, hn⟩ | ⟨g, cap, cur, rfl, _⟩
  · exact ⟨none, 0, by rw [hn]⟩
  · exact ⟨_, cap, rfl⟩
theorem Own.slR {α : Type} {R : Rep α} {w : World} {B : Nat} {e : TypeId} {p q : Blocks} {v : Value} {xs : List α} (h : Own R w B e p v xs) (hq : ∀ k, p k → q k) (hB : ∀ k, B ≤ k → q k) : SlR R w q v xs := by
  obtain ⟨cs, hrow, hels⟩ := h
  rcases hrow.2 with ⟨rfl, hn⟩ | ⟨g, cap, cur, rfl, hb, hg, hnc, hcm, hcs, htake⟩
  · obtain rfl : xs = [] := List.eq_nil_of_length_eq_zero hn
    exact SlR.nil _ _ _
  · have hcells : Cells w g 0 cs := fun j u hu => by
      have := hrow.cells (g := g) rfl j u hu
      have hadd : (⟨g, 0, none⟩ : Addr).add j = ⟨g, 0 + j, none⟩ := by unfold Addr.add; split <;> simp_all
      rwa [hadd] at this
    refine ⟨_, cap, rfl, hnc, hcm, fun i x hx => ?_⟩
    obtain ⟨c, hc, hr⟩ := hels.get hcells i x hx
    exact ⟨g, 0, c, rfl, hB _ hb, (Array.getElem?_eq_some_iff.1 hg).1, hc, R.mono hq hr⟩
end Go.Proofs.YtkkjoghfdmmpaaaDoor
