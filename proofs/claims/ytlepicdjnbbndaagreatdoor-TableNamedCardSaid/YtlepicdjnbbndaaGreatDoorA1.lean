/-
  An accumulator whose elements have blocks of the call's own. Conditions: the new length's bytes.
-/
import Derived.Test.YtlepicdjnbbndaaGreatDoorG1
namespace Go.Proofs.YtlepicdjnbbndaaGreatDoor
open Go.RowKit

/-- An accumulator with elements whose blocks, too, are the call's own, none of them the row. -/
def Acc {α : Type} (R : Rep α) (w : World) (B : Nat) (e : TypeId) (v : Value) (xs : List α) : Prop :=
  ∃ p : Blocks, Own R w B e p v xs ∧ ∀ k, p k → B ≤ k ∧ k < w.heap.size ∧ v.ownBlock ≠ some k
section
variable {α : Type} {R : Rep α}
theorem Acc.nil (w : World) (B : Nat) (e : TypeId) : Acc R w B e (.slice none 0 0) ([] : List α) := ⟨NoB, Own.nil _ _ _ _ _, fun _ h => h.elim⟩
theorem Acc.slR {w : World} {B : Nat} {e : TypeId} {v : Value} {xs : List α} (h : Acc R w B e v xs) : SlR R w (fun k => B ≤ k ∧ k < w.heap.size) v xs := by
  obtain ⟨p, ho, hp⟩ := h
  exact ((ho.slR (q := fun k => B ≤ k) (fun k hk => (hp k hk).1) (fun _ h => h)).old)
theorem Acc.form {w : World} {B : Nat} {e : TypeId} {v : Value} {xs : List α} (h : Acc R w B e v xs) : ∃ a cap, v = .slice a xs.length cap := by
  obtain ⟨p, ho, _⟩ := h
  exact ho.form
theorem Acc.lt {w : World} {B : Nat} {e : TypeId} {v : Value} {xs : List α} (h : Acc R w B e v xs) : ∀ k, v.ownBlock = some k → B ≤ k ∧ k < w.heap.size := by
  obtain ⟨p, ho, _⟩ := h
  exact ho.lt
theorem Acc.keep {w w' : World} {B : Nat} {e : TypeId} {v : Value} {xs : List α} (h : Acc R w B e v xs) (hk : Keep (fun k => B ≤ k ∧ k < w.heap.size) w w') (hs : w.heap.size ≤ w'.heap.size) : Acc R w' B e v xs := by
  obtain ⟨p, ho, hp⟩ := h
  refine ⟨p, ho.keep (fun k hk2 => ?_), fun k hk2 => ⟨(hp k hk2).1, Nat.lt_of_lt_of_le (hp k hk2).2.1 hs, (hp k hk2).2.2⟩⟩
  rcases hk2 with h2 | h2
  · exact hk k ⟨(hp k h2).1, (hp k h2).2.1⟩
  · exact hk k (ho.lt k h2)
theorem Acc.stay {w w' : World} {B : Nat} {e : TypeId} {v : Value} {xs : List α} (h : Acc R w B e v xs) (hb : Below w.heap.size w w') : Acc R w' B e v xs := h.keep (Keep.of_below hb fun _ hk => hk.2) hb.size
theorem Acc.base {w : World} {B B' : Nat} {e : TypeId} {v : Value} {xs : List α} (h : Acc R w B e v xs) (hB : B' ≤ B) : Acc R w B' e v xs := by
  obtain ⟨p, ho, hp⟩ := h
  exact ⟨p, ho.base hB, fun k hk => ⟨Nat.le_trans hB (hp k hk).1, (hp k hk).2⟩⟩

variable {P : Program}
/-- What an append leaves. -/
def AccP (R : Rep α) (w : World) (B : Nat) (e : TypeId) (row : Option Nat) (zs : List α) (v' : Value) (w' : World) : Prop := Acc R w' B e v' zs ∧ w.grownBy w' row ∧ (v'.ownBlock = row ∨ ∃ k, v'.ownBlock = some k ∧ w.heap.size ≤ k)
theorem AccP.below {w w' : World} {B : Nat} {e : TypeId} {v : Value} {xs zs : List α} {v' : Value} (h : AccP R w B e v.ownBlock zs v' w') (ha : Acc R w B e v xs) (hB : B ≤ w.heap.size) : Below B w w' :=
  (Below.refl _ _).grown h.2.1 hB (fun k hk => (ha.lt k hk).1)
/-- 'append(out, l...)' -/
theorem Acc.appended {w : World} {B bytes : Nat} {t ty e : TypeId} {v vx : Value} {xs ys : List α} {q : Blocks} (hE : ElT P t e R.size bytes) (h : Acc R w B e v xs) (hx : SlR R w q vx ys)
    (hq : ∀ k, q k → B ≤ k ∧ v.ownBlock ≠ some k) (hbytes : (xs.length + ys.length) * bytes ≤ 140737488355328) (hlen : xs.length + ys.length ≤ 9223372036854775807) (hB : B ≤ w.heap.size) :
    ∃ a c w', (Builtin.append_ #[t, t] ty #[v, vx]).run P w = .ok (.slice a (xs.length + ys.length) c) w' ∧ AccP R w B e v.ownBlock (xs ++ ys) (.slice a (xs.length + ys.length) c) w' := by
  have hlt := h.lt
  obtain ⟨p, ho, hp⟩ := h
  obtain ⟨v', w', hrun, ho2, hg, hv⟩ := run_append_R (P := P) (w := w) B t ty e bytes hE (p := p) (q := fun k => q k ∧ k < w.heap.size) ho hx.old (fun k hk e => (hp k hk).2.2 e.symm) (fun k hk e => (hq k hk.1).2 e.symm) hbytes hlen hB
  obtain ⟨a, c, rfl⟩ := ho2.form
  rw [List.length_append] at hrun ho2 hv
  have hv3 : Value.ownBlock (.slice a (xs.length + ys.length) c) = v.ownBlock ∨ ∃ k, Value.ownBlock (.slice a (xs.length + ys.length) c) = some k ∧ w.heap.size ≤ k := hv.imp id (fun e => ⟨_, e, Nat.le_refl _⟩)
  refine ⟨a, c, w', hrun, ⟨_, ho2, fun k hk => ?_⟩, hg, hv3⟩
  have hne : ∀ k, v.ownBlock ≠ some k → k < w.heap.size → Value.ownBlock (.slice a (xs.length + ys.length) c) ≠ some k := fun k hk1 hk2 e => by
    rcases hv with e2 | e2
    · rw [e2] at e; exact hk1 e
    · rw [e2] at e; injection e with e; omega
  have hs := hg.size
  rcases hk with hk | hk
  · obtain ⟨h1, h2, h3⟩ := hp k hk
    exact ⟨h1, by omega, hne k h3 h2⟩
  · obtain ⟨h1, h2⟩ := hq k hk.1
    exact ⟨h1, by have := hk.2; omega, hne k h2 hk.2⟩
theorem wp_append_A {o : Oper} {a : Act} {w : World} {K : Act → World → Prop} {Q : Exit → Act → World → Prop} (s x : Operand) (t : TypeId)
    (ho : o.op = .call { callee := .builtin .append, args := #[s, x], argTypes := #[t, t] })
    (B : Nat) (e : TypeId) (bytes : Nat) (hE : ElT P t e R.size bytes) (v vx : Value) (xs ys : List α) (q : Blocks) (hs : a.eval s = v) (hxe : a.eval x = vx) (hown : Acc R w B e v xs)
    (hx : SlR R w q vx ys) (hq : ∀ k, q k → B ≤ k ∧ v.ownBlock ≠ some k) (hbytes : (xs.length + ys.length) * bytes ≤ 140737488355328) (hlen : xs.length + ys.length ≤ 9223372036854775807) (hB : B ≤ w.heap.size)
    (h : ∀ a' c' w', AccP R w B e v.ownBlock (xs ++ ys) (.slice a' (xs.length + ys.length) c') w' → K (a.put o.dst (.slice a' (xs.length + ys.length) c')) w') : o.wp P a w K Q := by
  obtain ⟨a', c', w', hrun, h2⟩ := hown.appended (P := P) (ty := o.type) hE hx hq hbytes hlen hB
  unfold Oper.wp execOp
  simp only [ho, resolve, invoke, builtin, Sem.run_bind, Sem.run_pure, Result.andThen_ok, List.map_toArray, List.map_cons, List.map_nil, hs, hxe, hrun]
  exact h a' c' w' h2
theorem wpList_append_A {ops : Array Oper} {rest : List Oper} {o : Oper} {a : Act} {w : World} {Q : Exit → Act → World → Prop} (hgd : o.guard = none) (s x : Operand) (t : TypeId)
    (ho : o.op = .call { callee := .builtin .append, args := #[s, x], argTypes := #[t, t] })
    (B : Nat) (e : TypeId) (bytes : Nat) (hE : ElT P t e R.size bytes) (v vx : Value) (xs ys : List α) (q : Blocks) (hs : a.eval s = v) (hxe : a.eval x = vx) (hown : Acc R w B e v xs)
    (hx : SlR R w q vx ys) (hq : ∀ k, q k → B ≤ k ∧ v.ownBlock ≠ some k) (hbytes : (xs.length + ys.length) * bytes ≤ 140737488355328) (hlen : xs.length + ys.length ≤ 9223372036854775807) (hB : B ≤ w.heap.size)
    (h : ∀ a' c' w', AccP R w B e v.ownBlock (xs ++ ys) (.slice a' (xs.length + ys.length) c') w' → wpList P ops Q rest (a.put o.dst (.slice a' (xs.length + ys.length) c')) w') : wpList P ops Q (o :: rest) a w :=
  wpList_plain hgd fun _ hK => wp_append_A s x t ho B e bytes hE v vx xs ys q hs hxe hown hx hq hbytes hlen hB fun a' c' w' h2 => hK _ _ (h a' c' w' h2)
/-- 'append(out, x)' -/
theorem Acc.pushed {w : World} {B bytes : Nat} {t ty e : TypeId} {v : Value} {xs : List α} {x : α} {q : Blocks} (hE : ElT P t e R.size bytes) (h : Acc R w B e v xs) (cs : Array Value) (hx : R.rel w q cs.toList x)
    (hq : ∀ k, q k → B ≤ k ∧ v.ownBlock ≠ some k) (hbytes : (xs.length + 1) * bytes ≤ 140737488355328) (hlen : xs.length + 1 ≤ 9223372036854775807) (hB : B ≤ w.heap.size) :
    ∃ a c w', (Builtin.append_ #[t, t] ty #[v, .slice (some ⟨w.heap.size, 0, none⟩) 1 1]).run P (w.alloc (.cells cs e)) = .ok (.slice a (xs.length + 1) c) w' ∧ AccP R w B e v.ownBlock (xs ++ [x]) (.slice a (xs.length + 1) c) w' := by
  have hone := slR_one hx e
  rw [Array.toArray_toList] at hone
  obtain ⟨a, c, w', hrun, h1, h2⟩ := Acc.appended (P := P) (w := w.alloc (.cells cs e)) (ty := ty) (ys := [x]) (q := fun k => q k ∨ k = w.heap.size) hE (h.stay ((Below.refl _ _).alloc (Nat.le_refl _) _)) hone
    (fun k hk => by
      rcases hk with hk | rfl
      · exact hq k hk
      · exact ⟨hB, fun e => absurd (h.lt _ e).2 (Nat.lt_irrefl _)⟩) (by simpa using hbytes) (by simpa using hlen) (by simp; omega)
  rw [List.length_singleton] at hrun h1 h2
  exact ⟨a, c, w', hrun, h1, grown_step (World.grownBy_alloc w _ _) h2.1, h2.2.imp id (fun ⟨k, e, hk⟩ => ⟨k, e, by rw [World.size_alloc] at hk; omega⟩)⟩
theorem wp_push_A {o : Oper} {a : Act} {w : World} {K : Act → World → Prop} {Q : Exit → Act → World → Prop} (s x : Operand) (t : TypeId)
    (ho : o.op = .call { callee := .builtin .append, args := #[s, x], argTypes := #[t, t] })
    (B : Nat) (e : TypeId) (bytes : Nat) (hE : ElT P t e R.size bytes) (v : Value) (xs : List α) (y : α) (cs : Array Value) (q : Blocks) (hs : a.eval s = v) (hxe : a.eval x = .slice (some ⟨w.heap.size, 0, none⟩) 1 1) (hown : Acc R w B e v xs)
    (hx : R.rel w q cs.toList y) (hq : ∀ k, q k → B ≤ k ∧ v.ownBlock ≠ some k) (hbytes : (xs.length + 1) * bytes ≤ 140737488355328) (hlen : xs.length + 1 ≤ 9223372036854775807) (hB : B ≤ w.heap.size)
    (h : ∀ a' c' w', AccP R w B e v.ownBlock (xs ++ [y]) (.slice a' (xs.length + 1) c') w' → K (a.put o.dst (.slice a' (xs.length + 1) c')) w') : o.wp P a (w.alloc (.cells cs e)) K Q := by
  obtain ⟨a', c', w', hrun, h2⟩ := hown.pushed (P := P) (ty := o.type) hE cs hx hq hbytes hlen hB
  unfold Oper.wp execOp
  simp only [ho, resolve, invoke, builtin, Sem.run_bind, Sem.run_pure, Result.andThen_ok, List.map_toArray, List.map_cons, List.map_nil, hs, hxe, hrun]
  exact h a' c' w' h2
theorem wpList_push_A {ops : Array Oper} {rest : List Oper} {o : Oper} {a : Act} {w : World} {Q : Exit → Act → World → Prop} (hgd : o.guard = none) (s x : Operand) (t : TypeId)
    (ho : o.op = .call { callee := .builtin .append, args := #[s, x], argTypes := #[t, t] })
    (B : Nat) (e : TypeId) (bytes : Nat) (hE : ElT P t e R.size bytes) (v : Value) (xs : List α) (y : α) (cs : Array Value) (q : Blocks) (hs : a.eval s = v) (hxe : a.eval x = .slice (some ⟨w.heap.size, 0, none⟩) 1 1) (hown : Acc R w B e v xs)
    (hx : R.rel w q cs.toList y) (hq : ∀ k, q k → B ≤ k ∧ v.ownBlock ≠ some k) (hbytes : (xs.length + 1) * bytes ≤ 140737488355328) (hlen : xs.length + 1 ≤ 9223372036854775807) (hB : B ≤ w.heap.size)
    (h : ∀ a' c' w', AccP R w B e v.ownBlock (xs ++ [y]) (.slice a' (xs.length + 1) c') w' → wpList P ops Q rest (a.put o.dst (.slice a' (xs.length + 1) c')) w') : wpList P ops Q (o :: rest) a (w.alloc (.cells cs e)) :=
  wpList_plain hgd fun _ hK => wp_push_A s x t ho B e bytes hE v xs y cs q hs hxe hown hx hq hbytes hlen hB fun a' c' w' h2 => hK _ _ (h a' c' w' h2)
end
end Go.Proofs.YtlepicdjnbbndaaGreatDoor
