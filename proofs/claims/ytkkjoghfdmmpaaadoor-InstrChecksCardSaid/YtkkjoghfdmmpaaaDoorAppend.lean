/-
  append onto an accumulator of the call's own, the source a slice that reads as a list (nil let in). Conditions: the new length's bytes.
-/
import Derived.Test.YtkkjoghfdmmpaaaDoorBase
import Derived.OwnWalkIn
import Derived.Deep.RegionLaw
namespace Go.Proofs.YtkkjoghfdmmpaaaDoor
open Go.RowKit

/-- What the program's tables say of a slice type and its element type. -/
structure ElT (P : Program) (t e : TypeId) (size bytes : Nat) : Prop where
  ht : P.underlying t = some (.slice e)
  info : ∃ i z, P.info? e = some i ∧ i.zero = some z ∧ i.size = size ∧ i.bytes = bytes ∧ z.cells.size = size
  pos : 0 < size
theorem ElT.mk' {P : Program} {t e : TypeId} {z : Value} {size bytes : Nat} (ht : P.underlying t = some (.slice e)) (hi : (P.info? e).map (fun i => (i.zero, i.size, i.bytes)) = some (some z, size, bytes)) (hz : z.cells.size = size) (hp : 0 < size) : ElT P t e size bytes := by
  obtain ⟨i, h1, h2, h3, h4⟩ := info_parts hi
  exact ⟨ht, ⟨i, z, h1, h2, h3, h4, hz⟩, hp⟩

theorem Els.of_slR {α : Type} {R : Rep α} {w : World} {p : Blocks} {b o : Nat} : ∀ (xs : List α) (k : Nat), (∀ i x, xs[i]? = some x → ∃ cs, Cells w b (o + (k + i) * R.size) cs ∧ R.rel w p cs x) →
    ∃ cs, Els R w p cs xs ∧ Cells w b (o + k * R.size) cs
  | [], k, _ => ⟨[], rfl, Cells.nil _ _ _⟩
  | x :: xs, k, h => by
    obtain ⟨c1, hc1, hr1⟩ := h 0 x rfl
    obtain ⟨c2, he, hc2⟩ := Els.of_slR xs (k + 1) (fun i y hy => by
      obtain ⟨c, h1, h2⟩ := h (i + 1) y (by simpa using hy)
      exact ⟨c, by rwa [show k + (i + 1) = k + 1 + i by omega] at h1, h2⟩)
    refine ⟨c1 ++ c2, ⟨c1, c2, rfl, hr1, he⟩, Cells.append (by simpa using hc1) ?_⟩
    rw [R.len hr1]
    rwa [show (k + 1) * R.size = k * R.size + R.size by rw [Nat.add_mul]; omega, ← Nat.add_assoc] at hc2
/-- The cells behind a slice that reads as a list. -/
theorem SlR.cells {α : Type} {R : Rep α} {w : World} {p : Blocks} {a : Option Addr} {n cap : Nat} {xs : List α} (h : SlR R w p (.slice a n cap) xs) (ad : Addr) (ha : a = some ad) :
    n = xs.length ∧ ∃ cs, Els R w p cs xs ∧ ∀ j u, cs[j]? = some u → w.cell? (ad.add j) = some u := by
  obtain ⟨a', cap', e, h1, h2, h3⟩ := h
  injection e with e1 e2 e3
  subst e1 e2 e3 ha
  refine ⟨rfl, ?_⟩
  cases xs with
  | nil => exact ⟨[], rfl, fun j u hu => by simp at hu⟩
  | cons x xs =>
    obtain ⟨b, o, cs0, ea, _⟩ := h3 0 x rfl
    injection ea with ea
    subst ea
    obtain ⟨cs, he, hc⟩ := Els.of_slR (o := o) (b := b) (x :: xs) 0 (fun i y hy => by
      obtain ⟨b', o', c, ea, _, _, hc, hr⟩ := h3 i y hy
      injection ea with ea
      injection ea with e1 e2
      subst e1 e2
      exact ⟨c, by simpa using hc, hr⟩)
    refine ⟨cs, he, fun j u hu => ?_⟩
    have := hc j u hu
    have hadd : (⟨b, o, none⟩ : Addr).add j = ⟨b, o + j, none⟩ := by unfold Addr.add; split <;> simp_all
    rw [hadd]
    simpa using this

/-- The one-element slice that 'append(s, x)' lays. -/
theorem slR_one {α : Type} {R : Rep α} {w : World} {p : Blocks} {cs : List Value} {x : α} (h : R.rel w p cs x) (e : TypeId) : SlR R (w.alloc (.cells cs.toArray e)) (fun k => p k ∨ k = w.heap.size) (.slice (some ⟨w.heap.size, 0, none⟩) 1 1) [x] := by
  refine ⟨_, 1, rfl, Nat.le_refl _, by simp [maxLen], fun i y hy => ?_⟩
  cases i with
  | succ i => simp at hy
  | zero =>
    simp at hy
    subst hy
    refine ⟨w.heap.size, 0, cs, rfl, .inr rfl, by simp, fun j u hu => ?_, R.mono (fun k hk => .inl hk.1) (R.keep (Keep.alloc (fun k hk => hk.2) _) (R.old h))⟩
    simp only [Nat.zero_mul, Nat.zero_add]
    rw [World.cell?_alloc_at _ _ _ _ rfl]
    simpa using hu

section
variable {P : Program} (w : World)
theorem run_append_nothing (base : Nat) (t ty e : TypeId) (size bytes : Nat) (hE : ElT P t e size bytes) (v : Value) (n : Nat) (xs : List Value) (hown : w.ownsRow base e size v n xs) (c : Nat) :
    (Builtin.append_ #[t, t] ty #[v, .slice none 0 c]).run P w = .ok v w := by
  obtain ⟨i, z, hi, _⟩ := hE.info
  rcases hown.2 with ⟨rfl, rfl⟩ | ⟨g, cap, cur, rfl, _, _, hnc, _⟩
  · simp [Builtin.append_, run_underlying hE.ht, sizeOf, typeInfo, hi, Builtin.lenOf, Builtin.firstCells]
  · simp [Builtin.append_, run_underlying hE.ht, sizeOf, typeInfo, hi, Builtin.lenOf, Builtin.firstCells, hnc, storeCells]

/-- What an append leaves: the accumulator with the new elements; the new row lies where the elder lay, or is the new block. -/
def Appended {α : Type} (R : Rep α) (w : World) (B : Nat) (e : TypeId) (p : Blocks) (v : Value) (zs : List α) (v' : Value) (w' : World) : Prop :=
  Own R w' B e p v' zs ∧ w.grownBy w' v.ownBlock ∧ (v'.ownBlock = v.ownBlock ∨ v'.ownBlock = some w.heap.size)

theorem run_append_R {α : Type} {R : Rep α} (B : Nat) (t ty e : TypeId) (bytes : Nat) (hE : ElT P t e R.size bytes) {p q : Blocks} {v vx : Value} {xs ys : List α} (hown : Own R w B e p v xs) (hx : SlR R w q vx ys)
    (hp : ∀ k, p k → some k ≠ v.ownBlock) (hq : ∀ k, q k → some k ≠ v.ownBlock) (hbytes : (xs.length + ys.length) * bytes ≤ 140737488355328) (hlen : xs.length + ys.length ≤ 9223372036854775807) (hB : B ≤ w.heap.size) :
    ∃ v' w', (Builtin.append_ #[t, t] ty #[v, vx]).run P w = .ok v' w' ∧ Appended R w B e (fun k => p k ∨ q k) v (xs ++ ys) v' w' := by
  obtain ⟨cs, hrow, hels⟩ := hown
  have hx' := hx
  obtain ⟨a, cap, rfl, h1, h2, h3⟩ := hx'
  have keepP : ∀ {w' : World}, w.grownBy w' v.ownBlock → ∀ {r : Blocks}, (∀ k, r k → some k ≠ v.ownBlock) → Keep (fun k => r k ∧ k < w.heap.size) w w' := fun hg r hr => Keep.grown hg (fun k hk => ⟨hk.2, hr k hk.1⟩)
  cases a with
  | none =>
    obtain rfl : ys = [] := by
      cases ys with
      | nil => rfl
      | cons y ys => obtain ⟨b, o, c, ea, _⟩ := h3 0 y rfl; cases ea
    exact ⟨v, w, run_append_nothing w B t ty e R.size bytes hE v _ cs hrow cap, ⟨cs, by simpa using hrow, by simpa using hels.mono (fun k hk => .inl hk)⟩, World.grownBy.refl w _, .inl rfl⟩
  | some ad =>
    obtain ⟨_, news, hn, hcells⟩ := hx.cells ad rfl
    obtain ⟨i, z, hi, hz, hs, hb, hzs⟩ := hE.info
    obtain ⟨v', w', hrun, h4, h5, _, h6⟩ := run_append_own_at (P := P) w B t ty e i z R.size bytes hE.ht hi hz hs hb hzs hE.pos v xs.length cs hrow ad ys.length cap news hn.len hcells hn.one (by simp only [maxLen]; omega) hbytes hB
    refine ⟨v', w', hrun, ⟨cs ++ news, by simpa using h4, ?_⟩, h5, h6⟩
    refine Els.append ?_ ?_
    · exact (Els.keep (keepP h5 hq) (Els.old hn)).mono (fun k hk => .inr hk.1)
    · exact (Els.keep (keepP h5 hp) (Els.old hels)).mono (fun k hk => .inl hk.1)

theorem wp_append_R {α : Type} {R : Rep α} {o : Oper} {a : Act} {K : Act → World → Prop} {Q : Exit → Act → World → Prop} (s x : Operand) (t : TypeId)
    (ho : o.op = .call { callee := .builtin .append, args := #[s, x], argTypes := #[t, t] })
    (B : Nat) (e : TypeId) (bytes : Nat) (hE : ElT P t e R.size bytes) (p q : Blocks) (v vx : Value) (xs ys : List α) (hs : a.eval s = v) (hxe : a.eval x = vx) (hown : Own R w B e p v xs) (hx : SlR R w q vx ys)
    (hp : ∀ k, p k → some k ≠ v.ownBlock) (hq : ∀ k, q k → some k ≠ v.ownBlock) (hbytes : (xs.length + ys.length) * bytes ≤ 140737488355328) (hlen : xs.length + ys.length ≤ 9223372036854775807) (hB : B ≤ w.heap.size)
    (h : ∀ v' w', Appended R w B e (fun k => p k ∨ q k) v (xs ++ ys) v' w' → K (a.put o.dst v') w') : o.wp P a w K Q := by
  obtain ⟨v', w', hrun, h2⟩ := run_append_R (P := P) w B t o.type e bytes hE hown hx hp hq hbytes hlen hB
  unfold Oper.wp execOp
  simp only [ho, resolve, invoke, builtin, Sem.run_bind, Sem.run_pure, Result.andThen_ok, List.map_toArray, List.map_cons, List.map_nil, hs, hxe, hrun]
  exact h v' w' h2
theorem wpList_append_R {α : Type} {R : Rep α} {ops : Array Oper} {rest : List Oper} {o : Oper} {a : Act} {Q : Exit → Act → World → Prop} (hgd : o.guard = none) (s x : Operand) (t : TypeId)
    (ho : o.op = .call { callee := .builtin .append, args := #[s, x], argTypes := #[t, t] })
    (B : Nat) (e : TypeId) (bytes : Nat) (hE : ElT P t e R.size bytes) (p q : Blocks) (v vx : Value) (xs ys : List α) (hs : a.eval s = v) (hxe : a.eval x = vx) (hown : Own R w B e p v xs) (hx : SlR R w q vx ys)
    (hp : ∀ k, p k → some k ≠ v.ownBlock) (hq : ∀ k, q k → some k ≠ v.ownBlock) (hbytes : (xs.length + ys.length) * bytes ≤ 140737488355328) (hlen : xs.length + ys.length ≤ 9223372036854775807) (hB : B ≤ w.heap.size)
    (h : ∀ v' w', Appended R w B e (fun k => p k ∨ q k) v (xs ++ ys) v' w' → wpList P ops Q rest (a.put o.dst v') w') : wpList P ops Q (o :: rest) a w :=
  wpList_plain hgd fun _ hK => wp_append_R w s x t ho B e bytes hE p q v vx xs ys hs hxe hown hx hp hq hbytes hlen hB fun v' w' h2 => hK _ _ (h v' w' h2)
theorem step_append_R {α : Type} {R : Rep α} {ops : Array Oper} {o : Oper} {a : Act} {K : Act → World → Prop} {Q : Exit → Act → World → Prop} {E : Prop} (hgd : o.guard = none) (s x : Operand) (t : TypeId)
    (ho : o.op = .call { callee := .builtin .append, args := #[s, x], argTypes := #[t, t] })
    (B : Nat) (e : TypeId) (bytes : Nat) (hE : ElT P t e R.size bytes) (p q : Blocks) (v vx : Value) (xs ys : List α) (hs : a.eval s = v) (hxe : a.eval x = vx) (hown : Own R w B e p v xs) (hx : SlR R w q vx ys)
    (hp : ∀ k, p k → some k ≠ v.ownBlock) (hq : ∀ k, q k → some k ≠ v.ownBlock) (hbytes : (xs.length + ys.length) * bytes ≤ 140737488355328) (hlen : xs.length + ys.length ≤ 9223372036854775807) (hB : B ≤ w.heap.size)
    (h : ∀ v' w', Appended R w B e (fun k => p k ∨ q k) v (xs ++ ys) v' w' → K (a.put o.dst v') w') : if Region.wanted o (yielded ops a.tmps) = true then Oper.wp P o a w K Q else E := by
  have hw : Region.wanted o (yielded ops a.tmps) = true := by simp [Region.wanted, hgd]
  rw [if_pos hw]
  exact wp_append_R w s x t ho B e bytes hE p q v vx xs ys hs hxe hown hx hp hq hbytes hlen hB h
theorem wpListIn_append_R {F : Fence} {nF : Nat} {α : Type} {R : Rep α} {ops : Array Oper} {rest : List Oper} {o : Oper} {a : Act} {Q : Exit → Act → World → Prop} (hgd : o.guard = none) (s x : Operand) (t : TypeId)
    (ho : o.op = .call { callee := .builtin .append, args := #[s, x], argTypes := #[t, t] })
    (B : Nat) (e : TypeId) (bytes : Nat) (hE : ElT P t e R.size bytes) (p q : Blocks) (v vx : Value) (xs ys : List α) (hs : a.eval s = v) (hxe : a.eval x = vx) (hown : Own R w B e p v xs) (hx : SlR R w q vx ys)
    (hp : ∀ k, p k → some k ≠ v.ownBlock) (hq : ∀ k, q k → some k ≠ v.ownBlock) (hbytes : (xs.length + ys.length) * bytes ≤ 140737488355328) (hlen : xs.length + ys.length ≤ 9223372036854775807) (hB : B ≤ w.heap.size)
    (h : ∀ v' w', Appended R w B e (fun k => p k ∨ q k) v (xs ++ ys) v' w' → wpListIn F nF P ops Q rest (a.put o.dst v') w') : wpListIn F nF P ops Q (o :: rest) a w := by
  refine wpListIn_plain hgd fun K hK' => ?_
  obtain ⟨v', w', hrun, h2⟩ := run_append_R (P := P) w B t o.type e bytes hE hown hx hp hq hbytes hlen hB
  unfold Oper.wpIn
  refine ⟨?_, ?_⟩
  · simp [Oper.about, ho, resolve, Target.leads, Sem.run_pure]
  · rw [Oper.semAt_plain F _ _ (by rw [ho]; intro c hc'; cases hc')]
    simp [execOp, ho, resolve, invoke, builtin, hs, hxe, hrun, Result.andThen]
    exact hK' _ _ (h v' w' h2)
end
end Go.Proofs.YtkkjoghfdmmpaaaDoor
