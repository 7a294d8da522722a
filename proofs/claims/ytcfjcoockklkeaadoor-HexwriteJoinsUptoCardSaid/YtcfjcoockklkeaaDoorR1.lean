/-
  A LAW: a range over a function whose rounds are told what the memory holds of what they are handed. Conditions: none.
-/
import Derived.Test.YtcfjcoockklkeaaDoorW5
import Derived.RangeFuncNested
import Derived.RangeFuncBound
import Derived.RangeFuncCalls
import Derived.RangeFuncLeaves
import Derived.TacticsInMore
import Derived.LoopNIn
import Derived.LoopIn
namespace Go.Proofs.YtcfjcoockklkeaaDoor
open Go.RowKit

section
variable {α : Type} {F : Fence} {n : Nat} {P : Program}
/-- An iterator's promise: each round is told Rx of what it is handed; a round keeps T; the iterator itself lays new blocks alone. -/
def MemSeq (F : Fence) (m : Nat) (P : Program) (g : Nat) (lb : Array Value) (encs : α → Array Value) (T : World → World → Prop) (Rx : List α → α → World → Prop) (S : List α → Prop) (w : World) : Prop :=
  ∀ (l : Nat) (J : List α → World → Prop) (W : World), Below w.heap.size w W → (∀ s A B, J s A → Below A.heap.size A B → J s B) →
    (∀ pre x W1, J pre W1 → Rx pre x W1 → YieldAt F (m - 1) P l (encs x) W1 fun e W' => e = .returned (.bool true) ∧ J (pre ++ [x]) W' ∧ T W1 W') →
    J [] W → CallsIn F m P g (#[.func (.yield l) #[] #[]] ++ lb) W fun e W' => (∃ v, e = .returned v) ∧ ∃ xs, S xs ∧ J xs W'
/-- the blocks of the loop's own records lie as they lay -/
structure Recs (B : Nat) (A C : World) : Prop where
  size : A.heap.size ≤ C.heap.size
  same : ∀ (k : Nat) (o : Obj), B ≤ k → A.heap[k]? = some o → o.isCells = false → C.heap[k]? = some o
/-- where a round that goes on must come to -/
def roundEnd (B : Nat) (T : World → World → Prop) (I : List α → World → Prop) (xs : List α) (W : World) : Exit → Act → World → Prop
  | .normal, _, W' => Recs B W W' ∧ T W W' ∧ I xs W'
  | _, _, _ => False
theorem Recs.below {B : Nat} {A C : World} (h : Below A.heap.size A C) : Recs B A C := ⟨h.size, fun k _ _ hk _ => (h.block k (Array.getElem?_eq_some_iff.1 hk).1).trans hk⟩
theorem Recs.trans {B : Nat} {X Y Z : World} (h : Recs B X Y) (k : Recs B Y Z) : Recs B X Z := ⟨Nat.le_trans h.size k.size, fun i o hB hi ho => k.same i o hB (h.same i o hB hi ho) ho⟩
theorem put_grown {W : World} {l : Nat} (o' : Obj) : W.grownBy (W.putObj l o') (some l) :=
  ⟨rfl, rfl, rfl, by simp [World.putObj], fun k _ hk => World.putObj_heap_other (fun e => hk (by rw [e]))⟩

theorem wpIn_range_mem {g : Operand} {ps : Array Tmp} {assign body : Code} {Q : Exit → Act → World → Prop} {a : Act} {w : World}
    (hro : F.round = none) (h1 : 1 ≤ n) {gf : Nat} {lb : Array Value} (hg : a.eval g = .func (.func gf) #[] lb) (hFg : F.fn gf) (eg : ∀ args w, (callFunc gf args).run P w = .ok (.enter gf args) w)
    {encs : α → Array Value} (hps : ∀ x, (encs x).size = ps.size) {T : World → World → Prop} {Rx : List α → α → World → Prop} {S : List α → Prop} (hseq : MemSeq F (n - 1) P gf lb encs T Rx S w)
    (hTt : ∀ {A B C : World}, T A B → T B C → T A C) (hTp : ∀ (W : World) (l : Nat) (o o' : Obj), W.heap[l]? = some o → o.isCells = false → T W (W.putObj l o'))
    (I : List α → World → Prop) (hI : OwnFrom w.heap.size I) (h0 : I [] w) (Ax : List α → α → Act → World → Prop)
    (hAx : ∀ s x a' (W : World) (l : Nat) (o o' : Obj), Ax s x a' W → w.heap.size ≤ l → W.heap[l]? = some o → o.isCells = false → Ax s x a' (W.putObj l o'))
    (hassign : ∀ (l : Nat) (pre : List α) (x : α) (W : World) (K : Act → World → Prop), I pre W → Rx pre x W → (∀ a' W', Recs w.heap.size W W' → T W W' → I pre W' → Ax pre x a' W' → K a' W') →
      assign.wpIn (F.inRound l) (n - 1 - 1) P (Exit.then K (fun _ _ _ => False)) { tmps := (ps.zip (encs x)).foldl (fun t (p, v) => t.setIfInBounds p v) a.tmps, defers := [] } W)
    (hbody : ∀ (l : Nat) (pre : List α) (x : α) (a' : Act) (W : World), w.heap.size ≤ l → I pre W → Ax pre x a' W → body.wpIn (F.inRound l) (n - 1 - 1) P (roundEnd w.heap.size T I (pre ++ [x]) W) a' W)
    (hdone : ∀ (D : Nat) (xs : List α) (W : World), w.heap.size ≤ D → S xs → I xs W → W.heap[D]? = some (.deferred (some [])) → Q .normal { a with defers := { target := .collected D, args := #[] } :: a.defers } W) :
    (Code.rangeFunc g ps assign body).wpIn F n P Q a w := by
  refine wpIn_rangeFunc ?_
  intro fn hfn
  rw [hro]
  -- the loop's record, in each of its states
  let rec_ : LoopState → Loop := fun st => { state := st, pending := none, fn, tmps := a.tmps, params := ps, assign, body, defers := w.heap.size }
  let D := w.heap.size
  let L := w.heap.size + 1
  let W1 := (w.alloc (.deferred (some []))).alloc (.loop (rec_ .ready))
  have hL1 : W1.heap[L]? = some (.loop (rec_ .ready)) := by
    have := World.alloc_heap_new (w.alloc (.deferred (some []))) (.loop (rec_ .ready))
    rwa [World.size_alloc] at this
  have hD1 : W1.heap[D]? = some (.deferred (some [])) := (Below.heap_alloc _ _ _ (by simp [D])).trans (World.alloc_heap_new w _)
  have hB1 : Below w.heap.size w W1 := ((Below.refl _ w).alloc (Nat.le_refl _) _).alloc (by simp) _
  -- the invariant of the calls: the caller's, and the two blocks of the loop
  let J : List α → World → Prop := fun s W => I s W ∧ W.heap[L]? = some (.loop (rec_ .ready)) ∧ W.heap[D]? = some (.deferred (some []))
  have hnew : ∀ s A B, J s A → Below A.heap.size A B → J s B := fun s A B hs hb =>
    ⟨hI s A B none hs.1 ⟨hb.os, hb.tape, hb.output, hb.size, fun k hk _ => hb.block k hk⟩ (fun r e => by cases e), (hb.block _ (Array.getElem?_eq_some_iff.1 hs.2.1).1).trans hs.2.1, (hb.block _ (Array.getElem?_eq_some_iff.1 hs.2.2).1).trans hs.2.2⟩
  have hrec : ∀ {s : List α} {A : World} (o o' : Obj), I s A → A.heap[L]? = some o → o.isCells = false → I s (A.putObj L o') := fun o o' hs ho hc =>
    hI _ _ _ (some L) hs (put_grown o') (fun r e => by injection e with e; subst e; exact ⟨Nat.le_succ _, o, ho, hc⟩)
  refine ⟨L, [{ target := .collected D, args := #[] }], W1, { target := .fn (.func gf) lb, args := #[.func (.yield L) #[] #[]] }, W1, gf, #[.func (.yield L) #[] #[]] ++ lb, W1, run_enterLoop_outer _ _ _ _ _, ?_, ?_, ?_, fun _ => h1, ?_⟩
  · simp only [resolve, hg]
    simp [go_sem]
  · intro f' hf'
    simp [Target.leads] at hf'
    subst hf'
    exact hFg
  · simp [invoke, go_sem, eg]
  refine (hseq L J W1 hB1 hnew ?_ ⟨hI _ _ _ none h0 ⟨hB1.os, hB1.tape, hB1.output, hB1.size, fun k hk _ => hB1.block k hk⟩ (fun r e => by cases e), hL1, hD1⟩).mono ?_
  · -- a round
    rintro pre x W ⟨hi, hl, hd⟩ hx
    refine ⟨fn, _, assign, body, run_yield (P := P) (args := encs x) hl (hps x), roundIn_of_wpIn hfn (hassign _ pre x W _ hi hx ?_)⟩
    intro a' Wa hka hTa hia haa
    have hla := hka.same _ _ (Nat.le_succ _) hl rfl
    have hda := hka.same _ _ (Nat.le_refl _) hd rfl
    refine ⟨_, run_beginRound hla rfl, ?_⟩
    have hLlt : L < Wa.heap.size := (Array.getElem?_eq_some_iff.1 hla).1
    have hlb : (Wa.putObj L (.loop { rec_ .ready with state := .busy })).heap[L]? = some (.loop { rec_ .ready with state := .busy }) := World.putObj_heap_same hLlt
    have hdb : (Wa.putObj L (.loop { rec_ .ready with state := .busy })).heap[D]? = some (.deferred (some [])) := (World.putObj_heap_other (by show D ≠ L; omega)).trans hda
    refine wpIn_mono (hbody _ pre x a' _ (Nat.le_succ _) (hrec _ _ hia hla rfl) (hAx pre x a' _ _ _ _ haa (Nat.le_succ _) hla rfl)) ?_
    rintro e a3 W3 hp
    cases e with
    | normal =>
      obtain ⟨hk3, hT3, hi3⟩ := hp
      have hl3 := hk3.same _ _ (Nat.le_succ _) hlb rfl
      have hd3 := hk3.same _ _ (Nat.le_refl _) hdb rfl
      refine ⟨_, _, run_endRound (P := P) none hl3, rfl, ⟨hrec _ _ hi3 hl3 rfl, World.putObj_heap_same (Array.getElem?_eq_some_iff.1 hl3).1, (World.putObj_heap_other (by show D ≠ L; omega)).trans hd3⟩, ?_⟩
      exact hTt hTa (hTt (hTt (hTp _ _ _ _ hla rfl) hT3) (hTp _ _ _ _ hl3 rfl))
    | ret => exact hp.elim
    | exit id => exact hp.elim
    | goto t => exact hp.elim
    | panic ch => exact hp.elim
    | outgrown => exact hp.elim
  · -- behind the iterator
    rintro e W2 ⟨⟨v, rfl⟩, xs, hS, hi, hl, hd⟩
    exact ⟨none, _, run_endLoop (P := P) hl (by simp [rec_]), hdone _ xs _ (Nat.le_refl _) hS (hrec _ _ hi hl rfl) ((World.putObj_heap_other (by show D ≠ L; omega)).trans hd)⟩
/-- blocks of cells that p names lie as they lay -/
def Tk (p : Nat → Obj → Prop) (W W' : World) : Prop := ∀ k o, p k o → W.heap[k]? = some o → o.isCells = true → W'.heap[k]? = some o
theorem Tk.trans {p : Nat → Obj → Prop} {A B C : World} (h : Tk p A B) (k : Tk p B C) : Tk p A C := fun i o hp hi hc => k i o hp (h i o hp hi hc) hc
theorem Tk.put {p : Nat → Obj → Prop} (W : World) (l : Nat) (o o' : Obj) (hl : W.heap[l]? = some o) (ho : o.isCells = false) : Tk p W (W.putObj l o') := fun k q _ hk hc => by
  refine (World.putObj_heap_other (fun e => ?_)).trans hk
  subst e
  rw [hl] at hk
  injection hk with hk
  subst hk
  rw [ho] at hc
  cases hc
theorem Tk.below {p : Nat → Obj → Prop} {W W' : World} (h : Below W.heap.size W W') : Tk p W W' := fun k _ _ hk _ => (h.block k (Array.getElem?_eq_some_iff.1 hk).1).trans hk
theorem Tk.blk {p : Nat → Obj → Prop} {W W' : World} (h : Tk p W W') {b : Nat} {t : TypeId} {cs : Array Value} (hb : Blk W b t cs) (hp : p b (.cells cs t (0, 0))) : Blk W' b t cs := h b _ hp hb rfl
end
end Go.Proofs.YtcfjcoockklkeaaDoor
