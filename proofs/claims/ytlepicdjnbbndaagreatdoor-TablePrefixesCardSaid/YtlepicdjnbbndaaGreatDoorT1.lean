/-
  A LAW: a range over a function that keeps state in a box of its own, and may be left; strings.Cut at one byte; table.texts. Conditions: none.
-/
import Derived.Test.YtlepicdjnbbndaaGreatDoorG1
import Derived.Test.YtlepicdjnbbndaaGreatDoorShelf
import Derived.RangeFuncNested
import Derived.RangeFuncBound
import Derived.RangeFuncCalls
import Derived.RangeFuncLeaves
import Derived.Shelf.Strings.Cut
import Derived.TacticsInMore
import Derived.LoopNIn
import Derived.LoopIn
import Derived.OwnWalkIn
namespace Go.Proofs.YtlepicdjnbbndaaGreatDoor
open Go.RowKit Go.Shelf
attribute [local go_sem] Oper.semAt_some

section
variable {α : Type} {F : Fence} {n : Nat} {P : Program}
/-- J abides new blocks and turns of block bx -/
def OwnB {β : Type} (bx : Nat) (J : β → World → Prop) : Prop := ∀ s A B row, J s A → A.grownBy B row → (∀ r, row = some r → r = bx) → J s B
/-- .. and turns of blocks from B on that are no cells -/
def OwnBF {β : Type} (bx B : Nat) (I : β → World → Prop) : Prop := ∀ s W W' row, I s W → W.grownBy W' row → (∀ r, row = some r → r = bx ∨ (B ≤ r ∧ ∃ o : Obj, W.heap[r]? = some o ∧ o.isCells = false)) → I s W'
theorem OwnBF.putObj {β : Type} {bx B : Nat} {I : β → World → Prop} (h : OwnBF bx B I) {s : β} {W : World} {l : Nat} {o : Obj} (o' : Obj) (hs : I s W) (hB : B ≤ l) (hl : W.heap[l]? = some o) (ho : o.isCells = false) : I s (W.putObj l o') :=
  h s W _ (some l) hs (grownBy_putObj' W l o') (fun r e => by cases e; exact .inr ⟨hB, o, hl, ho⟩)
theorem OwnBF.alloc {β : Type} {bx B : Nat} {I : β → World → Prop} (h : OwnBF bx B I) {s : β} {W : World} (o : Obj) (hs : I s W) : I s (W.alloc o) :=
  h s W _ none hs (World.grownBy_alloc W o none) (fun r e => by cases e)
/-- An iterator that keeps state in box bx: a round keeps the box. -/
def BoxSeq (F : Fence) (n : Nat) (P : Program) (gf : Nat) (lb : Array Value) (encs : α → Array Value) (bx : Nat) (S Sp : List α → Prop) (w0 : World) : Prop :=
  ∀ (l : Nat) (J Jx : List α → World → Prop) (W : World), Below w0.heap.size w0 W → OwnB bx J → OwnB bx Jx →
    (∀ pre x W1, J pre W1 → YieldAt F (n - 1) P l (encs x) W1 fun e W' => (e = .returned (.bool true) ∧ J (pre ++ [x]) W' ∧ W'.heap[bx]? = W1.heap[bx]?) ∨ (e = .returned (.bool false) ∧ Jx (pre ++ [x]) W')) →
    J [] W → CallsIn F n P gf (#[.func (.yield l) #[] #[]] ++ lb) W fun e W' => (∃ v, e = .returned v) ∧ ((∃ xs, S xs ∧ J xs W') ∨ (∃ pre, Sp pre ∧ Jx pre W'))
theorem wpIn_rangeFunc_box {g : Operand} {ps : Array Tmp} {assign body : Code} {Q : Exit → Act → World → Prop} {a : Act} {w : World}
    (hro : F.round = none) (h1 : 1 ≤ n) {gf : Nat} {lb : Array Value} (hg : a.eval g = .func (.func gf) #[] lb) (hFg : F.fn gf) (eg : ∀ args w, (callFunc gf args).run P w = .ok (.enter gf args) w)
    {encs : α → Array Value} {bx : Nat} (hbx : bx < w.heap.size) {S Sp : List α → Prop} {w0 : World} (hseq : BoxSeq F (n - 1) P gf lb encs bx S Sp w0)
    (hb0 : Below w0.heap.size w0 w) (hps : ∀ x, (encs x).size = ps.size)
    (I : List α → World → Prop) (Ix : Code → List α → World → Prop) (hI : OwnBF bx w.heap.size I) (hIx : ∀ c, OwnBF bx w.heap.size (Ix c)) (h0 : I [] w) (a₁ : α → Act)
    (hassign : ∀ (l : Nat) (x : α) (W : World) (K : Act → World → Prop), K (a₁ x) W →
      assign.wpIn (F.inRound l) (n - 1 - 1) P (Exit.then K (fun _ _ _ => False)) { tmps := (ps.zip (encs x)).foldl (fun t (p, v) => t.setIfInBounds p v) a.tmps, defers := [] } W)
    (hbody : ∀ (l : Nat) (pre : List α) (x : α) (W : World), I pre W → body.wpIn (F.inRound l) (n - 1 - 1) P (ownPostG w.heap.size (fun A B => B.heap[bx]? = A.heap[bx]?) I Ix (pre ++ [x]) W) (a₁ x) W)
    (hdone : ∀ (D : Nat) (xs : List α) (W : World), w.heap.size ≤ D → S xs → I xs W → W.heap[D]? = some (.deferred (some [])) → Q .normal { a with defers := { target := .collected D, args := #[] } :: a.defers } W)
    (hstop : ∀ (D : Nat) (c : Code) (pre : List α) (W : World), w.heap.size ≤ D → Sp pre → Ix c pre W → W.heap[D]? = some (.deferred (some [])) → c.wpIn F n P Q { a with defers := { target := .collected D, args := #[] } :: a.defers } W) :
    (Code.rangeFunc g ps assign body).wpIn F n P Q a w := by
  refine wpIn_rangeFunc ?_
  intro fn hfn
  rw [hro]
  obtain ⟨rec, hrec⟩ : ∃ rec : LoopState → Option Code → Loop, rec = fun st pe => { state := st, pending := pe, fn, tmps := a.tmps, params := ps, assign, body, defers := w.heap.size } := ⟨_, rfl⟩
  obtain ⟨W1, hW1⟩ : ∃ W1, (w.alloc (.deferred (some []))).alloc (.loop (rec .ready none)) = W1 := ⟨_, rfl⟩
  have hL1 : W1.heap[w.heap.size + 1]? = some (.loop (rec .ready none)) := by
    rw [← hW1]; have := World.alloc_heap_new (w.alloc (.deferred (some []))) (.loop (rec .ready none)); rwa [World.size_alloc] at this
  have hK1 : W1.heap[w.heap.size]? = some (.deferred (some [])) := by
    rw [← hW1]; exact (Below.heap_alloc _ _ _ (by simp)).trans (World.alloc_heap_new w _)
  have hI1 : I [] W1 := by rw [← hW1]; exact hI.alloc _ (hI.alloc _ h0)
  have hb1 : Below w0.heap.size w0 W1 := by
    rw [← hW1]; exact hb0.trans ((((Below.refl _ w).alloc (Nat.le_refl _) _).alloc (by simp) _).mono hb0.size)
  refine ⟨w.heap.size + 1, [{ target := .collected w.heap.size, args := #[] }], W1, { target := .fn (.func gf) lb, args := #[.func (.yield (w.heap.size + 1)) #[] #[]] }, W1, gf,
    #[.func (.yield (w.heap.size + 1)) #[] #[]] ++ lb, W1, ?_, ?_, ?_, ?_, fun _ => h1, ?_⟩
  · rw [← hW1, hrec]; exact run_enterLoop_outer _ _ _ _ _
  · simp only [resolve, hg]
    simp [go_sem]
  · intro f' hf'; simp [Target.leads] at hf'; subst hf'; exact hFg
  · simp [invoke, go_sem, eg]
  · have hkp : ∀ {A B : World} {row : Option Nat} {k : Nat} {o : Obj}, A.grownBy B row → (∀ r, row = some r → r = bx) → w.heap.size ≤ k → A.heap[k]? = some o → B.heap[k]? = some o :=
      fun hg' hr hk ho => (hg'.block _ (Array.getElem?_eq_some_iff.1 ho).1 (fun e => by have := hr _ e.symm; omega)).trans ho
    refine (hseq (w.heap.size + 1)
      (fun pre W => I pre W ∧ W.heap[w.heap.size + 1]? = some (.loop (rec .ready none)) ∧ W.heap[w.heap.size]? = some (.deferred (some [])))
      (fun pre W => ∃ c, Ix c pre W ∧ W.heap[w.heap.size + 1]? = some (.loop (rec .done (some c))) ∧ W.heap[w.heap.size]? = some (.deferred (some [])))
      W1 hb1
      (fun s A B row hs hg' hr => ⟨hI s A B row hs.1 hg' (fun r e => .inl (hr r e)), hkp hg' hr (Nat.le_succ _) hs.2.1, hkp hg' hr (Nat.le_refl _) hs.2.2⟩)
      (fun s A B row hs hg' hr => by
        obtain ⟨c, hc, hl, hk⟩ := hs
        exact ⟨c, hIx c s A B row hc hg' (fun r e => .inl (hr r e)), hkp hg' hr (Nat.le_succ _) hl, hkp hg' hr (Nat.le_refl _) hk⟩)
      ?_ ⟨hI1, hL1, hK1⟩).mono ?_
    · -- ONE ROUND
      rintro pre x W ⟨hi, hl, hk⟩
      have hlt : w.heap.size + 1 < W.heap.size := (Array.getElem?_eq_some_iff.1 hl).1
      have hy := run_yield (P := P) (args := encs x) hl (by rw [hrec]; exact hps x)
      rw [hrec] at hy
      refine ⟨fn, _, assign, body, hy, roundIn_of_wpIn hfn (hassign _ x W _ ⟨_, run_beginRound hl (by rw [hrec]), ?_⟩)⟩
      have hl2 : (W.putObj (w.heap.size + 1) (.loop { rec .ready none with state := .busy })).heap[w.heap.size + 1]? = some (.loop { rec .ready none with state := .busy }) := World.putObj_heap_same hlt
      have hk2 : (W.putObj (w.heap.size + 1) (.loop { rec .ready none with state := .busy })).heap[w.heap.size]? = some (.deferred (some [])) := (World.putObj_heap_other (by omega)).trans hk
      have hw2 : (W.putObj (w.heap.size + 1) (.loop { rec .ready none with state := .busy })).heap[bx]? = W.heap[bx]? := World.putObj_heap_other (by omega)
      refine wpIn_mono (hbody _ pre x _ (hI.putObj _ hi (by omega) hl rfl)) ?_
      have fin : ∀ (jump : Option Code) (W3 : World), KeepsFrom w.heap.size (W.putObj (w.heap.size + 1) (.loop { rec .ready none with state := .busy })) W3 →
          (Instr.endRound (w.heap.size + 1) jump).run P W3 = .ok (.bool jump.isNone) (W3.putObj (w.heap.size + 1) (.loop (rec (if jump.isNone then .ready else .done) jump))) ∧
          W3.heap[w.heap.size + 1]? = some (.loop { rec .ready none with state := .busy }) ∧
          (W3.putObj (w.heap.size + 1) (.loop (rec (if jump.isNone then .ready else .done) jump))).heap[w.heap.size + 1]? = some (.loop (rec (if jump.isNone then .ready else .done) jump)) ∧
          (W3.putObj (w.heap.size + 1) (.loop (rec (if jump.isNone then .ready else .done) jump))).heap[w.heap.size]? = some (.deferred (some [])) := fun jump W3 hk3 => by
        have hl3 := hk3.same _ _ (by omega) hl2 rfl
        have := run_endRound (P := P) jump hl3
        rw [hrec] at this ⊢
        exact ⟨this, by rw [hrec] at hl3; exact hl3, World.putObj_heap_same (Array.getElem?_eq_some_iff.1 hl3).1, (World.putObj_heap_other (by omega)).trans (hk3.same _ _ (Nat.le_refl _) hk2 rfl)⟩
      rintro e a3 W3 hp
      cases e with
      | normal =>
        obtain ⟨hk3, hkp3, hi3⟩ := hp
        obtain ⟨hr, hl3, hl4, hk4⟩ := fin none W3 hk3
        exact ⟨_, _, hr, .inl ⟨rfl, ⟨hI.putObj _ hi3 (by omega) hl3 rfl, hl4, hk4⟩, ((World.putObj_heap_other (by omega)).trans hkp3).trans hw2⟩⟩
      | ret =>
        obtain ⟨hk3, hi3⟩ := hp
        obtain ⟨hr, hl3, hl4, hk4⟩ := fin (some .ret) W3 hk3
        exact ⟨_, _, hr, .inr ⟨rfl, .ret, (hIx _).putObj _ hi3 (by omega) hl3 rfl, hl4, hk4⟩⟩
      | exit id =>
        obtain ⟨hk3, hi3⟩ := hp
        obtain ⟨hr, hl3, hl4, hk4⟩ := fin (some (.exit id)) W3 hk3
        exact ⟨_, _, hr, .inr ⟨rfl, .exit id, (hIx _).putObj _ hi3 (by omega) hl3 rfl, hl4, hk4⟩⟩
      | goto t =>
        obtain ⟨hk3, hi3⟩ := hp
        obtain ⟨hr, hl3, hl4, hk4⟩ := fin (some (.goto t)) W3 hk3
        exact ⟨_, _, hr, .inr ⟨rfl, .goto t, (hIx _).putObj _ hi3 (by omega) hl3 rfl, hl4, hk4⟩⟩
      | panic ch => exact hp.elim
      | outgrown => exact hp.elim
    · -- BEHIND THE ITERATOR
      rintro e W2 ⟨⟨v, rfl⟩, (⟨xs, hS, hi, hl, hk⟩ | ⟨pre, hSp, c, hi, hl, hk⟩)⟩
      · exact ⟨none, _, by have := run_endLoop (P := P) hl (by rw [hrec]; simp); rw [hrec] at this; exact this, hdone _ xs _ (Nat.le_refl _) hS (hI.putObj _ hi (by omega) hl rfl) ((World.putObj_heap_other (by omega)).trans hk)⟩
      · exact ⟨some c, _, by have := run_endLoop (P := P) hl (by rw [hrec]; simp); rw [hrec] at this; exact this, hstop _ c pre _ (Nat.le_refl _) hSp ((hIx c).putObj _ hi (by omega) hl rfl) ((World.putObj_heap_other (by omega)).trans hk)⟩
end

set_option maxHeartbeats 2000000 in
set_option maxRecDepth 100000 in
theorem CutL_any (s : ByteArray) (c : UInt8) (w : World) (hs : s.size ≤ 1000000) :
    Calls Tryz.prog 159 #[.string s, .string ⟨#[c]⟩] w fun e w' => e = .returned (.tuple #[.string ⟨(Lib.cut s.data.toList [c]).1.toArray⟩, .string ⟨(Lib.cut s.data.toList [c]).2.1.toArray⟩, .bool (Lib.cut s.data.toList [c]).2.2]) ∧ ∃ n, w' = w.drewN n := by
  have HIX := Lib.hid (fun w => (Any.stringslite_Index_one (ρ := Tryz.lays145_ren) { Tryz.lays145 with } s c w))
  rcases Lib.indexB_cases s ⟨#[c]⟩ with hix | ⟨i, hix, hroom⟩
  · obtain ⟨e1, e2, e3⟩ := Lib.cutB_miss s ⟨#[c]⟩ hix
    rw [show [c] = (⟨#[c]⟩ : ByteArray).data.toList from rfl, e1, e2, e3]
    have hi2 : Lib.indexByte s.data.toList c = -1 := by rw [← Lib.index_one]; exact hix
    rw [hi2] at HIX
    clear e1 e2 e3 hix hi2
    go_enter Tryz.func159, Tryz.ntmps159
    go_wp2_with (go_at_call 154; refine (HIX.out _).mono ?_; rintro e w' ⟨rfl, rfl⟩)
    go_ret3
    exact ⟨rfl, 0, rfl⟩
  · obtain ⟨e1, e2, e3⟩ := Lib.cutB_hit s ⟨#[c]⟩ i hix
    rw [show [c] = (⟨#[c]⟩ : ByteArray).data.toList from rfl, e1, e2, e3]
    have hi2 : Lib.indexByte s.data.toList c = i := by rw [← Lib.index_one]; exact hix
    rw [hi2] at HIX
    have hz : (⟨#[c]⟩ : ByteArray).size = 1 := rfl
    rw [hz] at hroom
    have c1 : (0 : Int) ≤ ↑i := by omega
    have c2 : (↑i : Int) ≤ ↑s.size := by omega
    have c3 : (0 : Int) ≤ ↑i + 1 := by omega
    have c4 : (↑i + 1 : Int) ≤ ↑s.size := by omega
    have c5 : IntKind.i64.wrap ((i : Int) + 1) = (i : Int) + 1 := by rw [IntKind.wrap_i64]; omega
    have c6 : ((i : Int) + 1).toNat = i + 1 := by omega
    clear e1 e2 e3 hix hi2
    go_enter Tryz.func159, Tryz.ntmps159
    go_wp2_with (go_at_call 154; refine (HIX.out _).mono ?_; rintro e w' ⟨rfl, rfl⟩)
    go_region
    go_wp2
    go_ret3
    exact ⟨rfl, 1, rfl⟩
set_option maxHeartbeats 1000000 in
theorem Cut_any (s : ByteArray) (c : UInt8) (w : World) (hs : s.size ≤ 1000000) :
    Calls Tryz.prog 115 #[.string s, .string ⟨#[c]⟩] w fun e w' => e = .returned (.tuple #[.string ⟨(Lib.cut s.data.toList [c]).1.toArray⟩, .string ⟨(Lib.cut s.data.toList [c]).2.1.toArray⟩, .bool (Lib.cut s.data.toList [c]).2.2]) ∧ ∃ n, w' = w.drewN n := by
  have HC := Lib.hid (CutL_any s c w hs)
  generalize (⟨(Lib.cut s.data.toList [c]).1.toArray⟩ : ByteArray) = x at *
  generalize (⟨(Lib.cut s.data.toList [c]).2.1.toArray⟩ : ByteArray) = y at *
  generalize (Lib.cut s.data.toList [c]).2.2 = z at *
  go_enter Tryz.func115, Tryz.ntmps115
  go_wp2_with (go_at_call 159; refine HC.out.mono ?_; rintro e w' ⟨rfl, n, rfl⟩)
  go_ret3
  exact ⟨rfl, n, rfl⟩
end Go.Proofs.YtlepicdjnbbndaaGreatDoor
