/-
  slices.Reverse at two operands in a row of the call's own. Conditions: none.
-/
import Derived.Test.YtkkjoghfdmmpaaaDoorCanon1
import Derived.BigRegion
namespace Go.Proofs.YtkkjoghfdmmpaaaDoor
open Go.RowKit

/-- stores into block b, one behind the other -/
def setL (w : World) (b : Nat) : List (Nat × Value) → World
  | [] => w
  | p :: l => setL (w.setCell ⟨b, p.1, none⟩ p.2) b l
def look (j : Nat) (v : Value) : List (Nat × Value) → Value
  | [] => v
  | p :: l => look j (if p.1 = j then p.2 else v) l
theorem setL_below {w0 : World} {B b : Nat} (hB : B ≤ b) : ∀ (l : List (Nat × Value)) {w : World}, Below B w0 w → Below B w0 (setL w b l)
  | [], _, h => h
  | p :: l, _, h => setL_below hB l (h.setCell (p := ⟨b, p.1, none⟩) hB _)
theorem setL_keep {b k : Nat} (hk : k ≠ b) : ∀ (l : List (Nat × Value)) (w : World), (setL w b l).heap[k]? = w.heap[k]?
  | [], _ => rfl
  | _ :: l, _ => (setL_keep hk l _).trans (Below.heap_setCell _ _ _ _ hk)
theorem setL_size {b : Nat} : ∀ (l : List (Nat × Value)) (w : World), (setL w b l).heap.size = w.heap.size
  | [], _ => rfl
  | _ :: l, _ => (setL_size l _).trans (by simp [World.setCell])
theorem setL_frozen {b : Nat} (a : Addr) : ∀ (l : List (Nat × Value)) (w : World), (setL w b l).frozen? a = w.frozen? a
  | [], _ => rfl
  | _ :: l, _ => (setL_frozen a l _).trans (World.frozen?_setCell _ _ _ _)
theorem setL_cell {b j : Nat} : ∀ (l : List (Nat × Value)) {w : World} {v : Value}, w.cell? ⟨b, j, none⟩ = some v → (setL w b l).cell? ⟨b, j, none⟩ = some (look j v l)
  | [], _, _, h => h
  | p :: l, w, v, h => setL_cell l (by
      by_cases he : p.1 = j
      · subst he; rw [if_pos rfl]; exact World.cell?_setCell_same' _ _ _ (by rw [h]; rfl)
      · rw [if_neg he, World.cell?_setCell_other _ _ _ _ (by simp)]; exact h)
/-- two operands exchanged in their row -/
def swaps (o : Nat) (x y : Opd) : List (Nat × Value) :=
  [(o, .int .i64 y.kind), (o + 1, .int .i64 y.reg), (o + 2, .int .i64 y.n), (o + 3, .int .i64 x.kind), (o + 3 + 1, .int .i64 x.reg), (o + 3 + 2, .int .i64 x.n)]

set_option maxHeartbeats 4000000 in
theorem Reverse_two (b o c : Nat) (x y : Opd) (w : World) (c0 : w.cell? ⟨b, o, none⟩ = some (.int .i64 x.kind)) (c1 : w.cell? ⟨b, o + 1, none⟩ = some (.int .i64 x.reg)) (c2 : w.cell? ⟨b, o + 2, none⟩ = some (.int .i64 x.n))
    (d0 : w.cell? ⟨b, o + 3, none⟩ = some (.int .i64 y.kind)) (d1 : w.cell? ⟨b, o + 3 + 1, none⟩ = some (.int .i64 y.reg)) (d2 : w.cell? ⟨b, o + 3 + 2, none⟩ = some (.int .i64 y.n)) (hf : ∀ j, w.frozen? ⟨b, j, none⟩ = false) :
    Calls Tryd.prog 114 #[.slice (some ⟨b, o, none⟩) 2 c] w fun e w' => e = .returned (.tuple #[]) ∧ (setL w b (swaps o x y)).drew = w' := by
  go_enter Tryd.func114, Tryd.ntmps114
  go_wp2
  refine wp_loop_rounds 2 ?_
  rw [rounds_succ]
  go_wp2
  go_region
  all_goals go_wp2
  all_goals rw [rounds_succ]
  all_goals go_wp2
  all_goals go_end0
  all_goals exact ⟨rfl, rfl⟩
theorem swap_own {w : World} {q : Blocks} {b o c : Nat} {x y : Opd} (h : OpdOwn w q (.slice (some ⟨b, o, none⟩) 2 c) [x, y]) : OpdOwn (setL w b (swaps o x y)) q (.slice (some ⟨b, o, none⟩) 2 c) [y, x] := by
  obtain ⟨a', c', e, h1, h2, h3⟩ := h
  injection e with e1 e2 e3
  subst e1 e3
  obtain ⟨b', o', eb, hq, hb, c0, c1, c2, f⟩ := h3 0 x rfl
  injection eb with eb
  injection eb with eb1 eb2
  subst eb1 eb2
  obtain ⟨b', o', eb, _, _, d0, d1, d2, _⟩ := h3 1 y rfl
  injection eb with eb
  injection eb with eb1 eb2
  subst eb1 eb2
  simp only [Nat.zero_mul, Nat.add_zero, Nat.one_mul] at c0 c1 c2 d0 d1 d2
  have hfr : ∀ j, (setL w b (swaps o x y)).frozen? ⟨b, j, none⟩ = false := fun j => (setL_frozen _ _ _).trans (f j)
  have e0 := (setL_cell (swaps o x y) c0).trans (congrArg some (show _ = Value.int .i64 y.kind by simp only [swaps, look]; repeat first | rw [if_pos rfl] | rw [if_pos trivial] | rw [if_neg (by omega)]))
  have e1 := (setL_cell (swaps o x y) c1).trans (congrArg some (show _ = Value.int .i64 y.reg by simp only [swaps, look]; repeat first | rw [if_pos rfl] | rw [if_pos trivial] | rw [if_neg (by omega)]))
  have e2 := (setL_cell (swaps o x y) c2).trans (congrArg some (show _ = Value.int .i64 y.n by simp only [swaps, look]; repeat first | rw [if_pos rfl] | rw [if_pos trivial] | rw [if_neg (by omega)]))
  have g0 := (setL_cell (swaps o x y) d0).trans (congrArg some (show _ = Value.int .i64 x.kind by simp only [swaps, look]; repeat first | rw [if_pos rfl] | rw [if_pos trivial] | rw [if_neg (by omega)]))
  have g1 := (setL_cell (swaps o x y) d1).trans (congrArg some (show _ = Value.int .i64 x.reg by simp only [swaps, look]; repeat first | rw [if_pos rfl] | rw [if_pos trivial] | rw [if_neg (by omega)]))
  have g2 := (setL_cell (swaps o x y) d2).trans (congrArg some (show _ = Value.int .i64 x.n by simp only [swaps, look]; repeat first | rw [if_pos rfl] | rw [if_pos trivial] | rw [if_neg (by omega)]))
  have hsz : b < (setL w b (swaps o x y)).heap.size := by rw [setL_size]; exact hb
  refine ⟨_, c, rfl, h1, h2, fun i z hz => ?_⟩
  match i, hz with
  | 0, hz =>
    simp at hz
    subst hz
    refine ⟨b, o, rfl, hq, hsz, ?_, ?_, ?_, hfr⟩
    · rw [Nat.zero_mul, Nat.add_zero]; exact e0
    · rw [Nat.zero_mul, Nat.add_zero]; exact e1
    · rw [Nat.zero_mul, Nat.add_zero]; exact e2
  | 1, hz =>
    simp at hz
    subst hz
    refine ⟨b, o, rfl, hq, hsz, ?_, ?_, ?_, hfr⟩
    · rw [Nat.one_mul]; exact g0
    · rw [Nat.one_mul]; exact g1
    · rw [Nat.one_mul]; exact g2
  | i + 2, hz => simp at hz
end Go.Proofs.YtkkjoghfdmmpaaaDoor
