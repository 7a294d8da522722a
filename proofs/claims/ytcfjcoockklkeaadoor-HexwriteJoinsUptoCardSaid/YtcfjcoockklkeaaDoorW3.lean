/-
  strings.Builder: copyCheck, WriteByte, WriteString. Conditions: the new length's bytes.
-/
import Derived.Test.YtcfjcoockklkeaaDoorW2
import Derived.Test.YtcfjcoockklkeaaDoorShelf
import Derived.Lib.Builder
import Derived.Lib.AppendStr
import Derived.Lib.UnsafeStr
import Derived.Laws.Externs
namespace Go.Proofs.YtcfjcoockklkeaaDoor
open Go.RowKit

/-- a builder of the call's own, its buffer v -/
def Bld (w : World) (B b : Nat) (v : Value) (l : List UInt8) : Prop :=
  B ≤ b ∧ (∃ p, (p = .pointer none ∨ p = .pointer (some ⟨b, 0, none⟩)) ∧ Blk w b 142 #[p, v]) ∧ w.ownsRow B 5 1 v l.length (Lib.byteCells l) ∧ v.ownBlock ≠ some b
/-- what a write leaves as it was -/
structure Wrt (w w' : World) (B b : Nat) (v v' : Value) : Prop where
  below : Below B w w'
  size : w.heap.size ≤ w'.heap.size
  keep : ∀ k, k < w.heap.size → k ≠ b → v.ownBlock ≠ some k → w'.heap[k]? = w.heap[k]?
  row : v'.ownBlock = v.ownBlock ∨ ∃ k, v'.ownBlock = some k ∧ w.heap.size ≤ k
theorem Wrt.trans {w1 w2 w3 : World} {B b : Nat} {v1 v2 v3 : Value} (h : Wrt w1 w2 B b v1 v2) (k : Wrt w2 w3 B b v2 v3) : Wrt w1 w3 B b v1 v3 := by
  refine ⟨h.below.trans k.below, Nat.le_trans h.size k.size, fun j hj hb hv => ?_, ?_⟩
  · refine (k.keep j (Nat.lt_of_lt_of_le hj h.size) hb (fun e => ?_)).trans (h.keep j hj hb hv)
    rcases h.row with e2 | ⟨q, e2, hq⟩
    · exact hv (e2.symm.trans e)
    · rw [e2] at e; injection e with e; omega
  · rcases k.row with e2 | ⟨q, e2, hq⟩
    · rcases h.row with e3 | ⟨q, e3, hq⟩
      · exact .inl (e2.trans e3)
      · exact .inr ⟨q, e2.trans e3, hq⟩
    · exact .inr ⟨q, e2, Nat.le_trans h.size hq⟩
theorem bld_size : (Tryd.prog.info? 142).map (·.size) = some 2 := by kernel_rfl
theorem bld_lies : liesAt Tryd.prog Tryd.prog.depth 142 (2 / Tryd.prog.cellsOf 142) 0 142 1 = true := by kernel_rfl
theorem byte_info : (Tryd.prog.info? 5).map (fun i => (i.zero, i.size, i.bytes)) = some (some (.int .u8 0), 1, 1) := by kernel_rfl
theorem Blk.shape {w : World} {g : Nat} {t : TypeId} {cs : Array Value} (h : Blk w g t cs) : w.shape? g = some (t, cs.size) := by
  unfold Blk at h
  simp [World.shape?, h]
set_option maxHeartbeats 1000000 in
set_option maxRecDepth 100000 in
theorem copyCheck_used (b : Nat) (v : Value) (w : World) (h : Blk w b 142 #[.pointer (some ⟨b, 0, none⟩), v]) :
    Calls Tryd.prog 120 #[.pointer (some ⟨b, 0, none⟩)] w fun e w' => e = .returned (.tuple #[]) ∧ w = w' := by
  obtain ⟨j, hj, _⟩ := Option.map_eq_some_iff.1 bld_size
  have h0 := h.cell 0
  go_enter Tryd.func120, Tryd.ntmps120
  go_wp2
  rw [Lib.run_neq_ptr_same w _ Tryd.underlying140 hj]
  go_wp2
  go_end0
  exact ⟨rfl, rfl⟩
set_option maxHeartbeats 1000000 in
set_option maxRecDepth 100000 in
theorem copyCheck_fresh (b : Nat) (v : Value) (w : World) (h : Blk w b 142 #[.pointer none, v]) :
    Calls Tryd.prog 120 #[.pointer (some ⟨b, 0, none⟩)] w fun e w' => e = .returned (.tuple #[]) ∧ w' = w.setCell ⟨b, 0, none⟩ (.pointer (some ⟨b, 0, none⟩)) := by
  obtain ⟨j, hj, hjs⟩ := Option.map_eq_some_iff.1 bld_size
  have h0 := h.cell 0
  have hfz := h.free 0
  have hsh : w.shape? b = some (142, 2) := h.shape
  go_enter Tryd.func120, Tryd.ntmps120
  go_wp2
  rw [Lib.run_to_unsafe w ⟨b, 0, none⟩ Tryd.underlying140 Tryd.underlying193 hj (by rw [hjs]; decide) hsh (Nat.zero_lt_succ 1)]
  simp only [Result.andThen]
  rw [Oper.upon_value]
  go_wp2
  rw [run_callFunc_extern Tryd.func144 (by kernel_rfl) (by kernel_rfl) (by kernel_rfl) (e := Extern.AbiNoEscape.same) (by kernel_rfl)]
  rw [Lib.run_noEscape]
  simp only [Result.andThen]
  rw [Oper.upon_value]
  go_wp2
  rw [Lib.run_from_unsafe w ⟨b, 0, none⟩ Tryd.underlying193 Tryd.underlying140 hj hsh bld_lies]
  simp only [Result.andThen]
  rw [Oper.upon_value]
  go_wp2
  go_end0
  exact ⟨rfl, rfl⟩
end Go.Proofs.YtcfjcoockklkeaaDoor
