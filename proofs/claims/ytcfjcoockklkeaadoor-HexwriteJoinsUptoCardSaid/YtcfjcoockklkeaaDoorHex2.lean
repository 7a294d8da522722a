/-
  num.Hex. Conditions: none.
-/
import Derived.Test.YtcfjcoockklkeaaDoorHex1
namespace Go.Proofs.YtcfjcoockklkeaaDoor
open Go.RowKit

theorem made_get (z : Value) {k j : Nat} (hj : j < k) : (madeCells #[z] k)[j]? = some z := by simp [madeCells, hj, Nat.mod_one]
set_option maxRecDepth 100000 in
theorem run_make_bytes (w : World) (k : Nat) (hk : k ≤ 1000) : ∃ w0, (Instr.makeSlice 44 (.int .i64 (k : Int)) (.int .i64 (k : Int))).run Tryd.prog w = .ok (.slice (some ⟨w.heap.size, 0, none⟩) k k) w0 ∧
    Below w.heap.size w w0 ∧ w.heap.size < w0.heap.size ∧ ByteRow w0 w.heap.size (List.replicate k 0) := by
  have hm : (Tryd.prog.info? 5).map (fun i => (i.zero, i.size, i.bytes)) = some (some (.int .u8 0), 1, 1) := by kernel_rfl
  cases hq : Tryd.prog.info? 5 with
  | none => simp [hq] at hm
  | some i =>
    simp only [hq, Option.map_some, Option.some.injEq, Prod.mk.injEq] at hm
    obtain ⟨hz, hs, hb⟩ := hm
    have e := run_makeSlice (P := Tryd.prog) w 44 5 i _ Tryd.underlying44 hq hz .i64 .i64 (k : Int) (k : Int) (by omega) (Int.le_refl _) (by rw [hs]; simp; omega) (by rw [hb]; omega) (by omega)
    rw [hs, Int.toNat_natCast, Nat.mul_one] at e
    refine ⟨_, e, (Below.refl _ _).alloc (Nat.le_refl _) _, by simp, fun j x hx => ?_, fun j _ => (Blk.new w _ _).free j⟩
    rw [List.getElem?_replicate] at hx
    have hj : j < k := by
      rcases Nat.lt_or_ge j k with h | h
      · exact h
      · rw [if_neg (by omega)] at hx; cases hx
    rw [if_pos hj] at hx
    injection hx with hx
    have hc := (Blk.new w 5 (madeCells (Value.cells (.int .u8 0)) k)).cell j
    refine hc.trans ((made_get (.int .u8 0) hj).trans ?_)
    rw [← hx]
    rfl
end Go.Proofs.YtcfjcoockklkeaaDoor
