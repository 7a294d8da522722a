/-
  operand.Text OF AN OPERAND WITHOUT A NUMBER.
-/
import Derived.Test.YtkkjoghfdmmpaaaDoorMark
namespace Go.Proofs.YtkkjoghfdmmpaaaDoor
open Go.RowKit

theorem form4 : (kindD 4).form = 160 := rfl
set_option maxHeartbeats 1000000 in
theorem text_ind (o : Opd) (hf : (kindD o.kind).form = 160) (w : World) : Calls Tryd.prog 102 #[.agg #[.int .i64 o.kind, .int .i64 o.reg, .int .i64 o.n]] w fun e w' => e = .returned (.string (indText o)) ∧ Below w.heap.size w w' := by
  cases h : okOpd o
  · rw [show indText o = ⟨#[]⟩ by simp [indText, h]]
    exact text_no o h w
  · rw [show indText o = paren ((kindD o.kind).nm o.reg.toNat) by simp [indText, h]]
    have HB0 : Hid (Below w.heap.size w (w.alloc (.cells #[.int .i64 o.kind, .int .i64 o.reg, .int .i64 o.n] 47))) := (Below.refl _ _).alloc (Nat.le_refl _) _
    have HK : Hid (Blk (w.alloc (.cells #[.int .i64 o.kind, .int .i64 o.reg, .int .i64 o.n] 47)) w.heap.size 47 #[.int .i64 o.kind, .int .i64 o.reg, .int .i64 o.n]) := Blk.new w _ _
    have ho := of_yes o h (w.alloc (.cells #[.int .i64 o.kind, .int .i64 o.reg, .int .i64 o.n] 47))
    simp only [KindD.val] at ho
    rw [hf] at ho
    have HO := Lib.hid ho
    clear ho hf h
    go_enter Tryd.func102, Tryd.ntmps102
    go_wp2_with (first | (go_at_call 122; refine HO.out.mono ?_; rintro e w1 ⟨rfl, hb⟩; have HB := Lib.hid (HB0.out.trans (hb.mono HB0.out.size)); have c2 : w1.cell? ⟨w.heap.size, 2, none⟩ = some (.int .i64 o.n) := (hb.cell (p := ⟨w.heap.size, 2, none⟩) HK.out.lt).trans (HK.out.cell 2); have hlt : w.heap.size < w1.heap.size := Nat.lt_of_lt_of_le HK.out.lt hb.size; clear hb)
                       | (go_at_call 160; refine (find1_any _ _ _ (Nat.le_trans (nm_size _ _) (by decide))).mono ?_; rintro e w2 ⟨rfl, rfl⟩))
    go_ret
    exact ⟨rfl, HB.out.alloc HB.out.size _⟩

theorem text_any (o : Opd) (h : hasNum o = false) (w : World) : Calls Tryd.prog 102 #[.agg #[.int .i64 o.kind, .int .i64 o.reg, .int .i64 o.n]] w fun e w' => e = .returned (.string (textOf o)) ∧ Below w.heap.size w w' := by
  cases hk : kindOk o.kind
  · have ho : okOpd o = false := by simp [okOpd, hk]
    rw [show textOf o = ⟨#[]⟩ by simp [textOf, indText, regText, ho]]
    exact text_no o ho w
  · obtain ⟨k, r, n⟩ := o
    dsimp only at hk
    simp only [kindOk, Bool.or_eq_true, beq_iff_eq] at hk
    rcases hk with ((((((((rfl | rfl) | rfl) | rfl) | rfl) | rfl) | rfl) | rfl) | rfl) | rfl
    · exact text_plain ⟨1, r, n⟩ rfl w
    · exact text_plain ⟨2, r, n⟩ rfl w
    · exact text_plain ⟨3, r, n⟩ rfl w
    · exact text_ind ⟨4, r, n⟩ rfl w
    · exact absurd h (by simp [hasNum])
    · exact absurd h (by simp [hasNum])
    · exact absurd h (by simp [hasNum])
    · exact text_plain ⟨8, r, n⟩ rfl w
    · exact text_plain ⟨9, r, n⟩ rfl w
    · exact absurd h (by simp [hasNum])
end Go.Proofs.YtkkjoghfdmmpaaaDoor
