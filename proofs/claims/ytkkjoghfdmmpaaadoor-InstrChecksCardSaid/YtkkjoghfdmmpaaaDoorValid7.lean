/-
  WHICH OPERANDS ARE VALID: operand.of and operand.Valid; the program's and the reference's answers agree.
-/
import Derived.Test.YtkkjoghfdmmpaaaDoorValid6c
namespace Go.Proofs.YtkkjoghfdmmpaaaDoor
open Go.RowKit

theorem of_no (o : Opd) (h : okOpd o = false) (w : World) : Calls Tryd.prog 122 #[.agg #[.int .i64 o.kind, .int .i64 o.reg, .int .i64 o.n]] w fun e w' => e = .returned (.tuple #[kindNil, .string ⟨#[]⟩, .bool false]) ∧ Below w.heap.size w w' := by
  obtain ⟨k, r, n⟩ := o
  dsimp only
  cases hk : kindOk k
  · exact of_noKind k r n hk w
  cases h0 : decide (r < 0)
  rotate_left
  · exact of_neg k r n hk h0 w
  cases h9 : decide (9 ≤ r)
  rotate_left
  · exact of_big k r n hk h0 h9 w
  have h0' := of_decide_eq_false h0
  have h9' := of_decide_eq_false h9
  have hr : r = 0 ∨ r = 1 ∨ r = 2 ∨ r = 3 ∨ r = 4 ∨ r = 5 ∨ r = 6 ∨ r = 7 ∨ r = 8 := by omega
  clear h0 h9 h0' h9'
  rcases hr with rfl | rfl | rfl | rfl | rfl | rfl | rfl | rfl | rfl
  · cases hn : (((kindD k).nm 0).toList == [])
    · cases hf : fitsB (kindD k).lo (kindD k).hi n
      · exact of_unfit0 k n hk hn hf w
      · exfalso
        rw [show okOpd ⟨k, 0, n⟩ = (kindOk k && decide ((0 : Int) ≤ 0) && decide ((0 : Int) < 9) && !(((kindD k).nm 0).toList == []) && fitsB (kindD k).lo (kindD k).hi n) from rfl, hk, hn, hf] at h
        exact absurd h (by decide)
    · exact of_empty0 k n hk hn w
  · cases hn : (((kindD k).nm 1).toList == [])
    · cases hf : fitsB (kindD k).lo (kindD k).hi n
      · exact of_unfit1 k n hk hn hf w
      · exfalso
        rw [show okOpd ⟨k, 1, n⟩ = (kindOk k && decide ((0 : Int) ≤ 1) && decide ((1 : Int) < 9) && !(((kindD k).nm 1).toList == []) && fitsB (kindD k).lo (kindD k).hi n) from rfl, hk, hn, hf] at h
        exact absurd h (by decide)
    · exact of_empty1 k n hk hn w
  · cases hn : (((kindD k).nm 2).toList == [])
    · cases hf : fitsB (kindD k).lo (kindD k).hi n
      · exact of_unfit2 k n hk hn hf w
      · exfalso
        rw [show okOpd ⟨k, 2, n⟩ = (kindOk k && decide ((0 : Int) ≤ 2) && decide ((2 : Int) < 9) && !(((kindD k).nm 2).toList == []) && fitsB (kindD k).lo (kindD k).hi n) from rfl, hk, hn, hf] at h
        exact absurd h (by decide)
    · exact of_empty2 k n hk hn w
  · cases hn : (((kindD k).nm 3).toList == [])
    · cases hf : fitsB (kindD k).lo (kindD k).hi n
      · exact of_unfit3 k n hk hn hf w
      · exfalso
        rw [show okOpd ⟨k, 3, n⟩ = (kindOk k && decide ((0 : Int) ≤ 3) && decide ((3 : Int) < 9) && !(((kindD k).nm 3).toList == []) && fitsB (kindD k).lo (kindD k).hi n) from rfl, hk, hn, hf] at h
        exact absurd h (by decide)
    · exact of_empty3 k n hk hn w
  · cases hn : (((kindD k).nm 4).toList == [])
    · cases hf : fitsB (kindD k).lo (kindD k).hi n
      · exact of_unfit4 k n hk hn hf w
      · exfalso
        rw [show okOpd ⟨k, 4, n⟩ = (kindOk k && decide ((0 : Int) ≤ 4) && decide ((4 : Int) < 9) && !(((kindD k).nm 4).toList == []) && fitsB (kindD k).lo (kindD k).hi n) from rfl, hk, hn, hf] at h
        exact absurd h (by decide)
    · exact of_empty4 k n hk hn w
  · cases hn : (((kindD k).nm 5).toList == [])
    · cases hf : fitsB (kindD k).lo (kindD k).hi n
      · exact of_unfit5 k n hk hn hf w
      · exfalso
        rw [show okOpd ⟨k, 5, n⟩ = (kindOk k && decide ((0 : Int) ≤ 5) && decide ((5 : Int) < 9) && !(((kindD k).nm 5).toList == []) && fitsB (kindD k).lo (kindD k).hi n) from rfl, hk, hn, hf] at h
        exact absurd h (by decide)
    · exact of_empty5 k n hk hn w
  · cases hn : (((kindD k).nm 6).toList == [])
    · cases hf : fitsB (kindD k).lo (kindD k).hi n
      · exact of_unfit6 k n hk hn hf w
      · exfalso
        rw [show okOpd ⟨k, 6, n⟩ = (kindOk k && decide ((0 : Int) ≤ 6) && decide ((6 : Int) < 9) && !(((kindD k).nm 6).toList == []) && fitsB (kindD k).lo (kindD k).hi n) from rfl, hk, hn, hf] at h
        exact absurd h (by decide)
    · exact of_empty6 k n hk hn w
  · cases hn : (((kindD k).nm 7).toList == [])
    · cases hf : fitsB (kindD k).lo (kindD k).hi n
      · exact of_unfit7 k n hk hn hf w
      · exfalso
        rw [show okOpd ⟨k, 7, n⟩ = (kindOk k && decide ((0 : Int) ≤ 7) && decide ((7 : Int) < 9) && !(((kindD k).nm 7).toList == []) && fitsB (kindD k).lo (kindD k).hi n) from rfl, hk, hn, hf] at h
        exact absurd h (by decide)
    · exact of_empty7 k n hk hn w
  · cases hn : (((kindD k).nm 8).toList == [])
    · cases hf : fitsB (kindD k).lo (kindD k).hi n
      · exact of_unfit8 k n hk hn hf w
      · exfalso
        rw [show okOpd ⟨k, 8, n⟩ = (kindOk k && decide ((0 : Int) ≤ 8) && decide ((8 : Int) < 9) && !(((kindD k).nm 8).toList == []) && fitsB (kindD k).lo (kindD k).hi n) from rfl, hk, hn, hf] at h
        exact absurd h (by decide)
    · exact of_empty8 k n hk hn w
theorem of_yes (o : Opd) (h : okOpd o = true) (w : World) : Calls Tryd.prog 122 #[.agg #[.int .i64 o.kind, .int .i64 o.reg, .int .i64 o.n]] w fun e w' => e = .returned (.tuple #[(kindD o.kind).val, .string ((kindD o.kind).nm o.reg.toNat), .bool true]) ∧ Below w.heap.size w w' := by
  obtain ⟨k, r, n⟩ := o
  simp only [okOpd, Bool.and_eq_true, decide_eq_true_eq, Bool.not_eq_true'] at h
  obtain ⟨⟨⟨⟨hk, h0⟩, h9⟩, hn⟩, hf⟩ := h
  dsimp only at *
  have hr : r = 0 ∨ r = 1 ∨ r = 2 ∨ r = 3 ∨ r = 4 ∨ r = 5 ∨ r = 6 ∨ r = 7 ∨ r = 8 := by omega
  clear h0 h9
  rcases hr with rfl | rfl | rfl | rfl | rfl | rfl | rfl | rfl | rfl
  · exact of_ok0 k n hk hn hf w
  · exact of_ok1 k n hk hn hf w
  · exact of_ok2 k n hk hn hf w
  · exact of_ok3 k n hk hn hf w
  · exact of_ok4 k n hk hn hf w
  · exact of_ok5 k n hk hn hf w
  · exact of_ok6 k n hk hn hf w
  · exact of_ok7 k n hk hn hf w
  · exact of_ok8 k n hk hn hf w

set_option maxHeartbeats 2000000 in
theorem valid_any (o : Opd) (w : World) : Calls Tryd.prog 88 #[.agg #[.int .i64 o.kind, .int .i64 o.reg, .int .i64 o.n]] w fun e w' => e = .returned (.bool (okOpd o)) ∧ Below w.heap.size w w' := by
  have HB0 : Hid (Below w.heap.size w (w.alloc (.cells #[.int .i64 o.kind, .int .i64 o.reg, .int .i64 o.n] 47))) := (Below.refl _ _).alloc (Nat.le_refl _) _
  cases h : okOpd o
  · have HO := Lib.hid (of_no o h (w.alloc (.cells #[.int .i64 o.kind, .int .i64 o.reg, .int .i64 o.n] 47)))
    simp only [kindNil] at HO
    go_enter Tryd.func88, Tryd.ntmps88
    go_wp2_with (go_at_call 122; refine HO.out.mono ?_; rintro e w1 ⟨rfl, hb⟩; have HB := Lib.hid (HB0.out.trans (hb.mono HB0.out.size)); clear hb)
    go_ret
    exact ⟨rfl, HB.out.alloc HB.out.size _⟩
  · have HO := Lib.hid (of_yes o h (w.alloc (.cells #[.int .i64 o.kind, .int .i64 o.reg, .int .i64 o.n] 47)))
    simp only [KindD.val] at HO
    go_enter Tryd.func88, Tryd.ntmps88
    go_wp2_with (go_at_call 122; refine HO.out.mono ?_; rintro e w1 ⟨rfl, hb⟩; have HB := Lib.hid (HB0.out.trans (hb.mono HB0.out.size)); clear hb)
    go_ret
    exact ⟨rfl, HB.out.alloc HB.out.size _⟩
end Go.Proofs.YtkkjoghfdmmpaaaDoor
