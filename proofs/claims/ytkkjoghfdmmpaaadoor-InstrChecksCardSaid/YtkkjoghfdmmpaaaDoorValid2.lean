/-
  WHICH OPERANDS ARE VALID: the reference's Valid.
-/
import Derived.Test.YtkkjoghfdmmpaaaDoorValid1
namespace Go.Proofs.YtkkjoghfdmmpaaaDoor
open Go.RowKit

/-- which operands are valid -/
def validOpd (o : Opd) : Bool :=
  if o.kind == 1 || o.kind == 2 || o.kind == 3 || o.kind == 4 || o.kind == 8 || o.kind == 9 then !((nameOf o.kind o.reg).toList == []) && o.n == 0
  else if o.kind == 5 then !((nameOf 5 o.reg).toList == []) && decide (-128 ≤ o.n) && decide (o.n ≤ 127)
  else if o.kind == 6 then o.reg == 0 && decide (-32768 ≤ o.n) && decide (o.n ≤ 65535)
  else if o.kind == 7 then o.reg == 0 && decide (0 ≤ o.n) && decide (o.n ≤ 65535)
  else if o.kind == 10 then o.reg == 0 && decide (-128 ≤ o.n) && decide (o.n ≤ 127)
  else false

set_option maxHeartbeats 4000000 in
theorem valid06_1 (r n : Int) (w : World) : Calls Tryd.prog 84 #[.agg #[.int .i64 1, .int .i64 r, .int .i64 n]] w fun e w' => e = .returned (.bool (validOpd ⟨1, r, n⟩)) ∧ Below w.heap.size w w' := by
  have HB0 : Hid (Below w.heap.size w (w.alloc (.cells #[.int .i64 1, .int .i64 r, .int .i64 n] 47))) := (Below.refl _ _).alloc (Nat.le_refl _) _
  have HK : Hid (Blk (w.alloc (.cells #[.int .i64 1, .int .i64 r, .int .i64 n] 47)) w.heap.size 47 #[.int .i64 1, .int .i64 r, .int .i64 n]) := Blk.new w _ _
  have HN := Lib.hid (name_any 1 r (w.alloc (.cells #[.int .i64 1, .int .i64 r, .int .i64 n] 47)))
  cases e0 : ((nameOf 1 r).toList == [])
  · cases e1 : (n == 0)
    · have HV := Lib.hid (show validOpd ⟨1, r, n⟩ = false by simp only [validOpd, e0, e1]; rfl)
      go_enter Tryd.func84, Tryd.ntmps84
      go_wp2_with (go_at_call 120; refine HN.out.mono ?_; rintro e w1 ⟨rfl, hb⟩; have HB := Lib.hid hb; have a2 : w1.cell? ⟨w.heap.size, 2, none⟩ = some (.int .i64 n) := (hb.cell (p := ⟨w.heap.size, 2, none⟩) HK.out.lt).trans (HK.out.cell 2); clear hb)
      go_ret
      exact ⟨ret_bool HV.out.symm, HB0.out.trans (HB.out.mono HB0.out.size)⟩
    · have HV := Lib.hid (show validOpd ⟨1, r, n⟩ = true by simp only [validOpd, e0, e1]; rfl)
      go_enter Tryd.func84, Tryd.ntmps84
      go_wp2_with (go_at_call 120; refine HN.out.mono ?_; rintro e w1 ⟨rfl, hb⟩; have HB := Lib.hid hb; have a2 : w1.cell? ⟨w.heap.size, 2, none⟩ = some (.int .i64 n) := (hb.cell (p := ⟨w.heap.size, 2, none⟩) HK.out.lt).trans (HK.out.cell 2); clear hb)
      go_ret
      exact ⟨ret_bool HV.out.symm, HB0.out.trans (HB.out.mono HB0.out.size)⟩
  · have HV := Lib.hid (show validOpd ⟨1, r, n⟩ = false by simp only [validOpd, e0]; rfl)
    go_enter Tryd.func84, Tryd.ntmps84
    go_wp2_with (go_at_call 120; refine HN.out.mono ?_; rintro e w1 ⟨rfl, hb⟩; have HB := Lib.hid hb; have a2 : w1.cell? ⟨w.heap.size, 2, none⟩ = some (.int .i64 n) := (hb.cell (p := ⟨w.heap.size, 2, none⟩) HK.out.lt).trans (HK.out.cell 2); clear hb)
    go_ret
    exact ⟨ret_bool HV.out.symm, HB0.out.trans (HB.out.mono HB0.out.size)⟩
set_option maxHeartbeats 4000000 in
theorem valid06_2 (r n : Int) (w : World) : Calls Tryd.prog 84 #[.agg #[.int .i64 2, .int .i64 r, .int .i64 n]] w fun e w' => e = .returned (.bool (validOpd ⟨2, r, n⟩)) ∧ Below w.heap.size w w' := by
  have HB0 : Hid (Below w.heap.size w (w.alloc (.cells #[.int .i64 2, .int .i64 r, .int .i64 n] 47))) := (Below.refl _ _).alloc (Nat.le_refl _) _
  have HK : Hid (Blk (w.alloc (.cells #[.int .i64 2, .int .i64 r, .int .i64 n] 47)) w.heap.size 47 #[.int .i64 2, .int .i64 r, .int .i64 n]) := Blk.new w _ _
  have HN := Lib.hid (name_any 2 r (w.alloc (.cells #[.int .i64 2, .int .i64 r, .int .i64 n] 47)))
  cases e0 : ((nameOf 2 r).toList == [])
  · cases e1 : (n == 0)
    · have HV := Lib.hid (show validOpd ⟨2, r, n⟩ = false by simp only [validOpd, e0, e1]; rfl)
      go_enter Tryd.func84, Tryd.ntmps84
      go_wp2_with (go_at_call 120; refine HN.out.mono ?_; rintro e w1 ⟨rfl, hb⟩; have HB := Lib.hid hb; have a2 : w1.cell? ⟨w.heap.size, 2, none⟩ = some (.int .i64 n) := (hb.cell (p := ⟨w.heap.size, 2, none⟩) HK.out.lt).trans (HK.out.cell 2); clear hb)
      go_ret
      exact ⟨ret_bool HV.out.symm, HB0.out.trans (HB.out.mono HB0.out.size)⟩
    · have HV := Lib.hid (show validOpd ⟨2, r, n⟩ = true by simp only [validOpd, e0, e1]; rfl)
      go_enter Tryd.func84, Tryd.ntmps84
      go_wp2_with (go_at_call 120; refine HN.out.mono ?_; rintro e w1 ⟨rfl, hb⟩; have HB := Lib.hid hb; have a2 : w1.cell? ⟨w.heap.size, 2, none⟩ = some (.int .i64 n) := (hb.cell (p := ⟨w.heap.size, 2, none⟩) HK.out.lt).trans (HK.out.cell 2); clear hb)
      go_ret
      exact ⟨ret_bool HV.out.symm, HB0.out.trans (HB.out.mono HB0.out.size)⟩
  · have HV := Lib.hid (show validOpd ⟨2, r, n⟩ = false by simp only [validOpd, e0]; rfl)
    go_enter Tryd.func84, Tryd.ntmps84
    go_wp2_with (go_at_call 120; refine HN.out.mono ?_; rintro e w1 ⟨rfl, hb⟩; have HB := Lib.hid hb; have a2 : w1.cell? ⟨w.heap.size, 2, none⟩ = some (.int .i64 n) := (hb.cell (p := ⟨w.heap.size, 2, none⟩) HK.out.lt).trans (HK.out.cell 2); clear hb)
    go_ret
    exact ⟨ret_bool HV.out.symm, HB0.out.trans (HB.out.mono HB0.out.size)⟩
set_option maxHeartbeats 4000000 in
theorem valid06_3 (r n : Int) (w : World) : Calls Tryd.prog 84 #[.agg #[.int .i64 3, .int .i64 r, .int .i64 n]] w fun e w' => e = .returned (.bool (validOpd ⟨3, r, n⟩)) ∧ Below w.heap.size w w' := by
  have HB0 : Hid (Below w.heap.size w (w.alloc (.cells #[.int .i64 3, .int .i64 r, .int .i64 n] 47))) := (Below.refl _ _).alloc (Nat.le_refl _) _
  have HK : Hid (Blk (w.alloc (.cells #[.int .i64 3, .int .i64 r, .int .i64 n] 47)) w.heap.size 47 #[.int .i64 3, .int .i64 r, .int .i64 n]) := Blk.new w _ _
  have HN := Lib.hid (name_any 3 r (w.alloc (.cells #[.int .i64 3, .int .i64 r, .int .i64 n] 47)))
  cases e0 : ((nameOf 3 r).toList == [])
  · cases e1 : (n == 0)
    · have HV := Lib.hid (show validOpd ⟨3, r, n⟩ = false by simp only [validOpd, e0, e1]; rfl)
      go_enter Tryd.func84, Tryd.ntmps84
      go_wp2_with (go_at_call 120; refine HN.out.mono ?_; rintro e w1 ⟨rfl, hb⟩; have HB := Lib.hid hb; have a2 : w1.cell? ⟨w.heap.size, 2, none⟩ = some (.int .i64 n) := (hb.cell (p := ⟨w.heap.size, 2, none⟩) HK.out.lt).trans (HK.out.cell 2); clear hb)
      go_ret
      exact ⟨ret_bool HV.out.symm, HB0.out.trans (HB.out.mono HB0.out.size)⟩
    · have HV := Lib.hid (show validOpd ⟨3, r, n⟩ = true by simp only [validOpd, e0, e1]; rfl)
      go_enter Tryd.func84, Tryd.ntmps84
      go_wp2_with (go_at_call 120; refine HN.out.mono ?_; rintro e w1 ⟨rfl, hb⟩; have HB := Lib.hid hb; have a2 : w1.cell? ⟨w.heap.size, 2, none⟩ = some (.int .i64 n) := (hb.cell (p := ⟨w.heap.size, 2, none⟩) HK.out.lt).trans (HK.out.cell 2); clear hb)
      go_ret
      exact ⟨ret_bool HV.out.symm, HB0.out.trans (HB.out.mono HB0.out.size)⟩
  · have HV := Lib.hid (show validOpd ⟨3, r, n⟩ = false by simp only [validOpd, e0]; rfl)
    go_enter Tryd.func84, Tryd.ntmps84
    go_wp2_with (go_at_call 120; refine HN.out.mono ?_; rintro e w1 ⟨rfl, hb⟩; have HB := Lib.hid hb; have a2 : w1.cell? ⟨w.heap.size, 2, none⟩ = some (.int .i64 n) := (hb.cell (p := ⟨w.heap.size, 2, none⟩) HK.out.lt).trans (HK.out.cell 2); clear hb)
    go_ret
    exact ⟨ret_bool HV.out.symm, HB0.out.trans (HB.out.mono HB0.out.size)⟩
set_option maxHeartbeats 4000000 in
theorem valid06_4 (r n : Int) (w : World) : Calls Tryd.prog 84 #[.agg #[.int .i64 4, .int .i64 r, .int .i64 n]] w fun e w' => e = .returned (.bool (validOpd ⟨4, r, n⟩)) ∧ Below w.heap.size w w' := by
  have HB0 : Hid (Below w.heap.size w (w.alloc (.cells #[.int .i64 4, .int .i64 r, .int .i64 n] 47))) := (Below.refl _ _).alloc (Nat.le_refl _) _
  have HK : Hid (Blk (w.alloc (.cells #[.int .i64 4, .int .i64 r, .int .i64 n] 47)) w.heap.size 47 #[.int .i64 4, .int .i64 r, .int .i64 n]) := Blk.new w _ _
  have HN := Lib.hid (name_any 4 r (w.alloc (.cells #[.int .i64 4, .int .i64 r, .int .i64 n] 47)))
  cases e0 : ((nameOf 4 r).toList == [])
  · cases e1 : (n == 0)
    · have HV := Lib.hid (show validOpd ⟨4, r, n⟩ = false by simp only [validOpd, e0, e1]; rfl)
      go_enter Tryd.func84, Tryd.ntmps84
      go_wp2_with (go_at_call 120; refine HN.out.mono ?_; rintro e w1 ⟨rfl, hb⟩; have HB := Lib.hid hb; have a2 : w1.cell? ⟨w.heap.size, 2, none⟩ = some (.int .i64 n) := (hb.cell (p := ⟨w.heap.size, 2, none⟩) HK.out.lt).trans (HK.out.cell 2); clear hb)
      go_ret
      exact ⟨ret_bool HV.out.symm, HB0.out.trans (HB.out.mono HB0.out.size)⟩
    · have HV := Lib.hid (show validOpd ⟨4, r, n⟩ = true by simp only [validOpd, e0, e1]; rfl)
      go_enter Tryd.func84, Tryd.ntmps84
      go_wp2_with (go_at_call 120; refine HN.out.mono ?_; rintro e w1 ⟨rfl, hb⟩; have HB := Lib.hid hb; have a2 : w1.cell? ⟨w.heap.size, 2, none⟩ = some (.int .i64 n) := (hb.cell (p := ⟨w.heap.size, 2, none⟩) HK.out.lt).trans (HK.out.cell 2); clear hb)
      go_ret
      exact ⟨ret_bool HV.out.symm, HB0.out.trans (HB.out.mono HB0.out.size)⟩
  · have HV := Lib.hid (show validOpd ⟨4, r, n⟩ = false by simp only [validOpd, e0]; rfl)
    go_enter Tryd.func84, Tryd.ntmps84
    go_wp2_with (go_at_call 120; refine HN.out.mono ?_; rintro e w1 ⟨rfl, hb⟩; have HB := Lib.hid hb; have a2 : w1.cell? ⟨w.heap.size, 2, none⟩ = some (.int .i64 n) := (hb.cell (p := ⟨w.heap.size, 2, none⟩) HK.out.lt).trans (HK.out.cell 2); clear hb)
    go_ret
    exact ⟨ret_bool HV.out.symm, HB0.out.trans (HB.out.mono HB0.out.size)⟩
set_option maxHeartbeats 4000000 in
theorem valid06_8 (r n : Int) (w : World) : Calls Tryd.prog 84 #[.agg #[.int .i64 8, .int .i64 r, .int .i64 n]] w fun e w' => e = .returned (.bool (validOpd ⟨8, r, n⟩)) ∧ Below w.heap.size w w' := by
  have HB0 : Hid (Below w.heap.size w (w.alloc (.cells #[.int .i64 8, .int .i64 r, .int .i64 n] 47))) := (Below.refl _ _).alloc (Nat.le_refl _) _
  have HK : Hid (Blk (w.alloc (.cells #[.int .i64 8, .int .i64 r, .int .i64 n] 47)) w.heap.size 47 #[.int .i64 8, .int .i64 r, .int .i64 n]) := Blk.new w _ _
  have HN := Lib.hid (name_any 8 r (w.alloc (.cells #[.int .i64 8, .int .i64 r, .int .i64 n] 47)))
  cases e0 : ((nameOf 8 r).toList == [])
  · cases e1 : (n == 0)
    · have HV := Lib.hid (show validOpd ⟨8, r, n⟩ = false by simp only [validOpd, e0, e1]; rfl)
      go_enter Tryd.func84, Tryd.ntmps84
      go_wp2_with (go_at_call 120; refine HN.out.mono ?_; rintro e w1 ⟨rfl, hb⟩; have HB := Lib.hid hb; have a2 : w1.cell? ⟨w.heap.size, 2, none⟩ = some (.int .i64 n) := (hb.cell (p := ⟨w.heap.size, 2, none⟩) HK.out.lt).trans (HK.out.cell 2); clear hb)
      go_ret
      exact ⟨ret_bool HV.out.symm, HB0.out.trans (HB.out.mono HB0.out.size)⟩
    · have HV := Lib.hid (show validOpd ⟨8, r, n⟩ = true by simp only [validOpd, e0, e1]; rfl)
      go_enter Tryd.func84, Tryd.ntmps84
      go_wp2_with (go_at_call 120; refine HN.out.mono ?_; rintro e w1 ⟨rfl, hb⟩; have HB := Lib.hid hb; have a2 : w1.cell? ⟨w.heap.size, 2, none⟩ = some (.int .i64 n) := (hb.cell (p := ⟨w.heap.size, 2, none⟩) HK.out.lt).trans (HK.out.cell 2); clear hb)
      go_ret
      exact ⟨ret_bool HV.out.symm, HB0.out.trans (HB.out.mono HB0.out.size)⟩
  · have HV := Lib.hid (show validOpd ⟨8, r, n⟩ = false by simp only [validOpd, e0]; rfl)
    go_enter Tryd.func84, Tryd.ntmps84
    go_wp2_with (go_at_call 120; refine HN.out.mono ?_; rintro e w1 ⟨rfl, hb⟩; have HB := Lib.hid hb; have a2 : w1.cell? ⟨w.heap.size, 2, none⟩ = some (.int .i64 n) := (hb.cell (p := ⟨w.heap.size, 2, none⟩) HK.out.lt).trans (HK.out.cell 2); clear hb)
    go_ret
    exact ⟨ret_bool HV.out.symm, HB0.out.trans (HB.out.mono HB0.out.size)⟩
set_option maxHeartbeats 4000000 in
theorem valid06_9 (r n : Int) (w : World) : Calls Tryd.prog 84 #[.agg #[.int .i64 9, .int .i64 r, .int .i64 n]] w fun e w' => e = .returned (.bool (validOpd ⟨9, r, n⟩)) ∧ Below w.heap.size w w' := by
  have HB0 : Hid (Below w.heap.size w (w.alloc (.cells #[.int .i64 9, .int .i64 r, .int .i64 n] 47))) := (Below.refl _ _).alloc (Nat.le_refl _) _
  have HK : Hid (Blk (w.alloc (.cells #[.int .i64 9, .int .i64 r, .int .i64 n] 47)) w.heap.size 47 #[.int .i64 9, .int .i64 r, .int .i64 n]) := Blk.new w _ _
  have HN := Lib.hid (name_any 9 r (w.alloc (.cells #[.int .i64 9, .int .i64 r, .int .i64 n] 47)))
  cases e0 : ((nameOf 9 r).toList == [])
  · cases e1 : (n == 0)
    · have HV := Lib.hid (show validOpd ⟨9, r, n⟩ = false by simp only [validOpd, e0, e1]; rfl)
      go_enter Tryd.func84, Tryd.ntmps84
      go_wp2_with (go_at_call 120; refine HN.out.mono ?_; rintro e w1 ⟨rfl, hb⟩; have HB := Lib.hid hb; have a2 : w1.cell? ⟨w.heap.size, 2, none⟩ = some (.int .i64 n) := (hb.cell (p := ⟨w.heap.size, 2, none⟩) HK.out.lt).trans (HK.out.cell 2); clear hb)
      go_ret
      exact ⟨ret_bool HV.out.symm, HB0.out.trans (HB.out.mono HB0.out.size)⟩
    · have HV := Lib.hid (show validOpd ⟨9, r, n⟩ = true by simp only [validOpd, e0, e1]; rfl)
      go_enter Tryd.func84, Tryd.ntmps84
      go_wp2_with (go_at_call 120; refine HN.out.mono ?_; rintro e w1 ⟨rfl, hb⟩; have HB := Lib.hid hb; have a2 : w1.cell? ⟨w.heap.size, 2, none⟩ = some (.int .i64 n) := (hb.cell (p := ⟨w.heap.size, 2, none⟩) HK.out.lt).trans (HK.out.cell 2); clear hb)
      go_ret
      exact ⟨ret_bool HV.out.symm, HB0.out.trans (HB.out.mono HB0.out.size)⟩
  · have HV := Lib.hid (show validOpd ⟨9, r, n⟩ = false by simp only [validOpd, e0]; rfl)
    go_enter Tryd.func84, Tryd.ntmps84
    go_wp2_with (go_at_call 120; refine HN.out.mono ?_; rintro e w1 ⟨rfl, hb⟩; have HB := Lib.hid hb; have a2 : w1.cell? ⟨w.heap.size, 2, none⟩ = some (.int .i64 n) := (hb.cell (p := ⟨w.heap.size, 2, none⟩) HK.out.lt).trans (HK.out.cell 2); clear hb)
    go_ret
    exact ⟨ret_bool HV.out.symm, HB0.out.trans (HB.out.mono HB0.out.size)⟩
set_option maxHeartbeats 4000000 in
theorem valid06_5 (r n : Int) (w : World) : Calls Tryd.prog 84 #[.agg #[.int .i64 5, .int .i64 r, .int .i64 n]] w fun e w' => e = .returned (.bool (validOpd ⟨5, r, n⟩)) ∧ Below w.heap.size w w' := by
  have HB0 : Hid (Below w.heap.size w (w.alloc (.cells #[.int .i64 5, .int .i64 r, .int .i64 n] 47))) := (Below.refl _ _).alloc (Nat.le_refl _) _
  have HK : Hid (Blk (w.alloc (.cells #[.int .i64 5, .int .i64 r, .int .i64 n] 47)) w.heap.size 47 #[.int .i64 5, .int .i64 r, .int .i64 n]) := Blk.new w _ _
  have HN := Lib.hid (name_any 5 r (w.alloc (.cells #[.int .i64 5, .int .i64 r, .int .i64 n] 47)))
  cases e0 : ((nameOf 5 r).toList == [])
  · cases e1 : decide (-128 ≤ n)
    · have HV := Lib.hid (show validOpd ⟨5, r, n⟩ = false by simp only [validOpd, e0, e1]; rfl)
      go_enter Tryd.func84, Tryd.ntmps84
      go_wp2_with (go_at_call 120; refine HN.out.mono ?_; rintro e w1 ⟨rfl, hb⟩; have HB := Lib.hid hb; have a2 : w1.cell? ⟨w.heap.size, 2, none⟩ = some (.int .i64 n) := (hb.cell (p := ⟨w.heap.size, 2, none⟩) HK.out.lt).trans (HK.out.cell 2); clear hb)
      go_ret
      exact ⟨ret_bool HV.out.symm, HB0.out.trans (HB.out.mono HB0.out.size)⟩
    · cases e2 : decide (n ≤ 127)
      · have HV := Lib.hid (show validOpd ⟨5, r, n⟩ = false by simp only [validOpd, e0, e1, e2]; rfl)
        go_enter Tryd.func84, Tryd.ntmps84
        go_wp2_with (go_at_call 120; refine HN.out.mono ?_; rintro e w1 ⟨rfl, hb⟩; have HB := Lib.hid hb; have a2 : w1.cell? ⟨w.heap.size, 2, none⟩ = some (.int .i64 n) := (hb.cell (p := ⟨w.heap.size, 2, none⟩) HK.out.lt).trans (HK.out.cell 2); clear hb)
        go_ret
        exact ⟨ret_bool HV.out.symm, HB0.out.trans (HB.out.mono HB0.out.size)⟩
      · have HV := Lib.hid (show validOpd ⟨5, r, n⟩ = true by simp only [validOpd, e0, e1, e2]; rfl)
        go_enter Tryd.func84, Tryd.ntmps84
        go_wp2_with (go_at_call 120; refine HN.out.mono ?_; rintro e w1 ⟨rfl, hb⟩; have HB := Lib.hid hb; have a2 : w1.cell? ⟨w.heap.size, 2, none⟩ = some (.int .i64 n) := (hb.cell (p := ⟨w.heap.size, 2, none⟩) HK.out.lt).trans (HK.out.cell 2); clear hb)
        go_ret
        exact ⟨ret_bool HV.out.symm, HB0.out.trans (HB.out.mono HB0.out.size)⟩
  · have HV := Lib.hid (show validOpd ⟨5, r, n⟩ = false by simp only [validOpd, e0]; rfl)
    go_enter Tryd.func84, Tryd.ntmps84
    go_wp2_with (go_at_call 120; refine HN.out.mono ?_; rintro e w1 ⟨rfl, hb⟩; have HB := Lib.hid hb; have a2 : w1.cell? ⟨w.heap.size, 2, none⟩ = some (.int .i64 n) := (hb.cell (p := ⟨w.heap.size, 2, none⟩) HK.out.lt).trans (HK.out.cell 2); clear hb)
    go_ret
    exact ⟨ret_bool HV.out.symm, HB0.out.trans (HB.out.mono HB0.out.size)⟩
set_option maxHeartbeats 4000000 in
theorem valid06_6 (r n : Int) (w : World) : Calls Tryd.prog 84 #[.agg #[.int .i64 6, .int .i64 r, .int .i64 n]] w fun e w' => e = .returned (.bool (validOpd ⟨6, r, n⟩)) ∧ Below w.heap.size w w' := by
  have HB0 : Hid (Below w.heap.size w (w.alloc (.cells #[.int .i64 6, .int .i64 r, .int .i64 n] 47))) := (Below.refl _ _).alloc (Nat.le_refl _) _
  cases e0 : (r == 0)
  · have HV := Lib.hid (show validOpd ⟨6, r, n⟩ = false by simp only [validOpd, e0]; rfl)
    go_enter Tryd.func84, Tryd.ntmps84
    go_wp2
    go_ret
    exact ⟨ret_bool HV.out.symm, HB0.out⟩
  · cases e1 : decide (-32768 ≤ n)
    · have HV := Lib.hid (show validOpd ⟨6, r, n⟩ = false by simp only [validOpd, e0, e1]; rfl)
      go_enter Tryd.func84, Tryd.ntmps84
      go_wp2
      go_ret
      exact ⟨ret_bool HV.out.symm, HB0.out⟩
    · cases e2 : decide (n ≤ 65535)
      · have HV := Lib.hid (show validOpd ⟨6, r, n⟩ = false by simp only [validOpd, e0, e1, e2]; rfl)
        go_enter Tryd.func84, Tryd.ntmps84
        go_wp2
        go_ret
        exact ⟨ret_bool HV.out.symm, HB0.out⟩
      · have HV := Lib.hid (show validOpd ⟨6, r, n⟩ = true by simp only [validOpd, e0, e1, e2]; rfl)
        go_enter Tryd.func84, Tryd.ntmps84
        go_wp2
        go_ret
        exact ⟨ret_bool HV.out.symm, HB0.out⟩
set_option maxHeartbeats 4000000 in
theorem valid06_7 (r n : Int) (w : World) : Calls Tryd.prog 84 #[.agg #[.int .i64 7, .int .i64 r, .int .i64 n]] w fun e w' => e = .returned (.bool (validOpd ⟨7, r, n⟩)) ∧ Below w.heap.size w w' := by
  have HB0 : Hid (Below w.heap.size w (w.alloc (.cells #[.int .i64 7, .int .i64 r, .int .i64 n] 47))) := (Below.refl _ _).alloc (Nat.le_refl _) _
  cases e0 : (r == 0)
  · have HV := Lib.hid (show validOpd ⟨7, r, n⟩ = false by simp only [validOpd, e0]; rfl)
    go_enter Tryd.func84, Tryd.ntmps84
    go_wp2
    go_ret
    exact ⟨ret_bool HV.out.symm, HB0.out⟩
  · cases e1 : decide (0 ≤ n)
    · have HV := Lib.hid (show validOpd ⟨7, r, n⟩ = false by simp only [validOpd, e0, e1]; rfl)
      go_enter Tryd.func84, Tryd.ntmps84
      go_wp2
      go_ret
      exact ⟨ret_bool HV.out.symm, HB0.out⟩
    · cases e2 : decide (n ≤ 65535)
      · have HV := Lib.hid (show validOpd ⟨7, r, n⟩ = false by simp only [validOpd, e0, e1, e2]; rfl)
        go_enter Tryd.func84, Tryd.ntmps84
        go_wp2
        go_ret
        exact ⟨ret_bool HV.out.symm, HB0.out⟩
      · have HV := Lib.hid (show validOpd ⟨7, r, n⟩ = true by simp only [validOpd, e0, e1, e2]; rfl)
        go_enter Tryd.func84, Tryd.ntmps84
        go_wp2
        go_ret
        exact ⟨ret_bool HV.out.symm, HB0.out⟩
set_option maxHeartbeats 4000000 in
theorem valid06_10 (r n : Int) (w : World) : Calls Tryd.prog 84 #[.agg #[.int .i64 10, .int .i64 r, .int .i64 n]] w fun e w' => e = .returned (.bool (validOpd ⟨10, r, n⟩)) ∧ Below w.heap.size w w' := by
  have HB0 : Hid (Below w.heap.size w (w.alloc (.cells #[.int .i64 10, .int .i64 r, .int .i64 n] 47))) := (Below.refl _ _).alloc (Nat.le_refl _) _
  cases e0 : (r == 0)
  · have HV := Lib.hid (show validOpd ⟨10, r, n⟩ = false by simp only [validOpd, e0]; rfl)
    go_enter Tryd.func84, Tryd.ntmps84
    go_wp2
    go_ret
    exact ⟨ret_bool HV.out.symm, HB0.out⟩
  · cases e1 : decide (-128 ≤ n)
    · have HV := Lib.hid (show validOpd ⟨10, r, n⟩ = false by simp only [validOpd, e0, e1]; rfl)
      go_enter Tryd.func84, Tryd.ntmps84
      go_wp2
      go_ret
      exact ⟨ret_bool HV.out.symm, HB0.out⟩
    · cases e2 : decide (n ≤ 127)
      · have HV := Lib.hid (show validOpd ⟨10, r, n⟩ = false by simp only [validOpd, e0, e1, e2]; rfl)
        go_enter Tryd.func84, Tryd.ntmps84
        go_wp2
        go_ret
        exact ⟨ret_bool HV.out.symm, HB0.out⟩
      · have HV := Lib.hid (show validOpd ⟨10, r, n⟩ = true by simp only [validOpd, e0, e1, e2]; rfl)
        go_enter Tryd.func84, Tryd.ntmps84
        go_wp2
        go_ret
        exact ⟨ret_bool HV.out.symm, HB0.out⟩
set_option maxHeartbeats 2000000 in
theorem valid06_no (k r n : Int) (h1 : (k == 1) = false) (h2 : (k == 2) = false) (h3 : (k == 3) = false) (h4 : (k == 4) = false) (h8 : (k == 8) = false) (h9 : (k == 9) = false) (h5 : (k == 5) = false) (h6 : (k == 6) = false) (h7 : (k == 7) = false) (h10 : (k == 10) = false) (w : World) : Calls Tryd.prog 84 #[.agg #[.int .i64 k, .int .i64 r, .int .i64 n]] w fun e w' => e = .returned (.bool (validOpd ⟨k, r, n⟩)) ∧ Below w.heap.size w w' := by
  have HB0 : Hid (Below w.heap.size w (w.alloc (.cells #[.int .i64 k, .int .i64 r, .int .i64 n] 47))) := (Below.refl _ _).alloc (Nat.le_refl _) _
  have HV := Lib.hid (show validOpd ⟨k, r, n⟩ = false by simp only [validOpd, h1, h2, h3, h4, h8, h9, h5, h6, h7, h10]; rfl)
  go_enter Tryd.func84, Tryd.ntmps84
  go_wp2
  go_ret
  exact ⟨ret_bool HV.out.symm, HB0.out⟩
theorem valid06_any (o : Opd) (w : World) : Calls Tryd.prog 84 #[.agg #[.int .i64 o.kind, .int .i64 o.reg, .int .i64 o.n]] w fun e w' => e = .returned (.bool (validOpd o)) ∧ Below w.heap.size w w' := by
  obtain ⟨k, r, n⟩ := o
  dsimp only
  by_cases h1 : k = 1
  · subst h1; exact valid06_1 r n w
  by_cases h2 : k = 2
  · subst h2; exact valid06_2 r n w
  by_cases h3 : k = 3
  · subst h3; exact valid06_3 r n w
  by_cases h4 : k = 4
  · subst h4; exact valid06_4 r n w
  by_cases h8 : k = 8
  · subst h8; exact valid06_8 r n w
  by_cases h9 : k = 9
  · subst h9; exact valid06_9 r n w
  by_cases h5 : k = 5
  · subst h5; exact valid06_5 r n w
  by_cases h6 : k = 6
  · subst h6; exact valid06_6 r n w
  by_cases h7 : k = 7
  · subst h7; exact valid06_7 r n w
  by_cases h10 : k = 10
  · subst h10; exact valid06_10 r n w
  exact valid06_no k r n (by simpa using h1) (by simpa using h2) (by simpa using h3) (by simpa using h4) (by simpa using h8) (by simpa using h9) (by simpa using h5) (by simpa using h6) (by simpa using h7) (by simpa using h10) w
end Go.Proofs.YtkkjoghfdmmpaaaDoor
