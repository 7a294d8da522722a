/-
  WHICH OPERANDS ARE VALID: operand.of at a register number.
-/
import Derived.Test.YtlepicdjnbbndaaGreatDoorK3
namespace Go.Proofs.YtlepicdjnbbndaaGreatDoor
open Go.RowKit

theorem kind_at (k : Int) (r : Nat) (hr : r < 9) : (#[.string ((kindD k).nm 0), .string ((kindD k).nm 1), .string ((kindD k).nm 2), .string ((kindD k).nm 3), .string ((kindD k).nm 4), .string ((kindD k).nm 5), .string ((kindD k).nm 6), .string ((kindD k).nm 7), .string ((kindD k).nm 8), .int .i64 (kindD k).lo, .int .i64 (kindD k).hi, .func (.func (kindD k).form) #[] #[]] : Array Value)[r]? = some (.string ((kindD k).nm r)) := by
  have : r = 0 ∨ r = 1 ∨ r = 2 ∨ r = 3 ∨ r = 4 ∨ r = 5 ∨ r = 6 ∨ r = 7 ∨ r = 8 := by omega
  rcases this with rfl | rfl | rfl | rfl | rfl | rfl | rfl | rfl | rfl <;> rfl
set_option maxHeartbeats 4000000 in
theorem of_empty (k n : Int) (r : Nat) (hr : r < 9) (hk : kindOk k = true) (hn : (((kindD k).nm r).toList == []) = true) (w : World) : Calls Tryz.prog 113 #[.agg #[.int .i64 k, .int .i64 (r : Int), .int .i64 n]] w fun e w' => e = .returned (.tuple #[kindNil, .string ⟨#[]⟩, .bool false]) ∧ Below w.heap.size w w' := by
  have HK : Hid (Blk (w.alloc (.cells #[.int .i64 k, .int .i64 (r : Int), .int .i64 n] 87)) w.heap.size 87 #[.int .i64 k, .int .i64 (r : Int), .int .i64 n]) := Blk.new w _ _
  obtain ⟨W, hW⟩ : ∃ W : World, W = (w.alloc (.cells #[.int .i64 k, .int .i64 (r : Int), .int .i64 n] 87)).alloc (.cells #[.string ⟨#[]⟩, .string ⟨#[]⟩, .string ⟨#[]⟩, .string ⟨#[]⟩, .string ⟨#[]⟩, .string ⟨#[]⟩, .string ⟨#[]⟩, .string ⟨#[]⟩, .string ⟨#[]⟩, .int .i64 0, .int .i64 0, .nilFunc] 154) := ⟨_, rfl⟩
  have HBW : Hid (Below w.heap.size w W) := hW ▸ ((Below.refl _ _).alloc (Nat.le_refl _) _).alloc (by simp) _
  have HKW : Hid (Blk W w.heap.size 87 #[.int .i64 k, .int .i64 (r : Int), .int .i64 n]) := hW ▸ HK.out.alloc _
  have HZW : Hid (Blk W (w.heap.size + 1) 154 #[.string ⟨#[]⟩, .string ⟨#[]⟩, .string ⟨#[]⟩, .string ⟨#[]⟩, .string ⟨#[]⟩, .string ⟨#[]⟩, .string ⟨#[]⟩, .string ⟨#[]⟩, .string ⟨#[]⟩, .int .i64 0, .int .i64 0, .nilFunc]) := Lib.hid (by rw [hW]; exact (by simpa using Blk.new (w.alloc (.cells #[.int .i64 k, .int .i64 (r : Int), .int .i64 n] 87)) 154 #[.string ⟨#[]⟩, .string ⟨#[]⟩, .string ⟨#[]⟩, .string ⟨#[]⟩, .string ⟨#[]⟩, .string ⟨#[]⟩, .string ⟨#[]⟩, .string ⟨#[]⟩, .string ⟨#[]⟩, .int .i64 0, .int .i64 0, .nilFunc]))
  have HFI := Lib.hid (find_ok k hk W)
  simp only [KindD.val] at HFI
  have HC : Hid (∀ (wx : World) (b : Nat), b = wx.heap.size → (wx.alloc (.cells #[.int .i64 n] 3)).cell? ⟨b, 0, none⟩ = some (.int .i64 n)) := fun wx b hb => by rw [hb]; exact (Blk.new wx _ _).cell 0
  go_enter Tryz.func113, Tryz.ntmps113
  go_wp2_with fail
  rw [← hW]
  clear hW HK
  refine HFI.out.mono ?_
  rintro e w1 ⟨rfl, hb⟩
  have HB := Lib.hid hb
  have b0 : w1.cell? ⟨w.heap.size, 0, none⟩ = some (.int .i64 k) := (hb.cell (p := ⟨w.heap.size, 0, none⟩) HKW.out.lt).trans (HKW.out.cell 0)
  have b1 : w1.cell? ⟨w.heap.size, 1, none⟩ = some (.int .i64 (r : Int)) := (hb.cell (p := ⟨w.heap.size, 1, none⟩) HKW.out.lt).trans (HKW.out.cell 1)
  have b2 : w1.cell? ⟨w.heap.size, 2, none⟩ = some (.int .i64 n) := (hb.cell (p := ⟨w.heap.size, 2, none⟩) HKW.out.lt).trans (HKW.out.cell 2)
  have HZ := Lib.hid (HZW.out.below hb HZW.out.lt)
  have hlt1 : w.heap.size < w1.heap.size := Nat.lt_of_lt_of_le HKW.out.lt hb.size
  have hlt2 : w.heap.size + 1 < w1.heap.size := Nat.lt_of_lt_of_le HZW.out.lt hb.size
  clear hb
  have hcr : (w1.alloc (.cells #[.string ((kindD k).nm 0), .string ((kindD k).nm 1), .string ((kindD k).nm 2), .string ((kindD k).nm 3), .string ((kindD k).nm 4), .string ((kindD k).nm 5), .string ((kindD k).nm 6), .string ((kindD k).nm 7), .string ((kindD k).nm 8), .int .i64 (kindD k).lo, .int .i64 (kindD k).hi, .func (.func (kindD k).form) #[] #[]] 154)).cell? ⟨w1.heap.size, r, none⟩ = some (.string ((kindD k).nm r)) := ((Blk.new w1 _ _).cell r).trans (kind_at k r hr)
  have hr0 : (0 : Int) ≤ r := by omega
  have hr9 : (r : Int) < 9 := by omega
  go_upto_region 3 with fail
  go_wp2_with (refine wpList_store_row rfl 154 _ _ rfl (w.heap.size + 1) #[.string ⟨#[]⟩, .string ⟨#[]⟩, .string ⟨#[]⟩, .string ⟨#[]⟩, .string ⟨#[]⟩, .string ⟨#[]⟩, .string ⟨#[]⟩, .string ⟨#[]⟩, .string ⟨#[]⟩, .int .i64 0, .int .i64 0, .nilFunc] rfl rfl 154 _ (HZ.out.alloc _) (by kernel_rfl) rfl (by kernel_rfl) ?_)
  refine bodyPost_ret (results_row_tmp2 rfl _ _ (w.heap.size + 1) 154 #[.string ⟨#[]⟩, .string ⟨#[]⟩, .string ⟨#[]⟩, .string ⟨#[]⟩, .string ⟨#[]⟩, .string ⟨#[]⟩, .string ⟨#[]⟩, .string ⟨#[]⟩, .string ⟨#[]⟩, .int .i64 0, .int .i64 0, .nilFunc] (0, 0) _ rfl (setRow_heap _ _ _ _ _ _ (HZ.out.alloc _)) Tryz.underlying154 rfl (by kernel_rfl)) rfl ⟨rfl, ?_⟩
  exact below_setRow ((HBW.out.trans (HB.out.mono HBW.out.size)).alloc (Nat.le_trans HBW.out.size HB.out.size) _) (by omega) _

set_option maxHeartbeats 4000000 in
theorem of_unfit (k n : Int) (r : Nat) (hr : r < 9) (hk : kindOk k = true) (hn : (((kindD k).nm r).toList == []) = false) (hfit : fitsB (kindD k).lo (kindD k).hi n = false) (w : World) : Calls Tryz.prog 113 #[.agg #[.int .i64 k, .int .i64 (r : Int), .int .i64 n]] w fun e w' => e = .returned (.tuple #[kindNil, .string ⟨#[]⟩, .bool false]) ∧ Below w.heap.size w w' := by
  have HK : Hid (Blk (w.alloc (.cells #[.int .i64 k, .int .i64 (r : Int), .int .i64 n] 87)) w.heap.size 87 #[.int .i64 k, .int .i64 (r : Int), .int .i64 n]) := Blk.new w _ _
  obtain ⟨W, hW⟩ : ∃ W : World, W = (w.alloc (.cells #[.int .i64 k, .int .i64 (r : Int), .int .i64 n] 87)).alloc (.cells #[.string ⟨#[]⟩, .string ⟨#[]⟩, .string ⟨#[]⟩, .string ⟨#[]⟩, .string ⟨#[]⟩, .string ⟨#[]⟩, .string ⟨#[]⟩, .string ⟨#[]⟩, .string ⟨#[]⟩, .int .i64 0, .int .i64 0, .nilFunc] 154) := ⟨_, rfl⟩
  have HBW : Hid (Below w.heap.size w W) := hW ▸ ((Below.refl _ _).alloc (Nat.le_refl _) _).alloc (by simp) _
  have HKW : Hid (Blk W w.heap.size 87 #[.int .i64 k, .int .i64 (r : Int), .int .i64 n]) := hW ▸ HK.out.alloc _
  have HZW : Hid (Blk W (w.heap.size + 1) 154 #[.string ⟨#[]⟩, .string ⟨#[]⟩, .string ⟨#[]⟩, .string ⟨#[]⟩, .string ⟨#[]⟩, .string ⟨#[]⟩, .string ⟨#[]⟩, .string ⟨#[]⟩, .string ⟨#[]⟩, .int .i64 0, .int .i64 0, .nilFunc]) := Lib.hid (by rw [hW]; exact (by simpa using Blk.new (w.alloc (.cells #[.int .i64 k, .int .i64 (r : Int), .int .i64 n] 87)) 154 #[.string ⟨#[]⟩, .string ⟨#[]⟩, .string ⟨#[]⟩, .string ⟨#[]⟩, .string ⟨#[]⟩, .string ⟨#[]⟩, .string ⟨#[]⟩, .string ⟨#[]⟩, .string ⟨#[]⟩, .int .i64 0, .int .i64 0, .nilFunc]))
  have HFI := Lib.hid (find_ok k hk W)
  simp only [KindD.val] at HFI
  have HC : Hid (∀ (wx : World) (b : Nat), b = wx.heap.size → (wx.alloc (.cells #[.int .i64 n] 3)).cell? ⟨b, 0, none⟩ = some (.int .i64 n)) := fun wx b hb => by rw [hb]; exact (Blk.new wx _ _).cell 0
  go_enter Tryz.func113, Tryz.ntmps113
  go_wp2_with fail
  rw [← hW]
  clear hW HK
  refine HFI.out.mono ?_
  rintro e w1 ⟨rfl, hb⟩
  have HB := Lib.hid hb
  have b0 : w1.cell? ⟨w.heap.size, 0, none⟩ = some (.int .i64 k) := (hb.cell (p := ⟨w.heap.size, 0, none⟩) HKW.out.lt).trans (HKW.out.cell 0)
  have b1 : w1.cell? ⟨w.heap.size, 1, none⟩ = some (.int .i64 (r : Int)) := (hb.cell (p := ⟨w.heap.size, 1, none⟩) HKW.out.lt).trans (HKW.out.cell 1)
  have b2 : w1.cell? ⟨w.heap.size, 2, none⟩ = some (.int .i64 n) := (hb.cell (p := ⟨w.heap.size, 2, none⟩) HKW.out.lt).trans (HKW.out.cell 2)
  have HZ := Lib.hid (HZW.out.below hb HZW.out.lt)
  have hlt1 : w.heap.size < w1.heap.size := Nat.lt_of_lt_of_le HKW.out.lt hb.size
  have hlt2 : w.heap.size + 1 < w1.heap.size := Nat.lt_of_lt_of_le HZW.out.lt hb.size
  clear hb
  have hcr : (w1.alloc (.cells #[.string ((kindD k).nm 0), .string ((kindD k).nm 1), .string ((kindD k).nm 2), .string ((kindD k).nm 3), .string ((kindD k).nm 4), .string ((kindD k).nm 5), .string ((kindD k).nm 6), .string ((kindD k).nm 7), .string ((kindD k).nm 8), .int .i64 (kindD k).lo, .int .i64 (kindD k).hi, .func (.func (kindD k).form) #[] #[]] 154)).cell? ⟨w1.heap.size, r, none⟩ = some (.string ((kindD k).nm r)) := ((Blk.new w1 _ _).cell r).trans (kind_at k r hr)
  have hr0 : (0 : Int) ≤ r := by omega
  have hr9 : (r : Int) < 9 := by omega
  go_upto_region 3 with (go_at_call 157; refine (fits_any _ _ _ _ _ (HC.out _ _ (by simp))).mono ?_; rw [hfit]; rintro e w2 ⟨rfl, rfl⟩)
  go_wp2_with (refine wpList_store_row rfl 154 _ _ rfl (w.heap.size + 1) #[.string ⟨#[]⟩, .string ⟨#[]⟩, .string ⟨#[]⟩, .string ⟨#[]⟩, .string ⟨#[]⟩, .string ⟨#[]⟩, .string ⟨#[]⟩, .string ⟨#[]⟩, .string ⟨#[]⟩, .int .i64 0, .int .i64 0, .nilFunc] rfl rfl 154 _ ((HZ.out.alloc _).alloc _) (by kernel_rfl) rfl (by kernel_rfl) ?_)
  refine bodyPost_ret (results_row_tmp2 rfl _ _ (w.heap.size + 1) 154 #[.string ⟨#[]⟩, .string ⟨#[]⟩, .string ⟨#[]⟩, .string ⟨#[]⟩, .string ⟨#[]⟩, .string ⟨#[]⟩, .string ⟨#[]⟩, .string ⟨#[]⟩, .string ⟨#[]⟩, .int .i64 0, .int .i64 0, .nilFunc] (0, 0) _ rfl (setRow_heap _ _ _ _ _ _ ((HZ.out.alloc _).alloc _)) Tryz.underlying154 rfl (by kernel_rfl)) rfl ⟨rfl, ?_⟩
  exact below_setRow (((HBW.out.trans (HB.out.mono HBW.out.size)).alloc (Nat.le_trans HBW.out.size HB.out.size) _).alloc (by simp; have := HBW.out.size; have := HB.out.size; omega) _) (by omega) _

set_option maxHeartbeats 4000000 in
theorem of_ok (k n : Int) (r : Nat) (hr : r < 9) (hk : kindOk k = true) (hn : (((kindD k).nm r).toList == []) = false) (hfit : fitsB (kindD k).lo (kindD k).hi n = true) (w : World) : Calls Tryz.prog 113 #[.agg #[.int .i64 k, .int .i64 (r : Int), .int .i64 n]] w fun e w' => e = .returned (.tuple #[(kindD k).val, .string ((kindD k).nm r), .bool true]) ∧ Below w.heap.size w w' := by
  have HK : Hid (Blk (w.alloc (.cells #[.int .i64 k, .int .i64 (r : Int), .int .i64 n] 87)) w.heap.size 87 #[.int .i64 k, .int .i64 (r : Int), .int .i64 n]) := Blk.new w _ _
  obtain ⟨W, hW⟩ : ∃ W : World, W = (w.alloc (.cells #[.int .i64 k, .int .i64 (r : Int), .int .i64 n] 87)).alloc (.cells #[.string ⟨#[]⟩, .string ⟨#[]⟩, .string ⟨#[]⟩, .string ⟨#[]⟩, .string ⟨#[]⟩, .string ⟨#[]⟩, .string ⟨#[]⟩, .string ⟨#[]⟩, .string ⟨#[]⟩, .int .i64 0, .int .i64 0, .nilFunc] 154) := ⟨_, rfl⟩
  have HBW : Hid (Below w.heap.size w W) := hW ▸ ((Below.refl _ _).alloc (Nat.le_refl _) _).alloc (by simp) _
  have HKW : Hid (Blk W w.heap.size 87 #[.int .i64 k, .int .i64 (r : Int), .int .i64 n]) := hW ▸ HK.out.alloc _
  have HZW : Hid (Blk W (w.heap.size + 1) 154 #[.string ⟨#[]⟩, .string ⟨#[]⟩, .string ⟨#[]⟩, .string ⟨#[]⟩, .string ⟨#[]⟩, .string ⟨#[]⟩, .string ⟨#[]⟩, .string ⟨#[]⟩, .string ⟨#[]⟩, .int .i64 0, .int .i64 0, .nilFunc]) := Lib.hid (by rw [hW]; exact (by simpa using Blk.new (w.alloc (.cells #[.int .i64 k, .int .i64 (r : Int), .int .i64 n] 87)) 154 #[.string ⟨#[]⟩, .string ⟨#[]⟩, .string ⟨#[]⟩, .string ⟨#[]⟩, .string ⟨#[]⟩, .string ⟨#[]⟩, .string ⟨#[]⟩, .string ⟨#[]⟩, .string ⟨#[]⟩, .int .i64 0, .int .i64 0, .nilFunc]))
  have HFI := Lib.hid (find_ok k hk W)
  simp only [KindD.val] at HFI
  have HC : Hid (∀ (wx : World) (b : Nat), b = wx.heap.size → (wx.alloc (.cells #[.int .i64 n] 3)).cell? ⟨b, 0, none⟩ = some (.int .i64 n)) := fun wx b hb => by rw [hb]; exact (Blk.new wx _ _).cell 0
  go_enter Tryz.func113, Tryz.ntmps113
  go_wp2_with fail
  rw [← hW]
  clear hW HK
  refine HFI.out.mono ?_
  rintro e w1 ⟨rfl, hb⟩
  have HB := Lib.hid hb
  have b0 : w1.cell? ⟨w.heap.size, 0, none⟩ = some (.int .i64 k) := (hb.cell (p := ⟨w.heap.size, 0, none⟩) HKW.out.lt).trans (HKW.out.cell 0)
  have b1 : w1.cell? ⟨w.heap.size, 1, none⟩ = some (.int .i64 (r : Int)) := (hb.cell (p := ⟨w.heap.size, 1, none⟩) HKW.out.lt).trans (HKW.out.cell 1)
  have b2 : w1.cell? ⟨w.heap.size, 2, none⟩ = some (.int .i64 n) := (hb.cell (p := ⟨w.heap.size, 2, none⟩) HKW.out.lt).trans (HKW.out.cell 2)
  have HZ := Lib.hid (HZW.out.below hb HZW.out.lt)
  have hlt1 : w.heap.size < w1.heap.size := Nat.lt_of_lt_of_le HKW.out.lt hb.size
  have hlt2 : w.heap.size + 1 < w1.heap.size := Nat.lt_of_lt_of_le HZW.out.lt hb.size
  clear hb
  have hcr : (w1.alloc (.cells #[.string ((kindD k).nm 0), .string ((kindD k).nm 1), .string ((kindD k).nm 2), .string ((kindD k).nm 3), .string ((kindD k).nm 4), .string ((kindD k).nm 5), .string ((kindD k).nm 6), .string ((kindD k).nm 7), .string ((kindD k).nm 8), .int .i64 (kindD k).lo, .int .i64 (kindD k).hi, .func (.func (kindD k).form) #[] #[]] 154)).cell? ⟨w1.heap.size, r, none⟩ = some (.string ((kindD k).nm r)) := ((Blk.new w1 _ _).cell r).trans (kind_at k r hr)
  have hr0 : (0 : Int) ≤ r := by omega
  have hr9 : (r : Int) < 9 := by omega
  go_upto_region 4 with (go_at_call 157; refine (fits_any _ _ _ _ _ (HC.out _ _ (by simp))).mono ?_; rw [hfit]; rintro e w2 ⟨rfl, rfl⟩)
  obtain ⟨W4, hW4⟩ : ∃ W : World, W = (w1.alloc (.cells #[.string ((kindD k).nm 0), .string ((kindD k).nm 1), .string ((kindD k).nm 2), .string ((kindD k).nm 3), .string ((kindD k).nm 4), .string ((kindD k).nm 5), .string ((kindD k).nm 6), .string ((kindD k).nm 7), .string ((kindD k).nm 8), .int .i64 (kindD k).lo, .int .i64 (kindD k).hi, .func (.func (kindD k).form) #[] #[]] 154)).alloc (.cells #[.int .i64 n] 3) := ⟨_, rfl⟩
  have hb4 : Below w1.heap.size w1 W4 := hW4 ▸ ((Below.refl _ _).alloc (Nat.le_refl _) _).alloc (by simp) _
  have hk4 : Blk W4 w1.heap.size 154 #[.string ((kindD k).nm 0), .string ((kindD k).nm 1), .string ((kindD k).nm 2), .string ((kindD k).nm 3), .string ((kindD k).nm 4), .string ((kindD k).nm 5), .string ((kindD k).nm 6), .string ((kindD k).nm 7), .string ((kindD k).nm 8), .int .i64 (kindD k).lo, .int .i64 (kindD k).hi, .func (.func (kindD k).form) #[] #[]] := hW4 ▸ (Blk.new w1 _ _).alloc _
  have hz4 := HZ.out.below hb4 hlt2
  have d1 : W4.cell? ⟨w.heap.size, 1, none⟩ = some (.int .i64 (r : Int)) := (hb4.cell (p := ⟨w.heap.size, 1, none⟩) hlt1).trans b1
  rw [← hW4]
  clear hW4 b0 b1 b2
  have HB4 := Lib.hid hb4
  have HZ4 := Lib.hid hz4
  have er := (hk4.cell r).trans (kind_at k r hr)
  have e0 := hk4.cell 0
  have e1 := hk4.cell 1
  have e2 := hk4.cell 2
  have e3 := hk4.cell 3
  have e4 := hk4.cell 4
  have e5 := hk4.cell 5
  have e6 := hk4.cell 6
  have e7 := hk4.cell 7
  have e8 := hk4.cell 8
  have e9 := hk4.cell 9
  have e10 := hk4.cell 10
  have e11 := hk4.cell 11
  have z0 := hz4.cell 0
  have f0 := hz4.free 0
  have z1 := hz4.cell 1
  have f1 := hz4.free 1
  have z2 := hz4.cell 2
  have f2 := hz4.free 2
  have z3 := hz4.cell 3
  have f3 := hz4.free 3
  have z4 := hz4.cell 4
  have f4 := hz4.free 4
  have z5 := hz4.cell 5
  have f5 := hz4.free 5
  have z6 := hz4.cell 6
  have f6 := hz4.free 6
  have z7 := hz4.cell 7
  have f7 := hz4.free 7
  have z8 := hz4.cell 8
  have f8 := hz4.free 8
  have z9 := hz4.cell 9
  have f9 := hz4.free 9
  have z10 := hz4.cell 10
  have f10 := hz4.free 10
  have z11 := hz4.cell 11
  have f11 := hz4.free 11
  clear hk4 hz4 hb4
  go_region
  go_wp2
  have HRES := Lib.hid (Blk.set12 HZ4.out (.string ((kindD k).nm 0)) (.string ((kindD k).nm 1)) (.string ((kindD k).nm 2)) (.string ((kindD k).nm 3)) (.string ((kindD k).nm 4)) (.string ((kindD k).nm 5)) (.string ((kindD k).nm 6)) (.string ((kindD k).nm 7)) (.string ((kindD k).nm 8)) (.int .i64 (kindD k).lo) (.int .i64 (kindD k).hi) (.func (.func (kindD k).form) #[] #[]))
  refine bodyPost_ret (results_row_tmp2 rfl _ _ (w.heap.size + 1) 154 #[.string ((kindD k).nm 0), .string ((kindD k).nm 1), .string ((kindD k).nm 2), .string ((kindD k).nm 3), .string ((kindD k).nm 4), .string ((kindD k).nm 5), .string ((kindD k).nm 6), .string ((kindD k).nm 7), .string ((kindD k).nm 8), .int .i64 (kindD k).lo, .int .i64 (kindD k).hi, .func (.func (kindD k).form) #[] #[]] (0, 0) _ rfl HRES.out Tryz.underlying154 rfl (by kernel_rfl)) rfl ⟨rfl, ?_⟩
  exact below_set12 ((HBW.out.trans (HB.out.mono HBW.out.size)).trans (HB4.out.mono (Nat.le_trans HBW.out.size HB.out.size))) (by omega) _ _ _ _ _ _ _ _ _ _ _ _
end Go.Proofs.YtlepicdjnbbndaaGreatDoor
