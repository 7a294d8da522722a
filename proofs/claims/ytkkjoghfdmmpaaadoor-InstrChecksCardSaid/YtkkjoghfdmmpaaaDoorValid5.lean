/-
  WHICH OPERANDS ARE VALID: operand.of.
-/
import Derived.Test.YtkkjoghfdmmpaaaDoorValid4
import Derived.Deep.DeepCutAuto
import Derived.Laws.CopyOwn
namespace Go.Proofs.YtkkjoghfdmmpaaaDoor
open Go.RowKit

theorem Blk.set' {w : World} {g : Nat} {t : TypeId} {cs cs' : Array Value} (h : Blk w g t cs) (i : Nat) (u : Value) (hc : cs.setIfInBounds i u = cs') : Blk (w.setCell ⟨g, i, none⟩ u) g t cs' := hc ▸ h.set i u
theorem Blk.drew {w : World} {g : Nat} {t : TypeId} {cs : Array Value} (h : Blk w g t cs) : Blk w.drew g t cs := h
set_option maxHeartbeats 1000000 in
theorem Blk.set12 {w : World} {g : Nat} {t : TypeId} {z0 z1 z2 z3 z4 z5 z6 z7 z8 z9 z10 z11 : Value} (h : Blk w g t #[z0, z1, z2, z3, z4, z5, z6, z7, z8, z9, z10, z11]) (a0 a1 a2 a3 a4 a5 a6 a7 a8 a9 a10 a11 : Value) : Blk (((((((((((((w.setCell ⟨g, 0, none⟩ a0).setCell ⟨g, 1, none⟩ a1).setCell ⟨g, 2, none⟩ a2).setCell ⟨g, 3, none⟩ a3).setCell ⟨g, 4, none⟩ a4).setCell ⟨g, 5, none⟩ a5).setCell ⟨g, 6, none⟩ a6).setCell ⟨g, 7, none⟩ a7).setCell ⟨g, 8, none⟩ a8).setCell ⟨g, 9, none⟩ a9).setCell ⟨g, 10, none⟩ a10).setCell ⟨g, 11, none⟩ a11)).drew g t #[a0, a1, a2, a3, a4, a5, a6, a7, a8, a9, a10, a11] := by
  have h0 := h.set' 0 a0 (cs' := #[a0, z1, z2, z3, z4, z5, z6, z7, z8, z9, z10, z11]) (by simp)
  have h1 := h0.set' 1 a1 (cs' := #[a0, a1, z2, z3, z4, z5, z6, z7, z8, z9, z10, z11]) (by simp)
  have h2 := h1.set' 2 a2 (cs' := #[a0, a1, a2, z3, z4, z5, z6, z7, z8, z9, z10, z11]) (by simp)
  have h3 := h2.set' 3 a3 (cs' := #[a0, a1, a2, a3, z4, z5, z6, z7, z8, z9, z10, z11]) (by simp)
  have h4 := h3.set' 4 a4 (cs' := #[a0, a1, a2, a3, a4, z5, z6, z7, z8, z9, z10, z11]) (by simp)
  have h5 := h4.set' 5 a5 (cs' := #[a0, a1, a2, a3, a4, a5, z6, z7, z8, z9, z10, z11]) (by simp)
  have h6 := h5.set' 6 a6 (cs' := #[a0, a1, a2, a3, a4, a5, a6, z7, z8, z9, z10, z11]) (by simp)
  have h7 := h6.set' 7 a7 (cs' := #[a0, a1, a2, a3, a4, a5, a6, a7, z8, z9, z10, z11]) (by simp)
  have h8 := h7.set' 8 a8 (cs' := #[a0, a1, a2, a3, a4, a5, a6, a7, a8, z9, z10, z11]) (by simp)
  have h9 := h8.set' 9 a9 (cs' := #[a0, a1, a2, a3, a4, a5, a6, a7, a8, a9, z10, z11]) (by simp)
  have h10 := h9.set' 10 a10 (cs' := #[a0, a1, a2, a3, a4, a5, a6, a7, a8, a9, a10, z11]) (by simp)
  have h11 := h10.set' 11 a11 (cs' := #[a0, a1, a2, a3, a4, a5, a6, a7, a8, a9, a10, a11]) (by simp)
  exact h11.drew
theorem below_set12 {w0 w : World} {B g : Nat} (h : Below B w0 w) (hg : B ≤ g) (a0 a1 a2 a3 a4 a5 a6 a7 a8 a9 a10 a11 : Value) : Below B w0 (((((((((((((w.setCell ⟨g, 0, none⟩ a0).setCell ⟨g, 1, none⟩ a1).setCell ⟨g, 2, none⟩ a2).setCell ⟨g, 3, none⟩ a3).setCell ⟨g, 4, none⟩ a4).setCell ⟨g, 5, none⟩ a5).setCell ⟨g, 6, none⟩ a6).setCell ⟨g, 7, none⟩ a7).setCell ⟨g, 8, none⟩ a8).setCell ⟨g, 9, none⟩ a9).setCell ⟨g, 10, none⟩ a10).setCell ⟨g, 11, none⟩ a11)).drew :=
  ((((((((((((h.setCell (p := ⟨g, 0, none⟩) hg a0).setCell (p := ⟨g, 1, none⟩) hg a1).setCell (p := ⟨g, 2, none⟩) hg a2).setCell (p := ⟨g, 3, none⟩) hg a3).setCell (p := ⟨g, 4, none⟩) hg a4).setCell (p := ⟨g, 5, none⟩) hg a5).setCell (p := ⟨g, 6, none⟩) hg a6).setCell (p := ⟨g, 7, none⟩) hg a7).setCell (p := ⟨g, 8, none⟩) hg a8).setCell (p := ⟨g, 9, none⟩) hg a9).setCell (p := ⟨g, 10, none⟩) hg a10).setCell (p := ⟨g, 11, none⟩) hg a11).drew
def okOpd (o : Opd) : Bool := kindOk o.kind && decide (0 ≤ o.reg) && decide (o.reg < 9) && !(((kindD o.kind).nm o.reg.toNat).toList == []) && fitsB (kindD o.kind).lo (kindD o.kind).hi o.n

set_option maxHeartbeats 4000000 in
theorem of_noKind (k r n : Int) (hk : kindOk k = false) (w : World) : Calls Tryd.prog 122 #[.agg #[.int .i64 k, .int .i64 r, .int .i64 n]] w fun e w' => e = .returned (.tuple #[kindNil, .string ⟨#[]⟩, .bool false]) ∧ Below w.heap.size w w' := by
  have HK : Hid (Blk (w.alloc (.cells #[.int .i64 k, .int .i64 r, .int .i64 n] 47)) w.heap.size 47 #[.int .i64 k, .int .i64 r, .int .i64 n]) := Blk.new w _ _
  obtain ⟨W, hW⟩ : ∃ W : World, W = (w.alloc (.cells #[.int .i64 k, .int .i64 r, .int .i64 n] 47)).alloc (.cells #[.string ⟨#[]⟩, .string ⟨#[]⟩, .string ⟨#[]⟩, .string ⟨#[]⟩, .string ⟨#[]⟩, .string ⟨#[]⟩, .string ⟨#[]⟩, .string ⟨#[]⟩, .string ⟨#[]⟩, .int .i64 0, .int .i64 0, .nilFunc] 167) := ⟨_, rfl⟩
  have HBW : Hid (Below w.heap.size w W) := hW ▸ ((Below.refl _ _).alloc (Nat.le_refl _) _).alloc (by simp) _
  have HKW : Hid (Blk W w.heap.size 47 #[.int .i64 k, .int .i64 r, .int .i64 n]) := hW ▸ HK.out.alloc _
  have HZW : Hid (Blk W (w.heap.size + 1) 167 #[.string ⟨#[]⟩, .string ⟨#[]⟩, .string ⟨#[]⟩, .string ⟨#[]⟩, .string ⟨#[]⟩, .string ⟨#[]⟩, .string ⟨#[]⟩, .string ⟨#[]⟩, .string ⟨#[]⟩, .int .i64 0, .int .i64 0, .nilFunc]) := Lib.hid (by rw [hW]; exact (by simpa using Blk.new (w.alloc (.cells #[.int .i64 k, .int .i64 r, .int .i64 n] 47)) 167 #[.string ⟨#[]⟩, .string ⟨#[]⟩, .string ⟨#[]⟩, .string ⟨#[]⟩, .string ⟨#[]⟩, .string ⟨#[]⟩, .string ⟨#[]⟩, .string ⟨#[]⟩, .string ⟨#[]⟩, .int .i64 0, .int .i64 0, .nilFunc]))
  have HFI := Lib.hid (find_no k hk W)
  simp only [kindNil] at HFI
  go_enter Tryd.func122, Tryd.ntmps122
  go_wp2_with fail
  rw [← hW]
  clear hW HK
  refine HFI.out.mono ?_
  rintro e w1 ⟨rfl, hb⟩
  have HB := Lib.hid hb
  have b0 : w1.cell? ⟨w.heap.size, 0, none⟩ = some (.int .i64 k) := (hb.cell (p := ⟨w.heap.size, 0, none⟩) HKW.out.lt).trans (HKW.out.cell 0)
  have b1 : w1.cell? ⟨w.heap.size, 1, none⟩ = some (.int .i64 r) := (hb.cell (p := ⟨w.heap.size, 1, none⟩) HKW.out.lt).trans (HKW.out.cell 1)
  have b2 : w1.cell? ⟨w.heap.size, 2, none⟩ = some (.int .i64 n) := (hb.cell (p := ⟨w.heap.size, 2, none⟩) HKW.out.lt).trans (HKW.out.cell 2)
  have HZ := Lib.hid (HZW.out.below hb HZW.out.lt)
  have hlt1 : w.heap.size < w1.heap.size := Nat.lt_of_lt_of_le HKW.out.lt hb.size
  have hlt2 : w.heap.size + 1 < w1.heap.size := Nat.lt_of_lt_of_le HZW.out.lt hb.size
  clear hb
  go_upto_region 3 with fail
  go_wp2_with (refine wpList_store_row rfl 167 _ _ rfl (w.heap.size + 1) #[.string ⟨#[]⟩, .string ⟨#[]⟩, .string ⟨#[]⟩, .string ⟨#[]⟩, .string ⟨#[]⟩, .string ⟨#[]⟩, .string ⟨#[]⟩, .string ⟨#[]⟩, .string ⟨#[]⟩, .int .i64 0, .int .i64 0, .nilFunc] rfl rfl 167 _ (HZ.out.alloc _) (by kernel_rfl) rfl (by kernel_rfl) ?_)
  refine bodyPost_ret (results_row_tmp2 rfl _ _ (w.heap.size + 1) 167 #[.string ⟨#[]⟩, .string ⟨#[]⟩, .string ⟨#[]⟩, .string ⟨#[]⟩, .string ⟨#[]⟩, .string ⟨#[]⟩, .string ⟨#[]⟩, .string ⟨#[]⟩, .string ⟨#[]⟩, .int .i64 0, .int .i64 0, .nilFunc] (0, 0) _ rfl (setRow_heap _ _ _ _ _ _ (HZ.out.alloc _)) Tryd.underlying167 rfl (by kernel_rfl)) rfl ⟨rfl, ?_⟩
  exact below_setRow ((HBW.out.trans (HB.out.mono HBW.out.size)).alloc (Nat.le_trans HBW.out.size HB.out.size) _) (by omega) _

set_option maxHeartbeats 4000000 in
theorem of_neg (k r n : Int) (hk : kindOk k = true) (h0 : decide (r < 0) = true) (w : World) : Calls Tryd.prog 122 #[.agg #[.int .i64 k, .int .i64 r, .int .i64 n]] w fun e w' => e = .returned (.tuple #[kindNil, .string ⟨#[]⟩, .bool false]) ∧ Below w.heap.size w w' := by
  have HK : Hid (Blk (w.alloc (.cells #[.int .i64 k, .int .i64 r, .int .i64 n] 47)) w.heap.size 47 #[.int .i64 k, .int .i64 r, .int .i64 n]) := Blk.new w _ _
  obtain ⟨W, hW⟩ : ∃ W : World, W = (w.alloc (.cells #[.int .i64 k, .int .i64 r, .int .i64 n] 47)).alloc (.cells #[.string ⟨#[]⟩, .string ⟨#[]⟩, .string ⟨#[]⟩, .string ⟨#[]⟩, .string ⟨#[]⟩, .string ⟨#[]⟩, .string ⟨#[]⟩, .string ⟨#[]⟩, .string ⟨#[]⟩, .int .i64 0, .int .i64 0, .nilFunc] 167) := ⟨_, rfl⟩
  have HBW : Hid (Below w.heap.size w W) := hW ▸ ((Below.refl _ _).alloc (Nat.le_refl _) _).alloc (by simp) _
  have HKW : Hid (Blk W w.heap.size 47 #[.int .i64 k, .int .i64 r, .int .i64 n]) := hW ▸ HK.out.alloc _
  have HZW : Hid (Blk W (w.heap.size + 1) 167 #[.string ⟨#[]⟩, .string ⟨#[]⟩, .string ⟨#[]⟩, .string ⟨#[]⟩, .string ⟨#[]⟩, .string ⟨#[]⟩, .string ⟨#[]⟩, .string ⟨#[]⟩, .string ⟨#[]⟩, .int .i64 0, .int .i64 0, .nilFunc]) := Lib.hid (by rw [hW]; exact (by simpa using Blk.new (w.alloc (.cells #[.int .i64 k, .int .i64 r, .int .i64 n] 47)) 167 #[.string ⟨#[]⟩, .string ⟨#[]⟩, .string ⟨#[]⟩, .string ⟨#[]⟩, .string ⟨#[]⟩, .string ⟨#[]⟩, .string ⟨#[]⟩, .string ⟨#[]⟩, .string ⟨#[]⟩, .int .i64 0, .int .i64 0, .nilFunc]))
  have HFI := Lib.hid (find_ok k hk W)
  simp only [KindD.val] at HFI
  have HC : Hid (∀ (wx : World) (b : Nat), b = wx.heap.size → (wx.alloc (.cells #[.int .i64 n] 3)).cell? ⟨b, 0, none⟩ = some (.int .i64 n)) := fun wx b hb => by rw [hb]; exact (Blk.new wx _ _).cell 0
  go_enter Tryd.func122, Tryd.ntmps122
  go_wp2_with fail
  rw [← hW]
  clear hW HK
  refine HFI.out.mono ?_
  rintro e w1 ⟨rfl, hb⟩
  have HB := Lib.hid hb
  have b0 : w1.cell? ⟨w.heap.size, 0, none⟩ = some (.int .i64 k) := (hb.cell (p := ⟨w.heap.size, 0, none⟩) HKW.out.lt).trans (HKW.out.cell 0)
  have b1 : w1.cell? ⟨w.heap.size, 1, none⟩ = some (.int .i64 r) := (hb.cell (p := ⟨w.heap.size, 1, none⟩) HKW.out.lt).trans (HKW.out.cell 1)
  have b2 : w1.cell? ⟨w.heap.size, 2, none⟩ = some (.int .i64 n) := (hb.cell (p := ⟨w.heap.size, 2, none⟩) HKW.out.lt).trans (HKW.out.cell 2)
  have HZ := Lib.hid (HZW.out.below hb HZW.out.lt)
  have hlt1 : w.heap.size < w1.heap.size := Nat.lt_of_lt_of_le HKW.out.lt hb.size
  have hlt2 : w.heap.size + 1 < w1.heap.size := Nat.lt_of_lt_of_le HZW.out.lt hb.size
  clear hb
  go_upto_region 3 with fail
  go_wp2_with (refine wpList_store_row rfl 167 _ _ rfl (w.heap.size + 1) #[.string ⟨#[]⟩, .string ⟨#[]⟩, .string ⟨#[]⟩, .string ⟨#[]⟩, .string ⟨#[]⟩, .string ⟨#[]⟩, .string ⟨#[]⟩, .string ⟨#[]⟩, .string ⟨#[]⟩, .int .i64 0, .int .i64 0, .nilFunc] rfl rfl 167 _ (HZ.out.alloc _) (by kernel_rfl) rfl (by kernel_rfl) ?_)
  refine bodyPost_ret (results_row_tmp2 rfl _ _ (w.heap.size + 1) 167 #[.string ⟨#[]⟩, .string ⟨#[]⟩, .string ⟨#[]⟩, .string ⟨#[]⟩, .string ⟨#[]⟩, .string ⟨#[]⟩, .string ⟨#[]⟩, .string ⟨#[]⟩, .string ⟨#[]⟩, .int .i64 0, .int .i64 0, .nilFunc] (0, 0) _ rfl (setRow_heap _ _ _ _ _ _ (HZ.out.alloc _)) Tryd.underlying167 rfl (by kernel_rfl)) rfl ⟨rfl, ?_⟩
  exact below_setRow ((HBW.out.trans (HB.out.mono HBW.out.size)).alloc (Nat.le_trans HBW.out.size HB.out.size) _) (by omega) _

set_option maxHeartbeats 4000000 in
theorem of_big (k r n : Int) (hk : kindOk k = true) (h0 : decide (r < 0) = false) (h9 : decide (9 ≤ r) = true) (w : World) : Calls Tryd.prog 122 #[.agg #[.int .i64 k, .int .i64 r, .int .i64 n]] w fun e w' => e = .returned (.tuple #[kindNil, .string ⟨#[]⟩, .bool false]) ∧ Below w.heap.size w w' := by
  have HK : Hid (Blk (w.alloc (.cells #[.int .i64 k, .int .i64 r, .int .i64 n] 47)) w.heap.size 47 #[.int .i64 k, .int .i64 r, .int .i64 n]) := Blk.new w _ _
  obtain ⟨W, hW⟩ : ∃ W : World, W = (w.alloc (.cells #[.int .i64 k, .int .i64 r, .int .i64 n] 47)).alloc (.cells #[.string ⟨#[]⟩, .string ⟨#[]⟩, .string ⟨#[]⟩, .string ⟨#[]⟩, .string ⟨#[]⟩, .string ⟨#[]⟩, .string ⟨#[]⟩, .string ⟨#[]⟩, .string ⟨#[]⟩, .int .i64 0, .int .i64 0, .nilFunc] 167) := ⟨_, rfl⟩
  have HBW : Hid (Below w.heap.size w W) := hW ▸ ((Below.refl _ _).alloc (Nat.le_refl _) _).alloc (by simp) _
  have HKW : Hid (Blk W w.heap.size 47 #[.int .i64 k, .int .i64 r, .int .i64 n]) := hW ▸ HK.out.alloc _
  have HZW : Hid (Blk W (w.heap.size + 1) 167 #[.string ⟨#[]⟩, .string ⟨#[]⟩, .string ⟨#[]⟩, .string ⟨#[]⟩, .string ⟨#[]⟩, .string ⟨#[]⟩, .string ⟨#[]⟩, .string ⟨#[]⟩, .string ⟨#[]⟩, .int .i64 0, .int .i64 0, .nilFunc]) := Lib.hid (by rw [hW]; exact (by simpa using Blk.new (w.alloc (.cells #[.int .i64 k, .int .i64 r, .int .i64 n] 47)) 167 #[.string ⟨#[]⟩, .string ⟨#[]⟩, .string ⟨#[]⟩, .string ⟨#[]⟩, .string ⟨#[]⟩, .string ⟨#[]⟩, .string ⟨#[]⟩, .string ⟨#[]⟩, .string ⟨#[]⟩, .int .i64 0, .int .i64 0, .nilFunc]))
  have HFI := Lib.hid (find_ok k hk W)
  simp only [KindD.val] at HFI
  have HC : Hid (∀ (wx : World) (b : Nat), b = wx.heap.size → (wx.alloc (.cells #[.int .i64 n] 3)).cell? ⟨b, 0, none⟩ = some (.int .i64 n)) := fun wx b hb => by rw [hb]; exact (Blk.new wx _ _).cell 0
  go_enter Tryd.func122, Tryd.ntmps122
  go_wp2_with fail
  rw [← hW]
  clear hW HK
  refine HFI.out.mono ?_
  rintro e w1 ⟨rfl, hb⟩
  have HB := Lib.hid hb
  have b0 : w1.cell? ⟨w.heap.size, 0, none⟩ = some (.int .i64 k) := (hb.cell (p := ⟨w.heap.size, 0, none⟩) HKW.out.lt).trans (HKW.out.cell 0)
  have b1 : w1.cell? ⟨w.heap.size, 1, none⟩ = some (.int .i64 r) := (hb.cell (p := ⟨w.heap.size, 1, none⟩) HKW.out.lt).trans (HKW.out.cell 1)
  have b2 : w1.cell? ⟨w.heap.size, 2, none⟩ = some (.int .i64 n) := (hb.cell (p := ⟨w.heap.size, 2, none⟩) HKW.out.lt).trans (HKW.out.cell 2)
  have HZ := Lib.hid (HZW.out.below hb HZW.out.lt)
  have hlt1 : w.heap.size < w1.heap.size := Nat.lt_of_lt_of_le HKW.out.lt hb.size
  have hlt2 : w.heap.size + 1 < w1.heap.size := Nat.lt_of_lt_of_le HZW.out.lt hb.size
  clear hb
  go_upto_region 3 with fail
  go_wp2_with (refine wpList_store_row rfl 167 _ _ rfl (w.heap.size + 1) #[.string ⟨#[]⟩, .string ⟨#[]⟩, .string ⟨#[]⟩, .string ⟨#[]⟩, .string ⟨#[]⟩, .string ⟨#[]⟩, .string ⟨#[]⟩, .string ⟨#[]⟩, .string ⟨#[]⟩, .int .i64 0, .int .i64 0, .nilFunc] rfl rfl 167 _ (HZ.out.alloc _) (by kernel_rfl) rfl (by kernel_rfl) ?_)
  refine bodyPost_ret (results_row_tmp2 rfl _ _ (w.heap.size + 1) 167 #[.string ⟨#[]⟩, .string ⟨#[]⟩, .string ⟨#[]⟩, .string ⟨#[]⟩, .string ⟨#[]⟩, .string ⟨#[]⟩, .string ⟨#[]⟩, .string ⟨#[]⟩, .string ⟨#[]⟩, .int .i64 0, .int .i64 0, .nilFunc] (0, 0) _ rfl (setRow_heap _ _ _ _ _ _ (HZ.out.alloc _)) Tryd.underlying167 rfl (by kernel_rfl)) rfl ⟨rfl, ?_⟩
  exact below_setRow ((HBW.out.trans (HB.out.mono HBW.out.size)).alloc (Nat.le_trans HBW.out.size HB.out.size) _) (by omega) _

end Go.Proofs.YtkkjoghfdmmpaaaDoor
