/-
  table.builder's name, zero, distance, value. Conditions: sizes.
-/
import Derived.Test.YtlepicdjnbbndaaGreatDoorT9
namespace Go.Proofs.YtlepicdjnbbndaaGreatDoor
open Go.RowKit Go.Shelf

theorem run_str1 (W : World) (c : UInt8) : (convert 49 9 (.slice (some ⟨W.heap.size, 0, none⟩) 1 1)).run Tryz.prog (W.alloc (.cells #[.int .u8 c.toNat] 5)) = .ok (.string ⟨#[c]⟩) (W.alloc (.cells #[.int .u8 c.toNat] 5)) := by
  have hb := Blk.new W 5 #[.int .u8 c.toNat]
  exact run_string _ _ 1 [c] ⟨fun j x hx => by
    cases j with
    | zero => simp at hx; subst hx; exact hb.cell 0
    | succ j => simp at hx, fun j hj => hb.free j⟩
set_option maxHeartbeats 2000000 in
set_option maxRecDepth 100000 in
theorem bname_any (bp : Nat) (c : UInt8) (o : Opd) (w : World) (ho : wordF [c] = some o) :
    Calls Tryz.prog 138 #[.pointer (some ⟨bp, 0, none⟩), .int .u8 c.toNat] w fun e w' => e = .returned o.val ∧ Below w.heap.size w w' := by
  have hal := (Below.refl w.heap.size w).alloc (Nat.le_refl _) (.cells #[.int .i64 0, .int .i64 0, .int .i64 0] 87)
  have HF := Lib.hid (Blk.new w 87 #[.int .i64 0, .int .i64 0, .int .i64 0])
  have HB := Lib.hid hal
  have hal2 := hal.alloc hal.size (.cells #[.int .u8 c.toNat] 5)
  have HF0 := Lib.hid ((Blk.new w 87 #[.int .i64 0, .int .i64 0, .int .i64 0]).alloc (.cells #[.int .u8 c.toNat] 5))
  have HB0 := Lib.hid hal2
  have hcv := run_str1 (w.alloc (.cells #[.int .i64 0, .int .i64 0, .int .i64 0] 87)) c
  rw [World.size_alloc] at hcv
  have HWD := Lib.hid (fun W => tword_any ⟨#[c]⟩ o W ho (by show 1 ≤ 1000; omega))
  clear ho hal hal2 HF HB
  obtain ⟨ok, orr, on⟩ := o
  go_enter Tryz.func138, Tryz.ntmps138
  go_wp2_with (go_at_call 137; go_loud (refine (HWD.out _).mono ?_); rintro e w2 ⟨rfl, hb⟩; unfold Opd.val; have HF2 := Lib.hid (HF0.out.below hb HF0.out.lt); have HB2 := Lib.hid (HB0.out.trans (hb.mono HB0.out.size)); obtain ⟨z0, z1, z2, y0, y1, y2⟩ := HF2.out.three; clear hb)
  refine bodyPost_ret (results_row1 rfl _ _ w.heap.size 87 #[.int .i64 ok, .int .i64 orr, .int .i64 on] (0, 0) _ rfl (show Blk _ w.heap.size 87 #[.int .i64 ok, .int .i64 orr, .int .i64 on] from ((HF2.out.set 0 _).set 1 _).set 2 _) Tryz.underlying87 rfl (by kernel_rfl)) rfl ⟨rfl, ?_⟩
  exact ((HB2.out.setCell (Nat.le_refl _) _).setCell (Nat.le_refl _) _).setCell (Nat.le_refl _) _
set_option maxHeartbeats 2000000 in
set_option maxRecDepth 100000 in
theorem zero_any (bp : Nat) (c : UInt8) (w : World) (hc : c = 48 ∨ c = 49 ∨ c = 50) :
    Calls Tryz.prog 147 #[.pointer (some ⟨bp, 0, none⟩), .int .u8 c.toNat] w fun e w' => e = .returned (Opd.val ⟨6, 0, (c.toNat - 48 : Nat)⟩) ∧ Below w.heap.size w w' := by
  have hal := (Below.refl w.heap.size w).alloc (Nat.le_refl _) (.cells #[.int .i64 0, .int .i64 0, .int .i64 0] 87)
  have HF := Lib.hid (Blk.new w 87 #[.int .i64 0, .int .i64 0, .int .i64 0])
  have HB := Lib.hid hal
  obtain ⟨z0, z1, z2, y0, y1, y2⟩ := HF.out.three
  clear hal
  rcases hc with rfl | rfl | rfl
  · show Calls _ _ #[.pointer (some ⟨bp, 0, none⟩), .int .u8 48] w fun e w' => e = .returned (.agg #[.int .i64 6, .int .i64 0, .int .i64 0]) ∧ _
    go_enter Tryz.func147, Tryz.ntmps147
    go_wp2
    refine bodyPost_ret (results_row1 rfl _ _ w.heap.size 87 #[.int .i64 6, .int .i64 0, .int .i64 0] (0, 0) _ rfl (show Blk _ w.heap.size 87 #[.int .i64 6, .int .i64 0, .int .i64 0] from Blk.new w _ _) Tryz.underlying87 rfl (by kernel_rfl)) rfl ⟨rfl, ?_⟩
    exact (Below.refl w.heap.size w).alloc (Nat.le_refl _) _
  · show Calls _ _ #[.pointer (some ⟨bp, 0, none⟩), .int .u8 49] w fun e w' => e = .returned (.agg #[.int .i64 6, .int .i64 0, .int .i64 1]) ∧ _
    go_enter Tryz.func147, Tryz.ntmps147
    go_wp2
    refine bodyPost_ret (results_row1 rfl _ _ w.heap.size 87 #[.int .i64 6, .int .i64 0, .int .i64 1] (0, 0) _ rfl (show Blk _ w.heap.size 87 #[.int .i64 6, .int .i64 0, .int .i64 1] from Blk.new w _ _) Tryz.underlying87 rfl (by kernel_rfl)) rfl ⟨rfl, ?_⟩
    exact (Below.refl w.heap.size w).alloc (Nat.le_refl _) _
  · show Calls _ _ #[.pointer (some ⟨bp, 0, none⟩), .int .u8 50] w fun e w' => e = .returned (.agg #[.int .i64 6, .int .i64 0, .int .i64 2]) ∧ _
    go_enter Tryz.func147, Tryz.ntmps147
    go_wp2
    refine bodyPost_ret (results_row1 rfl _ _ w.heap.size 87 #[.int .i64 6, .int .i64 0, .int .i64 2] (0, 0) _ rfl (show Blk _ w.heap.size 87 #[.int .i64 6, .int .i64 0, .int .i64 2] from Blk.new w _ _) Tryz.underlying87 rfl (by kernel_rfl)) rfl ⟨rfl, ?_⟩
    exact (Below.refl w.heap.size w).alloc (Nat.le_refl _) _
end Go.Proofs.YtlepicdjnbbndaaGreatDoor
