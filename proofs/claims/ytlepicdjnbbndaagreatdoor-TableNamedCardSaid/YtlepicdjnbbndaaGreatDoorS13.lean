/-
  The reference's At on the other pages, and whole. Conditions: the opcode is a byte.
-/
import Derived.Test.YtlepicdjnbbndaaGreatDoorS12
namespace Go.Proofs.YtlepicdjnbbndaaGreatDoor
open Go.RowKit Go.Shelf Go.Sort

set_option maxHeartbeats 4000000 in
set_option maxRecDepth 100000 in
theorem At9_cb3 (w : World) : Calls Tryz.prog 17 #[.int .i64 3, .int .u8 203] w fun e w' => e = .returned (.tuple #[ent9, .int .i64 2]) ∧ Below w.heap.size w w' := by
  go_enter Tryz.func17, Tryz.ntmps17
  go_wp2
  exact bodyPost_ret (at9_end rfl rfl ((Blk.new w _ _).alloc _)) rfl ⟨rfl, ((Below.refl _ _).alloc (Nat.le_refl _) _).alloc (by rw [World.size_alloc]; omega) _⟩
set_option maxHeartbeats 4000000 in
set_option maxRecDepth 100000 in
theorem At9_cb4 (w : World) : Calls Tryz.prog 17 #[.int .i64 4, .int .u8 203] w fun e w' => e = .returned (.tuple #[ent9, .int .i64 2]) ∧ Below w.heap.size w w' := by
  go_enter Tryz.func17, Tryz.ntmps17
  go_wp2
  exact bodyPost_ret (at9_end rfl rfl ((Blk.new w _ _).alloc _)) rfl ⟨rfl, ((Below.refl _ _).alloc (Nat.le_refl _) _).alloc (by rw [World.size_alloc]; omega) _⟩
set_option maxHeartbeats 4000000 in
set_option maxRecDepth 100000 in
theorem At9_out (pg op : Int) (h : pg < 0 ∨ 6 < pg) (w : World) : Calls Tryz.prog 17 #[.int .i64 pg, .int .u8 op] w fun e w' => e = .returned (.tuple #[ent9, .int .i64 0]) ∧ Below w.heap.size w w' := by
  have q0 : (pg == 0) = false := by rw [beq_eq_false_iff_ne]; omega
  have q1 : (pg == 1) = false := by rw [beq_eq_false_iff_ne]; omega
  have q2 : (pg == 2) = false := by rw [beq_eq_false_iff_ne]; omega
  have q3 : (pg == 3) = false := by rw [beq_eq_false_iff_ne]; omega
  have q4 : (pg == 4) = false := by rw [beq_eq_false_iff_ne]; omega
  have q5 : (pg == 5) = false := by rw [beq_eq_false_iff_ne]; omega
  have q6 : (pg == 6) = false := by rw [beq_eq_false_iff_ne]; omega
  clear h
  go_enter Tryz.func17, Tryz.ntmps17
  go_wp2
  exact bodyPost_ret (at9_end rfl rfl ((Blk.new w _ _).alloc _)) rfl ⟨rfl, ((Below.refl _ _).alloc (Nat.le_refl _) _).alloc (by rw [World.size_alloc]; omega) _⟩
set_option maxHeartbeats 4000000 in
set_option maxRecDepth 100000 in
theorem At9_5 (op : Int) (h0 : 0 ≤ op) (h8 : op < 256) (hl : (cbF op ⟨5, 5, 0⟩).2.length ≤ 100) (w : World) : Calls Tryz.prog 17 #[.int .i64 5, .int .u8 op] w fun e w' => ∃ v, e = .returned (.tuple #[.agg #[.int .i64 5, .int .u8 op, .string (both9F 5 op).1, v, .string ⟨#[100]⟩, .bool (both9F 5 op).2.2], .int .i64 1]) ∧ OpdOwn w' (fun b => w.heap.size ≤ b) v (both9F 5 op).2.1 ∧ Below w.heap.size w w' := by
  have HCB := Lib.hid (fun W => both9_any 5 op h0 h8 hl W)
  have HF := Lib.hid (((Fr.start w).new 36 #[.int .i64 0, .int .u8 0, .string ⟨#[]⟩, .slice none 0 0, .string ⟨#[]⟩, .bool false]).new' 36 #[.int .i64 5, .int .u8 op, .string ⟨#[]⟩, .slice none 0 0, .string ⟨#[]⟩, .bool false] (b := w.heap.size + 1) (by rw [World.size_alloc]))
  clear hl
  generalize (both9F 5 op).1 = s at *
  generalize (both9F 5 op).2.1 = l at *
  generalize (both9F 5 op).2.2 = al at *
  go_enter Tryz.func17, Tryz.ntmps17
  go_wp2_with fail
  refine (HCB.out _).mono ?_
  rintro e w1 ⟨v, rfl, ho, hb⟩
  obtain ⟨va, vc, rfl⟩ := ho.form
  have H := Lib.hid (HF.out.next hb)
  have HO : Hid (OpdOwn w1 (fun k => w.heap.size + 2 ≤ k) (.slice va l.length vc) l) := ho.mono (fun k hk => by rw [World.size_alloc, World.size_alloc] at hk; omega)
  clear ho hb
  have r0 := (H.out.blk 1 rfl).cell 0
  have y0 := (H.out.blk 1 rfl).free 0
  have r1 := (H.out.blk 1 rfl).cell 1
  have y1 := (H.out.blk 1 rfl).free 1
  have r2 := (H.out.blk 1 rfl).cell 2
  have y2 := (H.out.blk 1 rfl).free 2
  have r3 := (H.out.blk 1 rfl).cell 3
  have y3 := (H.out.blk 1 rfl).free 3
  have r4 := (H.out.blk 1 rfl).cell 4
  have y4 := (H.out.blk 1 rfl).free 4
  have r5 := (H.out.blk 1 rfl).cell 5
  have y5 := (H.out.blk 1 rfl).free 5
  go_wp2
  exact bodyPost_ret (at9_end rfl rfl (entry6g (H.out.blk 1 rfl) _ _ _ _ _ _)) rfl ⟨_, rfl, ((HO.out.set6 (fun k hk => by omega) _ _ _ _ _ _).mono (fun k hk => by omega)), set6_below H.out.below (Nat.le_refl _) _ _ _ _ _ _⟩
set_option maxHeartbeats 4000000 in
set_option maxRecDepth 100000 in
theorem At9_6 (op : Int) (h0 : 0 ≤ op) (h8 : op < 256) (hl : (cbF op ⟨5, 6, 0⟩).2.length ≤ 100) (w : World) : Calls Tryz.prog 17 #[.int .i64 6, .int .u8 op] w fun e w' => ∃ v, e = .returned (.tuple #[.agg #[.int .i64 6, .int .u8 op, .string (both9F 6 op).1, v, .string ⟨#[100]⟩, .bool (both9F 6 op).2.2], .int .i64 1]) ∧ OpdOwn w' (fun b => w.heap.size ≤ b) v (both9F 6 op).2.1 ∧ Below w.heap.size w w' := by
  have HCB := Lib.hid (fun W => both9_any 6 op h0 h8 hl W)
  have HF := Lib.hid (((Fr.start w).new 36 #[.int .i64 0, .int .u8 0, .string ⟨#[]⟩, .slice none 0 0, .string ⟨#[]⟩, .bool false]).new' 36 #[.int .i64 6, .int .u8 op, .string ⟨#[]⟩, .slice none 0 0, .string ⟨#[]⟩, .bool false] (b := w.heap.size + 1) (by rw [World.size_alloc]))
  clear hl
  generalize (both9F 6 op).1 = s at *
  generalize (both9F 6 op).2.1 = l at *
  generalize (both9F 6 op).2.2 = al at *
  go_enter Tryz.func17, Tryz.ntmps17
  go_wp2_with fail
  refine (HCB.out _).mono ?_
  rintro e w1 ⟨v, rfl, ho, hb⟩
  obtain ⟨va, vc, rfl⟩ := ho.form
  have H := Lib.hid (HF.out.next hb)
  have HO : Hid (OpdOwn w1 (fun k => w.heap.size + 2 ≤ k) (.slice va l.length vc) l) := ho.mono (fun k hk => by rw [World.size_alloc, World.size_alloc] at hk; omega)
  clear ho hb
  have r0 := (H.out.blk 1 rfl).cell 0
  have y0 := (H.out.blk 1 rfl).free 0
  have r1 := (H.out.blk 1 rfl).cell 1
  have y1 := (H.out.blk 1 rfl).free 1
  have r2 := (H.out.blk 1 rfl).cell 2
  have y2 := (H.out.blk 1 rfl).free 2
  have r3 := (H.out.blk 1 rfl).cell 3
  have y3 := (H.out.blk 1 rfl).free 3
  have r4 := (H.out.blk 1 rfl).cell 4
  have y4 := (H.out.blk 1 rfl).free 4
  have r5 := (H.out.blk 1 rfl).cell 5
  have y5 := (H.out.blk 1 rfl).free 5
  go_wp2
  exact bodyPost_ret (at9_end rfl rfl (entry6g (H.out.blk 1 rfl) _ _ _ _ _ _)) rfl ⟨_, rfl, ((HO.out.set6 (fun k hk => by omega) _ _ _ _ _ _).mono (fun k hk => by omega)), set6_below H.out.below (Nat.le_refl _) _ _ _ _ _ _⟩
end Go.Proofs.YtlepicdjnbbndaaGreatDoor
