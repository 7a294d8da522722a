/-
  table.builder's distance and value. Conditions: sizes.
-/
import Derived.Test.YtlepicdjnbbndaaGreatDoorT10
namespace Go.Proofs.YtlepicdjnbbndaaGreatDoor
open Go.RowKit Go.Shelf

theorem run_strW (W : World) (g : Nat) (c : UInt8) (hb : Blk W g 5 #[.int .u8 c.toNat]) : (convert 49 9 (.slice (some ⟨g, 0, none⟩) 1 1)).run Tryz.prog W = .ok (.string ⟨#[c]⟩) W :=
  run_string _ _ 1 [c] ⟨fun j x hx => by
    cases j with
    | zero => simp at hx; subst hx; exact hb.cell 0
    | succ j => simp at hx, fun j hj => hb.free j⟩
theorem grown_two (w : World) (bp q : Nat) (v : Value) (o1 o2 : Obj) : w.grownBy (((w.setCell ⟨bp, q, none⟩ v).alloc o1).alloc o2).drew (some bp) := by
  refine ⟨rfl, rfl, rfl, ?_, fun k hk hne => ?_⟩
  · show _ ≤ (World.alloc _ _).heap.size
    rw [World.size_alloc, World.size_alloc, World.size_setCell]; omega
  · show (World.alloc _ _).heap[k]? = _
    rw [Below.heap_alloc _ _ _ (by rw [World.size_alloc, World.size_setCell]; omega), Below.heap_alloc _ _ _ (by rw [World.size_setCell]; omega)]
    exact Below.heap_setCell _ _ _ _ (fun e => hne (by rw [e]))
set_option maxHeartbeats 4000000 in
set_option maxRecDepth 100000 in
theorem distance_any (bp : Nat) (x : BdrV) (c : UInt8) (w : World) (h : BK w bp x) (hx : x.ok) :
    Calls Tryz.prog 145 #[.pointer (some ⟨bp, 0, none⟩), .int .u8 c.toNat] w fun e w' => e = .returned (Opd.val ⟨10, 0, 0⟩) ∧ BK w' bp { x with ex := x.ex ++ [c] } ∧ w.grownBy w' (some bp) := by
  obtain ⟨pg, op, iop, ia, ex, al, bits, rop, ra, ral⟩ := x
  have hex := hx.ex
  simp only at hex
  have h0 : Blk w bp 131 (bdr pg op iop ia ex al bits rop ra ral) := h
  have hlt : bp < w.heap.size := h.lt
  have hne1 : ¬ bp = w.heap.size := Nat.ne_of_lt hlt
  have hne2 : ¬ bp = w.heap.size + 1 := by omega
  have hA : World := w.alloc (.cells #[.int .i64 0, .int .i64 0, .int .i64 0] 87)
  have hKA : Blk (w.alloc (.cells #[.int .i64 0, .int .i64 0, .int .i64 0] 87)) bp 131 (bdr pg op iop ia ex al bits rop ra ral) := h0.alloc (.cells #[.int .i64 0, .int .i64 0, .int .i64 0] 87)
  have hKB : Blk ((w.alloc (.cells #[.int .i64 0, .int .i64 0, .int .i64 0] 87)).alloc (.cells #[.int .u8 c.toNat] 5)) bp 131 (bdr pg op iop ia ex al bits rop ra ral) := hKA.alloc (.cells #[.int .u8 c.toNat] 5)
  have hFB : Blk ((w.alloc (.cells #[.int .i64 0, .int .i64 0, .int .i64 0] 87)).alloc (.cells #[.int .u8 c.toNat] 5)) w.heap.size 87 #[.int .i64 0, .int .i64 0, .int .i64 0] := (Blk.new w 87 #[.int .i64 0, .int .i64 0, .int .i64 0]).alloc (.cells #[.int .u8 c.toNat] 5)
  have hcb := Blk.new (w.alloc (.cells #[.int .i64 0, .int .i64 0, .int .i64 0] 87)) 5 #[.int .u8 c.toNat]
  rw [World.size_alloc] at hcb
  have hcv1 := run_strW ((w.alloc (.cells #[.int .i64 0, .int .i64 0, .int .i64 0] 87)).alloc (.cells #[.int .u8 c.toNat] 5)).drew (w.heap.size + 1) c hcb
  have hcv2 := run_strW ((w.alloc (.cells #[.int .i64 0, .int .i64 0, .int .i64 0] 87)).drew.alloc (.cells #[.int .u8 c.toNat] 5)) (w.heap.size + 1) c hcb
  have a4 : (w.alloc (.cells #[.int .i64 0, .int .i64 0, .int .i64 0] 87)).cell? ⟨bp, 4, none⟩ = some (.string ⟨ex.toArray⟩) := hKA.cell 4
  have b4 : ((w.alloc (.cells #[.int .i64 0, .int .i64 0, .int .i64 0] 87)).alloc (.cells #[.int .u8 c.toNat] 5)).cell? ⟨bp, 4, none⟩ = some (.string ⟨ex.toArray⟩) := hKB.cell 4
  have b4f : ((w.alloc (.cells #[.int .i64 0, .int .i64 0, .int .i64 0] 87)).alloc (.cells #[.int .u8 c.toNat] 5)).frozen? ⟨bp, 4, none⟩ = false := hKB.free 4
  have b4' : ((w.alloc (.cells #[.int .i64 0, .int .i64 0, .int .i64 0] 87)).drew.alloc (.cells #[.int .u8 c.toNat] 5)).cell? ⟨bp, 4, none⟩ = some (.string ⟨ex.toArray⟩) := hKB.cell 4
  have b4f' : ((w.alloc (.cells #[.int .i64 0, .int .i64 0, .int .i64 0] 87)).drew.alloc (.cells #[.int .u8 c.toNat] 5)).frozen? ⟨bp, 4, none⟩ = false := hKB.free 4
  have HK0 := Lib.hid h0
  obtain ⟨exB, hexB⟩ : ∃ b : ByteArray, b = ⟨ex.toArray⟩ := ⟨_, rfl⟩
  have hsz : exB.size ≤ 100 := by rw [hexB]; show ex.toArray.size ≤ _; rw [List.size_toArray]; exact hex
  have HEX := Lib.hid hexB
  rw [← hexB] at a4 b4 b4'
  clear h h0 hx hex hA hKA hKB hFB hcb hexB
  go_enter Tryz.func145, Tryz.ntmps145
  go_wp2
  go_region
  all_goals
    go_wp2
    have hcat : (exB ++ ⟨#[c]⟩ : ByteArray) = ⟨(ex ++ [c]).toArray⟩ := by rw [HEX.out]; apply ByteArray.ext; simp
    rw [hcat]
    have hfin : Blk ((((w.setCell ⟨bp, 4, none⟩ (.string ⟨(ex ++ [c]).toArray⟩)).alloc (.cells #[.int .i64 10, .int .i64 0, .int .i64 0] 87)).alloc (.cells #[.int .u8 c.toNat] 5)).drew) w.heap.size 87 #[.int .i64 10, .int .i64 0, .int .i64 0] := by
      have h1 := (Blk.new (w.setCell ⟨bp, 4, none⟩ (.string ⟨(ex ++ [c]).toArray⟩)) 87 #[.int .i64 10, .int .i64 0, .int .i64 0]).alloc (.cells #[.int .u8 c.toNat] 5)
      rw [World.size_setCell] at h1
      exact h1
    refine bodyPost_ret (results_row1 rfl _ _ w.heap.size 87 #[.int .i64 10, .int .i64 0, .int .i64 0] (0, 0) _ rfl hfin Tryz.underlying87 rfl (by kernel_rfl)) rfl ⟨rfl, ?_, ?_⟩
    · exact (((HK0.out.set 4 (.string ⟨(ex ++ [c]).toArray⟩)).alloc (.cells #[.int .i64 10, .int .i64 0, .int .i64 0] 87)).alloc (.cells #[.int .u8 c.toNat] 5))
    · exact grown_two w bp 4 _ _ _
set_option maxHeartbeats 4000000 in
set_option maxRecDepth 100000 in
theorem value_any (bp : Nat) (x : BdrV) (c : UInt8) (w : World) (h : BK w bp x) (hx : x.ok) :
    Calls Tryz.prog 146 #[.pointer (some ⟨bp, 0, none⟩), .int .u8 c.toNat] w fun e w' => e = .returned (Opd.val ⟨6, 0, 0⟩) ∧ BK w' bp { x with ex := x.ex ++ [c] } ∧ w.grownBy w' (some bp) := by
  obtain ⟨pg, op, iop, ia, ex, al, bits, rop, ra, ral⟩ := x
  have hex := hx.ex
  simp only at hex
  have h0 : Blk w bp 131 (bdr pg op iop ia ex al bits rop ra ral) := h
  have hlt : bp < w.heap.size := h.lt
  have hne1 : ¬ bp = w.heap.size := Nat.ne_of_lt hlt
  have hne2 : ¬ bp = w.heap.size + 1 := by omega
  have hA : World := w.alloc (.cells #[.int .i64 0, .int .i64 0, .int .i64 0] 87)
  have hKA : Blk (w.alloc (.cells #[.int .i64 0, .int .i64 0, .int .i64 0] 87)) bp 131 (bdr pg op iop ia ex al bits rop ra ral) := h0.alloc (.cells #[.int .i64 0, .int .i64 0, .int .i64 0] 87)
  have hKB : Blk ((w.alloc (.cells #[.int .i64 0, .int .i64 0, .int .i64 0] 87)).alloc (.cells #[.int .u8 c.toNat] 5)) bp 131 (bdr pg op iop ia ex al bits rop ra ral) := hKA.alloc (.cells #[.int .u8 c.toNat] 5)
  have hFB : Blk ((w.alloc (.cells #[.int .i64 0, .int .i64 0, .int .i64 0] 87)).alloc (.cells #[.int .u8 c.toNat] 5)) w.heap.size 87 #[.int .i64 0, .int .i64 0, .int .i64 0] := (Blk.new w 87 #[.int .i64 0, .int .i64 0, .int .i64 0]).alloc (.cells #[.int .u8 c.toNat] 5)
  have hcb := Blk.new (w.alloc (.cells #[.int .i64 0, .int .i64 0, .int .i64 0] 87)) 5 #[.int .u8 c.toNat]
  rw [World.size_alloc] at hcb
  have hcv1 := run_strW ((w.alloc (.cells #[.int .i64 0, .int .i64 0, .int .i64 0] 87)).alloc (.cells #[.int .u8 c.toNat] 5)).drew (w.heap.size + 1) c hcb
  have hcv2 := run_strW ((w.alloc (.cells #[.int .i64 0, .int .i64 0, .int .i64 0] 87)).drew.alloc (.cells #[.int .u8 c.toNat] 5)) (w.heap.size + 1) c hcb
  have a4 : (w.alloc (.cells #[.int .i64 0, .int .i64 0, .int .i64 0] 87)).cell? ⟨bp, 4, none⟩ = some (.string ⟨ex.toArray⟩) := hKA.cell 4
  have b4 : ((w.alloc (.cells #[.int .i64 0, .int .i64 0, .int .i64 0] 87)).alloc (.cells #[.int .u8 c.toNat] 5)).cell? ⟨bp, 4, none⟩ = some (.string ⟨ex.toArray⟩) := hKB.cell 4
  have b4f : ((w.alloc (.cells #[.int .i64 0, .int .i64 0, .int .i64 0] 87)).alloc (.cells #[.int .u8 c.toNat] 5)).frozen? ⟨bp, 4, none⟩ = false := hKB.free 4
  have b4' : ((w.alloc (.cells #[.int .i64 0, .int .i64 0, .int .i64 0] 87)).drew.alloc (.cells #[.int .u8 c.toNat] 5)).cell? ⟨bp, 4, none⟩ = some (.string ⟨ex.toArray⟩) := hKB.cell 4
  have b4f' : ((w.alloc (.cells #[.int .i64 0, .int .i64 0, .int .i64 0] 87)).drew.alloc (.cells #[.int .u8 c.toNat] 5)).frozen? ⟨bp, 4, none⟩ = false := hKB.free 4
  have HK0 := Lib.hid h0
  obtain ⟨exB, hexB⟩ : ∃ b : ByteArray, b = ⟨ex.toArray⟩ := ⟨_, rfl⟩
  have hsz : exB.size ≤ 100 := by rw [hexB]; show ex.toArray.size ≤ _; rw [List.size_toArray]; exact hex
  have HEX := Lib.hid hexB
  rw [← hexB] at a4 b4 b4'
  clear h h0 hx hex hA hKA hKB hFB hcb hexB
  go_enter Tryz.func146, Tryz.ntmps146
  go_wp2
  go_region
  all_goals
    go_wp2
    have hcat : (exB ++ ⟨#[c]⟩ : ByteArray) = ⟨(ex ++ [c]).toArray⟩ := by rw [HEX.out]; apply ByteArray.ext; simp
    rw [hcat]
    have hfin : Blk ((((w.setCell ⟨bp, 4, none⟩ (.string ⟨(ex ++ [c]).toArray⟩)).alloc (.cells #[.int .i64 6, .int .i64 0, .int .i64 0] 87)).alloc (.cells #[.int .u8 c.toNat] 5)).drew) w.heap.size 87 #[.int .i64 6, .int .i64 0, .int .i64 0] := by
      have h1 := (Blk.new (w.setCell ⟨bp, 4, none⟩ (.string ⟨(ex ++ [c]).toArray⟩)) 87 #[.int .i64 6, .int .i64 0, .int .i64 0]).alloc (.cells #[.int .u8 c.toNat] 5)
      rw [World.size_setCell] at h1
      exact h1
    refine bodyPost_ret (results_row1 rfl _ _ w.heap.size 87 #[.int .i64 6, .int .i64 0, .int .i64 0] (0, 0) _ rfl hfin Tryz.underlying87 rfl (by kernel_rfl)) rfl ⟨rfl, ?_, ?_⟩
    · exact (((HK0.out.set 4 (.string ⟨(ex ++ [c]).toArray⟩)).alloc (.cells #[.int .i64 6, .int .i64 0, .int .i64 0] 87)).alloc (.cells #[.int .u8 c.toNat] 5))
    · exact grown_two w bp 4 _ _ _
end Go.Proofs.YtlepicdjnbbndaaGreatDoor
