/-
  table.Size. Conditions: sizes.
-/
import Derived.Test.YtlepicdjnbbndaaGreatDoorT23
import Derived.IntWalk
namespace Go.Proofs.YtlepicdjnbbndaaGreatDoor
open Go.RowKit Go.Shelf Go.Sort

theorem prefF_len (p : Int) : (prefF p).length ≤ 2 := by
  unfold prefF
  repeat' split
  all_goals decide
set_option maxHeartbeats 4000000 in
set_option maxRecDepth 100000 in
theorem Size_any (x : EntV) (v : Value) (w : World) (hv : ∃ a n c, v = .slice a n c) (hex : x.ex.length ≤ 1000) (hcn : Lib.countByte x.ex 119 ≤ 1000) :
    Calls Tryz.prog 19 #[entVal x v] w fun e w' => e = .returned (.int .i64 (((prefF x.pg).length : Int) + 1 + (x.ex.length : Int) + (Lib.countByte x.ex 119 : Int))) ∧ Below w.heap.size w w' := by
  obtain ⟨pg, op, iop, args, ex, al⟩ := x
  obtain ⟨va, vn, vc, rfl⟩ := hv
  dsimp only at *
  obtain ⟨exB, hexB⟩ : ∃ b : ByteArray, b = ⟨ex.toArray⟩ := ⟨_, rfl⟩
  have hexs : exB.size = ex.length := by rw [hexB]; show ex.toArray.size = _; rw [List.size_toArray]
  have hct := fun W => Tryz.strings_Count_one exB 119 W
  rw [show exB.data.toList = ex by rw [hexB]] at hct
  have HPF := Lib.hid (fun W => Prefixes_any pg W)
  have hpl := prefF_len pg
  have HB0 := Lib.hid ((Below.refl w.heap.size w).alloc (Nat.le_refl _) (.cells #[.int .i64 pg, .int .u8 op, .string ⟨iop.toArray⟩, .slice va vn vc, .string exB, .bool al] 27))
  have HE0 := Lib.hid (Blk.new w 27 #[.int .i64 pg, .int .u8 op, .string ⟨iop.toArray⟩, .slice va vn vc, .string exB, .bool al])
  rw [← hexs] at hex ⊢
  unfold entVal
  dsimp only
  rw [← hexB]
  have hc4 : (w.alloc (.cells #[.int .i64 pg, .int .u8 op, .string ⟨iop.toArray⟩, .slice va vn vc, .string exB, .bool al] 27)).cell? ⟨w.heap.size, 4, none⟩ = some (.string exB) := HE0.out.cell 4
  have hc0 : (w.alloc (.cells #[.int .i64 pg, .int .u8 op, .string ⟨iop.toArray⟩, .slice va vn vc, .string exB, .bool al] 27)).cell? ⟨w.heap.size, 0, none⟩ = some (.int .i64 pg) := HE0.out.cell 0
  generalize Lib.countByte ex 119 = c at *
  have HCT := Lib.hid hct
  clear hct hexs hexB
  generalize prefF pg = pl at *
  have g1 : IntKind.i64.wrap ((pl.length : Int) + 1) = (pl.length : Int) + 1 := IntWalk.i64_in _ (by omega)
  have g2 : IntKind.i64.wrap ((pl.length : Int) + 1 + (exB.size : Int)) = (pl.length : Int) + 1 + (exB.size : Int) := IntWalk.i64_in _ (by omega)
  have g3 : IntKind.i64.wrap ((pl.length : Int) + 1 + (exB.size : Int) + (c : Int)) = (pl.length : Int) + 1 + (exB.size : Int) + (c : Int) := IntWalk.i64_in _ (by omega)
  clear hex hcn hpl
  have hlw : w.heap.size < (w.alloc (.cells #[.int .i64 pg, .int .u8 op, .string ⟨iop.toArray⟩, .slice va vn vc, .string exB, .bool al] 27)).heap.size := HE0.out.lt
  go_enter Tryz.func19, Tryz.ntmps19
  go_wp2
  generalize (w.alloc (.cells #[.int .i64 pg, .int .u8 op, .string ⟨iop.toArray⟩, .slice va vn vc, .string exB, .bool al] 27)) = w1 at *
  go_region_held3 (fun w' => w'.cell? ⟨w.heap.size, 0, none⟩ = some (.int .i64 pg) ∧ w'.cell? ⟨w.heap.size, 4, none⟩ = some (.string exB)) (go_keep)
    (first
      | (go_at_call 24; refine (HPF.out _).mono ?_; rintro e w2 ⟨v2, rfl, ho, hb⟩; obtain ⟨a2, c2, rfl⟩ := ho.form; have HB1 := Lib.hid (HB0.out.drew.trans (hb.mono (show w.heap.size ≤ w1.heap.size from HB0.out.size))); have d0 : w2.cell? ⟨w.heap.size, 0, none⟩ = some (.int .i64 pg) := (hb.cell (p := ⟨w.heap.size, 0, none⟩) hlw).trans hc0; have d4 : w2.cell? ⟨w.heap.size, 4, none⟩ = some (.string exB) := (hb.cell (p := ⟨w.heap.size, 4, none⟩) hlw).trans hc4; clear ho hb)
      | (go_at_call 55; refine (HCT.out _).mono ?_; rintro e w2 ⟨rfl, rfl⟩))
  go_wp2
  go_ret
  exact ⟨rfl, HB1.out⟩
end Go.Proofs.YtlepicdjnbbndaaGreatDoor
