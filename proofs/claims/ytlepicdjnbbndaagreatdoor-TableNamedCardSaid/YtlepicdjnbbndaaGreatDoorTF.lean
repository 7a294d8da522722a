/-
  Size, PageOf, alive, TablePrefixes. Conditions: the library's table as its initialiser lays it.
-/
import Derived.Test.YtlepicdjnbbndaaGreatDoorTI
import Derived.IntWalk
/-
  table.Size. Conditions: sizes.
-/
namespace Go.Proofs.YtlepicdjnbbndaaGreatDoor
open Go.RowKit Go.Shelf Go.Sort

theorem prefF_len (p : Int) : (prefF p).length ≤ 2 := by
  unfold prefF
  repeat' split
  all_goals decide
set_option maxHeartbeats 4000000 in
set_option maxRecDepth 100000 in
theorem Size_any (x : EntV) (v : Value) (w : World) (hv : ∃ a n c, v = .slice a n c) (hex : x.ex.length ≤ 1000) (hcn : Lib.countByte x.ex 119 ≤ 1000) :
    Calls Tryz.prog 19 #[entVal x v] w fun e w' => e = .returned (.int .i64 (((prefF x.pg).length : Int) + 1 + (x.ex.length : Int) + (Lib.countByte x.ex 119 : Int))) ∧ Below w.heap.size w w' := by
  obtain ⟨pg, op, iop, args, ex, al⟩ := x
  obtain ⟨va, vn, vc, rfl⟩ := hv
  dsimp only at *
  obtain ⟨exB, hexB⟩ : ∃ b : ByteArray, b = ⟨ex.toArray⟩ := ⟨_, rfl⟩
  have hexs : exB.size = ex.length := by rw [hexB]; show ex.toArray.size = _; rw [List.size_toArray]
  have hct := fun W => Tryz.strings_Count_one exB 119 W
  rw [show exB.data.toList = ex by rw [hexB]] at hct
  have HPF := Lib.hid (fun W => Prefixes_any pg W)
  have hpl := prefF_len pg
  have HB0 := Lib.hid ((Below.refl w.heap.size w).alloc (Nat.le_refl _) (.cells #[.int .i64 pg, .int .u8 op, .string ⟨iop.toArray⟩, .slice va vn vc, .string exB, .bool al] 27))
  have HE0 := Lib.hid (Blk.new w 27 #[.int .i64 pg, .int .u8 op, .string ⟨iop.toArray⟩, .slice va vn vc, .string exB, .bool al])
  rw [← hexs] at hex ⊢
  unfold entVal
  dsimp only
  rw [← hexB]
  have hc4 : (w.alloc (.cells #[.int .i64 pg, .int .u8 op, .string ⟨iop.toArray⟩, .slice va vn vc, .string exB, .bool al] 27)).cell? ⟨w.heap.size, 4, none⟩ = some (.string exB) := HE0.out.cell 4
  have hc0 : (w.alloc (.cells #[.int .i64 pg, .int .u8 op, .string ⟨iop.toArray⟩, .slice va vn vc, .string exB, .bool al] 27)).cell? ⟨w.heap.size, 0, none⟩ = some (.int .i64 pg) := HE0.out.cell 0
  generalize Lib.countByte ex 119 = c at *
  have HCT := Lib.hid hct
  clear hct hexs hexB
  generalize prefF pg = pl at *
  have g1 : IntKind.i64.wrap ((pl.length : Int) + 1) = (pl.length : Int) + 1 := IntWalk.i64_in _ (by omega)
  have g2 : IntKind.i64.wrap ((pl.length : Int) + 1 + (exB.size : Int)) = (pl.length : Int) + 1 + (exB.size : Int) := IntWalk.i64_in _ (by omega)
  have g3 : IntKind.i64.wrap ((pl.length : Int) + 1 + (exB.size : Int) + (c : Int)) = (pl.length : Int) + 1 + (exB.size : Int) + (c : Int) := IntWalk.i64_in _ (by omega)
  clear hex hcn hpl
  have hlw : w.heap.size < (w.alloc (.cells #[.int .i64 pg, .int .u8 op, .string ⟨iop.toArray⟩, .slice va vn vc, .string exB, .bool al] 27)).heap.size := HE0.out.lt
  go_enter Tryz.func19, Tryz.ntmps19
  go_wp2
  generalize (w.alloc (.cells #[.int .i64 pg, .int .u8 op, .string ⟨iop.toArray⟩, .slice va vn vc, .string exB, .bool al] 27)) = w1 at *
  go_region_held3 (fun w' => w'.cell? ⟨w.heap.size, 0, none⟩ = some (.int .i64 pg) ∧ w'.cell? ⟨w.heap.size, 4, none⟩ = some (.string exB)) (go_keep)
    (first
      | (go_at_call 24; refine (HPF.out _).mono ?_; rintro e w2 ⟨v2, rfl, ho, hb⟩; obtain ⟨a2, c2, rfl⟩ := ho.form; have HB1 := Lib.hid (HB0.out.drew.trans (hb.mono (show w.heap.size ≤ w1.heap.size from HB0.out.size))); have d0 : w2.cell? ⟨w.heap.size, 0, none⟩ = some (.int .i64 pg) := (hb.cell (p := ⟨w.heap.size, 0, none⟩) hlw).trans hc0; have d4 : w2.cell? ⟨w.heap.size, 4, none⟩ = some (.string exB) := (hb.cell (p := ⟨w.heap.size, 4, none⟩) hlw).trans hc4; clear ho hb)
      | (go_at_call 55; refine (HCT.out _).mono ?_; rintro e w2 ⟨rfl, rfl⟩))
  go_wp2
  go_ret
  exact ⟨rfl, HB1.out⟩
end Go.Proofs.YtlepicdjnbbndaaGreatDoor

/-
  table.PageOf; breadboardref09.Prefixes. Conditions: none.
-/
namespace Go.Proofs.YtlepicdjnbbndaaGreatDoor
open Go.RowKit Go.Shelf

/-- the reference's prefixes -/
theorem RefPrefixes_any (p : Int) (w : World) :
    Calls Tryz.prog 27 #[.int .i64 p] w fun e w' => ∃ v, e = .returned v ∧ Own byteR w' w.heap.size 5 NoB v (prefF p) ∧ Below w.heap.size w w' := by
  have hal : ∀ c : UInt8, Own byteR (w.alloc (.cells #[.int .u8 c.toNat] 5)) w.heap.size 5 NoB (.slice (some ⟨w.heap.size, 0, none⟩) 1 1) [c] := fun c => Own.lit w _ [c] _ 1 rfl rfl (by simp)
  have hal2 : ∀ c d : UInt8, Own byteR (w.alloc (.cells #[.int .u8 c.toNat, .int .u8 d.toNat] 5)) w.heap.size 5 NoB (.slice (some ⟨w.heap.size, 0, none⟩) 2 2) [c, d] := fun c d => Own.lit w _ [c, d] _ 2 rfl rfl (by simp)
  have hb : ∀ o : Obj, Below w.heap.size w (w.alloc o) := fun o => (Below.refl _ w).alloc (Nat.le_refl _) o
  have HAL := Lib.hid hal
  have HAL2 := Lib.hid hal2
  have HB := Lib.hid hb
  clear hal hb hal2
  by_cases h1 : p = 1
  · subst h1
    go_enter Tryz.func27, Tryz.ntmps27
    go_wp2
    go_ret
    exact ⟨_, rfl, HAL.out 203, HB.out _⟩
  by_cases h2 : p = 2
  · subst h2
    go_enter Tryz.func27, Tryz.ntmps27
    go_wp2
    go_ret
    exact ⟨_, rfl, HAL.out 237, HB.out _⟩
  by_cases h3 : p = 3
  · subst h3
    go_enter Tryz.func27, Tryz.ntmps27
    go_wp2
    go_ret
    exact ⟨_, rfl, HAL.out 221, HB.out _⟩
  by_cases h4 : p = 4
  · subst h4
    go_enter Tryz.func27, Tryz.ntmps27
    go_wp2
    go_ret
    exact ⟨_, rfl, HAL.out 253, HB.out _⟩
  by_cases h5 : p = 5
  · subst h5
    go_enter Tryz.func27, Tryz.ntmps27
    go_wp2
    go_ret
    exact ⟨_, rfl, HAL2.out 221 203, HB.out _⟩
  by_cases h6 : p = 6
  · subst h6
    go_enter Tryz.func27, Tryz.ntmps27
    go_wp2
    go_ret
    exact ⟨_, rfl, HAL2.out 253 203, HB.out _⟩
  have hf : prefF p = [] := by rw [prefF, if_neg h1, if_neg h2, if_neg h3, if_neg h4, if_neg h5, if_neg h6]
  have b1 : (p == 1) = false := by rw [beq_eq_false_iff_ne]; exact h1
  have b2 : (p == 2) = false := by rw [beq_eq_false_iff_ne]; exact h2
  have b3 : (p == 3) = false := by rw [beq_eq_false_iff_ne]; exact h3
  have b4 : (p == 4) = false := by rw [beq_eq_false_iff_ne]; exact h4
  have b5 : (p == 5) = false := by rw [beq_eq_false_iff_ne]; exact h5
  have b6 : (p == 6) = false := by rw [beq_eq_false_iff_ne]; exact h6
  rw [hf]
  clear hf h1 h2 h3 h4 h5 h6
  go_enter Tryz.func27, Tryz.ntmps27
  go_wp2
  go_ret
  exact ⟨_, rfl, Own.nil _ _ _ _ _, Below.refl _ _⟩
end Go.Proofs.YtlepicdjnbbndaaGreatDoor

/-
  breadboardlaw09.alive. Conditions: the library's table as its initialiser lays it.
-/
namespace Go.Proofs.YtlepicdjnbbndaaGreatDoor
open Go.RowKit Go.Shelf Go.Sort

theorem shape7E : shape07 ⟨⟨#[76, 68]⟩, [⟨1, 7, 0⟩, ⟨5, 5, 0⟩]⟩ = ⟨#[76, 68, 32, 65, 44, 40, 73, 88, 43, 100, 41]⟩ := by kernel_rfl
set_option maxHeartbeats 4000000 in
set_option maxRecDepth 100000 in
theorem alive9_any (w : World) (hT : Spc w) : Calls Tryz.prog 14 #[] w fun e w' => e = .returned (.bool true) ∧ Below w.heap.size w w' := by
  have HAT := Lib.hid (at7E w hT)
  have HSH := Lib.hid (fun p v W h hT => shape_any p ⟨⟨#[76, 68]⟩, [⟨1, 7, 0⟩, ⟨5, 5, 0⟩]⟩ v W h hT (by decide))
  have HSI := Lib.hid (fun v W hv => Size_any ⟨3, 126, [76, 68], [⟨1, 7, 0⟩, ⟨5, 5, 0⟩], [100], false⟩ v W hv (by decide) (by decide))
  rw [shape7E] at HSH
  have HT := Lib.hid hT
  clear hT
  go_enter Tryz.func14, Tryz.ntmps14
  go_wp2_with fail
  refine HAT.out.mono ?_
  rintro e w1 ⟨v1, rfl, ho, hb⟩
  obtain ⟨va, vc, rfl⟩ : ∃ a c, v1 = .slice a 2 c := by obtain ⟨a, c, e, _⟩ := ho; exact ⟨a, c, e⟩
  have hE := Blk.new w1 27 #[.int .i64 3, .int .u8 126, .string ⟨#[76, 68]⟩, .slice va 2 vc, .string ⟨#[100]⟩, .bool false]
  have HS1 := Lib.hid (ho.slR.alloc (.cells #[.int .i64 3, .int .u8 126, .string ⟨#[76, 68]⟩, .slice va 2 vc, .string ⟨#[100]⟩, .bool false] 27))
  have HB1 := Lib.hid (hb.alloc hb.size (.cells #[.int .i64 3, .int .u8 126, .string ⟨#[76, 68]⟩, .slice va 2 vc, .string ⟨#[100]⟩, .bool false] 27))
  have HE1 := Lib.hid hE
  have HSZ : Hid (w.heap.size ≤ w1.heap.size) := hb.size
  clear ho hb hE
  go_wp2_with (first
    | (go_at_call 48; refine (HSH.out _ _ _ HS1.out (HT.out.below HB1.out)).mono ?_; rintro e w2 ⟨rfl, hb⟩; have HE2 := Lib.hid (HE1.out.below hb HE1.out.lt); have HB2 := Lib.hid (HB1.out.trans (hb.mono HB1.out.size)); have e0 := HE2.out.cell 0; have e1 := HE2.out.cell 1; have e2 := HE2.out.cell 2; have e3 := HE2.out.cell 3; have e4 := HE2.out.cell 4; have e5 := HE2.out.cell 5; clear hb)
    | (go_at_call 19; refine (HSI.out _ _ ⟨_, _, _, rfl⟩).mono ?_; rintro e w3 ⟨rfl, hb⟩; have HB3 := Lib.hid (HB2.out.trans (hb.mono HB2.out.size)); clear hb))
  go_ret
  exact ⟨rfl, HB3.out⟩
end Go.Proofs.YtlepicdjnbbndaaGreatDoor

/-
  breadboardlaw09.TablePrefixes. Conditions: the library's table as its initialiser lays it.
-/
namespace Go.Proofs.YtlepicdjnbbndaaGreatDoor
open Go.RowKit Go.Shelf Go.Sort

end Go.Proofs.YtlepicdjnbbndaaGreatDoor
