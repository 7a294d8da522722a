/-
  breadboardlaw09.alive. Conditions: the library's table as its initialiser lays it.
-/
import Derived.Test.YtlepicdjnbbndaaGreatDoorT24
import Derived.Test.YtlepicdjnbbndaaGreatDoorT25
namespace Go.Proofs.YtlepicdjnbbndaaGreatDoor
open Go.RowKit Go.Shelf Go.Sort

theorem shape7E : shape07 ⟨⟨#[76, 68]⟩, [⟨1, 7, 0⟩, ⟨5, 5, 0⟩]⟩ = ⟨#[76, 68, 32, 65, 44, 40, 73, 88, 43, 100, 41]⟩ := by kernel_rfl
set_option maxHeartbeats 4000000 in
set_option maxRecDepth 100000 in
theorem alive9_any (w : World) (hT : Spc w) : Calls Tryz.prog 14 #[] w fun e w' => e = .returned (.bool true) ∧ Below w.heap.size w w' := by
  have HAT := Lib.hid (at7E w hT)
  have HSH := Lib.hid (fun p v W h hT => shape_any p ⟨⟨#[76, 68]⟩, [⟨1, 7, 0⟩, ⟨5, 5, 0⟩]⟩ v W h hT (by decide))
  have HSI := Lib.hid (fun v W hv => Size_any ⟨3, 126, [76, 68], [⟨1, 7, 0⟩, ⟨5, 5, 0⟩], [100], false⟩ v W hv (by decide) (by decide))
  rw [shape7E] at HSH
  have HT := Lib.hid hT
  clear hT
  go_enter Tryz.func14, Tryz.ntmps14
  go_wp2_with fail
  refine HAT.out.mono ?_
  rintro e w1 ⟨v1, rfl, ho, hb⟩
  obtain ⟨va, vc, rfl⟩ : ∃ a c, v1 = .slice a 2 c := by obtain ⟨a, c, e, _⟩ := ho; exact ⟨a, c, e⟩
  have hE := Blk.new w1 27 #[.int .i64 3, .int .u8 126, .string ⟨#[76, 68]⟩, .slice va 2 vc, .string ⟨#[100]⟩, .bool false]
  have HS1 := Lib.hid (ho.slR.alloc (.cells #[.int .i64 3, .int .u8 126, .string ⟨#[76, 68]⟩, .slice va 2 vc, .string ⟨#[100]⟩, .bool false] 27))
  have HB1 := Lib.hid (hb.alloc hb.size (.cells #[.int .i64 3, .int .u8 126, .string ⟨#[76, 68]⟩, .slice va 2 vc, .string ⟨#[100]⟩, .bool false] 27))
  have HE1 := Lib.hid hE
  have HSZ : Hid (w.heap.size ≤ w1.heap.size) := hb.size
  clear ho hb hE
  go_wp2_with (first
    | (go_at_call 48; refine (HSH.out _ _ _ HS1.out (HT.out.below HB1.out)).mono ?_; rintro e w2 ⟨rfl, hb⟩; have HE2 := Lib.hid (HE1.out.below hb HE1.out.lt); have HB2 := Lib.hid (HB1.out.trans (hb.mono HB1.out.size)); have e0 := HE2.out.cell 0; have e1 := HE2.out.cell 1; have e2 := HE2.out.cell 2; have e3 := HE2.out.cell 3; have e4 := HE2.out.cell 4; have e5 := HE2.out.cell 5; clear hb)
    | (go_at_call 19; refine (HSI.out _ _ ⟨_, _, _, rfl⟩).mono ?_; rintro e w3 ⟨rfl, hb⟩; have HB3 := Lib.hid (HB2.out.trans (hb.mono HB2.out.size)); clear hb))
  go_ret
  exact ⟨rfl, HB3.out⟩
end Go.Proofs.YtlepicdjnbbndaaGreatDoor
