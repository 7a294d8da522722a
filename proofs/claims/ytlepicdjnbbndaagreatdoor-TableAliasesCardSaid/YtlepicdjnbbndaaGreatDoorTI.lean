/-
  table.At, whole. Conditions: the library's table as its initialiser lays it.
-/
import Derived.Test.YtlepicdjnbbndaaGreatDoorT31n
import Derived.Test.YtlepicdjnbbndaaGreatDoorTH
/-
  table.At, pages 3 and 4, without an operand in memory. Conditions: sizes; the library's table as its initialiser lays it.
-/
namespace Go.Proofs.YtlepicdjnbbndaaGreatDoor
open Go.RowKit Go.Shelf Go.Sort

set_option maxHeartbeats 8000000 in
set_option maxRecDepth 100000 in
theorem At_yes (page : Int) (op : Nat) (t : List UInt8) (r : RuleV) (os : List Opd) (ex : List UInt8) (w : World) (hpg : page = 3 ∨ page = 4) (hop : op < 256) (hcb : op ≠ 203) (hl : lookF op mainL = some t) (hr : ruleF t = some r) (ha : argsF r.bits op r.args = some (os, ex)) (hok : okT t r)
    (hm : posO ⟨4, 2, 0⟩ 0 os = -1 ∨ (0 ≤ posO ⟨4, 2, 0⟩ 0 os ∧ r.op = [74, 80])) (h235 : op ≠ 235) (hxa : xany (page + 2) os = true) (hn : os.length ≤ 1000) (hup : upper ⟨r.op.toArray⟩ = ⟨r.op.toArray⟩) (his : r.op.length ≤ 1000) (hex : ex.length ≤ 1000) (hT : Spc w) :
    Calls Tryz.prog 13 #[.int .i64 page, .int .u8 op] w fun e w' => ∃ v', e = .returned (.tuple #[entVal ⟨page, op, r.op, xmap (page + 2) os, ex, r.alias⟩ v', .int .i64 1]) ∧ OpdOwn w' (fun b => w.heap.size ≤ b) v' (xmap (page + 2) os) ∧ Below w.heap.size w w' := by
  have HFI := Lib.hid (fun W hT => find_some page mainB op t r os ex W hop mainB_size hl hr ha hok hT)
  have hid := fun p v W h => indexed_loop page hpg ⟨page, op, r.op, os, ex, r.alias⟩ p v W h hm hop hn hup his hex
  dsimp only at hid
  simp only [if_neg h235, hxa] at hid
  have HID := Lib.hid hid
  have hne : ((op : Int) == 203) = false := by rw [beq_eq_false_iff_ne]; omega
  have hsz : ((w.alloc (.cells #[.int .i64 0, .int .u8 0, .string ⟨#[]⟩, .slice none 0 0, .string ⟨#[]⟩, .bool false] 27)).alloc (.cells #[.int .i64 0, .int .u8 0, .string ⟨#[]⟩, .slice none 0 0, .string ⟨#[]⟩, .bool false] 27)).heap.size = w.heap.size + 2 := by rw [World.size_alloc, World.size_alloc]
  have hR : Blk ((w.alloc (.cells #[.int .i64 0, .int .u8 0, .string ⟨#[]⟩, .slice none 0 0, .string ⟨#[]⟩, .bool false] 27)).alloc (.cells #[.int .i64 0, .int .u8 0, .string ⟨#[]⟩, .slice none 0 0, .string ⟨#[]⟩, .bool false] 27)) w.heap.size 27 #[.int .i64 0, .int .u8 0, .string ⟨#[]⟩, .slice none 0 0, .string ⟨#[]⟩, .bool false] := (Blk.new w _ _).alloc _
  have hE : Blk ((w.alloc (.cells #[.int .i64 0, .int .u8 0, .string ⟨#[]⟩, .slice none 0 0, .string ⟨#[]⟩, .bool false] 27)).alloc (.cells #[.int .i64 0, .int .u8 0, .string ⟨#[]⟩, .slice none 0 0, .string ⟨#[]⟩, .bool false] 27)) (w.heap.size + 1) 27 #[.int .i64 0, .int .u8 0, .string ⟨#[]⟩, .slice none 0 0, .string ⟨#[]⟩, .bool false] := by
    have h1 := Blk.new (w.alloc (.cells #[.int .i64 0, .int .u8 0, .string ⟨#[]⟩, .slice none 0 0, .string ⟨#[]⟩, .bool false] 27)) 27 #[.int .i64 0, .int .u8 0, .string ⟨#[]⟩, .slice none 0 0, .string ⟨#[]⟩, .bool false]
    rw [World.size_alloc] at h1
    exact h1
  have HSZ := Lib.hid hsz
  have HR0 := Lib.hid hR
  have HE0 := Lib.hid hE
  have HB0 := Lib.hid (((Below.refl w.heap.size w).alloc (Nat.le_refl _) (.cells #[.int .i64 0, .int .u8 0, .string ⟨#[]⟩, .slice none 0 0, .string ⟨#[]⟩, .bool false] 27)).alloc (by rw [World.size_alloc]; omega) (.cells #[.int .i64 0, .int .u8 0, .string ⟨#[]⟩, .slice none 0 0, .string ⟨#[]⟩, .bool false] 27))
  have HT0 := Lib.hid (hT.below HB0.out)
  clear hid hxa h235
  have HLE : Hid ((xmap (page + 2) os).length = os.length) := List.length_map _
  generalize (xmap (page + 2) os) = os2 at *
  obtain ⟨rb, ro, ra, ral⟩ := r
  dsimp only at *
  clear hl hr ha hok hT hn hm hup his hex hcb hR hE hsz hop
  rcases hpg with rfl | rfl
  · go_enter Tryz.func13, Tryz.ntmps13
    go_wp2_with fail
    refine (HFI.out _ HT0.out).mono ?_
    rintro e w1 ⟨v1, rfl, ho, hb⟩
    rw [HSZ.out] at ho hb
    obtain ⟨va, vc, rfl⟩ : ∃ a c, v1 = .slice a os.length c := ho.form
    have HR1 := Lib.hid (HR0.out.below hb (by omega))
    have HE1 := Lib.hid (HE0.out.below hb (by omega))
    have HB1 := Lib.hid (HB0.out.trans (hb.mono (by omega)))
    have HO1 := Lib.hid ho
    have e0 := HE1.out.cell 0
    have e1 := HE1.out.cell 1
    have e2 := HE1.out.cell 2
    have e3 := HE1.out.cell 3
    have e4 := HE1.out.cell 4
    have e5 := HE1.out.cell 5
    have z0 := HE1.out.free 0
    have z1 := HE1.out.free 1
    have z2 := HE1.out.free 2
    have z3 := HE1.out.free 3
    have z4 := HE1.out.free 4
    have z5 := HE1.out.free 5
    clear ho hb HB0 HE0 HR0 HFI
    unfold entVal
    dsimp only
    go_wp2_with fail
    have how : Own opdR (set6 w1 (w.heap.size + 1) (.int .i64 3) (.int .u8 op) (.string ⟨ro.toArray⟩) (.slice va os.length vc) (.string ⟨ex.toArray⟩) (.bool ral)) (w.heap.size + 2) 87 NoB (.slice va os.length vc) os := HO1.out.keep (fun j hj => set6_far _ _ _ _ _ _ _ _ j (by
      rcases hj with hj | hj
      · exact hj.elim
      · have := (HO1.out.lt j hj).1; omega))
    refine (HID.out (fun j => w.heap.size + 2 ≤ j) _ (set6 w1 (w.heap.size + 1) (.int .i64 3) (.int .u8 op) (.string ⟨ro.toArray⟩) (.slice va os.length vc) (.string ⟨ex.toArray⟩) (.bool ral)) (how.slR (fun _ h => h.elim) (fun _ h => h))).mono ?_
    rintro e w2 ⟨v2, rfl, ho2, hb2⟩
    obtain ⟨va2, vc2, rfl⟩ : ∃ a c, v2 = .slice a os2.length c := by obtain ⟨a, c, e, _⟩ := ho2; exact ⟨a, c, e⟩
    have hE2 : Blk w2 (w.heap.size + 1) 27 #[.int .i64 3, .int .u8 op, .string ⟨ro.toArray⟩, .slice va os.length vc, .string ⟨ex.toArray⟩, .bool ral] := (show Blk (set6 _ _ _ _ _ _ _ _) (w.heap.size + 1) 27 _ from entry6 HE1.out _ _ _ _ _ _).below hb2 (by rw [set6_size]; exact HE1.out.lt)
    have hR15 : Blk (set6 w1 (w.heap.size + 1) (.int .i64 3) (.int .u8 op) (.string ⟨ro.toArray⟩) (.slice va os.length vc) (.string ⟨ex.toArray⟩) (.bool ral)) w.heap.size 27 #[.int .i64 0, .int .u8 0, .string ⟨#[]⟩, .slice none 0 0, .string ⟨#[]⟩, .bool false] := (set6_far _ _ _ _ _ _ _ _ _ (by omega)).trans HR1.out
    have hR2 : Blk w2 w.heap.size 27 #[.int .i64 0, .int .u8 0, .string ⟨#[]⟩, .slice none 0 0, .string ⟨#[]⟩, .bool false] := hR15.below hb2 (by rw [set6_size]; exact HR1.out.lt)
    clear hR15
    have hsw : w.heap.size + 2 ≤ w1.heap.size := HE1.out.lt
    have HB2 := Lib.hid ((set6_below HB1.out (Nat.le_succ _) (.int .i64 3) (.int .u8 op) (.string ⟨ro.toArray⟩) (.slice va os.length vc) (.string ⟨ex.toArray⟩) (.bool ral)).trans (hb2.mono (by rw [set6_size]; omega)))
    have HO2 : Hid (OpdOwn w2 (fun b => w.heap.size + 2 ≤ b) (.slice va2 os2.length vc2) os2) := ho2.mono (fun b hb => by rw [set6_size] at hb; omega)
    have HE2 := Lib.hid hE2
    have HR2 := Lib.hid hR2
    clear how ho2 hb2 hE2 hR2 e0 e1 e2 e3 e4 e5 z0 z1 z2 z3 z4 z5 HE1 HR1 HB1 HO1 hsw
    have e0 := HE2.out.cell 0
    have e1 := HE2.out.cell 1
    have e2 := HE2.out.cell 2
    have e3 := HE2.out.cell 3
    have e4 := HE2.out.cell 4
    have e5 := HE2.out.cell 5
    have z0 := HE2.out.free 0
    have z1 := HE2.out.free 1
    have z2 := HE2.out.free 2
    have z3 := HE2.out.free 3
    have z4 := HE2.out.free 4
    have z5 := HE2.out.free 5
    have r0 := HR2.out.cell 0
    have r1 := HR2.out.cell 1
    have r2 := HR2.out.cell 2
    have r3 := HR2.out.cell 3
    have r4 := HR2.out.cell 4
    have r5 := HR2.out.cell 5
    have y0 := HR2.out.free 0
    have y1 := HR2.out.free 1
    have y2 := HR2.out.free 2
    have y3 := HR2.out.free 3
    have y4 := HR2.out.free 4
    have y5 := HR2.out.free 5
    unfold entVal
    dsimp only
    go_wp2
    refine bodyPost_ret (results_row_tmp rfl _ _ w.heap.size 27 #[.int .i64 3, .int .u8 op, .string ⟨ro.toArray⟩, .slice va2 os2.length vc2, .string ⟨(ex).toArray⟩, .bool ral] (0, 0) _ rfl (entry6 (show Blk (set6 w2 (w.heap.size + 1) (.int .i64 3) (.int .u8 op) (.string ⟨ro.toArray⟩) (.slice va2 os2.length vc2) (.string ⟨(ex).toArray⟩) (.bool ral)) w.heap.size 27 #[.int .i64 0, .int .u8 0, .string ⟨#[]⟩, .slice none 0 0, .string ⟨#[]⟩, .bool false] from (set6_far _ _ _ _ _ _ _ _ _ (by omega)).trans HR2.out) _ _ _ _ _ _) Tryz.underlying27 rfl (by kernel_rfl)) rfl ⟨_, rfl, (HO2.out.keep (fun j hj => ?_)).mono (fun j hj => by have hj : w.heap.size + 2 ≤ j := hj; omega), ?_⟩
    · have hj : w.heap.size + 2 ≤ j := hj
      exact (set6_far (set6 w2 (w.heap.size + 1) (.int .i64 3) (.int .u8 op) (.string ⟨ro.toArray⟩) (.slice va2 os2.length vc2) (.string ⟨(ex).toArray⟩) (.bool ral)) w.heap.size _ _ _ _ _ _ j (by omega)).trans (set6_far _ _ _ _ _ _ _ _ j (by omega))
    · exact set6_below (set6_below HB2.out (Nat.le_succ _) (.int .i64 3) (.int .u8 op) (.string ⟨ro.toArray⟩) (.slice va2 os2.length vc2) (.string ⟨(ex).toArray⟩) (.bool ral)) (Nat.le_refl _) _ _ _ _ _ _
  · go_enter Tryz.func13, Tryz.ntmps13
    go_wp2_with fail
    refine (HFI.out _ HT0.out).mono ?_
    rintro e w1 ⟨v1, rfl, ho, hb⟩
    rw [HSZ.out] at ho hb
    obtain ⟨va, vc, rfl⟩ : ∃ a c, v1 = .slice a os.length c := ho.form
    have HR1 := Lib.hid (HR0.out.below hb (by omega))
    have HE1 := Lib.hid (HE0.out.below hb (by omega))
    have HB1 := Lib.hid (HB0.out.trans (hb.mono (by omega)))
    have HO1 := Lib.hid ho
    have e0 := HE1.out.cell 0
    have e1 := HE1.out.cell 1
    have e2 := HE1.out.cell 2
    have e3 := HE1.out.cell 3
    have e4 := HE1.out.cell 4
    have e5 := HE1.out.cell 5
    have z0 := HE1.out.free 0
    have z1 := HE1.out.free 1
    have z2 := HE1.out.free 2
    have z3 := HE1.out.free 3
    have z4 := HE1.out.free 4
    have z5 := HE1.out.free 5
    clear ho hb HB0 HE0 HR0 HFI
    unfold entVal
    dsimp only
    go_wp2_with fail
    have how : Own opdR (set6 w1 (w.heap.size + 1) (.int .i64 4) (.int .u8 op) (.string ⟨ro.toArray⟩) (.slice va os.length vc) (.string ⟨ex.toArray⟩) (.bool ral)) (w.heap.size + 2) 87 NoB (.slice va os.length vc) os := HO1.out.keep (fun j hj => set6_far _ _ _ _ _ _ _ _ j (by
      rcases hj with hj | hj
      · exact hj.elim
      · have := (HO1.out.lt j hj).1; omega))
    refine (HID.out (fun j => w.heap.size + 2 ≤ j) _ (set6 w1 (w.heap.size + 1) (.int .i64 4) (.int .u8 op) (.string ⟨ro.toArray⟩) (.slice va os.length vc) (.string ⟨ex.toArray⟩) (.bool ral)) (how.slR (fun _ h => h.elim) (fun _ h => h))).mono ?_
    rintro e w2 ⟨v2, rfl, ho2, hb2⟩
    obtain ⟨va2, vc2, rfl⟩ : ∃ a c, v2 = .slice a os2.length c := by obtain ⟨a, c, e, _⟩ := ho2; exact ⟨a, c, e⟩
    have hE2 : Blk w2 (w.heap.size + 1) 27 #[.int .i64 4, .int .u8 op, .string ⟨ro.toArray⟩, .slice va os.length vc, .string ⟨ex.toArray⟩, .bool ral] := (show Blk (set6 _ _ _ _ _ _ _ _) (w.heap.size + 1) 27 _ from entry6 HE1.out _ _ _ _ _ _).below hb2 (by rw [set6_size]; exact HE1.out.lt)
    have hR15 : Blk (set6 w1 (w.heap.size + 1) (.int .i64 4) (.int .u8 op) (.string ⟨ro.toArray⟩) (.slice va os.length vc) (.string ⟨ex.toArray⟩) (.bool ral)) w.heap.size 27 #[.int .i64 0, .int .u8 0, .string ⟨#[]⟩, .slice none 0 0, .string ⟨#[]⟩, .bool false] := (set6_far _ _ _ _ _ _ _ _ _ (by omega)).trans HR1.out
    have hR2 : Blk w2 w.heap.size 27 #[.int .i64 0, .int .u8 0, .string ⟨#[]⟩, .slice none 0 0, .string ⟨#[]⟩, .bool false] := hR15.below hb2 (by rw [set6_size]; exact HR1.out.lt)
    clear hR15
    have hsw : w.heap.size + 2 ≤ w1.heap.size := HE1.out.lt
    have HB2 := Lib.hid ((set6_below HB1.out (Nat.le_succ _) (.int .i64 4) (.int .u8 op) (.string ⟨ro.toArray⟩) (.slice va os.length vc) (.string ⟨ex.toArray⟩) (.bool ral)).trans (hb2.mono (by rw [set6_size]; omega)))
    have HO2 : Hid (OpdOwn w2 (fun b => w.heap.size + 2 ≤ b) (.slice va2 os2.length vc2) os2) := ho2.mono (fun b hb => by rw [set6_size] at hb; omega)
    have HE2 := Lib.hid hE2
    have HR2 := Lib.hid hR2
    clear how ho2 hb2 hE2 hR2 e0 e1 e2 e3 e4 e5 z0 z1 z2 z3 z4 z5 HE1 HR1 HB1 HO1 hsw
    have e0 := HE2.out.cell 0
    have e1 := HE2.out.cell 1
    have e2 := HE2.out.cell 2
    have e3 := HE2.out.cell 3
    have e4 := HE2.out.cell 4
    have e5 := HE2.out.cell 5
    have z0 := HE2.out.free 0
    have z1 := HE2.out.free 1
    have z2 := HE2.out.free 2
    have z3 := HE2.out.free 3
    have z4 := HE2.out.free 4
    have z5 := HE2.out.free 5
    have r0 := HR2.out.cell 0
    have r1 := HR2.out.cell 1
    have r2 := HR2.out.cell 2
    have r3 := HR2.out.cell 3
    have r4 := HR2.out.cell 4
    have r5 := HR2.out.cell 5
    have y0 := HR2.out.free 0
    have y1 := HR2.out.free 1
    have y2 := HR2.out.free 2
    have y3 := HR2.out.free 3
    have y4 := HR2.out.free 4
    have y5 := HR2.out.free 5
    unfold entVal
    dsimp only
    go_wp2
    refine bodyPost_ret (results_row_tmp rfl _ _ w.heap.size 27 #[.int .i64 4, .int .u8 op, .string ⟨ro.toArray⟩, .slice va2 os2.length vc2, .string ⟨(ex).toArray⟩, .bool ral] (0, 0) _ rfl (entry6 (show Blk (set6 w2 (w.heap.size + 1) (.int .i64 4) (.int .u8 op) (.string ⟨ro.toArray⟩) (.slice va2 os2.length vc2) (.string ⟨(ex).toArray⟩) (.bool ral)) w.heap.size 27 #[.int .i64 0, .int .u8 0, .string ⟨#[]⟩, .slice none 0 0, .string ⟨#[]⟩, .bool false] from (set6_far _ _ _ _ _ _ _ _ _ (by omega)).trans HR2.out) _ _ _ _ _ _) Tryz.underlying27 rfl (by kernel_rfl)) rfl ⟨_, rfl, (HO2.out.keep (fun j hj => ?_)).mono (fun j hj => by have hj : w.heap.size + 2 ≤ j := hj; omega), ?_⟩
    · have hj : w.heap.size + 2 ≤ j := hj
      exact (set6_far (set6 w2 (w.heap.size + 1) (.int .i64 4) (.int .u8 op) (.string ⟨ro.toArray⟩) (.slice va2 os2.length vc2) (.string ⟨(ex).toArray⟩) (.bool ral)) w.heap.size _ _ _ _ _ _ j (by omega)).trans (set6_far _ _ _ _ _ _ _ _ j (by omega))
    · exact set6_below (set6_below HB2.out (Nat.le_succ _) (.int .i64 4) (.int .u8 op) (.string ⟨ro.toArray⟩) (.slice va2 os2.length vc2) (.string ⟨(ex).toArray⟩) (.bool ral)) (Nat.le_refl _) _ _ _ _ _ _
end Go.Proofs.YtlepicdjnbbndaaGreatDoor

/-
  table.At, pages 3 and 4, where the prefix has no effect. Conditions: sizes; the library's table as its initialiser lays it.
-/
namespace Go.Proofs.YtlepicdjnbbndaaGreatDoor
open Go.RowKit Go.Shelf Go.Sort

set_option maxHeartbeats 8000000 in
set_option maxRecDepth 100000 in
theorem At_no1 (page : Int) (op : Nat) (t : List UInt8) (r : RuleV) (os : List Opd) (ex : List UInt8) (w : World) (hpg : page = 3 ∨ page = 4) (hop : op < 256) (hl : lookF op mainL = some t) (hr : ruleF t = some r) (ha : argsF r.bits op r.args = some (os, ex)) (hok : okT t r)
    (hm : posO ⟨4, 2, 0⟩ 0 os = -1 ∨ (0 ≤ posO ⟨4, 2, 0⟩ 0 os ∧ r.op = [74, 80])) (h235 : op = 235) (hn : os.length ≤ 1000) (hup : upper ⟨r.op.toArray⟩ = ⟨r.op.toArray⟩) (his : r.op.length ≤ 1000) (hex : ex.length ≤ 1000) (hT : Spc w) :
    Calls Tryz.prog 13 #[.int .i64 page, .int .u8 op] w fun e w' => e = .returned (.tuple #[ent0, .int .i64 0]) ∧ Below w.heap.size w w' := by
  have HFI := Lib.hid (fun W hT => find_some page mainB op t r os ex W hop mainB_size hl hr ha hok hT)
  have hid := fun p v W h => indexed_loop page hpg ⟨page, op, r.op, os, ex, r.alias⟩ p v W h hm hop hn hup his hex
  dsimp only at hid
  simp only [if_pos h235] at hid
  have HID := Lib.hid hid
  have hne : ((op : Int) == 203) = false := by rw [beq_eq_false_iff_ne]; omega
  have hsz : ((w.alloc (.cells #[.int .i64 0, .int .u8 0, .string ⟨#[]⟩, .slice none 0 0, .string ⟨#[]⟩, .bool false] 27)).alloc (.cells #[.int .i64 0, .int .u8 0, .string ⟨#[]⟩, .slice none 0 0, .string ⟨#[]⟩, .bool false] 27)).heap.size = w.heap.size + 2 := by rw [World.size_alloc, World.size_alloc]
  have hR : Blk ((w.alloc (.cells #[.int .i64 0, .int .u8 0, .string ⟨#[]⟩, .slice none 0 0, .string ⟨#[]⟩, .bool false] 27)).alloc (.cells #[.int .i64 0, .int .u8 0, .string ⟨#[]⟩, .slice none 0 0, .string ⟨#[]⟩, .bool false] 27)) w.heap.size 27 #[.int .i64 0, .int .u8 0, .string ⟨#[]⟩, .slice none 0 0, .string ⟨#[]⟩, .bool false] := (Blk.new w _ _).alloc _
  have hE : Blk ((w.alloc (.cells #[.int .i64 0, .int .u8 0, .string ⟨#[]⟩, .slice none 0 0, .string ⟨#[]⟩, .bool false] 27)).alloc (.cells #[.int .i64 0, .int .u8 0, .string ⟨#[]⟩, .slice none 0 0, .string ⟨#[]⟩, .bool false] 27)) (w.heap.size + 1) 27 #[.int .i64 0, .int .u8 0, .string ⟨#[]⟩, .slice none 0 0, .string ⟨#[]⟩, .bool false] := by
    have h1 := Blk.new (w.alloc (.cells #[.int .i64 0, .int .u8 0, .string ⟨#[]⟩, .slice none 0 0, .string ⟨#[]⟩, .bool false] 27)) 27 #[.int .i64 0, .int .u8 0, .string ⟨#[]⟩, .slice none 0 0, .string ⟨#[]⟩, .bool false]
    rw [World.size_alloc] at h1
    exact h1
  have HSZ := Lib.hid hsz
  have HR0 := Lib.hid hR
  have HE0 := Lib.hid hE
  have HB0 := Lib.hid (((Below.refl w.heap.size w).alloc (Nat.le_refl _) (.cells #[.int .i64 0, .int .u8 0, .string ⟨#[]⟩, .slice none 0 0, .string ⟨#[]⟩, .bool false] 27)).alloc (by rw [World.size_alloc]; omega) (.cells #[.int .i64 0, .int .u8 0, .string ⟨#[]⟩, .slice none 0 0, .string ⟨#[]⟩, .bool false] 27))
  have HT0 := Lib.hid (hT.below HB0.out)
  clear hid h235
  have HLE : Hid ((xmap (page + 2) os).length = os.length) := List.length_map _
  generalize (xmap (page + 2) os) = os2 at *
  obtain ⟨rb, ro, ra, ral⟩ := r
  dsimp only at *
  clear hl hr ha hok hT hn hm hup his hex hR hE hsz hop
  rcases hpg with rfl | rfl
  · go_enter Tryz.func13, Tryz.ntmps13
    go_wp2_with fail
    refine (HFI.out _ HT0.out).mono ?_
    rintro e w1 ⟨v1, rfl, ho, hb⟩
    rw [HSZ.out] at ho hb
    obtain ⟨va, vc, rfl⟩ : ∃ a c, v1 = .slice a os.length c := ho.form
    have HR1 := Lib.hid (HR0.out.below hb (by omega))
    have HE1 := Lib.hid (HE0.out.below hb (by omega))
    have HB1 := Lib.hid (HB0.out.trans (hb.mono (by omega)))
    have HO1 := Lib.hid ho
    have e0 := HE1.out.cell 0
    have e1 := HE1.out.cell 1
    have e2 := HE1.out.cell 2
    have e3 := HE1.out.cell 3
    have e4 := HE1.out.cell 4
    have e5 := HE1.out.cell 5
    have z0 := HE1.out.free 0
    have z1 := HE1.out.free 1
    have z2 := HE1.out.free 2
    have z3 := HE1.out.free 3
    have z4 := HE1.out.free 4
    have z5 := HE1.out.free 5
    clear ho hb HB0 HE0 HR0 HFI
    unfold entVal
    dsimp only
    go_wp2_with fail
    have how : Own opdR (set6 w1 (w.heap.size + 1) (.int .i64 3) (.int .u8 op) (.string ⟨ro.toArray⟩) (.slice va os.length vc) (.string ⟨ex.toArray⟩) (.bool ral)) (w.heap.size + 2) 87 NoB (.slice va os.length vc) os := HO1.out.keep (fun j hj => set6_far _ _ _ _ _ _ _ _ j (by
      rcases hj with hj | hj
      · exact hj.elim
      · have := (HO1.out.lt j hj).1; omega))
    refine (HID.out (fun j => w.heap.size + 2 ≤ j) _ (set6 w1 (w.heap.size + 1) (.int .i64 3) (.int .u8 op) (.string ⟨ro.toArray⟩) (.slice va os.length vc) (.string ⟨ex.toArray⟩) (.bool ral)) (how.slR (fun _ h => h.elim) (fun _ h => h))).mono ?_
    rintro e w2 ⟨v2, rfl, ho2, hb2⟩
    obtain ⟨va2, vc2, rfl⟩ : ∃ a c, v2 = .slice a os2.length c := by obtain ⟨a, c, e, _⟩ := ho2; exact ⟨a, c, e⟩
    have hE2 : Blk w2 (w.heap.size + 1) 27 #[.int .i64 3, .int .u8 op, .string ⟨ro.toArray⟩, .slice va os.length vc, .string ⟨ex.toArray⟩, .bool ral] := (show Blk (set6 _ _ _ _ _ _ _ _) (w.heap.size + 1) 27 _ from entry6 HE1.out _ _ _ _ _ _).below hb2 (by rw [set6_size]; exact HE1.out.lt)
    have hR15 : Blk (set6 w1 (w.heap.size + 1) (.int .i64 3) (.int .u8 op) (.string ⟨ro.toArray⟩) (.slice va os.length vc) (.string ⟨ex.toArray⟩) (.bool ral)) w.heap.size 27 #[.int .i64 0, .int .u8 0, .string ⟨#[]⟩, .slice none 0 0, .string ⟨#[]⟩, .bool false] := (set6_far _ _ _ _ _ _ _ _ _ (by omega)).trans HR1.out
    have hR2 : Blk w2 w.heap.size 27 #[.int .i64 0, .int .u8 0, .string ⟨#[]⟩, .slice none 0 0, .string ⟨#[]⟩, .bool false] := hR15.below hb2 (by rw [set6_size]; exact HR1.out.lt)
    clear hR15
    have hsw : w.heap.size + 2 ≤ w1.heap.size := HE1.out.lt
    have HB2 := Lib.hid ((set6_below HB1.out (Nat.le_succ _) (.int .i64 3) (.int .u8 op) (.string ⟨ro.toArray⟩) (.slice va os.length vc) (.string ⟨ex.toArray⟩) (.bool ral)).trans (hb2.mono (by rw [set6_size]; omega)))
    have HO2 : Hid (OpdOwn w2 (fun b => w.heap.size + 2 ≤ b) (.slice va2 os2.length vc2) os2) := ho2.mono (fun b hb => by rw [set6_size] at hb; omega)
    have HE2 := Lib.hid hE2
    have HR2 := Lib.hid hR2
    clear how ho2 hb2 hE2 hR2 e0 e1 e2 e3 e4 e5 z0 z1 z2 z3 z4 z5 HE1 HR1 HB1 HO1 hsw
    have e0 := HE2.out.cell 0
    have e1 := HE2.out.cell 1
    have e2 := HE2.out.cell 2
    have e3 := HE2.out.cell 3
    have e4 := HE2.out.cell 4
    have e5 := HE2.out.cell 5
    have z0 := HE2.out.free 0
    have z1 := HE2.out.free 1
    have z2 := HE2.out.free 2
    have z3 := HE2.out.free 3
    have z4 := HE2.out.free 4
    have z5 := HE2.out.free 5
    have r0 := HR2.out.cell 0
    have r1 := HR2.out.cell 1
    have r2 := HR2.out.cell 2
    have r3 := HR2.out.cell 3
    have r4 := HR2.out.cell 4
    have r5 := HR2.out.cell 5
    have y0 := HR2.out.free 0
    have y1 := HR2.out.free 1
    have y2 := HR2.out.free 2
    have y3 := HR2.out.free 3
    have y4 := HR2.out.free 4
    have y5 := HR2.out.free 5
    unfold ent0
    dsimp only
    go_wp2
    exact bodyPost_ret (results_row_tmp rfl _ _ w.heap.size 27 #[.int .i64 0, .int .u8 0, .string ⟨#[]⟩, .slice none 0 0, .string ⟨#[]⟩, .bool false] (0, 0) _ rfl (entry6 (show Blk (set6 w2 (w.heap.size + 1) (.int .i64 0) (.int .u8 0) (.string ⟨#[]⟩) (.slice none 0 0) (.string ⟨#[]⟩) (.bool false)) w.heap.size 27 #[.int .i64 0, .int .u8 0, .string ⟨#[]⟩, .slice none 0 0, .string ⟨#[]⟩, .bool false] from (set6_far _ _ _ _ _ _ _ _ _ (by omega)).trans HR2.out) _ _ _ _ _ _) Tryz.underlying27 rfl (by kernel_rfl)) rfl ⟨rfl, set6_below (set6_below HB2.out (Nat.le_succ _) (.int .i64 0) (.int .u8 0) (.string ⟨#[]⟩) (.slice none 0 0) (.string ⟨#[]⟩) (.bool false)) (Nat.le_refl _) _ _ _ _ _ _⟩
  · go_enter Tryz.func13, Tryz.ntmps13
    go_wp2_with fail
    refine (HFI.out _ HT0.out).mono ?_
    rintro e w1 ⟨v1, rfl, ho, hb⟩
    rw [HSZ.out] at ho hb
    obtain ⟨va, vc, rfl⟩ : ∃ a c, v1 = .slice a os.length c := ho.form
    have HR1 := Lib.hid (HR0.out.below hb (by omega))
    have HE1 := Lib.hid (HE0.out.below hb (by omega))
    have HB1 := Lib.hid (HB0.out.trans (hb.mono (by omega)))
    have HO1 := Lib.hid ho
    have e0 := HE1.out.cell 0
    have e1 := HE1.out.cell 1
    have e2 := HE1.out.cell 2
    have e3 := HE1.out.cell 3
    have e4 := HE1.out.cell 4
    have e5 := HE1.out.cell 5
    have z0 := HE1.out.free 0
    have z1 := HE1.out.free 1
    have z2 := HE1.out.free 2
    have z3 := HE1.out.free 3
    have z4 := HE1.out.free 4
    have z5 := HE1.out.free 5
    clear ho hb HB0 HE0 HR0 HFI
    unfold entVal
    dsimp only
    go_wp2_with fail
    have how : Own opdR (set6 w1 (w.heap.size + 1) (.int .i64 4) (.int .u8 op) (.string ⟨ro.toArray⟩) (.slice va os.length vc) (.string ⟨ex.toArray⟩) (.bool ral)) (w.heap.size + 2) 87 NoB (.slice va os.length vc) os := HO1.out.keep (fun j hj => set6_far _ _ _ _ _ _ _ _ j (by
      rcases hj with hj | hj
      · exact hj.elim
      · have := (HO1.out.lt j hj).1; omega))
    refine (HID.out (fun j => w.heap.size + 2 ≤ j) _ (set6 w1 (w.heap.size + 1) (.int .i64 4) (.int .u8 op) (.string ⟨ro.toArray⟩) (.slice va os.length vc) (.string ⟨ex.toArray⟩) (.bool ral)) (how.slR (fun _ h => h.elim) (fun _ h => h))).mono ?_
    rintro e w2 ⟨v2, rfl, ho2, hb2⟩
    obtain ⟨va2, vc2, rfl⟩ : ∃ a c, v2 = .slice a os2.length c := by obtain ⟨a, c, e, _⟩ := ho2; exact ⟨a, c, e⟩
    have hE2 : Blk w2 (w.heap.size + 1) 27 #[.int .i64 4, .int .u8 op, .string ⟨ro.toArray⟩, .slice va os.length vc, .string ⟨ex.toArray⟩, .bool ral] := (show Blk (set6 _ _ _ _ _ _ _ _) (w.heap.size + 1) 27 _ from entry6 HE1.out _ _ _ _ _ _).below hb2 (by rw [set6_size]; exact HE1.out.lt)
    have hR15 : Blk (set6 w1 (w.heap.size + 1) (.int .i64 4) (.int .u8 op) (.string ⟨ro.toArray⟩) (.slice va os.length vc) (.string ⟨ex.toArray⟩) (.bool ral)) w.heap.size 27 #[.int .i64 0, .int .u8 0, .string ⟨#[]⟩, .slice none 0 0, .string ⟨#[]⟩, .bool false] := (set6_far _ _ _ _ _ _ _ _ _ (by omega)).trans HR1.out
    have hR2 : Blk w2 w.heap.size 27 #[.int .i64 0, .int .u8 0, .string ⟨#[]⟩, .slice none 0 0, .string ⟨#[]⟩, .bool false] := hR15.below hb2 (by rw [set6_size]; exact HR1.out.lt)
    clear hR15
    have hsw : w.heap.size + 2 ≤ w1.heap.size := HE1.out.lt
    have HB2 := Lib.hid ((set6_below HB1.out (Nat.le_succ _) (.int .i64 4) (.int .u8 op) (.string ⟨ro.toArray⟩) (.slice va os.length vc) (.string ⟨ex.toArray⟩) (.bool ral)).trans (hb2.mono (by rw [set6_size]; omega)))
    have HO2 : Hid (OpdOwn w2 (fun b => w.heap.size + 2 ≤ b) (.slice va2 os2.length vc2) os2) := ho2.mono (fun b hb => by rw [set6_size] at hb; omega)
    have HE2 := Lib.hid hE2
    have HR2 := Lib.hid hR2
    clear how ho2 hb2 hE2 hR2 e0 e1 e2 e3 e4 e5 z0 z1 z2 z3 z4 z5 HE1 HR1 HB1 HO1 hsw
    have e0 := HE2.out.cell 0
    have e1 := HE2.out.cell 1
    have e2 := HE2.out.cell 2
    have e3 := HE2.out.cell 3
    have e4 := HE2.out.cell 4
    have e5 := HE2.out.cell 5
    have z0 := HE2.out.free 0
    have z1 := HE2.out.free 1
    have z2 := HE2.out.free 2
    have z3 := HE2.out.free 3
    have z4 := HE2.out.free 4
    have z5 := HE2.out.free 5
    have r0 := HR2.out.cell 0
    have r1 := HR2.out.cell 1
    have r2 := HR2.out.cell 2
    have r3 := HR2.out.cell 3
    have r4 := HR2.out.cell 4
    have r5 := HR2.out.cell 5
    have y0 := HR2.out.free 0
    have y1 := HR2.out.free 1
    have y2 := HR2.out.free 2
    have y3 := HR2.out.free 3
    have y4 := HR2.out.free 4
    have y5 := HR2.out.free 5
    unfold ent0
    dsimp only
    go_wp2
    exact bodyPost_ret (results_row_tmp rfl _ _ w.heap.size 27 #[.int .i64 0, .int .u8 0, .string ⟨#[]⟩, .slice none 0 0, .string ⟨#[]⟩, .bool false] (0, 0) _ rfl (entry6 (show Blk (set6 w2 (w.heap.size + 1) (.int .i64 0) (.int .u8 0) (.string ⟨#[]⟩) (.slice none 0 0) (.string ⟨#[]⟩) (.bool false)) w.heap.size 27 #[.int .i64 0, .int .u8 0, .string ⟨#[]⟩, .slice none 0 0, .string ⟨#[]⟩, .bool false] from (set6_far _ _ _ _ _ _ _ _ _ (by omega)).trans HR2.out) _ _ _ _ _ _) Tryz.underlying27 rfl (by kernel_rfl)) rfl ⟨rfl, set6_below (set6_below HB2.out (Nat.le_succ _) (.int .i64 0) (.int .u8 0) (.string ⟨#[]⟩) (.slice none 0 0) (.string ⟨#[]⟩) (.bool false)) (Nat.le_refl _) _ _ _ _ _ _⟩
set_option maxHeartbeats 8000000 in
set_option maxRecDepth 100000 in
theorem At_no2 (page : Int) (op : Nat) (t : List UInt8) (r : RuleV) (os : List Opd) (ex : List UInt8) (w : World) (hpg : page = 3 ∨ page = 4) (hop : op < 256) (hcb : op ≠ 203) (hl : lookF op mainL = some t) (hr : ruleF t = some r) (ha : argsF r.bits op r.args = some (os, ex)) (hok : okT t r)
    (hm : posO ⟨4, 2, 0⟩ 0 os = -1 ∨ (0 ≤ posO ⟨4, 2, 0⟩ 0 os ∧ r.op = [74, 80])) (h235 : op ≠ 235) (hxa : xany (page + 2) os = false) (hn : os.length ≤ 1000) (hup : upper ⟨r.op.toArray⟩ = ⟨r.op.toArray⟩) (his : r.op.length ≤ 1000) (hex : ex.length ≤ 1000) (hT : Spc w) :
    Calls Tryz.prog 13 #[.int .i64 page, .int .u8 op] w fun e w' => e = .returned (.tuple #[ent0, .int .i64 0]) ∧ Below w.heap.size w w' := by
  have HFI := Lib.hid (fun W hT => find_some page mainB op t r os ex W hop mainB_size hl hr ha hok hT)
  have hid := fun p v W h => indexed_loop page hpg ⟨page, op, r.op, os, ex, r.alias⟩ p v W h hm hop hn hup his hex
  dsimp only at hid
  simp only [if_neg h235, hxa] at hid
  have HID := Lib.hid hid
  have hne : ((op : Int) == 203) = false := by rw [beq_eq_false_iff_ne]; omega
  have hsz : ((w.alloc (.cells #[.int .i64 0, .int .u8 0, .string ⟨#[]⟩, .slice none 0 0, .string ⟨#[]⟩, .bool false] 27)).alloc (.cells #[.int .i64 0, .int .u8 0, .string ⟨#[]⟩, .slice none 0 0, .string ⟨#[]⟩, .bool false] 27)).heap.size = w.heap.size + 2 := by rw [World.size_alloc, World.size_alloc]
  have hR : Blk ((w.alloc (.cells #[.int .i64 0, .int .u8 0, .string ⟨#[]⟩, .slice none 0 0, .string ⟨#[]⟩, .bool false] 27)).alloc (.cells #[.int .i64 0, .int .u8 0, .string ⟨#[]⟩, .slice none 0 0, .string ⟨#[]⟩, .bool false] 27)) w.heap.size 27 #[.int .i64 0, .int .u8 0, .string ⟨#[]⟩, .slice none 0 0, .string ⟨#[]⟩, .bool false] := (Blk.new w _ _).alloc _
  have hE : Blk ((w.alloc (.cells #[.int .i64 0, .int .u8 0, .string ⟨#[]⟩, .slice none 0 0, .string ⟨#[]⟩, .bool false] 27)).alloc (.cells #[.int .i64 0, .int .u8 0, .string ⟨#[]⟩, .slice none 0 0, .string ⟨#[]⟩, .bool false] 27)) (w.heap.size + 1) 27 #[.int .i64 0, .int .u8 0, .string ⟨#[]⟩, .slice none 0 0, .string ⟨#[]⟩, .bool false] := by
    have h1 := Blk.new (w.alloc (.cells #[.int .i64 0, .int .u8 0, .string ⟨#[]⟩, .slice none 0 0, .string ⟨#[]⟩, .bool false] 27)) 27 #[.int .i64 0, .int .u8 0, .string ⟨#[]⟩, .slice none 0 0, .string ⟨#[]⟩, .bool false]
    rw [World.size_alloc] at h1
    exact h1
  have HSZ := Lib.hid hsz
  have HR0 := Lib.hid hR
  have HE0 := Lib.hid hE
  have HB0 := Lib.hid (((Below.refl w.heap.size w).alloc (Nat.le_refl _) (.cells #[.int .i64 0, .int .u8 0, .string ⟨#[]⟩, .slice none 0 0, .string ⟨#[]⟩, .bool false] 27)).alloc (by rw [World.size_alloc]; omega) (.cells #[.int .i64 0, .int .u8 0, .string ⟨#[]⟩, .slice none 0 0, .string ⟨#[]⟩, .bool false] 27))
  have HT0 := Lib.hid (hT.below HB0.out)
  clear hid hxa h235
  have HLE : Hid ((xmap (page + 2) os).length = os.length) := List.length_map _
  generalize (xmap (page + 2) os) = os2 at *
  obtain ⟨rb, ro, ra, ral⟩ := r
  dsimp only at *
  clear hl hr ha hok hT hn hm hup his hex hcb hR hE hsz hop
  rcases hpg with rfl | rfl
  · go_enter Tryz.func13, Tryz.ntmps13
    go_wp2_with fail
    refine (HFI.out _ HT0.out).mono ?_
    rintro e w1 ⟨v1, rfl, ho, hb⟩
    rw [HSZ.out] at ho hb
    obtain ⟨va, vc, rfl⟩ : ∃ a c, v1 = .slice a os.length c := ho.form
    have HR1 := Lib.hid (HR0.out.below hb (by omega))
    have HE1 := Lib.hid (HE0.out.below hb (by omega))
    have HB1 := Lib.hid (HB0.out.trans (hb.mono (by omega)))
    have HO1 := Lib.hid ho
    have e0 := HE1.out.cell 0
    have e1 := HE1.out.cell 1
    have e2 := HE1.out.cell 2
    have e3 := HE1.out.cell 3
    have e4 := HE1.out.cell 4
    have e5 := HE1.out.cell 5
    have z0 := HE1.out.free 0
    have z1 := HE1.out.free 1
    have z2 := HE1.out.free 2
    have z3 := HE1.out.free 3
    have z4 := HE1.out.free 4
    have z5 := HE1.out.free 5
    clear ho hb HB0 HE0 HR0 HFI
    unfold entVal
    dsimp only
    go_wp2_with fail
    have how : Own opdR (set6 w1 (w.heap.size + 1) (.int .i64 3) (.int .u8 op) (.string ⟨ro.toArray⟩) (.slice va os.length vc) (.string ⟨ex.toArray⟩) (.bool ral)) (w.heap.size + 2) 87 NoB (.slice va os.length vc) os := HO1.out.keep (fun j hj => set6_far _ _ _ _ _ _ _ _ j (by
      rcases hj with hj | hj
      · exact hj.elim
      · have := (HO1.out.lt j hj).1; omega))
    refine (HID.out (fun j => w.heap.size + 2 ≤ j) _ (set6 w1 (w.heap.size + 1) (.int .i64 3) (.int .u8 op) (.string ⟨ro.toArray⟩) (.slice va os.length vc) (.string ⟨ex.toArray⟩) (.bool ral)) (how.slR (fun _ h => h.elim) (fun _ h => h))).mono ?_
    rintro e w2 ⟨v2, rfl, ho2, hb2⟩
    obtain ⟨va2, vc2, rfl⟩ : ∃ a c, v2 = .slice a os2.length c := by obtain ⟨a, c, e, _⟩ := ho2; exact ⟨a, c, e⟩
    have hE2 : Blk w2 (w.heap.size + 1) 27 #[.int .i64 3, .int .u8 op, .string ⟨ro.toArray⟩, .slice va os.length vc, .string ⟨ex.toArray⟩, .bool ral] := (show Blk (set6 _ _ _ _ _ _ _ _) (w.heap.size + 1) 27 _ from entry6 HE1.out _ _ _ _ _ _).below hb2 (by rw [set6_size]; exact HE1.out.lt)
    have hR15 : Blk (set6 w1 (w.heap.size + 1) (.int .i64 3) (.int .u8 op) (.string ⟨ro.toArray⟩) (.slice va os.length vc) (.string ⟨ex.toArray⟩) (.bool ral)) w.heap.size 27 #[.int .i64 0, .int .u8 0, .string ⟨#[]⟩, .slice none 0 0, .string ⟨#[]⟩, .bool false] := (set6_far _ _ _ _ _ _ _ _ _ (by omega)).trans HR1.out
    have hR2 : Blk w2 w.heap.size 27 #[.int .i64 0, .int .u8 0, .string ⟨#[]⟩, .slice none 0 0, .string ⟨#[]⟩, .bool false] := hR15.below hb2 (by rw [set6_size]; exact HR1.out.lt)
    clear hR15
    have hsw : w.heap.size + 2 ≤ w1.heap.size := HE1.out.lt
    have HB2 := Lib.hid ((set6_below HB1.out (Nat.le_succ _) (.int .i64 3) (.int .u8 op) (.string ⟨ro.toArray⟩) (.slice va os.length vc) (.string ⟨ex.toArray⟩) (.bool ral)).trans (hb2.mono (by rw [set6_size]; omega)))
    have HO2 : Hid (OpdOwn w2 (fun b => w.heap.size + 2 ≤ b) (.slice va2 os2.length vc2) os2) := ho2.mono (fun b hb => by rw [set6_size] at hb; omega)
    have HE2 := Lib.hid hE2
    have HR2 := Lib.hid hR2
    clear how ho2 hb2 hE2 hR2 e0 e1 e2 e3 e4 e5 z0 z1 z2 z3 z4 z5 HE1 HR1 HB1 HO1 hsw
    have e0 := HE2.out.cell 0
    have e1 := HE2.out.cell 1
    have e2 := HE2.out.cell 2
    have e3 := HE2.out.cell 3
    have e4 := HE2.out.cell 4
    have e5 := HE2.out.cell 5
    have z0 := HE2.out.free 0
    have z1 := HE2.out.free 1
    have z2 := HE2.out.free 2
    have z3 := HE2.out.free 3
    have z4 := HE2.out.free 4
    have z5 := HE2.out.free 5
    have r0 := HR2.out.cell 0
    have r1 := HR2.out.cell 1
    have r2 := HR2.out.cell 2
    have r3 := HR2.out.cell 3
    have r4 := HR2.out.cell 4
    have r5 := HR2.out.cell 5
    have y0 := HR2.out.free 0
    have y1 := HR2.out.free 1
    have y2 := HR2.out.free 2
    have y3 := HR2.out.free 3
    have y4 := HR2.out.free 4
    have y5 := HR2.out.free 5
    unfold entVal
    dsimp only
    go_wp2
    exact bodyPost_ret (results_row_tmp rfl _ _ w.heap.size 27 #[.int .i64 0, .int .u8 0, .string ⟨#[]⟩, .slice none 0 0, .string ⟨#[]⟩, .bool false] (0, 0) _ rfl (entry6 (show Blk (set6 w2 (w.heap.size + 1) (.int .i64 3) (.int .u8 op) (.string ⟨ro.toArray⟩) (.slice va2 os2.length vc2) (.string ⟨ex.toArray⟩) (.bool ral)) w.heap.size 27 #[.int .i64 0, .int .u8 0, .string ⟨#[]⟩, .slice none 0 0, .string ⟨#[]⟩, .bool false] from (set6_far _ _ _ _ _ _ _ _ _ (by omega)).trans HR2.out) _ _ _ _ _ _) Tryz.underlying27 rfl (by kernel_rfl)) rfl ⟨rfl, set6_below (set6_below HB2.out (Nat.le_succ _) (.int .i64 3) (.int .u8 op) (.string ⟨ro.toArray⟩) (.slice va2 os2.length vc2) (.string ⟨ex.toArray⟩) (.bool ral)) (Nat.le_refl _) _ _ _ _ _ _⟩
  · go_enter Tryz.func13, Tryz.ntmps13
    go_wp2_with fail
    refine (HFI.out _ HT0.out).mono ?_
    rintro e w1 ⟨v1, rfl, ho, hb⟩
    rw [HSZ.out] at ho hb
    obtain ⟨va, vc, rfl⟩ : ∃ a c, v1 = .slice a os.length c := ho.form
    have HR1 := Lib.hid (HR0.out.below hb (by omega))
    have HE1 := Lib.hid (HE0.out.below hb (by omega))
    have HB1 := Lib.hid (HB0.out.trans (hb.mono (by omega)))
    have HO1 := Lib.hid ho
    have e0 := HE1.out.cell 0
    have e1 := HE1.out.cell 1
    have e2 := HE1.out.cell 2
    have e3 := HE1.out.cell 3
    have e4 := HE1.out.cell 4
    have e5 := HE1.out.cell 5
    have z0 := HE1.out.free 0
    have z1 := HE1.out.free 1
    have z2 := HE1.out.free 2
    have z3 := HE1.out.free 3
    have z4 := HE1.out.free 4
    have z5 := HE1.out.free 5
    clear ho hb HB0 HE0 HR0 HFI
    unfold entVal
    dsimp only
    go_wp2_with fail
    have how : Own opdR (set6 w1 (w.heap.size + 1) (.int .i64 4) (.int .u8 op) (.string ⟨ro.toArray⟩) (.slice va os.length vc) (.string ⟨ex.toArray⟩) (.bool ral)) (w.heap.size + 2) 87 NoB (.slice va os.length vc) os := HO1.out.keep (fun j hj => set6_far _ _ _ _ _ _ _ _ j (by
      rcases hj with hj | hj
      · exact hj.elim
      · have := (HO1.out.lt j hj).1; omega))
    refine (HID.out (fun j => w.heap.size + 2 ≤ j) _ (set6 w1 (w.heap.size + 1) (.int .i64 4) (.int .u8 op) (.string ⟨ro.toArray⟩) (.slice va os.length vc) (.string ⟨ex.toArray⟩) (.bool ral)) (how.slR (fun _ h => h.elim) (fun _ h => h))).mono ?_
    rintro e w2 ⟨v2, rfl, ho2, hb2⟩
    obtain ⟨va2, vc2, rfl⟩ : ∃ a c, v2 = .slice a os2.length c := by obtain ⟨a, c, e, _⟩ := ho2; exact ⟨a, c, e⟩
    have hE2 : Blk w2 (w.heap.size + 1) 27 #[.int .i64 4, .int .u8 op, .string ⟨ro.toArray⟩, .slice va os.length vc, .string ⟨ex.toArray⟩, .bool ral] := (show Blk (set6 _ _ _ _ _ _ _ _) (w.heap.size + 1) 27 _ from entry6 HE1.out _ _ _ _ _ _).below hb2 (by rw [set6_size]; exact HE1.out.lt)
    have hR15 : Blk (set6 w1 (w.heap.size + 1) (.int .i64 4) (.int .u8 op) (.string ⟨ro.toArray⟩) (.slice va os.length vc) (.string ⟨ex.toArray⟩) (.bool ral)) w.heap.size 27 #[.int .i64 0, .int .u8 0, .string ⟨#[]⟩, .slice none 0 0, .string ⟨#[]⟩, .bool false] := (set6_far _ _ _ _ _ _ _ _ _ (by omega)).trans HR1.out
    have hR2 : Blk w2 w.heap.size 27 #[.int .i64 0, .int .u8 0, .string ⟨#[]⟩, .slice none 0 0, .string ⟨#[]⟩, .bool false] := hR15.below hb2 (by rw [set6_size]; exact HR1.out.lt)
    clear hR15
    have hsw : w.heap.size + 2 ≤ w1.heap.size := HE1.out.lt
    have HB2 := Lib.hid ((set6_below HB1.out (Nat.le_succ _) (.int .i64 4) (.int .u8 op) (.string ⟨ro.toArray⟩) (.slice va os.length vc) (.string ⟨ex.toArray⟩) (.bool ral)).trans (hb2.mono (by rw [set6_size]; omega)))
    have HO2 : Hid (OpdOwn w2 (fun b => w.heap.size + 2 ≤ b) (.slice va2 os2.length vc2) os2) := ho2.mono (fun b hb => by rw [set6_size] at hb; omega)
    have HE2 := Lib.hid hE2
    have HR2 := Lib.hid hR2
    clear how ho2 hb2 hE2 hR2 e0 e1 e2 e3 e4 e5 z0 z1 z2 z3 z4 z5 HE1 HR1 HB1 HO1 hsw
    have e0 := HE2.out.cell 0
    have e1 := HE2.out.cell 1
    have e2 := HE2.out.cell 2
    have e3 := HE2.out.cell 3
    have e4 := HE2.out.cell 4
    have e5 := HE2.out.cell 5
    have z0 := HE2.out.free 0
    have z1 := HE2.out.free 1
    have z2 := HE2.out.free 2
    have z3 := HE2.out.free 3
    have z4 := HE2.out.free 4
    have z5 := HE2.out.free 5
    have r0 := HR2.out.cell 0
    have r1 := HR2.out.cell 1
    have r2 := HR2.out.cell 2
    have r3 := HR2.out.cell 3
    have r4 := HR2.out.cell 4
    have r5 := HR2.out.cell 5
    have y0 := HR2.out.free 0
    have y1 := HR2.out.free 1
    have y2 := HR2.out.free 2
    have y3 := HR2.out.free 3
    have y4 := HR2.out.free 4
    have y5 := HR2.out.free 5
    unfold entVal
    dsimp only
    go_wp2
    exact bodyPost_ret (results_row_tmp rfl _ _ w.heap.size 27 #[.int .i64 0, .int .u8 0, .string ⟨#[]⟩, .slice none 0 0, .string ⟨#[]⟩, .bool false] (0, 0) _ rfl (entry6 (show Blk (set6 w2 (w.heap.size + 1) (.int .i64 4) (.int .u8 op) (.string ⟨ro.toArray⟩) (.slice va2 os2.length vc2) (.string ⟨ex.toArray⟩) (.bool ral)) w.heap.size 27 #[.int .i64 0, .int .u8 0, .string ⟨#[]⟩, .slice none 0 0, .string ⟨#[]⟩, .bool false] from (set6_far _ _ _ _ _ _ _ _ _ (by omega)).trans HR2.out) _ _ _ _ _ _) Tryz.underlying27 rfl (by kernel_rfl)) rfl ⟨rfl, set6_below (set6_below HB2.out (Nat.le_succ _) (.int .i64 4) (.int .u8 op) (.string ⟨ro.toArray⟩) (.slice va2 os2.length vc2) (.string ⟨ex.toArray⟩) (.bool ral)) (Nat.le_refl _) _ _ _ _ _ _⟩
end Go.Proofs.YtlepicdjnbbndaaGreatDoor

/-
  table.At, whole. Conditions: the library's table as its initialiser lays it.
-/
namespace Go.Proofs.YtlepicdjnbbndaaGreatDoor
open Go.RowKit Go.Shelf Go.Sort

def chkF (L : List (List UInt8)) (op : Nat) : Bool :=
  match lookF op L with
  | none => true
  | some t => match ruleF t with
    | none => false
    | some r => match argsF r.bits op r.args with
      | none => false
      | some (os, ex) => decide (t.length ≤ 1000) && (t.all (fun b => decide (b.toNat < 128)) && (decide (r.bits.length ≤ 8) && (r.args.all (fun a => decide (a.length ≤ 1000)) && (decide (r.args.length ≤ 8) && (decide (os.length ≤ 100) && (((upper ⟨r.op.toArray⟩).data.toList == r.op) && (decide (r.op.length ≤ 1000) && decide (ex.length ≤ 1000))))))))
structure Fnd (L : List (List UInt8)) (op : Nat) (t : List UInt8) (r : RuleV) (os : List Opd) (ex : List UInt8) : Prop where
  hl : lookF op L = some t
  hr : ruleF t = some r
  ha : argsF r.bits op r.args = some (os, ex)
  ok : okT t r
  hn : os.length ≤ 100
  hup : upper ⟨r.op.toArray⟩ = ⟨r.op.toArray⟩
  his : r.op.length ≤ 1000
  hex : ex.length ≤ 1000
theorem chk_spec {L : List (List UInt8)} {op : Nat} (h : chkF L op = true) : lookF op L = none ∨ ∃ t r os ex, Fnd L op t r os ex := by
  unfold chkF at h
  split at h
  · rename_i hl
    exact .inl hl
  · rename_i t hl
    split at h
    · cases h
    · rename_i r hr
      split at h
      · cases h
      · rename_i os ex ha
        simp only [Bool.and_eq_true, decide_eq_true_eq, List.all_eq_true, beq_iff_eq] at h
        obtain ⟨h1, h2, h3, h4, h5, h6, h7, h8, h9⟩ := h
        exact .inr ⟨t, r, os, ex, hl, hr, ha, ⟨h1, h2, h3, h4, h5⟩, h6, by apply ByteArray.ext; apply Array.ext'; rw [h7], h8, h9⟩
theorem chk_main : ∀ x : Fin 256, chkF mainL x.val = true := by decide +kernel
theorem chk_cb : ∀ x : Fin 256, chkF (splitC cbB.data.toList) x.val = true := by decide +kernel
theorem chk_ed : ∀ x : Fin 256, chkF (splitC edB.data.toList) x.val = true := by decide +kernel
/-- what table.At hands back -/
def AtP (w : World) (x : Option EntV) (k : Int) (e : Ending) (w' : World) : Prop :=
  (match x with | some x => ∃ v, e = .returned (.tuple #[entVal x v, .int .i64 k]) ∧ OpdOwn w' (fun b => w.heap.size ≤ b) v x.args | none => e = .returned (.tuple #[ent0, .int .i64 k])) ∧ Below w.heap.size w w'
/-- an entry of Main for an index register -/
def ixF (page : Int) (x : EntV) : Option EntV :=
  if 0 ≤ posO ⟨4, 2, 0⟩ 0 x.args ∧ x.iop ≠ [74, 80] then some ⟨page, x.op, x.iop, x.args.set (posO ⟨4, 2, 0⟩ 0 x.args).toNat ⟨5, page + 2, 0⟩, 100 :: x.ex, x.al⟩
  else if x.op = 235 ∨ xany (page + 2) x.args = false then none else some ⟨page, x.op, x.iop, xmap (page + 2) x.args, x.ex, x.al⟩
def atF (page : Int) (op : Nat) : Option EntV × Int :=
  if page = 0 then (match findF 0 mainL op with | some x => (some x, 1) | none => (none, 2))
  else if page = 1 then (match findF 1 (splitC cbB.data.toList) op with | some x => (some x, 1) | none => (none, 0))
  else if page = 2 then (match findF 2 (splitC edB.data.toList) op with | some x => (some x, 1) | none => (none, 3))
  else if page = 3 ∨ page = 4 then (if op = 203 then (none, 2) else match (findF page mainL op).bind (ixF page) with | some x => (some x, 1) | none => (none, 0))
  else if page = 5 ∨ page = 6 then (match findF page (splitC cbB.data.toList) (op / 8 * 8 + 6) with | some x => (some (bothF page op ⟨[], x.iop, [], x.al⟩ x.args), 1) | none => (none, 0))
  else (none, 0)
theorem Fnd.find {L : List (List UInt8)} {op : Nat} {t : List UInt8} {r : RuleV} {os : List Opd} {ex : List UInt8} (h : Fnd L op t r os ex) (pg : Int) : findF pg L op = some ⟨pg, op, r.op, os, ex, r.alias⟩ := by
  unfold findF; rw [h.hl, Option.bind_some, h.hr, Option.bind_some, h.ha]; rfl
theorem findF_none {L : List (List UInt8)} {op : Nat} (h : lookF op L = none) (pg : Int) : findF pg L op = none := by unfold findF; rw [h]; rfl
theorem chk_both : ∀ x : Fin 256, (match findF 5 (splitC cbB.data.toList) (x.val / 8 * 8 + 6) with | some y => decide (0 < y.args.length) | none => false) = true := by decide +kernel
theorem both_found {op : Nat} (hop : op < 256) : ∃ t r os ex, Fnd (splitC cbB.data.toList) (op / 8 * 8 + 6) t r os ex ∧ 0 < os.length := by
  have h5 := chk_both ⟨op, hop⟩
  dsimp only at h5
  rcases chk_spec (chk_cb ⟨op / 8 * 8 + 6, by omega⟩) with h | ⟨t, r, os, ex, h⟩
  · rw [findF_none h] at h5
    cases h5
  · rw [h.find] at h5
    exact ⟨t, r, os, ex, h, of_decide_eq_true h5⟩
theorem posO_neg {x : Opd} : ∀ {l : List Opd} {j : Nat}, posO x j l = -1 ∨ (j : Int) ≤ posO x j l
  | [], _ => .inl rfl
  | y :: r, j => by
    rw [posO]
    split
    · exact .inr (Int.le_refl _)
    · rcases posO_neg (x := x) (l := r) (j := j + 1) with h | h
      · exact .inl h
      · exact .inr (by omega)
theorem At_any0 (op : Nat) (hop : op < 256) (w : World) (hT : Spc w) : Calls Tryz.prog 13 #[.int .i64 0, .int .u8 op] w (AtP w (atF 0 op).1 (atF 0 op).2) := by
  rcases chk_spec (chk_main ⟨op, hop⟩) with h | ⟨t, r, os, ex, h⟩
  · have e : atF 0 op = (none, 2) := by unfold atF; rw [if_pos rfl, findF_none h]
    rw [e]
    exact (At_none0 op w hop h).mono fun e w' ⟨h1, h2⟩ => ⟨h1, h2⟩
  · have e : atF 0 op = (some ⟨0, op, r.op, os, ex, r.alias⟩, 1) := by unfold atF; rw [if_pos rfl, h.find]
    rw [e]
    exact (At_some0 op t r os ex w hop h.hl h.hr h.ha h.ok hT).mono fun e w' ⟨v, h1, h2, h3⟩ => ⟨⟨v, h1, h2.opdOwn (fun j hj => (h2.lt j hj).1)⟩, h3⟩
theorem At_any1 (op : Nat) (hop : op < 256) (w : World) (hT : Spc w) : Calls Tryz.prog 13 #[.int .i64 1, .int .u8 op] w (AtP w (atF 1 op).1 (atF 1 op).2) := by
  rcases chk_spec (chk_cb ⟨op, hop⟩) with h | ⟨t, r, os, ex, h⟩
  · have e : atF 1 op = (none, 0) := by unfold atF; rw [if_neg (by decide)]; rw [if_pos rfl, findF_none h]
    rw [e]
    exact (At_none1 op w hop h).mono fun e w' ⟨h1, h2⟩ => ⟨h1, h2⟩
  · have e : atF 1 op = (some ⟨1, op, r.op, os, ex, r.alias⟩, 1) := by unfold atF; rw [if_neg (by decide)]; rw [if_pos rfl, h.find]
    rw [e]
    exact (At_some1 op t r os ex w hop h.hl h.hr h.ha h.ok hT).mono fun e w' ⟨v, h1, h2, h3⟩ => ⟨⟨v, h1, h2.opdOwn (fun j hj => (h2.lt j hj).1)⟩, h3⟩
theorem At_any2 (op : Nat) (hop : op < 256) (w : World) (hT : Spc w) : Calls Tryz.prog 13 #[.int .i64 2, .int .u8 op] w (AtP w (atF 2 op).1 (atF 2 op).2) := by
  rcases chk_spec (chk_ed ⟨op, hop⟩) with h | ⟨t, r, os, ex, h⟩
  · have e : atF 2 op = (none, 3) := by unfold atF; rw [if_neg (by decide)]; rw [if_neg (by decide)]; rw [if_pos rfl, findF_none h]
    rw [e]
    exact (At_none2 op w hop h).mono fun e w' ⟨h1, h2⟩ => ⟨h1, h2⟩
  · have e : atF 2 op = (some ⟨2, op, r.op, os, ex, r.alias⟩, 1) := by unfold atF; rw [if_neg (by decide)]; rw [if_neg (by decide)]; rw [if_pos rfl, h.find]
    rw [e]
    exact (At_some2 op t r os ex w hop h.hl h.hr h.ha h.ok hT).mono fun e w' ⟨v, h1, h2, h3⟩ => ⟨⟨v, h1, h2.opdOwn (fun j hj => (h2.lt j hj).1)⟩, h3⟩
theorem At_any3 (op : Nat) (hop : op < 256) (w : World) (hT : Spc w) : Calls Tryz.prog 13 #[.int .i64 3, .int .u8 op] w (AtP w (atF 3 op).1 (atF 3 op).2) := by
  have e : atF 3 op = (if op = 203 then ((none, (2 : Int)) : Option EntV × Int) else match (findF 3 mainL op).bind (ixF 3) with | some x => (some x, (1 : Int)) | none => (none, (0 : Int))) := by
    unfold atF; rw [if_neg (by decide), if_neg (by decide), if_neg (by decide), if_pos (by decide)]
  rw [e]
  by_cases hcb : op = 203
  · rw [if_pos hcb]
    subst hcb
    exact (At_cb3 w).mono fun e w' ⟨h1, h2⟩ => ⟨h1, h2⟩
  rw [if_neg hcb]
  rcases chk_spec (chk_main ⟨op, hop⟩) with h | ⟨t, r, os, ex, h⟩
  · rw [findF_none h, Option.bind_none]
    exact (At_none3 op w hop hcb h).mono fun e w' ⟨h1, h2⟩ => ⟨h1, h2⟩
  rw [h.find, Option.bind_some]
  unfold ixF
  dsimp only
  by_cases hm : 0 ≤ posO ⟨4, 2, 0⟩ 0 os ∧ r.op ≠ [74, 80]
  · rw [if_pos hm]
    exact (At_mem 3 op t r os ex (posO ⟨4, 2, 0⟩ 0 os).toNat w (.inl rfl) hop hcb h.hl h.hr h.ha h.ok (by omega) (by have := h.hn; omega) hm.2 h.hup h.his h.hex hT).mono fun e w' ⟨v, h1, h2, h3⟩ => ⟨⟨v, h1, h2⟩, h3⟩
  rw [if_neg hm]
  have hm' : posO ⟨4, 2, 0⟩ 0 os = -1 ∨ (0 ≤ posO ⟨4, 2, 0⟩ 0 os ∧ r.op = [74, 80]) := by
    rcases posO_neg (x := ⟨4, 2, 0⟩) (l := os) (j := 0) with hp | hp
    · exact .inl hp
    · exact .inr ⟨hp, Decidable.byContradiction fun hj => hm ⟨hp, hj⟩⟩
  by_cases h235 : op = 235
  · rw [if_pos (.inl h235)]
    exact (At_no1 3 op t r os ex w (.inl rfl) hop h.hl h.hr h.ha h.ok hm' h235 (by have := h.hn; omega) h.hup h.his h.hex hT).mono fun e w' ⟨h1, h2⟩ => ⟨h1, h2⟩
  by_cases hxa : xany (3 + 2) os = false
  · rw [if_pos (.inr hxa)]
    exact (At_no2 3 op t r os ex w (.inl rfl) hop hcb h.hl h.hr h.ha h.ok hm' h235 hxa (by have := h.hn; omega) h.hup h.his h.hex hT).mono fun e w' ⟨h1, h2⟩ => ⟨h1, h2⟩
  rw [if_neg (fun e => e.elim h235 hxa)]
  exact (At_yes 3 op t r os ex w (.inl rfl) hop hcb h.hl h.hr h.ha h.ok hm' h235 (by simpa using hxa) (by have := h.hn; omega) h.hup h.his h.hex hT).mono fun e w' ⟨v, h1, h2, h3⟩ => ⟨⟨v, h1, h2⟩, h3⟩
theorem At_any4 (op : Nat) (hop : op < 256) (w : World) (hT : Spc w) : Calls Tryz.prog 13 #[.int .i64 4, .int .u8 op] w (AtP w (atF 4 op).1 (atF 4 op).2) := by
  have e : atF 4 op = (if op = 203 then ((none, (2 : Int)) : Option EntV × Int) else match (findF 4 mainL op).bind (ixF 4) with | some x => (some x, (1 : Int)) | none => (none, (0 : Int))) := by
    unfold atF; rw [if_neg (by decide), if_neg (by decide), if_neg (by decide), if_pos (by decide)]
  rw [e]
  by_cases hcb : op = 203
  · rw [if_pos hcb]
    subst hcb
    exact (At_cb4 w).mono fun e w' ⟨h1, h2⟩ => ⟨h1, h2⟩
  rw [if_neg hcb]
  rcases chk_spec (chk_main ⟨op, hop⟩) with h | ⟨t, r, os, ex, h⟩
  · rw [findF_none h, Option.bind_none]
    exact (At_none4 op w hop hcb h).mono fun e w' ⟨h1, h2⟩ => ⟨h1, h2⟩
  rw [h.find, Option.bind_some]
  unfold ixF
  dsimp only
  by_cases hm : 0 ≤ posO ⟨4, 2, 0⟩ 0 os ∧ r.op ≠ [74, 80]
  · rw [if_pos hm]
    exact (At_mem 4 op t r os ex (posO ⟨4, 2, 0⟩ 0 os).toNat w (.inr rfl) hop hcb h.hl h.hr h.ha h.ok (by omega) (by have := h.hn; omega) hm.2 h.hup h.his h.hex hT).mono fun e w' ⟨v, h1, h2, h3⟩ => ⟨⟨v, h1, h2⟩, h3⟩
  rw [if_neg hm]
  have hm' : posO ⟨4, 2, 0⟩ 0 os = -1 ∨ (0 ≤ posO ⟨4, 2, 0⟩ 0 os ∧ r.op = [74, 80]) := by
    rcases posO_neg (x := ⟨4, 2, 0⟩) (l := os) (j := 0) with hp | hp
    · exact .inl hp
    · exact .inr ⟨hp, Decidable.byContradiction fun hj => hm ⟨hp, hj⟩⟩
  by_cases h235 : op = 235
  · rw [if_pos (.inl h235)]
    exact (At_no1 4 op t r os ex w (.inr rfl) hop h.hl h.hr h.ha h.ok hm' h235 (by have := h.hn; omega) h.hup h.his h.hex hT).mono fun e w' ⟨h1, h2⟩ => ⟨h1, h2⟩
  by_cases hxa : xany (4 + 2) os = false
  · rw [if_pos (.inr hxa)]
    exact (At_no2 4 op t r os ex w (.inr rfl) hop hcb h.hl h.hr h.ha h.ok hm' h235 hxa (by have := h.hn; omega) h.hup h.his h.hex hT).mono fun e w' ⟨h1, h2⟩ => ⟨h1, h2⟩
  rw [if_neg (fun e => e.elim h235 hxa)]
  exact (At_yes 4 op t r os ex w (.inr rfl) hop hcb h.hl h.hr h.ha h.ok hm' h235 (by simpa using hxa) (by have := h.hn; omega) h.hup h.his h.hex hT).mono fun e w' ⟨v, h1, h2, h3⟩ => ⟨⟨v, h1, h2⟩, h3⟩
theorem At_any5 (op : Nat) (hop : op < 256) (w : World) (hT : Spc w) : Calls Tryz.prog 13 #[.int .i64 5, .int .u8 op] w (AtP w (atF 5 op).1 (atF 5 op).2) := by
  obtain ⟨t, r, os, ex, h, hos⟩ := both_found hop
  have e : atF 5 op = (some (bothF 5 op r os), 1) := by
    unfold atF; rw [if_neg (by decide), if_neg (by decide), if_neg (by decide), if_neg (by decide), if_pos (by decide), h.find]; rfl
  rw [e]
  exact (At_both5 op t r os ex w hop h.hl h.hr h.ha h.ok hos h.hn hT).mono fun e w' ⟨v, h1, h2, h3⟩ => ⟨⟨v, h1, h2.opdOwn (fun j hj => (h2.lt j hj).1)⟩, h3⟩
theorem At_any6 (op : Nat) (hop : op < 256) (w : World) (hT : Spc w) : Calls Tryz.prog 13 #[.int .i64 6, .int .u8 op] w (AtP w (atF 6 op).1 (atF 6 op).2) := by
  obtain ⟨t, r, os, ex, h, hos⟩ := both_found hop
  have e : atF 6 op = (some (bothF 6 op r os), 1) := by
    unfold atF; rw [if_neg (by decide), if_neg (by decide), if_neg (by decide), if_neg (by decide), if_pos (by decide), h.find]; rfl
  rw [e]
  exact (At_both6 op t r os ex w hop h.hl h.hr h.ha h.ok hos h.hn hT).mono fun e w' ⟨v, h1, h2, h3⟩ => ⟨⟨v, h1, h2.opdOwn (fun j hj => (h2.lt j hj).1)⟩, h3⟩
theorem At_any (page : Int) (op : Nat) (hop : op < 256) (w : World) (hT : Spc w) : Calls Tryz.prog 13 #[.int .i64 page, .int .u8 op] w (AtP w (atF page op).1 (atF page op).2) := by
  by_cases h0 : page = 0
  · subst h0; exact At_any0 op hop w hT
  by_cases h1 : page = 1
  · subst h1; exact At_any1 op hop w hT
  by_cases h2 : page = 2
  · subst h2; exact At_any2 op hop w hT
  by_cases h3 : page = 3
  · subst h3; exact At_any3 op hop w hT
  by_cases h4 : page = 4
  · subst h4; exact At_any4 op hop w hT
  by_cases h5 : page = 5
  · subst h5; exact At_any5 op hop w hT
  by_cases h6 : page = 6
  · subst h6; exact At_any6 op hop w hT
  have e : atF page op = (none, 0) := by
    unfold atF; rw [if_neg h0, if_neg h1, if_neg h2, if_neg (fun e => e.elim h3 h4), if_neg (fun e => e.elim h5 h6)]
  rw [e]
  exact (At_out page op (by omega) w).mono fun e w' ⟨h1, h2⟩ => ⟨h1, h2⟩
end Go.Proofs.YtlepicdjnbbndaaGreatDoor

/-
  The kinds that table.At hands back. Conditions: none.
-/
namespace Go.Proofs.YtlepicdjnbbndaaGreatDoor
open Go.RowKit Go.Shelf Go.Sort

/-- an entry comes with the kind 1, no entry with another -/
def atKind (r : Option EntV × Int) : Prop := (∀ x, r.1 = some x → r.2 = 1) ∧ (r.1 = none → r.2 = 0 ∨ r.2 = 2 ∨ r.2 = 3)
theorem atKind_some (x : EntV) : atKind (some x, 1) := ⟨fun _ _ => rfl, fun h => by cases h⟩
theorem atKind_none {k : Int} (h : k = 0 ∨ k = 2 ∨ k = 3) : atKind (none, k) := ⟨fun _ h => (by cases h), fun _ => h⟩
theorem atKind_match (o : Option EntV) {k : Int} (h : k = 0 ∨ k = 2 ∨ k = 3) : atKind (match o with | some x => (some x, 1) | none => (none, k)) := by
  cases o with
  | none => exact atKind_none h
  | some x => exact atKind_some x
theorem atF_kind (p : Int) (op : Nat) : atKind (atF p op) := by
  unfold atF
  by_cases h0 : p = 0
  · rw [if_pos h0]; exact atKind_match _ (by decide)
  rw [if_neg h0]
  by_cases h1 : p = 1
  · rw [if_pos h1]; exact atKind_match _ (by decide)
  rw [if_neg h1]
  by_cases h2 : p = 2
  · rw [if_pos h2]; exact atKind_match _ (by decide)
  rw [if_neg h2]
  by_cases h3 : p = 3 ∨ p = 4
  · rw [if_pos h3]
    by_cases hc : op = 203
    · rw [if_pos hc]; exact atKind_none (by decide)
    · rw [if_neg hc]; exact atKind_match _ (by decide)
  rw [if_neg h3]
  by_cases h5 : p = 5 ∨ p = 6
  · rw [if_pos h5]
    cases findF p (splitC cbB.data.toList) (op / 8 * 8 + 6) with
    | none => exact atKind_none (by decide)
    | some x => exact atKind_some _
  rw [if_neg h5]
  exact atKind_none (by decide)
end Go.Proofs.YtlepicdjnbbndaaGreatDoor
