/-
  The builder's methods; arg at each letter. Conditions: sizes.
-/
import Derived.Test.YtlepicdjnbbndaaGreatDoorTA
/-
  The methods of table.builder. Conditions: sizes; the library's table as its initialiser lays it.
-/
namespace Go.Proofs.YtlepicdjnbbndaaGreatDoor
open Go.RowKit Go.Shelf

theorem fieldF_lt (c : UInt8) (op : Nat) : ∀ (l : List UInt8) (i acc : Nat), acc < 2 ^ i → fieldF c op i acc l < 2 ^ (i + l.length)
  | [], i, acc, h => h
  | x :: r, i, acc, h => by
    have h2 : op / 2 ^ (7 - i) % 2 < 2 := Nat.mod_lt _ (by omega)
    have h3 : 2 ^ (i + 1) = 2 * 2 ^ i := by rw [Nat.pow_succ, Nat.mul_comm]
    rw [fieldF, List.length_cons, show i + (r.length + 1) = i + 1 + r.length by omega]
    refine fieldF_lt c op r (i + 1) _ ?_
    split <;> omega
theorem field_256 (x : BdrV) (hx : x.ok) (c : UInt8) : fieldF c x.op 0 0 x.bits.data.toList < 256 := by
  have h := fieldF_lt c x.op x.bits.data.toList 0 0 (by decide)
  have h2 : x.bits.data.toList.length ≤ 8 := by have := hx.bits; simpa using this
  have h3 : 2 ^ (0 + x.bits.data.toList.length) ≤ 2 ^ 8 := Nat.pow_le_pow_right (by omega) (by omega)
  omega
def listR : List UInt8 := [66, 32, 67, 32, 68, 32, 69, 32, 72, 32, 76, 32, 40, 72, 76, 41, 32, 65]
def listP : List UInt8 := [66, 67, 32, 68, 69, 32, 72, 76, 32, 83, 80]
def listQ : List UInt8 := [66, 67, 32, 68, 69, 32, 72, 76, 32, 65, 70]
set_option maxHeartbeats 2000000 in
set_option maxRecDepth 100000 in
theorem register_any (bp : Nat) (x : BdrV) (c : UInt8) (y : List UInt8) (o : Opd) (w : World) (h : BK w bp x) (hx : x.ok) (hy : (Lib.fields listR)[fieldF c x.op 0 0 x.bits.data.toList]? = some y) (ho : wordF y = some o) (hyl : y.length ≤ 1000) (hT : Spc w) :
    Calls Tryz.prog 139 #[.pointer (some ⟨bp, 0, none⟩), .int .u8 c.toNat] w fun e w' => e = .returned o.val ∧ Below w.heap.size w w' := by
  have hal := (Below.refl w.heap.size w).alloc (Nat.le_refl _) (.cells #[.int .i64 0, .int .i64 0, .int .i64 0] 87)
  have HF := Lib.hid (Blk.new w 87 #[.int .i64 0, .int .i64 0, .int .i64 0])
  have HB := Lib.hid hal
  have HN := Lib.hid (number_any' bp x c _ (h.below hal h.lt) hx)
  have hasc : ∀ b ∈ listR, b.toNat < 128 := by decide
  have HD := Lib.hid (fun W hT => named_any' ⟨listR.toArray⟩ _ y o W hy ho hyl (by decide) (fun j b hb => hasc b (List.mem_of_getElem? hb)) hT)
  have HT := Lib.hid hT
  unfold listR at HD
  clear h hx hy ho hyl hT hal hasc
  generalize fieldF c x.op 0 0 x.bits.data.toList = n at *
  obtain ⟨ok, orr, on⟩ := o
  go_enter Tryz.func139, Tryz.ntmps139
  go_wp2_with (first
    | (go_at_call 175; refine HN.out.mono ?_; rintro e w1 ⟨rfl, hb⟩; have HF1 := Lib.hid (HF.out.below hb HF.out.lt); have HB1 := Lib.hid (HB.out.trans (hb.mono HB.out.size)); obtain ⟨z0, z1, z2, y0, y1, y2⟩ := HF1.out.three; clear hb)
    | (go_at_call 174; refine (HD.out _ (HT.out.below HB1.out)).mono ?_; rintro e w2 ⟨rfl, hb⟩; unfold Opd.val; have HF2 := Lib.hid (HF1.out.below hb HF1.out.lt); have HB2 := Lib.hid (HB1.out.trans (hb.mono HB1.out.size)); clear z0 z1 z2 y0 y1 y2; obtain ⟨z0, z1, z2, y0, y1, y2⟩ := HF2.out.three; clear hb))
  refine bodyPost_ret (results_row1 rfl _ _ w.heap.size 87 #[.int .i64 ok, .int .i64 orr, .int .i64 on] (0, 0) _ rfl (show Blk _ w.heap.size 87 #[.int .i64 ok, .int .i64 orr, .int .i64 on] from ((HF2.out.set 0 _).set 1 _).set 2 _) Tryz.underlying87 rfl (by kernel_rfl)) rfl ⟨rfl, ?_⟩
  exact ((HB2.out.setCell (Nat.le_refl _) _).setCell (Nat.le_refl _) _).setCell (Nat.le_refl _) _
set_option maxHeartbeats 2000000 in
set_option maxRecDepth 100000 in
theorem pair_any (bp : Nat) (x : BdrV) (c : UInt8) (y : List UInt8) (o : Opd) (w : World) (h : BK w bp x) (hx : x.ok) (hy : (Lib.fields listP)[fieldF c x.op 0 0 x.bits.data.toList]? = some y) (ho : wordF y = some o) (hyl : y.length ≤ 1000) (hT : Spc w) :
    Calls Tryz.prog 140 #[.pointer (some ⟨bp, 0, none⟩), .int .u8 c.toNat] w fun e w' => e = .returned o.val ∧ Below w.heap.size w w' := by
  have hal := (Below.refl w.heap.size w).alloc (Nat.le_refl _) (.cells #[.int .i64 0, .int .i64 0, .int .i64 0] 87)
  have HF := Lib.hid (Blk.new w 87 #[.int .i64 0, .int .i64 0, .int .i64 0])
  have HB := Lib.hid hal
  have HN := Lib.hid (number_any' bp x c _ (h.below hal h.lt) hx)
  have hasc : ∀ b ∈ listP, b.toNat < 128 := by decide
  have HD := Lib.hid (fun W hT => named_any' ⟨listP.toArray⟩ _ y o W hy ho hyl (by decide) (fun j b hb => hasc b (List.mem_of_getElem? hb)) hT)
  have HT := Lib.hid hT
  unfold listP at HD
  clear h hx hy ho hyl hT hal hasc
  generalize fieldF c x.op 0 0 x.bits.data.toList = n at *
  obtain ⟨ok, orr, on⟩ := o
  go_enter Tryz.func140, Tryz.ntmps140
  go_wp2_with (first
    | (go_at_call 175; refine HN.out.mono ?_; rintro e w1 ⟨rfl, hb⟩; have HF1 := Lib.hid (HF.out.below hb HF.out.lt); have HB1 := Lib.hid (HB.out.trans (hb.mono HB.out.size)); obtain ⟨z0, z1, z2, y0, y1, y2⟩ := HF1.out.three; clear hb)
    | (go_at_call 174; refine (HD.out _ (HT.out.below HB1.out)).mono ?_; rintro e w2 ⟨rfl, hb⟩; unfold Opd.val; have HF2 := Lib.hid (HF1.out.below hb HF1.out.lt); have HB2 := Lib.hid (HB1.out.trans (hb.mono HB1.out.size)); clear z0 z1 z2 y0 y1 y2; obtain ⟨z0, z1, z2, y0, y1, y2⟩ := HF2.out.three; clear hb))
  refine bodyPost_ret (results_row1 rfl _ _ w.heap.size 87 #[.int .i64 ok, .int .i64 orr, .int .i64 on] (0, 0) _ rfl (show Blk _ w.heap.size 87 #[.int .i64 ok, .int .i64 orr, .int .i64 on] from ((HF2.out.set 0 _).set 1 _).set 2 _) Tryz.underlying87 rfl (by kernel_rfl)) rfl ⟨rfl, ?_⟩
  exact ((HB2.out.setCell (Nat.le_refl _) _).setCell (Nat.le_refl _) _).setCell (Nat.le_refl _) _
set_option maxHeartbeats 2000000 in
set_option maxRecDepth 100000 in
theorem stack_any (bp : Nat) (x : BdrV) (c : UInt8) (y : List UInt8) (o : Opd) (w : World) (h : BK w bp x) (hx : x.ok) (hy : (Lib.fields listQ)[fieldF c x.op 0 0 x.bits.data.toList]? = some y) (ho : wordF y = some o) (hyl : y.length ≤ 1000) (hT : Spc w) :
    Calls Tryz.prog 141 #[.pointer (some ⟨bp, 0, none⟩), .int .u8 c.toNat] w fun e w' => e = .returned o.val ∧ Below w.heap.size w w' := by
  have hal := (Below.refl w.heap.size w).alloc (Nat.le_refl _) (.cells #[.int .i64 0, .int .i64 0, .int .i64 0] 87)
  have HF := Lib.hid (Blk.new w 87 #[.int .i64 0, .int .i64 0, .int .i64 0])
  have HB := Lib.hid hal
  have HN := Lib.hid (number_any' bp x c _ (h.below hal h.lt) hx)
  have hasc : ∀ b ∈ listQ, b.toNat < 128 := by decide
  have HD := Lib.hid (fun W hT => named_any' ⟨listQ.toArray⟩ _ y o W hy ho hyl (by decide) (fun j b hb => hasc b (List.mem_of_getElem? hb)) hT)
  have HT := Lib.hid hT
  unfold listQ at HD
  clear h hx hy ho hyl hT hal hasc
  generalize fieldF c x.op 0 0 x.bits.data.toList = n at *
  obtain ⟨ok, orr, on⟩ := o
  go_enter Tryz.func141, Tryz.ntmps141
  go_wp2_with (first
    | (go_at_call 175; refine HN.out.mono ?_; rintro e w1 ⟨rfl, hb⟩; have HF1 := Lib.hid (HF.out.below hb HF.out.lt); have HB1 := Lib.hid (HB.out.trans (hb.mono HB.out.size)); obtain ⟨z0, z1, z2, y0, y1, y2⟩ := HF1.out.three; clear hb)
    | (go_at_call 174; refine (HD.out _ (HT.out.below HB1.out)).mono ?_; rintro e w2 ⟨rfl, hb⟩; unfold Opd.val; have HF2 := Lib.hid (HF1.out.below hb HF1.out.lt); have HB2 := Lib.hid (HB1.out.trans (hb.mono HB1.out.size)); clear z0 z1 z2 y0 y1 y2; obtain ⟨z0, z1, z2, y0, y1, y2⟩ := HF2.out.three; clear hb))
  refine bodyPost_ret (results_row1 rfl _ _ w.heap.size 87 #[.int .i64 ok, .int .i64 orr, .int .i64 on] (0, 0) _ rfl (show Blk _ w.heap.size 87 #[.int .i64 ok, .int .i64 orr, .int .i64 on] from ((HF2.out.set 0 _).set 1 _).set 2 _) Tryz.underlying87 rfl (by kernel_rfl)) rfl ⟨rfl, ?_⟩
  exact ((HB2.out.setCell (Nat.le_refl _) _).setCell (Nat.le_refl _) _).setCell (Nat.le_refl _) _
set_option maxHeartbeats 2000000 in
set_option maxRecDepth 100000 in
theorem condition_any (bp : Nat) (x : BdrV) (c : UInt8) (w : World) (h : BK w bp x) (hx : x.ok) :
    Calls Tryz.prog 142 #[.pointer (some ⟨bp, 0, none⟩), .int .u8 c.toNat] w fun e w' => e = .returned (Opd.val ⟨8, (fieldF c x.op 0 0 x.bits.data.toList : Nat), 0⟩) ∧ Below w.heap.size w w' := by
  have hal := (Below.refl w.heap.size w).alloc (Nat.le_refl _) (.cells #[.int .i64 0, .int .i64 0, .int .i64 0] 87)
  have HF := Lib.hid (Blk.new w 87 #[.int .i64 0, .int .i64 0, .int .i64 0])
  have HB := Lib.hid hal
  have HN := Lib.hid (number_any' bp x c _ (h.below hal h.lt) hx)
  have hlt := field_256 x hx c
  generalize fieldF c x.op 0 0 x.bits.data.toList = n at *
  have hn1 : (n : Int) ≤ 255 := by omega
  clear h hx hal hlt
  go_enter Tryz.func142, Tryz.ntmps142
  go_wp2_with (go_at_call 175; refine HN.out.mono ?_; rintro e w1 ⟨rfl, hb⟩; have HF1 := Lib.hid (HF.out.below hb HF.out.lt); have HB1 := Lib.hid (HB.out.trans (hb.mono HB.out.size)); obtain ⟨z0, z1, z2, y0, y1, y2⟩ := HF1.out.three; clear hb)
  refine bodyPost_ret (results_row1 rfl _ _ w.heap.size 87 #[.int .i64 8, .int .i64 (n : Int), .int .i64 0] (0, 0) _ rfl (show Blk _ w.heap.size 87 #[.int .i64 8, .int .i64 (n : Int), .int .i64 0] from ((HF1.out.set 0 _).set 1 _).set 2 _) Tryz.underlying87 rfl (by kernel_rfl)) rfl ⟨rfl, ?_⟩
  exact ((HB1.out.setCell (Nat.le_refl _) _).setCell (Nat.le_refl _) _).setCell (Nat.le_refl _) _
set_option maxHeartbeats 2000000 in
set_option maxRecDepth 100000 in
theorem bit_any (bp : Nat) (x : BdrV) (c : UInt8) (w : World) (h : BK w bp x) (hx : x.ok) :
    Calls Tryz.prog 143 #[.pointer (some ⟨bp, 0, none⟩), .int .u8 c.toNat] w fun e w' => e = .returned (Opd.val ⟨6, 0, (fieldF c x.op 0 0 x.bits.data.toList : Nat)⟩) ∧ Below w.heap.size w w' := by
  have hal := (Below.refl w.heap.size w).alloc (Nat.le_refl _) (.cells #[.int .i64 0, .int .i64 0, .int .i64 0] 87)
  have HF := Lib.hid (Blk.new w 87 #[.int .i64 0, .int .i64 0, .int .i64 0])
  have HB := Lib.hid hal
  have HN := Lib.hid (number_any' bp x c _ (h.below hal h.lt) hx)
  have hlt := field_256 x hx c
  generalize fieldF c x.op 0 0 x.bits.data.toList = n at *
  have hn1 : (n : Int) ≤ 255 := by omega
  clear h hx hal hlt
  go_enter Tryz.func143, Tryz.ntmps143
  go_wp2_with (go_at_call 175; refine HN.out.mono ?_; rintro e w1 ⟨rfl, hb⟩; have HF1 := Lib.hid (HF.out.below hb HF.out.lt); have HB1 := Lib.hid (HB.out.trans (hb.mono HB.out.size)); obtain ⟨z0, z1, z2, y0, y1, y2⟩ := HF1.out.three; clear hb)
  refine bodyPost_ret (results_row1 rfl _ _ w.heap.size 87 #[.int .i64 6, .int .i64 0, .int .i64 (n : Int)] (0, 0) _ rfl (show Blk _ w.heap.size 87 #[.int .i64 6, .int .i64 0, .int .i64 (n : Int)] from ((HF1.out.set 0 _).set 1 _).set 2 _) Tryz.underlying87 rfl (by kernel_rfl)) rfl ⟨rfl, ?_⟩
  exact ((HB1.out.setCell (Nat.le_refl _) _).setCell (Nat.le_refl _) _).setCell (Nat.le_refl _) _
set_option maxHeartbeats 2000000 in
set_option maxRecDepth 100000 in
theorem restart_any (bp : Nat) (x : BdrV) (c : UInt8) (w : World) (h : BK w bp x) (hx : x.ok) :
    Calls Tryz.prog 144 #[.pointer (some ⟨bp, 0, none⟩), .int .u8 c.toNat] w fun e w' => e = .returned (Opd.val ⟨6, 0, (8 * (fieldF c x.op 0 0 x.bits.data.toList : Nat))⟩) ∧ Below w.heap.size w w' := by
  have hal := (Below.refl w.heap.size w).alloc (Nat.le_refl _) (.cells #[.int .i64 0, .int .i64 0, .int .i64 0] 87)
  have HF := Lib.hid (Blk.new w 87 #[.int .i64 0, .int .i64 0, .int .i64 0])
  have HB := Lib.hid hal
  have HN := Lib.hid (number_any' bp x c _ (h.below hal h.lt) hx)
  have hlt := field_256 x hx c
  generalize fieldF c x.op 0 0 x.bits.data.toList = n at *
  have hn1 : (n : Int) ≤ 255 := by omega
  clear h hx hal hlt
  go_enter Tryz.func144, Tryz.ntmps144
  go_wp2_with (go_at_call 175; refine HN.out.mono ?_; rintro e w1 ⟨rfl, hb⟩; have HF1 := Lib.hid (HF.out.below hb HF.out.lt); have HB1 := Lib.hid (HB.out.trans (hb.mono HB.out.size)); obtain ⟨z0, z1, z2, y0, y1, y2⟩ := HF1.out.three; clear hb)
  refine bodyPost_ret (results_row1 rfl _ _ w.heap.size 87 #[.int .i64 6, .int .i64 0, .int .i64 (8 * (n : Int))] (0, 0) _ rfl (show Blk _ w.heap.size 87 #[.int .i64 6, .int .i64 0, .int .i64 (8 * (n : Int))] from ((HF1.out.set 0 _).set 1 _).set 2 _) Tryz.underlying87 rfl (by kernel_rfl)) rfl ⟨rfl, ?_⟩
  exact ((HB1.out.setCell (Nat.le_refl _) _).setCell (Nat.le_refl _) _).setCell (Nat.le_refl _) _
end Go.Proofs.YtlepicdjnbbndaaGreatDoor

/-
  table.builder's name, zero, distance, value. Conditions: sizes.
-/
namespace Go.Proofs.YtlepicdjnbbndaaGreatDoor
open Go.RowKit Go.Shelf

theorem run_str1 (W : World) (c : UInt8) : (convert 49 9 (.slice (some ⟨W.heap.size, 0, none⟩) 1 1)).run Tryz.prog (W.alloc (.cells #[.int .u8 c.toNat] 5)) = .ok (.string ⟨#[c]⟩) (W.alloc (.cells #[.int .u8 c.toNat] 5)) := by
  have hb := Blk.new W 5 #[.int .u8 c.toNat]
  exact run_string _ _ 1 [c] ⟨fun j x hx => by
    cases j with
    | zero => simp at hx; subst hx; exact hb.cell 0
    | succ j => simp at hx, fun j hj => hb.free j⟩
set_option maxHeartbeats 2000000 in
set_option maxRecDepth 100000 in
theorem bname_any (bp : Nat) (c : UInt8) (o : Opd) (w : World) (ho : wordF [c] = some o) :
    Calls Tryz.prog 138 #[.pointer (some ⟨bp, 0, none⟩), .int .u8 c.toNat] w fun e w' => e = .returned o.val ∧ Below w.heap.size w w' := by
  have hal := (Below.refl w.heap.size w).alloc (Nat.le_refl _) (.cells #[.int .i64 0, .int .i64 0, .int .i64 0] 87)
  have HF := Lib.hid (Blk.new w 87 #[.int .i64 0, .int .i64 0, .int .i64 0])
  have HB := Lib.hid hal
  have hal2 := hal.alloc hal.size (.cells #[.int .u8 c.toNat] 5)
  have HF0 := Lib.hid ((Blk.new w 87 #[.int .i64 0, .int .i64 0, .int .i64 0]).alloc (.cells #[.int .u8 c.toNat] 5))
  have HB0 := Lib.hid hal2
  have hcv := run_str1 (w.alloc (.cells #[.int .i64 0, .int .i64 0, .int .i64 0] 87)) c
  rw [World.size_alloc] at hcv
  have HWD := Lib.hid (fun W => tword_any ⟨#[c]⟩ o W ho (by show 1 ≤ 1000; omega))
  clear ho hal hal2 HF HB
  obtain ⟨ok, orr, on⟩ := o
  go_enter Tryz.func138, Tryz.ntmps138
  go_wp2_with (go_at_call 137; go_loud (refine (HWD.out _).mono ?_); rintro e w2 ⟨rfl, hb⟩; unfold Opd.val; have HF2 := Lib.hid (HF0.out.below hb HF0.out.lt); have HB2 := Lib.hid (HB0.out.trans (hb.mono HB0.out.size)); obtain ⟨z0, z1, z2, y0, y1, y2⟩ := HF2.out.three; clear hb)
  refine bodyPost_ret (results_row1 rfl _ _ w.heap.size 87 #[.int .i64 ok, .int .i64 orr, .int .i64 on] (0, 0) _ rfl (show Blk _ w.heap.size 87 #[.int .i64 ok, .int .i64 orr, .int .i64 on] from ((HF2.out.set 0 _).set 1 _).set 2 _) Tryz.underlying87 rfl (by kernel_rfl)) rfl ⟨rfl, ?_⟩
  exact ((HB2.out.setCell (Nat.le_refl _) _).setCell (Nat.le_refl _) _).setCell (Nat.le_refl _) _
set_option maxHeartbeats 2000000 in
set_option maxRecDepth 100000 in
theorem zero_any (bp : Nat) (c : UInt8) (w : World) (hc : c = 48 ∨ c = 49 ∨ c = 50) :
    Calls Tryz.prog 147 #[.pointer (some ⟨bp, 0, none⟩), .int .u8 c.toNat] w fun e w' => e = .returned (Opd.val ⟨6, 0, (c.toNat - 48 : Nat)⟩) ∧ Below w.heap.size w w' := by
  have hal := (Below.refl w.heap.size w).alloc (Nat.le_refl _) (.cells #[.int .i64 0, .int .i64 0, .int .i64 0] 87)
  have HF := Lib.hid (Blk.new w 87 #[.int .i64 0, .int .i64 0, .int .i64 0])
  have HB := Lib.hid hal
  obtain ⟨z0, z1, z2, y0, y1, y2⟩ := HF.out.three
  clear hal
  rcases hc with rfl | rfl | rfl
  · show Calls _ _ #[.pointer (some ⟨bp, 0, none⟩), .int .u8 48] w fun e w' => e = .returned (.agg #[.int .i64 6, .int .i64 0, .int .i64 0]) ∧ _
    go_enter Tryz.func147, Tryz.ntmps147
    go_wp2
    refine bodyPost_ret (results_row1 rfl _ _ w.heap.size 87 #[.int .i64 6, .int .i64 0, .int .i64 0] (0, 0) _ rfl (show Blk _ w.heap.size 87 #[.int .i64 6, .int .i64 0, .int .i64 0] from Blk.new w _ _) Tryz.underlying87 rfl (by kernel_rfl)) rfl ⟨rfl, ?_⟩
    exact (Below.refl w.heap.size w).alloc (Nat.le_refl _) _
  · show Calls _ _ #[.pointer (some ⟨bp, 0, none⟩), .int .u8 49] w fun e w' => e = .returned (.agg #[.int .i64 6, .int .i64 0, .int .i64 1]) ∧ _
    go_enter Tryz.func147, Tryz.ntmps147
    go_wp2
    refine bodyPost_ret (results_row1 rfl _ _ w.heap.size 87 #[.int .i64 6, .int .i64 0, .int .i64 1] (0, 0) _ rfl (show Blk _ w.heap.size 87 #[.int .i64 6, .int .i64 0, .int .i64 1] from Blk.new w _ _) Tryz.underlying87 rfl (by kernel_rfl)) rfl ⟨rfl, ?_⟩
    exact (Below.refl w.heap.size w).alloc (Nat.le_refl _) _
  · show Calls _ _ #[.pointer (some ⟨bp, 0, none⟩), .int .u8 50] w fun e w' => e = .returned (.agg #[.int .i64 6, .int .i64 0, .int .i64 2]) ∧ _
    go_enter Tryz.func147, Tryz.ntmps147
    go_wp2
    refine bodyPost_ret (results_row1 rfl _ _ w.heap.size 87 #[.int .i64 6, .int .i64 0, .int .i64 2] (0, 0) _ rfl (show Blk _ w.heap.size 87 #[.int .i64 6, .int .i64 0, .int .i64 2] from Blk.new w _ _) Tryz.underlying87 rfl (by kernel_rfl)) rfl ⟨rfl, ?_⟩
    exact (Below.refl w.heap.size w).alloc (Nat.le_refl _) _
end Go.Proofs.YtlepicdjnbbndaaGreatDoor

/-
  table.builder's distance and value. Conditions: sizes.
-/
namespace Go.Proofs.YtlepicdjnbbndaaGreatDoor
open Go.RowKit Go.Shelf

theorem run_strW (W : World) (g : Nat) (c : UInt8) (hb : Blk W g 5 #[.int .u8 c.toNat]) : (convert 49 9 (.slice (some ⟨g, 0, none⟩) 1 1)).run Tryz.prog W = .ok (.string ⟨#[c]⟩) W :=
  run_string _ _ 1 [c] ⟨fun j x hx => by
    cases j with
    | zero => simp at hx; subst hx; exact hb.cell 0
    | succ j => simp at hx, fun j hj => hb.free j⟩
theorem grown_two (w : World) (bp q : Nat) (v : Value) (o1 o2 : Obj) : w.grownBy (((w.setCell ⟨bp, q, none⟩ v).alloc o1).alloc o2).drew (some bp) := by
  refine ⟨rfl, rfl, rfl, ?_, fun k hk hne => ?_⟩
  · show _ ≤ (World.alloc _ _).heap.size
    rw [World.size_alloc, World.size_alloc, World.size_setCell]; omega
  · show (World.alloc _ _).heap[k]? = _
    rw [Below.heap_alloc _ _ _ (by rw [World.size_alloc, World.size_setCell]; omega), Below.heap_alloc _ _ _ (by rw [World.size_setCell]; omega)]
    exact Below.heap_setCell _ _ _ _ (fun e => hne (by rw [e]))
set_option maxHeartbeats 4000000 in
set_option maxRecDepth 100000 in
theorem distance_any (bp : Nat) (x : BdrV) (c : UInt8) (w : World) (h : BK w bp x) (hx : x.ok) :
    Calls Tryz.prog 145 #[.pointer (some ⟨bp, 0, none⟩), .int .u8 c.toNat] w fun e w' => e = .returned (Opd.val ⟨10, 0, 0⟩) ∧ BK w' bp { x with ex := x.ex ++ [c] } ∧ w.grownBy w' (some bp) := by
  obtain ⟨pg, op, iop, ia, ex, al, bits, rop, ra, ral⟩ := x
  have hex := hx.ex
  simp only at hex
  have h0 : Blk w bp 131 (bdr pg op iop ia ex al bits rop ra ral) := h
  have hlt : bp < w.heap.size := h.lt
  have hne1 : ¬ bp = w.heap.size := Nat.ne_of_lt hlt
  have hne2 : ¬ bp = w.heap.size + 1 := by omega
  have hA : World := w.alloc (.cells #[.int .i64 0, .int .i64 0, .int .i64 0] 87)
  have hKA : Blk (w.alloc (.cells #[.int .i64 0, .int .i64 0, .int .i64 0] 87)) bp 131 (bdr pg op iop ia ex al bits rop ra ral) := h0.alloc (.cells #[.int .i64 0, .int .i64 0, .int .i64 0] 87)
  have hKB : Blk ((w.alloc (.cells #[.int .i64 0, .int .i64 0, .int .i64 0] 87)).alloc (.cells #[.int .u8 c.toNat] 5)) bp 131 (bdr pg op iop ia ex al bits rop ra ral) := hKA.alloc (.cells #[.int .u8 c.toNat] 5)
  have hFB : Blk ((w.alloc (.cells #[.int .i64 0, .int .i64 0, .int .i64 0] 87)).alloc (.cells #[.int .u8 c.toNat] 5)) w.heap.size 87 #[.int .i64 0, .int .i64 0, .int .i64 0] := (Blk.new w 87 #[.int .i64 0, .int .i64 0, .int .i64 0]).alloc (.cells #[.int .u8 c.toNat] 5)
  have hcb := Blk.new (w.alloc (.cells #[.int .i64 0, .int .i64 0, .int .i64 0] 87)) 5 #[.int .u8 c.toNat]
  rw [World.size_alloc] at hcb
  have hcv1 := run_strW ((w.alloc (.cells #[.int .i64 0, .int .i64 0, .int .i64 0] 87)).alloc (.cells #[.int .u8 c.toNat] 5)).drew (w.heap.size + 1) c hcb
  have hcv2 := run_strW ((w.alloc (.cells #[.int .i64 0, .int .i64 0, .int .i64 0] 87)).drew.alloc (.cells #[.int .u8 c.toNat] 5)) (w.heap.size + 1) c hcb
  have a4 : (w.alloc (.cells #[.int .i64 0, .int .i64 0, .int .i64 0] 87)).cell? ⟨bp, 4, none⟩ = some (.string ⟨ex.toArray⟩) := hKA.cell 4
  have b4 : ((w.alloc (.cells #[.int .i64 0, .int .i64 0, .int .i64 0] 87)).alloc (.cells #[.int .u8 c.toNat] 5)).cell? ⟨bp, 4, none⟩ = some (.string ⟨ex.toArray⟩) := hKB.cell 4
  have b4f : ((w.alloc (.cells #[.int .i64 0, .int .i64 0, .int .i64 0] 87)).alloc (.cells #[.int .u8 c.toNat] 5)).frozen? ⟨bp, 4, none⟩ = false := hKB.free 4
  have b4' : ((w.alloc (.cells #[.int .i64 0, .int .i64 0, .int .i64 0] 87)).drew.alloc (.cells #[.int .u8 c.toNat] 5)).cell? ⟨bp, 4, none⟩ = some (.string ⟨ex.toArray⟩) := hKB.cell 4
  have b4f' : ((w.alloc (.cells #[.int .i64 0, .int .i64 0, .int .i64 0] 87)).drew.alloc (.cells #[.int .u8 c.toNat] 5)).frozen? ⟨bp, 4, none⟩ = false := hKB.free 4
  have HK0 := Lib.hid h0
  obtain ⟨exB, hexB⟩ : ∃ b : ByteArray, b = ⟨ex.toArray⟩ := ⟨_, rfl⟩
  have hsz : exB.size ≤ 100 := by rw [hexB]; show ex.toArray.size ≤ _; rw [List.size_toArray]; exact hex
  have HEX := Lib.hid hexB
  rw [← hexB] at a4 b4 b4'
  clear h h0 hx hex hA hKA hKB hFB hcb hexB
  go_enter Tryz.func145, Tryz.ntmps145
  go_wp2
  go_region
  all_goals
    go_wp2
    have hcat : (exB ++ ⟨#[c]⟩ : ByteArray) = ⟨(ex ++ [c]).toArray⟩ := by rw [HEX.out]; apply ByteArray.ext; simp
    rw [hcat]
    have hfin : Blk ((((w.setCell ⟨bp, 4, none⟩ (.string ⟨(ex ++ [c]).toArray⟩)).alloc (.cells #[.int .i64 10, .int .i64 0, .int .i64 0] 87)).alloc (.cells #[.int .u8 c.toNat] 5)).drew) w.heap.size 87 #[.int .i64 10, .int .i64 0, .int .i64 0] := by
      have h1 := (Blk.new (w.setCell ⟨bp, 4, none⟩ (.string ⟨(ex ++ [c]).toArray⟩)) 87 #[.int .i64 10, .int .i64 0, .int .i64 0]).alloc (.cells #[.int .u8 c.toNat] 5)
      rw [World.size_setCell] at h1
      exact h1
    refine bodyPost_ret (results_row1 rfl _ _ w.heap.size 87 #[.int .i64 10, .int .i64 0, .int .i64 0] (0, 0) _ rfl hfin Tryz.underlying87 rfl (by kernel_rfl)) rfl ⟨rfl, ?_, ?_⟩
    · exact (((HK0.out.set 4 (.string ⟨(ex ++ [c]).toArray⟩)).alloc (.cells #[.int .i64 10, .int .i64 0, .int .i64 0] 87)).alloc (.cells #[.int .u8 c.toNat] 5))
    · exact grown_two w bp 4 _ _ _
set_option maxHeartbeats 4000000 in
set_option maxRecDepth 100000 in
theorem value_any (bp : Nat) (x : BdrV) (c : UInt8) (w : World) (h : BK w bp x) (hx : x.ok) :
    Calls Tryz.prog 146 #[.pointer (some ⟨bp, 0, none⟩), .int .u8 c.toNat] w fun e w' => e = .returned (Opd.val ⟨6, 0, 0⟩) ∧ BK w' bp { x with ex := x.ex ++ [c] } ∧ w.grownBy w' (some bp) := by
  obtain ⟨pg, op, iop, ia, ex, al, bits, rop, ra, ral⟩ := x
  have hex := hx.ex
  simp only at hex
  have h0 : Blk w bp 131 (bdr pg op iop ia ex al bits rop ra ral) := h
  have hlt : bp < w.heap.size := h.lt
  have hne1 : ¬ bp = w.heap.size := Nat.ne_of_lt hlt
  have hne2 : ¬ bp = w.heap.size + 1 := by omega
  have hA : World := w.alloc (.cells #[.int .i64 0, .int .i64 0, .int .i64 0] 87)
  have hKA : Blk (w.alloc (.cells #[.int .i64 0, .int .i64 0, .int .i64 0] 87)) bp 131 (bdr pg op iop ia ex al bits rop ra ral) := h0.alloc (.cells #[.int .i64 0, .int .i64 0, .int .i64 0] 87)
  have hKB : Blk ((w.alloc (.cells #[.int .i64 0, .int .i64 0, .int .i64 0] 87)).alloc (.cells #[.int .u8 c.toNat] 5)) bp 131 (bdr pg op iop ia ex al bits rop ra ral) := hKA.alloc (.cells #[.int .u8 c.toNat] 5)
  have hFB : Blk ((w.alloc (.cells #[.int .i64 0, .int .i64 0, .int .i64 0] 87)).alloc (.cells #[.int .u8 c.toNat] 5)) w.heap.size 87 #[.int .i64 0, .int .i64 0, .int .i64 0] := (Blk.new w 87 #[.int .i64 0, .int .i64 0, .int .i64 0]).alloc (.cells #[.int .u8 c.toNat] 5)
  have hcb := Blk.new (w.alloc (.cells #[.int .i64 0, .int .i64 0, .int .i64 0] 87)) 5 #[.int .u8 c.toNat]
  rw [World.size_alloc] at hcb
  have hcv1 := run_strW ((w.alloc (.cells #[.int .i64 0, .int .i64 0, .int .i64 0] 87)).alloc (.cells #[.int .u8 c.toNat] 5)).drew (w.heap.size + 1) c hcb
  have hcv2 := run_strW ((w.alloc (.cells #[.int .i64 0, .int .i64 0, .int .i64 0] 87)).drew.alloc (.cells #[.int .u8 c.toNat] 5)) (w.heap.size + 1) c hcb
  have a4 : (w.alloc (.cells #[.int .i64 0, .int .i64 0, .int .i64 0] 87)).cell? ⟨bp, 4, none⟩ = some (.string ⟨ex.toArray⟩) := hKA.cell 4
  have b4 : ((w.alloc (.cells #[.int .i64 0, .int .i64 0, .int .i64 0] 87)).alloc (.cells #[.int .u8 c.toNat] 5)).cell? ⟨bp, 4, none⟩ = some (.string ⟨ex.toArray⟩) := hKB.cell 4
  have b4f : ((w.alloc (.cells #[.int .i64 0, .int .i64 0, .int .i64 0] 87)).alloc (.cells #[.int .u8 c.toNat] 5)).frozen? ⟨bp, 4, none⟩ = false := hKB.free 4
  have b4' : ((w.alloc (.cells #[.int .i64 0, .int .i64 0, .int .i64 0] 87)).drew.alloc (.cells #[.int .u8 c.toNat] 5)).cell? ⟨bp, 4, none⟩ = some (.string ⟨ex.toArray⟩) := hKB.cell 4
  have b4f' : ((w.alloc (.cells #[.int .i64 0, .int .i64 0, .int .i64 0] 87)).drew.alloc (.cells #[.int .u8 c.toNat] 5)).frozen? ⟨bp, 4, none⟩ = false := hKB.free 4
  have HK0 := Lib.hid h0
  obtain ⟨exB, hexB⟩ : ∃ b : ByteArray, b = ⟨ex.toArray⟩ := ⟨_, rfl⟩
  have hsz : exB.size ≤ 100 := by rw [hexB]; show ex.toArray.size ≤ _; rw [List.size_toArray]; exact hex
  have HEX := Lib.hid hexB
  rw [← hexB] at a4 b4 b4'
  clear h h0 hx hex hA hKA hKB hFB hcb hexB
  go_enter Tryz.func146, Tryz.ntmps146
  go_wp2
  go_region
  all_goals
    go_wp2
    have hcat : (exB ++ ⟨#[c]⟩ : ByteArray) = ⟨(ex ++ [c]).toArray⟩ := by rw [HEX.out]; apply ByteArray.ext; simp
    rw [hcat]
    have hfin : Blk ((((w.setCell ⟨bp, 4, none⟩ (.string ⟨(ex ++ [c]).toArray⟩)).alloc (.cells #[.int .i64 6, .int .i64 0, .int .i64 0] 87)).alloc (.cells #[.int .u8 c.toNat] 5)).drew) w.heap.size 87 #[.int .i64 6, .int .i64 0, .int .i64 0] := by
      have h1 := (Blk.new (w.setCell ⟨bp, 4, none⟩ (.string ⟨(ex ++ [c]).toArray⟩)) 87 #[.int .i64 6, .int .i64 0, .int .i64 0]).alloc (.cells #[.int .u8 c.toNat] 5)
      rw [World.size_setCell] at h1
      exact h1
    refine bodyPost_ret (results_row1 rfl _ _ w.heap.size 87 #[.int .i64 6, .int .i64 0, .int .i64 0] (0, 0) _ rfl hfin Tryz.underlying87 rfl (by kernel_rfl)) rfl ⟨rfl, ?_, ?_⟩
    · exact (((HK0.out.set 4 (.string ⟨(ex ++ [c]).toArray⟩)).alloc (.cells #[.int .i64 6, .int .i64 0, .int .i64 0] 87)).alloc (.cells #[.int .u8 c.toNat] 5))
    · exact grown_two w bp 4 _ _ _
end Go.Proofs.YtlepicdjnbbndaaGreatDoor

/-
  (*table.builder).arg. Conditions: sizes; the library's table as its initialiser lays it.
-/
namespace Go.Proofs.YtlepicdjnbbndaaGreatDoor
open Go.RowKit Go.Shelf

theorem grown_of {w w1 : World} (bp : Nat) (hb : Below w.heap.size w w1) : w.grownBy w1 (some bp) := ⟨hb.os, hb.tape, hb.output, hb.size, fun k hk _ => hb.block k hk⟩
/-- behind a method's call: the result's block, and what stands at the end -/
theorem arg_fin {w w1 : World} {bp : Nat} {x : BdrV} (h : BK w1 bp x) (hlt : bp < w.heap.size) (hg : (w.alloc (.cells #[.int .i64 0, .int .i64 0, .int .i64 0] 87)).grownBy w1 (some bp)) : Blk w1 w.heap.size 87 #[.int .i64 0, .int .i64 0, .int .i64 0] ∧ ∀ a b c : Value,
    Blk (((w1.setCell ⟨w.heap.size, 0, none⟩ a).setCell ⟨w.heap.size, 1, none⟩ b).setCell ⟨w.heap.size, 2, none⟩ c) w.heap.size 87 #[a, b, c] ∧ BK (((w1.setCell ⟨w.heap.size, 0, none⟩ a).setCell ⟨w.heap.size, 1, none⟩ b).setCell ⟨w.heap.size, 2, none⟩ c) bp x ∧ w.grownBy (((w1.setCell ⟨w.heap.size, 0, none⟩ a).setCell ⟨w.heap.size, 1, none⟩ b).setCell ⟨w.heap.size, 2, none⟩ c) (some bp) := by
  have hf : Blk w1 w.heap.size 87 #[.int .i64 0, .int .i64 0, .int .i64 0] := (Blk.new w 87 #[.int .i64 0, .int .i64 0, .int .i64 0]).grown hg (fun e => by injection e with e; omega)
  refine ⟨hf, fun a b c => ⟨((hf.set 0 a).set 1 b).set 2 c, ?_, ?_⟩⟩
  · have hne : bp ≠ w.heap.size := by omega
    exact ((h.far (p := ⟨w.heap.size, 0, none⟩) hne a).far (p := ⟨w.heap.size, 1, none⟩) hne b).far (p := ⟨w.heap.size, 2, none⟩) hne c
  · refine ⟨hg.os, hg.tape, hg.output, ?_, fun k hk hne => ?_⟩
    · rw [World.size_setCell, World.size_setCell, World.size_setCell]
      have := hg.size
      rw [World.size_alloc] at this
      omega
    · have hne2 : k ≠ w.heap.size := by omega
      exact (((Below.heap_setCell _ _ _ _ hne2).trans (Below.heap_setCell _ _ _ _ hne2)).trans (Below.heap_setCell _ _ _ _ hne2)).trans ((hg.block k (by rw [World.size_alloc]; omega) hne).trans (Below.heap_alloc _ _ _ hk))
/-- the answer -/
def ArgP (w : World) (bp : Nat) (x : BdrV) (o : Opd) (ext : List UInt8) (e : Ending) (w' : World) : Prop := e = .returned o.val ∧ BK w' bp { x with ex := x.ex ++ ext } ∧ w.grownBy w' (some bp)
theorem bdr_same (x : BdrV) : { x with ex := x.ex ++ [] } = x := by cases x; simp
set_option maxHeartbeats 2000000 in
set_option maxRecDepth 100000 in
theorem arg_114 (bp : Nat) (x : BdrV) (y : List UInt8) (o : Opd) (hy : (Lib.fields listR)[fieldF 114 x.op 0 0 x.bits.data.toList]? = some y) (ho : wordF y = some o) (hyl : y.length ≤ 1000) (w : World) (h : BK w bp x) (hx : x.ok) (hT : Spc w) :
    Calls Tryz.prog 89 #[.pointer (some ⟨bp, 0, none⟩), .string ⟨#[114]⟩] w (ArgP w bp x o []) := by
  have hlt : bp < w.heap.size := h.lt
  have hA := h.alloc (.cells #[.int .i64 0, .int .i64 0, .int .i64 0] 87)
  have hmf : ∀ (fn : Fn) (first cap : Array Value) (w : World), (Instr.makeFunc fn first cap).run Tryz.prog w = .ok (.func fn first cap) w := fun _ _ _ _ => rfl
  have hKB := fun (w1 : World) (hb : Below (w.alloc (.cells #[.int .i64 0, .int .i64 0, .int .i64 0] 87)).heap.size (w.alloc (.cells #[.int .i64 0, .int .i64 0, .int .i64 0] 87)) w1) => show BK w1 bp { x with ex := x.ex ++ [] } from by rw [bdr_same]; exact hA.below hb hA.lt
  have HM := Lib.hid (register_any bp x 114 y o _ hA hx hy ho hyl (hT.below ((Below.refl _ w).alloc (Nat.le_refl _) _)))
  clear hT hy ho hyl
  obtain ⟨ok, orr, on⟩ := o
  clear h hx hA
  go_enter Tryz.func89, Tryz.ntmps89
  go_wp2_with (go_at_call 139; refine HM.out.mono ?_; rintro e w1 ⟨rfl, hb⟩; have HK1 := Lib.hid (hKB w1 hb); have hg := grown_of bp hb; unfold Opd.val; obtain ⟨hf1, hfin⟩ := arg_fin HK1.out hlt hg; obtain ⟨z0, z1, z2, y0, y1, y2⟩ := hf1.three; have HFIN := Lib.hid hfin; clear hb hg hf1 hfin)
  obtain ⟨q1, q2, q3⟩ := HFIN.out (.int .i64 ok) (.int .i64 orr) (.int .i64 on)
  exact bodyPost_ret (results_row1 rfl _ _ w.heap.size 87 _ (0, 0) _ rfl q1 Tryz.underlying87 rfl (by kernel_rfl)) rfl ⟨rfl, q2, q3⟩
set_option maxHeartbeats 2000000 in
set_option maxRecDepth 100000 in
theorem arg_115 (bp : Nat) (x : BdrV) (y : List UInt8) (o : Opd) (hy : (Lib.fields listR)[fieldF 115 x.op 0 0 x.bits.data.toList]? = some y) (ho : wordF y = some o) (hyl : y.length ≤ 1000) (w : World) (h : BK w bp x) (hx : x.ok) (hT : Spc w) :
    Calls Tryz.prog 89 #[.pointer (some ⟨bp, 0, none⟩), .string ⟨#[115]⟩] w (ArgP w bp x o []) := by
  have hlt : bp < w.heap.size := h.lt
  have hA := h.alloc (.cells #[.int .i64 0, .int .i64 0, .int .i64 0] 87)
  have hmf : ∀ (fn : Fn) (first cap : Array Value) (w : World), (Instr.makeFunc fn first cap).run Tryz.prog w = .ok (.func fn first cap) w := fun _ _ _ _ => rfl
  have hKB := fun (w1 : World) (hb : Below (w.alloc (.cells #[.int .i64 0, .int .i64 0, .int .i64 0] 87)).heap.size (w.alloc (.cells #[.int .i64 0, .int .i64 0, .int .i64 0] 87)) w1) => show BK w1 bp { x with ex := x.ex ++ [] } from by rw [bdr_same]; exact hA.below hb hA.lt
  have HM := Lib.hid (register_any bp x 115 y o _ hA hx hy ho hyl (hT.below ((Below.refl _ w).alloc (Nat.le_refl _) _)))
  clear hT hy ho hyl
  obtain ⟨ok, orr, on⟩ := o
  clear h hx hA
  go_enter Tryz.func89, Tryz.ntmps89
  go_wp2_with (go_at_call 139; refine HM.out.mono ?_; rintro e w1 ⟨rfl, hb⟩; have HK1 := Lib.hid (hKB w1 hb); have hg := grown_of bp hb; unfold Opd.val; obtain ⟨hf1, hfin⟩ := arg_fin HK1.out hlt hg; obtain ⟨z0, z1, z2, y0, y1, y2⟩ := hf1.three; have HFIN := Lib.hid hfin; clear hb hg hf1 hfin)
  obtain ⟨q1, q2, q3⟩ := HFIN.out (.int .i64 ok) (.int .i64 orr) (.int .i64 on)
  exact bodyPost_ret (results_row1 rfl _ _ w.heap.size 87 _ (0, 0) _ rfl q1 Tryz.underlying87 rfl (by kernel_rfl)) rfl ⟨rfl, q2, q3⟩
set_option maxHeartbeats 2000000 in
set_option maxRecDepth 100000 in
theorem arg_112 (bp : Nat) (x : BdrV) (y : List UInt8) (o : Opd) (hy : (Lib.fields listP)[fieldF 112 x.op 0 0 x.bits.data.toList]? = some y) (ho : wordF y = some o) (hyl : y.length ≤ 1000) (w : World) (h : BK w bp x) (hx : x.ok) (hT : Spc w) :
    Calls Tryz.prog 89 #[.pointer (some ⟨bp, 0, none⟩), .string ⟨#[112]⟩] w (ArgP w bp x o []) := by
  have hlt : bp < w.heap.size := h.lt
  have hA := h.alloc (.cells #[.int .i64 0, .int .i64 0, .int .i64 0] 87)
  have hmf : ∀ (fn : Fn) (first cap : Array Value) (w : World), (Instr.makeFunc fn first cap).run Tryz.prog w = .ok (.func fn first cap) w := fun _ _ _ _ => rfl
  have hKB := fun (w1 : World) (hb : Below (w.alloc (.cells #[.int .i64 0, .int .i64 0, .int .i64 0] 87)).heap.size (w.alloc (.cells #[.int .i64 0, .int .i64 0, .int .i64 0] 87)) w1) => show BK w1 bp { x with ex := x.ex ++ [] } from by rw [bdr_same]; exact hA.below hb hA.lt
  have HM := Lib.hid (pair_any bp x 112 y o _ hA hx hy ho hyl (hT.below ((Below.refl _ w).alloc (Nat.le_refl _) _)))
  clear hT hy ho hyl
  obtain ⟨ok, orr, on⟩ := o
  clear h hx hA
  go_enter Tryz.func89, Tryz.ntmps89
  go_wp2_with (go_at_call 140; refine HM.out.mono ?_; rintro e w1 ⟨rfl, hb⟩; have HK1 := Lib.hid (hKB w1 hb); have hg := grown_of bp hb; unfold Opd.val; obtain ⟨hf1, hfin⟩ := arg_fin HK1.out hlt hg; obtain ⟨z0, z1, z2, y0, y1, y2⟩ := hf1.three; have HFIN := Lib.hid hfin; clear hb hg hf1 hfin)
  obtain ⟨q1, q2, q3⟩ := HFIN.out (.int .i64 ok) (.int .i64 orr) (.int .i64 on)
  exact bodyPost_ret (results_row1 rfl _ _ w.heap.size 87 _ (0, 0) _ rfl q1 Tryz.underlying87 rfl (by kernel_rfl)) rfl ⟨rfl, q2, q3⟩
set_option maxHeartbeats 2000000 in
set_option maxRecDepth 100000 in
theorem arg_113 (bp : Nat) (x : BdrV) (y : List UInt8) (o : Opd) (hy : (Lib.fields listQ)[fieldF 113 x.op 0 0 x.bits.data.toList]? = some y) (ho : wordF y = some o) (hyl : y.length ≤ 1000) (w : World) (h : BK w bp x) (hx : x.ok) (hT : Spc w) :
    Calls Tryz.prog 89 #[.pointer (some ⟨bp, 0, none⟩), .string ⟨#[113]⟩] w (ArgP w bp x o []) := by
  have hlt : bp < w.heap.size := h.lt
  have hA := h.alloc (.cells #[.int .i64 0, .int .i64 0, .int .i64 0] 87)
  have hmf : ∀ (fn : Fn) (first cap : Array Value) (w : World), (Instr.makeFunc fn first cap).run Tryz.prog w = .ok (.func fn first cap) w := fun _ _ _ _ => rfl
  have hKB := fun (w1 : World) (hb : Below (w.alloc (.cells #[.int .i64 0, .int .i64 0, .int .i64 0] 87)).heap.size (w.alloc (.cells #[.int .i64 0, .int .i64 0, .int .i64 0] 87)) w1) => show BK w1 bp { x with ex := x.ex ++ [] } from by rw [bdr_same]; exact hA.below hb hA.lt
  have HM := Lib.hid (stack_any bp x 113 y o _ hA hx hy ho hyl (hT.below ((Below.refl _ w).alloc (Nat.le_refl _) _)))
  clear hT hy ho hyl
  obtain ⟨ok, orr, on⟩ := o
  clear h hx hA
  go_enter Tryz.func89, Tryz.ntmps89
  go_wp2_with (go_at_call 141; refine HM.out.mono ?_; rintro e w1 ⟨rfl, hb⟩; have HK1 := Lib.hid (hKB w1 hb); have hg := grown_of bp hb; unfold Opd.val; obtain ⟨hf1, hfin⟩ := arg_fin HK1.out hlt hg; obtain ⟨z0, z1, z2, y0, y1, y2⟩ := hf1.three; have HFIN := Lib.hid hfin; clear hb hg hf1 hfin)
  obtain ⟨q1, q2, q3⟩ := HFIN.out (.int .i64 ok) (.int .i64 orr) (.int .i64 on)
  exact bodyPost_ret (results_row1 rfl _ _ w.heap.size 87 _ (0, 0) _ rfl q1 Tryz.underlying87 rfl (by kernel_rfl)) rfl ⟨rfl, q2, q3⟩
set_option maxHeartbeats 2000000 in
set_option maxRecDepth 100000 in
theorem arg_99 (bp : Nat) (x : BdrV) (w : World) (h : BK w bp x) (hx : x.ok) :
    Calls Tryz.prog 89 #[.pointer (some ⟨bp, 0, none⟩), .string ⟨#[99]⟩] w (ArgP w bp x ⟨8, (fieldF 99 x.op 0 0 x.bits.data.toList : Nat), 0⟩ []) := by
  have hlt : bp < w.heap.size := h.lt
  have hA := h.alloc (.cells #[.int .i64 0, .int .i64 0, .int .i64 0] 87)
  have hmf : ∀ (fn : Fn) (first cap : Array Value) (w : World), (Instr.makeFunc fn first cap).run Tryz.prog w = .ok (.func fn first cap) w := fun _ _ _ _ => rfl
  have hKB := fun (w1 : World) (hb : Below (w.alloc (.cells #[.int .i64 0, .int .i64 0, .int .i64 0] 87)).heap.size (w.alloc (.cells #[.int .i64 0, .int .i64 0, .int .i64 0] 87)) w1) => show BK w1 bp { x with ex := x.ex ++ [] } from by rw [bdr_same]; exact hA.below hb hA.lt
  have HM := Lib.hid (condition_any bp x 99 _ hA hx)
  clear h hx hA
  go_enter Tryz.func89, Tryz.ntmps89
  go_wp2_with (go_at_call 142; refine HM.out.mono ?_; rintro e w1 ⟨rfl, hb⟩; have HK1 := Lib.hid (hKB w1 hb); have hg := grown_of bp hb; unfold Opd.val; obtain ⟨hf1, hfin⟩ := arg_fin HK1.out hlt hg; obtain ⟨z0, z1, z2, y0, y1, y2⟩ := hf1.three; have HFIN := Lib.hid hfin; clear hb hg hf1 hfin)
  obtain ⟨q1, q2, q3⟩ := HFIN.out (.int .i64 8) (.int .i64 (fieldF 99 x.op 0 0 x.bits.data.toList : Nat)) (.int .i64 0)
  exact bodyPost_ret (results_row1 rfl _ _ w.heap.size 87 _ (0, 0) _ rfl q1 Tryz.underlying87 rfl (by kernel_rfl)) rfl ⟨rfl, q2, q3⟩
set_option maxHeartbeats 2000000 in
set_option maxRecDepth 100000 in
theorem arg_107 (bp : Nat) (x : BdrV) (w : World) (h : BK w bp x) (hx : x.ok) :
    Calls Tryz.prog 89 #[.pointer (some ⟨bp, 0, none⟩), .string ⟨#[107]⟩] w (ArgP w bp x ⟨8, (fieldF 107 x.op 0 0 x.bits.data.toList : Nat), 0⟩ []) := by
  have hlt : bp < w.heap.size := h.lt
  have hA := h.alloc (.cells #[.int .i64 0, .int .i64 0, .int .i64 0] 87)
  have hmf : ∀ (fn : Fn) (first cap : Array Value) (w : World), (Instr.makeFunc fn first cap).run Tryz.prog w = .ok (.func fn first cap) w := fun _ _ _ _ => rfl
  have hKB := fun (w1 : World) (hb : Below (w.alloc (.cells #[.int .i64 0, .int .i64 0, .int .i64 0] 87)).heap.size (w.alloc (.cells #[.int .i64 0, .int .i64 0, .int .i64 0] 87)) w1) => show BK w1 bp { x with ex := x.ex ++ [] } from by rw [bdr_same]; exact hA.below hb hA.lt
  have HM := Lib.hid (condition_any bp x 107 _ hA hx)
  clear h hx hA
  go_enter Tryz.func89, Tryz.ntmps89
  go_wp2_with (go_at_call 142; refine HM.out.mono ?_; rintro e w1 ⟨rfl, hb⟩; have HK1 := Lib.hid (hKB w1 hb); have hg := grown_of bp hb; unfold Opd.val; obtain ⟨hf1, hfin⟩ := arg_fin HK1.out hlt hg; obtain ⟨z0, z1, z2, y0, y1, y2⟩ := hf1.three; have HFIN := Lib.hid hfin; clear hb hg hf1 hfin)
  obtain ⟨q1, q2, q3⟩ := HFIN.out (.int .i64 8) (.int .i64 (fieldF 107 x.op 0 0 x.bits.data.toList : Nat)) (.int .i64 0)
  exact bodyPost_ret (results_row1 rfl _ _ w.heap.size 87 _ (0, 0) _ rfl q1 Tryz.underlying87 rfl (by kernel_rfl)) rfl ⟨rfl, q2, q3⟩
set_option maxHeartbeats 2000000 in
set_option maxRecDepth 100000 in
theorem arg_98 (bp : Nat) (x : BdrV) (w : World) (h : BK w bp x) (hx : x.ok) :
    Calls Tryz.prog 89 #[.pointer (some ⟨bp, 0, none⟩), .string ⟨#[98]⟩] w (ArgP w bp x ⟨6, 0, (fieldF 98 x.op 0 0 x.bits.data.toList : Nat)⟩ []) := by
  have hlt : bp < w.heap.size := h.lt
  have hA := h.alloc (.cells #[.int .i64 0, .int .i64 0, .int .i64 0] 87)
  have hmf : ∀ (fn : Fn) (first cap : Array Value) (w : World), (Instr.makeFunc fn first cap).run Tryz.prog w = .ok (.func fn first cap) w := fun _ _ _ _ => rfl
  have hKB := fun (w1 : World) (hb : Below (w.alloc (.cells #[.int .i64 0, .int .i64 0, .int .i64 0] 87)).heap.size (w.alloc (.cells #[.int .i64 0, .int .i64 0, .int .i64 0] 87)) w1) => show BK w1 bp { x with ex := x.ex ++ [] } from by rw [bdr_same]; exact hA.below hb hA.lt
  have HM := Lib.hid (bit_any bp x 98 _ hA hx)
  clear h hx hA
  go_enter Tryz.func89, Tryz.ntmps89
  go_wp2_with (go_at_call 143; refine HM.out.mono ?_; rintro e w1 ⟨rfl, hb⟩; have HK1 := Lib.hid (hKB w1 hb); have hg := grown_of bp hb; unfold Opd.val; obtain ⟨hf1, hfin⟩ := arg_fin HK1.out hlt hg; obtain ⟨z0, z1, z2, y0, y1, y2⟩ := hf1.three; have HFIN := Lib.hid hfin; clear hb hg hf1 hfin)
  obtain ⟨q1, q2, q3⟩ := HFIN.out (.int .i64 6) (.int .i64 0) (.int .i64 (fieldF 98 x.op 0 0 x.bits.data.toList : Nat))
  exact bodyPost_ret (results_row1 rfl _ _ w.heap.size 87 _ (0, 0) _ rfl q1 Tryz.underlying87 rfl (by kernel_rfl)) rfl ⟨rfl, q2, q3⟩
set_option maxHeartbeats 2000000 in
set_option maxRecDepth 100000 in
theorem arg_116 (bp : Nat) (x : BdrV) (w : World) (h : BK w bp x) (hx : x.ok) :
    Calls Tryz.prog 89 #[.pointer (some ⟨bp, 0, none⟩), .string ⟨#[116]⟩] w (ArgP w bp x ⟨6, 0, (8 * (fieldF 116 x.op 0 0 x.bits.data.toList : Nat))⟩ []) := by
  have hlt : bp < w.heap.size := h.lt
  have hA := h.alloc (.cells #[.int .i64 0, .int .i64 0, .int .i64 0] 87)
  have hmf : ∀ (fn : Fn) (first cap : Array Value) (w : World), (Instr.makeFunc fn first cap).run Tryz.prog w = .ok (.func fn first cap) w := fun _ _ _ _ => rfl
  have hKB := fun (w1 : World) (hb : Below (w.alloc (.cells #[.int .i64 0, .int .i64 0, .int .i64 0] 87)).heap.size (w.alloc (.cells #[.int .i64 0, .int .i64 0, .int .i64 0] 87)) w1) => show BK w1 bp { x with ex := x.ex ++ [] } from by rw [bdr_same]; exact hA.below hb hA.lt
  have HM := Lib.hid (restart_any bp x 116 _ hA hx)
  clear h hx hA
  go_enter Tryz.func89, Tryz.ntmps89
  go_wp2_with (go_at_call 144; refine HM.out.mono ?_; rintro e w1 ⟨rfl, hb⟩; have HK1 := Lib.hid (hKB w1 hb); have hg := grown_of bp hb; unfold Opd.val; obtain ⟨hf1, hfin⟩ := arg_fin HK1.out hlt hg; obtain ⟨z0, z1, z2, y0, y1, y2⟩ := hf1.three; have HFIN := Lib.hid hfin; clear hb hg hf1 hfin)
  obtain ⟨q1, q2, q3⟩ := HFIN.out (.int .i64 6) (.int .i64 0) (.int .i64 (8 * (fieldF 116 x.op 0 0 x.bits.data.toList : Nat)))
  exact bodyPost_ret (results_row1 rfl _ _ w.heap.size 87 _ (0, 0) _ rfl q1 Tryz.underlying87 rfl (by kernel_rfl)) rfl ⟨rfl, q2, q3⟩
set_option maxHeartbeats 2000000 in
set_option maxRecDepth 100000 in
theorem arg_101 (bp : Nat) (x : BdrV) (w : World) (h : BK w bp x) (hx : x.ok) :
    Calls Tryz.prog 89 #[.pointer (some ⟨bp, 0, none⟩), .string ⟨#[101]⟩] w (ArgP w bp x ⟨10, 0, 0⟩ [101]) := by
  have hlt : bp < w.heap.size := h.lt
  have hA := h.alloc (.cells #[.int .i64 0, .int .i64 0, .int .i64 0] 87)
  have hmf : ∀ (fn : Fn) (first cap : Array Value) (w : World), (Instr.makeFunc fn first cap).run Tryz.prog w = .ok (.func fn first cap) w := fun _ _ _ _ => rfl
  have HM := Lib.hid (distance_any bp x 101 _ hA hx)
  clear h hx hA
  go_enter Tryz.func89, Tryz.ntmps89
  go_wp2_with (go_at_call 145; refine HM.out.mono ?_; rintro e w1 ⟨rfl, hk, hg⟩; have HK1 := Lib.hid hk; unfold Opd.val; obtain ⟨hf1, hfin⟩ := arg_fin HK1.out hlt hg; obtain ⟨z0, z1, z2, y0, y1, y2⟩ := hf1.three; have HFIN := Lib.hid hfin; clear hk hg hf1 hfin)
  obtain ⟨q1, q2, q3⟩ := HFIN.out (.int .i64 10) (.int .i64 0) (.int .i64 0)
  exact bodyPost_ret (results_row1 rfl _ _ w.heap.size 87 _ (0, 0) _ rfl q1 Tryz.underlying87 rfl (by kernel_rfl)) rfl ⟨rfl, q2, q3⟩
set_option maxHeartbeats 2000000 in
set_option maxRecDepth 100000 in
theorem arg_110 (bp : Nat) (x : BdrV) (w : World) (h : BK w bp x) (hx : x.ok) :
    Calls Tryz.prog 89 #[.pointer (some ⟨bp, 0, none⟩), .string ⟨#[110]⟩] w (ArgP w bp x ⟨6, 0, 0⟩ [110]) := by
  have hlt : bp < w.heap.size := h.lt
  have hA := h.alloc (.cells #[.int .i64 0, .int .i64 0, .int .i64 0] 87)
  have hmf : ∀ (fn : Fn) (first cap : Array Value) (w : World), (Instr.makeFunc fn first cap).run Tryz.prog w = .ok (.func fn first cap) w := fun _ _ _ _ => rfl
  have HM := Lib.hid (value_any bp x 110 _ hA hx)
  clear h hx hA
  go_enter Tryz.func89, Tryz.ntmps89
  go_wp2_with (go_at_call 146; refine HM.out.mono ?_; rintro e w1 ⟨rfl, hk, hg⟩; have HK1 := Lib.hid hk; unfold Opd.val; obtain ⟨hf1, hfin⟩ := arg_fin HK1.out hlt hg; obtain ⟨z0, z1, z2, y0, y1, y2⟩ := hf1.three; have HFIN := Lib.hid hfin; clear hk hg hf1 hfin)
  obtain ⟨q1, q2, q3⟩ := HFIN.out (.int .i64 6) (.int .i64 0) (.int .i64 0)
  exact bodyPost_ret (results_row1 rfl _ _ w.heap.size 87 _ (0, 0) _ rfl q1 Tryz.underlying87 rfl (by kernel_rfl)) rfl ⟨rfl, q2, q3⟩
set_option maxHeartbeats 2000000 in
set_option maxRecDepth 100000 in
theorem arg_119 (bp : Nat) (x : BdrV) (w : World) (h : BK w bp x) (hx : x.ok) :
    Calls Tryz.prog 89 #[.pointer (some ⟨bp, 0, none⟩), .string ⟨#[119]⟩] w (ArgP w bp x ⟨6, 0, 0⟩ [119]) := by
  have hlt : bp < w.heap.size := h.lt
  have hA := h.alloc (.cells #[.int .i64 0, .int .i64 0, .int .i64 0] 87)
  have hmf : ∀ (fn : Fn) (first cap : Array Value) (w : World), (Instr.makeFunc fn first cap).run Tryz.prog w = .ok (.func fn first cap) w := fun _ _ _ _ => rfl
  have HM := Lib.hid (value_any bp x 119 _ hA hx)
  clear h hx hA
  go_enter Tryz.func89, Tryz.ntmps89
  go_wp2_with (go_at_call 146; refine HM.out.mono ?_; rintro e w1 ⟨rfl, hk, hg⟩; have HK1 := Lib.hid hk; unfold Opd.val; obtain ⟨hf1, hfin⟩ := arg_fin HK1.out hlt hg; obtain ⟨z0, z1, z2, y0, y1, y2⟩ := hf1.three; have HFIN := Lib.hid hfin; clear hk hg hf1 hfin)
  obtain ⟨q1, q2, q3⟩ := HFIN.out (.int .i64 6) (.int .i64 0) (.int .i64 0)
  exact bodyPost_ret (results_row1 rfl _ _ w.heap.size 87 _ (0, 0) _ rfl q1 Tryz.underlying87 rfl (by kernel_rfl)) rfl ⟨rfl, q2, q3⟩
set_option maxHeartbeats 2000000 in
set_option maxRecDepth 100000 in
theorem arg_48 (bp : Nat) (x : BdrV) (w : World) (h : BK w bp x) :
    Calls Tryz.prog 89 #[.pointer (some ⟨bp, 0, none⟩), .string ⟨#[48]⟩] w (ArgP w bp x ⟨6, 0, 0⟩ []) := by
  have hlt : bp < w.heap.size := h.lt
  have hA := h.alloc (.cells #[.int .i64 0, .int .i64 0, .int .i64 0] 87)
  have hmf : ∀ (fn : Fn) (first cap : Array Value) (w : World), (Instr.makeFunc fn first cap).run Tryz.prog w = .ok (.func fn first cap) w := fun _ _ _ _ => rfl
  have hKB := fun (w1 : World) (hb : Below (w.alloc (.cells #[.int .i64 0, .int .i64 0, .int .i64 0] 87)).heap.size (w.alloc (.cells #[.int .i64 0, .int .i64 0, .int .i64 0] 87)) w1) => show BK w1 bp { x with ex := x.ex ++ [] } from by rw [bdr_same]; exact hA.below hb hA.lt
  have HM : Hid (Calls Tryz.prog 147 #[.pointer (some ⟨bp, 0, none⟩), .int .u8 48] (w.alloc (.cells #[.int .i64 0, .int .i64 0, .int .i64 0] 87)) fun e w' => e = .returned (Opd.val ⟨6, 0, 0⟩) ∧ Below (w.alloc (.cells #[.int .i64 0, .int .i64 0, .int .i64 0] 87)).heap.size (w.alloc (.cells #[.int .i64 0, .int .i64 0, .int .i64 0] 87)) w') := zero_any bp 48 _ (by decide)
  clear h hA
  go_enter Tryz.func89, Tryz.ntmps89
  go_wp2_with (go_at_call 147; refine HM.out.mono ?_; rintro e w1 ⟨rfl, hb⟩; have HK1 := Lib.hid (hKB w1 hb); have hg := grown_of bp hb; unfold Opd.val; obtain ⟨hf1, hfin⟩ := arg_fin HK1.out hlt hg; obtain ⟨z0, z1, z2, y0, y1, y2⟩ := hf1.three; have HFIN := Lib.hid hfin; clear hb hg hf1 hfin)
  obtain ⟨q1, q2, q3⟩ := HFIN.out (.int .i64 6) (.int .i64 0) (.int .i64 0)
  exact bodyPost_ret (results_row1 rfl _ _ w.heap.size 87 _ (0, 0) _ rfl q1 Tryz.underlying87 rfl (by kernel_rfl)) rfl ⟨rfl, q2, q3⟩
set_option maxHeartbeats 2000000 in
set_option maxRecDepth 100000 in
theorem arg_49 (bp : Nat) (x : BdrV) (w : World) (h : BK w bp x) :
    Calls Tryz.prog 89 #[.pointer (some ⟨bp, 0, none⟩), .string ⟨#[49]⟩] w (ArgP w bp x ⟨6, 0, 1⟩ []) := by
  have hlt : bp < w.heap.size := h.lt
  have hA := h.alloc (.cells #[.int .i64 0, .int .i64 0, .int .i64 0] 87)
  have hmf : ∀ (fn : Fn) (first cap : Array Value) (w : World), (Instr.makeFunc fn first cap).run Tryz.prog w = .ok (.func fn first cap) w := fun _ _ _ _ => rfl
  have hKB := fun (w1 : World) (hb : Below (w.alloc (.cells #[.int .i64 0, .int .i64 0, .int .i64 0] 87)).heap.size (w.alloc (.cells #[.int .i64 0, .int .i64 0, .int .i64 0] 87)) w1) => show BK w1 bp { x with ex := x.ex ++ [] } from by rw [bdr_same]; exact hA.below hb hA.lt
  have HM : Hid (Calls Tryz.prog 147 #[.pointer (some ⟨bp, 0, none⟩), .int .u8 49] (w.alloc (.cells #[.int .i64 0, .int .i64 0, .int .i64 0] 87)) fun e w' => e = .returned (Opd.val ⟨6, 0, 1⟩) ∧ Below (w.alloc (.cells #[.int .i64 0, .int .i64 0, .int .i64 0] 87)).heap.size (w.alloc (.cells #[.int .i64 0, .int .i64 0, .int .i64 0] 87)) w') := zero_any bp 49 _ (by decide)
  clear h hA
  go_enter Tryz.func89, Tryz.ntmps89
  go_wp2_with (go_at_call 147; refine HM.out.mono ?_; rintro e w1 ⟨rfl, hb⟩; have HK1 := Lib.hid (hKB w1 hb); have hg := grown_of bp hb; unfold Opd.val; obtain ⟨hf1, hfin⟩ := arg_fin HK1.out hlt hg; obtain ⟨z0, z1, z2, y0, y1, y2⟩ := hf1.three; have HFIN := Lib.hid hfin; clear hb hg hf1 hfin)
  obtain ⟨q1, q2, q3⟩ := HFIN.out (.int .i64 6) (.int .i64 0) (.int .i64 1)
  exact bodyPost_ret (results_row1 rfl _ _ w.heap.size 87 _ (0, 0) _ rfl q1 Tryz.underlying87 rfl (by kernel_rfl)) rfl ⟨rfl, q2, q3⟩
set_option maxHeartbeats 2000000 in
set_option maxRecDepth 100000 in
theorem arg_50 (bp : Nat) (x : BdrV) (w : World) (h : BK w bp x) :
    Calls Tryz.prog 89 #[.pointer (some ⟨bp, 0, none⟩), .string ⟨#[50]⟩] w (ArgP w bp x ⟨6, 0, 2⟩ []) := by
  have hlt : bp < w.heap.size := h.lt
  have hA := h.alloc (.cells #[.int .i64 0, .int .i64 0, .int .i64 0] 87)
  have hmf : ∀ (fn : Fn) (first cap : Array Value) (w : World), (Instr.makeFunc fn first cap).run Tryz.prog w = .ok (.func fn first cap) w := fun _ _ _ _ => rfl
  have hKB := fun (w1 : World) (hb : Below (w.alloc (.cells #[.int .i64 0, .int .i64 0, .int .i64 0] 87)).heap.size (w.alloc (.cells #[.int .i64 0, .int .i64 0, .int .i64 0] 87)) w1) => show BK w1 bp { x with ex := x.ex ++ [] } from by rw [bdr_same]; exact hA.below hb hA.lt
  have HM : Hid (Calls Tryz.prog 147 #[.pointer (some ⟨bp, 0, none⟩), .int .u8 50] (w.alloc (.cells #[.int .i64 0, .int .i64 0, .int .i64 0] 87)) fun e w' => e = .returned (Opd.val ⟨6, 0, 2⟩) ∧ Below (w.alloc (.cells #[.int .i64 0, .int .i64 0, .int .i64 0] 87)).heap.size (w.alloc (.cells #[.int .i64 0, .int .i64 0, .int .i64 0] 87)) w') := zero_any bp 50 _ (by decide)
  clear h hA
  go_enter Tryz.func89, Tryz.ntmps89
  go_wp2_with (go_at_call 147; refine HM.out.mono ?_; rintro e w1 ⟨rfl, hb⟩; have HK1 := Lib.hid (hKB w1 hb); have hg := grown_of bp hb; unfold Opd.val; obtain ⟨hf1, hfin⟩ := arg_fin HK1.out hlt hg; obtain ⟨z0, z1, z2, y0, y1, y2⟩ := hf1.three; have HFIN := Lib.hid hfin; clear hb hg hf1 hfin)
  obtain ⟨q1, q2, q3⟩ := HFIN.out (.int .i64 6) (.int .i64 0) (.int .i64 2)
  exact bodyPost_ret (results_row1 rfl _ _ w.heap.size 87 _ (0, 0) _ rfl q1 Tryz.underlying87 rfl (by kernel_rfl)) rfl ⟨rfl, q2, q3⟩
end Go.Proofs.YtlepicdjnbbndaaGreatDoor
