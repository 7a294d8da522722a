/-
  The methods of table.builder. Conditions: sizes; the library's table as its initialiser lays it.
-/
import Derived.Test.YtlepicdjnbbndaaGreatDoorT8
namespace Go.Proofs.YtlepicdjnbbndaaGreatDoor
open Go.RowKit Go.Shelf

theorem fieldF_lt (c : UInt8) (op : Nat) : ∀ (l : List UInt8) (i acc : Nat), acc < 2 ^ i → fieldF c op i acc l < 2 ^ (i + l.length)
  | [], i, acc, h => h
  | x :: r, i, acc, h => by
    have h2 : op / 2 ^ (7 - i) % 2 < 2 := Nat.mod_lt _ (by omega)
    have h3 : 2 ^ (i + 1) = 2 * 2 ^ i := by rw [Nat.pow_succ, Nat.mul_comm]
    rw [fieldF, List.length_cons, show i + (r.length + 1) = i + 1 + r.length by omega]
    refine fieldF_lt c op r (i + 1) _ ?_
    split <;> omega
theorem field_256 (x : BdrV) (hx : x.ok) (c : UInt8) : fieldF c x.op 0 0 x.bits.data.toList < 256 := by
  have h := fieldF_lt c x.op x.bits.data.toList 0 0 (by decide)
  have h2 : x.bits.data.toList.length ≤ 8 := by have := hx.bits; simpa using this
  have h3 : 2 ^ (0 + x.bits.data.toList.length) ≤ 2 ^ 8 := Nat.pow_le_pow_right (by omega) (by omega)
  omega
def listR : List UInt8 := [66, 32, 67, 32, 68, 32, 69, 32, 72, 32, 76, 32, 40, 72, 76, 41, 32, 65]
def listP : List UInt8 := [66, 67, 32, 68, 69, 32, 72, 76, 32, 83, 80]
def listQ : List UInt8 := [66, 67, 32, 68, 69, 32, 72, 76, 32, 65, 70]
set_option maxHeartbeats 2000000 in
set_option maxRecDepth 100000 in
theorem register_any (bp : Nat) (x : BdrV) (c : UInt8) (y : List UInt8) (o : Opd) (w : World) (h : BK w bp x) (hx : x.ok) (hy : (Lib.fields listR)[fieldF c x.op 0 0 x.bits.data.toList]? = some y) (ho : wordF y = some o) (hyl : y.length ≤ 1000) (hT : Spc w) :
    Calls Tryz.prog 139 #[.pointer (some ⟨bp, 0, none⟩), .int .u8 c.toNat] w fun e w' => e = .returned o.val ∧ Below w.heap.size w w' := by
  have hal := (Below.refl w.heap.size w).alloc (Nat.le_refl _) (.cells #[.int .i64 0, .int .i64 0, .int .i64 0] 87)
  have HF := Lib.hid (Blk.new w 87 #[.int .i64 0, .int .i64 0, .int .i64 0])
  have HB := Lib.hid hal
  have HN := Lib.hid (number_any' bp x c _ (h.below hal h.lt) hx)
  have hasc : ∀ b ∈ listR, b.toNat < 128 := by decide
  have HD := Lib.hid (fun W hT => named_any' ⟨listR.toArray⟩ _ y o W hy ho hyl (by decide) (fun j b hb => hasc b (List.mem_of_getElem? hb)) hT)
  have HT := Lib.hid hT
  unfold listR at HD
  clear h hx hy ho hyl hT hal hasc
  generalize fieldF c x.op 0 0 x.bits.data.toList = n at *
  obtain ⟨ok, orr, on⟩ := o
  go_enter Tryz.func139, Tryz.ntmps139
  go_wp2_with (first
    | (go_at_call 175; refine HN.out.mono ?_; rintro e w1 ⟨rfl, hb⟩; have HF1 := Lib.hid (HF.out.below hb HF.out.lt); have HB1 := Lib.hid (HB.out.trans (hb.mono HB.out.size)); obtain ⟨z0, z1, z2, y0, y1, y2⟩ := HF1.out.three; clear hb)
    | (go_at_call 174; refine (HD.out _ (HT.out.below HB1.out)).mono ?_; rintro e w2 ⟨rfl, hb⟩; unfold Opd.val; have HF2 := Lib.hid (HF1.out.below hb HF1.out.lt); have HB2 := Lib.hid (HB1.out.trans (hb.mono HB1.out.size)); clear z0 z1 z2 y0 y1 y2; obtain ⟨z0, z1, z2, y0, y1, y2⟩ := HF2.out.three; clear hb))
  refine bodyPost_ret (results_row1 rfl _ _ w.heap.size 87 #[.int .i64 ok, .int .i64 orr, .int .i64 on] (0, 0) _ rfl (show Blk _ w.heap.size 87 #[.int .i64 ok, .int .i64 orr, .int .i64 on] from ((HF2.out.set 0 _).set 1 _).set 2 _) Tryz.underlying87 rfl (by kernel_rfl)) rfl ⟨rfl, ?_⟩
  exact ((HB2.out.setCell (Nat.le_refl _) _).setCell (Nat.le_refl _) _).setCell (Nat.le_refl _) _
set_option maxHeartbeats 2000000 in
set_option maxRecDepth 100000 in
theorem pair_any (bp : Nat) (x : BdrV) (c : UInt8) (y : List UInt8) (o : Opd) (w : World) (h : BK w bp x) (hx : x.ok) (hy : (Lib.fields listP)[fieldF c x.op 0 0 x.bits.data.toList]? = some y) (ho : wordF y = some o) (hyl : y.length ≤ 1000) (hT : Spc w) :
    Calls Tryz.prog 140 #[.pointer (some ⟨bp, 0, none⟩), .int .u8 c.toNat] w fun e w' => e = .returned o.val ∧ Below w.heap.size w w' := by
  have hal := (Below.refl w.heap.size w).alloc (Nat.le_refl _) (.cells #[.int .i64 0, .int .i64 0, .int .i64 0] 87)
  have HF := Lib.hid (Blk.new w 87 #[.int .i64 0, .int .i64 0, .int .i64 0])
  have HB := Lib.hid hal
  have HN := Lib.hid (number_any' bp x c _ (h.below hal h.lt) hx)
  have hasc : ∀ b ∈ listP, b.toNat < 128 := by decide
  have HD := Lib.hid (fun W hT => named_any' ⟨listP.toArray⟩ _ y o W hy ho hyl (by decide) (fun j b hb => hasc b (List.mem_of_getElem? hb)) hT)
  have HT := Lib.hid hT
  unfold listP at HD
  clear h hx hy ho hyl hT hal hasc
  generalize fieldF c x.op 0 0 x.bits.data.toList = n at *
  obtain ⟨ok, orr, on⟩ := o
  go_enter Tryz.func140, Tryz.ntmps140
  go_wp2_with (first
    | (go_at_call 175; refine HN.out.mono ?_; rintro e w1 ⟨rfl, hb⟩; have HF1 := Lib.hid (HF.out.below hb HF.out.lt); have HB1 := Lib.hid (HB.out.trans (hb.mono HB.out.size)); obtain ⟨z0, z1, z2, y0, y1, y2⟩ := HF1.out.three; clear hb)
    | (go_at_call 174; refine (HD.out _ (HT.out.below HB1.out)).mono ?_; rintro e w2 ⟨rfl, hb⟩; unfold Opd.val; have HF2 := Lib.hid (HF1.out.below hb HF1.out.lt); have HB2 := Lib.hid (HB1.out.trans (hb.mono HB1.out.size)); clear z0 z1 z2 y0 y1 y2; obtain ⟨z0, z1, z2, y0, y1, y2⟩ := HF2.out.three; clear hb))
  refine bodyPost_ret (results_row1 rfl _ _ w.heap.size 87 #[.int .i64 ok, .int .i64 orr, .int .i64 on] (0, 0) _ rfl (show Blk _ w.heap.size 87 #[.int .i64 ok, .int .i64 orr, .int .i64 on] from ((HF2.out.set 0 _).set 1 _).set 2 _) Tryz.underlying87 rfl (by kernel_rfl)) rfl ⟨rfl, ?_⟩
  exact ((HB2.out.setCell (Nat.le_refl _) _).setCell (Nat.le_refl _) _).setCell (Nat.le_refl _) _
set_option maxHeartbeats 2000000 in
set_option maxRecDepth 100000 in
theorem stack_any (bp : Nat) (x : BdrV) (c : UInt8) (y : List UInt8) (o : Opd) (w : World) (h : BK w bp x) (hx : x.ok) (hy : (Lib.fields listQ)[fieldF c x.op 0 0 x.bits.data.toList]? = some y) (ho : wordF y = some o) (hyl : y.length ≤ 1000) (hT : Spc w) :
    Calls Tryz.prog 141 #[.pointer (some ⟨bp, 0, none⟩), .int .u8 c.toNat] w fun e w' => e = .returned o.val ∧ Below w.heap.size w w' := by
  have hal := (Below.refl w.heap.size w).alloc (Nat.le_refl _) (.cells #[.int .i64 0, .int .i64 0, .int .i64 0] 87)
  have HF := Lib.hid (Blk.new w 87 #[.int .i64 0, .int .i64 0, .int .i64 0])
  have HB := Lib.hid hal
  have HN := Lib.hid (number_any' bp x c _ (h.below hal h.lt) hx)
  have hasc : ∀ b ∈ listQ, b.toNat < 128 := by decide
  have HD := Lib.hid (fun W hT => named_any' ⟨listQ.toArray⟩ _ y o W hy ho hyl (by decide) (fun j b hb => hasc b (List.mem_of_getElem? hb)) hT)
  have HT := Lib.hid hT
  unfold listQ at HD
  clear h hx hy ho hyl hT hal hasc
  generalize fieldF c x.op 0 0 x.bits.data.toList = n at *
  obtain ⟨ok, orr, on⟩ := o
  go_enter Tryz.func141, Tryz.ntmps141
  go_wp2_with (first
    | (go_at_call 175; refine HN.out.mono ?_; rintro e w1 ⟨rfl, hb⟩; have HF1 := Lib.hid (HF.out.below hb HF.out.lt); have HB1 := Lib.hid (HB.out.trans (hb.mono HB.out.size)); obtain ⟨z0, z1, z2, y0, y1, y2⟩ := HF1.out.three; clear hb)
    | (go_at_call 174; refine (HD.out _ (HT.out.below HB1.out)).mono ?_; rintro e w2 ⟨rfl, hb⟩; unfold Opd.val; have HF2 := Lib.hid (HF1.out.below hb HF1.out.lt); have HB2 := Lib.hid (HB1.out.trans (hb.mono HB1.out.size)); clear z0 z1 z2 y0 y1 y2; obtain ⟨z0, z1, z2, y0, y1, y2⟩ := HF2.out.three; clear hb))
  refine bodyPost_ret (results_row1 rfl _ _ w.heap.size 87 #[.int .i64 ok, .int .i64 orr, .int .i64 on] (0, 0) _ rfl (show Blk _ w.heap.size 87 #[.int .i64 ok, .int .i64 orr, .int .i64 on] from ((HF2.out.set 0 _).set 1 _).set 2 _) Tryz.underlying87 rfl (by kernel_rfl)) rfl ⟨rfl, ?_⟩
  exact ((HB2.out.setCell (Nat.le_refl _) _).setCell (Nat.le_refl _) _).setCell (Nat.le_refl _) _
set_option maxHeartbeats 2000000 in
set_option maxRecDepth 100000 in
theorem condition_any (bp : Nat) (x : BdrV) (c : UInt8) (w : World) (h : BK w bp x) (hx : x.ok) :
    Calls Tryz.prog 142 #[.pointer (some ⟨bp, 0, none⟩), .int .u8 c.toNat] w fun e w' => e = .returned (Opd.val ⟨8, (fieldF c x.op 0 0 x.bits.data.toList : Nat), 0⟩) ∧ Below w.heap.size w w' := by
  have hal := (Below.refl w.heap.size w).alloc (Nat.le_refl _) (.cells #[.int .i64 0, .int .i64 0, .int .i64 0] 87)
  have HF := Lib.hid (Blk.new w 87 #[.int .i64 0, .int .i64 0, .int .i64 0])
  have HB := Lib.hid hal
  have HN := Lib.hid (number_any' bp x c _ (h.below hal h.lt) hx)
  have hlt := field_256 x hx c
  generalize fieldF c x.op 0 0 x.bits.data.toList = n at *
  have hn1 : (n : Int) ≤ 255 := by omega
  clear h hx hal hlt
  go_enter Tryz.func142, Tryz.ntmps142
  go_wp2_with (go_at_call 175; refine HN.out.mono ?_; rintro e w1 ⟨rfl, hb⟩; have HF1 := Lib.hid (HF.out.below hb HF.out.lt); have HB1 := Lib.hid (HB.out.trans (hb.mono HB.out.size)); obtain ⟨z0, z1, z2, y0, y1, y2⟩ := HF1.out.three; clear hb)
  refine bodyPost_ret (results_row1 rfl _ _ w.heap.size 87 #[.int .i64 8, .int .i64 (n : Int), .int .i64 0] (0, 0) _ rfl (show Blk _ w.heap.size 87 #[.int .i64 8, .int .i64 (n : Int), .int .i64 0] from ((HF1.out.set 0 _).set 1 _).set 2 _) Tryz.underlying87 rfl (by kernel_rfl)) rfl ⟨rfl, ?_⟩
  exact ((HB1.out.setCell (Nat.le_refl _) _).setCell (Nat.le_refl _) _).setCell (Nat.le_refl _) _
set_option maxHeartbeats 2000000 in
set_option maxRecDepth 100000 in
theorem bit_any (bp : Nat) (x : BdrV) (c : UInt8) (w : World) (h : BK w bp x) (hx : x.ok) :
    Calls Tryz.prog 143 #[.pointer (some ⟨bp, 0, none⟩), .int .u8 c.toNat] w fun e w' => e = .returned (Opd.val ⟨6, 0, (fieldF c x.op 0 0 x.bits.data.toList : Nat)⟩) ∧ Below w.heap.size w w' := by
  have hal := (Below.refl w.heap.size w).alloc (Nat.le_refl _) (.cells #[.int .i64 0, .int .i64 0, .int .i64 0] 87)
  have HF := Lib.hid (Blk.new w 87 #[.int .i64 0, .int .i64 0, .int .i64 0])
  have HB := Lib.hid hal
  have HN := Lib.hid (number_any' bp x c _ (h.below hal h.lt) hx)
  have hlt := field_256 x hx c
  generalize fieldF c x.op 0 0 x.bits.data.toList = n at *
  have hn1 : (n : Int) ≤ 255 := by omega
  clear h hx hal hlt
  go_enter Tryz.func143, Tryz.ntmps143
  go_wp2_with (go_at_call 175; refine HN.out.mono ?_; rintro e w1 ⟨rfl, hb⟩; have HF1 := Lib.hid (HF.out.below hb HF.out.lt); have HB1 := Lib.hid (HB.out.trans (hb.mono HB.out.size)); obtain ⟨z0, z1, z2, y0, y1, y2⟩ := HF1.out.three; clear hb)
  refine bodyPost_ret (results_row1 rfl _ _ w.heap.size 87 #[.int .i64 6, .int .i64 0, .int .i64 (n : Int)] (0, 0) _ rfl (show Blk _ w.heap.size 87 #[.int .i64 6, .int .i64 0, .int .i64 (n : Int)] from ((HF1.out.set 0 _).set 1 _).set 2 _) Tryz.underlying87 rfl (by kernel_rfl)) rfl ⟨rfl, ?_⟩
  exact ((HB1.out.setCell (Nat.le_refl _) _).setCell (Nat.le_refl _) _).setCell (Nat.le_refl _) _
set_option maxHeartbeats 2000000 in
set_option maxRecDepth 100000 in
theorem restart_any (bp : Nat) (x : BdrV) (c : UInt8) (w : World) (h : BK w bp x) (hx : x.ok) :
    Calls Tryz.prog 144 #[.pointer (some ⟨bp, 0, none⟩), .int .u8 c.toNat] w fun e w' => e = .returned (Opd.val ⟨6, 0, (8 * (fieldF c x.op 0 0 x.bits.data.toList : Nat))⟩) ∧ Below w.heap.size w w' := by
  have hal := (Below.refl w.heap.size w).alloc (Nat.le_refl _) (.cells #[.int .i64 0, .int .i64 0, .int .i64 0] 87)
  have HF := Lib.hid (Blk.new w 87 #[.int .i64 0, .int .i64 0, .int .i64 0])
  have HB := Lib.hid hal
  have HN := Lib.hid (number_any' bp x c _ (h.below hal h.lt) hx)
  have hlt := field_256 x hx c
  generalize fieldF c x.op 0 0 x.bits.data.toList = n at *
  have hn1 : (n : Int) ≤ 255 := by omega
  clear h hx hal hlt
  go_enter Tryz.func144, Tryz.ntmps144
  go_wp2_with (go_at_call 175; refine HN.out.mono ?_; rintro e w1 ⟨rfl, hb⟩; have HF1 := Lib.hid (HF.out.below hb HF.out.lt); have HB1 := Lib.hid (HB.out.trans (hb.mono HB.out.size)); obtain ⟨z0, z1, z2, y0, y1, y2⟩ := HF1.out.three; clear hb)
  refine bodyPost_ret (results_row1 rfl _ _ w.heap.size 87 #[.int .i64 6, .int .i64 0, .int .i64 (8 * (n : Int))] (0, 0) _ rfl (show Blk _ w.heap.size 87 #[.int .i64 6, .int .i64 0, .int .i64 (8 * (n : Int))] from ((HF1.out.set 0 _).set 1 _).set 2 _) Tryz.underlying87 rfl (by kernel_rfl)) rfl ⟨rfl, ?_⟩
  exact ((HB1.out.setCell (Nat.le_refl _) _).setCell (Nat.le_refl _) _).setCell (Nat.le_refl _) _
end Go.Proofs.YtlepicdjnbbndaaGreatDoor
