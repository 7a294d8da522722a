/-
  table.named; the methods of table.builder. Conditions: sizes; the library's table as its initialiser lays it.
-/
import Derived.Test.YtlepicdjnbbndaaGreatDoorT7
namespace Go.Proofs.YtlepicdjnbbndaaGreatDoor
open Go.RowKit Go.Shelf

/-- a builder's cells -/
def bdr (pg : Int) (op : Nat) (iop : ByteArray) (ia : Value) (ex : List UInt8) (al : Bool) (bits rop : ByteArray) (ra : Value) (ral : Bool) : Array Value :=
  #[.int .i64 pg, .int .u8 op, .string iop, ia, .string ⟨ex.toArray⟩, .bool al, .string bits, .string rop, ra, .bool ral]
/-- a builder in memory -/
structure BdrV where
  pg : Int
  op : Nat
  iop : ByteArray
  ia : Value
  ex : List UInt8
  al : Bool
  bits : ByteArray
  rop : ByteArray
  ra : Value
  ral : Bool
def BdrV.cells (x : BdrV) : Array Value := bdr x.pg x.op x.iop x.ia x.ex x.al x.bits x.rop x.ra x.ral
structure BdrV.ok (x : BdrV) : Prop where
  op : x.op < 256
  bits : x.bits.size ≤ 8
  ex : x.ex.length ≤ 100
  ra : ∃ a n c, x.ra = .slice a n c
  ia : ∃ a n c, x.ia = .slice a n c
abbrev BK (w : World) (bp : Nat) (x : BdrV) : Prop := Blk w bp 131 x.cells
set_option maxHeartbeats 2000000 in
set_option maxRecDepth 100000 in
theorem number_any' (bp : Nat) (x : BdrV) (c : UInt8) (w : World) (h : BK w bp x) (hx : x.ok) :
    Calls Tryz.prog 175 #[.pointer (some ⟨bp, 0, none⟩), .int .u8 c.toNat] w fun e w' => e = .returned (.int .i64 (fieldF c x.op 0 0 x.bits.data.toList)) ∧ Below w.heap.size w w' := by
  obtain ⟨pg, op, iop, ia, ex, al, bits, rop, ra, ral⟩ := x
  obtain ⟨h1, h2, _, ⟨ra1, ra2, ra3, h4⟩, _⟩ := hx
  simp only at h1 h2 h4
  subst h4
  have c1 : w.cell? ⟨bp, 1, none⟩ = some (.int .u8 op) := h.cell 1
  have c6 : w.cell? ⟨bp, 6, none⟩ = some (.string bits) := h.cell 6
  have c7 : w.cell? ⟨bp, 7, none⟩ = some (.string rop) := h.cell 7
  have c8 : w.cell? ⟨bp, 8, none⟩ = some (.slice ra1 ra2 ra3) := h.cell 8
  have c9 : w.cell? ⟨bp, 9, none⟩ = some (.bool ral) := h.cell 9
  have HF := Lib.hid (fun W => field_any bits rop (.slice ra1 ra2 ra3) ral c op W h2 h1 ⟨_, _, _, rfl⟩)
  show Calls _ _ _ _ fun e w' => e = .returned (.int .i64 (fieldF c op 0 0 bits.data.toList)) ∧ _
  generalize (fieldF c op 0 0 bits.data.toList) = r at *
  clear h h1 h2
  go_enter Tryz.func175, Tryz.ntmps175
  go_upto_region 1 with fail
  go_region_held3 (fun w' => w'.cell? ⟨bp, 1, none⟩ = some (.int .u8 op) ∧ w'.cell? ⟨bp, 6, none⟩ = some (.string bits) ∧ w'.cell? ⟨bp, 7, none⟩ = some (.string rop) ∧ w'.cell? ⟨bp, 8, none⟩ = some (.slice ra1 ra2 ra3) ∧ w'.cell? ⟨bp, 9, none⟩ = some (.bool ral)) (go_keep)
    (first | (go_at_call 200; refine (HF.out _).mono ?_; rintro e w2 ⟨rfl, hb⟩; have d1 := (hb.cell (World.block_lt_of_cell? _ _ (show w.drew.cell? ⟨bp, 1, none⟩ = _ from c1))).trans c1; have d6 := (hb.cell (World.block_lt_of_cell? _ _ (show w.drew.cell? ⟨bp, 6, none⟩ = _ from c6))).trans c6; have d7 := (hb.cell (World.block_lt_of_cell? _ _ (show w.drew.cell? ⟨bp, 7, none⟩ = _ from c7))).trans c7; have d8 := (hb.cell (World.block_lt_of_cell? _ _ (show w.drew.cell? ⟨bp, 8, none⟩ = _ from c8))).trans c8; have d9 := (hb.cell (World.block_lt_of_cell? _ _ (show w.drew.cell? ⟨bp, 9, none⟩ = _ from c9))).trans c9; have HB := Lib.hid ((Below.refl w.heap.size w).drew.trans (show Below w.heap.size w.drew w2 from hb)); clear hb))
  go_wp2
  go_ret
  exact ⟨rfl, HB.out⟩
set_option maxHeartbeats 2000000 in
set_option maxRecDepth 100000 in
theorem named_any' (list : ByteArray) (n : Nat) (x : List UInt8) (o : Opd) (w : World) (hx : (Lib.fields list.data.toList)[n]? = some x) (ho : wordF x = some o) (hxl : x.length ≤ 1000) (hl : list.size ≤ 1000) (ha : ∀ (j : Nat) b, list.data.toList[j]? = some b → b.toNat < 128) (hT : Spc w) :
    Calls Tryz.prog 174 #[.string list, .int .i64 n] w fun e w' => e = .returned o.val ∧ Below w.heap.size w w' := by
  have hal := (Below.refl w.heap.size w).alloc (Nat.le_refl _) (.cells #[.int .i64 0, .int .i64 0, .int .i64 0] 87)
  have hfl := Tryz.strings_Fields list (w.alloc (.cells #[.int .i64 0, .int .i64 0, .int .i64 0] 87)) (by omega) ha (hT.below hal)
  have hn : n < (Lib.fields list.data.toList).length := (List.getElem?_eq_some_iff.1 hx).1
  have hF := Blk.new w 87 #[.int .i64 0, .int .i64 0, .int .i64 0]
  have HFL : Hid (Calls Tryz.prog 135 #[.string list] (w.alloc (.cells #[.int .i64 0, .int .i64 0, .int .i64 0] 87)) fun e w' => ∃ g m : Nat, e = .returned (.slice (some ⟨g, 0, none⟩) m m) ∧ n < m ∧ w'.cell? ⟨g, n, none⟩ = some (.string ⟨x.toArray⟩) ∧ Blk w' w.heap.size 87 #[.int .i64 0, .int .i64 0, .int .i64 0] ∧ Below w.heap.size w w') := hfl.mono fun e w' ⟨h1, h2⟩ => by
    subst h2
    refine ⟨_, _, h1, hn, ?_, hF.alloc _, hal.alloc hal.size _⟩
    have hb := Blk.new (w.alloc (.cells #[.int .i64 0, .int .i64 0, .int .i64 0] 87)) 9 ((Lib.fields list.data.toList).map fun l => Value.string ⟨l.toArray⟩).toArray
    unfold World.cell?
    rw [show ((w.alloc (.cells #[.int .i64 0, .int .i64 0, .int .i64 0] 87)).alloc (.cells ((Lib.fields list.data.toList).map fun l => Value.string ⟨l.toArray⟩).toArray 9)).heap[(w.alloc (.cells #[.int .i64 0, .int .i64 0, .int .i64 0] 87)).heap.size]? = _ from hb]
    show ((Lib.fields list.data.toList).map fun l => Value.string ⟨l.toArray⟩).toArray[n]? = _
    rw [List.getElem?_toArray, List.getElem?_map, hx]; rfl
  have HWD := Lib.hid (fun W => tword_any ⟨x.toArray⟩ o W (by rw [show (⟨x.toArray⟩ : ByteArray).data.toList = x by simp]; exact ho) (by show x.toArray.size ≤ _; rw [List.size_toArray]; exact hxl))
  have hn0 : (0 : Int) ≤ (n : Int) := by omega
  clear hfl hal hF ho hx hxl hl ha hT hn
  obtain ⟨ok, orr, on⟩ := o
  go_enter Tryz.func174, Tryz.ntmps174
  go_wp2_with (first
    | (go_at_call 135; go_loud (refine HFL.out.mono ?_; rintro e w1 ⟨g, m, rfl, hn1, d0, hf, hb⟩; have hn2 : (n : Int) < (m : Int) := (by omega); have HF1 := Lib.hid hf; have HB1 := Lib.hid hb; clear hf hb))
    | (go_at_call 137; refine (HWD.out _).mono ?_; rintro e w2 ⟨rfl, hb⟩; unfold Opd.val; have HF2 := Lib.hid (HF1.out.below hb HF1.out.lt); have HB2 := Lib.hid (HB1.out.trans (hb.mono HB1.out.size)); obtain ⟨z0, z1, z2, y0, y1, y2⟩ := HF2.out.three; clear hb))
  refine bodyPost_ret (results_row1 rfl _ _ w.heap.size 87 #[.int .i64 ok, .int .i64 orr, .int .i64 on] (0, 0) _ rfl (show Blk _ w.heap.size 87 #[.int .i64 ok, .int .i64 orr, .int .i64 on] from ((HF2.out.set 0 _).set 1 _).set 2 _) Tryz.underlying87 rfl (by kernel_rfl)) rfl ⟨rfl, ?_⟩
  exact ((HB2.out.setCell (Nat.le_refl _) _).setCell (Nat.le_refl _) _).setCell (Nat.le_refl _) _
end Go.Proofs.YtlepicdjnbbndaaGreatDoor
