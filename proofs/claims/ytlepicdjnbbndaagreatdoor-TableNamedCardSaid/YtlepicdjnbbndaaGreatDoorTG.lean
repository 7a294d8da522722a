/-
  table.At on the pages without index; the loop of indexed. Conditions: sizes; the library's table as its initialiser lays it.
-/
import Derived.Test.YtlepicdjnbbndaaGreatDoorTE
/-
  table.find, where no rule fits. Conditions: sizes; the library's table as its initialiser lays it.
-/
namespace Go.Proofs.YtlepicdjnbbndaaGreatDoor
open Go.RowKit Go.Shelf Go.Sort

set_option maxHeartbeats 4000000 in
set_option maxRecDepth 100000 in
theorem tfind_none (pg : Int) (s : ByteArray) (op : Nat) (w : World) (hop : op < 256) (hs : s.size ≤ 1000000) (hl : lookF op (splitC s.data.toList) = none) :
    Calls Tryz.prog 45 #[.int .i64 pg, .string s, .int .u8 op] w fun e w' => e = .returned (.tuple #[ent0, .bool false]) ∧ Below w.heap.size w w' := by
  have hb0 := (Below.refl w.heap.size w).alloc (Nat.le_refl _) (.cells #[.int .i64 0, .int .u8 0, .string ⟨#[]⟩, .slice none 0 0, .string ⟨#[]⟩, .bool false] 27)
  have HB0 := Lib.hid hb0
  have HF0 := Lib.hid (Blk.new w 27 #[.int .i64 0, .int .u8 0, .string ⟨#[]⟩, .slice none 0 0, .string ⟨#[]⟩, .bool false])
  have HLK := Lib.hid (fun W => lookup_any s op hop W hs)
  rw [hl] at HLK
  unfold lookP at HLK
  dsimp only at HLK
  clear hb0 hl hs hop
  go_enter Tryz.func45, Tryz.ntmps45
  go_wp2_with (go_at_call 68; refine (HLK.out _).mono ?_; rintro e w2 ⟨rfl, hb⟩; have HB2 := Lib.hid (HB0.out.trans (hb.mono HB0.out.size)); have hF2 := HF0.out.below hb HF0.out.lt; have e0 := hF2.cell 0; have e1 := hF2.cell 1; have e2 := hF2.cell 2; have e3 := hF2.cell 3; have e4 := hF2.cell 4; have e5 := hF2.cell 5; have z0 := hF2.free 0; have z1 := hF2.free 1; have z2 := hF2.free 2; have z3 := hF2.free 3; have z4 := hF2.free 4; have z5 := hF2.free 5; have HF2 := Lib.hid hF2; clear hb hF2)
  refine bodyPost_ret (results_row_tmp rfl _ _ w.heap.size 27 #[.int .i64 0, .int .u8 0, .string ⟨#[]⟩, .slice none 0 0, .string ⟨#[]⟩, .bool false] (0, 0) _ rfl (entry6 HF2.out _ _ _ _ _ _) Tryz.underlying27 rfl (by kernel_rfl)) rfl ⟨rfl, ?_⟩
  exact set6_below HB2.out (Nat.le_refl _) _ _ _ _ _ _
end Go.Proofs.YtlepicdjnbbndaaGreatDoor

/-
  table.At on the pages without index. Conditions: sizes; the library's table as its initialiser lays it.
-/
namespace Go.Proofs.YtlepicdjnbbndaaGreatDoor
open Go.RowKit Go.Shelf Go.Sort

end Go.Proofs.YtlepicdjnbbndaaGreatDoor

/-
  table.indexed, its loop. Conditions: sizes.
-/
namespace Go.Proofs.YtlepicdjnbbndaaGreatDoor
open Go.RowKit Go.Shelf Go.Sort

/-- an operand changed for an index register -/
def xchg (reg : Int) (o : Opd) : Option Opd :=
  if opdEq o ⟨4, 2, 0⟩ = true then some ⟨4, reg, 0⟩ else if opdEq o ⟨3, 2, 0⟩ = true then some ⟨3, reg, 0⟩
  else if o.kind = 1 ∧ o.reg = 4 then some ⟨2, 2 * (reg - 5), 0⟩ else if o.kind = 1 ∧ o.reg = 5 then some ⟨2, 2 * (reg - 5) + 1, 0⟩ else none
def xmap (reg : Int) (l : List Opd) : List Opd := l.map fun o => (xchg reg o).getD o
def xany (reg : Int) (l : List Opd) : Bool := l.any fun o => (xchg reg o).isSome
/-- the list while its operands change -/
def xmix (reg : Int) (l : List Opd) (k : Nat) : List Opd := xmap reg (l.take k) ++ l.drop k
theorem xmix_len (reg : Int) (l : List Opd) (k : Nat) : (xmix reg l k).length = l.length := by
  unfold xmix xmap; rw [List.length_append, List.length_map, List.length_take, List.length_drop]; omega
theorem xmix_zero (reg : Int) (l : List Opd) : xmix reg l 0 = l := by unfold xmix xmap; simp
theorem xmix_all (reg : Int) (l : List Opd) (k : Nat) (h : l.length ≤ k) : xmix reg l k = xmap reg l := by
  unfold xmix; rw [List.take_of_length_le h, List.drop_of_length_le h, List.append_nil]
theorem xmix_at (reg : Int) (l : List Opd) (k : Nat) (h : k < l.length) : (xmix reg l k)[k]? = some l[k] := by
  have h1 : (xmap reg (l.take k)).length = k := by unfold xmap; rw [List.length_map, List.length_take]; omega
  unfold xmix
  rw [List.getElem?_append_right (by omega), h1, Nat.sub_self, List.getElem?_drop]
  simp [h]
theorem xmix_step (reg : Int) (l : List Opd) (k : Nat) (h : k < l.length) : xmix reg l (k + 1) = (xmix reg l k).set k ((xchg reg l[k]).getD l[k]) := by
  have h1 : (xmap reg (l.take k)).length = k := by unfold xmap; rw [List.length_map, List.length_take]; omega
  unfold xmix
  rw [List.set_append_right _ _ (by omega), h1, Nat.sub_self, List.drop_eq_getElem_cons h, List.set_cons_zero, List.take_succ_eq_append_getElem h]
  unfold xmap
  rw [List.map_append, List.append_assoc]
  rfl
theorem xany_step (reg : Int) (l : List Opd) (k : Nat) (h : k < l.length) : xany reg (l.take (k + 1)) = (xany reg (l.take k) || (xchg reg l[k]).isSome) := by
  rw [List.take_succ_eq_append_getElem h]; unfold xany; rw [List.any_append]; simp
/-- what holds while the operands change -/
structure IxI (w : World) (S : Nat) (page : Int) (op : Nat) (iop exB : ByteArray) (al : Bool) (va : Value) (l : List Opd) (wr : World) : Prop where
  blkE : Blk wr w.heap.size 27 #[.int .i64 page, .int .u8 op, .string iop, va, .string exB, .bool al]
  blkR : Blk wr (w.heap.size + 1) 27 #[.int .i64 0, .int .u8 0, .string ⟨#[]⟩, .slice none 0 0, .string ⟨#[]⟩, .bool false]
  blkM : Blk wr (w.heap.size + 2) 87 #[.int .i64 4, .int .i64 2, .int .i64 0]
  own : OpdOwn wr (fun b => w.heap.size + 3 ≤ b ∧ b < S) va l
  below : Below w.heap.size w wr
  size : S ≤ wr.heap.size
theorem IxI.later {w wr w' : World} {S op : Nat} {page : Int} {iop exB : ByteArray} {al : Bool} {va : Value} {l : List Opd} (h : IxI w S page op iop exB al va l wr) (hb : Below wr.heap.size wr w') : IxI w S page op iop exB al va l w' :=
  ⟨h.blkE.below hb h.blkE.lt, h.blkR.below hb h.blkR.lt, h.blkM.below hb h.blkM.lt, h.own.below hb, h.below.trans (hb.mono h.below.size), Nat.le_trans h.size hb.size⟩
theorem IxI.put {w wr : World} {S op b o n c k : Nat} {page : Int} {iop exB : ByteArray} {al : Bool} {l : List Opd} (y : Opd) (h : IxI w S page op iop exB al (.slice (some ⟨b, o, none⟩) n c) l wr) (hb : w.heap.size + 3 ≤ b) (hk : k < l.length) :
    IxI w S page op iop exB al (.slice (some ⟨b, o, none⟩) n c) (l.set k y) (((wr.setCell ⟨b, o + k * 3, none⟩ (.int .i64 y.kind)).setCell ⟨b, o + k * 3 + 1, none⟩ (.int .i64 y.reg)).setCell ⟨b, o + k * 3 + 2, none⟩ (.int .i64 y.n)) :=
  ⟨((h.blkE.far (by show _ ≠ b; omega) _).far (by show _ ≠ b; omega) _).far (by show _ ≠ b; omega) _, ((h.blkR.far (by show _ ≠ b; omega) _).far (by show _ ≠ b; omega) _).far (by show _ ≠ b; omega) _, ((h.blkM.far (by show _ ≠ b; omega) _).far (by show _ ≠ b; omega) _).far (by show _ ≠ b; omega) _,
    h.own.put y hk, ((h.below.setCell (by show _ ≤ b; omega) _).setCell (by show _ ≤ b; omega) _).setCell (by show _ ≤ b; omega) _, by rw [World.size_setCell, World.size_setCell, World.size_setCell]; exact h.size⟩
end Go.Proofs.YtlepicdjnbbndaaGreatDoor
