/-
  table.At, pages 3 and 4, an operand in memory. Conditions: sizes; the library's table as its initialiser lays it.
-/
import Derived.Test.YtlepicdjnbbndaaGreatDoorT21
namespace Go.Proofs.YtlepicdjnbbndaaGreatDoor
open Go.RowKit Go.Shelf Go.Sort

def mainB : ByteArray := ⟨#[48, 48, 48, 48, 48, 48, 48, 48, 32, 78, 79, 80, 59, 48, 48, 48, 48, 49, 48, 48, 48, 32, 69, 88, 32, 65, 70, 44, 65, 70, 39, 59, 48, 48, 48, 49, 48, 48, 48, 48, 32, 68, 74, 78, 90, 32, 101, 59, 48, 48, 48, 49, 49, 48, 48, 48, 32, 74, 82, 32, 101, 59, 48, 48, 49, 107, 107, 48, 48, 48, 32, 74, 82, 32, 107, 44, 101, 59, 48, 48, 112, 112, 48, 48, 48, 49, 32, 76, 68, 32, 112, 44, 119, 59, 48, 48, 112, 112, 49, 48, 48, 49, 32, 65, 68, 68, 32, 72, 76, 44, 112, 59, 48, 48, 48, 48, 48, 48, 49, 48, 32, 76, 68, 32, 40, 66, 67, 41, 44, 65, 59, 48, 48, 48, 49, 48, 48, 49, 48, 32, 76, 68, 32, 40, 68, 69, 41, 44, 65, 59, 48, 48, 49, 48, 48, 48, 49, 48, 32, 76, 68, 32, 40, 119, 41, 44, 72, 76, 59, 48, 48, 49, 49, 48, 48, 49, 48, 32, 76, 68, 32, 40, 119, 41, 44, 65, 59, 48, 48, 48, 48, 49, 48, 49, 48, 32, 76, 68, 32, 65, 44, 40, 66, 67, 41, 59, 48, 48, 48, 49, 49, 48, 49, 48, 32, 76, 68, 32, 65, 44, 40, 68, 69, 41, 59, 48, 48, 49, 48, 49, 48, 49, 48, 32, 76, 68, 32, 72, 76, 44, 40, 119, 41, 59, 48, 48, 49, 49, 49, 48, 49, 48, 32, 76, 68, 32, 65, 44, 40, 119, 41, 59, 48, 48, 112, 112, 48, 48, 49, 49, 32, 73, 78, 67, 32, 112, 59, 48, 48, 112, 112, 49, 48, 49, 49, 32, 68, 69, 67, 32, 112, 59, 48, 48, 114, 114, 114, 49, 48, 48, 32, 73, 78, 67, 32, 114, 59, 48, 48, 114, 114, 114, 49, 48, 49, 32, 68, 69, 67, 32, 114, 59, 48, 48, 114, 114, 114, 49, 49, 48, 32, 76, 68, 32, 114, 44, 110, 59, 48, 48, 48, 48, 48, 49, 49, 49, 32, 82, 76, 67, 65, 59, 48, 48, 48, 48, 49, 49, 49, 49, 32, 82, 82, 67, 65, 59, 48, 48, 48, 49, 48, 49, 49, 49, 32, 82, 76, 65, 59, 48, 48, 48, 49, 49, 49, 49, 49, 32, 82, 82, 65, 59, 48, 48, 49, 48, 48, 49, 49, 49, 32, 68, 65, 65, 59, 48, 48, 49, 48, 49, 49, 49, 49, 32, 67, 80, 76, 59, 48, 48, 49, 49, 48, 49, 49, 49, 32, 83, 67, 70, 59, 48, 48, 49, 49, 49, 49, 49, 49, 32, 67, 67, 70, 59, 48, 49, 49, 49, 48, 49, 49, 48, 32, 72, 65, 76, 84, 59, 48, 49, 114, 114, 114, 115, 115, 115, 32, 76, 68, 32, 114, 44, 115, 59, 49, 48, 48, 48, 48, 115, 115, 115, 32, 65, 68, 68, 32, 65, 44, 115, 59, 49, 48, 48, 48, 49, 115, 115, 115, 32, 65, 68, 67, 32, 65, 44, 115, 59, 49, 48, 48, 49, 48, 115, 115, 115, 32, 83, 85, 66, 32, 115, 59, 49, 48, 48, 49, 49, 115, 115, 115, 32, 83, 66, 67, 32, 65, 44, 115, 59, 49, 48, 49, 48, 48, 115, 115, 115, 32, 65, 78, 68, 32, 115, 59, 49, 48, 49, 48, 49, 115, 115, 115, 32, 88, 79, 82, 32, 115, 59, 49, 48, 49, 49, 48, 115, 115, 115, 32, 79, 82, 32, 115, 59, 49, 48, 49, 49, 49, 115, 115, 115, 32, 67, 80, 32, 115, 59, 49, 49, 99, 99, 99, 48, 48, 48, 32, 82, 69, 84, 32, 99, 59, 49, 49, 113, 113, 48, 48, 48, 49, 32, 80, 79, 80, 32, 113, 59, 49, 49, 48, 48, 49, 48, 48, 49, 32, 82, 69, 84, 59, 49, 49, 48, 49, 49, 48, 48, 49, 32, 69, 88, 88, 59, 49, 49, 49, 48, 49, 48, 48, 49, 32, 74, 80, 32, 40, 72, 76, 41, 59, 49, 49, 49, 49, 49, 48, 48, 49, 32, 76, 68, 32, 83, 80, 44, 72, 76, 59, 49, 49, 99, 99, 99, 48, 49, 48, 32, 74, 80, 32, 99, 44, 119, 59, 49, 49, 48, 48, 48, 48, 49, 49, 32, 74, 80, 32, 119, 59, 49, 49, 48, 49, 48, 48, 49, 49, 32, 79, 85, 84, 32, 40, 110, 41, 44, 65, 59, 49, 49, 48, 49, 49, 48, 49, 49, 32, 73, 78, 32, 65, 44, 40, 110, 41, 59, 49, 49, 49, 48, 48, 48, 49, 49, 32, 69, 88, 32, 40, 83, 80, 41, 44, 72, 76, 59, 49, 49, 49, 48, 49, 48, 49, 49, 32, 69, 88, 32, 68, 69, 44, 72, 76, 59, 49, 49, 49, 49, 48, 48, 49, 49, 32, 68, 73, 59, 49, 49, 49, 49, 49, 48, 49, 49, 32, 69, 73, 59, 49, 49, 99, 99, 99, 49, 48, 48, 32, 67, 65, 76, 76, 32, 99, 44, 119, 59, 49, 49, 113, 113, 48, 49, 48, 49, 32, 80, 85, 83, 72, 32, 113, 59, 49, 49, 48, 48, 49, 49, 48, 49, 32, 67, 65, 76, 76, 32, 119, 59, 49, 49, 48, 48, 48, 49, 49, 48, 32, 65, 68, 68, 32, 65, 44, 110, 59, 49, 49, 48, 48, 49, 49, 49, 48, 32, 65, 68, 67, 32, 65, 44, 110, 59, 49, 49, 48, 49, 48, 49, 49, 48, 32, 83, 85, 66, 32, 110, 59, 49, 49, 48, 49, 49, 49, 49, 48, 32, 83, 66, 67, 32, 65, 44, 110, 59, 49, 49, 49, 48, 48, 49, 49, 48, 32, 65, 78, 68, 32, 110, 59, 49, 49, 49, 48, 49, 49, 49, 48, 32, 88, 79, 82, 32, 110, 59, 49, 49, 49, 49, 48, 49, 49, 48, 32, 79, 82, 32, 110, 59, 49, 49, 49, 49, 49, 49, 49, 48, 32, 67, 80, 32, 110, 59, 49, 49, 116, 116, 116, 49, 49, 49, 32, 82, 83, 84, 32, 116]⟩
def cbB : ByteArray := ⟨#[48, 48, 48, 48, 48, 115, 115, 115, 32, 82, 76, 67, 32, 115, 59, 48, 48, 48, 48, 49, 115, 115, 115, 32, 82, 82, 67, 32, 115, 59, 48, 48, 48, 49, 48, 115, 115, 115, 32, 82, 76, 32, 115, 59, 48, 48, 48, 49, 49, 115, 115, 115, 32, 82, 82, 32, 115, 59, 48, 48, 49, 48, 48, 115, 115, 115, 32, 83, 76, 65, 32, 115, 59, 48, 48, 49, 48, 49, 115, 115, 115, 32, 83, 82, 65, 32, 115, 59, 48, 48, 49, 49, 48, 115, 115, 115, 32, 83, 76, 76, 32, 115, 59, 48, 48, 49, 49, 49, 115, 115, 115, 32, 83, 82, 76, 32, 115, 59, 48, 49, 98, 98, 98, 115, 115, 115, 32, 66, 73, 84, 32, 98, 44, 115, 59, 49, 48, 98, 98, 98, 115, 115, 115, 32, 82, 69, 83, 32, 98, 44, 115, 59, 49, 49, 98, 98, 98, 115, 115, 115, 32, 83, 69, 84, 32, 98, 44, 115]⟩
def edB : ByteArray := ⟨#[48, 49, 49, 49, 48, 48, 48, 48, 32, 73, 78, 32, 40, 67, 41, 59, 48, 49, 114, 114, 114, 48, 48, 48, 32, 73, 78, 32, 114, 44, 40, 67, 41, 59, 48, 49, 49, 49, 48, 48, 48, 49, 32, 79, 85, 84, 32, 40, 67, 41, 44, 48, 59, 48, 49, 114, 114, 114, 48, 48, 49, 32, 79, 85, 84, 32, 40, 67, 41, 44, 114, 59, 48, 49, 112, 112, 48, 48, 49, 48, 32, 83, 66, 67, 32, 72, 76, 44, 112, 59, 48, 49, 112, 112, 49, 48, 49, 48, 32, 65, 68, 67, 32, 72, 76, 44, 112, 59, 48, 49, 49, 48, 48, 48, 49, 49, 32, 76, 68, 32, 40, 119, 41, 44, 72, 76, 32, 42, 59, 48, 49, 49, 48, 49, 48, 49, 49, 32, 76, 68, 32, 72, 76, 44, 40, 119, 41, 32, 42, 59, 48, 49, 112, 112, 48, 48, 49, 49, 32, 76, 68, 32, 40, 119, 41, 44, 112, 59, 48, 49, 112, 112, 49, 48, 49, 49, 32, 76, 68, 32, 112, 44, 40, 119, 41, 59, 48, 49, 48, 48, 48, 49, 48, 48, 32, 78, 69, 71, 59, 48, 49, 120, 120, 120, 49, 48, 48, 32, 78, 69, 71, 32, 42, 59, 48, 49, 48, 48, 49, 49, 48, 49, 32, 82, 69, 84, 73, 59, 48, 49, 48, 48, 48, 49, 48, 49, 32, 82, 69, 84, 78, 59, 48, 49, 120, 120, 120, 49, 48, 49, 32, 82, 69, 84, 78, 32, 42, 59, 48, 49, 48, 48, 48, 49, 49, 48, 32, 73, 77, 32, 48, 59, 48, 49, 48, 49, 48, 49, 49, 48, 32, 73, 77, 32, 49, 59, 48, 49, 48, 49, 49, 49, 49, 48, 32, 73, 77, 32, 50, 59, 48, 49, 120, 48, 120, 49, 49, 48, 32, 73, 77, 32, 48, 32, 42, 59, 48, 49, 49, 49, 48, 49, 49, 48, 32, 73, 77, 32, 49, 32, 42, 59, 48, 49, 49, 49, 49, 49, 49, 48, 32, 73, 77, 32, 50, 32, 42, 59, 48, 49, 48, 48, 48, 49, 49, 49, 32, 76, 68, 32, 73, 44, 65, 59, 48, 49, 48, 48, 49, 49, 49, 49, 32, 76, 68, 32, 82, 44, 65, 59, 48, 49, 48, 49, 48, 49, 49, 49, 32, 76, 68, 32, 65, 44, 73, 59, 48, 49, 48, 49, 49, 49, 49, 49, 32, 76, 68, 32, 65, 44, 82, 59, 48, 49, 49, 48, 48, 49, 49, 49, 32, 82, 82, 68, 59, 48, 49, 49, 48, 49, 49, 49, 49, 32, 82, 76, 68, 59, 49, 48, 49, 48, 48, 48, 48, 48, 32, 76, 68, 73, 59, 49, 48, 49, 48, 48, 48, 48, 49, 32, 67, 80, 73, 59, 49, 48, 49, 48, 48, 48, 49, 48, 32, 73, 78, 73, 59, 49, 48, 49, 48, 48, 48, 49, 49, 32, 79, 85, 84, 73, 59, 49, 48, 49, 48, 49, 48, 48, 48, 32, 76, 68, 68, 59, 49, 48, 49, 48, 49, 48, 48, 49, 32, 67, 80, 68, 59, 49, 48, 49, 48, 49, 48, 49, 48, 32, 73, 78, 68, 59, 49, 48, 49, 48, 49, 48, 49, 49, 32, 79, 85, 84, 68, 59, 49, 48, 49, 49, 48, 48, 48, 48, 32, 76, 68, 73, 82, 59, 49, 48, 49, 49, 48, 48, 48, 49, 32, 67, 80, 73, 82, 59, 49, 48, 49, 49, 48, 48, 49, 48, 32, 73, 78, 73, 82, 59, 49, 48, 49, 49, 48, 48, 49, 49, 32, 79, 84, 73, 82, 59, 49, 48, 49, 49, 49, 48, 48, 48, 32, 76, 68, 68, 82, 59, 49, 48, 49, 49, 49, 48, 48, 49, 32, 67, 80, 68, 82, 59, 49, 48, 49, 49, 49, 48, 49, 48, 32, 73, 78, 68, 82, 59, 49, 48, 49, 49, 49, 48, 49, 49, 32, 79, 84, 68, 82]⟩
def mainL : List (List UInt8) := splitC mainB.data.toList
theorem mainB_size : mainB.size ≤ 1000000 := by decide +kernel
theorem entry6 {w : World} {g : Nat} {z0 z1 z2 z3 z4 z5 : Value} (h : Blk w g 27 #[z0, z1, z2, z3, z4, z5]) (a0 a1 a2 a3 a4 a5 : Value) :
    Blk ((((((w.setCell ⟨g, 0, none⟩ a0).setCell ⟨g, 1, none⟩ a1).setCell ⟨g, 2, none⟩ a2).setCell ⟨g, 3, none⟩ a3).setCell ⟨g, 4, none⟩ a4).setCell ⟨g, 5, none⟩ a5) g 27 #[a0, a1, a2, a3, a4, a5] := (((((h.set 0 _).set 1 _).set 2 _).set 3 _).set 4 _).set 5 _
def set6 (w : World) (g : Nat) (a0 a1 a2 a3 a4 a5 : Value) : World := ((((((w.setCell ⟨g, 0, none⟩ a0).setCell ⟨g, 1, none⟩ a1).setCell ⟨g, 2, none⟩ a2).setCell ⟨g, 3, none⟩ a3).setCell ⟨g, 4, none⟩ a4).setCell ⟨g, 5, none⟩ a5)
theorem set6_size (w : World) (g : Nat) (a0 a1 a2 a3 a4 a5 : Value) : (set6 w g a0 a1 a2 a3 a4 a5).heap.size = w.heap.size := by
  unfold set6; rw [World.size_setCell, World.size_setCell, World.size_setCell, World.size_setCell, World.size_setCell, World.size_setCell]
theorem set6_far (w : World) (g : Nat) (a0 a1 a2 a3 a4 a5 : Value) (j : Nat) (h : j ≠ g) : (set6 w g a0 a1 a2 a3 a4 a5).heap[j]? = w.heap[j]? := by
  unfold set6
  rw [Below.heap_setCell _ _ _ _ h, Below.heap_setCell _ _ _ _ h, Below.heap_setCell _ _ _ _ h, Below.heap_setCell _ _ _ _ h, Below.heap_setCell _ _ _ _ h, Below.heap_setCell _ _ _ _ h]
theorem set6_below {B : Nat} {w0 w : World} {g : Nat} (h : Below B w0 w) (hg : B ≤ g) (a0 a1 a2 a3 a4 a5 : Value) : Below B w0 (set6 w g a0 a1 a2 a3 a4 a5) :=
  (((((h.setCell (p := ⟨g, 0, none⟩) hg _).setCell (p := ⟨g, 1, none⟩) hg _).setCell (p := ⟨g, 2, none⟩) hg _).setCell (p := ⟨g, 3, none⟩) hg _).setCell (p := ⟨g, 4, none⟩) hg _).setCell (p := ⟨g, 5, none⟩) hg _
set_option maxHeartbeats 8000000 in
set_option maxRecDepth 100000 in
theorem At_mem (page : Int) (op : Nat) (t : List UInt8) (r : RuleV) (os : List Opd) (ex : List UInt8) (k : Nat) (w : World) (hpg : page = 3 ∨ page = 4) (hop : op < 256) (hcb : op ≠ 203) (hl : lookF op mainL = some t) (hr : ruleF t = some r) (ha : argsF r.bits op r.args = some (os, ex)) (hok : okT t r)
    (hk : posO ⟨4, 2, 0⟩ 0 os = k) (hn : os.length ≤ 1000) (hjp : r.op ≠ [74, 80]) (hup : upper ⟨r.op.toArray⟩ = ⟨r.op.toArray⟩) (his : r.op.length ≤ 1000) (hex : ex.length ≤ 1000) (hT : Spc w) :
    Calls Tryz.prog 13 #[.int .i64 page, .int .u8 op] w fun e w' => ∃ v', e = .returned (.tuple #[entVal ⟨page, op, r.op, os.set k ⟨5, page + 2, 0⟩, 100 :: ex, r.alias⟩ v', .int .i64 1]) ∧ OpdOwn w' (fun b => w.heap.size ≤ b) v' (os.set k ⟨5, page + 2, 0⟩) ∧ Below w.heap.size w w' := by
  have HFI := Lib.hid (fun W hT => find_some page mainB op t r os ex W hop mainB_size hl hr ha hok hT)
  have HID := Lib.hid (fun p v W h => indexed_mem ⟨page, op, r.op, os, ex, r.alias⟩ p v page k W h hpg hk hn hjp hup his hex)
  have hne : ((op : Int) == 203) = false := by rw [beq_eq_false_iff_ne]; omega
  have HLS : Hid ((os.set k ⟨5, page + 2, 0⟩).length = os.length) := List.length_set
  have hsz : ((w.alloc (.cells #[.int .i64 0, .int .u8 0, .string ⟨#[]⟩, .slice none 0 0, .string ⟨#[]⟩, .bool false] 27)).alloc (.cells #[.int .i64 0, .int .u8 0, .string ⟨#[]⟩, .slice none 0 0, .string ⟨#[]⟩, .bool false] 27)).heap.size = w.heap.size + 2 := by rw [World.size_alloc, World.size_alloc]
  have hR : Blk ((w.alloc (.cells #[.int .i64 0, .int .u8 0, .string ⟨#[]⟩, .slice none 0 0, .string ⟨#[]⟩, .bool false] 27)).alloc (.cells #[.int .i64 0, .int .u8 0, .string ⟨#[]⟩, .slice none 0 0, .string ⟨#[]⟩, .bool false] 27)) w.heap.size 27 #[.int .i64 0, .int .u8 0, .string ⟨#[]⟩, .slice none 0 0, .string ⟨#[]⟩, .bool false] := (Blk.new w _ _).alloc _
  have hE : Blk ((w.alloc (.cells #[.int .i64 0, .int .u8 0, .string ⟨#[]⟩, .slice none 0 0, .string ⟨#[]⟩, .bool false] 27)).alloc (.cells #[.int .i64 0, .int .u8 0, .string ⟨#[]⟩, .slice none 0 0, .string ⟨#[]⟩, .bool false] 27)) (w.heap.size + 1) 27 #[.int .i64 0, .int .u8 0, .string ⟨#[]⟩, .slice none 0 0, .string ⟨#[]⟩, .bool false] := by
    have h1 := Blk.new (w.alloc (.cells #[.int .i64 0, .int .u8 0, .string ⟨#[]⟩, .slice none 0 0, .string ⟨#[]⟩, .bool false] 27)) 27 #[.int .i64 0, .int .u8 0, .string ⟨#[]⟩, .slice none 0 0, .string ⟨#[]⟩, .bool false]
    rw [World.size_alloc] at h1
    exact h1
  have HSZ := Lib.hid hsz
  have HR0 := Lib.hid hR
  have HE0 := Lib.hid hE
  have HB0 := Lib.hid (((Below.refl w.heap.size w).alloc (Nat.le_refl _) (.cells #[.int .i64 0, .int .u8 0, .string ⟨#[]⟩, .slice none 0 0, .string ⟨#[]⟩, .bool false] 27)).alloc (by rw [World.size_alloc]; omega) (.cells #[.int .i64 0, .int .u8 0, .string ⟨#[]⟩, .slice none 0 0, .string ⟨#[]⟩, .bool false] 27))
  have HT0 := Lib.hid (hT.below HB0.out)
  generalize (os.set k ⟨5, page + 2, 0⟩) = os2 at *
  obtain ⟨rb, ro, ra, ral⟩ := r
  dsimp only at *
  clear hl hr ha hok hT hn hjp hup his hex hcb hk hR hE hsz hop
  rcases hpg with rfl | rfl
  · go_enter Tryz.func13, Tryz.ntmps13
    go_wp2_with fail
    refine (HFI.out _ HT0.out).mono ?_
    rintro e w1 ⟨v1, rfl, ho, hb⟩
    rw [HSZ.out] at ho hb
    obtain ⟨va, vc, rfl⟩ : ∃ a c, v1 = .slice a os.length c := ho.form
    have HR1 := Lib.hid (HR0.out.below hb (by omega))
    have HE1 := Lib.hid (HE0.out.below hb (by omega))
    have HB1 := Lib.hid (HB0.out.trans (hb.mono (by omega)))
    have HO1 := Lib.hid ho
    have e0 := HE1.out.cell 0
    have e1 := HE1.out.cell 1
    have e2 := HE1.out.cell 2
    have e3 := HE1.out.cell 3
    have e4 := HE1.out.cell 4
    have e5 := HE1.out.cell 5
    have z0 := HE1.out.free 0
    have z1 := HE1.out.free 1
    have z2 := HE1.out.free 2
    have z3 := HE1.out.free 3
    have z4 := HE1.out.free 4
    have z5 := HE1.out.free 5
    clear ho hb HB0 HE0 HR0 HFI
    unfold entVal
    dsimp only
    go_wp2_with fail
    have how : Own opdR (set6 w1 (w.heap.size + 1) (.int .i64 3) (.int .u8 op) (.string ⟨ro.toArray⟩) (.slice va os.length vc) (.string ⟨ex.toArray⟩) (.bool ral)) (w.heap.size + 2) 87 NoB (.slice va os.length vc) os := HO1.out.keep (fun j hj => set6_far _ _ _ _ _ _ _ _ j (by
      rcases hj with hj | hj
      · exact hj.elim
      · have := (HO1.out.lt j hj).1; omega))
    refine (HID.out (fun j => w.heap.size + 2 ≤ j) _ (set6 w1 (w.heap.size + 1) (.int .i64 3) (.int .u8 op) (.string ⟨ro.toArray⟩) (.slice va os.length vc) (.string ⟨ex.toArray⟩) (.bool ral)) (how.slR (fun _ h => h.elim) (fun _ h => h))).mono ?_
    rintro e w2 ⟨v2, rfl, ho2, hb2⟩
    obtain ⟨va2, vc2, rfl⟩ : ∃ a c, v2 = .slice a os2.length c := by obtain ⟨a, c, e, _⟩ := ho2; exact ⟨a, c, e⟩
    have hE2 : Blk w2 (w.heap.size + 1) 27 #[.int .i64 3, .int .u8 op, .string ⟨ro.toArray⟩, .slice va os.length vc, .string ⟨ex.toArray⟩, .bool ral] := (show Blk (set6 _ _ _ _ _ _ _ _) (w.heap.size + 1) 27 _ from entry6 HE1.out _ _ _ _ _ _).below hb2 (by rw [set6_size]; exact HE1.out.lt)
    have hR15 : Blk (set6 w1 (w.heap.size + 1) (.int .i64 3) (.int .u8 op) (.string ⟨ro.toArray⟩) (.slice va os.length vc) (.string ⟨ex.toArray⟩) (.bool ral)) w.heap.size 27 #[.int .i64 0, .int .u8 0, .string ⟨#[]⟩, .slice none 0 0, .string ⟨#[]⟩, .bool false] := (set6_far _ _ _ _ _ _ _ _ _ (by omega)).trans HR1.out
    have hR2 : Blk w2 w.heap.size 27 #[.int .i64 0, .int .u8 0, .string ⟨#[]⟩, .slice none 0 0, .string ⟨#[]⟩, .bool false] := hR15.below hb2 (by rw [set6_size]; exact HR1.out.lt)
    clear hR15
    have hsw : w.heap.size + 2 ≤ w1.heap.size := HE1.out.lt
    have HB2 := Lib.hid ((set6_below HB1.out (Nat.le_succ _) (.int .i64 3) (.int .u8 op) (.string ⟨ro.toArray⟩) (.slice va os.length vc) (.string ⟨ex.toArray⟩) (.bool ral)).trans (hb2.mono (by rw [set6_size]; omega)))
    have HO2 : Hid (OpdOwn w2 (fun b => w.heap.size + 2 ≤ b) (.slice va2 os2.length vc2) os2) := ho2.mono (fun b hb => by rw [set6_size] at hb; omega)
    have HE2 := Lib.hid hE2
    have HR2 := Lib.hid hR2
    clear how ho2 hb2 hE2 hR2 e0 e1 e2 e3 e4 e5 z0 z1 z2 z3 z4 z5 HE1 HR1 HB1 HO1 hsw
    have e0 := HE2.out.cell 0
    have e1 := HE2.out.cell 1
    have e2 := HE2.out.cell 2
    have e3 := HE2.out.cell 3
    have e4 := HE2.out.cell 4
    have e5 := HE2.out.cell 5
    have z0 := HE2.out.free 0
    have z1 := HE2.out.free 1
    have z2 := HE2.out.free 2
    have z3 := HE2.out.free 3
    have z4 := HE2.out.free 4
    have z5 := HE2.out.free 5
    have r0 := HR2.out.cell 0
    have r1 := HR2.out.cell 1
    have r2 := HR2.out.cell 2
    have r3 := HR2.out.cell 3
    have r4 := HR2.out.cell 4
    have r5 := HR2.out.cell 5
    have y0 := HR2.out.free 0
    have y1 := HR2.out.free 1
    have y2 := HR2.out.free 2
    have y3 := HR2.out.free 3
    have y4 := HR2.out.free 4
    have y5 := HR2.out.free 5
    unfold entVal
    dsimp only
    go_wp2
    refine bodyPost_ret (results_row_tmp rfl _ _ w.heap.size 27 #[.int .i64 3, .int .u8 op, .string ⟨ro.toArray⟩, .slice va2 os2.length vc2, .string ⟨(100 :: ex).toArray⟩, .bool ral] (0, 0) _ rfl (entry6 (show Blk (set6 w2 (w.heap.size + 1) (.int .i64 3) (.int .u8 op) (.string ⟨ro.toArray⟩) (.slice va2 os2.length vc2) (.string ⟨(100 :: ex).toArray⟩) (.bool ral)) w.heap.size 27 #[.int .i64 0, .int .u8 0, .string ⟨#[]⟩, .slice none 0 0, .string ⟨#[]⟩, .bool false] from (set6_far _ _ _ _ _ _ _ _ _ (by omega)).trans HR2.out) _ _ _ _ _ _) Tryz.underlying27 rfl (by kernel_rfl)) rfl ⟨_, rfl, (HO2.out.keep (fun j hj => ?_)).mono (fun j hj => by have hj : w.heap.size + 2 ≤ j := hj; omega), ?_⟩
    · have hj : w.heap.size + 2 ≤ j := hj
      exact (set6_far (set6 w2 (w.heap.size + 1) (.int .i64 3) (.int .u8 op) (.string ⟨ro.toArray⟩) (.slice va2 os2.length vc2) (.string ⟨(100 :: ex).toArray⟩) (.bool ral)) w.heap.size _ _ _ _ _ _ j (by omega)).trans (set6_far _ _ _ _ _ _ _ _ j (by omega))
    · exact set6_below (set6_below HB2.out (Nat.le_succ _) (.int .i64 3) (.int .u8 op) (.string ⟨ro.toArray⟩) (.slice va2 os2.length vc2) (.string ⟨(100 :: ex).toArray⟩) (.bool ral)) (Nat.le_refl _) _ _ _ _ _ _
  · go_enter Tryz.func13, Tryz.ntmps13
    go_wp2_with fail
    refine (HFI.out _ HT0.out).mono ?_
    rintro e w1 ⟨v1, rfl, ho, hb⟩
    rw [HSZ.out] at ho hb
    obtain ⟨va, vc, rfl⟩ : ∃ a c, v1 = .slice a os.length c := ho.form
    have HR1 := Lib.hid (HR0.out.below hb (by omega))
    have HE1 := Lib.hid (HE0.out.below hb (by omega))
    have HB1 := Lib.hid (HB0.out.trans (hb.mono (by omega)))
    have HO1 := Lib.hid ho
    have e0 := HE1.out.cell 0
    have e1 := HE1.out.cell 1
    have e2 := HE1.out.cell 2
    have e3 := HE1.out.cell 3
    have e4 := HE1.out.cell 4
    have e5 := HE1.out.cell 5
    have z0 := HE1.out.free 0
    have z1 := HE1.out.free 1
    have z2 := HE1.out.free 2
    have z3 := HE1.out.free 3
    have z4 := HE1.out.free 4
    have z5 := HE1.out.free 5
    clear ho hb HB0 HE0 HR0 HFI
    unfold entVal
    dsimp only
    go_wp2_with fail
    have how : Own opdR (set6 w1 (w.heap.size + 1) (.int .i64 4) (.int .u8 op) (.string ⟨ro.toArray⟩) (.slice va os.length vc) (.string ⟨ex.toArray⟩) (.bool ral)) (w.heap.size + 2) 87 NoB (.slice va os.length vc) os := HO1.out.keep (fun j hj => set6_far _ _ _ _ _ _ _ _ j (by
      rcases hj with hj | hj
      · exact hj.elim
      · have := (HO1.out.lt j hj).1; omega))
    refine (HID.out (fun j => w.heap.size + 2 ≤ j) _ (set6 w1 (w.heap.size + 1) (.int .i64 4) (.int .u8 op) (.string ⟨ro.toArray⟩) (.slice va os.length vc) (.string ⟨ex.toArray⟩) (.bool ral)) (how.slR (fun _ h => h.elim) (fun _ h => h))).mono ?_
    rintro e w2 ⟨v2, rfl, ho2, hb2⟩
    obtain ⟨va2, vc2, rfl⟩ : ∃ a c, v2 = .slice a os2.length c := by obtain ⟨a, c, e, _⟩ := ho2; exact ⟨a, c, e⟩
    have hE2 : Blk w2 (w.heap.size + 1) 27 #[.int .i64 4, .int .u8 op, .string ⟨ro.toArray⟩, .slice va os.length vc, .string ⟨ex.toArray⟩, .bool ral] := (show Blk (set6 _ _ _ _ _ _ _ _) (w.heap.size + 1) 27 _ from entry6 HE1.out _ _ _ _ _ _).below hb2 (by rw [set6_size]; exact HE1.out.lt)
    have hR15 : Blk (set6 w1 (w.heap.size + 1) (.int .i64 4) (.int .u8 op) (.string ⟨ro.toArray⟩) (.slice va os.length vc) (.string ⟨ex.toArray⟩) (.bool ral)) w.heap.size 27 #[.int .i64 0, .int .u8 0, .string ⟨#[]⟩, .slice none 0 0, .string ⟨#[]⟩, .bool false] := (set6_far _ _ _ _ _ _ _ _ _ (by omega)).trans HR1.out
    have hR2 : Blk w2 w.heap.size 27 #[.int .i64 0, .int .u8 0, .string ⟨#[]⟩, .slice none 0 0, .string ⟨#[]⟩, .bool false] := hR15.below hb2 (by rw [set6_size]; exact HR1.out.lt)
    clear hR15
    have hsw : w.heap.size + 2 ≤ w1.heap.size := HE1.out.lt
    have HB2 := Lib.hid ((set6_below HB1.out (Nat.le_succ _) (.int .i64 4) (.int .u8 op) (.string ⟨ro.toArray⟩) (.slice va os.length vc) (.string ⟨ex.toArray⟩) (.bool ral)).trans (hb2.mono (by rw [set6_size]; omega)))
    have HO2 : Hid (OpdOwn w2 (fun b => w.heap.size + 2 ≤ b) (.slice va2 os2.length vc2) os2) := ho2.mono (fun b hb => by rw [set6_size] at hb; omega)
    have HE2 := Lib.hid hE2
    have HR2 := Lib.hid hR2
    clear how ho2 hb2 hE2 hR2 e0 e1 e2 e3 e4 e5 z0 z1 z2 z3 z4 z5 HE1 HR1 HB1 HO1 hsw
    have e0 := HE2.out.cell 0
    have e1 := HE2.out.cell 1
    have e2 := HE2.out.cell 2
    have e3 := HE2.out.cell 3
    have e4 := HE2.out.cell 4
    have e5 := HE2.out.cell 5
    have z0 := HE2.out.free 0
    have z1 := HE2.out.free 1
    have z2 := HE2.out.free 2
    have z3 := HE2.out.free 3
    have z4 := HE2.out.free 4
    have z5 := HE2.out.free 5
    have r0 := HR2.out.cell 0
    have r1 := HR2.out.cell 1
    have r2 := HR2.out.cell 2
    have r3 := HR2.out.cell 3
    have r4 := HR2.out.cell 4
    have r5 := HR2.out.cell 5
    have y0 := HR2.out.free 0
    have y1 := HR2.out.free 1
    have y2 := HR2.out.free 2
    have y3 := HR2.out.free 3
    have y4 := HR2.out.free 4
    have y5 := HR2.out.free 5
    unfold entVal
    dsimp only
    go_wp2
    refine bodyPost_ret (results_row_tmp rfl _ _ w.heap.size 27 #[.int .i64 4, .int .u8 op, .string ⟨ro.toArray⟩, .slice va2 os2.length vc2, .string ⟨(100 :: ex).toArray⟩, .bool ral] (0, 0) _ rfl (entry6 (show Blk (set6 w2 (w.heap.size + 1) (.int .i64 4) (.int .u8 op) (.string ⟨ro.toArray⟩) (.slice va2 os2.length vc2) (.string ⟨(100 :: ex).toArray⟩) (.bool ral)) w.heap.size 27 #[.int .i64 0, .int .u8 0, .string ⟨#[]⟩, .slice none 0 0, .string ⟨#[]⟩, .bool false] from (set6_far _ _ _ _ _ _ _ _ _ (by omega)).trans HR2.out) _ _ _ _ _ _) Tryz.underlying27 rfl (by kernel_rfl)) rfl ⟨_, rfl, (HO2.out.keep (fun j hj => ?_)).mono (fun j hj => by have hj : w.heap.size + 2 ≤ j := hj; omega), ?_⟩
    · have hj : w.heap.size + 2 ≤ j := hj
      exact (set6_far (set6 w2 (w.heap.size + 1) (.int .i64 4) (.int .u8 op) (.string ⟨ro.toArray⟩) (.slice va2 os2.length vc2) (.string ⟨(100 :: ex).toArray⟩) (.bool ral)) w.heap.size _ _ _ _ _ _ j (by omega)).trans (set6_far _ _ _ _ _ _ _ _ j (by omega))
    · exact set6_below (set6_below HB2.out (Nat.le_succ _) (.int .i64 4) (.int .u8 op) (.string ⟨ro.toArray⟩) (.slice va2 os2.length vc2) (.string ⟨(100 :: ex).toArray⟩) (.bool ral)) (Nat.le_refl _) _ _ _ _ _ _
end Go.Proofs.YtlepicdjnbbndaaGreatDoor
