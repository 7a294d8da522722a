/-
  The reference's entry of an opcode of DDCB or FDCB. Conditions: the opcode is a byte.
-/
import Derived.Test.YtlepicdjnbbndaaGreatDoorS7
import Derived.Test.YtlepicdjnbbndaaGreatDoorTE
namespace Go.Proofs.YtlepicdjnbbndaaGreatDoor
open Go.RowKit Go.Shelf Go.Sort

theorem cb_lit (op a b c : Int) (h0 : 0 ≤ op) (h8 : op < 256) (w : World) : Calls Tryz.prog 50 #[.int .u8 op, .agg #[.int .i64 a, .int .i64 b, .int .i64 c]] w (InsOw w (cbF op ⟨a, b, c⟩).1 (cbF op ⟨a, b, c⟩).2) := cb9_any op ⟨a, b, c⟩ h0 h8 w
theorem entry6g {w : World} {g : Nat} {t : TypeId} {z0 z1 z2 z3 z4 z5 : Value} (h : Blk w g t #[z0, z1, z2, z3, z4, z5]) (a0 a1 a2 a3 a4 a5 : Value) : Blk (set6 w g a0 a1 a2 a3 a4 a5) g t #[a0, a1, a2, a3, a4, a5] := (((((h.set 0 _).set 1 _).set 2 _).set 3 _).set 4 _).set 5 _
theorem Fr.grown {w0 W w' : World} {L : List (Nat × TypeId × Array Value)} {row : Option Nat} (h : Fr w0 L W) (hg : W.grownBy w' row) (hr : ∀ k, row = some k → w0.heap.size ≤ k ∧ ∀ x ∈ L, x.1 ≠ k) : Fr w0 L w' :=
  ⟨h.below.grown hg h.below.size (fun k e => (hr k e).1), fun x hx => (h.at' x hx).grown hg (fun e => (hr x.1 e.symm).2 x hx rfl)⟩
/-- what a function that makes an entry leaves -/
def EntP (w : World) (pg : Int) (op : Int) (s : ByteArray) (l : List Opd) (ex : ByteArray) (al : Bool) (e : Ending) (w' : World) : Prop :=
  ∃ v, e = .returned (.agg #[.int .i64 pg, .int .u8 op, .string s, v, .string ex, .bool al]) ∧ OpdOwn w' (fun b => w.heap.size ≤ b) v l ∧ Below w.heap.size w w'
def both9F (pg op : Int) : ByteArray × List Opd × Bool :=
  if op % 8 = 6 then ((cbF op ⟨5, pg, 0⟩).1, (cbF op ⟨5, pg, 0⟩).2, false) else if op / 64 = 1 then ((cbF op ⟨5, pg, 0⟩).1, (cbF op ⟨5, pg, 0⟩).2, true)
  else ((cbF op ⟨5, pg, 0⟩).1, (cbF op ⟨5, pg, 0⟩).2 ++ [rF (op % 8)], false)
theorem OwO.set6 {w : World} {B g : Nat} {v : Value} {l : List Opd} (h : OwO w B v l) (hg : g < B) (a0 a1 a2 a3 a4 a5 : Value) : OwO (set6 w g a0 a1 a2 a3 a4 a5) B v l :=
  (((((h.far (p := ⟨g, 0, none⟩) hg _).far (p := ⟨g, 1, none⟩) hg _).far (p := ⟨g, 2, none⟩) hg _).far (p := ⟨g, 3, none⟩) hg _).far (p := ⟨g, 4, none⟩) hg _).far (p := ⟨g, 5, none⟩) hg _
theorem OwO.opd {w : World} {B C : Nat} {v : Value} {l : List Opd} (h : OwO w B v l) (hC : C ≤ B) : OpdOwn w (fun b => C ≤ b) v l := Own.opdOwn h (fun k hk => Nat.le_trans hC (Own.lt h k hk).1)
set_option maxHeartbeats 8000000 in
set_option maxRecDepth 100000 in
theorem both9_a (pg op : Int) (h0 : 0 ≤ op) (h8 : op < 256) (hl : (cbF op ⟨5, pg, 0⟩).2.length ≤ 100) (_h6 : op % 8 = 6) (w : World) : Calls Tryz.prog 54 #[.int .i64 pg, .int .u8 op] w (EntP w pg op (cbF op ⟨5, pg, 0⟩).1 (cbF op ⟨5, pg, 0⟩).2 ⟨#[100]⟩ false) := by
  have HCB := Lib.hid (fun W => cb_lit op 5 pg 0 h0 h8 W)
  have HF := Lib.hid (((Fr.start w).new 36 #[.int .i64 0, .int .u8 0, .string ⟨#[]⟩, .slice none 0 0, .string ⟨#[]⟩, .bool false]).new' 36 #[.int .i64 pg, .int .u8 op, .string ⟨#[]⟩, .slice none 0 0, .string ⟨#[100]⟩, .bool false] (b := w.heap.size + 1) (by rw [World.size_alloc]))
  have HL := Lib.hid hl
  clear hl
  generalize (cbF op ⟨5, pg, 0⟩).1 = s at *
  generalize (cbF op ⟨5, pg, 0⟩).2 = l at *
  go_enter Tryz.func54, Tryz.ntmps54
  go_wp2_with fail
  refine (HCB.out _).mono ?_
  rintro e w1 ⟨v, rfl, ho, hb⟩
  obtain ⟨va, vc, rfl⟩ := ho.form
  have HO0 := Lib.hid ho
  have H := Lib.hid (HF.out.next hb)
  have hs1 : w.heap.size + 2 ≤ w1.heap.size := by have := (H.out.blk 0 rfl).lt; omega
  have HO : Hid (OwO w1 (w.heap.size + 2) (.slice va l.length vc) l) := Own.base ho (by rw [World.size_alloc, World.size_alloc]; omega)
  clear ho hb HO0
  have e0 := (H.out.blk 0 rfl).cell 0
  have e1 := (H.out.blk 0 rfl).cell 1
  have e2 := (H.out.blk 0 rfl).cell 2
  have e3 := (H.out.blk 0 rfl).cell 3
  have e4 := (H.out.blk 0 rfl).cell 4
  have e5 := (H.out.blk 0 rfl).cell 5
  have z2 := (H.out.blk 0 rfl).free 2
  have z3 := (H.out.blk 0 rfl).free 3
  have z5 := (H.out.blk 0 rfl).free 5
  have r0 := (H.out.blk 1 rfl).cell 0
  have r1 := (H.out.blk 1 rfl).cell 1
  have r2 := (H.out.blk 1 rfl).cell 2
  have r3 := (H.out.blk 1 rfl).cell 3
  have r4 := (H.out.blk 1 rfl).cell 4
  have r5 := (H.out.blk 1 rfl).cell 5
  have y0 := (H.out.blk 1 rfl).free 0
  have y1 := (H.out.blk 1 rfl).free 1
  have y2 := (H.out.blk 1 rfl).free 2
  have y3 := (H.out.blk 1 rfl).free 3
  have y4 := (H.out.blk 1 rfl).free 4
  have y5 := (H.out.blk 1 rfl).free 5
  have HW : Hid (OwO ((w1.setCell ⟨w.heap.size + 1, 2, none⟩ (.string s)).setCell ⟨w.heap.size + 1, 3, none⟩ (.slice va l.length vc)) (w.heap.size + 2) (.slice va l.length vc) l) := (HO.out.far (p := ⟨w.heap.size + 1, 2, none⟩) (Nat.lt_succ_self _) _).far (p := ⟨w.heap.size + 1, 3, none⟩) (Nat.lt_succ_self _) _
  have HB : Hid (Below w.heap.size w ((w1.setCell ⟨w.heap.size + 1, 2, none⟩ (.string s)).setCell ⟨w.heap.size + 1, 3, none⟩ (.slice va l.length vc))) := (H.out.below.setCell (p := ⟨w.heap.size + 1, 2, none⟩) (Nat.le_succ _) _).setCell (p := ⟨w.heap.size + 1, 3, none⟩) (Nat.le_succ _) _
  have HR : Hid (Blk ((w1.setCell ⟨w.heap.size + 1, 2, none⟩ (.string s)).setCell ⟨w.heap.size + 1, 3, none⟩ (.slice va l.length vc)) w.heap.size 36 #[.int .i64 0, .int .u8 0, .string ⟨#[]⟩, .slice none 0 0, .string ⟨#[]⟩, .bool false]) := ((H.out.blk 1 rfl).far (p := ⟨w.heap.size + 1, 2, none⟩) (Nat.ne_of_lt (Nat.lt_succ_self _)) _).far (p := ⟨w.heap.size + 1, 3, none⟩) (Nat.ne_of_lt (Nat.lt_succ_self _)) _
  go_wp2
  exact bodyPost_ret (results_row1 rfl _ _ w.heap.size 36 #[.int .i64 pg, .int .u8 op, .string s, .slice va l.length vc, .string ⟨#[100]⟩, .bool false] (0, 0) _ rfl (entry6g HR.out _ _ _ _ _ _) Tryz.underlying36 rfl (by kernel_rfl)) rfl ⟨_, rfl, (HW.out.set6 (by omega) _ _ _ _ _ _).opd (by omega), set6_below HB.out (Nat.le_refl _) _ _ _ _ _ _⟩
set_option maxHeartbeats 8000000 in
set_option maxRecDepth 100000 in
theorem both9_b (pg op : Int) (h0 : 0 ≤ op) (h8 : op < 256) (hl : (cbF op ⟨5, pg, 0⟩).2.length ≤ 100) (h6 : ¬ op % 8 = 6) (_h64 : op / 64 = 1) (w : World) : Calls Tryz.prog 54 #[.int .i64 pg, .int .u8 op] w (EntP w pg op (cbF op ⟨5, pg, 0⟩).1 (cbF op ⟨5, pg, 0⟩).2 ⟨#[100]⟩ true) := by
  have HCB := Lib.hid (fun W => cb_lit op 5 pg 0 h0 h8 W)
  have HF := Lib.hid (((Fr.start w).new 36 #[.int .i64 0, .int .u8 0, .string ⟨#[]⟩, .slice none 0 0, .string ⟨#[]⟩, .bool false]).new' 36 #[.int .i64 pg, .int .u8 op, .string ⟨#[]⟩, .slice none 0 0, .string ⟨#[100]⟩, .bool false] (b := w.heap.size + 1) (by rw [World.size_alloc]))
  have HL := Lib.hid hl
  clear hl
  generalize (cbF op ⟨5, pg, 0⟩).1 = s at *
  generalize (cbF op ⟨5, pg, 0⟩).2 = l at *
  go_enter Tryz.func54, Tryz.ntmps54
  go_wp2_with fail
  refine (HCB.out _).mono ?_
  rintro e w1 ⟨v, rfl, ho, hb⟩
  obtain ⟨va, vc, rfl⟩ := ho.form
  have HO0 := Lib.hid ho
  have H := Lib.hid (HF.out.next hb)
  have hs1 : w.heap.size + 2 ≤ w1.heap.size := by have := (H.out.blk 0 rfl).lt; omega
  have HO : Hid (OwO w1 (w.heap.size + 2) (.slice va l.length vc) l) := Own.base ho (by rw [World.size_alloc, World.size_alloc]; omega)
  clear ho hb HO0
  have e0 := (H.out.blk 0 rfl).cell 0
  have e1 := (H.out.blk 0 rfl).cell 1
  have e2 := (H.out.blk 0 rfl).cell 2
  have e3 := (H.out.blk 0 rfl).cell 3
  have e4 := (H.out.blk 0 rfl).cell 4
  have e5 := (H.out.blk 0 rfl).cell 5
  have z2 := (H.out.blk 0 rfl).free 2
  have z3 := (H.out.blk 0 rfl).free 3
  have z5 := (H.out.blk 0 rfl).free 5
  have r0 := (H.out.blk 1 rfl).cell 0
  have r1 := (H.out.blk 1 rfl).cell 1
  have r2 := (H.out.blk 1 rfl).cell 2
  have r3 := (H.out.blk 1 rfl).cell 3
  have r4 := (H.out.blk 1 rfl).cell 4
  have r5 := (H.out.blk 1 rfl).cell 5
  have y0 := (H.out.blk 1 rfl).free 0
  have y1 := (H.out.blk 1 rfl).free 1
  have y2 := (H.out.blk 1 rfl).free 2
  have y3 := (H.out.blk 1 rfl).free 3
  have y4 := (H.out.blk 1 rfl).free 4
  have y5 := (H.out.blk 1 rfl).free 5
  have HW : Hid (OwO ((w1.setCell ⟨w.heap.size + 1, 2, none⟩ (.string s)).setCell ⟨w.heap.size + 1, 3, none⟩ (.slice va l.length vc)) (w.heap.size + 2) (.slice va l.length vc) l) := (HO.out.far (p := ⟨w.heap.size + 1, 2, none⟩) (Nat.lt_succ_self _) _).far (p := ⟨w.heap.size + 1, 3, none⟩) (Nat.lt_succ_self _) _
  have HB : Hid (Below w.heap.size w ((w1.setCell ⟨w.heap.size + 1, 2, none⟩ (.string s)).setCell ⟨w.heap.size + 1, 3, none⟩ (.slice va l.length vc))) := (H.out.below.setCell (p := ⟨w.heap.size + 1, 2, none⟩) (Nat.le_succ _) _).setCell (p := ⟨w.heap.size + 1, 3, none⟩) (Nat.le_succ _) _
  have HR : Hid (Blk ((w1.setCell ⟨w.heap.size + 1, 2, none⟩ (.string s)).setCell ⟨w.heap.size + 1, 3, none⟩ (.slice va l.length vc)) w.heap.size 36 #[.int .i64 0, .int .u8 0, .string ⟨#[]⟩, .slice none 0 0, .string ⟨#[]⟩, .bool false]) := ((H.out.blk 1 rfl).far (p := ⟨w.heap.size + 1, 2, none⟩) (Nat.ne_of_lt (Nat.lt_succ_self _)) _).far (p := ⟨w.heap.size + 1, 3, none⟩) (Nat.ne_of_lt (Nat.lt_succ_self _)) _
  have h6' : (op % 8 == 6) = false := by rw [beq_eq_false_iff_ne]; exact h6
  have HW2 := Lib.hid (HW.out.far (p := ⟨w.heap.size + 1, 5, none⟩) (Nat.lt_succ_self _) (.bool true))
  have HB2 := Lib.hid (HB.out.setCell (p := ⟨w.heap.size + 1, 5, none⟩) (Nat.le_succ _) (.bool true))
  have HR2 := Lib.hid (HR.out.far (p := ⟨w.heap.size + 1, 5, none⟩) (Nat.ne_of_lt (Nat.lt_succ_self _)) (.bool true))
  go_wp2
  exact bodyPost_ret (results_row1 rfl _ _ w.heap.size 36 #[.int .i64 pg, .int .u8 op, .string s, .slice va l.length vc, .string ⟨#[100]⟩, .bool true] (0, 0) _ rfl (entry6g HR2.out _ _ _ _ _ _) Tryz.underlying36 rfl (by kernel_rfl)) rfl ⟨_, rfl, (HW2.out.set6 (by omega) _ _ _ _ _ _).opd (by omega), set6_below HB2.out (Nat.le_refl _) _ _ _ _ _ _⟩
set_option maxHeartbeats 8000000 in
set_option maxRecDepth 100000 in
theorem both9_c (pg op : Int) (h0 : 0 ≤ op) (h8 : op < 256) (hl : (cbF op ⟨5, pg, 0⟩).2.length ≤ 100) (h6 : ¬ op % 8 = 6) (h64 : ¬ op / 64 = 1) (w : World) : Calls Tryz.prog 54 #[.int .i64 pg, .int .u8 op] w (EntP w pg op (cbF op ⟨5, pg, 0⟩).1 ((cbF op ⟨5, pg, 0⟩).2 ++ [rF (op % 8)]) ⟨#[100]⟩ false) := by
  have HCB := Lib.hid (fun W => cb_lit op 5 pg 0 h0 h8 W)
  have HF := Lib.hid (((Fr.start w).new 36 #[.int .i64 0, .int .u8 0, .string ⟨#[]⟩, .slice none 0 0, .string ⟨#[]⟩, .bool false]).new' 36 #[.int .i64 pg, .int .u8 op, .string ⟨#[]⟩, .slice none 0 0, .string ⟨#[100]⟩, .bool false] (b := w.heap.size + 1) (by rw [World.size_alloc]))
  have HL := Lib.hid hl
  clear hl
  generalize (cbF op ⟨5, pg, 0⟩).1 = s at *
  generalize (cbF op ⟨5, pg, 0⟩).2 = l at *
  go_enter Tryz.func54, Tryz.ntmps54
  go_wp2_with fail
  refine (HCB.out _).mono ?_
  rintro e w1 ⟨v, rfl, ho, hb⟩
  obtain ⟨va, vc, rfl⟩ := ho.form
  have HO0 := Lib.hid ho
  have H := Lib.hid (HF.out.next hb)
  have hs1 : w.heap.size + 2 ≤ w1.heap.size := by have := (H.out.blk 0 rfl).lt; omega
  have HO : Hid (OwO w1 (w.heap.size + 2) (.slice va l.length vc) l) := Own.base ho (by rw [World.size_alloc, World.size_alloc]; omega)
  clear ho hb HO0
  have e0 := (H.out.blk 0 rfl).cell 0
  have e1 := (H.out.blk 0 rfl).cell 1
  have e2 := (H.out.blk 0 rfl).cell 2
  have e3 := (H.out.blk 0 rfl).cell 3
  have e4 := (H.out.blk 0 rfl).cell 4
  have e5 := (H.out.blk 0 rfl).cell 5
  have z2 := (H.out.blk 0 rfl).free 2
  have z3 := (H.out.blk 0 rfl).free 3
  have z5 := (H.out.blk 0 rfl).free 5
  have r0 := (H.out.blk 1 rfl).cell 0
  have r1 := (H.out.blk 1 rfl).cell 1
  have r2 := (H.out.blk 1 rfl).cell 2
  have r3 := (H.out.blk 1 rfl).cell 3
  have r4 := (H.out.blk 1 rfl).cell 4
  have r5 := (H.out.blk 1 rfl).cell 5
  have y0 := (H.out.blk 1 rfl).free 0
  have y1 := (H.out.blk 1 rfl).free 1
  have y2 := (H.out.blk 1 rfl).free 2
  have y3 := (H.out.blk 1 rfl).free 3
  have y4 := (H.out.blk 1 rfl).free 4
  have y5 := (H.out.blk 1 rfl).free 5
  have HW : Hid (OwO ((w1.setCell ⟨w.heap.size + 1, 2, none⟩ (.string s)).setCell ⟨w.heap.size + 1, 3, none⟩ (.slice va l.length vc)) (w.heap.size + 2) (.slice va l.length vc) l) := (HO.out.far (p := ⟨w.heap.size + 1, 2, none⟩) (Nat.lt_succ_self _) _).far (p := ⟨w.heap.size + 1, 3, none⟩) (Nat.lt_succ_self _) _
  have HB : Hid (Below w.heap.size w ((w1.setCell ⟨w.heap.size + 1, 2, none⟩ (.string s)).setCell ⟨w.heap.size + 1, 3, none⟩ (.slice va l.length vc))) := (H.out.below.setCell (p := ⟨w.heap.size + 1, 2, none⟩) (Nat.le_succ _) _).setCell (p := ⟨w.heap.size + 1, 3, none⟩) (Nat.le_succ _) _
  have HR : Hid (Blk ((w1.setCell ⟨w.heap.size + 1, 2, none⟩ (.string s)).setCell ⟨w.heap.size + 1, 3, none⟩ (.slice va l.length vc)) w.heap.size 36 #[.int .i64 0, .int .u8 0, .string ⟨#[]⟩, .slice none 0 0, .string ⟨#[]⟩, .bool false]) := ((H.out.blk 1 rfl).far (p := ⟨w.heap.size + 1, 2, none⟩) (Nat.ne_of_lt (Nat.lt_succ_self _)) _).far (p := ⟨w.heap.size + 1, 3, none⟩) (Nat.ne_of_lt (Nat.lt_succ_self _)) _
  have h6' : (op % 8 == 6) = false := by rw [beq_eq_false_iff_ne]; exact h6
  have h64' : (op / 64 == 1) = false := by rw [beq_eq_false_iff_ne]; exact h64
  have HE : Hid (Blk ((w1.setCell ⟨w.heap.size + 1, 2, none⟩ (.string s)).setCell ⟨w.heap.size + 1, 3, none⟩ (.slice va l.length vc)) (w.heap.size + 1) 36 #[.int .i64 pg, .int .u8 op, .string s, .slice va l.length vc, .string ⟨#[100]⟩, .bool false]) := ((H.out.blk 0 rfl).set 2 _).set 3 _
  have hsz : Hid (w.heap.size + 2 ≤ ((w1.setCell ⟨w.heap.size + 1, 2, none⟩ (.string s)).setCell ⟨w.heap.size + 1, 3, none⟩ (.slice va l.length vc)).heap.size) := by show _ ≤ _; rw [World.size_setCell, World.size_setCell]; exact hs1
  go_wp2
  clear e0 e1 e2 e3 e4 e5 z2 z3 z5 r0 r1 r2 r3 r4 r5 y0 y1 y2 y3 y4 y5
  generalize (w1.setCell ⟨w.heap.size + 1, 2, none⟩ (.string s)).setCell ⟨w.heap.size + 1, 3, none⟩ (.slice va l.length vc) = W1 at *
  clear H HO hs1
  have e3 := HE.out.cell 3
  have hll : l.length ≤ 100 := HL.out
  have hm1 : op.tmod 8 = op % 8 := Int.tmod_eq_emod_of_nonneg h0
  have hm2 : IntKind.i64.wrap (op % 8) = op % 8 := IntWalk.i64_in _ (by omega)
  go_region_law ((first
    | (refine step_app_run (by rfl) (.tmp 25) (.tmp 30) 23 (by rfl) _ _ _ (by rfl) (by rfl) HRUN.out ?_)
    | (go_simp; go_at_call 51; refine (r_any _ _).mono ?_; rintro e w2 ⟨rfl, hb⟩; obtain ⟨a3, c3, w3, hrun, hp, hg⟩ := Own.pushed (P := Tryz.prog) (ty := 23) elOpd (h := (HW.out.below (Below.refl _ _).drew).below hb) (x := rF (op % 8)) #[.int .i64 (rF (op % 8)).kind, .int .i64 (rF (op % 8)).reg, .int .i64 (rF (op % 8)).n] rfl (by omega) (by omega) (Nat.le_trans hsz.out hb.size); have HRUN := Lib.hid hrun; have HP := Lib.hid hp; have HE2 := Lib.hid (HE.out.drew.below hb HE.out.lt); have q3 := HE2.out.cell 3; have hq := HE2.out.lt; have hrow : ∀ k, Value.ownBlock (.slice va l.length vc) = some k → w.heap.size + 2 ≤ k := (fun k hk => (Own.lt HW.out k hk).1); have HE3 := Lib.hid (HE2.out.grown hg (fun e => by have := hrow _ e.symm; omega)); have HR3 := Lib.hid ((HR.out.drew.below hb HR.out.lt).grown hg (fun e => by have := hrow _ e.symm; omega)); have HB3 := Lib.hid (((HB.out.drew).trans (hb.mono (by have := hsz.out; show _ ≤ W1.heap.size; omega))).grown hg (by have := hsz.out; have := hb.size; have : W1.heap.size ≤ w2.heap.size := hb.size; omega) (fun k hk => by have := hrow k hk; omega)); have x0 := HE3.out.cell 0; have x1 := HE3.out.cell 1; have x2 := HE3.out.cell 2; have x3 := HE3.out.cell 3; have x4 := HE3.out.cell 4; have x5 := HE3.out.cell 5; have u3 := HE3.out.free 3; have r0 := HR3.out.cell 0; have r1 := HR3.out.cell 1; have r2 := HR3.out.cell 2; have r3 := HR3.out.cell 3; have r4 := HR3.out.cell 4; have r5 := HR3.out.cell 5; have y0 := HR3.out.free 0; have y1 := HR3.out.free 1; have y2 := HR3.out.free 2; have y3 := HR3.out.free 3; have y4 := HR3.out.free 4; have y5 := HR3.out.free 5; clear hb hrun hp hg hrow; dsimp only)))
  all_goals go_wp2
  all_goals
    have hp : OwO w3 (w.heap.size + 2) (.slice a3 (l.length + 1) c3) (l ++ [rF (op % 8)]) := HP.out
    exact bodyPost_ret (results_row1 rfl _ _ w.heap.size 36 #[.int .i64 pg, .int .u8 op, .string s, .slice a3 (l.length + 1) c3, .string ⟨#[100]⟩, .bool false] (0, 0) _ rfl (entry6g (HR3.out.far (p := ⟨w.heap.size + 1, 3, none⟩) (Nat.ne_of_lt (Nat.lt_succ_self _)) _) _ _ _ _ _ _) Tryz.underlying36 rfl (by kernel_rfl)) rfl ⟨_, rfl, ((hp.far (p := ⟨w.heap.size + 1, 3, none⟩) (Nat.lt_succ_self _) _).set6 (by omega) _ _ _ _ _ _).opd (by omega), set6_below (HB3.out.setCell (p := ⟨w.heap.size + 1, 3, none⟩) (Nat.le_succ _) _) (Nat.le_refl _) _ _ _ _ _ _⟩
theorem both9_any (pg op : Int) (h0 : 0 ≤ op) (h8 : op < 256) (hl : (cbF op ⟨5, pg, 0⟩).2.length ≤ 100) (w : World) : Calls Tryz.prog 54 #[.int .i64 pg, .int .u8 op] w (EntP w pg op (both9F pg op).1 (both9F pg op).2.1 ⟨#[100]⟩ (both9F pg op).2.2) := by
  unfold both9F
  by_cases h6 : op % 8 = 6
  · rw [if_pos h6]
    exact both9_a pg op h0 h8 hl h6 w
  · rw [if_neg h6]
    by_cases h64 : op / 64 = 1
    · rw [if_pos h64]
      exact both9_b pg op h0 h8 hl h6 h64 w
    · rw [if_neg h64]
      exact both9_c pg op h0 h8 hl h6 h64 w
end Go.Proofs.YtlepicdjnbbndaaGreatDoor
