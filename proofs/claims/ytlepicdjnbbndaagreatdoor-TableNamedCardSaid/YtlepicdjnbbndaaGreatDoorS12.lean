/-
  The reference's At on the page without prefix. Conditions: the opcode is a byte.
-/
import Derived.Test.YtlepicdjnbbndaaGreatDoorS6
import Derived.Test.YtlepicdjnbbndaaGreatDoorS9
import Derived.Test.YtlepicdjnbbndaaGreatDoorS10
import Derived.Test.YtlepicdjnbbndaaGreatDoorS11
namespace Go.Proofs.YtlepicdjnbbndaaGreatDoor
open Go.RowKit Go.Shelf Go.Sort

def ent9 : Value := .agg #[.int .i64 0, .int .u8 0, .string ⟨#[]⟩, .slice none 0 0, .string ⟨#[]⟩, .bool false]
theorem at9_end {fn : Func} {p u : Tmp} (h : fn.results = #[.cell p 36, .tmp u]) {tmps : Array Value} {w' : World} {g : Nat} {a0 a1 a2 a3 a4 a5 : Value} (hp : tmps.getD p undef = .pointer (some ⟨g, 0, none⟩))
    (hg : Blk w' g 36 #[a0, a1, a2, a3, a4, a5]) : (results fn tmps).run Tryz.prog w' = .ok (.tuple #[.agg #[a0, a1, a2, a3, a4, a5], tmps.getD u undef]) w' :=
  results_row_tmp h tmps w' g 36 _ (0, 0) _ hp hg Tryz.underlying36 rfl (by kernel_rfl)
theorem str_empty {s : ByteArray} (h : ¬ s = ⟨#[]⟩) : (s.toList == []) = false ∧ s.toList.isEmpty = false := by
  have h1 : s.toList ≠ [] := fun e => h (toList_inj (by rw [e]; exact (Go.ByteArray.toList_eq (⟨#[]⟩ : ByteArray)).symm))
  exact ⟨by rw [beq_eq_false_iff_ne]; exact h1, by cases hl : s.toList with | nil => exact absurd hl h1 | cons a b => rfl⟩
theorem OpdOwn.set6 {w : World} {q : Blocks} {g : Nat} {v : Value} {l : List Opd} (h : OpdOwn w q v l) (hg : ∀ k, q k → k ≠ g) (a0 a1 a2 a3 a4 a5 : Value) : OpdOwn (set6 w g a0 a1 a2 a3 a4 a5) q v l := h.keep (fun k hk => set6_far _ _ _ _ _ _ _ _ k (hg k hk))
set_option maxHeartbeats 8000000 in
set_option maxRecDepth 100000 in
theorem At9_0_no (op : Int) (h0 : 0 ≤ op) (h8 : op < 256) (hs : (mainF op).1 = ⟨#[]⟩) (w : World) : Calls Tryz.prog 17 #[.int .i64 0, .int .u8 op] w fun e w' => e = .returned (.tuple #[ent9, .int .i64 2]) ∧ Below w.heap.size w w' := by
  have HCB := Lib.hid (fun W => main9_any op h0 h8 W)
  have HF := Lib.hid (((Fr.start w).new 36 #[.int .i64 0, .int .u8 0, .string ⟨#[]⟩, .slice none 0 0, .string ⟨#[]⟩, .bool false]).new' 36 #[.int .i64 0, .int .u8 op, .string ⟨#[]⟩, .slice none 0 0, .string ⟨#[]⟩, .bool false] (b := w.heap.size + 1) (by rw [World.size_alloc]))
  generalize (mainF op).1 = s at *
  generalize (mainF op).2.1 = l at *
  generalize (mainF op).2.2 = ex at *
  subst hs
  go_enter Tryz.func17, Tryz.ntmps17
  go_wp2_with fail
  refine (HCB.out _).mono ?_
  rintro e w1 ⟨v, rfl, ho, hb⟩
  obtain ⟨va, vc, rfl⟩ := ho.form
  have H := Lib.hid (HF.out.next hb)
  have hs1 : w.heap.size + 2 ≤ w1.heap.size := by have := (H.out.blk 0 rfl).lt; omega
  have HO : Hid (OpdOwn w1 (fun k => w.heap.size + 2 ≤ k) (.slice va l.length vc) l) := ho.mono (fun k hk => by rw [World.size_alloc, World.size_alloc] at hk; omega)
  clear ho hb
  have e0 := (H.out.blk 0 rfl).cell 0
  have e1 := (H.out.blk 0 rfl).cell 1
  have e2 := (H.out.blk 0 rfl).cell 2
  have e3 := (H.out.blk 0 rfl).cell 3
  have e4 := (H.out.blk 0 rfl).cell 4
  have e5 := (H.out.blk 0 rfl).cell 5
  have r0 := (H.out.blk 1 rfl).cell 0
  have r1 := (H.out.blk 1 rfl).cell 1
  have r2 := (H.out.blk 1 rfl).cell 2
  have r3 := (H.out.blk 1 rfl).cell 3
  have r4 := (H.out.blk 1 rfl).cell 4
  have r5 := (H.out.blk 1 rfl).cell 5
  have z0 := (H.out.blk 0 rfl).free 0
  have y0 := (H.out.blk 1 rfl).free 0
  have z1 := (H.out.blk 0 rfl).free 1
  have y1 := (H.out.blk 1 rfl).free 1
  have z2 := (H.out.blk 0 rfl).free 2
  have y2 := (H.out.blk 1 rfl).free 2
  have z3 := (H.out.blk 0 rfl).free 3
  have y3 := (H.out.blk 1 rfl).free 3
  have z4 := (H.out.blk 0 rfl).free 4
  have y4 := (H.out.blk 1 rfl).free 4
  have z5 := (H.out.blk 0 rfl).free 5
  have y5 := (H.out.blk 1 rfl).free 5
  go_wp2
  exact bodyPost_ret (at9_end rfl rfl (entry6g ((((H.out.blk 1 rfl).far (p := ⟨w.heap.size + 1, 2, none⟩) (Nat.ne_of_lt (Nat.lt_succ_self _)) _).far (p := ⟨w.heap.size + 1, 3, none⟩) (Nat.ne_of_lt (Nat.lt_succ_self _)) _).far (p := ⟨w.heap.size + 1, 4, none⟩) (Nat.ne_of_lt (Nat.lt_succ_self _)) _) _ _ _ _ _ _)) rfl ⟨rfl, set6_below (((H.out.below.setCell (p := ⟨w.heap.size + 1, 2, none⟩) (Nat.le_succ _) _).setCell (p := ⟨w.heap.size + 1, 3, none⟩) (Nat.le_succ _) _).setCell (p := ⟨w.heap.size + 1, 4, none⟩) (Nat.le_succ _) _) (Nat.le_refl _) _ _ _ _ _ _⟩
set_option maxHeartbeats 8000000 in
set_option maxRecDepth 100000 in
theorem At9_0_yes (op : Int) (h0 : 0 ≤ op) (h8 : op < 256) (hs : ¬ (mainF op).1 = ⟨#[]⟩) (w : World) : Calls Tryz.prog 17 #[.int .i64 0, .int .u8 op] w fun e w' => ∃ v, e = .returned (.tuple #[.agg #[.int .i64 0, .int .u8 op, .string (mainF op).1, v, .string (mainF op).2.2, .bool false], .int .i64 1]) ∧ OpdOwn w' (fun b => w.heap.size ≤ b) v (mainF op).2.1 ∧ Below w.heap.size w w' := by
  have HCB := Lib.hid (fun W => main9_any op h0 h8 W)
  have HF := Lib.hid (((Fr.start w).new 36 #[.int .i64 0, .int .u8 0, .string ⟨#[]⟩, .slice none 0 0, .string ⟨#[]⟩, .bool false]).new' 36 #[.int .i64 0, .int .u8 op, .string ⟨#[]⟩, .slice none 0 0, .string ⟨#[]⟩, .bool false] (b := w.heap.size + 1) (by rw [World.size_alloc]))
  generalize (mainF op).1 = s at *
  generalize (mainF op).2.1 = l at *
  generalize (mainF op).2.2 = ex at *
  obtain ⟨t1, t2⟩ := str_empty hs
  go_enter Tryz.func17, Tryz.ntmps17
  go_wp2_with fail
  refine (HCB.out _).mono ?_
  rintro e w1 ⟨v, rfl, ho, hb⟩
  obtain ⟨va, vc, rfl⟩ := ho.form
  have H := Lib.hid (HF.out.next hb)
  have hs1 : w.heap.size + 2 ≤ w1.heap.size := by have := (H.out.blk 0 rfl).lt; omega
  have HO : Hid (OpdOwn w1 (fun k => w.heap.size + 2 ≤ k) (.slice va l.length vc) l) := ho.mono (fun k hk => by rw [World.size_alloc, World.size_alloc] at hk; omega)
  clear ho hb
  have e0 := (H.out.blk 0 rfl).cell 0
  have e1 := (H.out.blk 0 rfl).cell 1
  have e2 := (H.out.blk 0 rfl).cell 2
  have e3 := (H.out.blk 0 rfl).cell 3
  have e4 := (H.out.blk 0 rfl).cell 4
  have e5 := (H.out.blk 0 rfl).cell 5
  have r0 := (H.out.blk 1 rfl).cell 0
  have r1 := (H.out.blk 1 rfl).cell 1
  have r2 := (H.out.blk 1 rfl).cell 2
  have r3 := (H.out.blk 1 rfl).cell 3
  have r4 := (H.out.blk 1 rfl).cell 4
  have r5 := (H.out.blk 1 rfl).cell 5
  have z0 := (H.out.blk 0 rfl).free 0
  have y0 := (H.out.blk 1 rfl).free 0
  have z1 := (H.out.blk 0 rfl).free 1
  have y1 := (H.out.blk 1 rfl).free 1
  have z2 := (H.out.blk 0 rfl).free 2
  have y2 := (H.out.blk 1 rfl).free 2
  have z3 := (H.out.blk 0 rfl).free 3
  have y3 := (H.out.blk 1 rfl).free 3
  have z4 := (H.out.blk 0 rfl).free 4
  have y4 := (H.out.blk 1 rfl).free 4
  have z5 := (H.out.blk 0 rfl).free 5
  have y5 := (H.out.blk 1 rfl).free 5
  go_wp2
  refine bodyPost_ret (at9_end rfl rfl (entry6g ((((H.out.blk 1 rfl).far (p := ⟨w.heap.size + 1, 2, none⟩) (Nat.ne_of_lt (Nat.lt_succ_self _)) _).far (p := ⟨w.heap.size + 1, 3, none⟩) (Nat.ne_of_lt (Nat.lt_succ_self _)) _).far (p := ⟨w.heap.size + 1, 4, none⟩) (Nat.ne_of_lt (Nat.lt_succ_self _)) _) _ _ _ _ _ _)) rfl ⟨_, rfl, (((((HO.out.far (p := ⟨w.heap.size + 1, 2, none⟩) (fun k hk => by show k ≠ w.heap.size + 1; omega) _).far (p := ⟨w.heap.size + 1, 3, none⟩) (fun k hk => by show k ≠ w.heap.size + 1; omega) _).far (p := ⟨w.heap.size + 1, 4, none⟩) (fun k hk => by show k ≠ w.heap.size + 1; omega) _).set6 (fun k hk => by omega) _ _ _ _ _ _).mono (fun k hk => by omega)), set6_below (((H.out.below.setCell (p := ⟨w.heap.size + 1, 2, none⟩) (Nat.le_succ _) _).setCell (p := ⟨w.heap.size + 1, 3, none⟩) (Nat.le_succ _) _).setCell (p := ⟨w.heap.size + 1, 4, none⟩) (Nat.le_succ _) _) (Nat.le_refl _) _ _ _ _ _ _⟩
set_option maxHeartbeats 8000000 in
set_option maxRecDepth 100000 in
theorem At9_2_no (op : Int) (h0 : 0 ≤ op) (h8 : op < 256) (hs : (edF op).1 = ⟨#[]⟩) (w : World) : Calls Tryz.prog 17 #[.int .i64 2, .int .u8 op] w fun e w' => e = .returned (.tuple #[ent9, .int .i64 3]) ∧ Below w.heap.size w w' := by
  have HCB := Lib.hid (fun W => ed9_any op h0 h8 W)
  have HF := Lib.hid (((Fr.start w).new 36 #[.int .i64 0, .int .u8 0, .string ⟨#[]⟩, .slice none 0 0, .string ⟨#[]⟩, .bool false]).new' 36 #[.int .i64 2, .int .u8 op, .string ⟨#[]⟩, .slice none 0 0, .string ⟨#[]⟩, .bool false] (b := w.heap.size + 1) (by rw [World.size_alloc]))
  generalize (edF op).1 = s at *
  generalize (edF op).2.1 = l at *
  generalize (edF op).2.2.1 = ex at *
  generalize (edF op).2.2.2 = al at *
  subst hs
  go_enter Tryz.func17, Tryz.ntmps17
  go_wp2_with fail
  refine (HCB.out _).mono ?_
  rintro e w1 ⟨v, rfl, ho, hb⟩
  obtain ⟨va, vc, rfl⟩ := ho.form
  have H := Lib.hid (HF.out.next hb)
  have hs1 : w.heap.size + 2 ≤ w1.heap.size := by have := (H.out.blk 0 rfl).lt; omega
  have HO : Hid (OpdOwn w1 (fun k => w.heap.size + 2 ≤ k) (.slice va l.length vc) l) := ho.mono (fun k hk => by rw [World.size_alloc, World.size_alloc] at hk; omega)
  clear ho hb
  have e0 := (H.out.blk 0 rfl).cell 0
  have e1 := (H.out.blk 0 rfl).cell 1
  have e2 := (H.out.blk 0 rfl).cell 2
  have e3 := (H.out.blk 0 rfl).cell 3
  have e4 := (H.out.blk 0 rfl).cell 4
  have e5 := (H.out.blk 0 rfl).cell 5
  have r0 := (H.out.blk 1 rfl).cell 0
  have r1 := (H.out.blk 1 rfl).cell 1
  have r2 := (H.out.blk 1 rfl).cell 2
  have r3 := (H.out.blk 1 rfl).cell 3
  have r4 := (H.out.blk 1 rfl).cell 4
  have r5 := (H.out.blk 1 rfl).cell 5
  have z0 := (H.out.blk 0 rfl).free 0
  have y0 := (H.out.blk 1 rfl).free 0
  have z1 := (H.out.blk 0 rfl).free 1
  have y1 := (H.out.blk 1 rfl).free 1
  have z2 := (H.out.blk 0 rfl).free 2
  have y2 := (H.out.blk 1 rfl).free 2
  have z3 := (H.out.blk 0 rfl).free 3
  have y3 := (H.out.blk 1 rfl).free 3
  have z4 := (H.out.blk 0 rfl).free 4
  have y4 := (H.out.blk 1 rfl).free 4
  have z5 := (H.out.blk 0 rfl).free 5
  have y5 := (H.out.blk 1 rfl).free 5
  go_wp2
  exact bodyPost_ret (at9_end rfl rfl (entry6g (((((H.out.blk 1 rfl).far (p := ⟨w.heap.size + 1, 2, none⟩) (Nat.ne_of_lt (Nat.lt_succ_self _)) _).far (p := ⟨w.heap.size + 1, 3, none⟩) (Nat.ne_of_lt (Nat.lt_succ_self _)) _).far (p := ⟨w.heap.size + 1, 4, none⟩) (Nat.ne_of_lt (Nat.lt_succ_self _)) _).far (p := ⟨w.heap.size + 1, 5, none⟩) (Nat.ne_of_lt (Nat.lt_succ_self _)) _) _ _ _ _ _ _)) rfl ⟨rfl, set6_below ((((H.out.below.setCell (p := ⟨w.heap.size + 1, 2, none⟩) (Nat.le_succ _) _).setCell (p := ⟨w.heap.size + 1, 3, none⟩) (Nat.le_succ _) _).setCell (p := ⟨w.heap.size + 1, 4, none⟩) (Nat.le_succ _) _).setCell (p := ⟨w.heap.size + 1, 5, none⟩) (Nat.le_succ _) _) (Nat.le_refl _) _ _ _ _ _ _⟩
set_option maxHeartbeats 8000000 in
set_option maxRecDepth 100000 in
theorem At9_2_yes (op : Int) (h0 : 0 ≤ op) (h8 : op < 256) (hs : ¬ (edF op).1 = ⟨#[]⟩) (w : World) : Calls Tryz.prog 17 #[.int .i64 2, .int .u8 op] w fun e w' => ∃ v, e = .returned (.tuple #[.agg #[.int .i64 2, .int .u8 op, .string (edF op).1, v, .string (edF op).2.2.1, .bool (edF op).2.2.2], .int .i64 1]) ∧ OpdOwn w' (fun b => w.heap.size ≤ b) v (edF op).2.1 ∧ Below w.heap.size w w' := by
  have HCB := Lib.hid (fun W => ed9_any op h0 h8 W)
  have HF := Lib.hid (((Fr.start w).new 36 #[.int .i64 0, .int .u8 0, .string ⟨#[]⟩, .slice none 0 0, .string ⟨#[]⟩, .bool false]).new' 36 #[.int .i64 2, .int .u8 op, .string ⟨#[]⟩, .slice none 0 0, .string ⟨#[]⟩, .bool false] (b := w.heap.size + 1) (by rw [World.size_alloc]))
  generalize (edF op).1 = s at *
  generalize (edF op).2.1 = l at *
  generalize (edF op).2.2.1 = ex at *
  generalize (edF op).2.2.2 = al at *
  obtain ⟨t1, t2⟩ := str_empty hs
  go_enter Tryz.func17, Tryz.ntmps17
  go_wp2_with fail
  refine (HCB.out _).mono ?_
  rintro e w1 ⟨v, rfl, ho, hb⟩
  obtain ⟨va, vc, rfl⟩ := ho.form
  have H := Lib.hid (HF.out.next hb)
  have hs1 : w.heap.size + 2 ≤ w1.heap.size := by have := (H.out.blk 0 rfl).lt; omega
  have HO : Hid (OpdOwn w1 (fun k => w.heap.size + 2 ≤ k) (.slice va l.length vc) l) := ho.mono (fun k hk => by rw [World.size_alloc, World.size_alloc] at hk; omega)
  clear ho hb
  have e0 := (H.out.blk 0 rfl).cell 0
  have e1 := (H.out.blk 0 rfl).cell 1
  have e2 := (H.out.blk 0 rfl).cell 2
  have e3 := (H.out.blk 0 rfl).cell 3
  have e4 := (H.out.blk 0 rfl).cell 4
  have e5 := (H.out.blk 0 rfl).cell 5
  have r0 := (H.out.blk 1 rfl).cell 0
  have r1 := (H.out.blk 1 rfl).cell 1
  have r2 := (H.out.blk 1 rfl).cell 2
  have r3 := (H.out.blk 1 rfl).cell 3
  have r4 := (H.out.blk 1 rfl).cell 4
  have r5 := (H.out.blk 1 rfl).cell 5
  have z0 := (H.out.blk 0 rfl).free 0
  have y0 := (H.out.blk 1 rfl).free 0
  have z1 := (H.out.blk 0 rfl).free 1
  have y1 := (H.out.blk 1 rfl).free 1
  have z2 := (H.out.blk 0 rfl).free 2
  have y2 := (H.out.blk 1 rfl).free 2
  have z3 := (H.out.blk 0 rfl).free 3
  have y3 := (H.out.blk 1 rfl).free 3
  have z4 := (H.out.blk 0 rfl).free 4
  have y4 := (H.out.blk 1 rfl).free 4
  have z5 := (H.out.blk 0 rfl).free 5
  have y5 := (H.out.blk 1 rfl).free 5
  go_wp2
  refine bodyPost_ret (at9_end rfl rfl (entry6g (((((H.out.blk 1 rfl).far (p := ⟨w.heap.size + 1, 2, none⟩) (Nat.ne_of_lt (Nat.lt_succ_self _)) _).far (p := ⟨w.heap.size + 1, 3, none⟩) (Nat.ne_of_lt (Nat.lt_succ_self _)) _).far (p := ⟨w.heap.size + 1, 4, none⟩) (Nat.ne_of_lt (Nat.lt_succ_self _)) _).far (p := ⟨w.heap.size + 1, 5, none⟩) (Nat.ne_of_lt (Nat.lt_succ_self _)) _) _ _ _ _ _ _)) rfl ⟨_, rfl, ((((((HO.out.far (p := ⟨w.heap.size + 1, 2, none⟩) (fun k hk => by show k ≠ w.heap.size + 1; omega) _).far (p := ⟨w.heap.size + 1, 3, none⟩) (fun k hk => by show k ≠ w.heap.size + 1; omega) _).far (p := ⟨w.heap.size + 1, 4, none⟩) (fun k hk => by show k ≠ w.heap.size + 1; omega) _).far (p := ⟨w.heap.size + 1, 5, none⟩) (fun k hk => by show k ≠ w.heap.size + 1; omega) _).set6 (fun k hk => by omega) _ _ _ _ _ _).mono (fun k hk => by omega)), set6_below ((((H.out.below.setCell (p := ⟨w.heap.size + 1, 2, none⟩) (Nat.le_succ _) _).setCell (p := ⟨w.heap.size + 1, 3, none⟩) (Nat.le_succ _) _).setCell (p := ⟨w.heap.size + 1, 4, none⟩) (Nat.le_succ _) _).setCell (p := ⟨w.heap.size + 1, 5, none⟩) (Nat.le_succ _) _) (Nat.le_refl _) _ _ _ _ _ _⟩
set_option maxHeartbeats 8000000 in
set_option maxRecDepth 100000 in
theorem At9_1_yes (op : Int) (h0 : 0 ≤ op) (h8 : op < 256) (hs : ¬ (cbF op (rF (op % 8))).1 = ⟨#[]⟩) (w : World) : Calls Tryz.prog 17 #[.int .i64 1, .int .u8 op] w fun e w' => ∃ v, e = .returned (.tuple #[.agg #[.int .i64 1, .int .u8 op, .string (cbF op (rF (op % 8))).1, v, .string ⟨#[]⟩, .bool false], .int .i64 1]) ∧ OpdOwn w' (fun b => w.heap.size ≤ b) v (cbF op (rF (op % 8))).2 ∧ Below w.heap.size w w' := by
  have HCB := Lib.hid (fun W => cb9_any op (rF (op % 8)) h0 h8 W)
  have HF := Lib.hid (((Fr.start w).new 36 #[.int .i64 0, .int .u8 0, .string ⟨#[]⟩, .slice none 0 0, .string ⟨#[]⟩, .bool false]).new' 36 #[.int .i64 1, .int .u8 op, .string ⟨#[]⟩, .slice none 0 0, .string ⟨#[]⟩, .bool false] (b := w.heap.size + 1) (by rw [World.size_alloc]))
  generalize (cbF op (rF (op % 8))).1 = s at *
  generalize (cbF op (rF (op % 8))).2 = l at *
  obtain ⟨t1, t2⟩ := str_empty hs
  go_enter Tryz.func17, Tryz.ntmps17
  go_wp2_with fail
  refine (r_any _ _).mono ?_
  rintro e w1 ⟨rfl, hb⟩
  have H1 := Lib.hid (HF.out.next hb)
  clear hb
  go_wp2_with fail
  refine (HCB.out _).mono ?_
  rintro e w2 ⟨v, rfl, ho, hb⟩
  obtain ⟨va, vc, rfl⟩ := ho.form
  have hs1 : w.heap.size + 2 ≤ w1.heap.size := by have := (H1.out.blk 0 rfl).lt; omega
  have H := Lib.hid (H1.out.next hb)
  have HO : Hid (OpdOwn w2 (fun k => w.heap.size + 2 ≤ k) (.slice va l.length vc) l) := ho.opd hs1
  clear ho hb H1
  have e0 := (H.out.blk 0 rfl).cell 0
  have e1 := (H.out.blk 0 rfl).cell 1
  have e2 := (H.out.blk 0 rfl).cell 2
  have e3 := (H.out.blk 0 rfl).cell 3
  have e4 := (H.out.blk 0 rfl).cell 4
  have e5 := (H.out.blk 0 rfl).cell 5
  have r0 := (H.out.blk 1 rfl).cell 0
  have r1 := (H.out.blk 1 rfl).cell 1
  have r2 := (H.out.blk 1 rfl).cell 2
  have r3 := (H.out.blk 1 rfl).cell 3
  have r4 := (H.out.blk 1 rfl).cell 4
  have r5 := (H.out.blk 1 rfl).cell 5
  have z0 := (H.out.blk 0 rfl).free 0
  have y0 := (H.out.blk 1 rfl).free 0
  have z1 := (H.out.blk 0 rfl).free 1
  have y1 := (H.out.blk 1 rfl).free 1
  have z2 := (H.out.blk 0 rfl).free 2
  have y2 := (H.out.blk 1 rfl).free 2
  have z3 := (H.out.blk 0 rfl).free 3
  have y3 := (H.out.blk 1 rfl).free 3
  have z4 := (H.out.blk 0 rfl).free 4
  have y4 := (H.out.blk 1 rfl).free 4
  have z5 := (H.out.blk 0 rfl).free 5
  have y5 := (H.out.blk 1 rfl).free 5
  go_wp2
  refine bodyPost_ret (at9_end rfl rfl (entry6g (((H.out.blk 1 rfl).far (p := ⟨w.heap.size + 1, 2, none⟩) (Nat.ne_of_lt (Nat.lt_succ_self _)) _).far (p := ⟨w.heap.size + 1, 3, none⟩) (Nat.ne_of_lt (Nat.lt_succ_self _)) _) _ _ _ _ _ _)) rfl ⟨_, rfl, ((((HO.out.far (p := ⟨w.heap.size + 1, 2, none⟩) (fun k hk => by show k ≠ w.heap.size + 1; omega) _).far (p := ⟨w.heap.size + 1, 3, none⟩) (fun k hk => by show k ≠ w.heap.size + 1; omega) _).set6 (fun k hk => by omega) _ _ _ _ _ _).mono (fun k hk => by omega)), set6_below ((H.out.below.setCell (p := ⟨w.heap.size + 1, 2, none⟩) (Nat.le_succ _) _).setCell (p := ⟨w.heap.size + 1, 3, none⟩) (Nat.le_succ _) _) (Nat.le_refl _) _ _ _ _ _ _⟩
set_option maxHeartbeats 8000000 in
set_option maxRecDepth 100000 in
theorem At9_3_no (op : Int) (h0 : 0 ≤ op) (h8 : op < 256) (hcb : ¬ op = 203) (hl1 : (mainF op).2.1.length ≤ 1000) (hl2 : (mainF op).1.size ≤ 1000) (hl3 : (mainF op).2.2.size ≤ 1000) (hs : (ixR 5 (mainF op).1 (mainF op).2.1 (mainF op).2.2).1 = ⟨#[]⟩) (w : World) : Calls Tryz.prog 17 #[.int .i64 3, .int .u8 op] w fun e w' => e = .returned (.tuple #[ent9, .int .i64 0]) ∧ Below w.heap.size w w' := by
  have HM := Lib.hid (fun W => main9_any op h0 h8 W)
  have HIX := Lib.hid (fun p v W h => indexed9_any 5 (mainF op).1 (mainF op).2.2 (mainF op).2.1 p v W h (by omega) (by omega) hl1 hl2 hl3)
  clear hl1 hl2 hl3
  have hcb2 : (op == 203) = false := by rw [beq_eq_false_iff_ne]; exact hcb
  have HF := Lib.hid (((Fr.start w).new 36 #[.int .i64 0, .int .u8 0, .string ⟨#[]⟩, .slice none 0 0, .string ⟨#[]⟩, .bool false]).new' 36 #[.int .i64 3, .int .u8 op, .string ⟨#[]⟩, .slice none 0 0, .string ⟨#[]⟩, .bool false] (b := w.heap.size + 1) (by rw [World.size_alloc]))
  generalize (ixR 5 (mainF op).1 (mainF op).2.1 (mainF op).2.2).1 = s at *
  generalize (ixR 5 (mainF op).1 (mainF op).2.1 (mainF op).2.2).2.1 = l at *
  generalize (ixR 5 (mainF op).1 (mainF op).2.1 (mainF op).2.2).2.2 = ex at *
  generalize (mainF op).1 = s1 at *
  generalize (mainF op).2.1 = l1 at *
  generalize (mainF op).2.2 = ex1 at *
  subst hs
  go_enter Tryz.func17, Tryz.ntmps17
  go_wp2_with fail
  refine (HM.out _).mono ?_
  rintro e w1 ⟨v1, rfl, ho1, hb⟩
  obtain ⟨va1, vc1, rfl⟩ := ho1.form
  have H1 := Lib.hid ((HF.out.next hb).alloc (.cells #[.string s1, .slice va1 l1.length vc1] 25))
  have HF1 := Lib.hid (Blk.new w1 25 #[.string s1, .slice va1 l1.length vc1])
  have HS1 := Lib.hid (ho1.slR.alloc (.cells #[.string s1, .slice va1 l1.length vc1] 25))
  have hs1 : w.heap.size + 2 ≤ w1.heap.size := by have := ((HF.out.next hb).blk 0 rfl).lt; omega
  obtain ⟨m0, m1, _, _⟩ := HF1.out.two
  clear hb ho1
  go_wp2_with fail
  refine (HIX.out _ _ _ HS1.out).mono ?_
  rintro e w2 ⟨v, rfl, ho, hb⟩
  obtain ⟨va, vc, rfl⟩ := ho.form
  have H := Lib.hid (H1.out.next hb)
  have HO : Hid (OpdOwn w2 (fun k => w.heap.size + 2 ≤ k) (.slice va l.length vc) l) := ho.mono (fun k hk => by rw [World.size_alloc] at hk; omega)
  clear ho hb H1 m0 m1
  have e0 := (H.out.blk 0 rfl).cell 0
  have e1 := (H.out.blk 0 rfl).cell 1
  have e2 := (H.out.blk 0 rfl).cell 2
  have e3 := (H.out.blk 0 rfl).cell 3
  have e4 := (H.out.blk 0 rfl).cell 4
  have e5 := (H.out.blk 0 rfl).cell 5
  have r0 := (H.out.blk 1 rfl).cell 0
  have r1 := (H.out.blk 1 rfl).cell 1
  have r2 := (H.out.blk 1 rfl).cell 2
  have r3 := (H.out.blk 1 rfl).cell 3
  have r4 := (H.out.blk 1 rfl).cell 4
  have r5 := (H.out.blk 1 rfl).cell 5
  have z0 := (H.out.blk 0 rfl).free 0
  have y0 := (H.out.blk 1 rfl).free 0
  have z1 := (H.out.blk 0 rfl).free 1
  have y1 := (H.out.blk 1 rfl).free 1
  have z2 := (H.out.blk 0 rfl).free 2
  have y2 := (H.out.blk 1 rfl).free 2
  have z3 := (H.out.blk 0 rfl).free 3
  have y3 := (H.out.blk 1 rfl).free 3
  have z4 := (H.out.blk 0 rfl).free 4
  have y4 := (H.out.blk 1 rfl).free 4
  have z5 := (H.out.blk 0 rfl).free 5
  have y5 := (H.out.blk 1 rfl).free 5
  go_wp2
  exact bodyPost_ret (at9_end rfl rfl (entry6g ((((H.out.blk 1 rfl).far (p := ⟨w.heap.size + 1, 2, none⟩) (Nat.ne_of_lt (Nat.lt_succ_self _)) _).far (p := ⟨w.heap.size + 1, 3, none⟩) (Nat.ne_of_lt (Nat.lt_succ_self _)) _).far (p := ⟨w.heap.size + 1, 4, none⟩) (Nat.ne_of_lt (Nat.lt_succ_self _)) _) _ _ _ _ _ _)) rfl ⟨rfl, set6_below (((H.out.below.setCell (p := ⟨w.heap.size + 1, 2, none⟩) (Nat.le_succ _) _).setCell (p := ⟨w.heap.size + 1, 3, none⟩) (Nat.le_succ _) _).setCell (p := ⟨w.heap.size + 1, 4, none⟩) (Nat.le_succ _) _) (Nat.le_refl _) _ _ _ _ _ _⟩
set_option maxHeartbeats 8000000 in
set_option maxRecDepth 100000 in
theorem At9_3_yes (op : Int) (h0 : 0 ≤ op) (h8 : op < 256) (hcb : ¬ op = 203) (hl1 : (mainF op).2.1.length ≤ 1000) (hl2 : (mainF op).1.size ≤ 1000) (hl3 : (mainF op).2.2.size ≤ 1000) (hs : ¬ (ixR 5 (mainF op).1 (mainF op).2.1 (mainF op).2.2).1 = ⟨#[]⟩) (w : World) : Calls Tryz.prog 17 #[.int .i64 3, .int .u8 op] w fun e w' => ∃ v, e = .returned (.tuple #[.agg #[.int .i64 3, .int .u8 op, .string (ixR 5 (mainF op).1 (mainF op).2.1 (mainF op).2.2).1, v, .string (ixR 5 (mainF op).1 (mainF op).2.1 (mainF op).2.2).2.2, .bool false], .int .i64 1]) ∧ OpdOwn w' (fun b => w.heap.size ≤ b) v (ixR 5 (mainF op).1 (mainF op).2.1 (mainF op).2.2).2.1 ∧ Below w.heap.size w w' := by
  have HM := Lib.hid (fun W => main9_any op h0 h8 W)
  have HIX := Lib.hid (fun p v W h => indexed9_any 5 (mainF op).1 (mainF op).2.2 (mainF op).2.1 p v W h (by omega) (by omega) hl1 hl2 hl3)
  clear hl1 hl2 hl3
  have hcb2 : (op == 203) = false := by rw [beq_eq_false_iff_ne]; exact hcb
  have HF := Lib.hid (((Fr.start w).new 36 #[.int .i64 0, .int .u8 0, .string ⟨#[]⟩, .slice none 0 0, .string ⟨#[]⟩, .bool false]).new' 36 #[.int .i64 3, .int .u8 op, .string ⟨#[]⟩, .slice none 0 0, .string ⟨#[]⟩, .bool false] (b := w.heap.size + 1) (by rw [World.size_alloc]))
  generalize (ixR 5 (mainF op).1 (mainF op).2.1 (mainF op).2.2).1 = s at *
  generalize (ixR 5 (mainF op).1 (mainF op).2.1 (mainF op).2.2).2.1 = l at *
  generalize (ixR 5 (mainF op).1 (mainF op).2.1 (mainF op).2.2).2.2 = ex at *
  generalize (mainF op).1 = s1 at *
  generalize (mainF op).2.1 = l1 at *
  generalize (mainF op).2.2 = ex1 at *
  obtain ⟨t1, t2⟩ := str_empty hs
  go_enter Tryz.func17, Tryz.ntmps17
  go_wp2_with fail
  refine (HM.out _).mono ?_
  rintro e w1 ⟨v1, rfl, ho1, hb⟩
  obtain ⟨va1, vc1, rfl⟩ := ho1.form
  have H1 := Lib.hid ((HF.out.next hb).alloc (.cells #[.string s1, .slice va1 l1.length vc1] 25))
  have HF1 := Lib.hid (Blk.new w1 25 #[.string s1, .slice va1 l1.length vc1])
  have HS1 := Lib.hid (ho1.slR.alloc (.cells #[.string s1, .slice va1 l1.length vc1] 25))
  have hs1 : w.heap.size + 2 ≤ w1.heap.size := by have := ((HF.out.next hb).blk 0 rfl).lt; omega
  obtain ⟨m0, m1, _, _⟩ := HF1.out.two
  clear hb ho1
  go_wp2_with fail
  refine (HIX.out _ _ _ HS1.out).mono ?_
  rintro e w2 ⟨v, rfl, ho, hb⟩
  obtain ⟨va, vc, rfl⟩ := ho.form
  have H := Lib.hid (H1.out.next hb)
  have HO : Hid (OpdOwn w2 (fun k => w.heap.size + 2 ≤ k) (.slice va l.length vc) l) := ho.mono (fun k hk => by rw [World.size_alloc] at hk; omega)
  clear ho hb H1 m0 m1
  have e0 := (H.out.blk 0 rfl).cell 0
  have e1 := (H.out.blk 0 rfl).cell 1
  have e2 := (H.out.blk 0 rfl).cell 2
  have e3 := (H.out.blk 0 rfl).cell 3
  have e4 := (H.out.blk 0 rfl).cell 4
  have e5 := (H.out.blk 0 rfl).cell 5
  have r0 := (H.out.blk 1 rfl).cell 0
  have r1 := (H.out.blk 1 rfl).cell 1
  have r2 := (H.out.blk 1 rfl).cell 2
  have r3 := (H.out.blk 1 rfl).cell 3
  have r4 := (H.out.blk 1 rfl).cell 4
  have r5 := (H.out.blk 1 rfl).cell 5
  have z0 := (H.out.blk 0 rfl).free 0
  have y0 := (H.out.blk 1 rfl).free 0
  have z1 := (H.out.blk 0 rfl).free 1
  have y1 := (H.out.blk 1 rfl).free 1
  have z2 := (H.out.blk 0 rfl).free 2
  have y2 := (H.out.blk 1 rfl).free 2
  have z3 := (H.out.blk 0 rfl).free 3
  have y3 := (H.out.blk 1 rfl).free 3
  have z4 := (H.out.blk 0 rfl).free 4
  have y4 := (H.out.blk 1 rfl).free 4
  have z5 := (H.out.blk 0 rfl).free 5
  have y5 := (H.out.blk 1 rfl).free 5
  go_wp2
  refine bodyPost_ret (at9_end rfl rfl (entry6g ((((H.out.blk 1 rfl).far (p := ⟨w.heap.size + 1, 2, none⟩) (Nat.ne_of_lt (Nat.lt_succ_self _)) _).far (p := ⟨w.heap.size + 1, 3, none⟩) (Nat.ne_of_lt (Nat.lt_succ_self _)) _).far (p := ⟨w.heap.size + 1, 4, none⟩) (Nat.ne_of_lt (Nat.lt_succ_self _)) _) _ _ _ _ _ _)) rfl ⟨_, rfl, (((((HO.out.far (p := ⟨w.heap.size + 1, 2, none⟩) (fun k hk => by show k ≠ w.heap.size + 1; omega) _).far (p := ⟨w.heap.size + 1, 3, none⟩) (fun k hk => by show k ≠ w.heap.size + 1; omega) _).far (p := ⟨w.heap.size + 1, 4, none⟩) (fun k hk => by show k ≠ w.heap.size + 1; omega) _).set6 (fun k hk => by omega) _ _ _ _ _ _).mono (fun k hk => by omega)), set6_below (((H.out.below.setCell (p := ⟨w.heap.size + 1, 2, none⟩) (Nat.le_succ _) _).setCell (p := ⟨w.heap.size + 1, 3, none⟩) (Nat.le_succ _) _).setCell (p := ⟨w.heap.size + 1, 4, none⟩) (Nat.le_succ _) _) (Nat.le_refl _) _ _ _ _ _ _⟩
set_option maxHeartbeats 8000000 in
set_option maxRecDepth 100000 in
theorem At9_4_no (op : Int) (h0 : 0 ≤ op) (h8 : op < 256) (hcb : ¬ op = 203) (hl1 : (mainF op).2.1.length ≤ 1000) (hl2 : (mainF op).1.size ≤ 1000) (hl3 : (mainF op).2.2.size ≤ 1000) (hs : (ixR 6 (mainF op).1 (mainF op).2.1 (mainF op).2.2).1 = ⟨#[]⟩) (w : World) : Calls Tryz.prog 17 #[.int .i64 4, .int .u8 op] w fun e w' => e = .returned (.tuple #[ent9, .int .i64 0]) ∧ Below w.heap.size w w' := by
  have HM := Lib.hid (fun W => main9_any op h0 h8 W)
  have HIX := Lib.hid (fun p v W h => indexed9_any 6 (mainF op).1 (mainF op).2.2 (mainF op).2.1 p v W h (by omega) (by omega) hl1 hl2 hl3)
  clear hl1 hl2 hl3
  have hcb2 : (op == 203) = false := by rw [beq_eq_false_iff_ne]; exact hcb
  have HF := Lib.hid (((Fr.start w).new 36 #[.int .i64 0, .int .u8 0, .string ⟨#[]⟩, .slice none 0 0, .string ⟨#[]⟩, .bool false]).new' 36 #[.int .i64 4, .int .u8 op, .string ⟨#[]⟩, .slice none 0 0, .string ⟨#[]⟩, .bool false] (b := w.heap.size + 1) (by rw [World.size_alloc]))
  generalize (ixR 6 (mainF op).1 (mainF op).2.1 (mainF op).2.2).1 = s at *
  generalize (ixR 6 (mainF op).1 (mainF op).2.1 (mainF op).2.2).2.1 = l at *
  generalize (ixR 6 (mainF op).1 (mainF op).2.1 (mainF op).2.2).2.2 = ex at *
  generalize (mainF op).1 = s1 at *
  generalize (mainF op).2.1 = l1 at *
  generalize (mainF op).2.2 = ex1 at *
  subst hs
  go_enter Tryz.func17, Tryz.ntmps17
  go_wp2_with fail
  refine (HM.out _).mono ?_
  rintro e w1 ⟨v1, rfl, ho1, hb⟩
  obtain ⟨va1, vc1, rfl⟩ := ho1.form
  have H1 := Lib.hid ((HF.out.next hb).alloc (.cells #[.string s1, .slice va1 l1.length vc1] 25))
  have HF1 := Lib.hid (Blk.new w1 25 #[.string s1, .slice va1 l1.length vc1])
  have HS1 := Lib.hid (ho1.slR.alloc (.cells #[.string s1, .slice va1 l1.length vc1] 25))
  have hs1 : w.heap.size + 2 ≤ w1.heap.size := by have := ((HF.out.next hb).blk 0 rfl).lt; omega
  obtain ⟨m0, m1, _, _⟩ := HF1.out.two
  clear hb ho1
  go_wp2_with fail
  refine (HIX.out _ _ _ HS1.out).mono ?_
  rintro e w2 ⟨v, rfl, ho, hb⟩
  obtain ⟨va, vc, rfl⟩ := ho.form
  have H := Lib.hid (H1.out.next hb)
  have HO : Hid (OpdOwn w2 (fun k => w.heap.size + 2 ≤ k) (.slice va l.length vc) l) := ho.mono (fun k hk => by rw [World.size_alloc] at hk; omega)
  clear ho hb H1 m0 m1
  have e0 := (H.out.blk 0 rfl).cell 0
  have e1 := (H.out.blk 0 rfl).cell 1
  have e2 := (H.out.blk 0 rfl).cell 2
  have e3 := (H.out.blk 0 rfl).cell 3
  have e4 := (H.out.blk 0 rfl).cell 4
  have e5 := (H.out.blk 0 rfl).cell 5
  have r0 := (H.out.blk 1 rfl).cell 0
  have r1 := (H.out.blk 1 rfl).cell 1
  have r2 := (H.out.blk 1 rfl).cell 2
  have r3 := (H.out.blk 1 rfl).cell 3
  have r4 := (H.out.blk 1 rfl).cell 4
  have r5 := (H.out.blk 1 rfl).cell 5
  have z0 := (H.out.blk 0 rfl).free 0
  have y0 := (H.out.blk 1 rfl).free 0
  have z1 := (H.out.blk 0 rfl).free 1
  have y1 := (H.out.blk 1 rfl).free 1
  have z2 := (H.out.blk 0 rfl).free 2
  have y2 := (H.out.blk 1 rfl).free 2
  have z3 := (H.out.blk 0 rfl).free 3
  have y3 := (H.out.blk 1 rfl).free 3
  have z4 := (H.out.blk 0 rfl).free 4
  have y4 := (H.out.blk 1 rfl).free 4
  have z5 := (H.out.blk 0 rfl).free 5
  have y5 := (H.out.blk 1 rfl).free 5
  go_wp2
  exact bodyPost_ret (at9_end rfl rfl (entry6g ((((H.out.blk 1 rfl).far (p := ⟨w.heap.size + 1, 2, none⟩) (Nat.ne_of_lt (Nat.lt_succ_self _)) _).far (p := ⟨w.heap.size + 1, 3, none⟩) (Nat.ne_of_lt (Nat.lt_succ_self _)) _).far (p := ⟨w.heap.size + 1, 4, none⟩) (Nat.ne_of_lt (Nat.lt_succ_self _)) _) _ _ _ _ _ _)) rfl ⟨rfl, set6_below (((H.out.below.setCell (p := ⟨w.heap.size + 1, 2, none⟩) (Nat.le_succ _) _).setCell (p := ⟨w.heap.size + 1, 3, none⟩) (Nat.le_succ _) _).setCell (p := ⟨w.heap.size + 1, 4, none⟩) (Nat.le_succ _) _) (Nat.le_refl _) _ _ _ _ _ _⟩
set_option maxHeartbeats 8000000 in
set_option maxRecDepth 100000 in
theorem At9_4_yes (op : Int) (h0 : 0 ≤ op) (h8 : op < 256) (hcb : ¬ op = 203) (hl1 : (mainF op).2.1.length ≤ 1000) (hl2 : (mainF op).1.size ≤ 1000) (hl3 : (mainF op).2.2.size ≤ 1000) (hs : ¬ (ixR 6 (mainF op).1 (mainF op).2.1 (mainF op).2.2).1 = ⟨#[]⟩) (w : World) : Calls Tryz.prog 17 #[.int .i64 4, .int .u8 op] w fun e w' => ∃ v, e = .returned (.tuple #[.agg #[.int .i64 4, .int .u8 op, .string (ixR 6 (mainF op).1 (mainF op).2.1 (mainF op).2.2).1, v, .string (ixR 6 (mainF op).1 (mainF op).2.1 (mainF op).2.2).2.2, .bool false], .int .i64 1]) ∧ OpdOwn w' (fun b => w.heap.size ≤ b) v (ixR 6 (mainF op).1 (mainF op).2.1 (mainF op).2.2).2.1 ∧ Below w.heap.size w w' := by
  have HM := Lib.hid (fun W => main9_any op h0 h8 W)
  have HIX := Lib.hid (fun p v W h => indexed9_any 6 (mainF op).1 (mainF op).2.2 (mainF op).2.1 p v W h (by omega) (by omega) hl1 hl2 hl3)
  clear hl1 hl2 hl3
  have hcb2 : (op == 203) = false := by rw [beq_eq_false_iff_ne]; exact hcb
  have HF := Lib.hid (((Fr.start w).new 36 #[.int .i64 0, .int .u8 0, .string ⟨#[]⟩, .slice none 0 0, .string ⟨#[]⟩, .bool false]).new' 36 #[.int .i64 4, .int .u8 op, .string ⟨#[]⟩, .slice none 0 0, .string ⟨#[]⟩, .bool false] (b := w.heap.size + 1) (by rw [World.size_alloc]))
  generalize (ixR 6 (mainF op).1 (mainF op).2.1 (mainF op).2.2).1 = s at *
  generalize (ixR 6 (mainF op).1 (mainF op).2.1 (mainF op).2.2).2.1 = l at *
  generalize (ixR 6 (mainF op).1 (mainF op).2.1 (mainF op).2.2).2.2 = ex at *
  generalize (mainF op).1 = s1 at *
  generalize (mainF op).2.1 = l1 at *
  generalize (mainF op).2.2 = ex1 at *
  obtain ⟨t1, t2⟩ := str_empty hs
  go_enter Tryz.func17, Tryz.ntmps17
  go_wp2_with fail
  refine (HM.out _).mono ?_
  rintro e w1 ⟨v1, rfl, ho1, hb⟩
  obtain ⟨va1, vc1, rfl⟩ := ho1.form
  have H1 := Lib.hid ((HF.out.next hb).alloc (.cells #[.string s1, .slice va1 l1.length vc1] 25))
  have HF1 := Lib.hid (Blk.new w1 25 #[.string s1, .slice va1 l1.length vc1])
  have HS1 := Lib.hid (ho1.slR.alloc (.cells #[.string s1, .slice va1 l1.length vc1] 25))
  have hs1 : w.heap.size + 2 ≤ w1.heap.size := by have := ((HF.out.next hb).blk 0 rfl).lt; omega
  obtain ⟨m0, m1, _, _⟩ := HF1.out.two
  clear hb ho1
  go_wp2_with fail
  refine (HIX.out _ _ _ HS1.out).mono ?_
  rintro e w2 ⟨v, rfl, ho, hb⟩
  obtain ⟨va, vc, rfl⟩ := ho.form
  have H := Lib.hid (H1.out.next hb)
  have HO : Hid (OpdOwn w2 (fun k => w.heap.size + 2 ≤ k) (.slice va l.length vc) l) := ho.mono (fun k hk => by rw [World.size_alloc] at hk; omega)
  clear ho hb H1 m0 m1
  have e0 := (H.out.blk 0 rfl).cell 0
  have e1 := (H.out.blk 0 rfl).cell 1
  have e2 := (H.out.blk 0 rfl).cell 2
  have e3 := (H.out.blk 0 rfl).cell 3
  have e4 := (H.out.blk 0 rfl).cell 4
  have e5 := (H.out.blk 0 rfl).cell 5
  have r0 := (H.out.blk 1 rfl).cell 0
  have r1 := (H.out.blk 1 rfl).cell 1
  have r2 := (H.out.blk 1 rfl).cell 2
  have r3 := (H.out.blk 1 rfl).cell 3
  have r4 := (H.out.blk 1 rfl).cell 4
  have r5 := (H.out.blk 1 rfl).cell 5
  have z0 := (H.out.blk 0 rfl).free 0
  have y0 := (H.out.blk 1 rfl).free 0
  have z1 := (H.out.blk 0 rfl).free 1
  have y1 := (H.out.blk 1 rfl).free 1
  have z2 := (H.out.blk 0 rfl).free 2
  have y2 := (H.out.blk 1 rfl).free 2
  have z3 := (H.out.blk 0 rfl).free 3
  have y3 := (H.out.blk 1 rfl).free 3
  have z4 := (H.out.blk 0 rfl).free 4
  have y4 := (H.out.blk 1 rfl).free 4
  have z5 := (H.out.blk 0 rfl).free 5
  have y5 := (H.out.blk 1 rfl).free 5
  go_wp2
  refine bodyPost_ret (at9_end rfl rfl (entry6g ((((H.out.blk 1 rfl).far (p := ⟨w.heap.size + 1, 2, none⟩) (Nat.ne_of_lt (Nat.lt_succ_self _)) _).far (p := ⟨w.heap.size + 1, 3, none⟩) (Nat.ne_of_lt (Nat.lt_succ_self _)) _).far (p := ⟨w.heap.size + 1, 4, none⟩) (Nat.ne_of_lt (Nat.lt_succ_self _)) _) _ _ _ _ _ _)) rfl ⟨_, rfl, (((((HO.out.far (p := ⟨w.heap.size + 1, 2, none⟩) (fun k hk => by show k ≠ w.heap.size + 1; omega) _).far (p := ⟨w.heap.size + 1, 3, none⟩) (fun k hk => by show k ≠ w.heap.size + 1; omega) _).far (p := ⟨w.heap.size + 1, 4, none⟩) (fun k hk => by show k ≠ w.heap.size + 1; omega) _).set6 (fun k hk => by omega) _ _ _ _ _ _).mono (fun k hk => by omega)), set6_below (((H.out.below.setCell (p := ⟨w.heap.size + 1, 2, none⟩) (Nat.le_succ _) _).setCell (p := ⟨w.heap.size + 1, 3, none⟩) (Nat.le_succ _) _).setCell (p := ⟨w.heap.size + 1, 4, none⟩) (Nat.le_succ _) _) (Nat.le_refl _) _ _ _ _ _ _⟩
end Go.Proofs.YtlepicdjnbbndaaGreatDoor
