/-
  table.both; table.At: nothing found, and both. Conditions: sizes; the library's table as its initialiser lays it.
-/
import Derived.Test.YtlepicdjnbbndaaGreatDoorTG
/-
  An operand stored in a row of the call's own. Conditions: none.
-/
namespace Go.Proofs.YtlepicdjnbbndaaGreatDoor
open Go.RowKit Go.Shelf Go.Sort

theorem els_flat {α : Type} {n : Nat} {enc : α → List Value} {h0 : ∀ x, (enc x).length = n} {h1 : ∀ x, ∀ u ∈ enc x, u.oneCell' = true} {w : World} {p : Blocks} : ∀ {xs : List α} {cs : List Value}, Els (Rep.flat n enc h0 h1) w p cs xs → cs = xs.flatMap enc
  | [], _, h => h
  | x :: xs, _, ⟨c1, c2, e, hr, h2⟩ => by
    have hr : c1 = enc x := hr
    rw [e, hr, els_flat h2]; rfl
theorem flat_els {α : Type} {n : Nat} {enc : α → List Value} {h0 : ∀ x, (enc x).length = n} {h1 : ∀ x, ∀ u ∈ enc x, u.oneCell' = true} {w : World} {p : Blocks} : ∀ (xs : List α), Els (Rep.flat n enc h0 h1) w p (xs.flatMap enc) xs
  | [] => rfl
  | x :: xs => ⟨enc x, xs.flatMap enc, rfl, rfl, flat_els xs⟩
theorem cells_set : ∀ (l : List Opd) (k : Nat) (y : Opd), k < l.length → (((l.flatMap Opd.cells).set (k * 3) (.int .i64 y.kind)).set (k * 3 + 1) (.int .i64 y.reg)).set (k * 3 + 2) (.int .i64 y.n) = (l.set k y).flatMap Opd.cells
  | [], k, y, h => by cases h
  | x :: l, 0, y, _ => by simp [Opd.cells]
  | x :: l, k + 1, y, h => by
    have ih := cells_set l k y (by simpa using h)
    rw [List.set_cons_succ, List.flatMap_cons, List.flatMap_cons, ← ih]
    show (((([.int .i64 x.kind, .int .i64 x.reg, .int .i64 x.n] : List Value) ++ l.flatMap Opd.cells).set ((k + 1) * 3) _).set ((k + 1) * 3 + 1) _).set ((k + 1) * 3 + 2) _ = [.int .i64 x.kind, .int .i64 x.reg, .int .i64 x.n] ++ _
    rw [show (k + 1) * 3 + 2 = (k * 3 + 2) + 3 by omega, show (k + 1) * 3 + 1 = (k * 3 + 1) + 3 by omega, show (k + 1) * 3 = k * 3 + 3 by omega]
    rfl
theorem Own.putO {w : World} {B : Nat} {e : TypeId} {b n c k : Nat} {l : List Opd} (y : Opd) (h : Own opdR w B e NoB (.slice (some ⟨b, 0, none⟩) n c) l) (hk : k < l.length) :
    Own opdR (((w.setCell ⟨b, k * 3, none⟩ (.int .i64 y.kind)).setCell ⟨b, k * 3 + 1, none⟩ (.int .i64 y.reg)).setCell ⟨b, k * 3 + 2, none⟩ (.int .i64 y.n)) B e NoB (.slice (some ⟨b, 0, none⟩) n c) (l.set k y) := by
  obtain ⟨cs, hrow, hels⟩ := h
  have hcs : cs = l.flatMap Opd.cells := els_flat hels
  subst hcs
  refine ⟨(l.set k y).flatMap Opd.cells, ⟨?_, ?_⟩, flat_els _⟩
  · rw [← cells_set l k y hk, List.length_set, List.length_set, List.length_set, List.length_set]; exact hrow.1
  · rcases hrow.2 with ⟨hv, _⟩ | ⟨g, cap, cur, hv, hbg, hg, hc1, hc2, hc3, hc4⟩
    · cases hv
    · injection hv with hv1 hv2 hv3
      injection hv1 with hv1
      injection hv1 with hv1
      subst hv1 hv2 hv3
      refine .inr ⟨b, c, ((cur.setIfInBounds (k * 3) (.int .i64 y.kind)).setIfInBounds (k * 3 + 1) (.int .i64 y.reg)).setIfInBounds (k * 3 + 2) (.int .i64 y.n), by rw [List.length_set], hbg, ?_, by rw [List.length_set]; exact hc1, hc2, by rw [Array.size_setIfInBounds, Array.size_setIfInBounds, Array.size_setIfInBounds]; exact hc3, ?_⟩
      · exact ((show Blk w b e cur from hg).set (k * 3) _ |>.set (k * 3 + 1) _).set (k * 3 + 2) _
      · rw [Array.toList_setIfInBounds, Array.toList_setIfInBounds, Array.toList_setIfInBounds, List.length_set, List.take_set, List.take_set, List.take_set, hc4]
        exact cells_set l k y hk
end Go.Proofs.YtlepicdjnbbndaaGreatDoor

/-
  table.both. Conditions: sizes; the library's table as its initialiser lays it.
-/
namespace Go.Proofs.YtlepicdjnbbndaaGreatDoor
open Go.RowKit Go.Shelf Go.Sort

theorem or6_u8 : ∀ x : Fin 256, bits .or .u8 (bits .andNot .u8 (x.val : Int) 7) 6 = ((x.val / 8 * 8 + 6 : Nat) : Int) := by decide +kernel
theorem and7_u8 : ∀ x : Fin 256, bits .and .u8 (x.val : Int) 7 = ((x.val % 8 : Nat) : Int) := by decide +kernel
/-- the entry of an opcode of DDCB or FDCB -/
def bothF (page : Int) (op : Nat) (r : RuleV) (os : List Opd) : EntV :=
  ⟨page, op, r.op, if op % 8 = 6 ∨ r.op = [66, 73, 84] then os.set (os.length - 1) ⟨5, page, 0⟩ else os.set (os.length - 1) ⟨5, page, 0⟩ ++ [⟨1, ((op % 8 : Nat) : Int), 0⟩], [100], if op % 8 = 6 then r.alias else if r.op = [66, 73, 84] then true else r.alias⟩
theorem Own.at0 {w : World} {B : Nat} {e : TypeId} {v : Value} {l : List Opd} {k : Nat} {y : Opd} (h : Own opdR w B e NoB v l) (hk : l[k]? = some y) : ∃ b c, v = .slice (some ⟨b, 0, none⟩) l.length c ∧ B ≤ b ∧ b < w.heap.size ∧ w.cell? ⟨b, k * 3, none⟩ = some (.int .i64 y.kind) ∧ w.cell? ⟨b, k * 3 + 1, none⟩ = some (.int .i64 y.reg) ∧ w.cell? ⟨b, k * 3 + 2, none⟩ = some (.int .i64 y.n) ∧ ∀ j, w.frozen? ⟨b, j, none⟩ = false := by
  have ho := h.opdOwn (q := fun j => B ≤ j) (fun j hj => (h.lt j hj).1)
  obtain ⟨a, c, rfl, _, _, g⟩ := ho
  obtain ⟨b, o, rfl, hq, hb, c0, c1, c2, f⟩ := g k y hk
  obtain ⟨cs, hrow, _⟩ := h
  rcases hrow.2 with ⟨hv, _⟩ | ⟨g, cap, cur, hv, _⟩
  · cases hv
  · injection hv with hv
    injection hv with hv
    injection hv with hv1 hv2
    subst hv1 hv2
    rw [Nat.zero_add] at c0 c1 c2
    exact ⟨b, c, rfl, hq, hb, c0, c1, c2, f⟩
theorem Own.ne_blk {α : Type} {R : Rep α} {w : World} {B g : Nat} {e t : TypeId} {p : Blocks} {v : Value} {xs : List α} {cs : Array Value} (h : Own R w B e p v xs) (hb : Blk w g t cs) (hte : t ≠ e) : ∀ j, v.ownBlock = some j → j ≠ g := by
  intro j hj hjg
  subst hjg
  obtain ⟨cs2, hrow, _⟩ := h
  rcases hrow.2 with ⟨rfl, _⟩ | ⟨g, cap, cur, rfl, _, hg, _⟩
  · cases hj
  · obtain rfl : g = j := Option.some.inj hj
    have := hg.symm.trans (show w.heap[g]? = some (.cells cs t (0, 0)) from hb)
    injection this with this
    injection this with h1 h2
    exact hte h2.symm
set_option maxHeartbeats 8000000 in
set_option maxRecDepth 100000 in
theorem both_any (page : Int) (hpg : page = 5 ∨ page = 6) (op : Nat) (t : List UInt8) (r : RuleV) (os : List Opd) (ex : List UInt8) (w : World) (hop : op < 256) (hl : lookF (op / 8 * 8 + 6) (splitC cbB.data.toList) = some t) (hr : ruleF t = some r) (ha : argsF r.bits (op / 8 * 8 + 6) r.args = some (os, ex)) (hok : okT t r) (hos : 0 < os.length) (hos2 : os.length ≤ 100) (hT : Spc w) :
    Calls Tryz.prog 47 #[.int .i64 page, .int .u8 op] w fun e w' => ∃ v', e = .returned (entVal (bothF page op r os) v') ∧ Own opdR w' w.heap.size 87 NoB v' (bothF page op r os).args ∧ Below w.heap.size w w' := by
  have hw1 : IntKind.i64.wrap (page - 5) = page - 5 := by rcases hpg with rfl | rfl <;> rfl
  have hw2 : IntKind.i64.wrap (page - 5 + 5) = page := by rcases hpg with rfl | rfl <;> rfl
  have hw3 : IntKind.i64.wrap page = page := by rcases hpg with rfl | rfl <;> rfl
  clear hpg
  have HFI := Lib.hid (fun W hT => find_some page cbB (op / 8 * 8 + 6) t r os ex W (by omega) (by decide +kernel) hl hr ha hok hT)
  have h6 := or6_u8 ⟨op, hop⟩
  have h7 := and7_u8 ⟨op, hop⟩
  dsimp only at h6 h7
  have hB0 := (Below.refl w.heap.size w).alloc (Nat.le_refl _) (.cells #[.int .i64 0, .int .u8 0, .string ⟨#[]⟩, .slice none 0 0, .string ⟨#[]⟩, .bool false] 27)
  have HT0 := Lib.hid (hT.below hB0)
  have HB0 := Lib.hid hB0
  have HR0 := Lib.hid (Blk.new w 27 #[.int .i64 0, .int .u8 0, .string ⟨#[]⟩, .slice none 0 0, .string ⟨#[]⟩, .bool false])
  have HSZ : Hid ((w.alloc (.cells #[.int .i64 0, .int .u8 0, .string ⟨#[]⟩, .slice none 0 0, .string ⟨#[]⟩, .bool false] 27)).heap.size = w.heap.size + 1) := World.size_alloc _ _
  obtain ⟨m, hm⟩ : ∃ m, os.length = m + 1 := ⟨os.length - 1, by omega⟩
  have HM := Lib.hid hm
  have HM2 : Hid (m ≤ 100) := by show _ ≤ _; omega
  obtain ⟨y, hy⟩ : ∃ y, os[m]? = some y := ⟨_, List.getElem?_eq_getElem (by omega)⟩
  have HY := Lib.hid hy
  obtain ⟨rb, ro, ra, ral⟩ := r
  unfold bothF
  rw [hm, Nat.add_sub_cancel]
  dsimp only at *
  have hs8 : op % 8 < 8 := Nat.mod_lt _ (by decide)
  clear hl hr ha hok hT hB0 hos hos2 hy hm
  generalize op / 8 * 8 + 6 = op2 at *
  generalize op % 8 = sl at *
  go_enter Tryz.func47, Tryz.ntmps47
  go_wp2_with fail
  refine (HFI.out _ HT0.out).mono ?_
  rintro e w1 ⟨v1, rfl, ho, hb⟩
  rw [HSZ.out] at ho hb
  obtain ⟨b, vc, hv, hbb, hbs, c0, c1, c2, f⟩ := ho.at0 HY.out
  subst hv
  rw [HM.out] at ho ⊢
  have HR1 := Lib.hid (HR0.out.below hb (by omega))
  have HB1 := Lib.hid (HB0.out.trans (hb.mono (by omega)))
  have HO1 := Lib.hid ho
  have f0 := f (m * 3)
  have f1 := f (m * 3 + 1)
  have f2 := f (m * 3 + 2)
  have r0 := HR1.out.cell 0
  have r1 := HR1.out.cell 1
  have r2 := HR1.out.cell 2
  have r3 := HR1.out.cell 3
  have r4 := HR1.out.cell 4
  have r5 := HR1.out.cell 5
  have y0 := HR1.out.free 0
  have y1 := HR1.out.free 1
  have y2 := HR1.out.free 2
  have y3 := HR1.out.free 3
  have y4 := HR1.out.free 4
  have y5 := HR1.out.free 5
  have n1 : ¬ b = w1.heap.size := Nat.ne_of_lt hbs
  have n2 : ¬ b = w.heap.size := by omega
  have n3 : w.heap.size < w1.heap.size := HR1.out.lt
  have HBB := Lib.hid hbb
  have hm2 : m ≤ 100 := HM2.out
  have hm3 : (m : Int) ≤ 100 := by omega
  clear ho hb hbb f HB0 HR0 HFI h6
  unfold entVal
  dsimp only
  have HO2 : Hid (Own opdR (((w1.setCell ⟨b, m * 3, none⟩ (.int .i64 5)).setCell ⟨b, m * 3 + 1, none⟩ (.int .i64 page)).setCell ⟨b, m * 3 + 2, none⟩ (.int .i64 0)) (w.heap.size + 1) 87 NoB (.slice (some ⟨b, 0, none⟩) (m + 1) vc) (os.set m ⟨5, page, 0⟩)) := HO1.out.putO ⟨5, page, 0⟩ (by rw [HM.out]; omega)
  have HR2 : Hid (Blk (((w1.setCell ⟨b, m * 3, none⟩ (.int .i64 5)).setCell ⟨b, m * 3 + 1, none⟩ (.int .i64 page)).setCell ⟨b, m * 3 + 2, none⟩ (.int .i64 0)) w.heap.size 27 #[.int .i64 0, .int .u8 0, .string ⟨#[]⟩, .slice none 0 0, .string ⟨#[]⟩, .bool false]) := ((HR1.out.far (p := ⟨b, m * 3, none⟩) (Ne.symm n2) _).far (p := ⟨b, m * 3 + 1, none⟩) (Ne.symm n2) _).far (p := ⟨b, m * 3 + 2, none⟩) (Ne.symm n2) _
  have HB2 : Hid (Below w.heap.size w (((w1.setCell ⟨b, m * 3, none⟩ (.int .i64 5)).setCell ⟨b, m * 3 + 1, none⟩ (.int .i64 page)).setCell ⟨b, m * 3 + 2, none⟩ (.int .i64 0))) := ((HB1.out.setCell (p := ⟨b, _, none⟩) (by have := HBB.out; show _ ≤ b; omega) _).setCell (p := ⟨b, _, none⟩) (by have := HBB.out; show _ ≤ b; omega) _).setCell (p := ⟨b, _, none⟩) (by have := HBB.out; show _ ≤ b; omega) _
  by_cases hs : sl = 6
  · subst hs
    go_wp2
    refine bodyPost_ret (results_row1 rfl _ _ w.heap.size 27 #[.int .i64 page, .int .u8 op, .string ⟨ro.toArray⟩, .slice (some ⟨b, 0, none⟩) (m + 1) vc, .string ⟨#[100]⟩, .bool ral] (0, 0) _ rfl ((entry6 HR2.out _ _ _ _ _ _).alloc _) Tryz.underlying27 rfl (by kernel_rfl)) rfl ⟨_, rfl, ((HO2.out.keep (fun j hj => set6_far _ _ _ _ _ _ _ _ j (by
      rcases hj with hj | hj
      · exact hj.elim
      · have := (HO2.out.lt j hj).1; omega))).stay ((Below.refl _ _).alloc (Nat.le_refl _) _)).base (by omega), (set6_below HB2.out (Nat.le_refl _) _ _ _ _ _ _).alloc (by show _ ≤ (set6 _ _ _ _ _ _ _ _).heap.size; rw [set6_size, World.size_setCell, World.size_setCell, World.size_setCell]; omega) _⟩
  have hs2 : ((sl : Int) == 6) = false := by rw [beq_eq_false_iff_ne]; omega
  by_cases hbit : ro = [66, 73, 84]
  · subst hbit
    go_wp2
    refine bodyPost_ret (results_row1 rfl _ _ w.heap.size 27 #[.int .i64 page, .int .u8 op, .string ⟨#[66, 73, 84]⟩, .slice (some ⟨b, 0, none⟩) (m + 1) vc, .string ⟨#[100]⟩, .bool true] (0, 0) _ rfl ((entry6 HR2.out _ _ _ _ _ _).alloc _) Tryz.underlying27 rfl (by kernel_rfl)) rfl ⟨_, rfl, ((HO2.out.keep (fun j hj => set6_far _ _ _ _ _ _ _ _ j (by
      rcases hj with hj | hj
      · exact hj.elim
      · have := (HO2.out.lt j hj).1; omega))).stay ((Below.refl _ _).alloc (Nat.le_refl _) _)).base (by omega), (set6_below HB2.out (Nat.le_refl _) _ _ _ _ _ _).alloc (by show _ ≤ (set6 _ _ _ _ _ _ _ _).heap.size; rw [set6_size, World.size_setCell, World.size_setCell, World.size_setCell]; omega) _⟩
  have hb2 : (ro == [66, 73, 84]) = false := by rw [beq_eq_false_iff_ne]; exact hbit
  have HL2 : Hid ((os.set m ⟨5, page, 0⟩).length = m + 1) := by show _ = _; rw [List.length_set, HM.out]
  have HO3 := Lib.hid (HO2.out.stay ((Below.refl _ _).alloc (Nat.le_refl _) (.cells #[.int .i64 page, .int .u8 op, .string ⟨ro.toArray⟩, .slice (some ⟨b, 0, none⟩) (m + 1) vc, .string ⟨#[100]⟩, .bool ral] 27)))
  have hE3 : Blk ((((w1.setCell ⟨b, m * 3, none⟩ (.int .i64 5)).setCell ⟨b, m * 3 + 1, none⟩ (.int .i64 page)).setCell ⟨b, m * 3 + 2, none⟩ (.int .i64 0)).alloc (.cells #[.int .i64 page, .int .u8 op, .string ⟨ro.toArray⟩, .slice (some ⟨b, 0, none⟩) (m + 1) vc, .string ⟨#[100]⟩, .bool ral] 27)) w1.heap.size 27 #[.int .i64 page, .int .u8 op, .string ⟨ro.toArray⟩, .slice (some ⟨b, 0, none⟩) (m + 1) vc, .string ⟨#[100]⟩, .bool ral] := by
    have h := Blk.new (((w1.setCell ⟨b, m * 3, none⟩ (.int .i64 5)).setCell ⟨b, m * 3 + 1, none⟩ (.int .i64 page)).setCell ⟨b, m * 3 + 2, none⟩ (.int .i64 0)) 27 #[.int .i64 page, .int .u8 op, .string ⟨ro.toArray⟩, .slice (some ⟨b, 0, none⟩) (m + 1) vc, .string ⟨#[100]⟩, .bool ral]
    rw [World.size_setCell, World.size_setCell, World.size_setCell] at h
    exact h
  have HE3 := Lib.hid hE3
  have HR3 := Lib.hid (HR2.out.alloc (.cells #[.int .i64 page, .int .u8 op, .string ⟨ro.toArray⟩, .slice (some ⟨b, 0, none⟩) (m + 1) vc, .string ⟨#[100]⟩, .bool ral] 27))
  have HB3 := Lib.hid (HB2.out.alloc (by rw [World.size_setCell, World.size_setCell, World.size_setCell]; omega) (.cells #[.int .i64 page, .int .u8 op, .string ⟨ro.toArray⟩, .slice (some ⟨b, 0, none⟩) (m + 1) vc, .string ⟨#[100]⟩, .bool ral] 27))
  have HZ3 : Hid (w.heap.size + 1 ≤ ((((w1.setCell ⟨b, m * 3, none⟩ (.int .i64 5)).setCell ⟨b, m * 3 + 1, none⟩ (.int .i64 page)).setCell ⟨b, m * 3 + 2, none⟩ (.int .i64 0)).alloc (.cells #[.int .i64 page, .int .u8 op, .string ⟨ro.toArray⟩, .slice (some ⟨b, 0, none⟩) (m + 1) vc, .string ⟨#[100]⟩, .bool ral] 27)).heap.size) := by
    show _ ≤ _
    rw [World.size_alloc, World.size_setCell, World.size_setCell, World.size_setCell]; omega
  have HLA : Hid (((os.set m ⟨5, page, 0⟩).length + 1) * 24 ≤ 140737488355328) := by show _ ≤ _; rw [HL2.out]; omega
  have HLB : Hid ((os.set m ⟨5, page, 0⟩).length + 1 ≤ 9223372036854775807) := by show _ ≤ _; rw [HL2.out]; omega
  clear hE3 r0 r1 r2 r3 r4 r5 y0 y1 y2 y3 y4 y5
  go_wp2_with (at_builtin; refine wpList_push rfl (.tmp 37) (.tmp 40) 23 rfl (w.heap.size + 1) 87 24 elOpd _ (os.set m ⟨5, page, 0⟩) ⟨1, (sl : Int), 0⟩ _ rfl (by show Value.slice (some ⟨w1.heap.size + 1, 0, none⟩) 1 1 = _; rw [World.size_alloc, World.size_setCell, World.size_setCell, World.size_setCell]) HO3.out rfl HLA.out HLB.out HZ3.out ?_; intro a' c' w' hp; rw [List.length_set] at hp ⊢; have HP := Lib.hid hp; have hE4 := HE3.out.grown hp.2 (fun e => n1 (by injection e with e; exact e.symm)); have hR4 := HR3.out.grown hp.2 (fun e => n2 (by injection e with e; exact e.symm)); have HE4 := Lib.hid hE4; have HR4 := Lib.hid hR4; have e0 := hE4.cell 0; have e1 := hE4.cell 1; have e2 := hE4.cell 2; have e3 := hE4.cell 3; have e4 := hE4.cell 4; have e5 := hE4.cell 5; have z3 := hE4.free 3; have r0 := hR4.cell 0; have r1 := hR4.cell 1; have r2 := hR4.cell 2; have r3 := hR4.cell 3; have r4 := hR4.cell 4; have r5 := hR4.cell 5; have y0 := hR4.free 0; have y1 := hR4.free 1; have y2 := hR4.free 2; have y3 := hR4.free 3; have y4 := hR4.free 4; have y5 := hR4.free 5; clear hp hE4 hR4)
  all_goals
    refine bodyPost_ret (results_row1 rfl _ _ w.heap.size 27 #[.int .i64 page, .int .u8 op, .string ⟨ro.toArray⟩, .slice a' (os.length + 1) c', .string ⟨#[100]⟩, .bool ral] (0, 0) _ rfl (entry6 (HR4.out.far (p := ⟨w1.heap.size, 3, none⟩) (by show _ ≠ w1.heap.size; omega) _) _ _ _ _ _ _) Tryz.underlying27 rfl (by kernel_rfl)) rfl ⟨_, rfl, (HP.out.1.keep (fun j hj => ?_)).base (by omega), ?_⟩
    · have hj2 : j ≠ w1.heap.size ∧ w.heap.size + 1 ≤ j := by
        rcases hj with hj | hj
        · exact hj.elim
        · exact ⟨HP.out.1.ne_blk HE4.out (by decide) j hj, (HP.out.1.lt j hj).1⟩
      exact (set6_far _ _ _ _ _ _ _ _ j (by omega)).trans (Below.heap_setCell _ _ _ _ hj2.1)
    · exact set6_below ((HB3.out.grown HP.out.2 (by have := HZ3.out; omega) (fun k e => by have e : b = k := Option.some.inj e; have := HBB.out; omega)).setCell (p := ⟨w1.heap.size, 3, none⟩) (by show _ ≤ w1.heap.size; omega) _) (Nat.le_refl _) _ _ _ _ _ _
end Go.Proofs.YtlepicdjnbbndaaGreatDoor
