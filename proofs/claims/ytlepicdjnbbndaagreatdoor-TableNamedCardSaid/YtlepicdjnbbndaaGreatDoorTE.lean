/-
  Operands stored in place; entries set; At at 7E. Conditions: sizes; the library's table as its initialiser lays it.
-/
import Derived.Test.YtlepicdjnbbndaaGreatDoorTD
/-
  table.indexed. Conditions: sizes.
-/
namespace Go.Proofs.YtlepicdjnbbndaaGreatDoor
open Go.RowKit Go.Shelf Go.Sort

theorem OpdOwn.setKd {w : World} {q : Blocks} {b o n c : Nat} {l : List Opd} {k : Nat} {x : Opd} {m : Int} (h : OpdOwn w q (.slice (some ⟨b, o, none⟩) n c) l) (hx : l[k]? = some x) : OpdOwn (w.setCell ⟨b, o + k * 3, none⟩ (.int .i64 m)) q (.slice (some ⟨b, o, none⟩) n c) (l.set k { x with kind := m }) := by
  obtain ⟨a, cap, e, h1, h2, h3⟩ := h
  injection e with e1 e2 e3
  subst e1 e3
  refine ⟨_, c, by rw [List.length_set, e2], by rw [List.length_set]; exact h1, h2, fun i z hz => ?_⟩
  have hk := (List.getElem?_eq_some_iff.1 hx).1
  have hi : i < l.length := by have := (List.getElem?_eq_some_iff.1 hz).1; simpa using this
  obtain ⟨b', o', eb, hq, hb, c0, c1, c2, f⟩ := h3 i l[i] (List.getElem?_eq_getElem hi)
  injection eb with eb
  injection eb with eb1 eb2
  subst eb1 eb2
  have far : ∀ j v, j ≠ o + k * 3 → w.cell? ⟨b, j, none⟩ = some v → (w.setCell ⟨b, o + k * 3, none⟩ (.int .i64 m)).cell? ⟨b, j, none⟩ = some v := fun j v hj hv => by
    rw [World.cell?_setCell_other _ _ _ _ (by simp)]; exact hv
  refine ⟨b, o, rfl, hq, by simpa [World.setCell] using hb, ?_, ?_, ?_, fun j => (World.frozen?_setCell _ _ _ _).trans (f j)⟩
  · by_cases hik : k = i
    · subst hik
      rw [List.getElem?_set_self hk] at hz
      obtain rfl := Option.some.inj hz
      exact World.cell?_setCell_same' _ _ _ (by rw [c0]; rfl)
    · rw [List.getElem?_set_ne hik, List.getElem?_eq_getElem hi] at hz
      obtain rfl := Option.some.inj hz
      exact far _ _ (by omega) c0
  · by_cases hik : k = i
    · subst hik
      rw [List.getElem?_set_self hk] at hz
      obtain rfl := Option.some.inj hz
      obtain rfl : l[k] = x := Option.some.inj ((List.getElem?_eq_getElem hk).symm.trans hx)
      exact far _ _ (by omega) c1
    · rw [List.getElem?_set_ne hik, List.getElem?_eq_getElem hi] at hz
      obtain rfl := Option.some.inj hz
      exact far _ _ (by omega) c1
  · by_cases hik : k = i
    · subst hik
      rw [List.getElem?_set_self hk] at hz
      obtain rfl := Option.some.inj hz
      obtain rfl : l[k] = x := Option.some.inj ((List.getElem?_eq_getElem hk).symm.trans hx)
      exact far _ _ (by omega) c2
    · rw [List.getElem?_set_ne hik, List.getElem?_eq_getElem hi] at hz
      obtain rfl := Option.some.inj hz
      exact far _ _ (by omega) c2
theorem OpdOwn.setRg {w : World} {q : Blocks} {b o n c : Nat} {l : List Opd} {k : Nat} {x : Opd} {m : Int} (h : OpdOwn w q (.slice (some ⟨b, o, none⟩) n c) l) (hx : l[k]? = some x) : OpdOwn (w.setCell ⟨b, o + k * 3 + 1, none⟩ (.int .i64 m)) q (.slice (some ⟨b, o, none⟩) n c) (l.set k { x with reg := m }) := by
  obtain ⟨a, cap, e, h1, h2, h3⟩ := h
  injection e with e1 e2 e3
  subst e1 e3
  refine ⟨_, c, by rw [List.length_set, e2], by rw [List.length_set]; exact h1, h2, fun i z hz => ?_⟩
  have hk := (List.getElem?_eq_some_iff.1 hx).1
  have hi : i < l.length := by have := (List.getElem?_eq_some_iff.1 hz).1; simpa using this
  obtain ⟨b', o', eb, hq, hb, c0, c1, c2, f⟩ := h3 i l[i] (List.getElem?_eq_getElem hi)
  injection eb with eb
  injection eb with eb1 eb2
  subst eb1 eb2
  have far : ∀ j v, j ≠ o + k * 3 + 1 → w.cell? ⟨b, j, none⟩ = some v → (w.setCell ⟨b, o + k * 3 + 1, none⟩ (.int .i64 m)).cell? ⟨b, j, none⟩ = some v := fun j v hj hv => by
    rw [World.cell?_setCell_other _ _ _ _ (by simp)]; exact hv
  refine ⟨b, o, rfl, hq, by simpa [World.setCell] using hb, ?_, ?_, ?_, fun j => (World.frozen?_setCell _ _ _ _).trans (f j)⟩
  · by_cases hik : k = i
    · subst hik
      rw [List.getElem?_set_self hk] at hz
      obtain rfl := Option.some.inj hz
      obtain rfl : l[k] = x := Option.some.inj ((List.getElem?_eq_getElem hk).symm.trans hx)
      exact far _ _ (by omega) c0
    · rw [List.getElem?_set_ne hik, List.getElem?_eq_getElem hi] at hz
      obtain rfl := Option.some.inj hz
      exact far _ _ (by omega) c0
  · by_cases hik : k = i
    · subst hik
      rw [List.getElem?_set_self hk] at hz
      obtain rfl := Option.some.inj hz
      exact World.cell?_setCell_same' _ _ _ (by rw [c1]; rfl)
    · rw [List.getElem?_set_ne hik, List.getElem?_eq_getElem hi] at hz
      obtain rfl := Option.some.inj hz
      exact far _ _ (by omega) c1
  · by_cases hik : k = i
    · subst hik
      rw [List.getElem?_set_self hk] at hz
      obtain rfl := Option.some.inj hz
      obtain rfl : l[k] = x := Option.some.inj ((List.getElem?_eq_getElem hk).symm.trans hx)
      exact far _ _ (by omega) c2
    · rw [List.getElem?_set_ne hik, List.getElem?_eq_getElem hi] at hz
      obtain rfl := Option.some.inj hz
      exact far _ _ (by omega) c2
theorem OpdOwn.put {w : World} {q : Blocks} {b o n c : Nat} {l : List Opd} {k : Nat} (y : Opd) (h : OpdOwn w q (.slice (some ⟨b, o, none⟩) n c) l) (hk : k < l.length) :
    OpdOwn (((w.setCell ⟨b, o + k * 3, none⟩ (.int .i64 y.kind)).setCell ⟨b, o + k * 3 + 1, none⟩ (.int .i64 y.reg)).setCell ⟨b, o + k * 3 + 2, none⟩ (.int .i64 y.n)) q (.slice (some ⟨b, o, none⟩) n c) (l.set k y) := by
  have h1 := h.setKd (m := y.kind) (List.getElem?_eq_getElem hk)
  have h2 := h1.setRg (m := y.reg) (x := { l[k] with kind := y.kind }) (k := k) (by rw [List.getElem?_set_self hk])
  have h3 := h2.setN (m := y.n) (x := { l[k] with kind := y.kind, reg := y.reg }) (k := k) (by rw [List.getElem?_set_self (by rw [List.length_set]; exact hk)])
  rw [List.set_set, List.set_set] at h3
  exact h3
theorem posO_at {x : Opd} {l : List Opd} {k : Nat} : ∀ {j : Nat}, posO x j l = (j + k : Nat) → l[k]? = some x := by
  intro j h
  induction l generalizing j k with
  | nil => rw [posO] at h; omega
  | cons y r ih =>
    rw [posO] at h
    by_cases e : opdEq x y = true
    · rw [if_pos e] at h
      obtain rfl : k = 0 := by omega
      rw [opdEq_iff.1 e]; rfl
    · rw [if_neg e] at h
      cases k with
      | zero =>
        exfalso
        have hge : ∀ (r : List Opd) (j : Nat), posO x j r = -1 ∨ (j : Int) ≤ posO x j r := by
          intro r
          induction r with
          | nil => intro j; exact .inl rfl
          | cons z r ih2 =>
            intro j
            rw [posO]
            split
            · exact .inr (Int.le_refl _)
            · rcases ih2 (j + 1) with h | h
              · exact .inl h
              · exact .inr (by omega)
        rcases hge r (j + 1) with h' | h' <;> omega
      | succ k => exact ih (j := j + 1) (k := k) (by rw [h]; congr 1; omega)
set_option maxHeartbeats 8000000 in
set_option maxRecDepth 100000 in
theorem indexed_mem (x : EntV) (p : Blocks) (v : Value) (page : Int) (k : Nat) (w : World) (h : SlR opdR w p v x.args) (hpg : page = 3 ∨ page = 4) (hk : posO ⟨4, 2, 0⟩ 0 x.args = k) (hn : x.args.length ≤ 1000) (hjp : x.iop ≠ [74, 80])
    (hup : upper ⟨x.iop.toArray⟩ = ⟨x.iop.toArray⟩) (his : x.iop.length ≤ 1000) (hex : x.ex.length ≤ 1000) :
    Calls Tryz.prog 46 #[entVal x v, .int .i64 page] w fun e w' => ∃ v', e = .returned (.tuple #[entVal ⟨page, x.op, x.iop, x.args.set k ⟨5, page + 2, 0⟩, 100 :: x.ex, x.al⟩ v', .bool true]) ∧ OpdOwn w' (fun b => w.heap.size ≤ b) v' (x.args.set k ⟨5, page + 2, 0⟩) ∧ Below w.heap.size w w' := by
  obtain ⟨pg, op, iop, args, ex, al⟩ := x
  dsimp only at *
  obtain ⟨ca, cc, rfl⟩ : ∃ a c, v = .slice a args.length c := by obtain ⟨a, c, e, _⟩ := h; exact ⟨a, c, e⟩
  have hkl : k < args.length := (List.getElem?_eq_some_iff.1 (posO_at (j := 0) (by rw [hk]; simp))).1
  have HKL := Lib.hid hkl
  have HMK := Lib.hid (fun W (h : SlR opdR W p (.slice ca args.length cc) args) => Make_any p ⟨iop.toArray⟩ _ args W h (by omega) (by show iop.toArray.size ≤ _; rw [List.size_toArray]; omega))
  rw [hup] at HMK
  obtain ⟨exB, hexB⟩ : ∃ b : ByteArray, b = ⟨ex.toArray⟩ := ⟨_, rfl⟩
  have hexs : exB.size ≤ 1000 := by rw [hexB]; show ex.toArray.size ≤ _; rw [List.size_toArray]; exact hex
  have HEX := Lib.hid hexB
  have hcat : Hid ((⟨#[100]⟩ ++ exB : ByteArray) = ⟨(100 :: ex).toArray⟩) := by show _ = _; rw [hexB]; apply ByteArray.ext; simp
  have hsz : (((w.alloc (.cells #[.int .i64 pg, .int .u8 op, .string ⟨iop.toArray⟩, .slice ca args.length cc, .string exB, .bool al] 27)).alloc (.cells #[.int .i64 0, .int .u8 0, .string ⟨#[]⟩, .slice none 0 0, .string ⟨#[]⟩, .bool false] 27)).alloc (.cells #[.int .i64 4, .int .i64 2, .int .i64 0] 87)).heap.size = w.heap.size + 3 := by rw [World.size_alloc, World.size_alloc, World.size_alloc]
  have HSZ := Lib.hid hsz
  have hE : Blk (((w.alloc (.cells #[.int .i64 pg, .int .u8 op, .string ⟨iop.toArray⟩, .slice ca args.length cc, .string exB, .bool al] 27)).alloc (.cells #[.int .i64 0, .int .u8 0, .string ⟨#[]⟩, .slice none 0 0, .string ⟨#[]⟩, .bool false] 27)).alloc (.cells #[.int .i64 4, .int .i64 2, .int .i64 0] 87)) w.heap.size 27 #[.int .i64 pg, .int .u8 op, .string ⟨iop.toArray⟩, .slice ca args.length cc, .string exB, .bool al] := ((Blk.new w _ _).alloc _).alloc _
  have hR : Blk (((w.alloc (.cells #[.int .i64 pg, .int .u8 op, .string ⟨iop.toArray⟩, .slice ca args.length cc, .string exB, .bool al] 27)).alloc (.cells #[.int .i64 0, .int .u8 0, .string ⟨#[]⟩, .slice none 0 0, .string ⟨#[]⟩, .bool false] 27)).alloc (.cells #[.int .i64 4, .int .i64 2, .int .i64 0] 87)) (w.heap.size + 1) 27 #[.int .i64 0, .int .u8 0, .string ⟨#[]⟩, .slice none 0 0, .string ⟨#[]⟩, .bool false] := by
    have h1 := (Blk.new (w.alloc (.cells #[.int .i64 pg, .int .u8 op, .string ⟨iop.toArray⟩, .slice ca args.length cc, .string exB, .bool al] 27)) 27 #[.int .i64 0, .int .u8 0, .string ⟨#[]⟩, .slice none 0 0, .string ⟨#[]⟩, .bool false]).alloc (.cells #[.int .i64 4, .int .i64 2, .int .i64 0] 87)
    rw [World.size_alloc] at h1
    exact h1
  have hM : Blk (((w.alloc (.cells #[.int .i64 pg, .int .u8 op, .string ⟨iop.toArray⟩, .slice ca args.length cc, .string exB, .bool al] 27)).alloc (.cells #[.int .i64 0, .int .u8 0, .string ⟨#[]⟩, .slice none 0 0, .string ⟨#[]⟩, .bool false] 27)).alloc (.cells #[.int .i64 4, .int .i64 2, .int .i64 0] 87)) (w.heap.size + 2) 87 #[.int .i64 4, .int .i64 2, .int .i64 0] := by
    have h1 := Blk.new ((w.alloc (.cells #[.int .i64 pg, .int .u8 op, .string ⟨iop.toArray⟩, .slice ca args.length cc, .string exB, .bool al] 27)).alloc (.cells #[.int .i64 0, .int .u8 0, .string ⟨#[]⟩, .slice none 0 0, .string ⟨#[]⟩, .bool false] 27)) 87 #[.int .i64 4, .int .i64 2, .int .i64 0]
    rw [World.size_alloc, World.size_alloc] at h1
    exact h1
  have HE0 := Lib.hid hE
  have HR0 := Lib.hid hR
  have HM0 := Lib.hid hM
  have HB0 := Lib.hid ((((Below.refl w.heap.size w).alloc (Nat.le_refl _) (.cells #[.int .i64 pg, .int .u8 op, .string ⟨iop.toArray⟩, .slice ca args.length cc, .string exB, .bool al] 27)).alloc (by rw [World.size_alloc]; omega) (.cells #[.int .i64 0, .int .u8 0, .string ⟨#[]⟩, .slice none 0 0, .string ⟨#[]⟩, .bool false] 27)).alloc (by rw [World.size_alloc, World.size_alloc]; omega) (.cells #[.int .i64 4, .int .i64 2, .int .i64 0] 87))
  have hjb : (iop == [74, 80]) = false := by rw [beq_eq_false_iff_ne]; exact hjp
  have HS := Lib.hid (((h.alloc (.cells #[.int .i64 pg, .int .u8 op, .string ⟨iop.toArray⟩, .slice ca args.length cc, .string exB, .bool al] 27)).alloc (.cells #[.int .i64 0, .int .u8 0, .string ⟨#[]⟩, .slice none 0 0, .string ⟨#[]⟩, .bool false] 27)).alloc (.cells #[.int .i64 4, .int .i64 2, .int .i64 0] 87))
  have HIX := Lib.hid (fun q v W (h : SlR opdR W q v args) => IndexOpd_any q v args ⟨4, 2, 0⟩ W h)
  rw [hk] at HIX
  clear h hk hup hsz hE hR hM
  unfold entVal
  dsimp only
  rw [← hexB]
  clear hexB hjp
  have hw1 : IntKind.i64.wrap (page - 3) = page - 3 := by rcases hpg with rfl | rfl <;> rfl
  have hw2 : IntKind.i64.wrap (page - 3 + 5) = page + 2 := by rcases hpg with rfl | rfl <;> rfl
  go_enter Tryz.func46, Tryz.ntmps46
  go_wp2_with fail
  refine (HMK.out _ HS.out).mono ?_
  rintro e w1 ⟨v1, rfl, ho, hb⟩
  rw [HSZ.out] at ho hb
  obtain ⟨va, vc, rfl⟩ := ho.form
  obtain ⟨vb, vo, rfl, hvb⟩ : ∃ b o, va = some ⟨b, o, none⟩ ∧ w.heap.size + 3 ≤ b := by
    obtain ⟨a3, c3, e3, _, _, g3⟩ := ho.opdOwn (q := fun b => w.heap.size + 3 ≤ b) (fun j hj => (ho.lt j hj).1)
    injection e3 with e3
    subst e3
    obtain ⟨b, o, eb, hq, _⟩ := g3 k args[k] (List.getElem?_eq_getElem HKL.out)
    exact ⟨b, o, eb, hq⟩
  have HE1 := Lib.hid (HE0.out.below hb (by omega))
  have HR1 := Lib.hid (HR0.out.below hb (by omega))
  have HM1 := Lib.hid (HM0.out.below hb (by omega))
  have HB1 := Lib.hid (HB0.out.trans (hb.mono (by omega)))
  have HO1 := Lib.hid ho
  have HVB := Lib.hid hvb
  obtain ⟨m0, m1, m2, _, _, _⟩ := HM1.out.three
  have e0 := HE1.out.cell 0
  have e2 := HE1.out.cell 2
  have e3 := HE1.out.cell 3
  have z0 := HE1.out.free 0
  have z2 := HE1.out.free 2
  have z3 := HE1.out.free 3
  have hlt1 := HE1.out.lt
  clear ho hb hvb HB0 HE0 HR0 HM0 HS HMK
  go_wp2_with fail
  have how : Own opdR (((w1.setCell ⟨w.heap.size, 0, none⟩ (.int .i64 page)).setCell ⟨w.heap.size, 2, none⟩ (.string ⟨iop.toArray⟩)).setCell ⟨w.heap.size, 3, none⟩ (.slice (some ⟨vb, vo, none⟩) args.length vc)) (w.heap.size + 3) 87 NoB (.slice (some ⟨vb, vo, none⟩) args.length vc) args := HO1.out.keep (fun j hj => by
    have hne : j ≠ w.heap.size := by
      rcases hj with hj | hj
      · exact hj.elim
      · have := (HO1.out.lt j hj).1; omega
    rw [Below.heap_setCell _ _ _ _ hne, Below.heap_setCell _ _ _ _ hne, Below.heap_setCell _ _ _ _ hne])
  refine (HIX.out (fun j => w.heap.size + 3 ≤ j) _ _ (how.slR (fun _ h => h.elim) (fun _ h => h))).mono ?_
  rintro e w2 ⟨rfl, hb2⟩
  have hE2 : Blk w2 w.heap.size 27 #[.int .i64 page, .int .u8 op, .string ⟨iop.toArray⟩, .slice (some ⟨vb, vo, none⟩) args.length vc, .string exB, .bool al] := (((HE1.out.set 0 _).set 2 _).set 3 _).below hb2 (by rw [World.size_setCell, World.size_setCell, World.size_setCell]; exact HE1.out.lt)
  have hR2 := (((HR1.out.far (p := ⟨w.heap.size, 0, none⟩) (by simp) (.int .i64 page)).far (p := ⟨w.heap.size, 2, none⟩) (by simp) (.string ⟨iop.toArray⟩)).far (p := ⟨w.heap.size, 3, none⟩) (by simp) (.slice (some ⟨vb, vo, none⟩) args.length vc)).below hb2 (by rw [World.size_setCell, World.size_setCell, World.size_setCell]; exact HR1.out.lt)
  have ho2 : Own opdR w2 (w.heap.size + 3) 87 NoB (.slice (some ⟨vb, vo, none⟩) args.length vc) args := how.keep (Keep.of_below hb2 (fun j hj => by rcases hj with hj | hj; exact hj.elim; exact (how.lt j hj).2))
  have HO2 := Lib.hid (ho2.opdOwn (q := fun b => w.heap.size + 3 ≤ b) (fun j hj => (ho2.lt j hj).1))
  have HB2 := Lib.hid ((((HB1.out.setCell (p := ⟨w.heap.size, 0, none⟩) (Nat.le_refl _) (.int .i64 page)).setCell (p := ⟨w.heap.size, 2, none⟩) (Nat.le_refl _) (.string ⟨iop.toArray⟩)).setCell (p := ⟨w.heap.size, 3, none⟩) (Nat.le_refl _) (.slice (some ⟨vb, vo, none⟩) args.length vc)).trans (hb2.mono (by rw [World.size_setCell, World.size_setCell, World.size_setCell]; exact Nat.le_of_lt HE1.out.lt)))
  obtain ⟨b9, o9, e9, _, _, d0, d1, d2, df⟩ : ∃ b o, some (⟨vb, vo, none⟩ : Addr) = some ⟨b, o, none⟩ ∧ w.heap.size + 3 ≤ b ∧ b < w2.heap.size ∧ w2.cell? ⟨b, o + k * 3, none⟩ = some (.int .i64 args[k].kind) ∧ w2.cell? ⟨b, o + k * 3 + 1, none⟩ = some (.int .i64 args[k].reg) ∧ w2.cell? ⟨b, o + k * 3 + 2, none⟩ = some (.int .i64 args[k].n) ∧ ∀ j, w2.frozen? ⟨b, j, none⟩ = false := by
    obtain ⟨a3, c3, e3, _, _, g3⟩ := HO2.out
    injection e3 with e3
    subst e3
    exact g3 k args[k] (List.getElem?_eq_getElem HKL.out)
  injection e9 with e9
  injection e9 with e9 e10
  subst e9 e10
  have HE2 := Lib.hid hE2
  have HR2 := Lib.hid hR2
  clear hE2 hR2 ho2 how hb2 e0 e2 e3 z0 z2 z3 hlt1 m0 m1 m2 HE1 HR1 HM1 HB1 HO1
  have e0 := HE2.out.cell 0
  have e1 := HE2.out.cell 1
  have e2 := HE2.out.cell 2
  have e3 := HE2.out.cell 3
  have e4 := HE2.out.cell 4
  have e5 := HE2.out.cell 5
  have z4 := HE2.out.free 4
  have r0 := HR2.out.cell 0
  have r1 := HR2.out.cell 1
  have r2 := HR2.out.cell 2
  have r3 := HR2.out.cell 3
  have r4 := HR2.out.cell 4
  have r5 := HR2.out.cell 5
  have y0 := HR2.out.free 0
  have y1 := HR2.out.free 1
  have y2 := HR2.out.free 2
  have y3 := HR2.out.free 3
  have y4 := HR2.out.free 4
  have y5 := HR2.out.free 5
  have f0 := df (vo + k * 3)
  have f1 := df (vo + k * 3 + 1)
  have f2 := df (vo + k * 3 + 2)
  have hne : ¬ vb = w.heap.size := by have := HVB.out; omega
  have hne2 : ¬ vb = w.heap.size + 1 := by have := HVB.out; omega
  clear df
  go_wp2
  rw [hcat.out]
  have hp := HO2.out.put ⟨5, page + 2, 0⟩ HKL.out
  refine bodyPost_ret (results_row_tmp rfl _ _ (w.heap.size + 1) 27 #[.int .i64 page, .int .u8 op, .string ⟨iop.toArray⟩, .slice (some ⟨vb, vo, none⟩) args.length vc, .string ⟨(100 :: ex).toArray⟩, .bool al] (0, 0) _ rfl (show Blk _ (w.heap.size + 1) 27 #[.int .i64 page, .int .u8 op, .string ⟨iop.toArray⟩, .slice (some ⟨vb, vo, none⟩) args.length vc, .string ⟨(100 :: ex).toArray⟩, .bool al] from (((((((((HR2.out.far (p := ⟨vb, vo + k * 3, none⟩) (Ne.symm hne2) _).far (p := ⟨vb, vo + k * 3 + 1, none⟩) (Ne.symm hne2) _).far (p := ⟨vb, vo + k * 3 + 2, none⟩) (Ne.symm hne2) _).far (p := ⟨w.heap.size, 4, none⟩) (by simp) _).set 0 _).set 1 _).set 2 _).set 3 _).set 4 _).set 5 _) Tryz.underlying27 rfl (by kernel_rfl)) rfl ⟨_, rfl, (hp.keep (fun j hj => ?_)).mono (fun j hj => by have hj : w.heap.size + 3 ≤ j := hj; omega), ?_⟩
  · have hj : w.heap.size + 3 ≤ j := hj
    have n1 : j ≠ w.heap.size := by omega
    have n2 : j ≠ w.heap.size + 1 := by omega
    rw [Below.heap_setCell _ _ _ _ n2, Below.heap_setCell _ _ _ _ n2, Below.heap_setCell _ _ _ _ n2, Below.heap_setCell _ _ _ _ n2, Below.heap_setCell _ _ _ _ n2, Below.heap_setCell _ _ _ _ n2, Below.heap_setCell _ _ _ _ n1]
  · have hv : w.heap.size ≤ vb := by have := HVB.out; omega
    exact (((((((((HB2.out.setCell (p := ⟨vb, _, none⟩) hv _).setCell (p := ⟨vb, _, none⟩) hv _).setCell (p := ⟨vb, _, none⟩) hv _).setCell (p := ⟨w.heap.size, 4, none⟩) (Nat.le_refl _) _).setCell (p := ⟨w.heap.size + 1, _, none⟩) (Nat.le_succ _) _).setCell (p := ⟨w.heap.size + 1, _, none⟩) (Nat.le_succ _) _).setCell (p := ⟨w.heap.size + 1, _, none⟩) (Nat.le_succ _) _).setCell (p := ⟨w.heap.size + 1, _, none⟩) (Nat.le_succ _) _).setCell (p := ⟨w.heap.size + 1, _, none⟩) (Nat.le_succ _) _).setCell (p := ⟨w.heap.size + 1, _, none⟩) (Nat.le_succ _) _
end Go.Proofs.YtlepicdjnbbndaaGreatDoor

/-
  table.At, pages 3 and 4, an operand in memory. Conditions: sizes; the library's table as its initialiser lays it.
-/
namespace Go.Proofs.YtlepicdjnbbndaaGreatDoor
open Go.RowKit Go.Shelf Go.Sort

def mainB : ByteArray := ⟨#[48, 48, 48, 48, 48, 48, 48, 48, 32, 78, 79, 80, 59, 48, 48, 48, 48, 49, 48, 48, 48, 32, 69, 88, 32, 65, 70, 44, 65, 70, 39, 59, 48, 48, 48, 49, 48, 48, 48, 48, 32, 68, 74, 78, 90, 32, 101, 59, 48, 48, 48, 49, 49, 48, 48, 48, 32, 74, 82, 32, 101, 59, 48, 48, 49, 107, 107, 48, 48, 48, 32, 74, 82, 32, 107, 44, 101, 59, 48, 48, 112, 112, 48, 48, 48, 49, 32, 76, 68, 32, 112, 44, 119, 59, 48, 48, 112, 112, 49, 48, 48, 49, 32, 65, 68, 68, 32, 72, 76, 44, 112, 59, 48, 48, 48, 48, 48, 48, 49, 48, 32, 76, 68, 32, 40, 66, 67, 41, 44, 65, 59, 48, 48, 48, 49, 48, 48, 49, 48, 32, 76, 68, 32, 40, 68, 69, 41, 44, 65, 59, 48, 48, 49, 48, 48, 48, 49, 48, 32, 76, 68, 32, 40, 119, 41, 44, 72, 76, 59, 48, 48, 49, 49, 48, 48, 49, 48, 32, 76, 68, 32, 40, 119, 41, 44, 65, 59, 48, 48, 48, 48, 49, 48, 49, 48, 32, 76, 68, 32, 65, 44, 40, 66, 67, 41, 59, 48, 48, 48, 49, 49, 48, 49, 48, 32, 76, 68, 32, 65, 44, 40, 68, 69, 41, 59, 48, 48, 49, 48, 49, 48, 49, 48, 32, 76, 68, 32, 72, 76, 44, 40, 119, 41, 59, 48, 48, 49, 49, 49, 48, 49, 48, 32, 76, 68, 32, 65, 44, 40, 119, 41, 59, 48, 48, 112, 112, 48, 48, 49, 49, 32, 73, 78, 67, 32, 112, 59, 48, 48, 112, 112, 49, 48, 49, 49, 32, 68, 69, 67, 32, 112, 59, 48, 48, 114, 114, 114, 49, 48, 48, 32, 73, 78, 67, 32, 114, 59, 48, 48, 114, 114, 114, 49, 48, 49, 32, 68, 69, 67, 32, 114, 59, 48, 48, 114, 114, 114, 49, 49, 48, 32, 76, 68, 32, 114, 44, 110, 59, 48, 48, 48, 48, 48, 49, 49, 49, 32, 82, 76, 67, 65, 59, 48, 48, 48, 48, 49, 49, 49, 49, 32, 82, 82, 67, 65, 59, 48, 48, 48, 49, 48, 49, 49, 49, 32, 82, 76, 65, 59, 48, 48, 48, 49, 49, 49, 49, 49, 32, 82, 82, 65, 59, 48, 48, 49, 48, 48, 49, 49, 49, 32, 68, 65, 65, 59, 48, 48, 49, 48, 49, 49, 49, 49, 32, 67, 80, 76, 59, 48, 48, 49, 49, 48, 49, 49, 49, 32, 83, 67, 70, 59, 48, 48, 49, 49, 49, 49, 49, 49, 32, 67, 67, 70, 59, 48, 49, 49, 49, 48, 49, 49, 48, 32, 72, 65, 76, 84, 59, 48, 49, 114, 114, 114, 115, 115, 115, 32, 76, 68, 32, 114, 44, 115, 59, 49, 48, 48, 48, 48, 115, 115, 115, 32, 65, 68, 68, 32, 65, 44, 115, 59, 49, 48, 48, 48, 49, 115, 115, 115, 32, 65, 68, 67, 32, 65, 44, 115, 59, 49, 48, 48, 49, 48, 115, 115, 115, 32, 83, 85, 66, 32, 115, 59, 49, 48, 48, 49, 49, 115, 115, 115, 32, 83, 66, 67, 32, 65, 44, 115, 59, 49, 48, 49, 48, 48, 115, 115, 115, 32, 65, 78, 68, 32, 115, 59, 49, 48, 49, 48, 49, 115, 115, 115, 32, 88, 79, 82, 32, 115, 59, 49, 48, 49, 49, 48, 115, 115, 115, 32, 79, 82, 32, 115, 59, 49, 48, 49, 49, 49, 115, 115, 115, 32, 67, 80, 32, 115, 59, 49, 49, 99, 99, 99, 48, 48, 48, 32, 82, 69, 84, 32, 99, 59, 49, 49, 113, 113, 48, 48, 48, 49, 32, 80, 79, 80, 32, 113, 59, 49, 49, 48, 48, 49, 48, 48, 49, 32, 82, 69, 84, 59, 49, 49, 48, 49, 49, 48, 48, 49, 32, 69, 88, 88, 59, 49, 49, 49, 48, 49, 48, 48, 49, 32, 74, 80, 32, 40, 72, 76, 41, 59, 49, 49, 49, 49, 49, 48, 48, 49, 32, 76, 68, 32, 83, 80, 44, 72, 76, 59, 49, 49, 99, 99, 99, 48, 49, 48, 32, 74, 80, 32, 99, 44, 119, 59, 49, 49, 48, 48, 48, 48, 49, 49, 32, 74, 80, 32, 119, 59, 49, 49, 48, 49, 48, 48, 49, 49, 32, 79, 85, 84, 32, 40, 110, 41, 44, 65, 59, 49, 49, 48, 49, 49, 48, 49, 49, 32, 73, 78, 32, 65, 44, 40, 110, 41, 59, 49, 49, 49, 48, 48, 48, 49, 49, 32, 69, 88, 32, 40, 83, 80, 41, 44, 72, 76, 59, 49, 49, 49, 48, 49, 48, 49, 49, 32, 69, 88, 32, 68, 69, 44, 72, 76, 59, 49, 49, 49, 49, 48, 48, 49, 49, 32, 68, 73, 59, 49, 49, 49, 49, 49, 48, 49, 49, 32, 69, 73, 59, 49, 49, 99, 99, 99, 49, 48, 48, 32, 67, 65, 76, 76, 32, 99, 44, 119, 59, 49, 49, 113, 113, 48, 49, 48, 49, 32, 80, 85, 83, 72, 32, 113, 59, 49, 49, 48, 48, 49, 49, 48, 49, 32, 67, 65, 76, 76, 32, 119, 59, 49, 49, 48, 48, 48, 49, 49, 48, 32, 65, 68, 68, 32, 65, 44, 110, 59, 49, 49, 48, 48, 49, 49, 49, 48, 32, 65, 68, 67, 32, 65, 44, 110, 59, 49, 49, 48, 49, 48, 49, 49, 48, 32, 83, 85, 66, 32, 110, 59, 49, 49, 48, 49, 49, 49, 49, 48, 32, 83, 66, 67, 32, 65, 44, 110, 59, 49, 49, 49, 48, 48, 49, 49, 48, 32, 65, 78, 68, 32, 110, 59, 49, 49, 49, 48, 49, 49, 49, 48, 32, 88, 79, 82, 32, 110, 59, 49, 49, 49, 49, 48, 49, 49, 48, 32, 79, 82, 32, 110, 59, 49, 49, 49, 49, 49, 49, 49, 48, 32, 67, 80, 32, 110, 59, 49, 49, 116, 116, 116, 49, 49, 49, 32, 82, 83, 84, 32, 116]⟩
def cbB : ByteArray := ⟨#[48, 48, 48, 48, 48, 115, 115, 115, 32, 82, 76, 67, 32, 115, 59, 48, 48, 48, 48, 49, 115, 115, 115, 32, 82, 82, 67, 32, 115, 59, 48, 48, 48, 49, 48, 115, 115, 115, 32, 82, 76, 32, 115, 59, 48, 48, 48, 49, 49, 115, 115, 115, 32, 82, 82, 32, 115, 59, 48, 48, 49, 48, 48, 115, 115, 115, 32, 83, 76, 65, 32, 115, 59, 48, 48, 49, 48, 49, 115, 115, 115, 32, 83, 82, 65, 32, 115, 59, 48, 48, 49, 49, 48, 115, 115, 115, 32, 83, 76, 76, 32, 115, 59, 48, 48, 49, 49, 49, 115, 115, 115, 32, 83, 82, 76, 32, 115, 59, 48, 49, 98, 98, 98, 115, 115, 115, 32, 66, 73, 84, 32, 98, 44, 115, 59, 49, 48, 98, 98, 98, 115, 115, 115, 32, 82, 69, 83, 32, 98, 44, 115, 59, 49, 49, 98, 98, 98, 115, 115, 115, 32, 83, 69, 84, 32, 98, 44, 115]⟩
def edB : ByteArray := ⟨#[48, 49, 49, 49, 48, 48, 48, 48, 32, 73, 78, 32, 40, 67, 41, 59, 48, 49, 114, 114, 114, 48, 48, 48, 32, 73, 78, 32, 114, 44, 40, 67, 41, 59, 48, 49, 49, 49, 48, 48, 48, 49, 32, 79, 85, 84, 32, 40, 67, 41, 44, 48, 59, 48, 49, 114, 114, 114, 48, 48, 49, 32, 79, 85, 84, 32, 40, 67, 41, 44, 114, 59, 48, 49, 112, 112, 48, 48, 49, 48, 32, 83, 66, 67, 32, 72, 76, 44, 112, 59, 48, 49, 112, 112, 49, 48, 49, 48, 32, 65, 68, 67, 32, 72, 76, 44, 112, 59, 48, 49, 49, 48, 48, 48, 49, 49, 32, 76, 68, 32, 40, 119, 41, 44, 72, 76, 32, 42, 59, 48, 49, 49, 48, 49, 48, 49, 49, 32, 76, 68, 32, 72, 76, 44, 40, 119, 41, 32, 42, 59, 48, 49, 112, 112, 48, 48, 49, 49, 32, 76, 68, 32, 40, 119, 41, 44, 112, 59, 48, 49, 112, 112, 49, 48, 49, 49, 32, 76, 68, 32, 112, 44, 40, 119, 41, 59, 48, 49, 48, 48, 48, 49, 48, 48, 32, 78, 69, 71, 59, 48, 49, 120, 120, 120, 49, 48, 48, 32, 78, 69, 71, 32, 42, 59, 48, 49, 48, 48, 49, 49, 48, 49, 32, 82, 69, 84, 73, 59, 48, 49, 48, 48, 48, 49, 48, 49, 32, 82, 69, 84, 78, 59, 48, 49, 120, 120, 120, 49, 48, 49, 32, 82, 69, 84, 78, 32, 42, 59, 48, 49, 48, 48, 48, 49, 49, 48, 32, 73, 77, 32, 48, 59, 48, 49, 48, 49, 48, 49, 49, 48, 32, 73, 77, 32, 49, 59, 48, 49, 48, 49, 49, 49, 49, 48, 32, 73, 77, 32, 50, 59, 48, 49, 120, 48, 120, 49, 49, 48, 32, 73, 77, 32, 48, 32, 42, 59, 48, 49, 49, 49, 48, 49, 49, 48, 32, 73, 77, 32, 49, 32, 42, 59, 48, 49, 49, 49, 49, 49, 49, 48, 32, 73, 77, 32, 50, 32, 42, 59, 48, 49, 48, 48, 48, 49, 49, 49, 32, 76, 68, 32, 73, 44, 65, 59, 48, 49, 48, 48, 49, 49, 49, 49, 32, 76, 68, 32, 82, 44, 65, 59, 48, 49, 48, 49, 48, 49, 49, 49, 32, 76, 68, 32, 65, 44, 73, 59, 48, 49, 48, 49, 49, 49, 49, 49, 32, 76, 68, 32, 65, 44, 82, 59, 48, 49, 49, 48, 48, 49, 49, 49, 32, 82, 82, 68, 59, 48, 49, 49, 48, 49, 49, 49, 49, 32, 82, 76, 68, 59, 49, 48, 49, 48, 48, 48, 48, 48, 32, 76, 68, 73, 59, 49, 48, 49, 48, 48, 48, 48, 49, 32, 67, 80, 73, 59, 49, 48, 49, 48, 48, 48, 49, 48, 32, 73, 78, 73, 59, 49, 48, 49, 48, 48, 48, 49, 49, 32, 79, 85, 84, 73, 59, 49, 48, 49, 48, 49, 48, 48, 48, 32, 76, 68, 68, 59, 49, 48, 49, 48, 49, 48, 48, 49, 32, 67, 80, 68, 59, 49, 48, 49, 48, 49, 48, 49, 48, 32, 73, 78, 68, 59, 49, 48, 49, 48, 49, 48, 49, 49, 32, 79, 85, 84, 68, 59, 49, 48, 49, 49, 48, 48, 48, 48, 32, 76, 68, 73, 82, 59, 49, 48, 49, 49, 48, 48, 48, 49, 32, 67, 80, 73, 82, 59, 49, 48, 49, 49, 48, 48, 49, 48, 32, 73, 78, 73, 82, 59, 49, 48, 49, 49, 48, 48, 49, 49, 32, 79, 84, 73, 82, 59, 49, 48, 49, 49, 49, 48, 48, 48, 32, 76, 68, 68, 82, 59, 49, 48, 49, 49, 49, 48, 48, 49, 32, 67, 80, 68, 82, 59, 49, 48, 49, 49, 49, 48, 49, 48, 32, 73, 78, 68, 82, 59, 49, 48, 49, 49, 49, 48, 49, 49, 32, 79, 84, 68, 82]⟩
def mainL : List (List UInt8) := splitC mainB.data.toList
theorem mainB_size : mainB.size ≤ 1000000 := by decide +kernel
theorem entry6 {w : World} {g : Nat} {z0 z1 z2 z3 z4 z5 : Value} (h : Blk w g 27 #[z0, z1, z2, z3, z4, z5]) (a0 a1 a2 a3 a4 a5 : Value) :
    Blk ((((((w.setCell ⟨g, 0, none⟩ a0).setCell ⟨g, 1, none⟩ a1).setCell ⟨g, 2, none⟩ a2).setCell ⟨g, 3, none⟩ a3).setCell ⟨g, 4, none⟩ a4).setCell ⟨g, 5, none⟩ a5) g 27 #[a0, a1, a2, a3, a4, a5] := (((((h.set 0 _).set 1 _).set 2 _).set 3 _).set 4 _).set 5 _
def set6 (w : World) (g : Nat) (a0 a1 a2 a3 a4 a5 : Value) : World := ((((((w.setCell ⟨g, 0, none⟩ a0).setCell ⟨g, 1, none⟩ a1).setCell ⟨g, 2, none⟩ a2).setCell ⟨g, 3, none⟩ a3).setCell ⟨g, 4, none⟩ a4).setCell ⟨g, 5, none⟩ a5)
theorem set6_size (w : World) (g : Nat) (a0 a1 a2 a3 a4 a5 : Value) : (set6 w g a0 a1 a2 a3 a4 a5).heap.size = w.heap.size := by
  unfold set6; rw [World.size_setCell, World.size_setCell, World.size_setCell, World.size_setCell, World.size_setCell, World.size_setCell]
theorem set6_far (w : World) (g : Nat) (a0 a1 a2 a3 a4 a5 : Value) (j : Nat) (h : j ≠ g) : (set6 w g a0 a1 a2 a3 a4 a5).heap[j]? = w.heap[j]? := by
  unfold set6
  rw [Below.heap_setCell _ _ _ _ h, Below.heap_setCell _ _ _ _ h, Below.heap_setCell _ _ _ _ h, Below.heap_setCell _ _ _ _ h, Below.heap_setCell _ _ _ _ h, Below.heap_setCell _ _ _ _ h]
theorem set6_below {B : Nat} {w0 w : World} {g : Nat} (h : Below B w0 w) (hg : B ≤ g) (a0 a1 a2 a3 a4 a5 : Value) : Below B w0 (set6 w g a0 a1 a2 a3 a4 a5) :=
  (((((h.setCell (p := ⟨g, 0, none⟩) hg _).setCell (p := ⟨g, 1, none⟩) hg _).setCell (p := ⟨g, 2, none⟩) hg _).setCell (p := ⟨g, 3, none⟩) hg _).setCell (p := ⟨g, 4, none⟩) hg _).setCell (p := ⟨g, 5, none⟩) hg _
end Go.Proofs.YtlepicdjnbbndaaGreatDoor

/-
  table.At at DD 7E. Conditions: the library's table as its initialiser lays it.
-/
namespace Go.Proofs.YtlepicdjnbbndaaGreatDoor
open Go.RowKit Go.Shelf Go.Sort

end Go.Proofs.YtlepicdjnbbndaaGreatDoor
