/-
  table.indexed, its loop, walked. Conditions: sizes.
-/
import Derived.Test.YtlepicdjnbbndaaGreatDoorTG
namespace Go.Proofs.YtlepicdjnbbndaaGreatDoor
open Go.RowKit Go.Shelf Go.Sort

theorem set_same {α : Type} {l : List α} {k : Nat} {y : α} (h : l[k]? = some y) : l.set k y = l := by
  obtain ⟨hk, rfl⟩ := List.getElem?_eq_some_iff.1 h
  exact List.set_getElem_self hk
set_option maxHeartbeats 16000000 in
set_option maxRecDepth 100000 in
theorem indexed_loop (page : Int) (hpg : page = 3 ∨ page = 4) (x : EntV) (p : Blocks) (v : Value) (w : World) (h : SlR opdR w p v x.args) (hm : posO ⟨4, 2, 0⟩ 0 x.args = -1 ∨ (0 ≤ posO ⟨4, 2, 0⟩ 0 x.args ∧ x.iop = [74, 80])) (hop9 : x.op < 256) (hn : x.args.length ≤ 1000)
    (hup : upper ⟨x.iop.toArray⟩ = ⟨x.iop.toArray⟩) (his : x.iop.length ≤ 1000) (hex : x.ex.length ≤ 1000) :
    Calls Tryz.prog 46 #[entVal x v, .int .i64 page] w fun e w' => ∃ v', e = .returned (.tuple (if x.op = 235 then #[ent0, .bool false] else #[entVal ⟨page, x.op, x.iop, xmap (page + 2) x.args, x.ex, x.al⟩ v', .bool (xany (page + 2) x.args)])) ∧ OpdOwn w' (fun b => w.heap.size ≤ b) v' (xmap (page + 2) x.args) ∧ Below w.heap.size w w' := by
  obtain ⟨reg, hreg⟩ : ∃ r, r = page + 2 := ⟨_, rfl⟩
  rw [← hreg]
  have hw1 : IntKind.i64.wrap (page - 3) = page - 3 := by rcases hpg with rfl | rfl <;> rfl
  have hw2 : IntKind.i64.wrap (page - 3 + 5) = reg := by subst hreg; rcases hpg with rfl | rfl <;> rfl
  have hw3 : IntKind.i64.wrap (reg - 5) = reg - 5 := by subst hreg; rcases hpg with rfl | rfl <;> rfl
  have hw4 : IntKind.i64.wrap (2 * (reg - 5)) = 2 * (reg - 5) := by subst hreg; rcases hpg with rfl | rfl <;> rfl
  have hw5 : IntKind.i64.wrap (2 * (reg - 5) + 4) = 2 * (reg - 5) + 4 := by subst hreg; rcases hpg with rfl | rfl <;> rfl
  have hw6 : IntKind.i64.wrap (2 * (reg - 5) + 4 - 4) = 2 * (reg - 5) := by subst hreg; rcases hpg with rfl | rfl <;> rfl
  have hw7 : IntKind.i64.wrap (2 * (reg - 5) + 5) = 2 * (reg - 5) + 5 := by subst hreg; rcases hpg with rfl | rfl <;> rfl
  have hw8 : IntKind.i64.wrap (2 * (reg - 5) + 5 - 4) = 2 * (reg - 5) + 1 := by subst hreg; rcases hpg with rfl | rfl <;> rfl
  have HP := Lib.hid hpg
  clear hpg hreg
  obtain ⟨pg, op, iop, args, ex, al⟩ := x
  dsimp only at *
  obtain ⟨ca, cc, rfl⟩ : ∃ a c, v = .slice a args.length c := by obtain ⟨a, c, e, _⟩ := h; exact ⟨a, c, e⟩
  have HMK := Lib.hid (fun W (h : SlR opdR W p (.slice ca args.length cc) args) => Make_any p ⟨iop.toArray⟩ _ args W h (by omega) (by show iop.toArray.size ≤ _; rw [List.size_toArray]; omega))
  rw [hup] at HMK
  obtain ⟨exB, hexB⟩ : ∃ b : ByteArray, b = ⟨ex.toArray⟩ := ⟨_, rfl⟩
  have hexs : exB.size ≤ 1000 := by rw [hexB]; show ex.toArray.size ≤ _; rw [List.size_toArray]; exact hex
  have HEX := Lib.hid hexB
  have hsz : (((w.alloc (.cells #[.int .i64 pg, .int .u8 op, .string ⟨iop.toArray⟩, .slice ca args.length cc, .string exB, .bool al] 27)).alloc (.cells #[.int .i64 0, .int .u8 0, .string ⟨#[]⟩, .slice none 0 0, .string ⟨#[]⟩, .bool false] 27)).alloc (.cells #[.int .i64 4, .int .i64 2, .int .i64 0] 87)).heap.size = w.heap.size + 3 := by rw [World.size_alloc, World.size_alloc, World.size_alloc]
  have HSZ := Lib.hid hsz
  have hE : Blk (((w.alloc (.cells #[.int .i64 pg, .int .u8 op, .string ⟨iop.toArray⟩, .slice ca args.length cc, .string exB, .bool al] 27)).alloc (.cells #[.int .i64 0, .int .u8 0, .string ⟨#[]⟩, .slice none 0 0, .string ⟨#[]⟩, .bool false] 27)).alloc (.cells #[.int .i64 4, .int .i64 2, .int .i64 0] 87)) w.heap.size 27 #[.int .i64 pg, .int .u8 op, .string ⟨iop.toArray⟩, .slice ca args.length cc, .string exB, .bool al] := ((Blk.new w _ _).alloc _).alloc _
  have hR : Blk (((w.alloc (.cells #[.int .i64 pg, .int .u8 op, .string ⟨iop.toArray⟩, .slice ca args.length cc, .string exB, .bool al] 27)).alloc (.cells #[.int .i64 0, .int .u8 0, .string ⟨#[]⟩, .slice none 0 0, .string ⟨#[]⟩, .bool false] 27)).alloc (.cells #[.int .i64 4, .int .i64 2, .int .i64 0] 87)) (w.heap.size + 1) 27 #[.int .i64 0, .int .u8 0, .string ⟨#[]⟩, .slice none 0 0, .string ⟨#[]⟩, .bool false] := by
    have h1 := (Blk.new (w.alloc (.cells #[.int .i64 pg, .int .u8 op, .string ⟨iop.toArray⟩, .slice ca args.length cc, .string exB, .bool al] 27)) 27 #[.int .i64 0, .int .u8 0, .string ⟨#[]⟩, .slice none 0 0, .string ⟨#[]⟩, .bool false]).alloc (.cells #[.int .i64 4, .int .i64 2, .int .i64 0] 87)
    rw [World.size_alloc] at h1
    exact h1
  have hM : Blk (((w.alloc (.cells #[.int .i64 pg, .int .u8 op, .string ⟨iop.toArray⟩, .slice ca args.length cc, .string exB, .bool al] 27)).alloc (.cells #[.int .i64 0, .int .u8 0, .string ⟨#[]⟩, .slice none 0 0, .string ⟨#[]⟩, .bool false] 27)).alloc (.cells #[.int .i64 4, .int .i64 2, .int .i64 0] 87)) (w.heap.size + 2) 87 #[.int .i64 4, .int .i64 2, .int .i64 0] := by
    have h1 := Blk.new ((w.alloc (.cells #[.int .i64 pg, .int .u8 op, .string ⟨iop.toArray⟩, .slice ca args.length cc, .string exB, .bool al] 27)).alloc (.cells #[.int .i64 0, .int .u8 0, .string ⟨#[]⟩, .slice none 0 0, .string ⟨#[]⟩, .bool false] 27)) 87 #[.int .i64 4, .int .i64 2, .int .i64 0]
    rw [World.size_alloc, World.size_alloc] at h1
    exact h1
  have HE0 := Lib.hid hE
  have HR0 := Lib.hid hR
  have HM0 := Lib.hid hM
  have HB0 := Lib.hid ((((Below.refl w.heap.size w).alloc (Nat.le_refl _) (.cells #[.int .i64 pg, .int .u8 op, .string ⟨iop.toArray⟩, .slice ca args.length cc, .string exB, .bool al] 27)).alloc (by rw [World.size_alloc]; omega) (.cells #[.int .i64 0, .int .u8 0, .string ⟨#[]⟩, .slice none 0 0, .string ⟨#[]⟩, .bool false] 27)).alloc (by rw [World.size_alloc, World.size_alloc]; omega) (.cells #[.int .i64 4, .int .i64 2, .int .i64 0] 87))
  have HS := Lib.hid (((h.alloc (.cells #[.int .i64 pg, .int .u8 op, .string ⟨iop.toArray⟩, .slice ca args.length cc, .string exB, .bool al] 27)).alloc (.cells #[.int .i64 0, .int .u8 0, .string ⟨#[]⟩, .slice none 0 0, .string ⟨#[]⟩, .bool false] 27)).alloc (.cells #[.int .i64 4, .int .i64 2, .int .i64 0] 87))
  have HIX := Lib.hid (fun q v W (h : SlR opdR W q v args) => IndexOpd_any q v args ⟨4, 2, 0⟩ W h)
  have HMM := Lib.hid hm
  clear h hup hsz hE hR hM hm
  generalize posO ⟨4, 2, 0⟩ 0 args = i0 at *
  unfold entVal
  dsimp only
  rw [← hexB]
  clear hexB
  go_enter Tryz.func46, Tryz.ntmps46
  go_wp2_with fail
  refine (HMK.out _ HS.out).mono ?_
  rintro e w1 ⟨v1, rfl, ho, hb⟩
  rw [HSZ.out] at ho hb
  obtain ⟨va, vc, rfl⟩ := ho.form
  have HE1 := Lib.hid (HE0.out.below hb (by omega))
  have HR1 := Lib.hid (HR0.out.below hb (by omega))
  have HM1 := Lib.hid (HM0.out.below hb (by omega))
  have HB1 := Lib.hid (HB0.out.trans (hb.mono (by omega)))
  have HO1 := Lib.hid ho
  obtain ⟨m0, m1, m2, _, _, _⟩ := HM1.out.three
  have e0 := HE1.out.cell 0
  have e2 := HE1.out.cell 2
  have e3 := HE1.out.cell 3
  have z0 := HE1.out.free 0
  have z2 := HE1.out.free 2
  have z3 := HE1.out.free 3
  have hlt1 := HE1.out.lt
  clear ho hb HB0 HE0 HR0 HM0 HS HMK
  go_wp2_with fail
  have how : Own opdR (((w1.setCell ⟨w.heap.size, 0, none⟩ (.int .i64 page)).setCell ⟨w.heap.size, 2, none⟩ (.string ⟨iop.toArray⟩)).setCell ⟨w.heap.size, 3, none⟩ (.slice va args.length vc)) (w.heap.size + 3) 87 NoB (.slice va args.length vc) args := HO1.out.keep (fun j hj => by
    have hne : j ≠ w.heap.size := by
      rcases hj with hj | hj
      · exact hj.elim
      · have := (HO1.out.lt j hj).1; omega
    rw [Below.heap_setCell _ _ _ _ hne, Below.heap_setCell _ _ _ _ hne, Below.heap_setCell _ _ _ _ hne])
  refine (HIX.out (fun j => w.heap.size + 3 ≤ j) _ _ (how.slR (fun _ h => h.elim) (fun _ h => h))).mono ?_
  rintro e w2 ⟨rfl, hb2⟩
  have ho2 : Own opdR w2 (w.heap.size + 3) 87 NoB (.slice va args.length vc) args := how.keep (Keep.of_below hb2 (fun j hj => by rcases hj with hj | hj; exact hj.elim; exact (how.lt j hj).2))
  have HI0 : Hid (IxI w w2.heap.size page op ⟨iop.toArray⟩ exB al (.slice va args.length vc) args w2) := by
    refine ⟨(((HE1.out.set 0 _).set 2 _).set 3 _).below hb2 (by rw [World.size_setCell, World.size_setCell, World.size_setCell]; exact HE1.out.lt), ?_, ?_, ho2.opdOwn (fun j hj => ho2.lt j hj), ?_, Nat.le_refl _⟩
    · exact (((HR1.out.far (p := ⟨w.heap.size, 0, none⟩) (by simp) (.int .i64 page)).far (p := ⟨w.heap.size, 2, none⟩) (by simp) (.string ⟨iop.toArray⟩)).far (p := ⟨w.heap.size, 3, none⟩) (by simp) (.slice va args.length vc)).below hb2 (by rw [World.size_setCell, World.size_setCell, World.size_setCell]; exact HR1.out.lt)
    · exact (((HM1.out.far (p := ⟨w.heap.size, 0, none⟩) (by simp) (.int .i64 page)).far (p := ⟨w.heap.size, 2, none⟩) (by simp) (.string ⟨iop.toArray⟩)).far (p := ⟨w.heap.size, 3, none⟩) (by simp) (.slice va args.length vc)).below hb2 (by rw [World.size_setCell, World.size_setCell, World.size_setCell]; exact HM1.out.lt)
    · exact (((HB1.out.setCell (p := ⟨w.heap.size, 0, none⟩) (Nat.le_refl _) (.int .i64 page)).setCell (p := ⟨w.heap.size, 2, none⟩) (Nat.le_refl _) (.string ⟨iop.toArray⟩)).setCell (p := ⟨w.heap.size, 3, none⟩) (Nat.le_refl _) (.slice va args.length vc)).trans (hb2.mono (by rw [World.size_setCell, World.size_setCell, World.size_setCell]; exact Nat.le_of_lt HE1.out.lt))
  have HSB : Hid (w.heap.size + 3 ≤ w2.heap.size) := by
    have h1 := HM1.out.lt
    have h2 := hb2.size
    rw [World.size_setCell, World.size_setCell, World.size_setCell] at h2
    show _ ≤ _
    omega
  clear ho2 how hb2 e0 e2 e3 z0 z2 z3 hlt1 m0 m1 m2 HE1 HR1 HM1 HB1 HO1 HIX
  have e3 := HI0.out.blkE.cell 3
  have e2 := HI0.out.blkE.cell 2
  generalize hS : w2.heap.size = S at *
  clear hS
  go_upto_region 5 with fail
  go_cut [38] (fun s38 wx => s38 = .bool false ∧ wx = w2)
  case first =>
    rcases HMM.out with rfl | ⟨hj1, hj2⟩
    · go_wp2
      go_meet
      case rel => exact ⟨rfl, rfl⟩
    · have hjb : (iop == [74, 80]) = true := by rw [hj2]; rfl
      have hj0 : decide (0 ≤ i0) = true := decide_eq_true hj1
      clear hj2
      go_wp2
      go_meet
      case rel => exact ⟨rfl, rfl⟩
  case rest =>
  obtain ⟨rfl, rfl⟩ := hcut
  go_wp2
  go_loopw [9, 55] (fun c i wr => ∃ k : Nat, k ≤ args.length ∧ i = .int .i64 k ∧ c = .bool (xany reg (args.take k)) ∧ IxI w S page op ⟨iop.toArray⟩ exB al (.slice va args.length vc) (xmix reg args k) wr) (fun _ i _ => args.length - (intOf i).toNat)
  case atStart => exact ⟨0, Nat.zero_le _, rfl, rfl, by rw [xmix_zero]; exact HI0.out⟩
  case round =>
    clear HI0 e3 e2
    obtain ⟨k, hk, rfl, rfl, hI⟩ := hrel
    by_cases hlt : k < args.length
    · obtain ⟨b, o, rfl, hq, hbl, c0, c1, c2, f⟩ : ∃ b o, va = some ⟨b, o, none⟩ ∧ (w.heap.size + 3 ≤ b ∧ b < S) ∧ b < wr.heap.size ∧ wr.cell? ⟨b, o + k * 3, none⟩ = some (.int .i64 args[k].kind) ∧ wr.cell? ⟨b, o + k * 3 + 1, none⟩ = some (.int .i64 args[k].reg) ∧ wr.cell? ⟨b, o + k * 3 + 2, none⟩ = some (.int .i64 args[k].n) ∧ ∀ j, wr.frozen? ⟨b, j, none⟩ = false := by
        obtain ⟨a9, c9, e9, _, _, g9⟩ := hI.own
        injection e9 with e9
        subst e9
        exact g9 k args[k] (xmix_at reg args k hlt)
      have HXS := Lib.hid (xmix_step reg args k hlt)
      have HSA := Lib.hid (set_same (xmix_at reg args k hlt))
      have HXA := Lib.hid (xany_step reg args k hlt)
      have HI := Lib.hid hI
      have HQ := Lib.hid hq
      have HKX : Hid (k < (xmix reg args k).length) := by show _ < _; rw [xmix_len]; exact hlt
      generalize args[k] = y at *
      obtain ⟨yk, yr, yn⟩ := y
      dsimp only at c0 c1 c2
      generalize xmix reg args k = L at *
      generalize xany reg (args.take k) = ch at *
      have f0 := f (o + k * 3)
      have f1 := f (o + k * 3 + 1)
      have f2 := f (o + k * 3 + 2)
      have e3 := HI.out.blkE.cell 3
      have m0 := HI.out.blkM.cell 0
      have m1 := HI.out.blkM.cell 1
      have m2 := HI.out.blkM.cell 2
      have hmb : w.heap.size + 2 < wr.heap.size := HI.out.blkM.lt
      have hm0 : w.heap.size < wr.heap.size := HI.out.blkE.lt
      have n1 : ¬ b = w.heap.size + 2 := by omega
      have n2 : ¬ b = wr.heap.size := Nat.ne_of_lt hbl
      have n3 : ¬ b = w.heap.size := by omega
      clear hI hq f
      have hop := run_eqOpd
      have HW := Lib.hid (fun cs => HI.out.later ((Below.refl _ wr).alloc (Nat.le_refl _) (.cells cs 87)))
      by_cases ha : opdEq ⟨yk, yr, yn⟩ ⟨4, 2, 0⟩ = true
      · have hx : xchg reg ⟨yk, yr, yn⟩ = some ⟨4, reg, 0⟩ := by unfold xchg; rw [if_pos ha]
        obtain ⟨rfl, rfl, rfl⟩ : yk = 4 ∧ yr = 2 ∧ yn = 0 := by have := opdEq_iff.1 ha; injection this with h1 h2 h3; exact ⟨h1, h2, h3⟩
        rw [hx] at HXS HXA
        clear hx
        go_wp2
        go_roundw
        case rel => exact ⟨k + 1, by omega, by go_num, by rw [HXA.out, Option.isSome_some, Bool.or_true], by rw [HXS.out]; exact (HI.out.put ⟨4, reg, 0⟩ HQ.out.1 HKX.out).later ((Below.refl _ _).alloc (Nat.le_refl _) _)⟩
        case measure => simp [intOf]; omega
      have ha' : opdEq ⟨yk, yr, yn⟩ ⟨4, 2, 0⟩ = false := by simpa using ha
      by_cases hb : opdEq ⟨yk, yr, yn⟩ ⟨3, 2, 0⟩ = true
      · have hx : xchg reg ⟨yk, yr, yn⟩ = some ⟨3, reg, 0⟩ := by unfold xchg; rw [if_neg ha, if_pos hb]
        obtain ⟨rfl, rfl, rfl⟩ : yk = 3 ∧ yr = 2 ∧ yn = 0 := by have := opdEq_iff.1 hb; injection this with h1 h2 h3; exact ⟨h1, h2, h3⟩
        rw [hx] at HXS HXA
        clear hx ha
        go_wp2
        go_roundw
        case rel => exact ⟨k + 1, by omega, by go_num, by rw [HXA.out, Option.isSome_some, Bool.or_true], by rw [HXS.out]; exact (HI.out.put ⟨3, reg, 0⟩ HQ.out.1 HKX.out).later ((Below.refl _ _).alloc (Nat.le_refl _) _)⟩
        case measure => simp [intOf]; omega
      have hb' : opdEq ⟨yk, yr, yn⟩ ⟨3, 2, 0⟩ = false := by simpa using hb
      by_cases hc : yk = 1 ∧ yr = 4
      · have hx : xchg reg ⟨yk, yr, yn⟩ = some ⟨2, 2 * (reg - 5), 0⟩ := by unfold xchg; rw [if_neg ha, if_neg hb, if_pos hc]
        obtain ⟨rfl, rfl⟩ := hc
        rw [hx] at HXS HXA
        clear hx ha hb
        go_wp2
        go_roundw
        case rel => exact ⟨k + 1, by omega, by go_num, by rw [HXA.out, Option.isSome_some, Bool.or_true], by rw [HXS.out]; exact (HI.out.put ⟨2, 2 * (reg - 5), 0⟩ HQ.out.1 HKX.out).later ((Below.refl _ _).alloc (Nat.le_refl _) _)⟩
        case measure => simp [intOf]; omega
      by_cases hd : yk = 1 ∧ yr = 5
      · have hx : xchg reg ⟨yk, yr, yn⟩ = some ⟨2, 2 * (reg - 5) + 1, 0⟩ := by unfold xchg; rw [if_neg ha, if_neg hb, if_neg hc, if_pos hd]
        obtain ⟨rfl, rfl⟩ := hd
        rw [hx] at HXS HXA
        clear hx ha hb hc
        go_wp2
        go_roundw
        case rel => exact ⟨k + 1, by omega, by go_num, by rw [HXA.out, Option.isSome_some, Bool.or_true], by rw [HXS.out]; exact (HI.out.put ⟨2, 2 * (reg - 5) + 1, 0⟩ HQ.out.1 HKX.out).later ((Below.refl _ _).alloc (Nat.le_refl _) _)⟩
        case measure => simp [intOf]; omega
      have hx : xchg reg ⟨yk, yr, yn⟩ = none := by unfold xchg; rw [if_neg ha, if_neg hb, if_neg hc, if_neg hd]
      rw [hx] at HXS HXA
      have HL : Hid (L.set k ⟨yk, yr, yn⟩ = L) := HSA.out
      clear hx ha hb
      by_cases hk1 : yk = 1
      · subst hk1
        have r4 : (yr == 4) = false := by rw [beq_eq_false_iff_ne]; exact fun e => hc ⟨rfl, e⟩
        have r5 : (yr == 5) = false := by rw [beq_eq_false_iff_ne]; exact fun e => hd ⟨rfl, e⟩
        clear hc hd
        go_wp2
        go_roundw
        case rel => exact ⟨k + 1, by omega, by go_num, by rw [HXA.out, Option.isSome_none, Bool.or_false], by rw [HXS.out, Option.getD_none, HL.out]; exact HW.out _⟩
        case measure => simp [intOf]; omega
      · have r1 : (yk == 1) = false := by rw [beq_eq_false_iff_ne]; exact hk1
        clear hc hd hk1
        go_wp2
        go_roundw
        case rel => exact ⟨k + 1, by omega, by go_num, by rw [HXA.out, Option.isSome_none, Bool.or_false], by rw [HXS.out, Option.getD_none, HL.out]; exact HW.out _⟩
        case measure => simp [intOf]; omega
    · obtain rfl : k = args.length := by omega
      rw [xmix_all reg args _ (Nat.le_refl _)] at hI
      rw [List.take_of_length_le (Nat.le_refl _)]
      have HI := Lib.hid hI
      have e0 := HI.out.blkE.cell 0
      have e1 := HI.out.blkE.cell 1
      have e2 := HI.out.blkE.cell 2
      have e3 := HI.out.blkE.cell 3
      have e4 := HI.out.blkE.cell 4
      have e5 := HI.out.blkE.cell 5
      have r0 := HI.out.blkR.cell 0
      have r1 := HI.out.blkR.cell 1
      have r2 := HI.out.blkR.cell 2
      have r3 := HI.out.blkR.cell 3
      have r4 := HI.out.blkR.cell 4
      have r5 := HI.out.blkR.cell 5
      have y0 := HI.out.blkR.free 0
      have y1 := HI.out.blkR.free 1
      have y2 := HI.out.blkR.free 2
      have y3 := HI.out.blkR.free 3
      have y4 := HI.out.blkR.free 4
      have y5 := HI.out.blkR.free 5
      clear hI hk
      by_cases h235 : op = 235
      · subst h235
        go_wp2
        unfold ent0
        refine bodyPost_ret (results_row_tmp rfl _ _ (w.heap.size + 1) 27 #[.int .i64 0, .int .u8 0, .string ⟨#[]⟩, .slice none 0 0, .string ⟨#[]⟩, .bool false] (0, 0) _ rfl (entry6 HI.out.blkR _ _ _ _ _ _) Tryz.underlying27 rfl (by kernel_rfl)) rfl ⟨rfl, ⟨_, (HI.out.own.keep (fun j hj => set6_far _ _ _ _ _ _ _ _ j (by have := hj.1; omega))).mono (fun j hj => by have := hj.1; omega)⟩, set6_below HI.out.below (Nat.le_succ _) _ _ _ _ _ _⟩
      · have hq : ((op : Int) == 235) = false := by rw [beq_eq_false_iff_ne]; omega
        have H235 := Lib.hid h235
        clear h235
        go_wp2
        refine bodyPost_ret (results_row_tmp rfl _ _ (w.heap.size + 1) 27 #[.int .i64 page, .int .u8 op, .string ⟨iop.toArray⟩, .slice va args.length vc, .string exB, .bool al] (0, 0) _ rfl (entry6 HI.out.blkR _ _ _ _ _ _) Tryz.underlying27 rfl (by kernel_rfl)) rfl ⟨_, rfl, (HI.out.own.keep (fun j hj => set6_far _ _ _ _ _ _ _ _ j (by have := hj.1; omega))).mono (fun j hj => by have := hj.1; omega), set6_below HI.out.below (Nat.le_succ _) _ _ _ _ _ _⟩
end Go.Proofs.YtlepicdjnbbndaaGreatDoor
