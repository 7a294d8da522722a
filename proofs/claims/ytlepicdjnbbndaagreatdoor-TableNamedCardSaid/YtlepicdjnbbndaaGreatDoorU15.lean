/-
  The law TableNamed, walked. Conditions: the library's table as its initialiser lays it.
-/
import Derived.Test.YtlepicdjnbbndaaGreatDoorU8
import Derived.Test.YtlepicdjnbbndaaGreatDoorU14
import Derived.Test.YtlepicdjnbbndaaGreatDoorTF
namespace Go.Proofs.YtlepicdjnbbndaaGreatDoor
open Go.RowKit Go.Shelf Go.Sort

set_option maxHeartbeats 4000000 in
set_option maxRecDepth 100000 in
theorem nameE_any (p1 o1 : Int) (i1 s1 : ByteArray) (l1 : List Opd) (f1 : Bool) (p q : Blocks) (v1 v2 : Value) (w : World) (h1 : SlR opdR w p v1 l1) (h2 : SlR opdR w q v2 l1) :
    Calls Tryz.prog 32 #[.agg #[.int .i64 p1, .int .u8 o1, .string i1, v1, .string s1, .bool f1], .agg #[.int .i64 p1, .int .u8 o1, .string i1, v2, .string s1, .bool f1]] w fun e w' => e = .returned (.bool true) ∧ Below w.heap.size w w' := by
  obtain ⟨a1, c1, rfl⟩ : ∃ a c, v1 = .slice a l1.length c := by obtain ⟨a, c, e, _⟩ := h1; exact ⟨a, c, e⟩
  obtain ⟨a2, c2, rfl⟩ : ∃ a c, v2 = .slice a l1.length c := by obtain ⟨a, c, e, _⟩ := h2; exact ⟨a, c, e⟩
  have HSM := Lib.hid (fun W h1 h2 => Same9_any p1 o1 p1 o1 i1 i1 s1 s1 l1 l1 f1 f1 p q (.slice a1 l1.length c1) (.slice a2 l1.length c2) W h1 h2)
  rw [same9_refl] at HSM
  have HB := Lib.hid (((Below.refl w.heap.size w).alloc (Nat.le_refl _) (.cells #[.int .i64 p1, .int .u8 o1, .string i1, .slice a1 l1.length c1, .string s1, .bool f1] 27)).alloc (by rw [World.size_alloc]; omega) (.cells #[.int .i64 p1, .int .u8 o1, .string i1, .slice a2 l1.length c2, .string s1, .bool f1] 36))
  have HS1 := Lib.hid (h1.below HB.out)
  have HS2 := Lib.hid (h2.below HB.out)
  clear h1 h2
  go_enter Tryz.func32, Tryz.ntmps32
  go_wp2_with (go_at_call 18; refine (HSM.out _ HS1.out HS2.out).mono ?_; rintro e w' ⟨rfl, hb⟩; have HB2 := Lib.hid (HB.out.trans (hb.mono HB.out.size)); clear hb)
  go_ret
  exact ⟨rfl, HB2.out⟩
set_option maxHeartbeats 4000000 in
set_option maxRecDepth 100000 in
theorem EqEntN_any (p q : Blocks) (v1 v2 : Value) (l : List EntV) (w : World) (h1 : SlR entR w p v1 l) (h2 : SlR entR w q v2 l) :
    Calls Tryz.prog 28 #[v1, v2, .func (.func 32) #[] #[]] w fun e w' => e = .returned (.bool true) ∧ Below w.heap.size w w' := by
  obtain ⟨a1, c1, rfl, hl, _⟩ := h1.ent
  obtain ⟨a2, c2, rfl, _, _⟩ := h2.ent
  have HS1 := Lib.hid h1
  have HS2 := Lib.hid h2
  clear h1 h2
  go_enter Tryz.func28, Tryz.ntmps28
  go_wp2
  go_loopw [17] (fun s17 wx => ∃ k : Nat, k ≤ l.length ∧ s17 = .int .i64 k ∧ Below w.heap.size w wx) (fun s17 _ => l.length - (intOf s17).toNat)
  case atStart => exact ⟨0, by omega, rfl, Below.refl _ _⟩
  case round =>
    obtain ⟨k, hk, rfl, hb⟩ := hrel
    have HB := Lib.hid hb
    have HR1 := Lib.hid (HS1.out.below hb)
    have HR2 := Lib.hid (HS2.out.below hb)
    clear hb
    by_cases hlt : k < l.length
    · obtain ⟨a3, c3, e3, _, g3⟩ := HR1.out.ent
      obtain ⟨a4, c4, e4, _, g4⟩ := HR2.out.ent
      injection e3 with e5 e6 e7
      injection e4 with e8 e9 e10
      clear e6 e9
      subst e5 e7 e8 e10
      obtain ⟨b1, m1, va1, vc1, rfl, hb1, x0, x1, x2, x3, x4, x5, hs1⟩ := g3 k l[k] (List.getElem?_eq_getElem hlt)
      obtain ⟨b2, m2, va2, vc2, rfl, hb2, y0, y1, y2, y3, y4, y5, hs2⟩ := g4 k l[k] (List.getElem?_eq_getElem hlt)
      clear g3 g4
      generalize l[k] = x at *
      obtain ⟨pg, op, iop, args, ex, al⟩ := x
      dsimp only at *
      have hP1 := fun W h1 h2 => nameE_any pg op ⟨iop.toArray⟩ ⟨ex.toArray⟩ args al p q (.slice va1 args.length vc1) (.slice va2 args.length vc2) W h1 h2
      have HP1 := Lib.hid hP1
      have HA := Lib.hid (((Below.refl wr.heap.size wr).alloc (Nat.le_refl _) (.cells #[.int .i64 pg, .int .u8 op, .string ⟨iop.toArray⟩, .slice va1 args.length vc1, .string ⟨ex.toArray⟩, .bool al] 27)).alloc (by rw [World.size_alloc]; omega) (.cells #[.int .i64 pg, .int .u8 op, .string ⟨iop.toArray⟩, .slice va2 args.length vc2, .string ⟨ex.toArray⟩, .bool al] 36))
      have HT1 := Lib.hid (hs1.below HA.out)
      have HT2 := Lib.hid (hs2.below HA.out)
      have n2 : ¬ b2 = wr.heap.size := Nat.ne_of_lt hb2
      clear hs1 hs2 hP1
      go_wp2_with (go_at_call 32; refine (HP1.out _ HT1.out HT2.out).mono ?_; rintro e w2 ⟨rfl, hb⟩; have HB2 := Lib.hid (HA.out.trans (hb.mono HA.out.size)); clear hb)
      go_round
      case rel => exact ⟨k + 1, by omega, by go_num, HB.out.trans (HB2.out.mono HB.out.size)⟩
      case measure => simp [intOf]; omega
    · obtain rfl : k = l.length := by omega
      go_wp2
      go_ret
      exact ⟨rfl, HB.out⟩
theorem rem8' (u : Nat) : (u : Int).tmod 8 = (u : Int) % 8 := Int.tmod_eq_emod_of_nonneg (by omega)
theorem filter_take_yes {f : EntV → Bool} {L : List EntV} {k : Nat} (h : k < L.length) (hf : f L[k] = true) : (L.take (k + 1)).filter f = (L.take k).filter f ++ [L[k]] := by
  rw [List.take_succ_eq_append_getElem h, List.filter_append]; simp [hf]
theorem filter_take_no {f : EntV → Bool} {L : List EntV} {k : Nat} (h : k < L.length) (hf : f L[k] = false) : (L.take (k + 1)).filter f = (L.take k).filter f := by
  rw [List.take_succ_eq_append_getElem h, List.filter_append]; simp [hf]
theorem iop_eq (l : List UInt8) (op : ByteArray) : ((⟨l.toArray⟩ : ByteArray).toList == op.toList) = (l == op.data.toList) := by
  rw [Go.ByteArray.toList_eq, Go.ByteArray.toList_eq]
set_option maxHeartbeats 8000000 in
set_option maxRecDepth 100000 in
theorem TableNamed_law (op : ByteArray) (u : Nat) (hu : u < 256) (w : World) (hs : op.size ≤ 9223372036854775807) (hT : Spc w) :
    Calls Tryz.prog 8 #[.string op, .int .u8 u] w fun e w' => e = .returned (.bool true) ∧ Below w.heap.size w w' := by
  have HAL := Lib.hid (fun W hT => alive9_any W hT)
  have HT := Lib.hid hT
  have r8 := rem8' u
  have hcv : IntKind.i64.wrap (u : Int) = u := IntWalk.i64_in _ (by omega)
  clear hT
  by_cases hl : op.size > 100
  · have hl2 : (100 : Int) < (op.size : Int) := by omega
    go_enter Tryz.func8, Tryz.ntmps8
    go_wp2_with (go_at_call 14; refine (HAL.out _ HT.out).mono ?_; rintro e w2 ⟨rfl, hb⟩; have HB := Lib.hid hb; clear hb)
    go_ret
    exact ⟨rfl, HB.out⟩
  have hl2 : ¬ (100 : Int) < (op.size : Int) := by omega
  clear hl
  have HE1 := Lib.hid (Entries9_any ((u : Int) % 8) w)
  have HEN : Hid (EntsP 36 w (entsF ((u : Int) % 8)) = fun e w' => ∃ v, e = .returned v ∧ Acc entR w' w.heap.size 36 v (entsF ((u : Int) % 8)) ∧ Below w.heap.size w w') := rfl
  rw [HEN.out] at HE1
  have HEL : Hid ((entsF ((u : Int) % 8)).length ≤ 256) := entsK_len ((u : Int) % 8) 256
  have HNF := Lib.hid (namF_eq op.data.toList ((u : Int) % 8))
  clear HEN
  generalize hpg : (u : Int) % 8 = pg at *
  generalize entsF pg = L at *
  go_enter Tryz.func8, Tryz.ntmps8
  go_wp2_with fail
  refine HE1.out.mono ?_
  rintro e w2 ⟨v2, rfl, hacc, hb⟩
  obtain ⟨a6, c6, rfl⟩ := hacc.form
  have HX := Lib.hid hacc.slR
  have HB2 := Lib.hid hb
  clear hacc hb HE1
  go_wp2
  go_loopw [5, 17] (fun s5 s17 wx => ∃ j : Nat, j ≤ L.length ∧ s17 = .int .i64 j ∧ Acc entR wx w.heap.size 36 s5 ((L.take j).filter fun e => e.iop == op.data.toList) ∧ (∀ k, s5.ownBlock = some k → w2.heap.size ≤ k) ∧ Below w2.heap.size w2 wx) (fun _ s17 _ => L.length - (intOf s17).toNat)
  case atStart => exact ⟨0, by omega, rfl, Acc.nil _ _ _, fun k h => (by cases h), Below.refl _ _⟩
  case round =>
    obtain ⟨j, hj, rfl, hacc, hrow, hb⟩ := hrel
    have HC := Lib.hid hacc
    have HRW := Lib.hid hrow
    have HB := Lib.hid hb
    have HX2 := Lib.hid (HX.out.below hb)
    clear hacc hrow hb
    obtain ⟨a5, c5, rfl⟩ := HC.out.form
    by_cases hlt : j < L.length
    · obtain ⟨a7, c7, e7, _, g7⟩ := HX2.out.ent
      injection e7 with e8 e9 e10
      clear e9
      subst e8 e10
      obtain ⟨b1, m1, va2, vc2, rfl, hb1, x0, x1, x2, x3, x4, x5, hs1⟩ := g7 j L[j] (List.getElem?_eq_getElem hlt)
      have HFY := Lib.hid (filter_take_yes (f := fun e => e.iop == op.data.toList) hlt)
      have HFN := Lib.hid (filter_take_no (f := fun e => e.iop == op.data.toList) hlt)
      have hfl : ((L.take j).filter fun e => e.iop == op.data.toList).length ≤ 256 := Nat.le_trans (List.length_filter_le _ _) (Nat.le_trans (List.length_take_le' _ _) HEL.out)
      have HIO := Lib.hid (iop_eq L[j].iop op)
      clear g7
      generalize ((L.take j).filter fun e => e.iop == op.data.toList) = F at *
      have HFL := Lib.hid hfl
      clear hfl
      generalize L[j] = x at *
      obtain ⟨p2, o2, i2, l2, s2, f2⟩ := x
      dsimp only at *
      have HA := Lib.hid ((Below.refl wr.heap.size wr).alloc (Nat.le_refl _) (.cells #[.int .i64 p2, .int .u8 o2, .string ⟨i2.toArray⟩, .slice va2 l2.length vc2, .string ⟨s2.toArray⟩, .bool f2] 36))
      cases hq : (i2 == op.data.toList)
      · rw [hq] at HIO
        have hio := HIO.out
        have HF := Lib.hid (HFN.out hq)
        clear HFY HFN hs1 HIO
        generalize (⟨i2.toArray⟩ : ByteArray) = ib at *
        go_wp2
        go_round
        case rel => exact ⟨j + 1, by omega, by go_num, by rw [HF.out]; exact HC.out.stay HA.out, HRW.out, HB.out.trans (HA.out.mono HB.out.size)⟩
        case measure => simp [intOf]; omega
      · rw [hq] at HIO
        have hio := HIO.out
        have HF := Lib.hid (HFY.out hq)
        have HR : Hid (entR.rel (wr.alloc (.cells #[.int .i64 p2, .int .u8 o2, .string ⟨i2.toArray⟩, .slice va2 l2.length vc2, .string ⟨s2.toArray⟩, .bool f2] 36)) (fun k => w.heap.size ≤ k ∧ k < w2.heap.size) [.int .i64 p2, .int .u8 o2, .string ⟨i2.toArray⟩, .slice va2 l2.length vc2, .string ⟨s2.toArray⟩, .bool f2] ⟨p2, o2, i2, l2, s2, f2⟩) := ⟨_, rfl, hs1.alloc _⟩
        have HCC := Lib.hid (HC.out.stay HA.out)
        have HQ : Hid (∀ k, (w.heap.size ≤ k ∧ k < w2.heap.size) → w.heap.size ≤ k ∧ Value.ownBlock (.slice a5 F.length c5) ≠ some k) := fun k hk => ⟨hk.1, fun e => absurd (HRW.out k e) (Nat.not_le.2 hk.2)⟩
        have HLB : Hid ((F.length + 1) * 80 ≤ 140737488355328) := (by have := HFL.out; show _ ≤ _; omega)
        have HLL : Hid (F.length + 1 ≤ 9223372036854775807) := (by have := HFL.out; show _ ≤ _; omega)
        have HSZ : Hid (w.heap.size ≤ (wr.alloc (.cells #[.int .i64 p2, .int .u8 o2, .string ⟨i2.toArray⟩, .slice va2 l2.length vc2, .string ⟨s2.toArray⟩, .bool f2] 36)).heap.size) := Nat.le_trans HB2.out.size (Nat.le_trans HB.out.size HA.out.size)
        clear HFY HFN hs1 HIO
        generalize (⟨i2.toArray⟩ : ByteArray) = ib at *
        go_wp2_with (at_builtin; refine wpList_push_A rfl (.tmp 26) (.tmp 28) 34 rfl w.heap.size 36 80 elE9 _ F ⟨p2, o2, i2, l2, s2, f2⟩ _ (fun k => w.heap.size ≤ k ∧ k < w2.heap.size) rfl (by rw [World.size_alloc]; rfl) HCC.out HR.out HQ.out HLB.out HLL.out HSZ.out ?_; intro a' c' w' hp; have HP := Lib.hid hp; clear hp)
        go_round
        case rel =>
          refine ⟨j + 1, by omega, by go_num, by rw [HF.out]; have := HP.out.1; simpa using this, fun k hk => ?_, HB.out.trans ((HA.out.mono HB.out.size).trans ((Below.refl _ _).grown HP.out.2.1 (Nat.le_trans HB.out.size HA.out.size) (fun k hk => HRW.out k hk)))⟩
          rcases HP.out.2.2 with e | ⟨k2, e, hk2⟩
          · exact HRW.out k (e.symm.trans hk)
          · have hk3 := e.symm.trans hk
            injection hk3 with hk3
            have h1 := HA.out.size
            have h2 := HB.out.size
            omega
        case measure => simp [intOf]; omega
    · obtain rfl : j = L.length := by omega
      rw [List.take_length, ← HNF.out] at HC
      rw [List.take_length, ← HNF.out]
      have HPF : Hid (pagesF [pg] = [pg]) := if_neg (by simp)
      have HFM : Hid ([pg].flatMap (namF op.data.toList) = namF op.data.toList pg) := by show _ = _; simp
      have HPN : Hid ((pagesF [pg]).length ≤ 1000) := (by show _ ≤ _; rw [HPF.out]; simp)
      have HW0 := Lib.hid (HB2.out.trans (HB.out.mono HB2.out.size))
      have HSE := Lib.hid HC.out.slR
      clear HNF HRW HC HB HX HX2
      generalize namF op.data.toList pg = F at *
      go_wp2_with (first
        | (go_at_call 14; refine (HAL.out _ (HT.out.below HW0.out)).mono ?_; rintro e w5 ⟨rfl, hb⟩; have HS5 := Lib.hid (HSE.out.below hb); have HA5 := Lib.hid ((Below.refl w5.heap.size w5).alloc (Nat.le_refl _) (.cells #[.int .i64 pg] 3)); have HB5 := Lib.hid ((HW0.out.trans (hb.mono HW0.out.size)).trans (HA5.out.mono (Nat.le_trans HW0.out.size hb.size))); have HI5 := Lib.hid (slR_one (w := w5) (R := intR) (p := NoB) (cs := [.int .i64 pg]) (x := pg) rfl 3); clear hb)
        | (go_at_call 31; refine (Named_tab_any op _ _ [pg] _ HI5.out HPN.out (HT.out.below HB5.out)).mono ?_; rw [HPF.out, HFM.out]; rintro e w6 ⟨v6, rfl, hacc, hb⟩; obtain ⟨a6, c6, rfl⟩ := hacc.form; have HX6 := Lib.hid hacc.slR; have HS6 := Lib.hid ((HS5.out.below HA5.out).below hb); have HB6 := Lib.hid (HB5.out.trans (hb.mono HB5.out.size)); clear hb hacc)
        | (go_at_call 28; refine (EqEntN_any _ _ _ _ F _ HX6.out HS6.out).mono ?_; rintro e w7 ⟨rfl, hb⟩; have HB7 := Lib.hid (HB6.out.trans (hb.mono HB6.out.size)); clear hb))
      go_ret
      exact ⟨rfl, HB7.out⟩
theorem TableNamed_any (op : ByteArray) (u : Int) (hu : 0 ≤ u ∧ u ≤ 255) (w : World) (hs : op.size ≤ 9223372036854775807) (hT : Spc w) :
    Calls Tryz.prog 8 #[.string op, .int .u8 u] w fun e w' => e = .returned (.bool true) ∧ Below w.heap.size w w' := by
  obtain ⟨j, rfl⟩ := Int.eq_ofNat_of_zero_le hu.1
  exact TableNamed_law op j (by omega) w hs hT
end Go.Proofs.YtlepicdjnbbndaaGreatDoor
