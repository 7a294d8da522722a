/-
  Law of chapter 13, ItemsLists. Conditions: the library's table as its initialiser lays it.
-/
import Derived.Test.YtnbmbcjnncbaiaaGreatDoorJ23
import Derived.Test.YtnbmbcjnncbaiaaGreatDoorJ24
import Derived.Test.YtnbmbcjnncbaiaaGreatDoorJ12
namespace Go.Proofs.YtnbmbcjnncbaiaaGreatDoor
open Go.RowKit Go.Shelf Go.Sort

theorem fewI_args {L : List It} (h : fewF L = true) : ∀ x ∈ L, x.args.length ≤ 1000 := by
  unfold fewF at h
  obtain ⟨h1, _⟩ := Bool.and_eq_true_iff.1 h
  intro x hx
  have := List.all_eq_true.1 h1 x hx
  unfold fewI at this
  have := of_decide_eq_true (Bool.and_eq_true_iff.1 (Bool.and_eq_true_iff.1 this).2).1
  omega
set_option maxHeartbeats 8000000 in
set_option maxRecDepth 100000 in
theorem ItemsLists_law (p : Blocks) (v : Value) (ls : List It) (kd : Int) (w : World) (h : SlR itR w p v ls) (hT : Spc w) :
    Calls Tryz.prog 11 #[v, .int .i64 kd] w fun e w' => e = .returned (.bool true) ∧ RowKit.Below w.heap.size w w' := by
  obtain ⟨a, c, rfl, _, _, _⟩ := h.it
  have HAL := Lib.hid (fun W (hb : RowKit.Below w.heap.size w W) => alive13_any W (hT.below hb))
  have HFW := Lib.hid (Few_any p _ ls w h)
  cases hfw : fewF ls
  · rw [hfw] at HFW
    clear h hT hfw
    go_enter Tryz.func11, Tryz.ntmps11
    go_wp2_with (first
      | (go_at_call 38; refine (HFW.out).mono ?_; rintro e w1 ⟨rfl, hw1⟩; subst w1)
      | (go_at_call 24; refine (HAL.out _ (Below.refl _ _)).mono ?_; rintro e w2 ⟨rfl, hb⟩; have H2 := Lib.hid hb; clear hb))
    go_ret
    exact ⟨rfl, H2.out⟩
  rw [hfw] at HFW
  have hr := fewF_raw hfw
  have hl := (fewI_at hfw).1
  have ha := fewI_args hfw
  have HRL := Lib.hid hr
  have HLN := Lib.hid hl
  have HOF := Lib.hid (Offsets_any p _ ls w h (by omega) (by omega))
  have HCN := Lib.hid (fun W (hb : RowKit.Below w.heap.size w W) => Count_any p kd _ ls W (h.below hb) (by omega))
  have HCD := Lib.hid (fun W (hb : RowKit.Below w.heap.size w W) => Code_any p _ ls W (h.below hb) (by omega) ha)
  have HRW := Lib.hid (fun W (hb : RowKit.Below w.heap.size w W) => Raw_any p _ ls W (h.below hb) (by omega))
  have HR9 := Lib.hid (fun W (hb : RowKit.Below w.heap.size w W) => Raw13_any p _ ls W (h.below hb) (by omega))
  have HH := Lib.hid h.old
  clear h hT hfw hr hl ha
  obtain ⟨RW, hRW⟩ : ∃ R, rawF ls = R := ⟨_, rfl⟩
  rw [hRW] at HRL HRW HR9
  have HRQ := Lib.hid hRW
  clear hRW
  go_enter Tryz.func11, Tryz.ntmps11
  go_wp2_with (first
    | (go_at_call 38; refine (HFW.out).mono ?_; rintro e w0 ⟨rfl, hw0⟩; subst w0)
    | (go_at_call 42; refine (HOF.out).mono ?_; rintro e w1 ⟨v1, rfl, ho1, hb1⟩; obtain ⟨xa, xc, rfl⟩ := ho1.form; have HS1 := Lib.hid (ho1.slR (q := fun _ => True) (fun _ h => h.elim) (fun _ _ => trivial)); have HX1 := Lib.hid (HH.out.below hb1); have HB1 := Lib.hid hb1; rw [offsF_len] at HS1 ⊢; clear ho1 hb1))
  go_loopw [5, 6, 7, 9, 10, 24] (fun cn co at_ _ _ i wr => ∃ k : Nat, k ≤ ls.length ∧ i = .int .i64 k ∧ cn = .int .i64 (cntF kd (ls.take k) : Nat) ∧ at_ = .int .i64 (offF ls k : Nat) ∧ Acc insSR wr 0 27 co (codeF (ls.take k)) ∧ (∀ j, co.ownBlock = some j → w1.heap.size ≤ j) ∧ RowKit.Below w1.heap.size w1 wr) (fun _ _ _ _ _ i _ => ls.length - (intOf i).toNat)
  case atStart => exact ⟨0, Nat.zero_le _, rfl, rfl, rfl, Acc.nil _ _ _, (fun j e => by cases e), Below.refl _ _⟩
  case round =>
    obtain ⟨k, hk, rfl, rfl, rfl, hacc, hown, hb⟩ := hrel
    obtain ⟨oa, oc, rfl⟩ := hacc.form
    have HA := Lib.hid hacc
    have HW := Lib.hid hown
    have HB := Lib.hid hb
    clear hacc hown hb
    by_cases hlt : k < ls.length
    · obtain ⟨a8, c8, e8, _, _, g8⟩ := (HX1.out.below HB.out).it
      injection e8 with e8 e10 e11
      clear e10
      subst e8 e11
      obtain ⟨b1, o1, ra, rc, va, vc, rfl, _, x0, x1, x2, x3, x4, _, hr9⟩ := g8 k ls[k] (List.getElem?_eq_getElem hlt)
      obtain ⟨a7, c7, e7, _, _, g7⟩ := (HS1.out.below HB.out).int
      injection e7 with e7 e10 e11
      clear e10
      subst e7 e11
      obtain ⟨b2, o2, rfl, _, y0⟩ := g7 k (offF ls k : Int) (offsF_at ls hlt)
      have hbb2 : b2 < wr.heap.size := World.block_lt_of_cell? wr _ y0
      have HSU := Lib.hid (offF_succ hlt)
      have HCS := Lib.hid (cntF_succ (kd := kd) hlt)
      have HCL := Lib.hid (cntF_le kd ls k)
      have HOL := Lib.hid (offF_le ls (k + 1))
      have HYS := Lib.hid (fun h => codeF_yes hlt h)
      have HNO := Lib.hid (fun h => codeF_no hlt h)
      have HLE := Lib.hid (codeF_len ls k)
      have HR := Lib.hid hr9
      clear g8 g7 hr9
      obtain ⟨T2, hT2⟩ : ∃ T, codeF (ls.take (k + 1)) = T := ⟨_, rfl⟩
      rw [hT2] at HYS HNO
      have HT2 := Lib.hid hT2
      obtain ⟨C2, hC2⟩ : ∃ C, cntF kd (ls.take (k + 1)) = C := ⟨_, rfl⟩
      rw [hC2] at HCS
      have HC2 := Lib.hid hC2
      obtain ⟨F2, hF2⟩ : ∃ F, offF ls (k + 1) = F := ⟨_, rfl⟩
      rw [hF2] at HSU HOL
      have HF2 := Lib.hid hF2
      clear hT2 hC2 hF2
      generalize ls[k] = x at *
      obtain ⟨k9, R1, op, args, al⟩ := x
      dsimp only at x0 x1 x2 x3 x4 HSU HCS HYS HNO HR
      have HIN : Hid (It.ins ⟨k9, R1, op, args, al⟩ = ⟨⟨op.toArray⟩, args⟩) := Lib.hid rfl
      have HRL2 : Hid (F2 ≤ 6000) := Lib.hid (Nat.le_trans HOL.out (by rw [HRQ.out]; exact HRL.out))
      generalize codeF (ls.take k) = T at *
      generalize cntF kd (ls.take k) = C1 at *
      generalize offF ls k = F1 at *
      generalize (⟨op.toArray⟩ : ByteArray) = O at *
      have hw1 : IntKind.i64.wrap ((F1 : Int) + (R1.length : Int)) = (F1 : Int) + (R1.length : Int) := by have := HSU.out; have := HRL2.out; rw [IntKind.wrap_i64]; omega
      have hw2 : IntKind.i64.wrap ((C1 : Int) + 1) = (C1 : Int) + 1 := by have := HCL.out; have := HLN.out; rw [IntKind.wrap_i64]; omega
      have HE2 : Hid ((F1 : Int) + (R1.length : Int) = (F2 : Nat)) := Lib.hid (by rw [HSU.out]; push_cast; rfl)
      have HBN := Lib.hid ((Below.refl wr.heap.size wr).alloc (Nat.le_refl _) (.cells #[.int .i64 k9, .slice ra R1.length rc, .string O, .slice va args.length vc, .bool al] 29))
      have HK3 := Lib.hid (Blk.new wr 29 #[.int .i64 k9, .slice ra R1.length rc, .string O, .slice va args.length vc, .bool al])
      have HA3 := Lib.hid (HA.out.stay HBN.out)
      have HB3 := Lib.hid (HB.out.trans (HBN.out.mono HB.out.size))
      have HR3 := Lib.hid (HR.out.below HBN.out)
      have y3 := (HBN.out.cell (p := ⟨b2, o2 + k, none⟩) hbb2).trans y0
      go_upto_region 12 with fail
      generalize wr.alloc (.cells #[.int .i64 k9, .slice ra R1.length rc, .string O, .slice va args.length vc, .bool al] 29) = W3 at *
      generalize wr.heap.size = tb at *
      obtain ⟨⟨c0, c1, c2, c3, c4⟩, _⟩ := HK3.out.five
      have HQ : Hid (∀ j, (p j ∧ j < w.heap.size) → 0 ≤ j ∧ Value.ownBlock (.slice oa T.length oc) ≠ some j) := Lib.hid (fun j hj => ⟨Nat.zero_le _, fun e => by have := HW.out j e; have := HB1.out.size; have := hj.2; omega⟩)
      clear x0 x1 x2 x3 x4 y0 hbb2 HBN HA HB HR
      by_cases hkd : k9 = kd
      · by_cases hk1 : k9 = 1
        · have HC3 : Hid (C2 = C1 + 1) := Lib.hid (by rw [HCS.out, if_pos hkd])
          have HE := Lib.hid (HYS.out hk1)
          rw [HIN.out] at HE
          go_wp2_with (at_builtin; refine wpList_push_A rfl (.tmp 49) (.tmp 52) 55 rfl 0 27 40 elInsI _ T ⟨O, args⟩ _ (fun j => p j ∧ j < w.heap.size) rfl rfl HA3.out ⟨_, rfl, HR3.out⟩ HQ.out (by have := HLE.out; have := HLN.out; omega) (by have := HLE.out; have := HLN.out; omega) (Nat.zero_le _) ?_; intro a5 c5 w6 hp; have HP := Lib.hid hp; clear hp)
          go_roundw
          case rel => exact ⟨k + 1, by omega, by go_num, by rw [HC2.out, HC3.out]; push_cast; rfl, by rw [HF2.out, HE2.out], by rw [HT2.out, HE.out]; exact HP.out.1, fun j e => by
            rcases HP.out.2.2 with e2 | ⟨j2, e2, hj2⟩
            · exact HW.out j (e2.symm.trans e)
            · have := Option.some.inj (e2.symm.trans e); have := HB3.out.size; omega, HB3.out.grown HP.out.2.1 HB3.out.size (fun j e => HW.out j e)⟩
          case measure => simp [intOf]; omega
        · have HC3 : Hid (C2 = C1 + 1) := Lib.hid (by rw [HCS.out, if_pos hkd])
          have HE := Lib.hid (HNO.out hk1)
          go_wp2
          go_roundw
          case rel => exact ⟨k + 1, by omega, by go_num, by rw [HC2.out, HC3.out]; push_cast; rfl, by rw [HF2.out, HE2.out], by rw [HT2.out, HE.out]; exact HA3.out, HW.out, HB3.out⟩
          case measure => simp [intOf]; omega
      · by_cases hk1 : k9 = 1
        · have HC3 : Hid (C2 = C1) := Lib.hid (by rw [HCS.out, if_neg hkd, Nat.add_zero])
          have HE := Lib.hid (HYS.out hk1)
          rw [HIN.out] at HE
          go_wp2_with (at_builtin; refine wpList_push_A rfl (.tmp 49) (.tmp 52) 55 rfl 0 27 40 elInsI _ T ⟨O, args⟩ _ (fun j => p j ∧ j < w.heap.size) rfl rfl HA3.out ⟨_, rfl, HR3.out⟩ HQ.out (by have := HLE.out; have := HLN.out; omega) (by have := HLE.out; have := HLN.out; omega) (Nat.zero_le _) ?_; intro a5 c5 w6 hp; have HP := Lib.hid hp; clear hp)
          go_roundw
          case rel => exact ⟨k + 1, by omega, by go_num, by rw [HC2.out, HC3.out], by rw [HF2.out, HE2.out], by rw [HT2.out, HE.out]; exact HP.out.1, fun j e => by
            rcases HP.out.2.2 with e2 | ⟨j2, e2, hj2⟩
            · exact HW.out j (e2.symm.trans e)
            · have := Option.some.inj (e2.symm.trans e); have := HB3.out.size; omega, HB3.out.grown HP.out.2.1 HB3.out.size (fun j e => HW.out j e)⟩
          case measure => simp [intOf]; omega
        · have HC3 : Hid (C2 = C1) := Lib.hid (by rw [HCS.out, if_neg hkd, Nat.add_zero])
          have HE := Lib.hid (HNO.out hk1)
          go_wp2
          go_roundw
          case rel => exact ⟨k + 1, by omega, by go_num, by rw [HC2.out, HC3.out], by rw [HF2.out, HE2.out], by rw [HT2.out, HE.out]; exact HA3.out, HW.out, HB3.out⟩
          case measure => simp [intOf]; omega
    · have HE1 : Hid (cntF kd (ls.take k) = cntF kd ls ∧ codeF (ls.take k) = codeF ls) := Lib.hid (by rw [List.take_of_length_le (by omega)]; exact ⟨rfl, rfl⟩)
      have HB7 := Lib.hid (HB1.out.trans (HB.out.mono HB1.out.size))
      have HC7 := Lib.hid (HA.out.slR)
      rw [HE1.out.2] at HC7 ⊢
      rw [HE1.out.1]
      generalize cntF kd ls = CN at *
      generalize codeF ls = CD at *
      clear HA HW HB
      go_wp2_with (first
        | (go_at_call 24; refine (HAL.out _ HB7.out).mono ?_; rintro e w8 ⟨rfl, hb⟩; have HB8 := Lib.hid (HB7.out.trans (hb.mono HB7.out.size)); have HC8 := Lib.hid (HC7.out.below hb); clear hb)
        | (go_at_call 43; refine (HCN.out _ HB8.out).mono ?_; rintro e w9 ⟨rfl, hb⟩; have HB9 := Lib.hid (HB8.out.trans (hb.mono HB8.out.size)); have HC9 := Lib.hid (HC8.out.below hb); clear hb)
        | (go_at_call 45; refine (HCD.out _ HB9.out).mono ?_; rintro e w10 ⟨⟨v10, rfl, ha⟩, hb⟩; obtain ⟨ta, tc, rfl⟩ := ha.form; have HD10 := Lib.hid ha.slR; have HB10 := Lib.hid (HB9.out.trans (hb.mono HB9.out.size)); have HC10 := Lib.hid (HC9.out.below hb); clear ha hb)
        | (go_at_call 44; refine (EqualIns_any _ _ _ _ CD _ HD10.out HC10.out).mono ?_; rintro e w11 ⟨rfl, hb⟩; have HB11 := Lib.hid (HB10.out.trans (hb.mono HB10.out.size)); clear hb)
        | (go_at_call 36; refine (HRW.out _ HB11.out).mono ?_; rintro e w12 ⟨v12, rfl, ho, hb⟩; obtain ⟨ya, yc, rfl⟩ := ho.form; have HO12 := Lib.hid (ho.slR (q := fun _ => True) (fun _ h => h.elim) (fun _ _ => trivial)); have HB12 := Lib.hid (HB11.out.trans (hb.mono HB11.out.size)); clear ho hb)
        | (go_at_call 46; refine (HR9.out _ HB12.out).mono ?_; rintro e w13 ⟨v13, rfl, ho, hb⟩; obtain ⟨za, zc, rfl⟩ := ho.form; have HO13 := Lib.hid (ho.slR (q := fun _ => True) (fun _ h => h.elim) (fun _ _ => trivial)); have HP13 := Lib.hid (HO12.out.below hb); have HB13 := Lib.hid (HB12.out.trans (hb.mono HB12.out.size)); clear ho hb)
        | (go_at_call 35; refine (EqB_any _ _ _ _ RW _ HP13.out HO13.out).mono ?_; rintro e w14 ⟨rfl, hb⟩; have HB14 := Lib.hid (HB13.out.trans (hb.mono HB13.out.size)); clear hb))
      go_ret
      exact ⟨rfl, HB14.out⟩
end Go.Proofs.YtnbmbcjnncbaiaaGreatDoor
