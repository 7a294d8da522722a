/-
  The law TableAliases, walked. Conditions: the library's table as its initialiser lays it.
-/
import Derived.Test.YtlepicdjnbbndaaGreatDoorU10
namespace Go.Proofs.YtlepicdjnbbndaaGreatDoor
open Go.RowKit Go.Shelf Go.Sort

theorem rem7' (u : Nat) : (u : Int).tmod 7 = (u : Int) % 7 := Int.tmod_eq_emod_of_nonneg (by omega)
theorem any_take_succ {α : Type} (f : α → Bool) (L : List α) (k : Nat) (h : k < L.length) : (L.take (k + 1)).any f = ((L.take k).any f || f L[k]) := by
  rw [List.take_succ_eq_append_getElem h, List.any_append]; simp
set_option maxHeartbeats 8000000 in
set_option maxRecDepth 100000 in
theorem Aliases_law (u op : Nat) (hu : u < 256) (hop : op < 256) (w : World) (hT : Spc w) :
    Calls Tryz.prog 4 #[.int .u8 u, .int .u8 op] w fun e w' => e = .returned (.bool true) ∧ Below w.heap.size w w' := by
  have HA1 := Lib.hid (fun W hT => At_any ((u : Int) % 7) op hop W hT)
  have HAL := Lib.hid (fun W hT => alive9_any W hT)
  have HE9 := Lib.hid (fun p W => Entries9_any p W)
  have HK := Lib.hid (atF_kind ((u : Int) % 7) op)
  have HLW := Lib.hid (fun e => alias_law (p := (u : Int) % 7) (by omega) (by omega) hop (e := e))
  have r7 := rem7' u
  have hcv : IntKind.i64.wrap (u : Int) = u := IntWalk.i64_in _ (by omega)
  have HT := Lib.hid hT
  clear hT
  generalize atF ((u : Int) % 7) op = r at *
  generalize hpg : (u : Int) % 7 = pg at *
  clear hpg
  obtain ⟨x, k⟩ := r
  dsimp only at *
  rcases x with _ | x
  · have hk1 : ¬ k = 1 := by rcases HK.out.2 rfl with h | h | h <;> omega
    clear HLW HK
    go_enter Tryz.func4, Tryz.ntmps4
    go_wp2_with fail
    refine (HA1.out _ HT.out).mono ?_
    rintro e w1 ⟨he, hb1⟩
    subst he
    have H1 := Lib.hid (((Fr.start w).next hb1).new 27 #[.int .i64 0, .int .u8 0, .string ⟨#[]⟩, .slice none 0 0, .string ⟨#[]⟩, .bool false])
    clear hb1
    unfold ent0
    go_wp2_with (go_at_call 14; refine (HAL.out _ (HT.out.below H1.out.below)).mono ?_; rintro e w4 ⟨rfl, hb⟩; have H4 := Lib.hid (H1.out.next hb); clear hb)
    go_ret
    exact ⟨rfl, H4.out.below⟩
  · obtain rfl : k = 1 := HK.out.1 _ rfl
    have HLX := Lib.hid (HLW.out x rfl)
    obtain ⟨p1, o1, i1, l1, s1, f1⟩ := x
    dsimp only at *
    clear HLW HK
    cases f1
    · clear HLX
      go_enter Tryz.func4, Tryz.ntmps4
      go_wp2_with fail
      refine (HA1.out _ HT.out).mono ?_
      rintro e w1 ⟨⟨v1, rfl, ho1⟩, hb1⟩
      obtain ⟨va1, vc1, rfl⟩ := ho1.form
      have H1 := Lib.hid (((Fr.start w).next hb1).new 27 #[.int .i64 p1, .int .u8 o1, .string ⟨i1.toArray⟩, .slice va1 l1.length vc1, .string ⟨s1.toArray⟩, .bool false])
      clear hb1 ho1
      unfold entVal
      dsimp only
      go_wp2_with (go_at_call 14; refine (HAL.out _ (HT.out.below H1.out.below)).mono ?_; rintro e w4 ⟨rfl, hb⟩; have H4 := Lib.hid (H1.out.next hb); clear hb)
      go_ret
      exact ⟨rfl, H4.out.below⟩
    have HLY := Lib.hid (HLX.out rfl)
    clear HLX
    go_enter Tryz.func4, Tryz.ntmps4
    go_wp2_with fail
    refine (HA1.out _ HT.out).mono ?_
    rintro e w1 ⟨⟨v1, rfl, ho1⟩, hb1⟩
    obtain ⟨va1, vc1, rfl⟩ := ho1.form
    have H1 := Lib.hid (((Fr.start w).next hb1).new 27 #[.int .i64 p1, .int .u8 o1, .string ⟨i1.toArray⟩, .slice va1 l1.length vc1, .string ⟨s1.toArray⟩, .bool true])
    have H2 := Lib.hid (H1.out.new' 3 #[.int .i64 0, .int .i64 2, .int .i64 pg] (b := w1.heap.size + 1) (by rw [World.size_alloc]))
    have HS2 := Lib.hid ((ho1.slR.alloc (.cells #[.int .i64 p1, .int .u8 o1, .string ⟨i1.toArray⟩, .slice va1 l1.length vc1, .string ⟨s1.toArray⟩, .bool true] 27)).alloc (.cells #[.int .i64 0, .int .i64 2, .int .i64 pg] 3))
    clear hb1 ho1 HA1
    unfold entVal
    dsimp only
    go_wp2
    generalize ((w1.alloc (.cells #[.int .i64 p1, .int .u8 o1, .string ⟨i1.toArray⟩, .slice va1 l1.length vc1, .string ⟨s1.toArray⟩, .bool true] 27)).alloc (.cells #[.int .i64 0, .int .i64 2, .int .i64 pg] 3)) = W2 at *
    have HG : Hid (∀ x, goodA ⟨p1, o1, i1, l1, s1, true⟩ x = (!x.al && insEq ⟨⟨x.iop.toArray⟩, x.args⟩ ⟨⟨i1.toArray⟩, l1⟩)) := fun _ => rfl
    generalize goodA ⟨p1, o1, i1, l1, s1, true⟩ = G at *
    obtain ⟨P3, hP3⟩ : ∃ l : List Int, l = [0, 2, pg] := ⟨_, rfl⟩
    rw [← hP3] at HLY
    have HP3 := Lib.hid hP3
    clear hP3
    go_loopw [32] (fun s32 wx => ∃ k : Nat, k ≤ 3 ∧ s32 = .int .i64 k ∧ (P3.take k).any (fun q => (entsF q).any G) = false ∧ Below W2.heap.size W2 wx) (fun s32 _ => 3 - (intOf s32).toNat)
    case atStart => exact ⟨0, by omega, rfl, rfl, Below.refl _ _⟩
    case round =>
      obtain ⟨k, hk, rfl, hno, hb⟩ := hrel
      have HNO := Lib.hid hno
      have HB := Lib.hid hb
      have HF := Lib.hid (H2.out.next hb)
      have HS := Lib.hid (HS2.out.below hb)
      clear hno hb
      by_cases hlt : k < 3
      · obtain ⟨q, hq1, hq2⟩ : ∃ q, P3[k]? = some q ∧ wr.cell? ⟨w1.heap.size + 1, k, none⟩ = some (.int .i64 q) := by
          have hc := fun i => (HF.out.blk 0 rfl).cell i
          rw [HP3.out]
          have : k = 0 ∨ k = 1 ∨ k = 2 := by omega
          rcases this with rfl | rfl | rfl
          · exact ⟨0, rfl, hc 0⟩
          · exact ⟨2, rfl, hc 1⟩
          · exact ⟨pg, rfl, hc 2⟩
        have hstep : (P3.take (k + 1)).any (fun q => (entsF q).any G) = ((P3.take k).any (fun q => (entsF q).any G) || (entsF q).any G) := by
          obtain ⟨hk3, rfl⟩ := List.getElem?_eq_some_iff.1 hq1
          exact any_take_succ _ _ k hk3
        have HST := Lib.hid hstep
        have HE1 := Lib.hid (HE9.out q wr)
        have HEN : Hid (EntsP 36 wr (entsF q) = fun e w' => ∃ v, e = .returned v ∧ Acc entR w' wr.heap.size 36 v (entsF q) ∧ Below wr.heap.size wr w') := rfl
        rw [HEN.out] at HE1
        clear HEN hstep hq1
        generalize entsF q = L at *
        go_wp2_with fail
        refine HE1.out.mono ?_
        rintro e w4 ⟨v2, rfl, hacc, hb⟩
        obtain ⟨a6, c6, rfl⟩ := hacc.form
        have HX := Lib.hid hacc.slR
        have HF4 := Lib.hid (HF.out.next hb)
        have HS4 := Lib.hid (HS.out.below hb)
        have HB4 := Lib.hid (HB.out.trans (hb.mono HB.out.size))
        clear hacc hb HE1
        have hll := HX.out.len_le
        go_wp2
        go_loopw [39] (fun s39 wx => ∃ j : Nat, j ≤ L.length ∧ s39 = .int .i64 j ∧ (L.take j).any G = false ∧ Below w4.heap.size w4 wx) (fun s39 _ => L.length - (intOf s39).toNat)
        case atStart => exact ⟨0, by omega, rfl, rfl, Below.refl _ _⟩
        case round =>
          clear hq2
          obtain ⟨j, hj, rfl, hno, hb⟩ := hrel
          have HNJ := Lib.hid hno
          have HF5 := Lib.hid (HF4.out.next hb)
          have HS5 := Lib.hid (HS4.out.below hb)
          have HX5 := Lib.hid (HX.out.below hb)
          have HB5 := Lib.hid hb
          clear hno hb
          by_cases hlt2 : j < L.length
          · obtain ⟨a7, c7, e7, _, g7⟩ := HX5.out.ent
            injection e7 with e8 e9 e10
            clear e9
            subst e8 e10
            obtain ⟨b1, m1, va2, vc2, rfl, hb1, x0, x1, x2, x3, x4, x5, hs1⟩ := g7 j L[j] (List.getElem?_eq_getElem hlt2)
            have HSJ := Lib.hid (any_take_succ G L j hlt2)
            have HGJ := Lib.hid (HG.out L[j])
            clear g7
            generalize L[j] = x at *
            obtain ⟨p2, o2, i2, l2, s2, f2⟩ := x
            dsimp only at *
            have HA := Lib.hid ((Below.refl wr.heap.size wr).alloc (Nat.le_refl _) (.cells #[.int .i64 p2, .int .u8 o2, .string ⟨i2.toArray⟩, .slice va2 l2.length vc2, .string ⟨s2.toArray⟩, .bool f2] 36))
            have HT2 := Lib.hid (hs1.below HA.out)
            have HT1 := Lib.hid (HS5.out.below HA.out)
            have HF6 := Lib.hid (HF5.out.next HA.out)
            have y2 := (HF6.out.blk 1 rfl).cell 2
            have y3 := (HF6.out.blk 1 rfl).cell 3
            have HSM := Lib.hid (ref07Same_any _ _ ⟨⟨i2.toArray⟩, l2⟩ ⟨⟨i1.toArray⟩, l1⟩ (.slice va2 l2.length vc2) (.slice va1 l1.length vc1) _ HT2.out HT1.out)
            dsimp only at HSM
            clear hs1
            cases f2
            · generalize insEq ⟨⟨i2.toArray⟩, l2⟩ ⟨⟨i1.toArray⟩, l1⟩ = r at *
              cases r
              · go_wp2_with (go_at_call 15; refine HSM.out.mono ?_; rintro e w5 ⟨rfl, hb⟩; have HB6 := Lib.hid (HA.out.trans (hb.mono HA.out.size)); clear hb)
                go_round
                case rel => exact ⟨j + 1, by omega, by go_num, by rw [HSJ.out, HNJ.out, HGJ.out]; rfl, HB5.out.trans (HB6.out.mono HB5.out.size)⟩
                case measure => simp [intOf]; omega
              · go_wp2_with (first
                  | (go_at_call 15; refine HSM.out.mono ?_; rintro e w5 ⟨rfl, hb⟩; have HF7 := Lib.hid (HF6.out.next hb); clear hb)
                  | (go_at_call 14; refine (HAL.out _ (HT.out.below HF7.out.below)).mono ?_; rintro e w6 ⟨rfl, hb⟩; have HF8 := Lib.hid (HF7.out.next hb); clear hb))
                go_ret
                exact ⟨rfl, HF8.out.below⟩
            · go_wp2
              go_round
              case rel => exact ⟨j + 1, by omega, by go_num, by rw [HSJ.out, HNJ.out, HGJ.out]; rfl, HB5.out.trans (HA.out.mono HB5.out.size)⟩
              case measure => simp [intOf]; omega
          · obtain rfl : j = L.length := by omega
            rw [List.take_length] at HNJ
            go_wp2
            go_round
            case rel => exact ⟨k + 1, by omega, by go_num, by rw [HST.out, HNO.out, HNJ.out]; rfl, HB4.out.trans (HB5.out.mono HB4.out.size)⟩
            case measure => simp [intOf]; omega
      · exfalso
        obtain rfl : k = 3 := by omega
        have h1 := HNO.out
        rw [List.take_of_length_le (by rw [HP3.out]; simp), HLY.out] at h1
        cases h1
theorem Aliases_any (u op : Int) (hu : 0 ≤ u ∧ u ≤ 255) (hop : 0 ≤ op ∧ op ≤ 255) (w : World) (hT : Spc w) :
    Calls Tryz.prog 4 #[.int .u8 u, .int .u8 op] w fun e w' => e = .returned (.bool true) ∧ Below w.heap.size w w' := by
  obtain ⟨k, rfl⟩ := Int.eq_ofNat_of_zero_le hop.1
  obtain ⟨j, rfl⟩ := Int.eq_ofNat_of_zero_le hu.1
  exact Aliases_law j k (by omega) (by omega) w hT
end Go.Proofs.YtlepicdjnbbndaaGreatDoor
