/-
  breadboardlaw09.TableAt, walked. Conditions: the library's table as its initialiser lays it.
-/
import Derived.Test.YtlepicdjnbbndaaGreatDoorU5
import Derived.Lib.QuietBelow
namespace Go.Proofs.YtlepicdjnbbndaaGreatDoor
open Go.RowKit Go.Shelf Go.Sort

theorem same9_refl (p o : Int) (s : ByteArray) (l : List Opd) (e : ByteArray) (a : Bool) : same9 p o s l e a p o s l e a = true := by
  unfold same9; simp [insEq]
set_option maxHeartbeats 8000000 in
set_option maxRecDepth 100000 in
theorem TableAt_law (pg : Int) (hpg : -128 ≤ pg ∧ pg ≤ 127) (op : Nat) (hop : op < 256) (w : World) (hT : Spc w) :
    Calls Tryz.prog 5 #[.int .i8 pg, .int .u8 op] w fun e w' => e = .returned (.bool true) ∧ Below w.heap.size w w' := by
  have hcv : IntKind.i64.wrap pg = pg := IntWalk.i64_in _ (by omega)
  have HA1 := Lib.hid (fun W hT => At_any pg op hop W hT)
  have HA2 := Lib.hid (fun W => AtRef_any pg op hop W)
  have HAL := Lib.hid (fun W hT => alive9_any W hT)
  have HK := Lib.hid (atF_kind pg op)
  have HOK := Lib.hid (fun x => okX_all (p := pg) hop (x := x))
  have HT := Lib.hid hT
  clear hT hpg
  generalize atF pg op = r at *
  obtain ⟨x, k⟩ := r
  dsimp only at *
  rcases x with _ | x
  · have hk1 : ¬ k = 1 := by rcases HK.out.2 rfl with h | h | h <;> omega
    have HSM := Lib.hid (fun W => Same9_any 0 0 0 0 ⟨#[]⟩ ⟨#[]⟩ ⟨#[]⟩ ⟨#[]⟩ [] [] false false NoB NoB _ _ W (SlR.nil _ _ _) (SlR.nil _ _ _))
    rw [same9_refl] at HSM
    clear HK HOK
    go_enter Tryz.func5, Tryz.ntmps5
    go_wp2_with fail
    refine (HA1.out _ HT.out).mono ?_
    rintro e w1 ⟨he, hb1⟩
    subst he
    have H1 := Lib.hid (((Fr.start w).next hb1).new 27 #[.int .i64 0, .int .u8 0, .string ⟨#[]⟩, .slice none 0 0, .string ⟨#[]⟩, .bool false])
    clear hb1
    unfold ent0
    go_wp2_with fail
    refine (HA2.out _).mono ?_
    rintro e w2 ⟨he, hb2⟩
    subst he
    have H2 := Lib.hid ((H1.out.next hb2).new 36 #[.int .i64 0, .int .u8 0, .string ⟨#[]⟩, .slice none 0 0, .string ⟨#[]⟩, .bool false])
    have hl := ((H1.out.next hb2).blk 0 rfl).lt
    clear hb2
    unfold ent0
    have a0 := (H2.out.blk 1 rfl).cell 0
    have a1 := (H2.out.blk 1 rfl).cell 1
    have a2 := (H2.out.blk 1 rfl).cell 2
    have a3 := (H2.out.blk 1 rfl).cell 3
    have a4 := (H2.out.blk 1 rfl).cell 4
    have a5 := (H2.out.blk 1 rfl).cell 5
    go_wp2_with (first
      | (go_at_call 18; refine (HSM.out _).mono ?_; rintro e w3 ⟨rfl, hb⟩; have H3 := Lib.hid (H2.out.next hb); clear hb)
      | (go_at_call 14; refine (HAL.out _ (HT.out.below H3.out.below)).mono ?_; rintro e w4 ⟨rfl, hb⟩; have H4 := Lib.hid (H3.out.next hb); clear hb))
    go_ret
    exact ⟨rfl, H4.out.below⟩
  · obtain rfl : k = 1 := HK.out.1 _ rfl
    have hok := HOK.out x rfl
    obtain ⟨p1, o1, i1, l1, s1, f1⟩ := x
    simp only [okX, Bool.and_eq_true, decide_eq_true_eq, beq_iff_eq] at hok
    obtain ⟨g1, g2, g3, g4, g5, g6, g7, g8⟩ := hok
    have HSM := Lib.hid (fun p q v1 v2 W h1 h2 => Same9_any p1 o1 p1 o1 ⟨i1.toArray⟩ ⟨i1.toArray⟩ ⟨s1.toArray⟩ ⟨s1.toArray⟩ l1 l1 f1 f1 p q v1 v2 W h1 h2)
    rw [same9_refl] at HSM
    have HZ := Lib.hid (fun W va vc => Size_any ⟨p1, o1, i1, l1, s1, f1⟩ (.slice va l1.length vc) W ⟨_, _, _, rfl⟩ g4 g5)
    have hz9 := fun W va vc => Size9_any p1 o1 ⟨i1.toArray⟩ ⟨s1.toArray⟩ f1 va l1.length vc W (by show s1.toArray.size ≤ _; rw [List.size_toArray]; exact g4)
    have HZ9 := Lib.hid hz9
    have HD := Lib.hid (fun p v W h => Doc_any p1 o1 ⟨i1.toArray⟩ ⟨s1.toArray⟩ f1 l1 p v W h)
    have HD9 := Lib.hid (fun p v W h => Doc9_any p1 o1 ⟨i1.toArray⟩ ⟨s1.toArray⟩ f1 l1 p v W h)
    have HC := Lib.hid (fun p v W h hT => check_any p ⟨⟨i1.toArray⟩, l1⟩ v W h hT (by show i1.toArray.size ≤ _; rw [List.size_toArray]; exact Nat.le_trans g6 (by decide)))
    have hzz : ((prefF p1).length : Int) + 1 + (s1.length : Int) + (Lib.countByte s1 119 : Int) = sizeF ⟨p1, o1, i1, l1, s1, f1⟩ := by unfold sizeF; dsimp only; omega
    have hz2 : ((prefF p1).length : Int) + 1 + lenX (⟨s1.toArray⟩ : ByteArray).data.toList = sizeF ⟨p1, o1, i1, l1, s1, f1⟩ := rfl
    unfold entVal at HZ
    dsimp only at HZ HC
    rw [hzz] at HZ
    rw [hz2] at HZ9
    rw [g7] at HD
    rw [g8] at HC
    generalize sizeF ⟨p1, o1, i1, l1, s1, f1⟩ = n at *
    generalize doc9 p1 ⟨i1.toArray⟩ l1 f1 = d at *
    clear HK HOK g3 g4 g5 g6 g7 g8 hzz hz2 hz9
    go_enter Tryz.func5, Tryz.ntmps5
    go_wp2_with fail
    refine (HA1.out _ HT.out).mono ?_
    rintro e w1 ⟨⟨v1, rfl, ho1⟩, hb1⟩
    obtain ⟨va1, vc1, rfl⟩ := ho1.form
    have H1 := Lib.hid (((Fr.start w).next hb1).new 27 #[.int .i64 p1, .int .u8 o1, .string ⟨i1.toArray⟩, .slice va1 l1.length vc1, .string ⟨s1.toArray⟩, .bool f1])
    have HS1 := Lib.hid (ho1.slR.alloc (.cells #[.int .i64 p1, .int .u8 o1, .string ⟨i1.toArray⟩, .slice va1 l1.length vc1, .string ⟨s1.toArray⟩, .bool f1] 27))
    clear hb1 ho1
    unfold entVal
    dsimp only
    go_wp2_with fail
    refine (HA2.out _).mono ?_
    rintro e w2 ⟨⟨v2, rfl, ho2⟩, hb2⟩
    obtain ⟨va2, vc2, rfl⟩ := ho2.form
    have H2 := Lib.hid ((H1.out.next hb2).new 36 #[.int .i64 p1, .int .u8 o1, .string ⟨i1.toArray⟩, .slice va2 l1.length vc2, .string ⟨s1.toArray⟩, .bool f1])
    have HS2 := Lib.hid (ho2.slR.alloc (.cells #[.int .i64 p1, .int .u8 o1, .string ⟨i1.toArray⟩, .slice va2 l1.length vc2, .string ⟨s1.toArray⟩, .bool f1] 36))
    have HS12 := Lib.hid ((HS1.out.below hb2).alloc (.cells #[.int .i64 p1, .int .u8 o1, .string ⟨i1.toArray⟩, .slice va2 l1.length vc2, .string ⟨s1.toArray⟩, .bool f1] 36))
    have hl := ((H1.out.next hb2).blk 0 rfl).lt
    clear hb2 ho2 HS1
    unfold entVal
    dsimp only
    have a0 := (H2.out.blk 1 rfl).cell 0
    have a1 := (H2.out.blk 1 rfl).cell 1
    have a2 := (H2.out.blk 1 rfl).cell 2
    have a3 := (H2.out.blk 1 rfl).cell 3
    have a4 := (H2.out.blk 1 rfl).cell 4
    have a5 := (H2.out.blk 1 rfl).cell 5
    go_upto_region 8 with (first
      | (go_at_call 18; refine (HSM.out _ _ _ _ _ HS12.out HS2.out).mono ?_; rintro e w3 ⟨rfl, hb⟩; have H3 := Lib.hid (H2.out.next hb); have HS3 := Lib.hid (HS2.out.below hb); have HS13 := Lib.hid (HS12.out.below hb); have c0 := (H3.out.blk 1 rfl).cell 0; have c1 := (H3.out.blk 1 rfl).cell 1; have c2 := (H3.out.blk 1 rfl).cell 2; have c3 := (H3.out.blk 1 rfl).cell 3; have c4 := (H3.out.blk 1 rfl).cell 4; have c5 := (H3.out.blk 1 rfl).cell 5; clear hb)
      | (go_at_call 19; refine (HZ.out _ _ _).mono ?_; rintro e w4 ⟨rfl, hb⟩; have H4 := Lib.hid (H3.out.next hb); have HS4 := Lib.hid (HS3.out.below hb); have HS14 := Lib.hid (HS13.out.below hb); clear hb))
    have HB4 : Hid (∀ d os, Below w4.heap.size w4 (grow (redrawn w4 d) os)) := fun d os => below_regrown w4 d os
    have E0 : ∀ d os, (grow (redrawn w4 d) os).cell? ⟨w1.heap.size, 0, none⟩ = some (.int .i64 p1) := fun d os => cell_regrown ((H4.out.blk 1 rfl).cell 0) d os
    have E1 : ∀ d os, (grow (redrawn w4 d) os).cell? ⟨w1.heap.size, 1, none⟩ = some (.int .u8 o1) := fun d os => cell_regrown ((H4.out.blk 1 rfl).cell 1) d os
    have E2 : ∀ d os, (grow (redrawn w4 d) os).cell? ⟨w1.heap.size, 2, none⟩ = some (.string ⟨i1.toArray⟩) := fun d os => cell_regrown ((H4.out.blk 1 rfl).cell 2) d os
    have E3 : ∀ d os, (grow (redrawn w4 d) os).cell? ⟨w1.heap.size, 3, none⟩ = some (.slice va1 l1.length vc1) := fun d os => cell_regrown ((H4.out.blk 1 rfl).cell 3) d os
    have E4 : ∀ d os, (grow (redrawn w4 d) os).cell? ⟨w1.heap.size, 4, none⟩ = some (.string ⟨s1.toArray⟩) := fun d os => cell_regrown ((H4.out.blk 1 rfl).cell 4) d os
    have E5 : ∀ d os, (grow (redrawn w4 d) os).cell? ⟨w1.heap.size, 5, none⟩ = some (.bool f1) := fun d os => cell_regrown ((H4.out.blk 1 rfl).cell 5) d os
    have F0 : ∀ d os, (grow (redrawn w4 d) os).cell? ⟨w2.heap.size, 0, none⟩ = some (.int .i64 p1) := fun d os => cell_regrown ((H4.out.blk 0 rfl).cell 0) d os
    have F1 : ∀ d os, (grow (redrawn w4 d) os).cell? ⟨w2.heap.size, 1, none⟩ = some (.int .u8 o1) := fun d os => cell_regrown ((H4.out.blk 0 rfl).cell 1) d os
    have F2 : ∀ d os, (grow (redrawn w4 d) os).cell? ⟨w2.heap.size, 2, none⟩ = some (.string ⟨i1.toArray⟩) := fun d os => cell_regrown ((H4.out.blk 0 rfl).cell 2) d os
    have F3 : ∀ d os, (grow (redrawn w4 d) os).cell? ⟨w2.heap.size, 3, none⟩ = some (.slice va2 l1.length vc2) := fun d os => cell_regrown ((H4.out.blk 0 rfl).cell 3) d os
    have F4 : ∀ d os, (grow (redrawn w4 d) os).cell? ⟨w2.heap.size, 4, none⟩ = some (.string ⟨s1.toArray⟩) := fun d os => cell_regrown ((H4.out.blk 0 rfl).cell 4) d os
    have F5 : ∀ d os, (grow (redrawn w4 d) os).cell? ⟨w2.heap.size, 5, none⟩ = some (.bool f1) := fun d os => cell_regrown ((H4.out.blk 0 rfl).cell 5) d os
    have KAL := Lib.hid (fun d os => HAL.out _ (HT.out.below (H4.out.next (HB4.out d os)).below))
    have KZ9 := Lib.hid (fun d os => HZ9.out (grow (redrawn w4 d) os) va2 vc2)
    have KD := Lib.hid (fun d os => HD.out _ _ _ (HS14.out.below (HB4.out d os)))
    have KD9 := Lib.hid (fun d os => HD9.out _ _ _ (HS4.out.below (HB4.out d os)))
    have KC := Lib.hid (fun d os => HC.out _ _ _ (HS14.out.below (HB4.out d os)) (HT.out.below (H4.out.next (HB4.out d os)).below))
    have hn : n = 1 ∨ n = 2 ∨ n = 3 ∨ n = 4 := by omega
    clear HA1 HA2 HAL HSM HZ HZ9 HD HD9 HC a0 a1 a2 a3 a4 a5 c0 c1 c2 c3 c4 c5 H1 H2 H3 HS2 HS12 HS3 HS13 g1 g2
    rcases hn with rfl | rfl | rfl | rfl
    all_goals cases d
    all_goals
      refine wp_region_quiet_below (by kernel_rfl) (by kernel_rfl) ?_
      repeat (go_big_quiet_step (first | exact Calls.regrown_of (KAL.out _ _) | exact Calls.regrown_of (KZ9.out _ _) | exact Calls.regrown_of (KD.out _ _) | exact Calls.regrown_of (KD9.out _ _) | exact Calls.regrown_of (KC.out _ _)))
      refine wpQuiet_nil ?_
      intro _ hw'
      obtain ⟨⟨dq, osq⟩, hw''⟩ := hw'
      subst hw''
      have HFB := Lib.hid (H4.out.next (HB4.out dq osq)).below
      clear E0 E1 E2 E3 E4 E5 F0 F1 F2 F3 F4 F5
      show Exit.then _ _ Exit.normal _ (grow (redrawn w4 dq) osq)
      generalize grow (redrawn w4 dq) osq = W5 at *
      go_wp2
      go_ret
      exact ⟨rfl, HFB.out⟩
theorem TableAt_any (pg op : Int) (hpg : -128 ≤ pg ∧ pg ≤ 127) (hop : 0 ≤ op ∧ op ≤ 255) (w : World) (hT : Spc w) :
    Calls Tryz.prog 5 #[.int .i8 pg, .int .u8 op] w fun e w' => e = .returned (.bool true) ∧ Below w.heap.size w w' := by
  obtain ⟨k, rfl⟩ := Int.eq_ofNat_of_zero_le hop.1
  exact TableAt_law pg hpg k (by omega) w hT
end Go.Proofs.YtlepicdjnbbndaaGreatDoor
