/-
  The reference's instructions of x = 3 and z = 3. Conditions: none.
-/
import Derived.Test.YtlepicdjnbbndaaGreatDoorS4
namespace Go.Proofs.YtlepicdjnbbndaaGreatDoor
open Go.RowKit Go.Shelf Go.Sort

set_option maxHeartbeats 4000000 in
set_option maxRecDepth 100000 in
theorem high_3_0  (w : World) : Calls Tryz.prog 100 #[.int .i64 0, .int .i64 3] w (InsE w ⟨#[74, 80]⟩ [immO 0] ⟨#[119]⟩) := by
  have H0 := Lib.hid ((Fr.start w).new' 25 #[.string ⟨#[]⟩, .slice none 0 0] rfl)
  go_enter Tryz.func100, Tryz.ntmps100
  go_wp2_with fail
  refine (rp_any 2 3 _).mono ?_
  rintro e w1 ⟨rfl, hb⟩
  have LT1 := Lib.hid (((H0.out.next hb).blk 0 rfl).lt)
  have H := Lib.hid ((H0.out.next hb).new' 87 #[.int .i64 (rpF 2 3).kind, .int .i64 (rpF 2 3).reg, .int .i64 (rpF 2 3).n] rfl)
  obtain ⟨f0, f1, f2, x0, x1, x2⟩ := (H.out.blk 0 rfl).three
  obtain ⟨e0, e1, d0, d1⟩ := (H.out.blk 1 rfl).two
  clear hb
  go_upto_region 13 with fail
  have HM := Lib.hid (Fo.nil w.heap.size _ : Fo w.heap.size [] (w1.alloc (.cells #[.int .i64 (rpF 2 3).kind, .int .i64 (rpF 2 3).reg, .int .i64 (rpF 2 3).n] 87)).drew)
  have Hn := Lib.hid H.out.drew
  clear H
  have H := Hn
  clear Hn
  obtain ⟨f0, f1, f2, _, _, _⟩ := (H.out.blk 0 rfl).three
  have n1 : ¬ w1.heap.size = w.heap.size := by have := LT1.out; omega
  have n2 : ¬ w.heap.size = w1.heap.size := fun e => n1 e.symm
  go_region_held3 (fun w' => w'.cell? ⟨w1.heap.size, 0, none⟩ = some (.int .i64 (rpF 2 3).kind) ∧ w'.cell? ⟨w1.heap.size, 1, none⟩ = some (.int .i64 (rpF 2 3).reg) ∧ w'.cell? ⟨w1.heap.size, 2, none⟩ = some (.int .i64 (rpF 2 3).n)) (go_keep)
    (first
      | (go_at_call 103; refine (rp_any _ _ _).mono ?_; rintro e w' ⟨rfl, hb⟩; clear f0 f1 f2; have Hn := Lib.hid (H.out.next hb); have HMn := Lib.hid (HM.out.next hb); clear H HM hb; have H := Hn; have HM := HMn; clear Hn HMn; obtain ⟨f0, f1, f2, _, _, _⟩ := (H.out.blk 0 rfl).three)
      | (go_at_call 102; refine (imm9_any _ _).mono ?_; rintro e w' ⟨rfl, hb⟩; clear f0 f1 f2; have Hn := Lib.hid (H.out.next hb); have HMn := Lib.hid (HM.out.next hb); clear H HM hb; have H := Hn; have HM := HMn; clear Hn HMn; obtain ⟨f0, f1, f2, _, _, _⟩ := (H.out.blk 0 rfl).three)
      | (go_at_call 105; refine (mem9_any _).mono ?_; rintro e w' ⟨rfl, hb⟩; clear f0 f1 f2; have Hn := Lib.hid (H.out.next hb); have HMn := Lib.hid (HM.out.next hb); clear H HM hb; have H := Hn; have HM := HMn; clear Hn HMn; obtain ⟨f0, f1, f2, _, _, _⟩ := (H.out.blk 0 rfl).three)
      | (go_at_call 104; refine (ind9_any _ _).mono ?_; rintro e w' ⟨rfl, hb⟩; clear f0 f1 f2; have Hn := Lib.hid (H.out.next hb); have HMn := Lib.hid (HM.out.next hb); clear H HM hb; have H := Hn; have HM := HMn; clear Hn HMn; obtain ⟨f0, f1, f2, _, _, _⟩ := (H.out.blk 0 rfl).three)
      | (go_at_call 106; refine (acc9_any _).mono ?_; rintro e w' ⟨rfl, hb⟩; clear f0 f1 f2; have Hn := Lib.hid (H.out.next hb); have HMn := Lib.hid (HM.out.next hb); clear H HM hb; have H := Hn; have HM := HMn; clear Hn HMn; obtain ⟨f0, f1, f2, _, _, _⟩ := (H.out.blk 0 rfl).three)
      | (go_at_call 101; refine (one_any _ _).mono ?_; rintro e w' ⟨v, rfl, ho, hb⟩; obtain ⟨va, vc, rfl⟩ := ho.form; clear f0 f1 f2; have HMn := Lib.hid ((HM.out.next hb).add (ho.mono (r := fun k => w.heap.size < k) (fun k hk => Nat.lt_of_lt_of_le (H.out.blk 1 rfl).lt hk))); have Hn := Lib.hid (H.out.next hb); clear H HM ho hb; have H := Hn; have HM := HMn; clear Hn HMn; obtain ⟨f0, f1, f2, _, _, _⟩ := (H.out.blk 0 rfl).three)
      | (go_at_call 98; refine (two_any _ _ _).mono ?_; rintro e w' ⟨v, rfl, ho, hb⟩; obtain ⟨va, vc, rfl⟩ := ho.form; clear f0 f1 f2; have HMn := Lib.hid ((HM.out.next hb).add (ho.mono (r := fun k => w.heap.size < k) (fun k hk => Nat.lt_of_lt_of_le (H.out.blk 1 rfl).lt hk))); have Hn := Lib.hid (H.out.next hb); clear H HM ho hb; have H := Hn; have HM := HMn; clear Hn HMn; obtain ⟨f0, f1, f2, _, _, _⟩ := (H.out.blk 0 rfl).three)
      | (go_at_call 97; with_reducible refine (ins9_any _ none 0 0 _ (opdOwn_none _ (fun k => w.heap.size < k))).mono ?_; rintro e w' ⟨rfl, ho, hb⟩; clear f0 f1 f2; clear ho; have Hn := Lib.hid (H.out.next hb); have HMn := Lib.hid (HM.out.next hb); clear H HM hb; have H := Hn; have HM := HMn; clear Hn HMn; obtain ⟨f0, f1, f2, _, _, _⟩ := (H.out.blk 0 rfl).three)
      | (go_at_call 97; with_reducible refine (ins9_any _ _ _ _ _ (HM.out.get 0 rfl)).mono ?_; rintro e w' ⟨rfl, ho, hb⟩; clear f0 f1 f2; clear ho; have Hn := Lib.hid (H.out.next hb); have HMn := Lib.hid (HM.out.next hb); clear H HM hb; have H := Hn; have HM := HMn; clear Hn HMn; obtain ⟨f0, f1, f2, _, _, _⟩ := (H.out.blk 0 rfl).three))
  clear f0 f1 f2
  go_wp2
  have n3 := (H.out.blk 1 rfl).lt
  obtain ⟨e0, e1, d0, d1⟩ := (H.out.blk 1 rfl).two
  go_region
  all_goals go_wp2
  all_goals have n3 := (H.out.blk 1 rfl).lt
  all_goals have HV : OpdOwn w' (fun k => w.heap.size < k) (.slice _ 1 _) [immO 0] := (HM.out.get 4 rfl)
  all_goals obtain ⟨h1, h2⟩ := put_ins2 (x := .string ⟨#[74, 80]⟩) H.out.below HV (fun k hk => hk) (Nat.le_refl _)
  all_goals refine bodyPost_ret (insE_end rfl rfl (((((H.out.blk 1 rfl).set 0 _).set 1 _).alloc _).alloc _).drew) rfl ⟨_, rfl, h1.below ?_, ?_⟩
  all_goals (repeat' (first | (with_reducible exact Below.refl _ _) | (with_reducible assumption) | (with_reducible refine Below.alloc ?_ ?_ _) | (with_reducible refine Below.drew ?_) | (with_reducible refine Below.setCell ?_ ?_ _) | (with_reducible exact Nat.le_refl _) | omega | (simp; done) | (simp; omega)))
set_option maxHeartbeats 4000000 in
set_option maxRecDepth 100000 in
theorem high_3_1  (w : World) : Calls Tryz.prog 100 #[.int .i64 1, .int .i64 3] w (InsE w ⟨#[]⟩ [] ⟨#[]⟩) := by
  have H0 := Lib.hid ((Fr.start w).new' 25 #[.string ⟨#[]⟩, .slice none 0 0] rfl)
  go_enter Tryz.func100, Tryz.ntmps100
  go_wp2_with fail
  refine (rp_any 2 3 _).mono ?_
  rintro e w1 ⟨rfl, hb⟩
  have LT1 := Lib.hid (((H0.out.next hb).blk 0 rfl).lt)
  have H := Lib.hid ((H0.out.next hb).new' 87 #[.int .i64 (rpF 2 3).kind, .int .i64 (rpF 2 3).reg, .int .i64 (rpF 2 3).n] rfl)
  obtain ⟨f0, f1, f2, x0, x1, x2⟩ := (H.out.blk 0 rfl).three
  obtain ⟨e0, e1, d0, d1⟩ := (H.out.blk 1 rfl).two
  clear hb
  go_upto_region 13 with fail
  have HM := Lib.hid (Fo.nil w.heap.size _ : Fo w.heap.size [] (w1.alloc (.cells #[.int .i64 (rpF 2 3).kind, .int .i64 (rpF 2 3).reg, .int .i64 (rpF 2 3).n] 87)).drew)
  have Hn := Lib.hid H.out.drew
  clear H
  have H := Hn
  clear Hn
  obtain ⟨f0, f1, f2, _, _, _⟩ := (H.out.blk 0 rfl).three
  have n1 : ¬ w1.heap.size = w.heap.size := by have := LT1.out; omega
  have n2 : ¬ w.heap.size = w1.heap.size := fun e => n1 e.symm
  go_region_held3 (fun w' => w'.cell? ⟨w1.heap.size, 0, none⟩ = some (.int .i64 (rpF 2 3).kind) ∧ w'.cell? ⟨w1.heap.size, 1, none⟩ = some (.int .i64 (rpF 2 3).reg) ∧ w'.cell? ⟨w1.heap.size, 2, none⟩ = some (.int .i64 (rpF 2 3).n)) (go_keep)
    (first
      | (go_at_call 103; refine (rp_any _ _ _).mono ?_; rintro e w' ⟨rfl, hb⟩; clear f0 f1 f2; have Hn := Lib.hid (H.out.next hb); have HMn := Lib.hid (HM.out.next hb); clear H HM hb; have H := Hn; have HM := HMn; clear Hn HMn; obtain ⟨f0, f1, f2, _, _, _⟩ := (H.out.blk 0 rfl).three)
      | (go_at_call 102; refine (imm9_any _ _).mono ?_; rintro e w' ⟨rfl, hb⟩; clear f0 f1 f2; have Hn := Lib.hid (H.out.next hb); have HMn := Lib.hid (HM.out.next hb); clear H HM hb; have H := Hn; have HM := HMn; clear Hn HMn; obtain ⟨f0, f1, f2, _, _, _⟩ := (H.out.blk 0 rfl).three)
      | (go_at_call 105; refine (mem9_any _).mono ?_; rintro e w' ⟨rfl, hb⟩; clear f0 f1 f2; have Hn := Lib.hid (H.out.next hb); have HMn := Lib.hid (HM.out.next hb); clear H HM hb; have H := Hn; have HM := HMn; clear Hn HMn; obtain ⟨f0, f1, f2, _, _, _⟩ := (H.out.blk 0 rfl).three)
      | (go_at_call 104; refine (ind9_any _ _).mono ?_; rintro e w' ⟨rfl, hb⟩; clear f0 f1 f2; have Hn := Lib.hid (H.out.next hb); have HMn := Lib.hid (HM.out.next hb); clear H HM hb; have H := Hn; have HM := HMn; clear Hn HMn; obtain ⟨f0, f1, f2, _, _, _⟩ := (H.out.blk 0 rfl).three)
      | (go_at_call 106; refine (acc9_any _).mono ?_; rintro e w' ⟨rfl, hb⟩; clear f0 f1 f2; have Hn := Lib.hid (H.out.next hb); have HMn := Lib.hid (HM.out.next hb); clear H HM hb; have H := Hn; have HM := HMn; clear Hn HMn; obtain ⟨f0, f1, f2, _, _, _⟩ := (H.out.blk 0 rfl).three)
      | (go_at_call 101; refine (one_any _ _).mono ?_; rintro e w' ⟨v, rfl, ho, hb⟩; obtain ⟨va, vc, rfl⟩ := ho.form; clear f0 f1 f2; have HMn := Lib.hid ((HM.out.next hb).add (ho.mono (r := fun k => w.heap.size < k) (fun k hk => Nat.lt_of_lt_of_le (H.out.blk 1 rfl).lt hk))); have Hn := Lib.hid (H.out.next hb); clear H HM ho hb; have H := Hn; have HM := HMn; clear Hn HMn; obtain ⟨f0, f1, f2, _, _, _⟩ := (H.out.blk 0 rfl).three)
      | (go_at_call 98; refine (two_any _ _ _).mono ?_; rintro e w' ⟨v, rfl, ho, hb⟩; obtain ⟨va, vc, rfl⟩ := ho.form; clear f0 f1 f2; have HMn := Lib.hid ((HM.out.next hb).add (ho.mono (r := fun k => w.heap.size < k) (fun k hk => Nat.lt_of_lt_of_le (H.out.blk 1 rfl).lt hk))); have Hn := Lib.hid (H.out.next hb); clear H HM ho hb; have H := Hn; have HM := HMn; clear Hn HMn; obtain ⟨f0, f1, f2, _, _, _⟩ := (H.out.blk 0 rfl).three)
      | (go_at_call 97; with_reducible refine (ins9_any _ none 0 0 _ (opdOwn_none _ (fun k => w.heap.size < k))).mono ?_; rintro e w' ⟨rfl, ho, hb⟩; clear f0 f1 f2; clear ho; have Hn := Lib.hid (H.out.next hb); have HMn := Lib.hid (HM.out.next hb); clear H HM hb; have H := Hn; have HM := HMn; clear Hn HMn; obtain ⟨f0, f1, f2, _, _, _⟩ := (H.out.blk 0 rfl).three)
      | (go_at_call 97; with_reducible refine (ins9_any _ _ _ _ _ (HM.out.get 0 rfl)).mono ?_; rintro e w' ⟨rfl, ho, hb⟩; clear f0 f1 f2; clear ho; have Hn := Lib.hid (H.out.next hb); have HMn := Lib.hid (HM.out.next hb); clear H HM hb; have H := Hn; have HM := HMn; clear Hn HMn; obtain ⟨f0, f1, f2, _, _, _⟩ := (H.out.blk 0 rfl).three))
  clear f0 f1 f2
  go_wp2
  have n3 := (H.out.blk 1 rfl).lt
  obtain ⟨e0, e1, d0, d1⟩ := (H.out.blk 1 rfl).two
  go_region
  all_goals go_wp2
  all_goals have n3 := (H.out.blk 1 rfl).lt
  all_goals have HV : OpdOwn w' (fun k => w.heap.size < k) (.slice _ 0 _) [] := (opdOwn_none _ (fun k => w.heap.size < k))
  all_goals obtain ⟨h1, h2⟩ := put_ins2 (x := .string ⟨#[]⟩) H.out.below HV (fun k hk => hk) (Nat.le_refl _)
  all_goals refine bodyPost_ret (insE_end rfl rfl (((((H.out.blk 1 rfl).set 0 _).set 1 _).alloc _).alloc _).drew) rfl ⟨_, rfl, h1.below ?_, ?_⟩
  all_goals (repeat' (first | (with_reducible exact Below.refl _ _) | (with_reducible assumption) | (with_reducible refine Below.alloc ?_ ?_ _) | (with_reducible refine Below.drew ?_) | (with_reducible refine Below.setCell ?_ ?_ _) | (with_reducible exact Nat.le_refl _) | omega | (simp; done) | (simp; omega)))
set_option maxHeartbeats 4000000 in
set_option maxRecDepth 100000 in
theorem high_3_2  (w : World) : Calls Tryz.prog 100 #[.int .i64 2, .int .i64 3] w (InsE w ⟨#[79, 85, 84]⟩ [memO, accO] ⟨#[110]⟩) := by
  have H0 := Lib.hid ((Fr.start w).new' 25 #[.string ⟨#[]⟩, .slice none 0 0] rfl)
  go_enter Tryz.func100, Tryz.ntmps100
  go_wp2_with fail
  refine (rp_any 2 3 _).mono ?_
  rintro e w1 ⟨rfl, hb⟩
  have LT1 := Lib.hid (((H0.out.next hb).blk 0 rfl).lt)
  have H := Lib.hid ((H0.out.next hb).new' 87 #[.int .i64 (rpF 2 3).kind, .int .i64 (rpF 2 3).reg, .int .i64 (rpF 2 3).n] rfl)
  obtain ⟨f0, f1, f2, x0, x1, x2⟩ := (H.out.blk 0 rfl).three
  obtain ⟨e0, e1, d0, d1⟩ := (H.out.blk 1 rfl).two
  clear hb
  go_upto_region 13 with fail
  have HM := Lib.hid (Fo.nil w.heap.size _ : Fo w.heap.size [] (w1.alloc (.cells #[.int .i64 (rpF 2 3).kind, .int .i64 (rpF 2 3).reg, .int .i64 (rpF 2 3).n] 87)).drew)
  have Hn := Lib.hid H.out.drew
  clear H
  have H := Hn
  clear Hn
  obtain ⟨f0, f1, f2, _, _, _⟩ := (H.out.blk 0 rfl).three
  have n1 : ¬ w1.heap.size = w.heap.size := by have := LT1.out; omega
  have n2 : ¬ w.heap.size = w1.heap.size := fun e => n1 e.symm
  go_region_held3 (fun w' => w'.cell? ⟨w1.heap.size, 0, none⟩ = some (.int .i64 (rpF 2 3).kind) ∧ w'.cell? ⟨w1.heap.size, 1, none⟩ = some (.int .i64 (rpF 2 3).reg) ∧ w'.cell? ⟨w1.heap.size, 2, none⟩ = some (.int .i64 (rpF 2 3).n)) (go_keep)
    (first
      | (go_at_call 103; refine (rp_any _ _ _).mono ?_; rintro e w' ⟨rfl, hb⟩; clear f0 f1 f2; have Hn := Lib.hid (H.out.next hb); have HMn := Lib.hid (HM.out.next hb); clear H HM hb; have H := Hn; have HM := HMn; clear Hn HMn; obtain ⟨f0, f1, f2, _, _, _⟩ := (H.out.blk 0 rfl).three)
      | (go_at_call 102; refine (imm9_any _ _).mono ?_; rintro e w' ⟨rfl, hb⟩; clear f0 f1 f2; have Hn := Lib.hid (H.out.next hb); have HMn := Lib.hid (HM.out.next hb); clear H HM hb; have H := Hn; have HM := HMn; clear Hn HMn; obtain ⟨f0, f1, f2, _, _, _⟩ := (H.out.blk 0 rfl).three)
      | (go_at_call 105; refine (mem9_any _).mono ?_; rintro e w' ⟨rfl, hb⟩; clear f0 f1 f2; have Hn := Lib.hid (H.out.next hb); have HMn := Lib.hid (HM.out.next hb); clear H HM hb; have H := Hn; have HM := HMn; clear Hn HMn; obtain ⟨f0, f1, f2, _, _, _⟩ := (H.out.blk 0 rfl).three)
      | (go_at_call 104; refine (ind9_any _ _).mono ?_; rintro e w' ⟨rfl, hb⟩; clear f0 f1 f2; have Hn := Lib.hid (H.out.next hb); have HMn := Lib.hid (HM.out.next hb); clear H HM hb; have H := Hn; have HM := HMn; clear Hn HMn; obtain ⟨f0, f1, f2, _, _, _⟩ := (H.out.blk 0 rfl).three)
      | (go_at_call 106; refine (acc9_any _).mono ?_; rintro e w' ⟨rfl, hb⟩; clear f0 f1 f2; have Hn := Lib.hid (H.out.next hb); have HMn := Lib.hid (HM.out.next hb); clear H HM hb; have H := Hn; have HM := HMn; clear Hn HMn; obtain ⟨f0, f1, f2, _, _, _⟩ := (H.out.blk 0 rfl).three)
      | (go_at_call 101; refine (one_any _ _).mono ?_; rintro e w' ⟨v, rfl, ho, hb⟩; obtain ⟨va, vc, rfl⟩ := ho.form; clear f0 f1 f2; have HMn := Lib.hid ((HM.out.next hb).add (ho.mono (r := fun k => w.heap.size < k) (fun k hk => Nat.lt_of_lt_of_le (H.out.blk 1 rfl).lt hk))); have Hn := Lib.hid (H.out.next hb); clear H HM ho hb; have H := Hn; have HM := HMn; clear Hn HMn; obtain ⟨f0, f1, f2, _, _, _⟩ := (H.out.blk 0 rfl).three)
      | (go_at_call 98; refine (two_any _ _ _).mono ?_; rintro e w' ⟨v, rfl, ho, hb⟩; obtain ⟨va, vc, rfl⟩ := ho.form; clear f0 f1 f2; have HMn := Lib.hid ((HM.out.next hb).add (ho.mono (r := fun k => w.heap.size < k) (fun k hk => Nat.lt_of_lt_of_le (H.out.blk 1 rfl).lt hk))); have Hn := Lib.hid (H.out.next hb); clear H HM ho hb; have H := Hn; have HM := HMn; clear Hn HMn; obtain ⟨f0, f1, f2, _, _, _⟩ := (H.out.blk 0 rfl).three)
      | (go_at_call 97; with_reducible refine (ins9_any _ none 0 0 _ (opdOwn_none _ (fun k => w.heap.size < k))).mono ?_; rintro e w' ⟨rfl, ho, hb⟩; clear f0 f1 f2; clear ho; have Hn := Lib.hid (H.out.next hb); have HMn := Lib.hid (HM.out.next hb); clear H HM hb; have H := Hn; have HM := HMn; clear Hn HMn; obtain ⟨f0, f1, f2, _, _, _⟩ := (H.out.blk 0 rfl).three)
      | (go_at_call 97; with_reducible refine (ins9_any _ _ _ _ _ (HM.out.get 0 rfl)).mono ?_; rintro e w' ⟨rfl, ho, hb⟩; clear f0 f1 f2; clear ho; have Hn := Lib.hid (H.out.next hb); have HMn := Lib.hid (HM.out.next hb); clear H HM hb; have H := Hn; have HM := HMn; clear Hn HMn; obtain ⟨f0, f1, f2, _, _, _⟩ := (H.out.blk 0 rfl).three))
  clear f0 f1 f2
  go_wp2
  have n3 := (H.out.blk 1 rfl).lt
  obtain ⟨e0, e1, d0, d1⟩ := (H.out.blk 1 rfl).two
  go_region
  all_goals go_wp2
  all_goals have n3 := (H.out.blk 1 rfl).lt
  all_goals have HV : OpdOwn w' (fun k => w.heap.size < k) (.slice _ 2 _) [memO, accO] := (HM.out.get 3 rfl)
  all_goals obtain ⟨h1, h2⟩ := put_ins2 (x := .string ⟨#[79, 85, 84]⟩) H.out.below HV (fun k hk => hk) (Nat.le_refl _)
  all_goals refine bodyPost_ret (insE_end rfl rfl (((((H.out.blk 1 rfl).set 0 _).set 1 _).alloc _).alloc _).drew) rfl ⟨_, rfl, h1.below ?_, ?_⟩
  all_goals (repeat' (first | (with_reducible exact Below.refl _ _) | (with_reducible assumption) | (with_reducible refine Below.alloc ?_ ?_ _) | (with_reducible refine Below.drew ?_) | (with_reducible refine Below.setCell ?_ ?_ _) | (with_reducible exact Nat.le_refl _) | omega | (simp; done) | (simp; omega)))
set_option maxHeartbeats 4000000 in
set_option maxRecDepth 100000 in
theorem high_3_3  (w : World) : Calls Tryz.prog 100 #[.int .i64 3, .int .i64 3] w (InsE w ⟨#[73, 78]⟩ [accO, memO] ⟨#[110]⟩) := by
  have H0 := Lib.hid ((Fr.start w).new' 25 #[.string ⟨#[]⟩, .slice none 0 0] rfl)
  go_enter Tryz.func100, Tryz.ntmps100
  go_wp2_with fail
  refine (rp_any 2 3 _).mono ?_
  rintro e w1 ⟨rfl, hb⟩
  have LT1 := Lib.hid (((H0.out.next hb).blk 0 rfl).lt)
  have H := Lib.hid ((H0.out.next hb).new' 87 #[.int .i64 (rpF 2 3).kind, .int .i64 (rpF 2 3).reg, .int .i64 (rpF 2 3).n] rfl)
  obtain ⟨f0, f1, f2, x0, x1, x2⟩ := (H.out.blk 0 rfl).three
  obtain ⟨e0, e1, d0, d1⟩ := (H.out.blk 1 rfl).two
  clear hb
  go_upto_region 13 with fail
  have HM := Lib.hid (Fo.nil w.heap.size _ : Fo w.heap.size [] (w1.alloc (.cells #[.int .i64 (rpF 2 3).kind, .int .i64 (rpF 2 3).reg, .int .i64 (rpF 2 3).n] 87)).drew)
  have Hn := Lib.hid H.out.drew
  clear H
  have H := Hn
  clear Hn
  obtain ⟨f0, f1, f2, _, _, _⟩ := (H.out.blk 0 rfl).three
  have n1 : ¬ w1.heap.size = w.heap.size := by have := LT1.out; omega
  have n2 : ¬ w.heap.size = w1.heap.size := fun e => n1 e.symm
  go_region_held3 (fun w' => w'.cell? ⟨w1.heap.size, 0, none⟩ = some (.int .i64 (rpF 2 3).kind) ∧ w'.cell? ⟨w1.heap.size, 1, none⟩ = some (.int .i64 (rpF 2 3).reg) ∧ w'.cell? ⟨w1.heap.size, 2, none⟩ = some (.int .i64 (rpF 2 3).n)) (go_keep)
    (first
      | (go_at_call 103; refine (rp_any _ _ _).mono ?_; rintro e w' ⟨rfl, hb⟩; clear f0 f1 f2; have Hn := Lib.hid (H.out.next hb); have HMn := Lib.hid (HM.out.next hb); clear H HM hb; have H := Hn; have HM := HMn; clear Hn HMn; obtain ⟨f0, f1, f2, _, _, _⟩ := (H.out.blk 0 rfl).three)
      | (go_at_call 102; refine (imm9_any _ _).mono ?_; rintro e w' ⟨rfl, hb⟩; clear f0 f1 f2; have Hn := Lib.hid (H.out.next hb); have HMn := Lib.hid (HM.out.next hb); clear H HM hb; have H := Hn; have HM := HMn; clear Hn HMn; obtain ⟨f0, f1, f2, _, _, _⟩ := (H.out.blk 0 rfl).three)
      | (go_at_call 105; refine (mem9_any _).mono ?_; rintro e w' ⟨rfl, hb⟩; clear f0 f1 f2; have Hn := Lib.hid (H.out.next hb); have HMn := Lib.hid (HM.out.next hb); clear H HM hb; have H := Hn; have HM := HMn; clear Hn HMn; obtain ⟨f0, f1, f2, _, _, _⟩ := (H.out.blk 0 rfl).three)
      | (go_at_call 104; refine (ind9_any _ _).mono ?_; rintro e w' ⟨rfl, hb⟩; clear f0 f1 f2; have Hn := Lib.hid (H.out.next hb); have HMn := Lib.hid (HM.out.next hb); clear H HM hb; have H := Hn; have HM := HMn; clear Hn HMn; obtain ⟨f0, f1, f2, _, _, _⟩ := (H.out.blk 0 rfl).three)
      | (go_at_call 106; refine (acc9_any _).mono ?_; rintro e w' ⟨rfl, hb⟩; clear f0 f1 f2; have Hn := Lib.hid (H.out.next hb); have HMn := Lib.hid (HM.out.next hb); clear H HM hb; have H := Hn; have HM := HMn; clear Hn HMn; obtain ⟨f0, f1, f2, _, _, _⟩ := (H.out.blk 0 rfl).three)
      | (go_at_call 101; refine (one_any _ _).mono ?_; rintro e w' ⟨v, rfl, ho, hb⟩; obtain ⟨va, vc, rfl⟩ := ho.form; clear f0 f1 f2; have HMn := Lib.hid ((HM.out.next hb).add (ho.mono (r := fun k => w.heap.size < k) (fun k hk => Nat.lt_of_lt_of_le (H.out.blk 1 rfl).lt hk))); have Hn := Lib.hid (H.out.next hb); clear H HM ho hb; have H := Hn; have HM := HMn; clear Hn HMn; obtain ⟨f0, f1, f2, _, _, _⟩ := (H.out.blk 0 rfl).three)
      | (go_at_call 98; refine (two_any _ _ _).mono ?_; rintro e w' ⟨v, rfl, ho, hb⟩; obtain ⟨va, vc, rfl⟩ := ho.form; clear f0 f1 f2; have HMn := Lib.hid ((HM.out.next hb).add (ho.mono (r := fun k => w.heap.size < k) (fun k hk => Nat.lt_of_lt_of_le (H.out.blk 1 rfl).lt hk))); have Hn := Lib.hid (H.out.next hb); clear H HM ho hb; have H := Hn; have HM := HMn; clear Hn HMn; obtain ⟨f0, f1, f2, _, _, _⟩ := (H.out.blk 0 rfl).three)
      | (go_at_call 97; with_reducible refine (ins9_any _ none 0 0 _ (opdOwn_none _ (fun k => w.heap.size < k))).mono ?_; rintro e w' ⟨rfl, ho, hb⟩; clear f0 f1 f2; clear ho; have Hn := Lib.hid (H.out.next hb); have HMn := Lib.hid (HM.out.next hb); clear H HM hb; have H := Hn; have HM := HMn; clear Hn HMn; obtain ⟨f0, f1, f2, _, _, _⟩ := (H.out.blk 0 rfl).three)
      | (go_at_call 97; with_reducible refine (ins9_any _ _ _ _ _ (HM.out.get 0 rfl)).mono ?_; rintro e w' ⟨rfl, ho, hb⟩; clear f0 f1 f2; clear ho; have Hn := Lib.hid (H.out.next hb); have HMn := Lib.hid (HM.out.next hb); clear H HM hb; have H := Hn; have HM := HMn; clear Hn HMn; obtain ⟨f0, f1, f2, _, _, _⟩ := (H.out.blk 0 rfl).three))
  clear f0 f1 f2
  go_wp2
  have n3 := (H.out.blk 1 rfl).lt
  obtain ⟨e0, e1, d0, d1⟩ := (H.out.blk 1 rfl).two
  go_region
  all_goals go_wp2
  all_goals have n3 := (H.out.blk 1 rfl).lt
  all_goals have HV : OpdOwn w' (fun k => w.heap.size < k) (.slice _ 2 _) [accO, memO] := (HM.out.get 2 rfl)
  all_goals obtain ⟨h1, h2⟩ := put_ins2 (x := .string ⟨#[73, 78]⟩) H.out.below HV (fun k hk => hk) (Nat.le_refl _)
  all_goals refine bodyPost_ret (insE_end rfl rfl (((((H.out.blk 1 rfl).set 0 _).set 1 _).alloc _).alloc _).drew) rfl ⟨_, rfl, h1.below ?_, ?_⟩
  all_goals (repeat' (first | (with_reducible exact Below.refl _ _) | (with_reducible assumption) | (with_reducible refine Below.alloc ?_ ?_ _) | (with_reducible refine Below.drew ?_) | (with_reducible refine Below.setCell ?_ ?_ _) | (with_reducible exact Nat.le_refl _) | omega | (simp; done) | (simp; omega)))
end Go.Proofs.YtlepicdjnbbndaaGreatDoor
