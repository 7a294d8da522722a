/-
  The reference's instructions of x = 3 and z = 3. Conditions: none.
-/
import Derived.Test.YtnbmbcjnncbaiaaGreatDoorPH
namespace Go.Proofs.YtnbmbcjnncbaiaaGreatDoor
set_option maxHeartbeats 4000000
set_option maxRecDepth 100000
open Go.RowKit Go.Shelf Go.Sort
theorem high_3_4 (w:World):Calls Tryz.prog 117 #[.int .i64 4,.int .i64 3] w (InsE w ⟨#[69,88]⟩ [indO 3,rpF 2 3] ⟨#[]⟩):=by
 have H0:=Lib.hid ((Fr.start w).new' 27 #[.string ⟨#[]⟩,.slice none 0 0] rfl)
 go_enter Tryz.func117,Tryz.ntmps117
 go_wp2_with fail
 refine (rp_any 2 3 _).mono ?_
 rintro e w1 ⟨rfl,hb⟩
 have LT1:=Lib.hid (((H0.out.next hb).blk 0 rfl).lt)
 have H:=Lib.hid ((H0.out.next hb).new' 93 #[.int .i64 (rpF 2 3).kind,.int .i64 (rpF 2 3).reg,.int .i64 (rpF 2 3).n] rfl)
 obtain ⟨f0,f1,f2,x0,x1,x2⟩:=(H.out.blk 0 rfl).three
 obtain ⟨e0,e1,d0,d1⟩:=(H.out.blk 1 rfl).two
 clear hb
 go_upto_region 13 with fail
 have HM:=Lib.hid (Fo.nil w.heap.size _:Fo w.heap.size [] (w1.alloc (.cells #[.int .i64 (rpF 2 3).kind,.int .i64 (rpF 2 3).reg,.int .i64 (rpF 2 3).n] 93)).drew)
 have Hn:=Lib.hid H.out.drew
 clear H
 have H:=Hn
 clear Hn
 obtain ⟨f0,f1,f2,_,_,_⟩:=(H.out.blk 0 rfl).three
 have n1:¬w1.heap.size=w.heap.size:=by have:=LT1.out;omega
 have n2:¬w.heap.size=w1.heap.size:=fun e=>n1 e.symm
 go_region_held3 (fun w'=>w'.cell? ⟨w1.heap.size,0,none⟩=some (.int .i64 (rpF 2 3).kind)∧w'.cell? ⟨w1.heap.size,1,none⟩=some (.int .i64 (rpF 2 3).reg)∧w'.cell? ⟨w1.heap.size,2,none⟩=some (.int .i64 (rpF 2 3).n)) (go_keep)
  (first
   | (go_at_call 120;refine (rp_any _ _ _).mono ?_;rintro e w' ⟨rfl,hb⟩;clear f0 f1 f2;have Hn:=Lib.hid (H.out.next hb);have HMn:=Lib.hid (HM.out.next hb);clear H HM hb;have H:=Hn;have HM:=HMn;clear Hn HMn;obtain ⟨f0,f1,f2,_,_,_⟩:=(H.out.blk 0 rfl).three)
   | (go_at_call 119;refine (imm9_any _ _).mono ?_;rintro e w' ⟨rfl,hb⟩;clear f0 f1 f2;have Hn:=Lib.hid (H.out.next hb);have HMn:=Lib.hid (HM.out.next hb);clear H HM hb;have H:=Hn;have HM:=HMn;clear Hn HMn;obtain ⟨f0,f1,f2,_,_,_⟩:=(H.out.blk 0 rfl).three)
   | (go_at_call 122;refine (mem9_any _).mono ?_;rintro e w' ⟨rfl,hb⟩;clear f0 f1 f2;have Hn:=Lib.hid (H.out.next hb);have HMn:=Lib.hid (HM.out.next hb);clear H HM hb;have H:=Hn;have HM:=HMn;clear Hn HMn;obtain ⟨f0,f1,f2,_,_,_⟩:=(H.out.blk 0 rfl).three)
   | (go_at_call 121;refine (ind9_any _ _).mono ?_;rintro e w' ⟨rfl,hb⟩;clear f0 f1 f2;have Hn:=Lib.hid (H.out.next hb);have HMn:=Lib.hid (HM.out.next hb);clear H HM hb;have H:=Hn;have HM:=HMn;clear Hn HMn;obtain ⟨f0,f1,f2,_,_,_⟩:=(H.out.blk 0 rfl).three)
   | (go_at_call 123;refine (acc9_any _).mono ?_;rintro e w' ⟨rfl,hb⟩;clear f0 f1 f2;have Hn:=Lib.hid (H.out.next hb);have HMn:=Lib.hid (HM.out.next hb);clear H HM hb;have H:=Hn;have HM:=HMn;clear Hn HMn;obtain ⟨f0,f1,f2,_,_,_⟩:=(H.out.blk 0 rfl).three)
   | (go_at_call 118;refine (one_any _ _).mono ?_;rintro e w' ⟨v,rfl,ho,hb⟩;obtain ⟨va,vc,rfl⟩:=ho.form;clear f0 f1 f2;have HMn:=Lib.hid ((HM.out.next hb).add (ho.mono (r:=fun k=>w.heap.size < k) (fun k hk=>Nat.lt_of_lt_of_le (H.out.blk 1 rfl).lt hk)));have Hn:=Lib.hid (H.out.next hb);clear H HM ho hb;have H:=Hn;have HM:=HMn;clear Hn HMn;obtain ⟨f0,f1,f2,_,_,_⟩:=(H.out.blk 0 rfl).three)
   | (go_at_call 115;refine (two_any _ _ _).mono ?_;rintro e w' ⟨v,rfl,ho,hb⟩;obtain ⟨va,vc,rfl⟩:=ho.form;clear f0 f1 f2;have HMn:=Lib.hid ((HM.out.next hb).add (ho.mono (r:=fun k=>w.heap.size < k) (fun k hk=>Nat.lt_of_lt_of_le (H.out.blk 1 rfl).lt hk)));have Hn:=Lib.hid (H.out.next hb);clear H HM ho hb;have H:=Hn;have HM:=HMn;clear Hn HMn;obtain ⟨f0,f1,f2,_,_,_⟩:=(H.out.blk 0 rfl).three)
   | (go_at_call 114;with_reducible refine (ins9_any _ none 0 0 _ (opdOwn_none _ (fun k=>w.heap.size < k))).mono ?_;rintro e w' ⟨rfl,ho,hb⟩;clear f0 f1 f2;clear ho;have Hn:=Lib.hid (H.out.next hb);have HMn:=Lib.hid (HM.out.next hb);clear H HM hb;have H:=Hn;have HM:=HMn;clear Hn HMn;obtain ⟨f0,f1,f2,_,_,_⟩:=(H.out.blk 0 rfl).three)
   | (go_at_call 114;with_reducible refine (ins9_any _ _ _ _ _ (HM.out.get 0 rfl)).mono ?_;rintro e w' ⟨rfl,ho,hb⟩;clear f0 f1 f2;clear ho;have Hn:=Lib.hid (H.out.next hb);have HMn:=Lib.hid (HM.out.next hb);clear H HM hb;have H:=Hn;have HM:=HMn;clear Hn HMn;obtain ⟨f0,f1,f2,_,_,_⟩:=(H.out.blk 0 rfl).three))
 clear f0 f1 f2
 go_wp2
 have n3:=(H.out.blk 1 rfl).lt
 obtain ⟨e0,e1,d0,d1⟩:=(H.out.blk 1 rfl).two
 go_region
 all_goals go_wp2
 all_goals have n3:=(H.out.blk 1 rfl).lt
 all_goals have HV:OpdOwn w' (fun k=>w.heap.size < k) (.slice _ 2 _) [indO 3,rpF 2 3]:=(HM.out.get 1 rfl)
 all_goals obtain ⟨h1,h2⟩:=put_ins2 (x:=.string ⟨#[69,88]⟩) H.out.below HV (fun k hk=>hk) (Nat.le_refl _)
 all_goals refine bodyPost_ret (insE_end rfl rfl (((((H.out.blk 1 rfl).set 0 _).set 1 _).alloc _).alloc _).drew) rfl ⟨_,rfl,h1.below ?_,?_⟩
 all_goals (repeat' (first | (with_reducible exact Below.refl _ _) | (with_reducible assumption) | (with_reducible refine Below.alloc ?_ ?_ _) | (with_reducible refine Below.drew ?_) | (with_reducible refine Below.setCell ?_ ?_ _) | (with_reducible exact Nat.le_refl _) | omega | (simp;done) | (simp;omega)))
theorem high_3_5 (w:World):Calls Tryz.prog 117 #[.int .i64 5,.int .i64 3] w (InsE w ⟨#[69,88]⟩ [rpF 1 3,rpF 2 3] ⟨#[]⟩):=by
 have H0:=Lib.hid ((Fr.start w).new' 27 #[.string ⟨#[]⟩,.slice none 0 0] rfl)
 go_enter Tryz.func117,Tryz.ntmps117
 go_wp2_with fail
 refine (rp_any 2 3 _).mono ?_
 rintro e w1 ⟨rfl,hb⟩
 have LT1:=Lib.hid (((H0.out.next hb).blk 0 rfl).lt)
 have H:=Lib.hid ((H0.out.next hb).new' 93 #[.int .i64 (rpF 2 3).kind,.int .i64 (rpF 2 3).reg,.int .i64 (rpF 2 3).n] rfl)
 obtain ⟨f0,f1,f2,x0,x1,x2⟩:=(H.out.blk 0 rfl).three
 obtain ⟨e0,e1,d0,d1⟩:=(H.out.blk 1 rfl).two
 clear hb
 go_upto_region 13 with fail
 have HM:=Lib.hid (Fo.nil w.heap.size _:Fo w.heap.size [] (w1.alloc (.cells #[.int .i64 (rpF 2 3).kind,.int .i64 (rpF 2 3).reg,.int .i64 (rpF 2 3).n] 93)).drew)
 have Hn:=Lib.hid H.out.drew
 clear H
 have H:=Hn
 clear Hn
 obtain ⟨f0,f1,f2,_,_,_⟩:=(H.out.blk 0 rfl).three
 have n1:¬w1.heap.size=w.heap.size:=by have:=LT1.out;omega
 have n2:¬w.heap.size=w1.heap.size:=fun e=>n1 e.symm
 go_region_held3 (fun w'=>w'.cell? ⟨w1.heap.size,0,none⟩=some (.int .i64 (rpF 2 3).kind)∧w'.cell? ⟨w1.heap.size,1,none⟩=some (.int .i64 (rpF 2 3).reg)∧w'.cell? ⟨w1.heap.size,2,none⟩=some (.int .i64 (rpF 2 3).n)) (go_keep)
  (first
   | (go_at_call 120;refine (rp_any _ _ _).mono ?_;rintro e w' ⟨rfl,hb⟩;clear f0 f1 f2;have Hn:=Lib.hid (H.out.next hb);have HMn:=Lib.hid (HM.out.next hb);clear H HM hb;have H:=Hn;have HM:=HMn;clear Hn HMn;obtain ⟨f0,f1,f2,_,_,_⟩:=(H.out.blk 0 rfl).three)
   | (go_at_call 119;refine (imm9_any _ _).mono ?_;rintro e w' ⟨rfl,hb⟩;clear f0 f1 f2;have Hn:=Lib.hid (H.out.next hb);have HMn:=Lib.hid (HM.out.next hb);clear H HM hb;have H:=Hn;have HM:=HMn;clear Hn HMn;obtain ⟨f0,f1,f2,_,_,_⟩:=(H.out.blk 0 rfl).three)
   | (go_at_call 122;refine (mem9_any _).mono ?_;rintro e w' ⟨rfl,hb⟩;clear f0 f1 f2;have Hn:=Lib.hid (H.out.next hb);have HMn:=Lib.hid (HM.out.next hb);clear H HM hb;have H:=Hn;have HM:=HMn;clear Hn HMn;obtain ⟨f0,f1,f2,_,_,_⟩:=(H.out.blk 0 rfl).three)
   | (go_at_call 121;refine (ind9_any _ _).mono ?_;rintro e w' ⟨rfl,hb⟩;clear f0 f1 f2;have Hn:=Lib.hid (H.out.next hb);have HMn:=Lib.hid (HM.out.next hb);clear H HM hb;have H:=Hn;have HM:=HMn;clear Hn HMn;obtain ⟨f0,f1,f2,_,_,_⟩:=(H.out.blk 0 rfl).three)
   | (go_at_call 123;refine (acc9_any _).mono ?_;rintro e w' ⟨rfl,hb⟩;clear f0 f1 f2;have Hn:=Lib.hid (H.out.next hb);have HMn:=Lib.hid (HM.out.next hb);clear H HM hb;have H:=Hn;have HM:=HMn;clear Hn HMn;obtain ⟨f0,f1,f2,_,_,_⟩:=(H.out.blk 0 rfl).three)
   | (go_at_call 118;refine (one_any _ _).mono ?_;rintro e w' ⟨v,rfl,ho,hb⟩;obtain ⟨va,vc,rfl⟩:=ho.form;clear f0 f1 f2;have HMn:=Lib.hid ((HM.out.next hb).add (ho.mono (r:=fun k=>w.heap.size < k) (fun k hk=>Nat.lt_of_lt_of_le (H.out.blk 1 rfl).lt hk)));have Hn:=Lib.hid (H.out.next hb);clear H HM ho hb;have H:=Hn;have HM:=HMn;clear Hn HMn;obtain ⟨f0,f1,f2,_,_,_⟩:=(H.out.blk 0 rfl).three)
   | (go_at_call 115;refine (two_any _ _ _).mono ?_;rintro e w' ⟨v,rfl,ho,hb⟩;obtain ⟨va,vc,rfl⟩:=ho.form;clear f0 f1 f2;have HMn:=Lib.hid ((HM.out.next hb).add (ho.mono (r:=fun k=>w.heap.size < k) (fun k hk=>Nat.lt_of_lt_of_le (H.out.blk 1 rfl).lt hk)));have Hn:=Lib.hid (H.out.next hb);clear H HM ho hb;have H:=Hn;have HM:=HMn;clear Hn HMn;obtain ⟨f0,f1,f2,_,_,_⟩:=(H.out.blk 0 rfl).three)
   | (go_at_call 114;with_reducible refine (ins9_any _ none 0 0 _ (opdOwn_none _ (fun k=>w.heap.size < k))).mono ?_;rintro e w' ⟨rfl,ho,hb⟩;clear f0 f1 f2;clear ho;have Hn:=Lib.hid (H.out.next hb);have HMn:=Lib.hid (HM.out.next hb);clear H HM hb;have H:=Hn;have HM:=HMn;clear Hn HMn;obtain ⟨f0,f1,f2,_,_,_⟩:=(H.out.blk 0 rfl).three)
   | (go_at_call 114;with_reducible refine (ins9_any _ _ _ _ _ (HM.out.get 0 rfl)).mono ?_;rintro e w' ⟨rfl,ho,hb⟩;clear f0 f1 f2;clear ho;have Hn:=Lib.hid (H.out.next hb);have HMn:=Lib.hid (HM.out.next hb);clear H HM hb;have H:=Hn;have HM:=HMn;clear Hn HMn;obtain ⟨f0,f1,f2,_,_,_⟩:=(H.out.blk 0 rfl).three))
 clear f0 f1 f2
 go_wp2
 have n3:=(H.out.blk 1 rfl).lt
 obtain ⟨e0,e1,d0,d1⟩:=(H.out.blk 1 rfl).two
 go_region
 all_goals go_wp2
 all_goals have n3:=(H.out.blk 1 rfl).lt
 all_goals have HV:OpdOwn w' (fun k=>w.heap.size < k) (.slice _ 2 _) [rpF 1 3,rpF 2 3]:=(HM.out.get 0 rfl)
 all_goals obtain ⟨h1,h2⟩:=put_ins2 (x:=.string ⟨#[69,88]⟩) H.out.below HV (fun k hk=>hk) (Nat.le_refl _)
 all_goals refine bodyPost_ret (insE_end rfl rfl (((((H.out.blk 1 rfl).set 0 _).set 1 _).alloc _).alloc _).drew) rfl ⟨_,rfl,h1.below ?_,?_⟩
 all_goals (repeat' (first | (with_reducible exact Below.refl _ _) | (with_reducible assumption) | (with_reducible refine Below.alloc ?_ ?_ _) | (with_reducible refine Below.drew ?_) | (with_reducible refine Below.setCell ?_ ?_ _) | (with_reducible exact Nat.le_refl _) | omega | (simp;done) | (simp;omega)))
theorem high_3_6 (w:World):Calls Tryz.prog 117 #[.int .i64 6,.int .i64 3] w (InsE w ⟨#[68,73]⟩ [] ⟨#[]⟩):=by
 have H0:=Lib.hid ((Fr.start w).new' 27 #[.string ⟨#[]⟩,.slice none 0 0] rfl)
 go_enter Tryz.func117,Tryz.ntmps117
 go_wp2_with fail
 refine (rp_any 2 3 _).mono ?_
 rintro e w1 ⟨rfl,hb⟩
 have LT1:=Lib.hid (((H0.out.next hb).blk 0 rfl).lt)
 have H:=Lib.hid ((H0.out.next hb).new' 93 #[.int .i64 (rpF 2 3).kind,.int .i64 (rpF 2 3).reg,.int .i64 (rpF 2 3).n] rfl)
 obtain ⟨f0,f1,f2,x0,x1,x2⟩:=(H.out.blk 0 rfl).three
 obtain ⟨e0,e1,d0,d1⟩:=(H.out.blk 1 rfl).two
 clear hb
 go_upto_region 13 with fail
 have HM:=Lib.hid (Fo.nil w.heap.size _:Fo w.heap.size [] (w1.alloc (.cells #[.int .i64 (rpF 2 3).kind,.int .i64 (rpF 2 3).reg,.int .i64 (rpF 2 3).n] 93)).drew)
 have Hn:=Lib.hid H.out.drew
 clear H
 have H:=Hn
 clear Hn
 obtain ⟨f0,f1,f2,_,_,_⟩:=(H.out.blk 0 rfl).three
 have n1:¬w1.heap.size=w.heap.size:=by have:=LT1.out;omega
 have n2:¬w.heap.size=w1.heap.size:=fun e=>n1 e.symm
 go_region_held3 (fun w'=>w'.cell? ⟨w1.heap.size,0,none⟩=some (.int .i64 (rpF 2 3).kind)∧w'.cell? ⟨w1.heap.size,1,none⟩=some (.int .i64 (rpF 2 3).reg)∧w'.cell? ⟨w1.heap.size,2,none⟩=some (.int .i64 (rpF 2 3).n)) (go_keep)
  (first
   | (go_at_call 120;refine (rp_any _ _ _).mono ?_;rintro e w' ⟨rfl,hb⟩;clear f0 f1 f2;have Hn:=Lib.hid (H.out.next hb);have HMn:=Lib.hid (HM.out.next hb);clear H HM hb;have H:=Hn;have HM:=HMn;clear Hn HMn;obtain ⟨f0,f1,f2,_,_,_⟩:=(H.out.blk 0 rfl).three)
   | (go_at_call 119;refine (imm9_any _ _).mono ?_;rintro e w' ⟨rfl,hb⟩;clear f0 f1 f2;have Hn:=Lib.hid (H.out.next hb);have HMn:=Lib.hid (HM.out.next hb);clear H HM hb;have H:=Hn;have HM:=HMn;clear Hn HMn;obtain ⟨f0,f1,f2,_,_,_⟩:=(H.out.blk 0 rfl).three)
   | (go_at_call 122;refine (mem9_any _).mono ?_;rintro e w' ⟨rfl,hb⟩;clear f0 f1 f2;have Hn:=Lib.hid (H.out.next hb);have HMn:=Lib.hid (HM.out.next hb);clear H HM hb;have H:=Hn;have HM:=HMn;clear Hn HMn;obtain ⟨f0,f1,f2,_,_,_⟩:=(H.out.blk 0 rfl).three)
   | (go_at_call 121;refine (ind9_any _ _).mono ?_;rintro e w' ⟨rfl,hb⟩;clear f0 f1 f2;have Hn:=Lib.hid (H.out.next hb);have HMn:=Lib.hid (HM.out.next hb);clear H HM hb;have H:=Hn;have HM:=HMn;clear Hn HMn;obtain ⟨f0,f1,f2,_,_,_⟩:=(H.out.blk 0 rfl).three)
   | (go_at_call 123;refine (acc9_any _).mono ?_;rintro e w' ⟨rfl,hb⟩;clear f0 f1 f2;have Hn:=Lib.hid (H.out.next hb);have HMn:=Lib.hid (HM.out.next hb);clear H HM hb;have H:=Hn;have HM:=HMn;clear Hn HMn;obtain ⟨f0,f1,f2,_,_,_⟩:=(H.out.blk 0 rfl).three)
   | (go_at_call 118;refine (one_any _ _).mono ?_;rintro e w' ⟨v,rfl,ho,hb⟩;obtain ⟨va,vc,rfl⟩:=ho.form;clear f0 f1 f2;have HMn:=Lib.hid ((HM.out.next hb).add (ho.mono (r:=fun k=>w.heap.size < k) (fun k hk=>Nat.lt_of_lt_of_le (H.out.blk 1 rfl).lt hk)));have Hn:=Lib.hid (H.out.next hb);clear H HM ho hb;have H:=Hn;have HM:=HMn;clear Hn HMn;obtain ⟨f0,f1,f2,_,_,_⟩:=(H.out.blk 0 rfl).three)
   | (go_at_call 115;refine (two_any _ _ _).mono ?_;rintro e w' ⟨v,rfl,ho,hb⟩;obtain ⟨va,vc,rfl⟩:=ho.form;clear f0 f1 f2;have HMn:=Lib.hid ((HM.out.next hb).add (ho.mono (r:=fun k=>w.heap.size < k) (fun k hk=>Nat.lt_of_lt_of_le (H.out.blk 1 rfl).lt hk)));have Hn:=Lib.hid (H.out.next hb);clear H HM ho hb;have H:=Hn;have HM:=HMn;clear Hn HMn;obtain ⟨f0,f1,f2,_,_,_⟩:=(H.out.blk 0 rfl).three)
   | (go_at_call 114;with_reducible refine (ins9_any _ none 0 0 _ (opdOwn_none _ (fun k=>w.heap.size < k))).mono ?_;rintro e w' ⟨rfl,ho,hb⟩;clear f0 f1 f2;clear ho;have Hn:=Lib.hid (H.out.next hb);have HMn:=Lib.hid (HM.out.next hb);clear H HM hb;have H:=Hn;have HM:=HMn;clear Hn HMn;obtain ⟨f0,f1,f2,_,_,_⟩:=(H.out.blk 0 rfl).three)
   | (go_at_call 114;with_reducible refine (ins9_any _ _ _ _ _ (HM.out.get 0 rfl)).mono ?_;rintro e w' ⟨rfl,ho,hb⟩;clear f0 f1 f2;clear ho;have Hn:=Lib.hid (H.out.next hb);have HMn:=Lib.hid (HM.out.next hb);clear H HM hb;have H:=Hn;have HM:=HMn;clear Hn HMn;obtain ⟨f0,f1,f2,_,_,_⟩:=(H.out.blk 0 rfl).three))
 clear f0 f1 f2
 go_wp2
 have n3:=(H.out.blk 1 rfl).lt
 obtain ⟨e0,e1,d0,d1⟩:=(H.out.blk 1 rfl).two
 go_region
 all_goals go_wp2
 all_goals have n3:=(H.out.blk 1 rfl).lt
 all_goals have HV:OpdOwn w' (fun k=>w.heap.size < k) (.slice _ 0 _) []:=(opdOwn_none _ (fun k=>w.heap.size < k))
 all_goals obtain ⟨h1,h2⟩:=put_ins2 (x:=.string ⟨#[68,73]⟩) H.out.below HV (fun k hk=>hk) (Nat.le_refl _)
 all_goals refine bodyPost_ret (insE_end rfl rfl (((((H.out.blk 1 rfl).set 0 _).set 1 _).alloc _).alloc _).drew) rfl ⟨_,rfl,h1.below ?_,?_⟩
 all_goals (repeat' (first | (with_reducible exact Below.refl _ _) | (with_reducible assumption) | (with_reducible refine Below.alloc ?_ ?_ _) | (with_reducible refine Below.drew ?_) | (with_reducible refine Below.setCell ?_ ?_ _) | (with_reducible exact Nat.le_refl _) | omega | (simp;done) | (simp;omega)))
theorem high_3_7 (w:World):Calls Tryz.prog 117 #[.int .i64 7,.int .i64 3] w (InsE w ⟨#[69,73]⟩ [] ⟨#[]⟩):=by
 have H0:=Lib.hid ((Fr.start w).new' 27 #[.string ⟨#[]⟩,.slice none 0 0] rfl)
 go_enter Tryz.func117,Tryz.ntmps117
 go_wp2_with fail
 refine (rp_any 2 3 _).mono ?_
 rintro e w1 ⟨rfl,hb⟩
 have LT1:=Lib.hid (((H0.out.next hb).blk 0 rfl).lt)
 have H:=Lib.hid ((H0.out.next hb).new' 93 #[.int .i64 (rpF 2 3).kind,.int .i64 (rpF 2 3).reg,.int .i64 (rpF 2 3).n] rfl)
 obtain ⟨f0,f1,f2,x0,x1,x2⟩:=(H.out.blk 0 rfl).three
 obtain ⟨e0,e1,d0,d1⟩:=(H.out.blk 1 rfl).two
 clear hb
 go_upto_region 13 with fail
 have HM:=Lib.hid (Fo.nil w.heap.size _:Fo w.heap.size [] (w1.alloc (.cells #[.int .i64 (rpF 2 3).kind,.int .i64 (rpF 2 3).reg,.int .i64 (rpF 2 3).n] 93)).drew)
 have Hn:=Lib.hid H.out.drew
 clear H
 have H:=Hn
 clear Hn
 obtain ⟨f0,f1,f2,_,_,_⟩:=(H.out.blk 0 rfl).three
 have n1:¬w1.heap.size=w.heap.size:=by have:=LT1.out;omega
 have n2:¬w.heap.size=w1.heap.size:=fun e=>n1 e.symm
 go_region_held3 (fun w'=>w'.cell? ⟨w1.heap.size,0,none⟩=some (.int .i64 (rpF 2 3).kind)∧w'.cell? ⟨w1.heap.size,1,none⟩=some (.int .i64 (rpF 2 3).reg)∧w'.cell? ⟨w1.heap.size,2,none⟩=some (.int .i64 (rpF 2 3).n)) (go_keep)
  (first
   | (go_at_call 120;refine (rp_any _ _ _).mono ?_;rintro e w' ⟨rfl,hb⟩;clear f0 f1 f2;have Hn:=Lib.hid (H.out.next hb);have HMn:=Lib.hid (HM.out.next hb);clear H HM hb;have H:=Hn;have HM:=HMn;clear Hn HMn;obtain ⟨f0,f1,f2,_,_,_⟩:=(H.out.blk 0 rfl).three)
   | (go_at_call 119;refine (imm9_any _ _).mono ?_;rintro e w' ⟨rfl,hb⟩;clear f0 f1 f2;have Hn:=Lib.hid (H.out.next hb);have HMn:=Lib.hid (HM.out.next hb);clear H HM hb;have H:=Hn;have HM:=HMn;clear Hn HMn;obtain ⟨f0,f1,f2,_,_,_⟩:=(H.out.blk 0 rfl).three)
   | (go_at_call 122;refine (mem9_any _).mono ?_;rintro e w' ⟨rfl,hb⟩;clear f0 f1 f2;have Hn:=Lib.hid (H.out.next hb);have HMn:=Lib.hid (HM.out.next hb);clear H HM hb;have H:=Hn;have HM:=HMn;clear Hn HMn;obtain ⟨f0,f1,f2,_,_,_⟩:=(H.out.blk 0 rfl).three)
   | (go_at_call 121;refine (ind9_any _ _).mono ?_;rintro e w' ⟨rfl,hb⟩;clear f0 f1 f2;have Hn:=Lib.hid (H.out.next hb);have HMn:=Lib.hid (HM.out.next hb);clear H HM hb;have H:=Hn;have HM:=HMn;clear Hn HMn;obtain ⟨f0,f1,f2,_,_,_⟩:=(H.out.blk 0 rfl).three)
   | (go_at_call 123;refine (acc9_any _).mono ?_;rintro e w' ⟨rfl,hb⟩;clear f0 f1 f2;have Hn:=Lib.hid (H.out.next hb);have HMn:=Lib.hid (HM.out.next hb);clear H HM hb;have H:=Hn;have HM:=HMn;clear Hn HMn;obtain ⟨f0,f1,f2,_,_,_⟩:=(H.out.blk 0 rfl).three)
   | (go_at_call 118;refine (one_any _ _).mono ?_;rintro e w' ⟨v,rfl,ho,hb⟩;obtain ⟨va,vc,rfl⟩:=ho.form;clear f0 f1 f2;have HMn:=Lib.hid ((HM.out.next hb).add (ho.mono (r:=fun k=>w.heap.size < k) (fun k hk=>Nat.lt_of_lt_of_le (H.out.blk 1 rfl).lt hk)));have Hn:=Lib.hid (H.out.next hb);clear H HM ho hb;have H:=Hn;have HM:=HMn;clear Hn HMn;obtain ⟨f0,f1,f2,_,_,_⟩:=(H.out.blk 0 rfl).three)
   | (go_at_call 115;refine (two_any _ _ _).mono ?_;rintro e w' ⟨v,rfl,ho,hb⟩;obtain ⟨va,vc,rfl⟩:=ho.form;clear f0 f1 f2;have HMn:=Lib.hid ((HM.out.next hb).add (ho.mono (r:=fun k=>w.heap.size < k) (fun k hk=>Nat.lt_of_lt_of_le (H.out.blk 1 rfl).lt hk)));have Hn:=Lib.hid (H.out.next hb);clear H HM ho hb;have H:=Hn;have HM:=HMn;clear Hn HMn;obtain ⟨f0,f1,f2,_,_,_⟩:=(H.out.blk 0 rfl).three)
   | (go_at_call 114;with_reducible refine (ins9_any _ none 0 0 _ (opdOwn_none _ (fun k=>w.heap.size < k))).mono ?_;rintro e w' ⟨rfl,ho,hb⟩;clear f0 f1 f2;clear ho;have Hn:=Lib.hid (H.out.next hb);have HMn:=Lib.hid (HM.out.next hb);clear H HM hb;have H:=Hn;have HM:=HMn;clear Hn HMn;obtain ⟨f0,f1,f2,_,_,_⟩:=(H.out.blk 0 rfl).three)
   | (go_at_call 114;with_reducible refine (ins9_any _ _ _ _ _ (HM.out.get 0 rfl)).mono ?_;rintro e w' ⟨rfl,ho,hb⟩;clear f0 f1 f2;clear ho;have Hn:=Lib.hid (H.out.next hb);have HMn:=Lib.hid (HM.out.next hb);clear H HM hb;have H:=Hn;have HM:=HMn;clear Hn HMn;obtain ⟨f0,f1,f2,_,_,_⟩:=(H.out.blk 0 rfl).three))
 clear f0 f1 f2
 go_wp2
 have n3:=(H.out.blk 1 rfl).lt
 obtain ⟨e0,e1,d0,d1⟩:=(H.out.blk 1 rfl).two
 go_region
 all_goals go_wp2
 all_goals have n3:=(H.out.blk 1 rfl).lt
 all_goals have HV:OpdOwn w' (fun k=>w.heap.size < k) (.slice _ 0 _) []:=(opdOwn_none _ (fun k=>w.heap.size < k))
 all_goals obtain ⟨h1,h2⟩:=put_ins2 (x:=.string ⟨#[69,73]⟩) H.out.below HV (fun k hk=>hk) (Nat.le_refl _)
 all_goals refine bodyPost_ret (insE_end rfl rfl (((((H.out.blk 1 rfl).set 0 _).set 1 _).alloc _).alloc _).drew) rfl ⟨_,rfl,h1.below ?_,?_⟩
 all_goals (repeat' (first | (with_reducible exact Below.refl _ _) | (with_reducible assumption) | (with_reducible refine Below.alloc ?_ ?_ _) | (with_reducible refine Below.drew ?_) | (with_reducible refine Below.setCell ?_ ?_ _) | (with_reducible exact Nat.le_refl _) | omega | (simp;done) | (simp;omega)))
end Go.Proofs.YtnbmbcjnncbaiaaGreatDoor
