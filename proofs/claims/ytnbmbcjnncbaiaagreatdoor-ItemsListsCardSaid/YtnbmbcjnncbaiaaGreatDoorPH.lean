/-
  The reference's instructions of x = 3. Conditions: none.
-/
import Derived.Test.YtnbmbcjnncbaiaaGreatDoorPG
namespace Go.Proofs.YtnbmbcjnncbaiaaGreatDoor
set_option maxHeartbeats 4000000
set_option maxRecDepth 100000
open Go.RowKit Go.Shelf Go.Sort
def aluF (y:Int):ByteArray × Bool:=
 if y=0 then (⟨#[65,68,68]⟩,true) else if y=1 then (⟨#[65,68,67]⟩,true) else if y=2 then (⟨#[83,85,66]⟩,false) else if y=3 then (⟨#[83,66,67]⟩,true) else if y=4 then (⟨#[65,78,68]⟩,false) else if y=5 then (⟨#[88,79,82]⟩,false) else if y=6 then (⟨#[79,82]⟩,false) else (⟨#[67,80]⟩,false)
theorem alu_any (y:Int) (o:Opd) (w:World) (h0:0≤y) (h8:y < 8):Calls Tryz.prog 116 #[.int .i64 y,.agg #[.int .i64 o.kind,.int .i64 o.reg,.int .i64 o.n]] w (InsP w (aluF y).1 (if (aluF y).2 then [accO,o] else [o])):=by
 have:y=0∨y=1∨y=2∨y=3∨y=4∨y=5∨y=6∨y=7:=by omega
 rcases this with rfl | rfl | rfl | rfl | rfl | rfl | rfl | rfl
 ·exact alu_0 o w
 ·exact alu_1 o w
 ·exact alu_2 o w
 ·exact alu_3 o w
 ·exact alu_4 o w
 ·exact alu_5 o w
 ·exact alu_6 o w
 ·exact alu_7 o w
theorem high_0 (y:Int) (h0:0≤y) (h8:y < 8) (w:World):Calls Tryz.prog 117 #[.int .i64 y,.int .i64 0] w (InsE w ⟨#[82,69,84]⟩ [ccO y] ⟨#[]⟩):=by
 have H0:=Lib.hid ((Fr.start w).new' 27 #[.string ⟨#[]⟩,.slice none 0 0] rfl)
 go_enter Tryz.func117,Tryz.ntmps117
 go_wp2_with fail
 refine (rp_any 2 3 _).mono ?_
 rintro e w1 ⟨rfl,hb⟩
 have LT1:=Lib.hid (((H0.out.next hb).blk 0 rfl).lt)
 have H:=Lib.hid ((H0.out.next hb).new' 93 #[.int .i64 (rpF 2 3).kind,.int .i64 (rpF 2 3).reg,.int .i64 (rpF 2 3).n] rfl)
 obtain ⟨e0,e1,d0,d1⟩:=(H.out.blk 1 rfl).two
 clear hb
 go_wp2_with (first
  | (go_at_call 152;refine (frO H (cc9_any _ _)).mono ?_;rintro e w' ⟨rfl,H⟩)
  | (go_at_call 118;refine (frL H 1 rfl (one_any _ _)).mono ?_;rintro e w' ⟨va,vc,rfl,HO,H⟩)
  | (go_at_call 114;refine (frI H (ins9_any _ _ _ _ _ HO.out)).mono ?_;rintro e w' ⟨rfl,HO,H⟩;obtain ⟨e0,e1,d0,d1⟩:=(H.out.blk 1 rfl).two))
 obtain ⟨h1,h2⟩:=put_ins (x:=.string ⟨#[82,69,84]⟩) (y:=.slice va 1 vc) H.out.below HO.out (fun k hk=>hk) (Nat.le_refl _)
 exact bodyPost_ret (insE_end rfl rfl (((H.out.blk 1 rfl).set 0 _).set 1 _)) rfl ⟨_,rfl,h1,h2⟩
theorem high_1_0 (y:Int) (h0:0≤y) (h8:y < 8) (hq:y % 2=0) (w:World):Calls Tryz.prog 117 #[.int .i64 y,.int .i64 1] w (InsE w ⟨#[80,79,80]⟩ [rpF (y / 2) 4] ⟨#[]⟩):=by
 have H0:=Lib.hid ((Fr.start w).new' 27 #[.string ⟨#[]⟩,.slice none 0 0] rfl)
 go_enter Tryz.func117,Tryz.ntmps117
 go_wp2_with fail
 refine (rp_any 2 3 _).mono ?_
 rintro e w1 ⟨rfl,hb⟩
 have LT1:=Lib.hid (((H0.out.next hb).blk 0 rfl).lt)
 have H:=Lib.hid ((H0.out.next hb).new' 93 #[.int .i64 (rpF 2 3).kind,.int .i64 (rpF 2 3).reg,.int .i64 (rpF 2 3).n] rfl)
 obtain ⟨e0,e1,d0,d1⟩:=(H.out.blk 1 rfl).two
 clear hb
 go_wp2_with (first
  | (go_at_call 120;refine (frO H (rp_any _ _ _)).mono ?_;rintro e w' ⟨rfl,H⟩)
  | (go_at_call 118;refine (frL H 1 rfl (one_any _ _)).mono ?_;rintro e w' ⟨va,vc,rfl,HO,H⟩)
  | (go_at_call 114;refine (frI H (ins9_any _ _ _ _ _ HO.out)).mono ?_;rintro e w' ⟨rfl,HO,H⟩;obtain ⟨e0,e1,d0,d1⟩:=(H.out.blk 1 rfl).two))
 obtain ⟨h1,h2⟩:=put_ins (x:=.string ⟨#[80,79,80]⟩) (y:=.slice va 1 vc) H.out.below HO.out (fun k hk=>hk) (Nat.le_refl _)
 exact bodyPost_ret (insE_end rfl rfl (((H.out.blk 1 rfl).set 0 _).set 1 _)) rfl ⟨_,rfl,h1,h2⟩
theorem high_1_1 (w:World):Calls Tryz.prog 117 #[.int .i64 1,.int .i64 1] w (InsE w ⟨#[82,69,84]⟩ [] ⟨#[]⟩):=by
 have H0:=Lib.hid ((Fr.start w).new' 27 #[.string ⟨#[]⟩,.slice none 0 0] rfl)
 go_enter Tryz.func117,Tryz.ntmps117
 go_wp2_with fail
 refine (rp_any 2 3 _).mono ?_
 rintro e w1 ⟨rfl,hb⟩
 have LT1:=Lib.hid (((H0.out.next hb).blk 0 rfl).lt)
 have H:=Lib.hid ((H0.out.next hb).new' 93 #[.int .i64 (rpF 2 3).kind,.int .i64 (rpF 2 3).reg,.int .i64 (rpF 2 3).n] rfl)
 obtain ⟨f0,f1,f2,x0,x1,x2⟩:=(H.out.blk 0 rfl).three
 obtain ⟨e0,e1,d0,d1⟩:=(H.out.blk 1 rfl).two
 clear hb
 go_upto_region 9 with fail
 have HM:=Lib.hid (Fo.nil w.heap.size _:Fo w.heap.size [] (w1.alloc (.cells #[.int .i64 (rpF 2 3).kind,.int .i64 (rpF 2 3).reg,.int .i64 (rpF 2 3).n] 93)).drew)
 have Hn:=Lib.hid H.out.drew
 clear H
 have H:=Hn
 clear Hn
 obtain ⟨f0,f1,f2,_,_,_⟩:=(H.out.blk 0 rfl).three
 have n1:¬w1.heap.size=w.heap.size:=by have:=LT1.out;omega
 have n2:¬w.heap.size=w1.heap.size:=fun e=>n1 e.symm
 obtain ⟨e0,e1,d0,d1⟩:=(H.out.blk 1 rfl).two
 have n3:=LT1.out
 have k2:IntKind.i64.wrap 0=0:=by decide
 go_region_law ((go_simp;(first
   | (go_at_call 120;refine (rp_any _ _ _).mono ?_;rintro e w' ⟨rfl,hb⟩;clear f0 f1 f2 e0 e1 d0 d1 n3;have Hn:=Lib.hid (H.out.next hb);have HMn:=Lib.hid (HM.out.next hb);clear H HM hb;have H:=Hn;have HM:=HMn;clear Hn HMn;obtain ⟨f0,f1,f2,_,_,_⟩:=(H.out.blk 0 rfl).three;obtain ⟨e0,e1,d0,d1⟩:=(H.out.blk 1 rfl).two;have n3:=(H.out.blk 1 rfl).lt)
   | (go_at_call 121;refine (ind9_any _ _).mono ?_;rintro e w' ⟨rfl,hb⟩;clear f0 f1 f2 e0 e1 d0 d1 n3;have Hn:=Lib.hid (H.out.next hb);have HMn:=Lib.hid (HM.out.next hb);clear H HM hb;have H:=Hn;have HM:=HMn;clear Hn HMn;obtain ⟨f0,f1,f2,_,_,_⟩:=(H.out.blk 0 rfl).three;obtain ⟨e0,e1,d0,d1⟩:=(H.out.blk 1 rfl).two;have n3:=(H.out.blk 1 rfl).lt)
   | (go_at_call 118;refine (one_any _ _).mono ?_;rintro e w' ⟨v,rfl,ho,hb⟩;obtain ⟨va,vc,rfl⟩:=ho.form;clear f0 f1 f2 e0 e1 d0 d1 n3;have HMn:=Lib.hid ((HM.out.next hb).add (ho.mono (r:=fun k=>w.heap.size < k) (fun k hk=>Nat.lt_of_lt_of_le (H.out.blk 1 rfl).lt hk)));have Hn:=Lib.hid (H.out.next hb);clear H HM ho hb;have H:=Hn;have HM:=HMn;clear Hn HMn;obtain ⟨f0,f1,f2,_,_,_⟩:=(H.out.blk 0 rfl).three;obtain ⟨e0,e1,d0,d1⟩:=(H.out.blk 1 rfl).two;have n3:=(H.out.blk 1 rfl).lt)
   | (go_at_call 115;refine (two_any _ _ _).mono ?_;rintro e w' ⟨v,rfl,ho,hb⟩;obtain ⟨va,vc,rfl⟩:=ho.form;clear f0 f1 f2 e0 e1 d0 d1 n3;have HMn:=Lib.hid ((HM.out.next hb).add (ho.mono (r:=fun k=>w.heap.size < k) (fun k hk=>Nat.lt_of_lt_of_le (H.out.blk 1 rfl).lt hk)));have Hn:=Lib.hid (H.out.next hb);clear H HM ho hb;have H:=Hn;have HM:=HMn;clear Hn HMn;obtain ⟨f0,f1,f2,_,_,_⟩:=(H.out.blk 0 rfl).three;obtain ⟨e0,e1,d0,d1⟩:=(H.out.blk 1 rfl).two;have n3:=(H.out.blk 1 rfl).lt)
   | (go_at_call 114;with_reducible refine (ins9_any _ none 0 0 _ (opdOwn_none _ (fun k=>w.heap.size < k))).mono ?_;rintro e w' ⟨rfl,ho,hb⟩;clear f0 f1 f2 e0 e1 d0 d1 n3;clear ho;have Hn:=Lib.hid (H.out.next hb);have HMn:=Lib.hid (HM.out.next hb);clear H HM hb;have H:=Hn;have HM:=HMn;clear Hn HMn;obtain ⟨f0,f1,f2,_,_,_⟩:=(H.out.blk 0 rfl).three;obtain ⟨e0,e1,d0,d1⟩:=(H.out.blk 1 rfl).two;have n3:=(H.out.blk 1 rfl).lt)
   | (go_at_call 114;with_reducible refine (ins9_any _ _ _ _ _ (HM.out.get 0 rfl)).mono ?_;rintro e w' ⟨rfl,ho,hb⟩;clear f0 f1 f2 e0 e1 d0 d1 n3;clear ho;have Hn:=Lib.hid (H.out.next hb);have HMn:=Lib.hid (HM.out.next hb);clear H HM hb;have H:=Hn;have HM:=HMn;clear Hn HMn;obtain ⟨f0,f1,f2,_,_,_⟩:=(H.out.blk 0 rfl).three;obtain ⟨e0,e1,d0,d1⟩:=(H.out.blk 1 rfl).two;have n3:=(H.out.blk 1 rfl).lt));dsimp only))
 all_goals go_wp2
 all_goals have n3:=(H.out.blk 1 rfl).lt
 all_goals have HV:OpdOwn w' (fun k=>w.heap.size < k) (.slice _ 0 _) []:=(opdOwn_none _ (fun k=>w.heap.size < k))
 all_goals obtain ⟨h1,h2⟩:=put_ins2 (x:=.string ⟨#[82,69,84]⟩) H.out.below HV (fun k hk=>hk) (Nat.le_refl _)
 all_goals refine bodyPost_ret (insE_end rfl rfl ((((H.out.blk 1 rfl).set 0 _).set 1 _).alloc _).drew) rfl ⟨_,rfl,h1.below ?_,?_⟩
 all_goals (repeat' (first | (with_reducible exact Below.refl _ _) | (with_reducible assumption) | (with_reducible refine Below.alloc ?_ ?_ _) | (with_reducible refine Below.drew ?_) | (with_reducible refine Below.setCell ?_ ?_ _) | (with_reducible exact Nat.le_refl _) | omega | (simp;done) | (simp;omega)))
theorem high_1_3 (w:World):Calls Tryz.prog 117 #[.int .i64 3,.int .i64 1] w (InsE w ⟨#[69,88,88]⟩ [] ⟨#[]⟩):=by
 have H0:=Lib.hid ((Fr.start w).new' 27 #[.string ⟨#[]⟩,.slice none 0 0] rfl)
 go_enter Tryz.func117,Tryz.ntmps117
 go_wp2_with fail
 refine (rp_any 2 3 _).mono ?_
 rintro e w1 ⟨rfl,hb⟩
 have LT1:=Lib.hid (((H0.out.next hb).blk 0 rfl).lt)
 have H:=Lib.hid ((H0.out.next hb).new' 93 #[.int .i64 (rpF 2 3).kind,.int .i64 (rpF 2 3).reg,.int .i64 (rpF 2 3).n] rfl)
 obtain ⟨f0,f1,f2,x0,x1,x2⟩:=(H.out.blk 0 rfl).three
 obtain ⟨e0,e1,d0,d1⟩:=(H.out.blk 1 rfl).two
 clear hb
 go_upto_region 9 with fail
 have HM:=Lib.hid (Fo.nil w.heap.size _:Fo w.heap.size [] (w1.alloc (.cells #[.int .i64 (rpF 2 3).kind,.int .i64 (rpF 2 3).reg,.int .i64 (rpF 2 3).n] 93)).drew)
 have Hn:=Lib.hid H.out.drew
 clear H
 have H:=Hn
 clear Hn
 obtain ⟨f0,f1,f2,_,_,_⟩:=(H.out.blk 0 rfl).three
 have n1:¬w1.heap.size=w.heap.size:=by have:=LT1.out;omega
 have n2:¬w.heap.size=w1.heap.size:=fun e=>n1 e.symm
 obtain ⟨e0,e1,d0,d1⟩:=(H.out.blk 1 rfl).two
 have n3:=LT1.out
 have k2:IntKind.i64.wrap 1=1:=by decide
 go_region_law ((go_simp;(first
   | (go_at_call 120;refine (rp_any _ _ _).mono ?_;rintro e w' ⟨rfl,hb⟩;clear f0 f1 f2 e0 e1 d0 d1 n3;have Hn:=Lib.hid (H.out.next hb);have HMn:=Lib.hid (HM.out.next hb);clear H HM hb;have H:=Hn;have HM:=HMn;clear Hn HMn;obtain ⟨f0,f1,f2,_,_,_⟩:=(H.out.blk 0 rfl).three;obtain ⟨e0,e1,d0,d1⟩:=(H.out.blk 1 rfl).two;have n3:=(H.out.blk 1 rfl).lt)
   | (go_at_call 121;refine (ind9_any _ _).mono ?_;rintro e w' ⟨rfl,hb⟩;clear f0 f1 f2 e0 e1 d0 d1 n3;have Hn:=Lib.hid (H.out.next hb);have HMn:=Lib.hid (HM.out.next hb);clear H HM hb;have H:=Hn;have HM:=HMn;clear Hn HMn;obtain ⟨f0,f1,f2,_,_,_⟩:=(H.out.blk 0 rfl).three;obtain ⟨e0,e1,d0,d1⟩:=(H.out.blk 1 rfl).two;have n3:=(H.out.blk 1 rfl).lt)
   | (go_at_call 118;refine (one_any _ _).mono ?_;rintro e w' ⟨v,rfl,ho,hb⟩;obtain ⟨va,vc,rfl⟩:=ho.form;clear f0 f1 f2 e0 e1 d0 d1 n3;have HMn:=Lib.hid ((HM.out.next hb).add (ho.mono (r:=fun k=>w.heap.size < k) (fun k hk=>Nat.lt_of_lt_of_le (H.out.blk 1 rfl).lt hk)));have Hn:=Lib.hid (H.out.next hb);clear H HM ho hb;have H:=Hn;have HM:=HMn;clear Hn HMn;obtain ⟨f0,f1,f2,_,_,_⟩:=(H.out.blk 0 rfl).three;obtain ⟨e0,e1,d0,d1⟩:=(H.out.blk 1 rfl).two;have n3:=(H.out.blk 1 rfl).lt)
   | (go_at_call 115;refine (two_any _ _ _).mono ?_;rintro e w' ⟨v,rfl,ho,hb⟩;obtain ⟨va,vc,rfl⟩:=ho.form;clear f0 f1 f2 e0 e1 d0 d1 n3;have HMn:=Lib.hid ((HM.out.next hb).add (ho.mono (r:=fun k=>w.heap.size < k) (fun k hk=>Nat.lt_of_lt_of_le (H.out.blk 1 rfl).lt hk)));have Hn:=Lib.hid (H.out.next hb);clear H HM ho hb;have H:=Hn;have HM:=HMn;clear Hn HMn;obtain ⟨f0,f1,f2,_,_,_⟩:=(H.out.blk 0 rfl).three;obtain ⟨e0,e1,d0,d1⟩:=(H.out.blk 1 rfl).two;have n3:=(H.out.blk 1 rfl).lt)
   | (go_at_call 114;with_reducible refine (ins9_any _ none 0 0 _ (opdOwn_none _ (fun k=>w.heap.size < k))).mono ?_;rintro e w' ⟨rfl,ho,hb⟩;clear f0 f1 f2 e0 e1 d0 d1 n3;clear ho;have Hn:=Lib.hid (H.out.next hb);have HMn:=Lib.hid (HM.out.next hb);clear H HM hb;have H:=Hn;have HM:=HMn;clear Hn HMn;obtain ⟨f0,f1,f2,_,_,_⟩:=(H.out.blk 0 rfl).three;obtain ⟨e0,e1,d0,d1⟩:=(H.out.blk 1 rfl).two;have n3:=(H.out.blk 1 rfl).lt)
   | (go_at_call 114;with_reducible refine (ins9_any _ _ _ _ _ (HM.out.get 0 rfl)).mono ?_;rintro e w' ⟨rfl,ho,hb⟩;clear f0 f1 f2 e0 e1 d0 d1 n3;clear ho;have Hn:=Lib.hid (H.out.next hb);have HMn:=Lib.hid (HM.out.next hb);clear H HM hb;have H:=Hn;have HM:=HMn;clear Hn HMn;obtain ⟨f0,f1,f2,_,_,_⟩:=(H.out.blk 0 rfl).three;obtain ⟨e0,e1,d0,d1⟩:=(H.out.blk 1 rfl).two;have n3:=(H.out.blk 1 rfl).lt));dsimp only))
 all_goals go_wp2
 all_goals have n3:=(H.out.blk 1 rfl).lt
 all_goals have HV:OpdOwn w' (fun k=>w.heap.size < k) (.slice _ 0 _) []:=(opdOwn_none _ (fun k=>w.heap.size < k))
 all_goals obtain ⟨h1,h2⟩:=put_ins2 (x:=.string ⟨#[69,88,88]⟩) H.out.below HV (fun k hk=>hk) (Nat.le_refl _)
 all_goals refine bodyPost_ret (insE_end rfl rfl ((((H.out.blk 1 rfl).set 0 _).set 1 _).alloc _).drew) rfl ⟨_,rfl,h1.below ?_,?_⟩
 all_goals (repeat' (first | (with_reducible exact Below.refl _ _) | (with_reducible assumption) | (with_reducible refine Below.alloc ?_ ?_ _) | (with_reducible refine Below.drew ?_) | (with_reducible refine Below.setCell ?_ ?_ _) | (with_reducible exact Nat.le_refl _) | omega | (simp;done) | (simp;omega)))
theorem high_1_5 (w:World):Calls Tryz.prog 117 #[.int .i64 5,.int .i64 1] w (InsE w ⟨#[74,80]⟩ [indO 2] ⟨#[]⟩):=by
 have H0:=Lib.hid ((Fr.start w).new' 27 #[.string ⟨#[]⟩,.slice none 0 0] rfl)
 go_enter Tryz.func117,Tryz.ntmps117
 go_wp2_with fail
 refine (rp_any 2 3 _).mono ?_
 rintro e w1 ⟨rfl,hb⟩
 have LT1:=Lib.hid (((H0.out.next hb).blk 0 rfl).lt)
 have H:=Lib.hid ((H0.out.next hb).new' 93 #[.int .i64 (rpF 2 3).kind,.int .i64 (rpF 2 3).reg,.int .i64 (rpF 2 3).n] rfl)
 obtain ⟨f0,f1,f2,x0,x1,x2⟩:=(H.out.blk 0 rfl).three
 obtain ⟨e0,e1,d0,d1⟩:=(H.out.blk 1 rfl).two
 clear hb
 go_upto_region 9 with fail
 have HM:=Lib.hid (Fo.nil w.heap.size _:Fo w.heap.size [] (w1.alloc (.cells #[.int .i64 (rpF 2 3).kind,.int .i64 (rpF 2 3).reg,.int .i64 (rpF 2 3).n] 93)).drew)
 have Hn:=Lib.hid H.out.drew
 clear H
 have H:=Hn
 clear Hn
 obtain ⟨f0,f1,f2,_,_,_⟩:=(H.out.blk 0 rfl).three
 have n1:¬w1.heap.size=w.heap.size:=by have:=LT1.out;omega
 have n2:¬w.heap.size=w1.heap.size:=fun e=>n1 e.symm
 obtain ⟨e0,e1,d0,d1⟩:=(H.out.blk 1 rfl).two
 have n3:=LT1.out
 have k2:IntKind.i64.wrap 2=2:=by decide
 go_region_law ((go_simp;(first
   | (go_at_call 120;refine (rp_any _ _ _).mono ?_;rintro e w' ⟨rfl,hb⟩;clear f0 f1 f2 e0 e1 d0 d1 n3;have Hn:=Lib.hid (H.out.next hb);have HMn:=Lib.hid (HM.out.next hb);clear H HM hb;have H:=Hn;have HM:=HMn;clear Hn HMn;obtain ⟨f0,f1,f2,_,_,_⟩:=(H.out.blk 0 rfl).three;obtain ⟨e0,e1,d0,d1⟩:=(H.out.blk 1 rfl).two;have n3:=(H.out.blk 1 rfl).lt)
   | (go_at_call 121;refine (ind9_any _ _).mono ?_;rintro e w' ⟨rfl,hb⟩;clear f0 f1 f2 e0 e1 d0 d1 n3;have Hn:=Lib.hid (H.out.next hb);have HMn:=Lib.hid (HM.out.next hb);clear H HM hb;have H:=Hn;have HM:=HMn;clear Hn HMn;obtain ⟨f0,f1,f2,_,_,_⟩:=(H.out.blk 0 rfl).three;obtain ⟨e0,e1,d0,d1⟩:=(H.out.blk 1 rfl).two;have n3:=(H.out.blk 1 rfl).lt)
   | (go_at_call 118;refine (one_any _ _).mono ?_;rintro e w' ⟨v,rfl,ho,hb⟩;obtain ⟨va,vc,rfl⟩:=ho.form;clear f0 f1 f2 e0 e1 d0 d1 n3;have HMn:=Lib.hid ((HM.out.next hb).add (ho.mono (r:=fun k=>w.heap.size < k) (fun k hk=>Nat.lt_of_lt_of_le (H.out.blk 1 rfl).lt hk)));have Hn:=Lib.hid (H.out.next hb);clear H HM ho hb;have H:=Hn;have HM:=HMn;clear Hn HMn;obtain ⟨f0,f1,f2,_,_,_⟩:=(H.out.blk 0 rfl).three;obtain ⟨e0,e1,d0,d1⟩:=(H.out.blk 1 rfl).two;have n3:=(H.out.blk 1 rfl).lt)
   | (go_at_call 115;refine (two_any _ _ _).mono ?_;rintro e w' ⟨v,rfl,ho,hb⟩;obtain ⟨va,vc,rfl⟩:=ho.form;clear f0 f1 f2 e0 e1 d0 d1 n3;have HMn:=Lib.hid ((HM.out.next hb).add (ho.mono (r:=fun k=>w.heap.size < k) (fun k hk=>Nat.lt_of_lt_of_le (H.out.blk 1 rfl).lt hk)));have Hn:=Lib.hid (H.out.next hb);clear H HM ho hb;have H:=Hn;have HM:=HMn;clear Hn HMn;obtain ⟨f0,f1,f2,_,_,_⟩:=(H.out.blk 0 rfl).three;obtain ⟨e0,e1,d0,d1⟩:=(H.out.blk 1 rfl).two;have n3:=(H.out.blk 1 rfl).lt)
   | (go_at_call 114;with_reducible refine (ins9_any _ none 0 0 _ (opdOwn_none _ (fun k=>w.heap.size < k))).mono ?_;rintro e w' ⟨rfl,ho,hb⟩;clear f0 f1 f2 e0 e1 d0 d1 n3;clear ho;have Hn:=Lib.hid (H.out.next hb);have HMn:=Lib.hid (HM.out.next hb);clear H HM hb;have H:=Hn;have HM:=HMn;clear Hn HMn;obtain ⟨f0,f1,f2,_,_,_⟩:=(H.out.blk 0 rfl).three;obtain ⟨e0,e1,d0,d1⟩:=(H.out.blk 1 rfl).two;have n3:=(H.out.blk 1 rfl).lt)
   | (go_at_call 114;with_reducible refine (ins9_any _ _ _ _ _ (HM.out.get 0 rfl)).mono ?_;rintro e w' ⟨rfl,ho,hb⟩;clear f0 f1 f2 e0 e1 d0 d1 n3;clear ho;have Hn:=Lib.hid (H.out.next hb);have HMn:=Lib.hid (HM.out.next hb);clear H HM hb;have H:=Hn;have HM:=HMn;clear Hn HMn;obtain ⟨f0,f1,f2,_,_,_⟩:=(H.out.blk 0 rfl).three;obtain ⟨e0,e1,d0,d1⟩:=(H.out.blk 1 rfl).two;have n3:=(H.out.blk 1 rfl).lt));dsimp only))
 all_goals go_wp2
 all_goals have n3:=(H.out.blk 1 rfl).lt
 all_goals have HV:OpdOwn w' (fun k=>w.heap.size < k) (.slice _ 1 _) [indO 2]:=(HM.out.get 1 rfl)
 all_goals obtain ⟨h1,h2⟩:=put_ins2 (x:=.string ⟨#[74,80]⟩) H.out.below HV (fun k hk=>hk) (Nat.le_refl _)
 all_goals refine bodyPost_ret (insE_end rfl rfl ((((H.out.blk 1 rfl).set 0 _).set 1 _).alloc _).drew) rfl ⟨_,rfl,h1.below ?_,?_⟩
 all_goals (repeat' (first | (with_reducible exact Below.refl _ _) | (with_reducible assumption) | (with_reducible refine Below.alloc ?_ ?_ _) | (with_reducible refine Below.drew ?_) | (with_reducible refine Below.setCell ?_ ?_ _) | (with_reducible exact Nat.le_refl _) | omega | (simp;done) | (simp;omega)))
theorem high_1_7 (w:World):Calls Tryz.prog 117 #[.int .i64 7,.int .i64 1] w (InsE w ⟨#[76,68]⟩ [rpF 3 3,rpF 2 3] ⟨#[]⟩):=by
 have H0:=Lib.hid ((Fr.start w).new' 27 #[.string ⟨#[]⟩,.slice none 0 0] rfl)
 go_enter Tryz.func117,Tryz.ntmps117
 go_wp2_with fail
 refine (rp_any 2 3 _).mono ?_
 rintro e w1 ⟨rfl,hb⟩
 have LT1:=Lib.hid (((H0.out.next hb).blk 0 rfl).lt)
 have H:=Lib.hid ((H0.out.next hb).new' 93 #[.int .i64 (rpF 2 3).kind,.int .i64 (rpF 2 3).reg,.int .i64 (rpF 2 3).n] rfl)
 obtain ⟨f0,f1,f2,x0,x1,x2⟩:=(H.out.blk 0 rfl).three
 obtain ⟨e0,e1,d0,d1⟩:=(H.out.blk 1 rfl).two
 clear hb
 go_upto_region 9 with fail
 have HM:=Lib.hid (Fo.nil w.heap.size _:Fo w.heap.size [] (w1.alloc (.cells #[.int .i64 (rpF 2 3).kind,.int .i64 (rpF 2 3).reg,.int .i64 (rpF 2 3).n] 93)).drew)
 have Hn:=Lib.hid H.out.drew
 clear H
 have H:=Hn
 clear Hn
 obtain ⟨f0,f1,f2,_,_,_⟩:=(H.out.blk 0 rfl).three
 have n1:¬w1.heap.size=w.heap.size:=by have:=LT1.out;omega
 have n2:¬w.heap.size=w1.heap.size:=fun e=>n1 e.symm
 obtain ⟨e0,e1,d0,d1⟩:=(H.out.blk 1 rfl).two
 have n3:=LT1.out
 have k2:IntKind.i64.wrap 3=3:=by decide
 go_region_law ((go_simp;(first
   | (go_at_call 120;refine (rp_any _ _ _).mono ?_;rintro e w' ⟨rfl,hb⟩;clear f0 f1 f2 e0 e1 d0 d1 n3;have Hn:=Lib.hid (H.out.next hb);have HMn:=Lib.hid (HM.out.next hb);clear H HM hb;have H:=Hn;have HM:=HMn;clear Hn HMn;obtain ⟨f0,f1,f2,_,_,_⟩:=(H.out.blk 0 rfl).three;obtain ⟨e0,e1,d0,d1⟩:=(H.out.blk 1 rfl).two;have n3:=(H.out.blk 1 rfl).lt)
   | (go_at_call 121;refine (ind9_any _ _).mono ?_;rintro e w' ⟨rfl,hb⟩;clear f0 f1 f2 e0 e1 d0 d1 n3;have Hn:=Lib.hid (H.out.next hb);have HMn:=Lib.hid (HM.out.next hb);clear H HM hb;have H:=Hn;have HM:=HMn;clear Hn HMn;obtain ⟨f0,f1,f2,_,_,_⟩:=(H.out.blk 0 rfl).three;obtain ⟨e0,e1,d0,d1⟩:=(H.out.blk 1 rfl).two;have n3:=(H.out.blk 1 rfl).lt)
   | (go_at_call 118;refine (one_any _ _).mono ?_;rintro e w' ⟨v,rfl,ho,hb⟩;obtain ⟨va,vc,rfl⟩:=ho.form;clear f0 f1 f2 e0 e1 d0 d1 n3;have HMn:=Lib.hid ((HM.out.next hb).add (ho.mono (r:=fun k=>w.heap.size < k) (fun k hk=>Nat.lt_of_lt_of_le (H.out.blk 1 rfl).lt hk)));have Hn:=Lib.hid (H.out.next hb);clear H HM ho hb;have H:=Hn;have HM:=HMn;clear Hn HMn;obtain ⟨f0,f1,f2,_,_,_⟩:=(H.out.blk 0 rfl).three;obtain ⟨e0,e1,d0,d1⟩:=(H.out.blk 1 rfl).two;have n3:=(H.out.blk 1 rfl).lt)
   | (go_at_call 115;refine (two_any _ _ _).mono ?_;rintro e w' ⟨v,rfl,ho,hb⟩;obtain ⟨va,vc,rfl⟩:=ho.form;clear f0 f1 f2 e0 e1 d0 d1 n3;have HMn:=Lib.hid ((HM.out.next hb).add (ho.mono (r:=fun k=>w.heap.size < k) (fun k hk=>Nat.lt_of_lt_of_le (H.out.blk 1 rfl).lt hk)));have Hn:=Lib.hid (H.out.next hb);clear H HM ho hb;have H:=Hn;have HM:=HMn;clear Hn HMn;obtain ⟨f0,f1,f2,_,_,_⟩:=(H.out.blk 0 rfl).three;obtain ⟨e0,e1,d0,d1⟩:=(H.out.blk 1 rfl).two;have n3:=(H.out.blk 1 rfl).lt)
   | (go_at_call 114;with_reducible refine (ins9_any _ none 0 0 _ (opdOwn_none _ (fun k=>w.heap.size < k))).mono ?_;rintro e w' ⟨rfl,ho,hb⟩;clear f0 f1 f2 e0 e1 d0 d1 n3;clear ho;have Hn:=Lib.hid (H.out.next hb);have HMn:=Lib.hid (HM.out.next hb);clear H HM hb;have H:=Hn;have HM:=HMn;clear Hn HMn;obtain ⟨f0,f1,f2,_,_,_⟩:=(H.out.blk 0 rfl).three;obtain ⟨e0,e1,d0,d1⟩:=(H.out.blk 1 rfl).two;have n3:=(H.out.blk 1 rfl).lt)
   | (go_at_call 114;with_reducible refine (ins9_any _ _ _ _ _ (HM.out.get 0 rfl)).mono ?_;rintro e w' ⟨rfl,ho,hb⟩;clear f0 f1 f2 e0 e1 d0 d1 n3;clear ho;have Hn:=Lib.hid (H.out.next hb);have HMn:=Lib.hid (HM.out.next hb);clear H HM hb;have H:=Hn;have HM:=HMn;clear Hn HMn;obtain ⟨f0,f1,f2,_,_,_⟩:=(H.out.blk 0 rfl).three;obtain ⟨e0,e1,d0,d1⟩:=(H.out.blk 1 rfl).two;have n3:=(H.out.blk 1 rfl).lt));dsimp only))
 all_goals go_wp2
 all_goals have n3:=(H.out.blk 1 rfl).lt
 all_goals have HV:OpdOwn w' (fun k=>w.heap.size < k) (.slice _ 2 _) [rpF 3 3,rpF 2 3]:=(HM.out.get 0 rfl)
 all_goals obtain ⟨h1,h2⟩:=put_ins2 (x:=.string ⟨#[76,68]⟩) H.out.below HV (fun k hk=>hk) (Nat.le_refl _)
 all_goals refine bodyPost_ret (insE_end rfl rfl ((((H.out.blk 1 rfl).set 0 _).set 1 _).alloc _).drew) rfl ⟨_,rfl,h1.below ?_,?_⟩
 all_goals (repeat' (first | (with_reducible exact Below.refl _ _) | (with_reducible assumption) | (with_reducible refine Below.alloc ?_ ?_ _) | (with_reducible refine Below.drew ?_) | (with_reducible refine Below.setCell ?_ ?_ _) | (with_reducible exact Nat.le_refl _) | omega | (simp;done) | (simp;omega)))
theorem high_2 (y:Int) (h0:0≤y) (h8:y < 8) (w:World):Calls Tryz.prog 117 #[.int .i64 y,.int .i64 2] w (InsE w ⟨#[74,80]⟩ [ccO y,immO 0] ⟨#[119]⟩):=by
 have H0:=Lib.hid ((Fr.start w).new' 27 #[.string ⟨#[]⟩,.slice none 0 0] rfl)
 go_enter Tryz.func117,Tryz.ntmps117
 go_wp2_with fail
 refine (rp_any 2 3 _).mono ?_
 rintro e w1 ⟨rfl,hb⟩
 have LT1:=Lib.hid (((H0.out.next hb).blk 0 rfl).lt)
 have H:=Lib.hid ((H0.out.next hb).new' 93 #[.int .i64 (rpF 2 3).kind,.int .i64 (rpF 2 3).reg,.int .i64 (rpF 2 3).n] rfl)
 obtain ⟨e0,e1,d0,d1⟩:=(H.out.blk 1 rfl).two
 clear hb
 go_wp2_with (first
  | (go_at_call 119;refine (frO H (imm9_any _ _)).mono ?_;rintro e w' ⟨rfl,H⟩)
  | (go_at_call 152;refine (frO H (cc9_any _ _)).mono ?_;rintro e w' ⟨rfl,H⟩)
  | (go_at_call 115;refine (frL H 1 rfl (two_any _ _ _)).mono ?_;rintro e w' ⟨va,vc,rfl,HO,H⟩)
  | (go_at_call 114;refine (frI H (ins9_any _ _ _ _ _ HO.out)).mono ?_;rintro e w' ⟨rfl,HO,H⟩;obtain ⟨e0,e1,d0,d1⟩:=(H.out.blk 1 rfl).two))
 obtain ⟨h1,h2⟩:=put_ins (x:=.string ⟨#[74,80]⟩) (y:=.slice va 2 vc) H.out.below HO.out (fun k hk=>hk) (Nat.le_refl _)
 exact bodyPost_ret (insE_end rfl rfl (((H.out.blk 1 rfl).set 0 _).set 1 _)) rfl ⟨_,rfl,h1,h2⟩
theorem high_4 (y:Int) (h0:0≤y) (h8:y < 8) (w:World):Calls Tryz.prog 117 #[.int .i64 y,.int .i64 4] w (InsE w ⟨#[67,65,76,76]⟩ [ccO y,immO 0] ⟨#[119]⟩):=by
 have H0:=Lib.hid ((Fr.start w).new' 27 #[.string ⟨#[]⟩,.slice none 0 0] rfl)
 go_enter Tryz.func117,Tryz.ntmps117
 go_wp2_with fail
 refine (rp_any 2 3 _).mono ?_
 rintro e w1 ⟨rfl,hb⟩
 have LT1:=Lib.hid (((H0.out.next hb).blk 0 rfl).lt)
 have H:=Lib.hid ((H0.out.next hb).new' 93 #[.int .i64 (rpF 2 3).kind,.int .i64 (rpF 2 3).reg,.int .i64 (rpF 2 3).n] rfl)
 obtain ⟨e0,e1,d0,d1⟩:=(H.out.blk 1 rfl).two
 clear hb
 go_wp2_with (first
  | (go_at_call 119;refine (frO H (imm9_any _ _)).mono ?_;rintro e w' ⟨rfl,H⟩)
  | (go_at_call 152;refine (frO H (cc9_any _ _)).mono ?_;rintro e w' ⟨rfl,H⟩)
  | (go_at_call 115;refine (frL H 1 rfl (two_any _ _ _)).mono ?_;rintro e w' ⟨va,vc,rfl,HO,H⟩)
  | (go_at_call 114;refine (frI H (ins9_any _ _ _ _ _ HO.out)).mono ?_;rintro e w' ⟨rfl,HO,H⟩;obtain ⟨e0,e1,d0,d1⟩:=(H.out.blk 1 rfl).two))
 obtain ⟨h1,h2⟩:=put_ins (x:=.string ⟨#[67,65,76,76]⟩) (y:=.slice va 2 vc) H.out.below HO.out (fun k hk=>hk) (Nat.le_refl _)
 exact bodyPost_ret (insE_end rfl rfl (((H.out.blk 1 rfl).set 0 _).set 1 _)) rfl ⟨_,rfl,h1,h2⟩
theorem high_5_0 (y:Int) (h0:0≤y) (h8:y < 8) (hq:y % 2=0) (w:World):Calls Tryz.prog 117 #[.int .i64 y,.int .i64 5] w (InsE w ⟨#[80,85,83,72]⟩ [rpF (y / 2) 4] ⟨#[]⟩):=by
 have H0:=Lib.hid ((Fr.start w).new' 27 #[.string ⟨#[]⟩,.slice none 0 0] rfl)
 go_enter Tryz.func117,Tryz.ntmps117
 go_wp2_with fail
 refine (rp_any 2 3 _).mono ?_
 rintro e w1 ⟨rfl,hb⟩
 have LT1:=Lib.hid (((H0.out.next hb).blk 0 rfl).lt)
 have H:=Lib.hid ((H0.out.next hb).new' 93 #[.int .i64 (rpF 2 3).kind,.int .i64 (rpF 2 3).reg,.int .i64 (rpF 2 3).n] rfl)
 obtain ⟨e0,e1,d0,d1⟩:=(H.out.blk 1 rfl).two
 clear hb
 go_wp2_with (first
  | (go_at_call 120;refine (frO H (rp_any _ _ _)).mono ?_;rintro e w' ⟨rfl,H⟩)
  | (go_at_call 118;refine (frL H 1 rfl (one_any _ _)).mono ?_;rintro e w' ⟨va,vc,rfl,HO,H⟩)
  | (go_at_call 114;refine (frI H (ins9_any _ _ _ _ _ HO.out)).mono ?_;rintro e w' ⟨rfl,HO,H⟩;obtain ⟨e0,e1,d0,d1⟩:=(H.out.blk 1 rfl).two))
 obtain ⟨h1,h2⟩:=put_ins (x:=.string ⟨#[80,85,83,72]⟩) (y:=.slice va 1 vc) H.out.below HO.out (fun k hk=>hk) (Nat.le_refl _)
 exact bodyPost_ret (insE_end rfl rfl (((H.out.blk 1 rfl).set 0 _).set 1 _)) rfl ⟨_,rfl,h1,h2⟩
theorem high_5_1 (w:World):Calls Tryz.prog 117 #[.int .i64 1,.int .i64 5] w (InsE w ⟨#[67,65,76,76]⟩ [immO 0] ⟨#[119]⟩):=by
 have H0:=Lib.hid ((Fr.start w).new' 27 #[.string ⟨#[]⟩,.slice none 0 0] rfl)
 go_enter Tryz.func117,Tryz.ntmps117
 go_wp2_with fail
 refine (rp_any 2 3 _).mono ?_
 rintro e w1 ⟨rfl,hb⟩
 have LT1:=Lib.hid (((H0.out.next hb).blk 0 rfl).lt)
 have H:=Lib.hid ((H0.out.next hb).new' 93 #[.int .i64 (rpF 2 3).kind,.int .i64 (rpF 2 3).reg,.int .i64 (rpF 2 3).n] rfl)
 obtain ⟨e0,e1,d0,d1⟩:=(H.out.blk 1 rfl).two
 clear hb
 go_wp2_with (first
  | (go_at_call 119;refine (frO H (imm9_any _ _)).mono ?_;rintro e w' ⟨rfl,H⟩)
  | (go_at_call 118;refine (frL H 1 rfl (one_any _ _)).mono ?_;rintro e w' ⟨va,vc,rfl,HO,H⟩)
  | (go_at_call 114;refine (frI H (ins9_any _ _ _ _ _ HO.out)).mono ?_;rintro e w' ⟨rfl,HO,H⟩;obtain ⟨e0,e1,d0,d1⟩:=(H.out.blk 1 rfl).two))
 obtain ⟨h1,h2⟩:=put_ins (x:=.string ⟨#[67,65,76,76]⟩) (y:=.slice va 1 vc) H.out.below HO.out (fun k hk=>hk) (Nat.le_refl _)
 exact bodyPost_ret (insE_end rfl rfl (((H.out.blk 1 rfl).set 0 _).set 1 _)) rfl ⟨_,rfl,h1,h2⟩
theorem high_5_x (y:Int) (h0:0≤y) (h8:y < 8) (hq:y % 2=1) (hy:y≠1) (w:World):Calls Tryz.prog 117 #[.int .i64 y,.int .i64 5] w (InsE w ⟨#[]⟩ [] ⟨#[]⟩):=by
 have H0:=Lib.hid ((Fr.start w).new' 27 #[.string ⟨#[]⟩,.slice none 0 0] rfl)
 have hy1:(y==1)=false:=by rw [beq_eq_false_iff_ne];exact hy
 go_enter Tryz.func117,Tryz.ntmps117
 go_wp2_with fail
 refine (rp_any 2 3 _).mono ?_
 rintro e w1 ⟨rfl,hb⟩
 have LT1:=Lib.hid (((H0.out.next hb).blk 0 rfl).lt)
 have H:=Lib.hid ((H0.out.next hb).new' 93 #[.int .i64 (rpF 2 3).kind,.int .i64 (rpF 2 3).reg,.int .i64 (rpF 2 3).n] rfl)
 obtain ⟨e0,e1,d0,d1⟩:=(H.out.blk 1 rfl).two
 clear hb
 go_wp2
 have HO:=Lib.hid (opdOwn_none w1 (fun k=>w.heap.size < k))
 obtain ⟨h1,h2⟩:=put_ins (x:=.string ⟨#[]⟩) (y:=.slice none 0 0) H.out.below (opdOwn_none _ (fun k=>w.heap.size < k)) (fun k hk=>hk) (Nat.le_refl _)
 exact bodyPost_ret (insE_end rfl rfl (((H.out.blk 1 rfl).set 0 _).set 1 _)) rfl ⟨_,rfl,h1,h2⟩
theorem high_6 (y:Int) (h0:0≤y) (h8:y < 8) (w:World):Calls Tryz.prog 117 #[.int .i64 y,.int .i64 6] w (InsE w (aluF y).1 (if (aluF y).2 then [accO,immO 0] else [immO 0]) ⟨#[110]⟩):=by
 have H0:=Lib.hid ((Fr.start w).new' 27 #[.string ⟨#[]⟩,.slice none 0 0] rfl)
 have HAL:=Lib.hid (fun W=>alu_any y (immO 0) W h0 h8)
 generalize (if (aluF y).2 then [accO,immO 0] else [immO 0])=l at *
 generalize (aluF y).1=s at *
 go_enter Tryz.func117,Tryz.ntmps117
 go_wp2_with fail
 refine (rp_any 2 3 _).mono ?_
 rintro e w1 ⟨rfl,hb⟩
 have LT1:=Lib.hid (((H0.out.next hb).blk 0 rfl).lt)
 have H:=Lib.hid ((H0.out.next hb).new' 93 #[.int .i64 (rpF 2 3).kind,.int .i64 (rpF 2 3).reg,.int .i64 (rpF 2 3).n] rfl)
 obtain ⟨e0,e1,d0,d1⟩:=(H.out.blk 1 rfl).two
 clear hb
 go_wp2_with (first
  | (go_at_call 119;refine (frO H (imm9_any _ _)).mono ?_;rintro e w' ⟨rfl,H⟩)
  | (go_at_call 116;refine (HAL.out _).mono ?_;rintro e w' ⟨v,rfl,ho,hb⟩;obtain ⟨va,vc,rfl⟩:=ho.form;have HO:=Lib.hid (ho.mono (r:=fun k=>w.heap.size < k) (fun k hk=>Nat.lt_of_lt_of_le (H.out.blk 1 rfl).lt hk));have H:=Lib.hid (H.out.next hb);obtain ⟨e0,e1,d0,d1⟩:=(H.out.blk 1 rfl).two;clear ho hb))
 obtain ⟨h1,h2⟩:=put_ins (x:=.string s) (y:=.slice va l.length vc) H.out.below HO.out (fun k hk=>hk) (Nat.le_refl _)
 exact bodyPost_ret (insE_end rfl rfl (((H.out.blk 1 rfl).set 0 _).set 1 _)) rfl ⟨_,rfl,h1,h2⟩
theorem high_7 (y:Int) (h0:0≤y) (h8:y < 8) (w:World):Calls Tryz.prog 117 #[.int .i64 y,.int .i64 7] w (InsE w ⟨#[82,83,84]⟩ [immO (8 * y)] ⟨#[]⟩):=by
 have H0:=Lib.hid ((Fr.start w).new' 27 #[.string ⟨#[]⟩,.slice none 0 0] rfl)
 go_enter Tryz.func117,Tryz.ntmps117
 go_wp2_with fail
 refine (rp_any 2 3 _).mono ?_
 rintro e w1 ⟨rfl,hb⟩
 have LT1:=Lib.hid (((H0.out.next hb).blk 0 rfl).lt)
 have H:=Lib.hid ((H0.out.next hb).new' 93 #[.int .i64 (rpF 2 3).kind,.int .i64 (rpF 2 3).reg,.int .i64 (rpF 2 3).n] rfl)
 obtain ⟨e0,e1,d0,d1⟩:=(H.out.blk 1 rfl).two
 clear hb
 go_wp2_with (first
  | (go_at_call 119;refine (frO H (imm9_any _ _)).mono ?_;rintro e w' ⟨rfl,H⟩)
  | (go_at_call 118;refine (frL H 1 rfl (one_any _ _)).mono ?_;rintro e w' ⟨va,vc,rfl,HO,H⟩)
  | (go_at_call 114;refine (frI H (ins9_any _ _ _ _ _ HO.out)).mono ?_;rintro e w' ⟨rfl,HO,H⟩;obtain ⟨e0,e1,d0,d1⟩:=(H.out.blk 1 rfl).two))
 obtain ⟨h1,h2⟩:=put_ins (x:=.string ⟨#[82,83,84]⟩) (y:=.slice va 1 vc) H.out.below HO.out (fun k hk=>hk) (Nat.le_refl _)
 exact bodyPost_ret (insE_end rfl rfl (((H.out.blk 1 rfl).set 0 _).set 1 _)) rfl ⟨_,rfl,h1,h2⟩
end Go.Proofs.YtnbmbcjnncbaiaaGreatDoor
namespace Go.Proofs.YtnbmbcjnncbaiaaGreatDoor
set_option maxHeartbeats 4000000
set_option maxRecDepth 100000
open Go.RowKit Go.Shelf Go.Sort
theorem high_3_0 (w:World):Calls Tryz.prog 117 #[.int .i64 0,.int .i64 3] w (InsE w ⟨#[74,80]⟩ [immO 0] ⟨#[119]⟩):=by
 have H0:=Lib.hid ((Fr.start w).new' 27 #[.string ⟨#[]⟩,.slice none 0 0] rfl)
 go_enter Tryz.func117,Tryz.ntmps117
 go_wp2_with fail
 refine (rp_any 2 3 _).mono ?_
 rintro e w1 ⟨rfl,hb⟩
 have LT1:=Lib.hid (((H0.out.next hb).blk 0 rfl).lt)
 have H:=Lib.hid ((H0.out.next hb).new' 93 #[.int .i64 (rpF 2 3).kind,.int .i64 (rpF 2 3).reg,.int .i64 (rpF 2 3).n] rfl)
 obtain ⟨f0,f1,f2,x0,x1,x2⟩:=(H.out.blk 0 rfl).three
 obtain ⟨e0,e1,d0,d1⟩:=(H.out.blk 1 rfl).two
 clear hb
 go_upto_region 13 with fail
 have HM:=Lib.hid (Fo.nil w.heap.size _:Fo w.heap.size [] (w1.alloc (.cells #[.int .i64 (rpF 2 3).kind,.int .i64 (rpF 2 3).reg,.int .i64 (rpF 2 3).n] 93)).drew)
 have Hn:=Lib.hid H.out.drew
 clear H
 have H:=Hn
 clear Hn
 obtain ⟨f0,f1,f2,_,_,_⟩:=(H.out.blk 0 rfl).three
 have n1:¬w1.heap.size=w.heap.size:=by have:=LT1.out;omega
 have n2:¬w.heap.size=w1.heap.size:=fun e=>n1 e.symm
 go_region_held3 (fun w'=>w'.cell? ⟨w1.heap.size,0,none⟩=some (.int .i64 (rpF 2 3).kind)∧w'.cell? ⟨w1.heap.size,1,none⟩=some (.int .i64 (rpF 2 3).reg)∧w'.cell? ⟨w1.heap.size,2,none⟩=some (.int .i64 (rpF 2 3).n)) (go_keep)
  (first
   | (go_at_call 120;refine (rp_any _ _ _).mono ?_;rintro e w' ⟨rfl,hb⟩;clear f0 f1 f2;have Hn:=Lib.hid (H.out.next hb);have HMn:=Lib.hid (HM.out.next hb);clear H HM hb;have H:=Hn;have HM:=HMn;clear Hn HMn;obtain ⟨f0,f1,f2,_,_,_⟩:=(H.out.blk 0 rfl).three)
   | (go_at_call 119;refine (imm9_any _ _).mono ?_;rintro e w' ⟨rfl,hb⟩;clear f0 f1 f2;have Hn:=Lib.hid (H.out.next hb);have HMn:=Lib.hid (HM.out.next hb);clear H HM hb;have H:=Hn;have HM:=HMn;clear Hn HMn;obtain ⟨f0,f1,f2,_,_,_⟩:=(H.out.blk 0 rfl).three)
   | (go_at_call 122;refine (mem9_any _).mono ?_;rintro e w' ⟨rfl,hb⟩;clear f0 f1 f2;have Hn:=Lib.hid (H.out.next hb);have HMn:=Lib.hid (HM.out.next hb);clear H HM hb;have H:=Hn;have HM:=HMn;clear Hn HMn;obtain ⟨f0,f1,f2,_,_,_⟩:=(H.out.blk 0 rfl).three)
   | (go_at_call 121;refine (ind9_any _ _).mono ?_;rintro e w' ⟨rfl,hb⟩;clear f0 f1 f2;have Hn:=Lib.hid (H.out.next hb);have HMn:=Lib.hid (HM.out.next hb);clear H HM hb;have H:=Hn;have HM:=HMn;clear Hn HMn;obtain ⟨f0,f1,f2,_,_,_⟩:=(H.out.blk 0 rfl).three)
   | (go_at_call 123;refine (acc9_any _).mono ?_;rintro e w' ⟨rfl,hb⟩;clear f0 f1 f2;have Hn:=Lib.hid (H.out.next hb);have HMn:=Lib.hid (HM.out.next hb);clear H HM hb;have H:=Hn;have HM:=HMn;clear Hn HMn;obtain ⟨f0,f1,f2,_,_,_⟩:=(H.out.blk 0 rfl).three)
   | (go_at_call 118;refine (one_any _ _).mono ?_;rintro e w' ⟨v,rfl,ho,hb⟩;obtain ⟨va,vc,rfl⟩:=ho.form;clear f0 f1 f2;have HMn:=Lib.hid ((HM.out.next hb).add (ho.mono (r:=fun k=>w.heap.size < k) (fun k hk=>Nat.lt_of_lt_of_le (H.out.blk 1 rfl).lt hk)));have Hn:=Lib.hid (H.out.next hb);clear H HM ho hb;have H:=Hn;have HM:=HMn;clear Hn HMn;obtain ⟨f0,f1,f2,_,_,_⟩:=(H.out.blk 0 rfl).three)
   | (go_at_call 115;refine (two_any _ _ _).mono ?_;rintro e w' ⟨v,rfl,ho,hb⟩;obtain ⟨va,vc,rfl⟩:=ho.form;clear f0 f1 f2;have HMn:=Lib.hid ((HM.out.next hb).add (ho.mono (r:=fun k=>w.heap.size < k) (fun k hk=>Nat.lt_of_lt_of_le (H.out.blk 1 rfl).lt hk)));have Hn:=Lib.hid (H.out.next hb);clear H HM ho hb;have H:=Hn;have HM:=HMn;clear Hn HMn;obtain ⟨f0,f1,f2,_,_,_⟩:=(H.out.blk 0 rfl).three)
   | (go_at_call 114;with_reducible refine (ins9_any _ none 0 0 _ (opdOwn_none _ (fun k=>w.heap.size < k))).mono ?_;rintro e w' ⟨rfl,ho,hb⟩;clear f0 f1 f2;clear ho;have Hn:=Lib.hid (H.out.next hb);have HMn:=Lib.hid (HM.out.next hb);clear H HM hb;have H:=Hn;have HM:=HMn;clear Hn HMn;obtain ⟨f0,f1,f2,_,_,_⟩:=(H.out.blk 0 rfl).three)
   | (go_at_call 114;with_reducible refine (ins9_any _ _ _ _ _ (HM.out.get 0 rfl)).mono ?_;rintro e w' ⟨rfl,ho,hb⟩;clear f0 f1 f2;clear ho;have Hn:=Lib.hid (H.out.next hb);have HMn:=Lib.hid (HM.out.next hb);clear H HM hb;have H:=Hn;have HM:=HMn;clear Hn HMn;obtain ⟨f0,f1,f2,_,_,_⟩:=(H.out.blk 0 rfl).three))
 clear f0 f1 f2
 go_wp2
 have n3:=(H.out.blk 1 rfl).lt
 obtain ⟨e0,e1,d0,d1⟩:=(H.out.blk 1 rfl).two
 go_region
 all_goals go_wp2
 all_goals have n3:=(H.out.blk 1 rfl).lt
 all_goals have HV:OpdOwn w' (fun k=>w.heap.size < k) (.slice _ 1 _) [immO 0]:=(HM.out.get 4 rfl)
 all_goals obtain ⟨h1,h2⟩:=put_ins2 (x:=.string ⟨#[74,80]⟩) H.out.below HV (fun k hk=>hk) (Nat.le_refl _)
 all_goals refine bodyPost_ret (insE_end rfl rfl (((((H.out.blk 1 rfl).set 0 _).set 1 _).alloc _).alloc _).drew) rfl ⟨_,rfl,h1.below ?_,?_⟩
 all_goals (repeat' (first | (with_reducible exact Below.refl _ _) | (with_reducible assumption) | (with_reducible refine Below.alloc ?_ ?_ _) | (with_reducible refine Below.drew ?_) | (with_reducible refine Below.setCell ?_ ?_ _) | (with_reducible exact Nat.le_refl _) | omega | (simp;done) | (simp;omega)))
theorem high_3_1 (w:World):Calls Tryz.prog 117 #[.int .i64 1,.int .i64 3] w (InsE w ⟨#[]⟩ [] ⟨#[]⟩):=by
 have H0:=Lib.hid ((Fr.start w).new' 27 #[.string ⟨#[]⟩,.slice none 0 0] rfl)
 go_enter Tryz.func117,Tryz.ntmps117
 go_wp2_with fail
 refine (rp_any 2 3 _).mono ?_
 rintro e w1 ⟨rfl,hb⟩
 have LT1:=Lib.hid (((H0.out.next hb).blk 0 rfl).lt)
 have H:=Lib.hid ((H0.out.next hb).new' 93 #[.int .i64 (rpF 2 3).kind,.int .i64 (rpF 2 3).reg,.int .i64 (rpF 2 3).n] rfl)
 obtain ⟨f0,f1,f2,x0,x1,x2⟩:=(H.out.blk 0 rfl).three
 obtain ⟨e0,e1,d0,d1⟩:=(H.out.blk 1 rfl).two
 clear hb
 go_upto_region 13 with fail
 have HM:=Lib.hid (Fo.nil w.heap.size _:Fo w.heap.size [] (w1.alloc (.cells #[.int .i64 (rpF 2 3).kind,.int .i64 (rpF 2 3).reg,.int .i64 (rpF 2 3).n] 93)).drew)
 have Hn:=Lib.hid H.out.drew
 clear H
 have H:=Hn
 clear Hn
 obtain ⟨f0,f1,f2,_,_,_⟩:=(H.out.blk 0 rfl).three
 have n1:¬w1.heap.size=w.heap.size:=by have:=LT1.out;omega
 have n2:¬w.heap.size=w1.heap.size:=fun e=>n1 e.symm
 go_region_held3 (fun w'=>w'.cell? ⟨w1.heap.size,0,none⟩=some (.int .i64 (rpF 2 3).kind)∧w'.cell? ⟨w1.heap.size,1,none⟩=some (.int .i64 (rpF 2 3).reg)∧w'.cell? ⟨w1.heap.size,2,none⟩=some (.int .i64 (rpF 2 3).n)) (go_keep)
  (first
   | (go_at_call 120;refine (rp_any _ _ _).mono ?_;rintro e w' ⟨rfl,hb⟩;clear f0 f1 f2;have Hn:=Lib.hid (H.out.next hb);have HMn:=Lib.hid (HM.out.next hb);clear H HM hb;have H:=Hn;have HM:=HMn;clear Hn HMn;obtain ⟨f0,f1,f2,_,_,_⟩:=(H.out.blk 0 rfl).three)
   | (go_at_call 119;refine (imm9_any _ _).mono ?_;rintro e w' ⟨rfl,hb⟩;clear f0 f1 f2;have Hn:=Lib.hid (H.out.next hb);have HMn:=Lib.hid (HM.out.next hb);clear H HM hb;have H:=Hn;have HM:=HMn;clear Hn HMn;obtain ⟨f0,f1,f2,_,_,_⟩:=(H.out.blk 0 rfl).three)
   | (go_at_call 122;refine (mem9_any _).mono ?_;rintro e w' ⟨rfl,hb⟩;clear f0 f1 f2;have Hn:=Lib.hid (H.out.next hb);have HMn:=Lib.hid (HM.out.next hb);clear H HM hb;have H:=Hn;have HM:=HMn;clear Hn HMn;obtain ⟨f0,f1,f2,_,_,_⟩:=(H.out.blk 0 rfl).three)
   | (go_at_call 121;refine (ind9_any _ _).mono ?_;rintro e w' ⟨rfl,hb⟩;clear f0 f1 f2;have Hn:=Lib.hid (H.out.next hb);have HMn:=Lib.hid (HM.out.next hb);clear H HM hb;have H:=Hn;have HM:=HMn;clear Hn HMn;obtain ⟨f0,f1,f2,_,_,_⟩:=(H.out.blk 0 rfl).three)
   | (go_at_call 123;refine (acc9_any _).mono ?_;rintro e w' ⟨rfl,hb⟩;clear f0 f1 f2;have Hn:=Lib.hid (H.out.next hb);have HMn:=Lib.hid (HM.out.next hb);clear H HM hb;have H:=Hn;have HM:=HMn;clear Hn HMn;obtain ⟨f0,f1,f2,_,_,_⟩:=(H.out.blk 0 rfl).three)
   | (go_at_call 118;refine (one_any _ _).mono ?_;rintro e w' ⟨v,rfl,ho,hb⟩;obtain ⟨va,vc,rfl⟩:=ho.form;clear f0 f1 f2;have HMn:=Lib.hid ((HM.out.next hb).add (ho.mono (r:=fun k=>w.heap.size < k) (fun k hk=>Nat.lt_of_lt_of_le (H.out.blk 1 rfl).lt hk)));have Hn:=Lib.hid (H.out.next hb);clear H HM ho hb;have H:=Hn;have HM:=HMn;clear Hn HMn;obtain ⟨f0,f1,f2,_,_,_⟩:=(H.out.blk 0 rfl).three)
   | (go_at_call 115;refine (two_any _ _ _).mono ?_;rintro e w' ⟨v,rfl,ho,hb⟩;obtain ⟨va,vc,rfl⟩:=ho.form;clear f0 f1 f2;have HMn:=Lib.hid ((HM.out.next hb).add (ho.mono (r:=fun k=>w.heap.size < k) (fun k hk=>Nat.lt_of_lt_of_le (H.out.blk 1 rfl).lt hk)));have Hn:=Lib.hid (H.out.next hb);clear H HM ho hb;have H:=Hn;have HM:=HMn;clear Hn HMn;obtain ⟨f0,f1,f2,_,_,_⟩:=(H.out.blk 0 rfl).three)
   | (go_at_call 114;with_reducible refine (ins9_any _ none 0 0 _ (opdOwn_none _ (fun k=>w.heap.size < k))).mono ?_;rintro e w' ⟨rfl,ho,hb⟩;clear f0 f1 f2;clear ho;have Hn:=Lib.hid (H.out.next hb);have HMn:=Lib.hid (HM.out.next hb);clear H HM hb;have H:=Hn;have HM:=HMn;clear Hn HMn;obtain ⟨f0,f1,f2,_,_,_⟩:=(H.out.blk 0 rfl).three)
   | (go_at_call 114;with_reducible refine (ins9_any _ _ _ _ _ (HM.out.get 0 rfl)).mono ?_;rintro e w' ⟨rfl,ho,hb⟩;clear f0 f1 f2;clear ho;have Hn:=Lib.hid (H.out.next hb);have HMn:=Lib.hid (HM.out.next hb);clear H HM hb;have H:=Hn;have HM:=HMn;clear Hn HMn;obtain ⟨f0,f1,f2,_,_,_⟩:=(H.out.blk 0 rfl).three))
 clear f0 f1 f2
 go_wp2
 have n3:=(H.out.blk 1 rfl).lt
 obtain ⟨e0,e1,d0,d1⟩:=(H.out.blk 1 rfl).two
 go_region
 all_goals go_wp2
 all_goals have n3:=(H.out.blk 1 rfl).lt
 all_goals have HV:OpdOwn w' (fun k=>w.heap.size < k) (.slice _ 0 _) []:=(opdOwn_none _ (fun k=>w.heap.size < k))
 all_goals obtain ⟨h1,h2⟩:=put_ins2 (x:=.string ⟨#[]⟩) H.out.below HV (fun k hk=>hk) (Nat.le_refl _)
 all_goals refine bodyPost_ret (insE_end rfl rfl (((((H.out.blk 1 rfl).set 0 _).set 1 _).alloc _).alloc _).drew) rfl ⟨_,rfl,h1.below ?_,?_⟩
 all_goals (repeat' (first | (with_reducible exact Below.refl _ _) | (with_reducible assumption) | (with_reducible refine Below.alloc ?_ ?_ _) | (with_reducible refine Below.drew ?_) | (with_reducible refine Below.setCell ?_ ?_ _) | (with_reducible exact Nat.le_refl _) | omega | (simp;done) | (simp;omega)))
theorem high_3_2 (w:World):Calls Tryz.prog 117 #[.int .i64 2,.int .i64 3] w (InsE w ⟨#[79,85,84]⟩ [memO,accO] ⟨#[110]⟩):=by
 have H0:=Lib.hid ((Fr.start w).new' 27 #[.string ⟨#[]⟩,.slice none 0 0] rfl)
 go_enter Tryz.func117,Tryz.ntmps117
 go_wp2_with fail
 refine (rp_any 2 3 _).mono ?_
 rintro e w1 ⟨rfl,hb⟩
 have LT1:=Lib.hid (((H0.out.next hb).blk 0 rfl).lt)
 have H:=Lib.hid ((H0.out.next hb).new' 93 #[.int .i64 (rpF 2 3).kind,.int .i64 (rpF 2 3).reg,.int .i64 (rpF 2 3).n] rfl)
 obtain ⟨f0,f1,f2,x0,x1,x2⟩:=(H.out.blk 0 rfl).three
 obtain ⟨e0,e1,d0,d1⟩:=(H.out.blk 1 rfl).two
 clear hb
 go_upto_region 13 with fail
 have HM:=Lib.hid (Fo.nil w.heap.size _:Fo w.heap.size [] (w1.alloc (.cells #[.int .i64 (rpF 2 3).kind,.int .i64 (rpF 2 3).reg,.int .i64 (rpF 2 3).n] 93)).drew)
 have Hn:=Lib.hid H.out.drew
 clear H
 have H:=Hn
 clear Hn
 obtain ⟨f0,f1,f2,_,_,_⟩:=(H.out.blk 0 rfl).three
 have n1:¬w1.heap.size=w.heap.size:=by have:=LT1.out;omega
 have n2:¬w.heap.size=w1.heap.size:=fun e=>n1 e.symm
 go_region_held3 (fun w'=>w'.cell? ⟨w1.heap.size,0,none⟩=some (.int .i64 (rpF 2 3).kind)∧w'.cell? ⟨w1.heap.size,1,none⟩=some (.int .i64 (rpF 2 3).reg)∧w'.cell? ⟨w1.heap.size,2,none⟩=some (.int .i64 (rpF 2 3).n)) (go_keep)
  (first
   | (go_at_call 120;refine (rp_any _ _ _).mono ?_;rintro e w' ⟨rfl,hb⟩;clear f0 f1 f2;have Hn:=Lib.hid (H.out.next hb);have HMn:=Lib.hid (HM.out.next hb);clear H HM hb;have H:=Hn;have HM:=HMn;clear Hn HMn;obtain ⟨f0,f1,f2,_,_,_⟩:=(H.out.blk 0 rfl).three)
   | (go_at_call 119;refine (imm9_any _ _).mono ?_;rintro e w' ⟨rfl,hb⟩;clear f0 f1 f2;have Hn:=Lib.hid (H.out.next hb);have HMn:=Lib.hid (HM.out.next hb);clear H HM hb;have H:=Hn;have HM:=HMn;clear Hn HMn;obtain ⟨f0,f1,f2,_,_,_⟩:=(H.out.blk 0 rfl).three)
   | (go_at_call 122;refine (mem9_any _).mono ?_;rintro e w' ⟨rfl,hb⟩;clear f0 f1 f2;have Hn:=Lib.hid (H.out.next hb);have HMn:=Lib.hid (HM.out.next hb);clear H HM hb;have H:=Hn;have HM:=HMn;clear Hn HMn;obtain ⟨f0,f1,f2,_,_,_⟩:=(H.out.blk 0 rfl).three)
   | (go_at_call 121;refine (ind9_any _ _).mono ?_;rintro e w' ⟨rfl,hb⟩;clear f0 f1 f2;have Hn:=Lib.hid (H.out.next hb);have HMn:=Lib.hid (HM.out.next hb);clear H HM hb;have H:=Hn;have HM:=HMn;clear Hn HMn;obtain ⟨f0,f1,f2,_,_,_⟩:=(H.out.blk 0 rfl).three)
   | (go_at_call 123;refine (acc9_any _).mono ?_;rintro e w' ⟨rfl,hb⟩;clear f0 f1 f2;have Hn:=Lib.hid (H.out.next hb);have HMn:=Lib.hid (HM.out.next hb);clear H HM hb;have H:=Hn;have HM:=HMn;clear Hn HMn;obtain ⟨f0,f1,f2,_,_,_⟩:=(H.out.blk 0 rfl).three)
   | (go_at_call 118;refine (one_any _ _).mono ?_;rintro e w' ⟨v,rfl,ho,hb⟩;obtain ⟨va,vc,rfl⟩:=ho.form;clear f0 f1 f2;have HMn:=Lib.hid ((HM.out.next hb).add (ho.mono (r:=fun k=>w.heap.size < k) (fun k hk=>Nat.lt_of_lt_of_le (H.out.blk 1 rfl).lt hk)));have Hn:=Lib.hid (H.out.next hb);clear H HM ho hb;have H:=Hn;have HM:=HMn;clear Hn HMn;obtain ⟨f0,f1,f2,_,_,_⟩:=(H.out.blk 0 rfl).three)
   | (go_at_call 115;refine (two_any _ _ _).mono ?_;rintro e w' ⟨v,rfl,ho,hb⟩;obtain ⟨va,vc,rfl⟩:=ho.form;clear f0 f1 f2;have HMn:=Lib.hid ((HM.out.next hb).add (ho.mono (r:=fun k=>w.heap.size < k) (fun k hk=>Nat.lt_of_lt_of_le (H.out.blk 1 rfl).lt hk)));have Hn:=Lib.hid (H.out.next hb);clear H HM ho hb;have H:=Hn;have HM:=HMn;clear Hn HMn;obtain ⟨f0,f1,f2,_,_,_⟩:=(H.out.blk 0 rfl).three)
   | (go_at_call 114;with_reducible refine (ins9_any _ none 0 0 _ (opdOwn_none _ (fun k=>w.heap.size < k))).mono ?_;rintro e w' ⟨rfl,ho,hb⟩;clear f0 f1 f2;clear ho;have Hn:=Lib.hid (H.out.next hb);have HMn:=Lib.hid (HM.out.next hb);clear H HM hb;have H:=Hn;have HM:=HMn;clear Hn HMn;obtain ⟨f0,f1,f2,_,_,_⟩:=(H.out.blk 0 rfl).three)
   | (go_at_call 114;with_reducible refine (ins9_any _ _ _ _ _ (HM.out.get 0 rfl)).mono ?_;rintro e w' ⟨rfl,ho,hb⟩;clear f0 f1 f2;clear ho;have Hn:=Lib.hid (H.out.next hb);have HMn:=Lib.hid (HM.out.next hb);clear H HM hb;have H:=Hn;have HM:=HMn;clear Hn HMn;obtain ⟨f0,f1,f2,_,_,_⟩:=(H.out.blk 0 rfl).three))
 clear f0 f1 f2
 go_wp2
 have n3:=(H.out.blk 1 rfl).lt
 obtain ⟨e0,e1,d0,d1⟩:=(H.out.blk 1 rfl).two
 go_region
 all_goals go_wp2
 all_goals have n3:=(H.out.blk 1 rfl).lt
 all_goals have HV:OpdOwn w' (fun k=>w.heap.size < k) (.slice _ 2 _) [memO,accO]:=(HM.out.get 3 rfl)
 all_goals obtain ⟨h1,h2⟩:=put_ins2 (x:=.string ⟨#[79,85,84]⟩) H.out.below HV (fun k hk=>hk) (Nat.le_refl _)
 all_goals refine bodyPost_ret (insE_end rfl rfl (((((H.out.blk 1 rfl).set 0 _).set 1 _).alloc _).alloc _).drew) rfl ⟨_,rfl,h1.below ?_,?_⟩
 all_goals (repeat' (first | (with_reducible exact Below.refl _ _) | (with_reducible assumption) | (with_reducible refine Below.alloc ?_ ?_ _) | (with_reducible refine Below.drew ?_) | (with_reducible refine Below.setCell ?_ ?_ _) | (with_reducible exact Nat.le_refl _) | omega | (simp;done) | (simp;omega)))
theorem high_3_3 (w:World):Calls Tryz.prog 117 #[.int .i64 3,.int .i64 3] w (InsE w ⟨#[73,78]⟩ [accO,memO] ⟨#[110]⟩):=by
 have H0:=Lib.hid ((Fr.start w).new' 27 #[.string ⟨#[]⟩,.slice none 0 0] rfl)
 go_enter Tryz.func117,Tryz.ntmps117
 go_wp2_with fail
 refine (rp_any 2 3 _).mono ?_
 rintro e w1 ⟨rfl,hb⟩
 have LT1:=Lib.hid (((H0.out.next hb).blk 0 rfl).lt)
 have H:=Lib.hid ((H0.out.next hb).new' 93 #[.int .i64 (rpF 2 3).kind,.int .i64 (rpF 2 3).reg,.int .i64 (rpF 2 3).n] rfl)
 obtain ⟨f0,f1,f2,x0,x1,x2⟩:=(H.out.blk 0 rfl).three
 obtain ⟨e0,e1,d0,d1⟩:=(H.out.blk 1 rfl).two
 clear hb
 go_upto_region 13 with fail
 have HM:=Lib.hid (Fo.nil w.heap.size _:Fo w.heap.size [] (w1.alloc (.cells #[.int .i64 (rpF 2 3).kind,.int .i64 (rpF 2 3).reg,.int .i64 (rpF 2 3).n] 93)).drew)
 have Hn:=Lib.hid H.out.drew
 clear H
 have H:=Hn
 clear Hn
 obtain ⟨f0,f1,f2,_,_,_⟩:=(H.out.blk 0 rfl).three
 have n1:¬w1.heap.size=w.heap.size:=by have:=LT1.out;omega
 have n2:¬w.heap.size=w1.heap.size:=fun e=>n1 e.symm
 go_region_held3 (fun w'=>w'.cell? ⟨w1.heap.size,0,none⟩=some (.int .i64 (rpF 2 3).kind)∧w'.cell? ⟨w1.heap.size,1,none⟩=some (.int .i64 (rpF 2 3).reg)∧w'.cell? ⟨w1.heap.size,2,none⟩=some (.int .i64 (rpF 2 3).n)) (go_keep)
  (first
   | (go_at_call 120;refine (rp_any _ _ _).mono ?_;rintro e w' ⟨rfl,hb⟩;clear f0 f1 f2;have Hn:=Lib.hid (H.out.next hb);have HMn:=Lib.hid (HM.out.next hb);clear H HM hb;have H:=Hn;have HM:=HMn;clear Hn HMn;obtain ⟨f0,f1,f2,_,_,_⟩:=(H.out.blk 0 rfl).three)
   | (go_at_call 119;refine (imm9_any _ _).mono ?_;rintro e w' ⟨rfl,hb⟩;clear f0 f1 f2;have Hn:=Lib.hid (H.out.next hb);have HMn:=Lib.hid (HM.out.next hb);clear H HM hb;have H:=Hn;have HM:=HMn;clear Hn HMn;obtain ⟨f0,f1,f2,_,_,_⟩:=(H.out.blk 0 rfl).three)
   | (go_at_call 122;refine (mem9_any _).mono ?_;rintro e w' ⟨rfl,hb⟩;clear f0 f1 f2;have Hn:=Lib.hid (H.out.next hb);have HMn:=Lib.hid (HM.out.next hb);clear H HM hb;have H:=Hn;have HM:=HMn;clear Hn HMn;obtain ⟨f0,f1,f2,_,_,_⟩:=(H.out.blk 0 rfl).three)
   | (go_at_call 121;refine (ind9_any _ _).mono ?_;rintro e w' ⟨rfl,hb⟩;clear f0 f1 f2;have Hn:=Lib.hid (H.out.next hb);have HMn:=Lib.hid (HM.out.next hb);clear H HM hb;have H:=Hn;have HM:=HMn;clear Hn HMn;obtain ⟨f0,f1,f2,_,_,_⟩:=(H.out.blk 0 rfl).three)
   | (go_at_call 123;refine (acc9_any _).mono ?_;rintro e w' ⟨rfl,hb⟩;clear f0 f1 f2;have Hn:=Lib.hid (H.out.next hb);have HMn:=Lib.hid (HM.out.next hb);clear H HM hb;have H:=Hn;have HM:=HMn;clear Hn HMn;obtain ⟨f0,f1,f2,_,_,_⟩:=(H.out.blk 0 rfl).three)
   | (go_at_call 118;refine (one_any _ _).mono ?_;rintro e w' ⟨v,rfl,ho,hb⟩;obtain ⟨va,vc,rfl⟩:=ho.form;clear f0 f1 f2;have HMn:=Lib.hid ((HM.out.next hb).add (ho.mono (r:=fun k=>w.heap.size < k) (fun k hk=>Nat.lt_of_lt_of_le (H.out.blk 1 rfl).lt hk)));have Hn:=Lib.hid (H.out.next hb);clear H HM ho hb;have H:=Hn;have HM:=HMn;clear Hn HMn;obtain ⟨f0,f1,f2,_,_,_⟩:=(H.out.blk 0 rfl).three)
   | (go_at_call 115;refine (two_any _ _ _).mono ?_;rintro e w' ⟨v,rfl,ho,hb⟩;obtain ⟨va,vc,rfl⟩:=ho.form;clear f0 f1 f2;have HMn:=Lib.hid ((HM.out.next hb).add (ho.mono (r:=fun k=>w.heap.size < k) (fun k hk=>Nat.lt_of_lt_of_le (H.out.blk 1 rfl).lt hk)));have Hn:=Lib.hid (H.out.next hb);clear H HM ho hb;have H:=Hn;have HM:=HMn;clear Hn HMn;obtain ⟨f0,f1,f2,_,_,_⟩:=(H.out.blk 0 rfl).three)
   | (go_at_call 114;with_reducible refine (ins9_any _ none 0 0 _ (opdOwn_none _ (fun k=>w.heap.size < k))).mono ?_;rintro e w' ⟨rfl,ho,hb⟩;clear f0 f1 f2;clear ho;have Hn:=Lib.hid (H.out.next hb);have HMn:=Lib.hid (HM.out.next hb);clear H HM hb;have H:=Hn;have HM:=HMn;clear Hn HMn;obtain ⟨f0,f1,f2,_,_,_⟩:=(H.out.blk 0 rfl).three)
   | (go_at_call 114;with_reducible refine (ins9_any _ _ _ _ _ (HM.out.get 0 rfl)).mono ?_;rintro e w' ⟨rfl,ho,hb⟩;clear f0 f1 f2;clear ho;have Hn:=Lib.hid (H.out.next hb);have HMn:=Lib.hid (HM.out.next hb);clear H HM hb;have H:=Hn;have HM:=HMn;clear Hn HMn;obtain ⟨f0,f1,f2,_,_,_⟩:=(H.out.blk 0 rfl).three))
 clear f0 f1 f2
 go_wp2
 have n3:=(H.out.blk 1 rfl).lt
 obtain ⟨e0,e1,d0,d1⟩:=(H.out.blk 1 rfl).two
 go_region
 all_goals go_wp2
 all_goals have n3:=(H.out.blk 1 rfl).lt
 all_goals have HV:OpdOwn w' (fun k=>w.heap.size < k) (.slice _ 2 _) [accO,memO]:=(HM.out.get 2 rfl)
 all_goals obtain ⟨h1,h2⟩:=put_ins2 (x:=.string ⟨#[73,78]⟩) H.out.below HV (fun k hk=>hk) (Nat.le_refl _)
 all_goals refine bodyPost_ret (insE_end rfl rfl (((((H.out.blk 1 rfl).set 0 _).set 1 _).alloc _).alloc _).drew) rfl ⟨_,rfl,h1.below ?_,?_⟩
 all_goals (repeat' (first | (with_reducible exact Below.refl _ _) | (with_reducible assumption) | (with_reducible refine Below.alloc ?_ ?_ _) | (with_reducible refine Below.drew ?_) | (with_reducible refine Below.setCell ?_ ?_ _) | (with_reducible exact Nat.le_refl _) | omega | (simp;done) | (simp;omega)))
end Go.Proofs.YtnbmbcjnncbaiaaGreatDoor
