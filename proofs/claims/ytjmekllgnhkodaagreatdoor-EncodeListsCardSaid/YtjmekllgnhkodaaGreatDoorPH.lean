/-
  The reference's instructions of x = 3; Main. Conditions: none.
-/
import Derived.Test.YtjmekllgnhkodaaGreatDoorPG
namespace Go.Proofs.YtjmekllgnhkodaaGreatDoor
set_option maxHeartbeats 4000000
set_option maxRecDepth 100000
open Go.RowKit Go.Shelf Go.Sort
def aluF (y:Int):ByteArray × Bool:=
 if y=0 then (⟨#[65,68,68]⟩,true) else if y=1 then (⟨#[65,68,67]⟩,true) else if y=2 then (⟨#[83,85,66]⟩,false) else if y=3 then (⟨#[83,66,67]⟩,true) else if y=4 then (⟨#[65,78,68]⟩,false) else if y=5 then (⟨#[88,79,82]⟩,false) else if y=6 then (⟨#[79,82]⟩,false) else (⟨#[67,80]⟩,false)
theorem alu_any (y:Int) (o:Opd) (w:World) (h0:0≤y) (h8:y < 8):Calls Tryz.prog 105 #[.int .i64 y,.agg #[.int .i64 o.kind,.int .i64 o.reg,.int .i64 o.n]] w (InsP w (aluF y).1 (if (aluF y).2 then [accO,o] else [o])):=by
 have:y=0∨y=1∨y=2∨y=3∨y=4∨y=5∨y=6∨y=7:=by omega
 rcases this with rfl | rfl | rfl | rfl | rfl | rfl | rfl | rfl
 ·exact alu_0 o w
 ·exact alu_1 o w
 ·exact alu_2 o w
 ·exact alu_3 o w
 ·exact alu_4 o w
 ·exact alu_5 o w
 ·exact alu_6 o w
 ·exact alu_7 o w
theorem high_0 (y:Int) (h0:0≤y) (h8:y < 8) (w:World):Calls Tryz.prog 106 #[.int .i64 y,.int .i64 0] w (InsE w ⟨#[82,69,84]⟩ [ccO y] ⟨#[]⟩):=by
 have H0:=Lib.hid ((Fr.start w).new' 27 #[.string ⟨#[]⟩,.slice none 0 0] rfl)
 go_enter Tryz.func106,Tryz.ntmps106
 go_wp2_with fail
 refine (rp_o _ _ _).mono ?_
 rintro e w1 ⟨o1,rfl,hb⟩
 have LT1:=Lib.hid (((H0.out.next hb).blk 0 rfl).lt)
 have H:=Lib.hid ((H0.out.next hb).new' 90 #[.int .i64 o1.kind,.int .i64 o1.reg,.int .i64 o1.n] rfl)
 obtain ⟨e0,e1,d0,d1⟩:=(H.out.blk 1 rfl).two
 clear hb
 go_wp2_with (first
  | (go_at_call 160;refine (frO H (cc9_any _ _)).mono ?_;rintro e w' ⟨rfl,H⟩)
  | (go_at_call 107;refine (frL H 1 rfl (one_any _ _)).mono ?_;rintro e w' ⟨va,vc,rfl,HO,H⟩)
  | (go_at_call 103;refine (frI H (ins9_any _ _ _ _ _ HO.out)).mono ?_;rintro e w' ⟨rfl,HO,H⟩;obtain ⟨e0,e1,d0,d1⟩:=(H.out.blk 1 rfl).two))
 have hpo:=fun x=>put_ins (x:=x) (y:=.slice va 1 vc) H.out.below HO.out (fun k hk=>hk) (Nat.le_refl _)
 exact bodyPost_ret (insE_end rfl rfl (((H.out.blk 1 rfl).set 0 _).set 1 _)) rfl ⟨_,rfl,(hpo _).1,(hpo _).2⟩
theorem s4_t1 {P:Prop} (h:P:=by
  have H0:=Lib.hid ((Fr.start w).new' 27 #[.string ⟨#[]⟩,.slice none 0 0] rfl)
  go_enter Tryz.func106,Tryz.ntmps106
  go_wp2_with fail
  refine (rp_o _ _ _).mono ?_
  rintro e w1 ⟨o1,rfl,hb⟩
  have LT1:=Lib.hid (((H0.out.next hb).blk 0 rfl).lt)
  have H:=Lib.hid ((H0.out.next hb).new' 90 #[.int .i64 o1.kind,.int .i64 o1.reg,.int .i64 o1.n] rfl)
  obtain ⟨e0,e1,d0,d1⟩:=(H.out.blk 1 rfl).two
  clear hb
  go_wp2_with (first
   | (go_at_call 109;refine (frO H (rp_any _ _ _)).mono ?_;rintro e w' ⟨rfl,H⟩)
   | (go_at_call 107;refine (frL H 1 rfl (one_any _ _)).mono ?_;rintro e w' ⟨va,vc,rfl,HO,H⟩)
   | (go_at_call 103;refine (frI H (ins9_any _ _ _ _ _ HO.out)).mono ?_;rintro e w' ⟨rfl,HO,H⟩;obtain ⟨e0,e1,d0,d1⟩:=(H.out.blk 1 rfl).two))
  have hpo:=fun x=>put_ins (x:=x) (y:=.slice va 1 vc) H.out.below HO.out (fun k hk=>hk) (Nat.le_refl _)
  exact bodyPost_ret (insE_end rfl rfl (((H.out.blk 1 rfl).set 0 _).set 1 _)) rfl ⟨_,rfl,(hpo _).1,(hpo _).2⟩):P:=h
theorem high_1_0 (y:Int) (h0:0≤y) (h8:y < 8) (hq:y % 2=0) (w:World):Calls Tryz.prog 106 #[.int .i64 y,.int .i64 1] w (InsE w ⟨#[80,79,80]⟩ [rpF (y / 2) 4] ⟨#[]⟩):=s4_t1
theorem s4_t2 {P:Prop} (h:P:=by
  have H0:=Lib.hid ((Fr.start w).new' 27 #[.string ⟨#[]⟩,.slice none 0 0] rfl)
  go_enter Tryz.func106,Tryz.ntmps106
  go_wp2_with fail
  first
   | ((have _:=Ma0);(refine (rp_o _ _ _).mono ?_);(rintro e w1 ⟨o1,rfl,hb⟩))
   | ((refine (rp_any 2 3 _).mono ?_);(rintro e w1 ⟨rfl,hb⟩))
  have LT1:=Lib.hid (((H0.out.next hb).blk 0 rfl).lt)
  first
   | ((have _:=Mb0);(have H:=Lib.hid ((H0.out.next hb).new' 90 #[.int .i64 o1.kind,.int .i64 o1.reg,.int .i64 o1.n] rfl)))
   | (have H:=Lib.hid ((H0.out.next hb).new' 90 #[.int .i64 (rpF 2 3).kind,.int .i64 (rpF 2 3).reg,.int .i64 (rpF 2 3).n] rfl))
  obtain ⟨f0,f1,f2,x0,x1,x2⟩:=(H.out.blk 0 rfl).three
  obtain ⟨e0,e1,d0,d1⟩:=(H.out.blk 1 rfl).two
  clear hb
  go_upto_region 9 with fail
  first
   | ((have _:=Mc0);(have HM:=Lib.hid (Fo.nil w.heap.size _:Fo w.heap.size [] (w1.alloc (.cells #[.int .i64 o1.kind,.int .i64 o1.reg,.int .i64 o1.n] 90)).drew)))
   | (have HM:=Lib.hid (Fo.nil w.heap.size _:Fo w.heap.size [] (w1.alloc (.cells #[.int .i64 (rpF 2 3).kind,.int .i64 (rpF 2 3).reg,.int .i64 (rpF 2 3).n] 90)).drew))
  have Hn:=Lib.hid H.out.drew
  clear H
  have H:=Hn
  clear Hn
  obtain ⟨f0,f1,f2,_,_,_⟩:=(H.out.blk 0 rfl).three
  have n1:¬w1.heap.size=w.heap.size:=by have:=LT1.out;omega
  have n2:¬w.heap.size=w1.heap.size:=fun e=>n1 e.symm
  obtain ⟨e0,e1,d0,d1⟩:=(H.out.blk 1 rfl).two
  have n3:=LT1.out
  first
   | ((have _:=Md0);(have k2:IntKind.i64.wrap 0=0:=by decide))
   | ((have _:=Md1);(have k2:IntKind.i64.wrap 1=1:=by decide))
   | ((have _:=Md2);(have k2:IntKind.i64.wrap 2=2:=by decide))
   | (have k2:IntKind.i64.wrap 3=3:=by decide)
  go_region_law ((go_simp;(first
    | (go_at_call 109;refine (rp_any _ _ _).mono ?_;rintro e w' ⟨rfl,hb⟩;clear f0 f1 f2 e0 e1 d0 d1 n3;have Hn:=Lib.hid (H.out.next hb);have HMn:=Lib.hid (HM.out.next hb);clear H HM hb;have H:=Hn;have HM:=HMn;clear Hn HMn;obtain ⟨f0,f1,f2,_,_,_⟩:=(H.out.blk 0 rfl).three;obtain ⟨e0,e1,d0,d1⟩:=(H.out.blk 1 rfl).two;have n3:=(H.out.blk 1 rfl).lt)
    | (go_at_call 110;refine (ind9_any _ _).mono ?_;rintro e w' ⟨rfl,hb⟩;clear f0 f1 f2 e0 e1 d0 d1 n3;have Hn:=Lib.hid (H.out.next hb);have HMn:=Lib.hid (HM.out.next hb);clear H HM hb;have H:=Hn;have HM:=HMn;clear Hn HMn;obtain ⟨f0,f1,f2,_,_,_⟩:=(H.out.blk 0 rfl).three;obtain ⟨e0,e1,d0,d1⟩:=(H.out.blk 1 rfl).two;have n3:=(H.out.blk 1 rfl).lt)
    | (go_at_call 107;refine (one_any _ _).mono ?_;rintro e w' ⟨v,rfl,ho,hb⟩;obtain ⟨va,vc,rfl⟩:=ho.form;clear f0 f1 f2 e0 e1 d0 d1 n3;have HMn:=Lib.hid ((HM.out.next hb).add (ho.mono (r:=fun k=>w.heap.size < k) (fun k hk=>Nat.lt_of_lt_of_le (H.out.blk 1 rfl).lt hk)));have Hn:=Lib.hid (H.out.next hb);clear H HM ho hb;have H:=Hn;have HM:=HMn;clear Hn HMn;obtain ⟨f0,f1,f2,_,_,_⟩:=(H.out.blk 0 rfl).three;obtain ⟨e0,e1,d0,d1⟩:=(H.out.blk 1 rfl).two;have n3:=(H.out.blk 1 rfl).lt)
    | (go_at_call 104;refine (two_any _ _ _).mono ?_;rintro e w' ⟨v,rfl,ho,hb⟩;obtain ⟨va,vc,rfl⟩:=ho.form;clear f0 f1 f2 e0 e1 d0 d1 n3;have HMn:=Lib.hid ((HM.out.next hb).add (ho.mono (r:=fun k=>w.heap.size < k) (fun k hk=>Nat.lt_of_lt_of_le (H.out.blk 1 rfl).lt hk)));have Hn:=Lib.hid (H.out.next hb);clear H HM ho hb;have H:=Hn;have HM:=HMn;clear Hn HMn;obtain ⟨f0,f1,f2,_,_,_⟩:=(H.out.blk 0 rfl).three;obtain ⟨e0,e1,d0,d1⟩:=(H.out.blk 1 rfl).two;have n3:=(H.out.blk 1 rfl).lt)
    | (go_at_call 103;with_reducible refine (ins9_any _ none 0 0 _ (opdOwn_none _ (fun k=>w.heap.size < k))).mono ?_;rintro e w' ⟨rfl,ho,hb⟩;clear f0 f1 f2 e0 e1 d0 d1 n3;clear ho;have Hn:=Lib.hid (H.out.next hb);have HMn:=Lib.hid (HM.out.next hb);clear H HM hb;have H:=Hn;have HM:=HMn;clear Hn HMn;obtain ⟨f0,f1,f2,_,_,_⟩:=(H.out.blk 0 rfl).three;obtain ⟨e0,e1,d0,d1⟩:=(H.out.blk 1 rfl).two;have n3:=(H.out.blk 1 rfl).lt)
    | (go_at_call 103;with_reducible refine (ins9_any _ _ _ _ _ (HM.out.get 0 rfl)).mono ?_;rintro e w' ⟨rfl,ho,hb⟩;clear f0 f1 f2 e0 e1 d0 d1 n3;clear ho;have Hn:=Lib.hid (H.out.next hb);have HMn:=Lib.hid (HM.out.next hb);clear H HM hb;have H:=Hn;have HM:=HMn;clear Hn HMn;obtain ⟨f0,f1,f2,_,_,_⟩:=(H.out.blk 0 rfl).three;obtain ⟨e0,e1,d0,d1⟩:=(H.out.blk 1 rfl).two;have n3:=(H.out.blk 1 rfl).lt));dsimp only))
  all_goals go_wp2
  all_goals have n3:=(H.out.blk 1 rfl).lt
  first
   | ((have _:=Me0);(all_goals have HV:OpdOwn w' (fun k=>w.heap.size < k) (.slice _ 0 _) []:=(opdOwn_none _ (fun k=>w.heap.size < k)));(all_goals obtain ⟨h1,h2⟩:=put_ins2 (x:=.string ⟨#[82,69,84]⟩) H.out.below HV (fun k hk=>hk) (Nat.le_refl _)))
   | ((have _:=Me1);(all_goals have HV:OpdOwn w' (fun k=>w.heap.size < k) (.slice _ 0 _) []:=(opdOwn_none _ (fun k=>w.heap.size < k)));(all_goals obtain ⟨h1,h2⟩:=put_ins2 (x:=.string ⟨#[69,88,88]⟩) H.out.below HV (fun k hk=>hk) (Nat.le_refl _)))
   | ((have _:=Me2);(all_goals have HV:OpdOwn w' (fun k=>w.heap.size < k) (.slice _ 1 _) [indO 2]:=(HM.out.get 1 rfl));(all_goals obtain ⟨h1,h2⟩:=put_ins2 (x:=.string ⟨#[74,80]⟩) H.out.below HV (fun k hk=>hk) (Nat.le_refl _)))
   | ((all_goals have HV:OpdOwn w' (fun k=>w.heap.size < k) (.slice _ 2 _) [rpF 3 3,rpF 2 3]:=(HM.out.get 0 rfl));(all_goals obtain ⟨h1,h2⟩:=put_ins2 (x:=.string ⟨#[76,68]⟩) H.out.below HV (fun k hk=>hk) (Nat.le_refl _)))
  all_goals refine bodyPost_ret (insE_end rfl rfl ((((H.out.blk 1 rfl).set 0 _).set 1 _).alloc _).drew) rfl ⟨_,rfl,h1.below ?_,?_⟩
  all_goals (repeat' (first | (with_reducible exact Below.refl _ _) | (with_reducible assumption) | (with_reducible refine Below.alloc ?_ ?_ _) | (with_reducible refine Below.drew ?_) | (with_reducible refine Below.setCell ?_ ?_ _) | (with_reducible exact Nat.le_refl _) | omega | (simp;done) | (simp;omega)))):P:=h
theorem high_1_1 (w:World):Calls Tryz.prog 106 #[.int .i64 1,.int .i64 1] w (InsE w ⟨#[82,69,84]⟩ [] ⟨#[]⟩):=by
 have Ma0:=trivial
 have Mb0:=trivial
 have Mc0:=trivial
 have Md0:=trivial
 have Me0:=trivial
 exact s4_t2
theorem high_1_3 (w:World):Calls Tryz.prog 106 #[.int .i64 3,.int .i64 1] w (InsE w ⟨#[69,88,88]⟩ [] ⟨#[]⟩):=by
 have Ma0:=trivial
 have Mb0:=trivial
 have Mc0:=trivial
 have Md1:=trivial
 have Me1:=trivial
 exact s4_t2
theorem high_1_5 (w:World):Calls Tryz.prog 106 #[.int .i64 5,.int .i64 1] w (InsE w ⟨#[74,80]⟩ [indO 2] ⟨#[]⟩):=by
 have Ma0:=trivial
 have Mb0:=trivial
 have Mc0:=trivial
 have Md2:=trivial
 have Me2:=trivial
 exact s4_t2
theorem high_1_7 (w:World):Calls Tryz.prog 106 #[.int .i64 7,.int .i64 1] w (InsE w ⟨#[76,68]⟩ [rpF 3 3,rpF 2 3] ⟨#[]⟩):=s4_t2
theorem s4_t3 {P:Prop} (h:P:=by
  have H0:=Lib.hid ((Fr.start w).new' 27 #[.string ⟨#[]⟩,.slice none 0 0] rfl)
  go_enter Tryz.func106,Tryz.ntmps106
  go_wp2_with fail
  refine (rp_o _ _ _).mono ?_
  rintro e w1 ⟨o1,rfl,hb⟩
  have LT1:=Lib.hid (((H0.out.next hb).blk 0 rfl).lt)
  have H:=Lib.hid ((H0.out.next hb).new' 90 #[.int .i64 o1.kind,.int .i64 o1.reg,.int .i64 o1.n] rfl)
  obtain ⟨e0,e1,d0,d1⟩:=(H.out.blk 1 rfl).two
  clear hb
  go_wp2_with (first
   | (go_at_call 108;refine (frO H (imm9_any _ _)).mono ?_;rintro e w' ⟨rfl,H⟩)
   | (go_at_call 160;refine (frO H (cc9_any _ _)).mono ?_;rintro e w' ⟨rfl,H⟩)
   | (go_at_call 104;refine (frL H 1 rfl (two_any _ _ _)).mono ?_;rintro e w' ⟨va,vc,rfl,HO,H⟩)
   | (go_at_call 103;refine (frI H (ins9_any _ _ _ _ _ HO.out)).mono ?_;rintro e w' ⟨rfl,HO,H⟩;obtain ⟨e0,e1,d0,d1⟩:=(H.out.blk 1 rfl).two))
  have hpo:=fun x=>put_ins (x:=x) (y:=.slice va 2 vc) H.out.below HO.out (fun k hk=>hk) (Nat.le_refl _)
  exact bodyPost_ret (insE_end rfl rfl (((H.out.blk 1 rfl).set 0 _).set 1 _)) rfl ⟨_,rfl,(hpo _).1,(hpo _).2⟩):P:=h
theorem high_2 (y:Int) (h0:0≤y) (h8:y < 8) (w:World):Calls Tryz.prog 106 #[.int .i64 y,.int .i64 2] w (InsE w ⟨#[74,80]⟩ [ccO y,immO 0] ⟨#[119]⟩):=s4_t3
theorem high_4 (y:Int) (h0:0≤y) (h8:y < 8) (w:World):Calls Tryz.prog 106 #[.int .i64 y,.int .i64 4] w (InsE w ⟨#[67,65,76,76]⟩ [ccO y,immO 0] ⟨#[119]⟩):=s4_t3
theorem high_5_0 (y:Int) (h0:0≤y) (h8:y < 8) (hq:y % 2=0) (w:World):Calls Tryz.prog 106 #[.int .i64 y,.int .i64 5] w (InsE w ⟨#[80,85,83,72]⟩ [rpF (y / 2) 4] ⟨#[]⟩):=s4_t1
theorem s4_t4 {P:Prop} (h:P:=by
  have H0:=Lib.hid ((Fr.start w).new' 27 #[.string ⟨#[]⟩,.slice none 0 0] rfl)
  go_enter Tryz.func106,Tryz.ntmps106
  go_wp2_with fail
  refine (rp_o _ _ _).mono ?_
  rintro e w1 ⟨o1,rfl,hb⟩
  have LT1:=Lib.hid (((H0.out.next hb).blk 0 rfl).lt)
  have H:=Lib.hid ((H0.out.next hb).new' 90 #[.int .i64 o1.kind,.int .i64 o1.reg,.int .i64 o1.n] rfl)
  obtain ⟨e0,e1,d0,d1⟩:=(H.out.blk 1 rfl).two
  clear hb
  go_wp2_with (first
   | (go_at_call 108;refine (frO H (imm9_any _ _)).mono ?_;rintro e w' ⟨rfl,H⟩)
   | (go_at_call 107;refine (frL H 1 rfl (one_any _ _)).mono ?_;rintro e w' ⟨va,vc,rfl,HO,H⟩)
   | (go_at_call 103;refine (frI H (ins9_any _ _ _ _ _ HO.out)).mono ?_;rintro e w' ⟨rfl,HO,H⟩;obtain ⟨e0,e1,d0,d1⟩:=(H.out.blk 1 rfl).two))
  have hpo:=fun x=>put_ins (x:=x) (y:=.slice va 1 vc) H.out.below HO.out (fun k hk=>hk) (Nat.le_refl _)
  exact bodyPost_ret (insE_end rfl rfl (((H.out.blk 1 rfl).set 0 _).set 1 _)) rfl ⟨_,rfl,(hpo _).1,(hpo _).2⟩):P:=h
theorem high_5_1 (w:World):Calls Tryz.prog 106 #[.int .i64 1,.int .i64 5] w (InsE w ⟨#[67,65,76,76]⟩ [immO 0] ⟨#[119]⟩):=s4_t4
theorem high_5_x (y:Int) (h0:0≤y) (h8:y < 8) (hq:y % 2=1) (hy:y≠1) (w:World):Calls Tryz.prog 106 #[.int .i64 y,.int .i64 5] w (InsE w ⟨#[]⟩ [] ⟨#[]⟩):=by
 have H0:=Lib.hid ((Fr.start w).new' 27 #[.string ⟨#[]⟩,.slice none 0 0] rfl)
 have hy1:(y==1)=false:=by rw [beq_eq_false_iff_ne];exact hy
 go_enter Tryz.func106,Tryz.ntmps106
 go_wp2_with fail
 refine (rp_o _ _ _).mono ?_
 rintro e w1 ⟨o1,rfl,hb⟩
 have LT1:=Lib.hid (((H0.out.next hb).blk 0 rfl).lt)
 have H:=Lib.hid ((H0.out.next hb).new' 90 #[.int .i64 o1.kind,.int .i64 o1.reg,.int .i64 o1.n] rfl)
 obtain ⟨e0,e1,d0,d1⟩:=(H.out.blk 1 rfl).two
 clear hb
 go_wp2
 have HO:=Lib.hid (opdOwn_none w1 (fun k=>w.heap.size < k))
 have hpo:=fun x=>put_ins (x:=x) (y:=.slice none 0 0) H.out.below (opdOwn_none _ (fun k=>w.heap.size < k)) (fun k hk=>hk) (Nat.le_refl _)
 exact bodyPost_ret (insE_end rfl rfl (((H.out.blk 1 rfl).set 0 _).set 1 _)) rfl ⟨_,rfl,(hpo _).1,(hpo _).2⟩
theorem high_6 (y:Int) (h0:0≤y) (h8:y < 8) (w:World):Calls Tryz.prog 106 #[.int .i64 y,.int .i64 6] w (InsE w (aluF y).1 (if (aluF y).2 then [accO,immO 0] else [immO 0]) ⟨#[110]⟩):=by
 have H0:=Lib.hid ((Fr.start w).new' 27 #[.string ⟨#[]⟩,.slice none 0 0] rfl)
 have HAL:=Lib.hid (fun W=>alu_any y (immO 0) W h0 h8)
 generalize (if (aluF y).2 then [accO,immO 0] else [immO 0])=l at *
 generalize (aluF y).1=s at *
 go_enter Tryz.func106,Tryz.ntmps106
 go_wp2_with fail
 refine (rp_o _ _ _).mono ?_
 rintro e w1 ⟨o1,rfl,hb⟩
 have LT1:=Lib.hid (((H0.out.next hb).blk 0 rfl).lt)
 have H:=Lib.hid ((H0.out.next hb).new' 90 #[.int .i64 o1.kind,.int .i64 o1.reg,.int .i64 o1.n] rfl)
 obtain ⟨e0,e1,d0,d1⟩:=(H.out.blk 1 rfl).two
 clear hb
 go_wp2_with (first
  | (go_at_call 108;refine (frO H (imm9_any _ _)).mono ?_;rintro e w' ⟨rfl,H⟩)
  | (go_at_call 105;refine (HAL.out _).mono ?_;rintro e w' ⟨v,rfl,ho,hb⟩;obtain ⟨va,vc,rfl⟩:=ho.form;have HO:=Lib.hid (ho.mono (r:=fun k=>w.heap.size < k) (fun k hk=>Nat.lt_of_lt_of_le (H.out.blk 1 rfl).lt hk));have H:=Lib.hid (H.out.next hb);obtain ⟨e0,e1,d0,d1⟩:=(H.out.blk 1 rfl).two;clear ho hb))
 have hpo:=fun x=>put_ins (x:=x) (y:=.slice va l.length vc) H.out.below HO.out (fun k hk=>hk) (Nat.le_refl _)
 exact bodyPost_ret (insE_end rfl rfl (((H.out.blk 1 rfl).set 0 _).set 1 _)) rfl ⟨_,rfl,(hpo _).1,(hpo _).2⟩
theorem high_7 (y:Int) (h0:0≤y) (h8:y < 8) (w:World):Calls Tryz.prog 106 #[.int .i64 y,.int .i64 7] w (InsE w ⟨#[82,83,84]⟩ [immO (8 * y)] ⟨#[]⟩):=s4_t4
end Go.Proofs.YtjmekllgnhkodaaGreatDoor
namespace Go.Proofs.YtjmekllgnhkodaaGreatDoor
set_option maxHeartbeats 4000000
set_option maxRecDepth 100000
open Go.RowKit Go.Shelf Go.Sort
theorem s4b_t1 {P:Prop} (h:P:=by
  have H0:=Lib.hid ((Fr.start w).new' 27 #[.string ⟨#[]⟩,.slice none 0 0] rfl)
  go_enter Tryz.func106,Tryz.ntmps106
  go_wp2_with fail
  refine (rp_o _ _ _).mono ?_
  rintro e w1 ⟨o1,rfl,hb⟩
  have LT1:=Lib.hid (((H0.out.next hb).blk 0 rfl).lt)
  have H:=Lib.hid ((H0.out.next hb).new' 90 #[.int .i64 o1.kind,.int .i64 o1.reg,.int .i64 o1.n] rfl)
  obtain ⟨f0,f1,f2,x0,x1,x2⟩:=(H.out.blk 0 rfl).three
  obtain ⟨e0,e1,d0,d1⟩:=(H.out.blk 1 rfl).two
  clear hb
  go_upto_region 13 with fail
  have HM:=Lib.hid (Fo.nil w.heap.size _:Fo w.heap.size [] (w1.alloc (.cells #[.int .i64 o1.kind,.int .i64 o1.reg,.int .i64 o1.n] 90)).drew)
  have Hn:=Lib.hid H.out.drew
  clear H
  have H:=Hn
  clear Hn
  obtain ⟨f0,f1,f2,_,_,_⟩:=(H.out.blk 0 rfl).three
  have n1:¬w1.heap.size=w.heap.size:=by have:=LT1.out;omega
  have n2:¬w.heap.size=w1.heap.size:=fun e=>n1 e.symm
  go_region_held3 (fun w'=>w'.cell? ⟨w1.heap.size,0,none⟩=some (.int .i64 o1.kind)∧w'.cell? ⟨w1.heap.size,1,none⟩=some (.int .i64 o1.reg)∧w'.cell? ⟨w1.heap.size,2,none⟩=some (.int .i64 o1.n)) (go_keep)
   (first
    | (go_at_call 109;refine (rp_any _ _ _).mono ?_;rintro e w' ⟨rfl,hb⟩;clear f0 f1 f2;have Hn:=Lib.hid (H.out.next hb);have HMn:=Lib.hid (HM.out.next hb);clear H HM hb;have H:=Hn;have HM:=HMn;clear Hn HMn;obtain ⟨f0,f1,f2,_,_,_⟩:=(H.out.blk 0 rfl).three)
    | (go_at_call 108;refine (imm9_any _ _).mono ?_;rintro e w' ⟨rfl,hb⟩;clear f0 f1 f2;have Hn:=Lib.hid (H.out.next hb);have HMn:=Lib.hid (HM.out.next hb);clear H HM hb;have H:=Hn;have HM:=HMn;clear Hn HMn;obtain ⟨f0,f1,f2,_,_,_⟩:=(H.out.blk 0 rfl).three)
    | (go_at_call 111;refine (mem9_any _).mono ?_;rintro e w' ⟨rfl,hb⟩;clear f0 f1 f2;have Hn:=Lib.hid (H.out.next hb);have HMn:=Lib.hid (HM.out.next hb);clear H HM hb;have H:=Hn;have HM:=HMn;clear Hn HMn;obtain ⟨f0,f1,f2,_,_,_⟩:=(H.out.blk 0 rfl).three)
    | (go_at_call 110;refine (ind9_any _ _).mono ?_;rintro e w' ⟨rfl,hb⟩;clear f0 f1 f2;have Hn:=Lib.hid (H.out.next hb);have HMn:=Lib.hid (HM.out.next hb);clear H HM hb;have H:=Hn;have HM:=HMn;clear Hn HMn;obtain ⟨f0,f1,f2,_,_,_⟩:=(H.out.blk 0 rfl).three)
    | (go_at_call 112;refine (acc9_any _).mono ?_;rintro e w' ⟨rfl,hb⟩;clear f0 f1 f2;have Hn:=Lib.hid (H.out.next hb);have HMn:=Lib.hid (HM.out.next hb);clear H HM hb;have H:=Hn;have HM:=HMn;clear Hn HMn;obtain ⟨f0,f1,f2,_,_,_⟩:=(H.out.blk 0 rfl).three)
    | (go_at_call 107;refine (one_any _ _).mono ?_;rintro e w' ⟨v,rfl,ho,hb⟩;obtain ⟨va,vc,rfl⟩:=ho.form;clear f0 f1 f2;have HMn:=Lib.hid ((HM.out.next hb).add (ho.mono (r:=fun k=>w.heap.size < k) (fun k hk=>Nat.lt_of_lt_of_le (H.out.blk 1 rfl).lt hk)));have Hn:=Lib.hid (H.out.next hb);clear H HM ho hb;have H:=Hn;have HM:=HMn;clear Hn HMn;obtain ⟨f0,f1,f2,_,_,_⟩:=(H.out.blk 0 rfl).three)
    | (go_at_call 104;refine (two_any _ _ _).mono ?_;rintro e w' ⟨v,rfl,ho,hb⟩;obtain ⟨va,vc,rfl⟩:=ho.form;clear f0 f1 f2;have HMn:=Lib.hid ((HM.out.next hb).add (ho.mono (r:=fun k=>w.heap.size < k) (fun k hk=>Nat.lt_of_lt_of_le (H.out.blk 1 rfl).lt hk)));have Hn:=Lib.hid (H.out.next hb);clear H HM ho hb;have H:=Hn;have HM:=HMn;clear Hn HMn;obtain ⟨f0,f1,f2,_,_,_⟩:=(H.out.blk 0 rfl).three)
    | (go_at_call 103;with_reducible refine (ins9_any _ none 0 0 _ (opdOwn_none _ (fun k=>w.heap.size < k))).mono ?_;rintro e w' ⟨rfl,ho,hb⟩;clear f0 f1 f2;clear ho;have Hn:=Lib.hid (H.out.next hb);have HMn:=Lib.hid (HM.out.next hb);clear H HM hb;have H:=Hn;have HM:=HMn;clear Hn HMn;obtain ⟨f0,f1,f2,_,_,_⟩:=(H.out.blk 0 rfl).three)
    | (go_at_call 103;with_reducible refine (ins9_any _ _ _ _ _ (HM.out.get 0 rfl)).mono ?_;rintro e w' ⟨rfl,ho,hb⟩;clear f0 f1 f2;clear ho;have Hn:=Lib.hid (H.out.next hb);have HMn:=Lib.hid (HM.out.next hb);clear H HM hb;have H:=Hn;have HM:=HMn;clear Hn HMn;obtain ⟨f0,f1,f2,_,_,_⟩:=(H.out.blk 0 rfl).three))
  clear f0 f1 f2
  go_wp2
  have n3:=(H.out.blk 1 rfl).lt
  obtain ⟨e0,e1,d0,d1⟩:=(H.out.blk 1 rfl).two
  go_region
  all_goals go_wp2
  all_goals have n3:=(H.out.blk 1 rfl).lt
  first
   | ((have _:=Ma0);(all_goals have HV:OpdOwn w' (fun k=>w.heap.size < k) (.slice _ 1 _) [immO 0]:=(HM.out.get 4 rfl));(all_goals obtain ⟨h1,h2⟩:=put_ins2 (x:=.string ⟨#[74,80]⟩) H.out.below HV (fun k hk=>hk) (Nat.le_refl _)))
   | ((have _:=Ma1);(all_goals have HV:OpdOwn w' (fun k=>w.heap.size < k) (.slice _ 0 _) []:=(opdOwn_none _ (fun k=>w.heap.size < k)));(all_goals obtain ⟨h1,h2⟩:=put_ins2 (x:=.string ⟨#[]⟩) H.out.below HV (fun k hk=>hk) (Nat.le_refl _)))
   | ((have _:=Ma2);(all_goals have HV:OpdOwn w' (fun k=>w.heap.size < k) (.slice _ 2 _) [memO,accO]:=(HM.out.get 3 rfl));(all_goals obtain ⟨h1,h2⟩:=put_ins2 (x:=.string ⟨#[79,85,84]⟩) H.out.below HV (fun k hk=>hk) (Nat.le_refl _)))
   | ((have _:=Ma3);(all_goals have HV:OpdOwn w' (fun k=>w.heap.size < k) (.slice _ 2 _) [accO,memO]:=(HM.out.get 2 rfl));(all_goals obtain ⟨h1,h2⟩:=put_ins2 (x:=.string ⟨#[73,78]⟩) H.out.below HV (fun k hk=>hk) (Nat.le_refl _)))
   | ((have _:=Ma4);(all_goals have HV:OpdOwn w' (fun k=>w.heap.size < k) (.slice _ 0 _) []:=(opdOwn_none _ (fun k=>w.heap.size < k)));(all_goals obtain ⟨h1,h2⟩:=put_ins2 (x:=.string ⟨#[68,73]⟩) H.out.below HV (fun k hk=>hk) (Nat.le_refl _)))
   | ((all_goals have HV:OpdOwn w' (fun k=>w.heap.size < k) (.slice _ 0 _) []:=(opdOwn_none _ (fun k=>w.heap.size < k)));(all_goals obtain ⟨h1,h2⟩:=put_ins2 (x:=.string ⟨#[69,73]⟩) H.out.below HV (fun k hk=>hk) (Nat.le_refl _)))
  all_goals refine bodyPost_ret (insE_end rfl rfl (((((H.out.blk 1 rfl).set 0 _).set 1 _).alloc _).alloc _).drew) rfl ⟨_,rfl,h1.below ?_,?_⟩
  all_goals (repeat' (first | (with_reducible exact Below.refl _ _) | (with_reducible assumption) | (with_reducible refine Below.alloc ?_ ?_ _) | (with_reducible refine Below.drew ?_) | (with_reducible refine Below.setCell ?_ ?_ _) | (with_reducible exact Nat.le_refl _) | omega | (simp;done) | (simp;omega)))):P:=h
theorem high_3_0 (w:World):Calls Tryz.prog 106 #[.int .i64 0,.int .i64 3] w (InsE w ⟨#[74,80]⟩ [immO 0] ⟨#[119]⟩):=by
 have Ma0:=trivial
 exact s4b_t1
theorem high_3_1 (w:World):Calls Tryz.prog 106 #[.int .i64 1,.int .i64 3] w (InsE w ⟨#[]⟩ [] ⟨#[]⟩):=by
 have Ma1:=trivial
 exact s4b_t1
theorem high_3_2 (w:World):Calls Tryz.prog 106 #[.int .i64 2,.int .i64 3] w (InsE w ⟨#[79,85,84]⟩ [memO,accO] ⟨#[110]⟩):=by
 have Ma2:=trivial
 exact s4b_t1
theorem high_3_3 (w:World):Calls Tryz.prog 106 #[.int .i64 3,.int .i64 3] w (InsE w ⟨#[73,78]⟩ [accO,memO] ⟨#[110]⟩):=by
 have Ma3:=trivial
 exact s4b_t1
theorem s4b_t2 {P:Prop} (h:P:=by
  have H0:=Lib.hid ((Fr.start w).new' 27 #[.string ⟨#[]⟩,.slice none 0 0] rfl)
  go_enter Tryz.func106,Tryz.ntmps106
  go_wp2_with fail
  refine (rp_any 2 3 _).mono ?_
  rintro e w1 ⟨rfl,hb⟩
  have LT1:=Lib.hid (((H0.out.next hb).blk 0 rfl).lt)
  have H:=Lib.hid ((H0.out.next hb).new' 90 #[.int .i64 (rpF 2 3).kind,.int .i64 (rpF 2 3).reg,.int .i64 (rpF 2 3).n] rfl)
  obtain ⟨f0,f1,f2,x0,x1,x2⟩:=(H.out.blk 0 rfl).three
  obtain ⟨e0,e1,d0,d1⟩:=(H.out.blk 1 rfl).two
  clear hb
  go_upto_region 13 with fail
  have HM:=Lib.hid (Fo.nil w.heap.size _:Fo w.heap.size [] (w1.alloc (.cells #[.int .i64 (rpF 2 3).kind,.int .i64 (rpF 2 3).reg,.int .i64 (rpF 2 3).n] 90)).drew)
  have Hn:=Lib.hid H.out.drew
  clear H
  have H:=Hn
  clear Hn
  obtain ⟨f0,f1,f2,_,_,_⟩:=(H.out.blk 0 rfl).three
  have n1:¬w1.heap.size=w.heap.size:=by have:=LT1.out;omega
  have n2:¬w.heap.size=w1.heap.size:=fun e=>n1 e.symm
  go_region_held3 (fun w'=>w'.cell? ⟨w1.heap.size,0,none⟩=some (.int .i64 (rpF 2 3).kind)∧w'.cell? ⟨w1.heap.size,1,none⟩=some (.int .i64 (rpF 2 3).reg)∧w'.cell? ⟨w1.heap.size,2,none⟩=some (.int .i64 (rpF 2 3).n)) (go_keep)
   (first
    | (go_at_call 109;refine (rp_any _ _ _).mono ?_;rintro e w' ⟨rfl,hb⟩;clear f0 f1 f2;have Hn:=Lib.hid (H.out.next hb);have HMn:=Lib.hid (HM.out.next hb);clear H HM hb;have H:=Hn;have HM:=HMn;clear Hn HMn;obtain ⟨f0,f1,f2,_,_,_⟩:=(H.out.blk 0 rfl).three)
    | (go_at_call 108;refine (imm9_any _ _).mono ?_;rintro e w' ⟨rfl,hb⟩;clear f0 f1 f2;have Hn:=Lib.hid (H.out.next hb);have HMn:=Lib.hid (HM.out.next hb);clear H HM hb;have H:=Hn;have HM:=HMn;clear Hn HMn;obtain ⟨f0,f1,f2,_,_,_⟩:=(H.out.blk 0 rfl).three)
    | (go_at_call 111;refine (mem9_any _).mono ?_;rintro e w' ⟨rfl,hb⟩;clear f0 f1 f2;have Hn:=Lib.hid (H.out.next hb);have HMn:=Lib.hid (HM.out.next hb);clear H HM hb;have H:=Hn;have HM:=HMn;clear Hn HMn;obtain ⟨f0,f1,f2,_,_,_⟩:=(H.out.blk 0 rfl).three)
    | (go_at_call 110;refine (ind9_any _ _).mono ?_;rintro e w' ⟨rfl,hb⟩;clear f0 f1 f2;have Hn:=Lib.hid (H.out.next hb);have HMn:=Lib.hid (HM.out.next hb);clear H HM hb;have H:=Hn;have HM:=HMn;clear Hn HMn;obtain ⟨f0,f1,f2,_,_,_⟩:=(H.out.blk 0 rfl).three)
    | (go_at_call 112;refine (acc9_any _).mono ?_;rintro e w' ⟨rfl,hb⟩;clear f0 f1 f2;have Hn:=Lib.hid (H.out.next hb);have HMn:=Lib.hid (HM.out.next hb);clear H HM hb;have H:=Hn;have HM:=HMn;clear Hn HMn;obtain ⟨f0,f1,f2,_,_,_⟩:=(H.out.blk 0 rfl).three)
    | (go_at_call 107;refine (one_any _ _).mono ?_;rintro e w' ⟨v,rfl,ho,hb⟩;obtain ⟨va,vc,rfl⟩:=ho.form;clear f0 f1 f2;have HMn:=Lib.hid ((HM.out.next hb).add (ho.mono (r:=fun k=>w.heap.size < k) (fun k hk=>Nat.lt_of_lt_of_le (H.out.blk 1 rfl).lt hk)));have Hn:=Lib.hid (H.out.next hb);clear H HM ho hb;have H:=Hn;have HM:=HMn;clear Hn HMn;obtain ⟨f0,f1,f2,_,_,_⟩:=(H.out.blk 0 rfl).three)
    | (go_at_call 104;refine (two_any _ _ _).mono ?_;rintro e w' ⟨v,rfl,ho,hb⟩;obtain ⟨va,vc,rfl⟩:=ho.form;clear f0 f1 f2;have HMn:=Lib.hid ((HM.out.next hb).add (ho.mono (r:=fun k=>w.heap.size < k) (fun k hk=>Nat.lt_of_lt_of_le (H.out.blk 1 rfl).lt hk)));have Hn:=Lib.hid (H.out.next hb);clear H HM ho hb;have H:=Hn;have HM:=HMn;clear Hn HMn;obtain ⟨f0,f1,f2,_,_,_⟩:=(H.out.blk 0 rfl).three)
    | (go_at_call 103;with_reducible refine (ins9_any _ none 0 0 _ (opdOwn_none _ (fun k=>w.heap.size < k))).mono ?_;rintro e w' ⟨rfl,ho,hb⟩;clear f0 f1 f2;clear ho;have Hn:=Lib.hid (H.out.next hb);have HMn:=Lib.hid (HM.out.next hb);clear H HM hb;have H:=Hn;have HM:=HMn;clear Hn HMn;obtain ⟨f0,f1,f2,_,_,_⟩:=(H.out.blk 0 rfl).three)
    | (go_at_call 103;with_reducible refine (ins9_any _ _ _ _ _ (HM.out.get 0 rfl)).mono ?_;rintro e w' ⟨rfl,ho,hb⟩;clear f0 f1 f2;clear ho;have Hn:=Lib.hid (H.out.next hb);have HMn:=Lib.hid (HM.out.next hb);clear H HM hb;have H:=Hn;have HM:=HMn;clear Hn HMn;obtain ⟨f0,f1,f2,_,_,_⟩:=(H.out.blk 0 rfl).three))
  clear f0 f1 f2
  go_wp2
  have n3:=(H.out.blk 1 rfl).lt
  obtain ⟨e0,e1,d0,d1⟩:=(H.out.blk 1 rfl).two
  go_region
  all_goals go_wp2
  all_goals have n3:=(H.out.blk 1 rfl).lt
  first
   | ((have _:=Ma0);(all_goals have HV:OpdOwn w' (fun k=>w.heap.size < k) (.slice _ 2 _) [indO 3,rpF 2 3]:=(HM.out.get 1 rfl)))
   | (all_goals have HV:OpdOwn w' (fun k=>w.heap.size < k) (.slice _ 2 _) [rpF 1 3,rpF 2 3]:=(HM.out.get 0 rfl))
  all_goals obtain ⟨h1,h2⟩:=put_ins2 (x:=.string ⟨#[69,88]⟩) H.out.below HV (fun k hk=>hk) (Nat.le_refl _)
  all_goals refine bodyPost_ret (insE_end rfl rfl (((((H.out.blk 1 rfl).set 0 _).set 1 _).alloc _).alloc _).drew) rfl ⟨_,rfl,h1.below ?_,?_⟩
  all_goals (repeat' (first | (with_reducible exact Below.refl _ _) | (with_reducible assumption) | (with_reducible refine Below.alloc ?_ ?_ _) | (with_reducible refine Below.drew ?_) | (with_reducible refine Below.setCell ?_ ?_ _) | (with_reducible exact Nat.le_refl _) | omega | (simp;done) | (simp;omega)))):P:=h
theorem high_3_4 (w:World):Calls Tryz.prog 106 #[.int .i64 4,.int .i64 3] w (InsE w ⟨#[69,88]⟩ [indO 3,rpF 2 3] ⟨#[]⟩):=by
 have Ma0:=trivial
 exact s4b_t2
theorem high_3_5 (w:World):Calls Tryz.prog 106 #[.int .i64 5,.int .i64 3] w (InsE w ⟨#[69,88]⟩ [rpF 1 3,rpF 2 3] ⟨#[]⟩):=s4b_t2
theorem high_3_6 (w:World):Calls Tryz.prog 106 #[.int .i64 6,.int .i64 3] w (InsE w ⟨#[68,73]⟩ [] ⟨#[]⟩):=by
 have Ma4:=trivial
 exact s4b_t1
theorem high_3_7 (w:World):Calls Tryz.prog 106 #[.int .i64 7,.int .i64 3] w (InsE w ⟨#[69,73]⟩ [] ⟨#[]⟩):=s4b_t1
end Go.Proofs.YtjmekllgnhkodaaGreatDoor
namespace Go.Proofs.YtjmekllgnhkodaaGreatDoor
set_option maxHeartbeats 4000000
set_option maxRecDepth 100000
open Go.RowKit Go.Shelf Go.Sort
def lowF (y z:Int):ByteArray × List Opd × ByteArray:=
 if z=0 then (if y=0 then (⟨#[78,79,80]⟩,[],⟨#[]⟩) else (if y=1 then (⟨#[69,88]⟩,[rpF 3 4,rpF 3 7],⟨#[]⟩) else (if y=2 then (⟨#[68,74,78,90]⟩,[relO],⟨#[101]⟩) else (if y=3 then (⟨#[74,82]⟩,[relO],⟨#[101]⟩) else (⟨#[74,82]⟩,[ccO (y - 4),relO],⟨#[101]⟩))))) else
 if z=1 then (if y % 2=0 then (⟨#[76,68]⟩,[rpF (y / 2) 3,immO 0],⟨#[119]⟩) else (⟨#[65,68,68]⟩,[rpF 2 3,rpF (y / 2) 3],⟨#[]⟩)) else
 if z=2 then (if y % 2=0 then (if y < 4 then (⟨#[76,68]⟩,[indO (y / 2),accO],⟨#[]⟩) else (if y < 6 then (⟨#[76,68]⟩,[memO,rpF 2 3],⟨#[119]⟩) else (⟨#[76,68]⟩,[memO,accO],⟨#[119]⟩))) else (if y < 4 then (⟨#[76,68]⟩,[accO,indO (y / 2)],⟨#[]⟩) else (if y < 6 then (⟨#[76,68]⟩,[rpF 2 3,memO],⟨#[119]⟩) else (⟨#[76,68]⟩,[accO,memO],⟨#[119]⟩)))) else
 if z=3 then (if y % 2=0 then (⟨#[73,78,67]⟩,[rpF (y / 2) 3],⟨#[]⟩) else (⟨#[68,69,67]⟩,[rpF (y / 2) 3],⟨#[]⟩)) else
 if z=4 then (⟨#[73,78,67]⟩,[rF y],⟨#[]⟩) else
 if z=5 then (⟨#[68,69,67]⟩,[rF y],⟨#[]⟩) else
 if z=6 then (⟨#[76,68]⟩,[rF y,immO 0],⟨#[110]⟩) else
 (if y=0 then (⟨#[82,76,67,65]⟩,[],⟨#[]⟩) else (if y=1 then (⟨#[82,82,67,65]⟩,[],⟨#[]⟩) else (if y=2 then (⟨#[82,76,65]⟩,[],⟨#[]⟩) else (if y=3 then (⟨#[82,82,65]⟩,[],⟨#[]⟩) else (if y=4 then (⟨#[68,65,65]⟩,[],⟨#[]⟩) else (if y=5 then (⟨#[67,80,76]⟩,[],⟨#[]⟩) else (if y=6 then (⟨#[83,67,70]⟩,[],⟨#[]⟩) else (⟨#[67,67,70]⟩,[],⟨#[]⟩))))))))
theorem low_any (y z:Int) (hy0:0≤y) (hy8:y < 8) (hz0:0≤z) (hz8:z < 8) (w:World):Calls Tryz.prog 102 #[.int .i64 y,.int .i64 z] w (InsE w (lowF y z).1 (lowF y z).2.1 (lowF y z).2.2):=by
 have hz:z=0∨z=1∨z=2∨z=3∨z=4∨z=5∨z=6∨z=7:=by omega
 rcases hz with rfl | rfl | rfl | rfl | rfl | rfl | rfl | rfl
 ·skip
  by_cases h0:y=0
  ·subst h0
   have e:lowF 0 0=(⟨#[78,79,80]⟩,[],⟨#[]⟩):=by unfold lowF;rw [if_pos (show ((0:Int)=0) by omega),if_pos (show ((0:Int)=0) by omega)]
   rw [e]
   exact low_0_0 w
  ·skip
   by_cases h1:y=1
   ·subst h1
    have e:lowF 1 0=(⟨#[69,88]⟩,[rpF 3 4,rpF 3 7],⟨#[]⟩):=by unfold lowF;rw [if_pos (show ((0:Int)=0) by omega),if_neg (show ¬((1:Int)=0) by omega),if_pos (show ((1:Int)=1) by omega)]
    rw [e]
    exact low_0_1 w
   ·skip
    by_cases h2:y=2
    ·subst h2
     have e:lowF 2 0=(⟨#[68,74,78,90]⟩,[relO],⟨#[101]⟩):=by unfold lowF;rw [if_pos (show ((0:Int)=0) by omega),if_neg (show ¬((2:Int)=0) by omega),if_neg (show ¬((2:Int)=1) by omega),if_pos (show ((2:Int)=2) by omega)]
     rw [e]
     exact low_0_2 w
    ·skip
     by_cases h3:y=3
     ·subst h3
      have e:lowF 3 0=(⟨#[74,82]⟩,[relO],⟨#[101]⟩):=by unfold lowF;rw [if_pos (show ((0:Int)=0) by omega),if_neg (show ¬((3:Int)=0) by omega),if_neg (show ¬((3:Int)=1) by omega),if_neg (show ¬((3:Int)=2) by omega),if_pos (show ((3:Int)=3) by omega)]
      rw [e]
      exact low_0_3 w
     ·skip
      have e:lowF y 0=(⟨#[74,82]⟩,[ccO (y - 4),relO],⟨#[101]⟩):=by unfold lowF;rw [if_pos (show ((0:Int)=0) by omega),if_neg (show ¬(y=0) by omega),if_neg (show ¬(y=1) by omega),if_neg (show ¬(y=2) by omega),if_neg (show ¬(y=3) by omega)]
      rw [e]
      exact low_0_4 y (by omega) (by omega) w
 ·skip
  by_cases h0:y % 2=0
  ·skip
   have e:lowF y 1=(⟨#[76,68]⟩,[rpF (y / 2) 3,immO 0],⟨#[119]⟩):=by unfold lowF;rw [if_neg (show ¬((1:Int)=0) by omega),if_pos (show ((1:Int)=1) by omega),if_pos (show (y % 2=0) by omega)]
   rw [e]
   exact low_1_0 y (by omega) (by omega) (by omega) w
  ·skip
   have e:lowF y 1=(⟨#[65,68,68]⟩,[rpF 2 3,rpF (y / 2) 3],⟨#[]⟩):=by unfold lowF;rw [if_neg (show ¬((1:Int)=0) by omega),if_pos (show ((1:Int)=1) by omega),if_neg (show ¬(y % 2=0) by omega)]
   rw [e]
   exact low_1_1 y (by omega) (by omega) (by omega) w
 ·skip
  by_cases h0:y % 2=0
  ·skip
   by_cases h1:y < 4
   ·skip
    have e:lowF y 2=(⟨#[76,68]⟩,[indO (y / 2),accO],⟨#[]⟩):=by unfold lowF;rw [if_neg (show ¬((2:Int)=0) by omega),if_neg (show ¬((2:Int)=1) by omega),if_pos (show ((2:Int)=2) by omega),if_pos (show (y % 2=0) by omega),if_pos (show (y < 4) by omega)]
    rw [e]
    exact low_2_0a y (by omega) (by omega) (by omega) w
   ·skip
    by_cases h2:y < 6
    ·skip
     have e:lowF y 2=(⟨#[76,68]⟩,[memO,rpF 2 3],⟨#[119]⟩):=by unfold lowF;rw [if_neg (show ¬((2:Int)=0) by omega),if_neg (show ¬((2:Int)=1) by omega),if_pos (show ((2:Int)=2) by omega),if_pos (show (y % 2=0) by omega),if_neg (show ¬(y < 4) by omega),if_pos (show (y < 6) by omega)]
     rw [e]
     exact low_2_0b y (by omega) (by omega) (by omega) w
    ·skip
     have e:lowF y 2=(⟨#[76,68]⟩,[memO,accO],⟨#[119]⟩):=by unfold lowF;rw [if_neg (show ¬((2:Int)=0) by omega),if_neg (show ¬((2:Int)=1) by omega),if_pos (show ((2:Int)=2) by omega),if_pos (show (y % 2=0) by omega),if_neg (show ¬(y < 4) by omega),if_neg (show ¬(y < 6) by omega)]
     rw [e]
     exact low_2_0c y (by omega) (by omega) (by omega) w
  ·skip
   by_cases h1:y < 4
   ·skip
    have e:lowF y 2=(⟨#[76,68]⟩,[accO,indO (y / 2)],⟨#[]⟩):=by unfold lowF;rw [if_neg (show ¬((2:Int)=0) by omega),if_neg (show ¬((2:Int)=1) by omega),if_pos (show ((2:Int)=2) by omega),if_neg (show ¬(y % 2=0) by omega),if_pos (show (y < 4) by omega)]
    rw [e]
    exact low_2_1a y (by omega) (by omega) (by omega) w
   ·skip
    by_cases h2:y < 6
    ·skip
     have e:lowF y 2=(⟨#[76,68]⟩,[rpF 2 3,memO],⟨#[119]⟩):=by unfold lowF;rw [if_neg (show ¬((2:Int)=0) by omega),if_neg (show ¬((2:Int)=1) by omega),if_pos (show ((2:Int)=2) by omega),if_neg (show ¬(y % 2=0) by omega),if_neg (show ¬(y < 4) by omega),if_pos (show (y < 6) by omega)]
     rw [e]
     exact low_2_1b y (by omega) (by omega) (by omega) w
    ·skip
     have e:lowF y 2=(⟨#[76,68]⟩,[accO,memO],⟨#[119]⟩):=by unfold lowF;rw [if_neg (show ¬((2:Int)=0) by omega),if_neg (show ¬((2:Int)=1) by omega),if_pos (show ((2:Int)=2) by omega),if_neg (show ¬(y % 2=0) by omega),if_neg (show ¬(y < 4) by omega),if_neg (show ¬(y < 6) by omega)]
     rw [e]
     exact low_2_1c y (by omega) (by omega) (by omega) w
 ·skip
  by_cases h0:y % 2=0
  ·skip
   have e:lowF y 3=(⟨#[73,78,67]⟩,[rpF (y / 2) 3],⟨#[]⟩):=by unfold lowF;rw [if_neg (show ¬((3:Int)=0) by omega),if_neg (show ¬((3:Int)=1) by omega),if_neg (show ¬((3:Int)=2) by omega),if_pos (show ((3:Int)=3) by omega),if_pos (show (y % 2=0) by omega)]
   rw [e]
   exact low_3_0 y (by omega) (by omega) (by omega) w
  ·skip
   have e:lowF y 3=(⟨#[68,69,67]⟩,[rpF (y / 2) 3],⟨#[]⟩):=by unfold lowF;rw [if_neg (show ¬((3:Int)=0) by omega),if_neg (show ¬((3:Int)=1) by omega),if_neg (show ¬((3:Int)=2) by omega),if_pos (show ((3:Int)=3) by omega),if_neg (show ¬(y % 2=0) by omega)]
   rw [e]
   exact low_3_1 y (by omega) (by omega) (by omega) w
 ·skip
  have e:lowF y 4=(⟨#[73,78,67]⟩,[rF y],⟨#[]⟩):=by unfold lowF;rw [if_neg (show ¬((4:Int)=0) by omega),if_neg (show ¬((4:Int)=1) by omega),if_neg (show ¬((4:Int)=2) by omega),if_neg (show ¬((4:Int)=3) by omega),if_pos (show ((4:Int)=4) by omega)]
  rw [e]
  exact low_4 y (by omega) (by omega) w
 ·skip
  have e:lowF y 5=(⟨#[68,69,67]⟩,[rF y],⟨#[]⟩):=by unfold lowF;rw [if_neg (show ¬((5:Int)=0) by omega),if_neg (show ¬((5:Int)=1) by omega),if_neg (show ¬((5:Int)=2) by omega),if_neg (show ¬((5:Int)=3) by omega),if_neg (show ¬((5:Int)=4) by omega),if_pos (show ((5:Int)=5) by omega)]
  rw [e]
  exact low_5 y (by omega) (by omega) w
 ·skip
  have e:lowF y 6=(⟨#[76,68]⟩,[rF y,immO 0],⟨#[110]⟩):=by unfold lowF;rw [if_neg (show ¬((6:Int)=0) by omega),if_neg (show ¬((6:Int)=1) by omega),if_neg (show ¬((6:Int)=2) by omega),if_neg (show ¬((6:Int)=3) by omega),if_neg (show ¬((6:Int)=4) by omega),if_neg (show ¬((6:Int)=5) by omega),if_pos (show ((6:Int)=6) by omega)]
  rw [e]
  exact low_6 y (by omega) (by omega) w
 ·skip
  by_cases h0:y=0
  ·subst h0
   have e:lowF 0 7=(⟨#[82,76,67,65]⟩,[],⟨#[]⟩):=by unfold lowF;rw [if_neg (show ¬((7:Int)=0) by omega),if_neg (show ¬((7:Int)=1) by omega),if_neg (show ¬((7:Int)=2) by omega),if_neg (show ¬((7:Int)=3) by omega),if_neg (show ¬((7:Int)=4) by omega),if_neg (show ¬((7:Int)=5) by omega),if_neg (show ¬((7:Int)=6) by omega),if_pos (show ((0:Int)=0) by omega)]
   rw [e]
   exact low_7_0 w
  ·skip
   by_cases h1:y=1
   ·subst h1
    have e:lowF 1 7=(⟨#[82,82,67,65]⟩,[],⟨#[]⟩):=by unfold lowF;rw [if_neg (show ¬((7:Int)=0) by omega),if_neg (show ¬((7:Int)=1) by omega),if_neg (show ¬((7:Int)=2) by omega),if_neg (show ¬((7:Int)=3) by omega),if_neg (show ¬((7:Int)=4) by omega),if_neg (show ¬((7:Int)=5) by omega),if_neg (show ¬((7:Int)=6) by omega),if_neg (show ¬((1:Int)=0) by omega),if_pos (show ((1:Int)=1) by omega)]
    rw [e]
    exact low_7_1 w
   ·skip
    by_cases h2:y=2
    ·subst h2
     have e:lowF 2 7=(⟨#[82,76,65]⟩,[],⟨#[]⟩):=by unfold lowF;rw [if_neg (show ¬((7:Int)=0) by omega),if_neg (show ¬((7:Int)=1) by omega),if_neg (show ¬((7:Int)=2) by omega),if_neg (show ¬((7:Int)=3) by omega),if_neg (show ¬((7:Int)=4) by omega),if_neg (show ¬((7:Int)=5) by omega),if_neg (show ¬((7:Int)=6) by omega),if_neg (show ¬((2:Int)=0) by omega),if_neg (show ¬((2:Int)=1) by omega),if_pos (show ((2:Int)=2) by omega)]
     rw [e]
     exact low_7_2 w
    ·skip
     by_cases h3:y=3
     ·subst h3
      have e:lowF 3 7=(⟨#[82,82,65]⟩,[],⟨#[]⟩):=by unfold lowF;rw [if_neg (show ¬((7:Int)=0) by omega),if_neg (show ¬((7:Int)=1) by omega),if_neg (show ¬((7:Int)=2) by omega),if_neg (show ¬((7:Int)=3) by omega),if_neg (show ¬((7:Int)=4) by omega),if_neg (show ¬((7:Int)=5) by omega),if_neg (show ¬((7:Int)=6) by omega),if_neg (show ¬((3:Int)=0) by omega),if_neg (show ¬((3:Int)=1) by omega),if_neg (show ¬((3:Int)=2) by omega),if_pos (show ((3:Int)=3) by omega)]
      rw [e]
      exact low_7_3 w
     ·skip
      by_cases h4:y=4
      ·subst h4
       have e:lowF 4 7=(⟨#[68,65,65]⟩,[],⟨#[]⟩):=by unfold lowF;rw [if_neg (show ¬((7:Int)=0) by omega),if_neg (show ¬((7:Int)=1) by omega),if_neg (show ¬((7:Int)=2) by omega),if_neg (show ¬((7:Int)=3) by omega),if_neg (show ¬((7:Int)=4) by omega),if_neg (show ¬((7:Int)=5) by omega),if_neg (show ¬((7:Int)=6) by omega),if_neg (show ¬((4:Int)=0) by omega),if_neg (show ¬((4:Int)=1) by omega),if_neg (show ¬((4:Int)=2) by omega),if_neg (show ¬((4:Int)=3) by omega),if_pos (show ((4:Int)=4) by omega)]
       rw [e]
       exact low_7_4 w
      ·skip
       by_cases h5:y=5
       ·subst h5
        have e:lowF 5 7=(⟨#[67,80,76]⟩,[],⟨#[]⟩):=by unfold lowF;rw [if_neg (show ¬((7:Int)=0) by omega),if_neg (show ¬((7:Int)=1) by omega),if_neg (show ¬((7:Int)=2) by omega),if_neg (show ¬((7:Int)=3) by omega),if_neg (show ¬((7:Int)=4) by omega),if_neg (show ¬((7:Int)=5) by omega),if_neg (show ¬((7:Int)=6) by omega),if_neg (show ¬((5:Int)=0) by omega),if_neg (show ¬((5:Int)=1) by omega),if_neg (show ¬((5:Int)=2) by omega),if_neg (show ¬((5:Int)=3) by omega),if_neg (show ¬((5:Int)=4) by omega),if_pos (show ((5:Int)=5) by omega)]
        rw [e]
        exact low_7_5 w
       ·skip
        by_cases h6:y=6
        ·subst h6
         have e:lowF 6 7=(⟨#[83,67,70]⟩,[],⟨#[]⟩):=by unfold lowF;rw [if_neg (show ¬((7:Int)=0) by omega),if_neg (show ¬((7:Int)=1) by omega),if_neg (show ¬((7:Int)=2) by omega),if_neg (show ¬((7:Int)=3) by omega),if_neg (show ¬((7:Int)=4) by omega),if_neg (show ¬((7:Int)=5) by omega),if_neg (show ¬((7:Int)=6) by omega),if_neg (show ¬((6:Int)=0) by omega),if_neg (show ¬((6:Int)=1) by omega),if_neg (show ¬((6:Int)=2) by omega),if_neg (show ¬((6:Int)=3) by omega),if_neg (show ¬((6:Int)=4) by omega),if_neg (show ¬((6:Int)=5) by omega),if_pos (show ((6:Int)=6) by omega)]
         rw [e]
         exact low_7_6 w
        ·skip
         obtain rfl:y=7:=by omega
         have e:lowF 7 7=(⟨#[67,67,70]⟩,[],⟨#[]⟩):=by unfold lowF;rw [if_neg (show ¬((7:Int)=0) by omega),if_neg (show ¬((7:Int)=1) by omega),if_neg (show ¬((7:Int)=2) by omega),if_neg (show ¬((7:Int)=3) by omega),if_neg (show ¬((7:Int)=4) by omega),if_neg (show ¬((7:Int)=5) by omega),if_neg (show ¬((7:Int)=6) by omega),if_neg (show ¬((7:Int)=0) by omega),if_neg (show ¬((7:Int)=1) by omega),if_neg (show ¬((7:Int)=2) by omega),if_neg (show ¬((7:Int)=3) by omega),if_neg (show ¬((7:Int)=4) by omega),if_neg (show ¬((7:Int)=5) by omega),if_neg (show ¬((7:Int)=6) by omega)]
         rw [e]
         exact low_7_7 w
def highF (y z:Int):ByteArray × List Opd × ByteArray:=
 if z=0 then (⟨#[82,69,84]⟩,[ccO y],⟨#[]⟩) else
 if z=1 then (if y % 2=0 then (⟨#[80,79,80]⟩,[rpF (y / 2) 4],⟨#[]⟩) else (if y=1 then (⟨#[82,69,84]⟩,[],⟨#[]⟩) else (if y=3 then (⟨#[69,88,88]⟩,[],⟨#[]⟩) else (if y=5 then (⟨#[74,80]⟩,[indO 2],⟨#[]⟩) else (⟨#[76,68]⟩,[rpF 3 3,rpF 2 3],⟨#[]⟩))))) else
 if z=2 then (⟨#[74,80]⟩,[ccO y,immO 0],⟨#[119]⟩) else
 if z=3 then (if y=0 then (⟨#[74,80]⟩,[immO 0],⟨#[119]⟩) else (if y=1 then (⟨#[]⟩,[],⟨#[]⟩) else (if y=2 then (⟨#[79,85,84]⟩,[memO,accO],⟨#[110]⟩) else (if y=3 then (⟨#[73,78]⟩,[accO,memO],⟨#[110]⟩) else (if y=4 then (⟨#[69,88]⟩,[indO 3,rpF 2 3],⟨#[]⟩) else (if y=5 then (⟨#[69,88]⟩,[rpF 1 3,rpF 2 3],⟨#[]⟩) else (if y=6 then (⟨#[68,73]⟩,[],⟨#[]⟩) else (⟨#[69,73]⟩,[],⟨#[]⟩)))))))) else
 if z=4 then (⟨#[67,65,76,76]⟩,[ccO y,immO 0],⟨#[119]⟩) else
 if z=5 then (if y % 2=0 then (⟨#[80,85,83,72]⟩,[rpF (y / 2) 4],⟨#[]⟩) else (if y=1 then (⟨#[67,65,76,76]⟩,[immO 0],⟨#[119]⟩) else (⟨#[]⟩,[],⟨#[]⟩))) else
 if z=6 then ((aluF y).1,(if (aluF y).2 then [accO,immO 0] else [immO 0]),⟨#[110]⟩) else
 (⟨#[82,83,84]⟩,[immO (8 * y)],⟨#[]⟩)
theorem high_any (y z:Int) (hy0:0≤y) (hy8:y < 8) (hz0:0≤z) (hz8:z < 8) (w:World):Calls Tryz.prog 106 #[.int .i64 y,.int .i64 z] w (InsE w (highF y z).1 (highF y z).2.1 (highF y z).2.2):=by
 have hz:z=0∨z=1∨z=2∨z=3∨z=4∨z=5∨z=6∨z=7:=by omega
 rcases hz with rfl | rfl | rfl | rfl | rfl | rfl | rfl | rfl
 ·skip
  have e:highF y 0=(⟨#[82,69,84]⟩,[ccO y],⟨#[]⟩):=by unfold highF;rw [if_pos (show ((0:Int)=0) by omega)]
  rw [e]
  exact high_0 y (by omega) (by omega) w
 ·skip
  by_cases h0:y % 2=0
  ·skip
   have e:highF y 1=(⟨#[80,79,80]⟩,[rpF (y / 2) 4],⟨#[]⟩):=by unfold highF;rw [if_neg (show ¬((1:Int)=0) by omega),if_pos (show ((1:Int)=1) by omega),if_pos (show (y % 2=0) by omega)]
   rw [e]
   exact high_1_0 y (by omega) (by omega) (by omega) w
  ·skip
   by_cases h1:y=1
   ·subst h1
    have e:highF 1 1=(⟨#[82,69,84]⟩,[],⟨#[]⟩):=by unfold highF;rw [if_neg (show ¬((1:Int)=0) by omega),if_pos (show ((1:Int)=1) by omega),if_neg (show ¬((1:Int) % 2=0) by omega),if_pos (show ((1:Int)=1) by omega)]
    rw [e]
    exact high_1_1 w
   ·skip
    by_cases h2:y=3
    ·subst h2
     have e:highF 3 1=(⟨#[69,88,88]⟩,[],⟨#[]⟩):=by unfold highF;rw [if_neg (show ¬((1:Int)=0) by omega),if_pos (show ((1:Int)=1) by omega),if_neg (show ¬((3:Int) % 2=0) by omega),if_neg (show ¬((3:Int)=1) by omega),if_pos (show ((3:Int)=3) by omega)]
     rw [e]
     exact high_1_3 w
    ·skip
     by_cases h3:y=5
     ·subst h3
      have e:highF 5 1=(⟨#[74,80]⟩,[indO 2],⟨#[]⟩):=by unfold highF;rw [if_neg (show ¬((1:Int)=0) by omega),if_pos (show ((1:Int)=1) by omega),if_neg (show ¬((5:Int) % 2=0) by omega),if_neg (show ¬((5:Int)=1) by omega),if_neg (show ¬((5:Int)=3) by omega),if_pos (show ((5:Int)=5) by omega)]
      rw [e]
      exact high_1_5 w
     ·skip
      obtain rfl:y=7:=by omega
      have e:highF 7 1=(⟨#[76,68]⟩,[rpF 3 3,rpF 2 3],⟨#[]⟩):=by unfold highF;rw [if_neg (show ¬((1:Int)=0) by omega),if_pos (show ((1:Int)=1) by omega),if_neg (show ¬((7:Int) % 2=0) by omega),if_neg (show ¬((7:Int)=1) by omega),if_neg (show ¬((7:Int)=3) by omega),if_neg (show ¬((7:Int)=5) by omega)]
      rw [e]
      exact high_1_7 w
 ·skip
  have e:highF y 2=(⟨#[74,80]⟩,[ccO y,immO 0],⟨#[119]⟩):=by unfold highF;rw [if_neg (show ¬((2:Int)=0) by omega),if_neg (show ¬((2:Int)=1) by omega),if_pos (show ((2:Int)=2) by omega)]
  rw [e]
  exact high_2 y (by omega) (by omega) w
 ·skip
  by_cases h0:y=0
  ·subst h0
   have e:highF 0 3=(⟨#[74,80]⟩,[immO 0],⟨#[119]⟩):=by unfold highF;rw [if_neg (show ¬((3:Int)=0) by omega),if_neg (show ¬((3:Int)=1) by omega),if_neg (show ¬((3:Int)=2) by omega),if_pos (show ((3:Int)=3) by omega),if_pos (show ((0:Int)=0) by omega)]
   rw [e]
   exact high_3_0 w
  ·skip
   by_cases h1:y=1
   ·subst h1
    have e:highF 1 3=(⟨#[]⟩,[],⟨#[]⟩):=by unfold highF;rw [if_neg (show ¬((3:Int)=0) by omega),if_neg (show ¬((3:Int)=1) by omega),if_neg (show ¬((3:Int)=2) by omega),if_pos (show ((3:Int)=3) by omega),if_neg (show ¬((1:Int)=0) by omega),if_pos (show ((1:Int)=1) by omega)]
    rw [e]
    exact high_3_1 w
   ·skip
    by_cases h2:y=2
    ·subst h2
     have e:highF 2 3=(⟨#[79,85,84]⟩,[memO,accO],⟨#[110]⟩):=by unfold highF;rw [if_neg (show ¬((3:Int)=0) by omega),if_neg (show ¬((3:Int)=1) by omega),if_neg (show ¬((3:Int)=2) by omega),if_pos (show ((3:Int)=3) by omega),if_neg (show ¬((2:Int)=0) by omega),if_neg (show ¬((2:Int)=1) by omega),if_pos (show ((2:Int)=2) by omega)]
     rw [e]
     exact high_3_2 w
    ·skip
     by_cases h3:y=3
     ·subst h3
      have e:highF 3 3=(⟨#[73,78]⟩,[accO,memO],⟨#[110]⟩):=by unfold highF;rw [if_neg (show ¬((3:Int)=0) by omega),if_neg (show ¬((3:Int)=1) by omega),if_neg (show ¬((3:Int)=2) by omega),if_pos (show ((3:Int)=3) by omega),if_neg (show ¬((3:Int)=0) by omega),if_neg (show ¬((3:Int)=1) by omega),if_neg (show ¬((3:Int)=2) by omega),if_pos (show ((3:Int)=3) by omega)]
      rw [e]
      exact high_3_3 w
     ·skip
      by_cases h4:y=4
      ·subst h4
       have e:highF 4 3=(⟨#[69,88]⟩,[indO 3,rpF 2 3],⟨#[]⟩):=by unfold highF;rw [if_neg (show ¬((3:Int)=0) by omega),if_neg (show ¬((3:Int)=1) by omega),if_neg (show ¬((3:Int)=2) by omega),if_pos (show ((3:Int)=3) by omega),if_neg (show ¬((4:Int)=0) by omega),if_neg (show ¬((4:Int)=1) by omega),if_neg (show ¬((4:Int)=2) by omega),if_neg (show ¬((4:Int)=3) by omega),if_pos (show ((4:Int)=4) by omega)]
       rw [e]
       exact high_3_4 w
      ·skip
       by_cases h5:y=5
       ·subst h5
        have e:highF 5 3=(⟨#[69,88]⟩,[rpF 1 3,rpF 2 3],⟨#[]⟩):=by unfold highF;rw [if_neg (show ¬((3:Int)=0) by omega),if_neg (show ¬((3:Int)=1) by omega),if_neg (show ¬((3:Int)=2) by omega),if_pos (show ((3:Int)=3) by omega),if_neg (show ¬((5:Int)=0) by omega),if_neg (show ¬((5:Int)=1) by omega),if_neg (show ¬((5:Int)=2) by omega),if_neg (show ¬((5:Int)=3) by omega),if_neg (show ¬((5:Int)=4) by omega),if_pos (show ((5:Int)=5) by omega)]
        rw [e]
        exact high_3_5 w
       ·skip
        by_cases h6:y=6
        ·subst h6
         have e:highF 6 3=(⟨#[68,73]⟩,[],⟨#[]⟩):=by unfold highF;rw [if_neg (show ¬((3:Int)=0) by omega),if_neg (show ¬((3:Int)=1) by omega),if_neg (show ¬((3:Int)=2) by omega),if_pos (show ((3:Int)=3) by omega),if_neg (show ¬((6:Int)=0) by omega),if_neg (show ¬((6:Int)=1) by omega),if_neg (show ¬((6:Int)=2) by omega),if_neg (show ¬((6:Int)=3) by omega),if_neg (show ¬((6:Int)=4) by omega),if_neg (show ¬((6:Int)=5) by omega),if_pos (show ((6:Int)=6) by omega)]
         rw [e]
         exact high_3_6 w
        ·skip
         obtain rfl:y=7:=by omega
         have e:highF 7 3=(⟨#[69,73]⟩,[],⟨#[]⟩):=by unfold highF;rw [if_neg (show ¬((3:Int)=0) by omega),if_neg (show ¬((3:Int)=1) by omega),if_neg (show ¬((3:Int)=2) by omega),if_pos (show ((3:Int)=3) by omega),if_neg (show ¬((7:Int)=0) by omega),if_neg (show ¬((7:Int)=1) by omega),if_neg (show ¬((7:Int)=2) by omega),if_neg (show ¬((7:Int)=3) by omega),if_neg (show ¬((7:Int)=4) by omega),if_neg (show ¬((7:Int)=5) by omega),if_neg (show ¬((7:Int)=6) by omega)]
         rw [e]
         exact high_3_7 w
 ·skip
  have e:highF y 4=(⟨#[67,65,76,76]⟩,[ccO y,immO 0],⟨#[119]⟩):=by unfold highF;rw [if_neg (show ¬((4:Int)=0) by omega),if_neg (show ¬((4:Int)=1) by omega),if_neg (show ¬((4:Int)=2) by omega),if_neg (show ¬((4:Int)=3) by omega),if_pos (show ((4:Int)=4) by omega)]
  rw [e]
  exact high_4 y (by omega) (by omega) w
 ·skip
  by_cases h0:y % 2=0
  ·skip
   have e:highF y 5=(⟨#[80,85,83,72]⟩,[rpF (y / 2) 4],⟨#[]⟩):=by unfold highF;rw [if_neg (show ¬((5:Int)=0) by omega),if_neg (show ¬((5:Int)=1) by omega),if_neg (show ¬((5:Int)=2) by omega),if_neg (show ¬((5:Int)=3) by omega),if_neg (show ¬((5:Int)=4) by omega),if_pos (show ((5:Int)=5) by omega),if_pos (show (y % 2=0) by omega)]
   rw [e]
   exact high_5_0 y (by omega) (by omega) (by omega) w
  ·skip
   by_cases h1:y=1
   ·subst h1
    have e:highF 1 5=(⟨#[67,65,76,76]⟩,[immO 0],⟨#[119]⟩):=by unfold highF;rw [if_neg (show ¬((5:Int)=0) by omega),if_neg (show ¬((5:Int)=1) by omega),if_neg (show ¬((5:Int)=2) by omega),if_neg (show ¬((5:Int)=3) by omega),if_neg (show ¬((5:Int)=4) by omega),if_pos (show ((5:Int)=5) by omega),if_neg (show ¬((1:Int) % 2=0) by omega),if_pos (show ((1:Int)=1) by omega)]
    rw [e]
    exact high_5_1 w
   ·skip
    have e:highF y 5=(⟨#[]⟩,[],⟨#[]⟩):=by unfold highF;rw [if_neg (show ¬((5:Int)=0) by omega),if_neg (show ¬((5:Int)=1) by omega),if_neg (show ¬((5:Int)=2) by omega),if_neg (show ¬((5:Int)=3) by omega),if_neg (show ¬((5:Int)=4) by omega),if_pos (show ((5:Int)=5) by omega),if_neg (show ¬(y % 2=0) by omega),if_neg (show ¬(y=1) by omega)]
    rw [e]
    exact high_5_x y (by omega) (by omega) (by omega) (by omega) w
 ·skip
  have e:highF y 6=((aluF y).1,(if (aluF y).2 then [accO,immO 0] else [immO 0]),⟨#[110]⟩):=by unfold highF;rw [if_neg (show ¬((6:Int)=0) by omega),if_neg (show ¬((6:Int)=1) by omega),if_neg (show ¬((6:Int)=2) by omega),if_neg (show ¬((6:Int)=3) by omega),if_neg (show ¬((6:Int)=4) by omega),if_neg (show ¬((6:Int)=5) by omega),if_pos (show ((6:Int)=6) by omega)]
  rw [e]
  exact high_6 y (by omega) (by omega) w
 ·skip
  have e:highF y 7=(⟨#[82,83,84]⟩,[immO (8 * y)],⟨#[]⟩):=by unfold highF;rw [if_neg (show ¬((7:Int)=0) by omega),if_neg (show ¬((7:Int)=1) by omega),if_neg (show ¬((7:Int)=2) by omega),if_neg (show ¬((7:Int)=3) by omega),if_neg (show ¬((7:Int)=4) by omega),if_neg (show ¬((7:Int)=5) by omega),if_neg (show ¬((7:Int)=6) by omega)]
  rw [e]
  exact high_7 y (by omega) (by omega) w
end Go.Proofs.YtjmekllgnhkodaaGreatDoor
namespace Go.Proofs.YtjmekllgnhkodaaGreatDoor
set_option maxHeartbeats 4000000
set_option maxRecDepth 100000
open Go.RowKit Go.Shelf Go.Sort
def mainF (op:Int):ByteArray × List Opd × ByteArray:=
 if op / 64=0 then lowF (op / 8 % 8) (op % 8) else
 if op / 64=1 then (if op / 8 % 8=6∧op % 8=6 then (⟨#[72,65,76,84]⟩,[],⟨#[]⟩) else (⟨#[76,68]⟩,[rF (op / 8 % 8),rF (op % 8)],⟨#[]⟩)) else
 if op / 64=2 then ((aluF (op / 8 % 8)).1,(if (aluF (op / 8 % 8)).2 then [accO,rF (op % 8)] else [rF (op % 8)]),⟨#[]⟩) else highF (op / 8 % 8) (op % 8)
theorem main_0 (op y z:Int) (_h0:0≤op) (_h8:op < 256) (_hy:op / 8 % 8=y) (_hz:op % 8=z) (_hy0:0≤y) (_hy8:y < 8) (_hz0:0≤z) (_hz8:z < 8) (hx:op / 64=0) (w:World):Calls Tryz.prog 66 #[.int .u8 op] w (InsE w (lowF y z).1 (lowF y z).2.1 (lowF y z).2.2):=by
 have H:=Lib.hid ((Fr.start w).new' 27 #[.string ⟨#[]⟩,.slice none 0 0] rfl)
 have HL:=Lib.hid (fun W=>low_any y z _hy0 _hy8 _hz0 _hz8 W)
 generalize (lowF y z).1=s at *
 generalize (lowF y z).2.1=l at *
 generalize (lowF y z).2.2=ex at *
 go_enter Tryz.func66,Tryz.ntmps66
 go_wp2_with (go_at_call 102;refine (HL.out _).mono ?_;rintro e w' ⟨v,rfl,ho,hb⟩;obtain ⟨va,vc,rfl⟩:=ho.form;have HO:=Lib.hid (ho.mono (r:=fun k=>w.heap.size < k) (fun k hk=>Nat.lt_of_lt_of_le (H.out.blk 0 rfl).lt hk));have H:=Lib.hid (H.out.next hb);obtain ⟨e0,e1,d0,d1⟩:=(H.out.blk 0 rfl).two;clear ho hb)
 obtain ⟨h1,h2⟩:=put_ins (x:=.string s) (y:=.slice va l.length vc) H.out.below HO.out (fun k hk=>hk) (Nat.le_refl _)
 exact bodyPost_ret (insE_end rfl rfl (((H.out.blk 0 rfl).set 0 _).set 1 _)) rfl ⟨_,rfl,h1,h2⟩
theorem main_3 (op y z:Int) (_h0:0≤op) (_h8:op < 256) (_hy:op / 8 % 8=y) (_hz:op % 8=z) (_hy0:0≤y) (_hy8:y < 8) (_hz0:0≤z) (_hz8:z < 8) (hx:op / 64=3) (w:World):Calls Tryz.prog 66 #[.int .u8 op] w (InsE w (highF y z).1 (highF y z).2.1 (highF y z).2.2):=by
 have H:=Lib.hid ((Fr.start w).new' 27 #[.string ⟨#[]⟩,.slice none 0 0] rfl)
 have HL:=Lib.hid (fun W=>high_any y z _hy0 _hy8 _hz0 _hz8 W)
 generalize (highF y z).1=s at *
 generalize (highF y z).2.1=l at *
 generalize (highF y z).2.2=ex at *
 go_enter Tryz.func66,Tryz.ntmps66
 go_wp2_with (go_at_call 106;refine (HL.out _).mono ?_;rintro e w' ⟨v,rfl,ho,hb⟩;obtain ⟨va,vc,rfl⟩:=ho.form;have HO:=Lib.hid (ho.mono (r:=fun k=>w.heap.size < k) (fun k hk=>Nat.lt_of_lt_of_le (H.out.blk 0 rfl).lt hk));have H:=Lib.hid (H.out.next hb);obtain ⟨e0,e1,d0,d1⟩:=(H.out.blk 0 rfl).two;clear ho hb)
 obtain ⟨h1,h2⟩:=put_ins (x:=.string s) (y:=.slice va l.length vc) H.out.below HO.out (fun k hk=>hk) (Nat.le_refl _)
 exact bodyPost_ret (insE_end rfl rfl (((H.out.blk 0 rfl).set 0 _).set 1 _)) rfl ⟨_,rfl,h1,h2⟩
theorem main_1h (op y z:Int) (_h0:0≤op) (_h8:op < 256) (_hy:op / 8 % 8=y) (_hz:op % 8=z) (_hy0:0≤y) (_hy8:y < 8) (_hz0:0≤z) (_hz8:z < 8) (hx:op / 64=1) (h6:y=6) (h7:z=6) (w:World):Calls Tryz.prog 66 #[.int .u8 op] w (InsE w ⟨#[72,65,76,84]⟩ [] ⟨#[]⟩):=by
 have H:=Lib.hid ((Fr.start w).new' 27 #[.string ⟨#[]⟩,.slice none 0 0] rfl)
 subst h6
 subst h7
 go_enter Tryz.func66,Tryz.ntmps66
 go_wp2_with (go_at_call 103;refine (frI H (ins9_any _ none 0 0 _ (opdOwn_none _ (fun k=>w.heap.size < k)))).mono ?_;rintro e w' ⟨rfl,HO,H⟩;obtain ⟨e0,e1,d0,d1⟩:=(H.out.blk 0 rfl).two)
 obtain ⟨h1,h2⟩:=put_ins (x:=.string ⟨#[72,65,76,84]⟩) (y:=.slice none 0 0) H.out.below HO.out (fun k hk=>hk) (Nat.le_refl _)
 exact bodyPost_ret (insE_end rfl rfl (((H.out.blk 0 rfl).set 0 _).set 1 _)) rfl ⟨_,rfl,h1,h2⟩
theorem main_1a (op y z:Int) (_h0:0≤op) (_h8:op < 256) (_hy:op / 8 % 8=y) (_hz:op % 8=z) (_hy0:0≤y) (_hy8:y < 8) (_hz0:0≤z) (_hz8:z < 8) (hx:op / 64=1) (h6:¬y=6) (w:World):Calls Tryz.prog 66 #[.int .u8 op] w (InsE w ⟨#[76,68]⟩ [rF y,rF z] ⟨#[]⟩):=by
 have H:=Lib.hid ((Fr.start w).new' 27 #[.string ⟨#[]⟩,.slice none 0 0] rfl)
 go_enter Tryz.func66,Tryz.ntmps66
 go_wp2_with (first
  | (go_at_call 68;refine (frO H (r_any _ _)).mono ?_;rintro e w' ⟨rfl,H⟩)
  | (go_at_call 104;refine (frL H 0 rfl (two_any _ _ _)).mono ?_;rintro e w' ⟨va,vc,rfl,HO,H⟩)
  | (go_at_call 103;refine (frI H (ins9_any _ _ _ _ _ HO.out)).mono ?_;rintro e w' ⟨rfl,HO,H⟩;obtain ⟨e0,e1,d0,d1⟩:=(H.out.blk 0 rfl).two))
 obtain ⟨h1,h2⟩:=put_ins (x:=.string ⟨#[76,68]⟩) (y:=.slice va 2 vc) H.out.below HO.out (fun k hk=>hk) (Nat.le_refl _)
 exact bodyPost_ret (insE_end rfl rfl (((H.out.blk 0 rfl).set 0 _).set 1 _)) rfl ⟨_,rfl,h1,h2⟩
theorem main_1b (op y z:Int) (_h0:0≤op) (_h8:op < 256) (_hy:op / 8 % 8=y) (_hz:op % 8=z) (_hy0:0≤y) (_hy8:y < 8) (_hz0:0≤z) (_hz8:z < 8) (hx:op / 64=1) (h6:y=6) (h7:¬z=6) (w:World):Calls Tryz.prog 66 #[.int .u8 op] w (InsE w ⟨#[76,68]⟩ [rF y,rF z] ⟨#[]⟩):=by
 have H:=Lib.hid ((Fr.start w).new' 27 #[.string ⟨#[]⟩,.slice none 0 0] rfl)
 subst h6
 go_enter Tryz.func66,Tryz.ntmps66
 go_wp2_with (first
  | (go_at_call 68;refine (frO H (r_any _ _)).mono ?_;rintro e w' ⟨rfl,H⟩)
  | (go_at_call 104;refine (frL H 0 rfl (two_any _ _ _)).mono ?_;rintro e w' ⟨va,vc,rfl,HO,H⟩)
  | (go_at_call 103;refine (frI H (ins9_any _ _ _ _ _ HO.out)).mono ?_;rintro e w' ⟨rfl,HO,H⟩;obtain ⟨e0,e1,d0,d1⟩:=(H.out.blk 0 rfl).two))
 obtain ⟨h1,h2⟩:=put_ins (x:=.string ⟨#[76,68]⟩) (y:=.slice va 2 vc) H.out.below HO.out (fun k hk=>hk) (Nat.le_refl _)
 exact bodyPost_ret (insE_end rfl rfl (((H.out.blk 0 rfl).set 0 _).set 1 _)) rfl ⟨_,rfl,h1,h2⟩
theorem main_2 (op y z:Int) (_h0:0≤op) (_h8:op < 256) (_hy:op / 8 % 8=y) (_hz:op % 8=z) (_hy0:0≤y) (_hy8:y < 8) (_hz0:0≤z) (_hz8:z < 8) (hx:op / 64=2) (w:World):Calls Tryz.prog 66 #[.int .u8 op] w (InsE w (aluF y).1 (if (aluF y).2 then [accO,rF z] else [rF z]) ⟨#[]⟩):=by
 have H:=Lib.hid ((Fr.start w).new' 27 #[.string ⟨#[]⟩,.slice none 0 0] rfl)
 have HL:=Lib.hid (fun W=>alu_any y (rF z) W _hy0 _hy8)
 generalize (if (aluF y).2 then [accO,rF z] else [rF z])=l at *
 generalize (aluF y).1=s at *
 go_enter Tryz.func66,Tryz.ntmps66
 go_wp2_with (first
  | (go_at_call 68;refine (frO H (r_any _ _)).mono ?_;rintro e w' ⟨rfl,H⟩)
  | (go_at_call 105;refine (HL.out _).mono ?_;rintro e w' ⟨v,rfl,ho,hb⟩;obtain ⟨va,vc,rfl⟩:=ho.form;have HO:=Lib.hid (ho.mono (r:=fun k=>w.heap.size < k) (fun k hk=>Nat.lt_of_lt_of_le (H.out.blk 0 rfl).lt hk));have H:=Lib.hid (H.out.next hb);obtain ⟨e0,e1,d0,d1⟩:=(H.out.blk 0 rfl).two;clear ho hb))
 obtain ⟨h1,h2⟩:=put_ins (x:=.string s) (y:=.slice va l.length vc) H.out.below HO.out (fun k hk=>hk) (Nat.le_refl _)
 exact bodyPost_ret (insE_end rfl rfl (((H.out.blk 0 rfl).set 0 _).set 1 _)) rfl ⟨_,rfl,h1,h2⟩
theorem main9_any (op:Int) (h0:0≤op) (h8:op < 256) (w:World):Calls Tryz.prog 66 #[.int .u8 op] w (InsE w (mainF op).1 (mainF op).2.1 (mainF op).2.2):=by
 have hx:op / 64=0∨op / 64=1∨op / 64=2∨op / 64=3:=by omega
 rcases hx with hx | hx | hx | hx
 ·have e:mainF op=lowF (op / 8 % 8) (op % 8):=by unfold mainF;rw [if_pos hx]
  rw [e]
  exact main_0 op _ _ h0 h8 rfl rfl (by omega) (by omega) (by omega) (by omega) hx w
 ·by_cases h6:op / 8 % 8=6
  ·by_cases h7:op % 8=6
   ·have e:mainF op=(⟨#[72,65,76,84]⟩,[],⟨#[]⟩):=by unfold mainF;rw [if_neg (show ¬(op / 64=0) by omega),if_pos hx,if_pos ⟨h6,h7⟩]
    rw [e]
    exact main_1h op _ _ h0 h8 rfl rfl (by omega) (by omega) (by omega) (by omega) hx h6 h7 w
   ·have e:mainF op=(⟨#[76,68]⟩,[rF (op / 8 % 8),rF (op % 8)],⟨#[]⟩):=by unfold mainF;rw [if_neg (show ¬(op / 64=0) by omega),if_pos hx,if_neg (fun h=>h7 h.2)]
    rw [e]
    exact main_1b op _ _ h0 h8 rfl rfl (by omega) (by omega) (by omega) (by omega) hx h6 h7 w
  ·have e:mainF op=(⟨#[76,68]⟩,[rF (op / 8 % 8),rF (op % 8)],⟨#[]⟩):=by unfold mainF;rw [if_neg (show ¬(op / 64=0) by omega),if_pos hx,if_neg (fun h=>h6 h.1)]
   rw [e]
   exact main_1a op _ _ h0 h8 rfl rfl (by omega) (by omega) (by omega) (by omega) hx h6 w
 ·have e:mainF op=((aluF (op / 8 % 8)).1,(if (aluF (op / 8 % 8)).2 then [accO,rF (op % 8)] else [rF (op % 8)]),⟨#[]⟩):=by unfold mainF;rw [if_neg (show ¬(op / 64=0) by omega),if_neg (show ¬(op / 64=1) by omega),if_pos hx]
  rw [e]
  exact main_2 op _ _ h0 h8 rfl rfl (by omega) (by omega) (by omega) (by omega) hx w
 ·have e:mainF op=highF (op / 8 % 8) (op % 8):=by unfold mainF;rw [if_neg (show ¬(op / 64=0) by omega),if_neg (show ¬(op / 64=1) by omega),if_neg (show ¬(op / 64=2) by omega)]
  rw [e]
  exact main_3 op _ _ h0 h8 rfl rfl (by omega) (by omega) (by omega) (by omega) hx w
end Go.Proofs.YtjmekllgnhkodaaGreatDoor
