/-
  The reference's instructions with the prefix ED, further. Conditions: the opcode is a byte.
-/
import Derived.Test.YtnbmbcjnncbaiaaGreatDoorQI
namespace Go.Proofs.YtnbmbcjnncbaiaaGreatDoor
set_option maxHeartbeats 4000000
set_option maxRecDepth 100000
open Go.RowKit Go.Shelf Go.Sort
theorem ed_0a (op y z:Int) (_h0:0≤op) (_h8:op < 256) (_hy:op / 8 % 8=y) (_hz:op % 8=z) (_hy0:0≤y) (_hy8:y < 8) (_hz0:0≤z) (_hz8:z < 8) (hx:op / 64=1) (hz':z=0) (h6:y=6) (w:World):Calls Tryz.prog 85 #[.int .u8 op] w (InsA w ⟨#[73,78]⟩ [indO 8] ⟨#[]⟩ false):=by
 have H:=Lib.hid ((Fr.start w).new' 27 #[.string ⟨#[]⟩,.slice none 0 0] rfl)
 subst hz' h6
 go_enter Tryz.func85,Tryz.ntmps85
 go_wp2_with fail
 refine (rp_any 2 3 _).mono ?_
 rintro e w1 ⟨rfl,hb⟩
 have LT1:=Lib.hid ((H.out.next hb).blk 0 rfl).lt
 have H1:=Lib.hid ((H.out.next hb).new' 93 #[.int .i64 (rpF 2 3).kind,.int .i64 (rpF 2 3).reg,.int .i64 (rpF 2 3).n] rfl)
 clear hb H
 go_wp2_with fail
 refine (rp_any 3 3 _).mono ?_
 rintro e w2 ⟨rfl,hb⟩
 have LT2:=Lib.hid ((H1.out.next hb).blk 0 rfl).lt
 have H:=Lib.hid ((H1.out.next hb).new' 93 #[.int .i64 (rpF 3 3).kind,.int .i64 (rpF 3 3).reg,.int .i64 (rpF 3 3).n] rfl)
 obtain ⟨e0,e1,d0,d1⟩:=(H.out.blk 2 rfl).two
 clear hb H1
 go_wp2_with (first
  | (go_at_call 121;refine (frO H (ind9_any _ _)).mono ?_;rintro e w' ⟨rfl,H⟩)
  | (go_at_call 118;refine (frL H 2 rfl (one_any _ _)).mono ?_;rintro e w' ⟨va,vc,rfl,HO,H⟩)
  | (go_at_call 114;refine (frI H (ins9_any _ _ _ _ _ HO.out)).mono ?_;rintro e w' ⟨rfl,HO,H⟩;obtain ⟨e0,e1,d0,d1⟩:=(H.out.blk 2 rfl).two))
 obtain ⟨h1,h2⟩:=put_ins (x:=.string ⟨#[73,78]⟩) (y:=.slice va 1 vc) H.out.below HO.out (fun k hk=>hk) (Nat.le_refl _)
 exact bodyPost_ret (insA_end rfl rfl (((H.out.blk 2 rfl).set 0 _).set 1 _)) rfl ⟨_,rfl,h1,h2⟩
theorem ed_0b (op y z:Int) (_h0:0≤op) (_h8:op < 256) (_hy:op / 8 % 8=y) (_hz:op % 8=z) (_hy0:0≤y) (_hy8:y < 8) (_hz0:0≤z) (_hz8:z < 8) (hx:op / 64=1) (hz':z=0) (h6:¬y=6) (w:World):Calls Tryz.prog 85 #[.int .u8 op] w (InsA w ⟨#[73,78]⟩ [rF y,indO 8] ⟨#[]⟩ false):=by
 have H:=Lib.hid ((Fr.start w).new' 27 #[.string ⟨#[]⟩,.slice none 0 0] rfl)
 subst hz'
 go_enter Tryz.func85,Tryz.ntmps85
 go_wp2_with fail
 refine (rp_any 2 3 _).mono ?_
 rintro e w1 ⟨rfl,hb⟩
 have LT1:=Lib.hid ((H.out.next hb).blk 0 rfl).lt
 have H1:=Lib.hid ((H.out.next hb).new' 93 #[.int .i64 (rpF 2 3).kind,.int .i64 (rpF 2 3).reg,.int .i64 (rpF 2 3).n] rfl)
 clear hb H
 go_wp2_with fail
 refine (rp_any (y / 2) 3 _).mono ?_
 rintro e w2 ⟨rfl,hb⟩
 have LT2:=Lib.hid ((H1.out.next hb).blk 0 rfl).lt
 have H:=Lib.hid ((H1.out.next hb).new' 93 #[.int .i64 (rpF (y / 2) 3).kind,.int .i64 (rpF (y / 2) 3).reg,.int .i64 (rpF (y / 2) 3).n] rfl)
 obtain ⟨e0,e1,d0,d1⟩:=(H.out.blk 2 rfl).two
 clear hb H1
 go_wp2_with (first
  | (go_at_call 84;refine (frO H (r_any _ _)).mono ?_;rintro e w' ⟨rfl,H⟩)
  | (go_at_call 121;refine (frO H (ind9_any _ _)).mono ?_;rintro e w' ⟨rfl,H⟩)
  | (go_at_call 115;refine (frL H 2 rfl (two_any _ _ _)).mono ?_;rintro e w' ⟨va,vc,rfl,HO,H⟩)
  | (go_at_call 114;refine (frI H (ins9_any _ _ _ _ _ HO.out)).mono ?_;rintro e w' ⟨rfl,HO,H⟩;obtain ⟨e0,e1,d0,d1⟩:=(H.out.blk 2 rfl).two))
 obtain ⟨h1,h2⟩:=put_ins (x:=.string ⟨#[73,78]⟩) (y:=.slice va 2 vc) H.out.below HO.out (fun k hk=>hk) (Nat.le_refl _)
 exact bodyPost_ret (insA_end rfl rfl (((H.out.blk 2 rfl).set 0 _).set 1 _)) rfl ⟨_,rfl,h1,h2⟩
theorem ed_1a (op y z:Int) (_h0:0≤op) (_h8:op < 256) (_hy:op / 8 % 8=y) (_hz:op % 8=z) (_hy0:0≤y) (_hy8:y < 8) (_hz0:0≤z) (_hz8:z < 8) (hx:op / 64=1) (hz':z=1) (h6:y=6) (w:World):Calls Tryz.prog 85 #[.int .u8 op] w (InsA w ⟨#[79,85,84]⟩ [indO 8,immO 0] ⟨#[]⟩ false):=by
 have H:=Lib.hid ((Fr.start w).new' 27 #[.string ⟨#[]⟩,.slice none 0 0] rfl)
 subst hz' h6
 go_enter Tryz.func85,Tryz.ntmps85
 go_wp2_with fail
 refine (rp_any 2 3 _).mono ?_
 rintro e w1 ⟨rfl,hb⟩
 have LT1:=Lib.hid ((H.out.next hb).blk 0 rfl).lt
 have H1:=Lib.hid ((H.out.next hb).new' 93 #[.int .i64 (rpF 2 3).kind,.int .i64 (rpF 2 3).reg,.int .i64 (rpF 2 3).n] rfl)
 clear hb H
 go_wp2_with fail
 refine (rp_any 3 3 _).mono ?_
 rintro e w2 ⟨rfl,hb⟩
 have LT2:=Lib.hid ((H1.out.next hb).blk 0 rfl).lt
 have H:=Lib.hid ((H1.out.next hb).new' 93 #[.int .i64 (rpF 3 3).kind,.int .i64 (rpF 3 3).reg,.int .i64 (rpF 3 3).n] rfl)
 obtain ⟨e0,e1,d0,d1⟩:=(H.out.blk 2 rfl).two
 clear hb H1
 go_wp2_with (first
  | (go_at_call 119;refine (frO H (imm9_any _ _)).mono ?_;rintro e w' ⟨rfl,H⟩)
  | (go_at_call 121;refine (frO H (ind9_any _ _)).mono ?_;rintro e w' ⟨rfl,H⟩)
  | (go_at_call 115;refine (frL H 2 rfl (two_any _ _ _)).mono ?_;rintro e w' ⟨va,vc,rfl,HO,H⟩)
  | (go_at_call 114;refine (frI H (ins9_any _ _ _ _ _ HO.out)).mono ?_;rintro e w' ⟨rfl,HO,H⟩;obtain ⟨e0,e1,d0,d1⟩:=(H.out.blk 2 rfl).two))
 obtain ⟨h1,h2⟩:=put_ins (x:=.string ⟨#[79,85,84]⟩) (y:=.slice va 2 vc) H.out.below HO.out (fun k hk=>hk) (Nat.le_refl _)
 exact bodyPost_ret (insA_end rfl rfl (((H.out.blk 2 rfl).set 0 _).set 1 _)) rfl ⟨_,rfl,h1,h2⟩
theorem ed_1b (op y z:Int) (_h0:0≤op) (_h8:op < 256) (_hy:op / 8 % 8=y) (_hz:op % 8=z) (_hy0:0≤y) (_hy8:y < 8) (_hz0:0≤z) (_hz8:z < 8) (hx:op / 64=1) (hz':z=1) (h6:¬y=6) (w:World):Calls Tryz.prog 85 #[.int .u8 op] w (InsA w ⟨#[79,85,84]⟩ [indO 8,rF y] ⟨#[]⟩ false):=by
 have H:=Lib.hid ((Fr.start w).new' 27 #[.string ⟨#[]⟩,.slice none 0 0] rfl)
 subst hz'
 go_enter Tryz.func85,Tryz.ntmps85
 go_wp2_with fail
 refine (rp_any 2 3 _).mono ?_
 rintro e w1 ⟨rfl,hb⟩
 have LT1:=Lib.hid ((H.out.next hb).blk 0 rfl).lt
 have H1:=Lib.hid ((H.out.next hb).new' 93 #[.int .i64 (rpF 2 3).kind,.int .i64 (rpF 2 3).reg,.int .i64 (rpF 2 3).n] rfl)
 clear hb H
 go_wp2_with fail
 refine (rp_any (y / 2) 3 _).mono ?_
 rintro e w2 ⟨rfl,hb⟩
 have LT2:=Lib.hid ((H1.out.next hb).blk 0 rfl).lt
 have H:=Lib.hid ((H1.out.next hb).new' 93 #[.int .i64 (rpF (y / 2) 3).kind,.int .i64 (rpF (y / 2) 3).reg,.int .i64 (rpF (y / 2) 3).n] rfl)
 obtain ⟨e0,e1,d0,d1⟩:=(H.out.blk 2 rfl).two
 clear hb H1
 go_wp2_with (first
  | (go_at_call 84;refine (frO H (r_any _ _)).mono ?_;rintro e w' ⟨rfl,H⟩)
  | (go_at_call 121;refine (frO H (ind9_any _ _)).mono ?_;rintro e w' ⟨rfl,H⟩)
  | (go_at_call 115;refine (frL H 2 rfl (two_any _ _ _)).mono ?_;rintro e w' ⟨va,vc,rfl,HO,H⟩)
  | (go_at_call 114;refine (frI H (ins9_any _ _ _ _ _ HO.out)).mono ?_;rintro e w' ⟨rfl,HO,H⟩;obtain ⟨e0,e1,d0,d1⟩:=(H.out.blk 2 rfl).two))
 obtain ⟨h1,h2⟩:=put_ins (x:=.string ⟨#[79,85,84]⟩) (y:=.slice va 2 vc) H.out.below HO.out (fun k hk=>hk) (Nat.le_refl _)
 exact bodyPost_ret (insA_end rfl rfl (((H.out.blk 2 rfl).set 0 _).set 1 _)) rfl ⟨_,rfl,h1,h2⟩
theorem ed_2_0 (op y z:Int) (_h0:0≤op) (_h8:op < 256) (_hy:op / 8 % 8=y) (_hz:op % 8=z) (_hy0:0≤y) (_hy8:y < 8) (_hz0:0≤z) (_hz8:z < 8) (hx:op / 64=1) (hz':z=2) (hq:y % 2=0) (w:World):Calls Tryz.prog 85 #[.int .u8 op] w (InsA w ⟨#[83,66,67]⟩ [rpF 2 3,rpF (y / 2) 3] ⟨#[]⟩ false):=by
 have H:=Lib.hid ((Fr.start w).new' 27 #[.string ⟨#[]⟩,.slice none 0 0] rfl)
 subst hz'
 go_enter Tryz.func85,Tryz.ntmps85
 go_wp2_with fail
 refine (rp_any 2 3 _).mono ?_
 rintro e w1 ⟨rfl,hb⟩
 have LT1:=Lib.hid ((H.out.next hb).blk 0 rfl).lt
 have H1:=Lib.hid ((H.out.next hb).new' 93 #[.int .i64 (rpF 2 3).kind,.int .i64 (rpF 2 3).reg,.int .i64 (rpF 2 3).n] rfl)
 clear hb H
 go_wp2_with fail
 refine (rp_any (y / 2) 3 _).mono ?_
 rintro e w2 ⟨rfl,hb⟩
 have LT2:=Lib.hid ((H1.out.next hb).blk 0 rfl).lt
 have H:=Lib.hid ((H1.out.next hb).new' 93 #[.int .i64 (rpF (y / 2) 3).kind,.int .i64 (rpF (y / 2) 3).reg,.int .i64 (rpF (y / 2) 3).n] rfl)
 obtain ⟨f0,f1,f2,x0,x1,x2⟩:=(H.out.blk 0 rfl).three
 obtain ⟨g0,g1,g2,_,_,_⟩:=(H.out.blk 1 rfl).three
 obtain ⟨e0,e1,d0,d1⟩:=(H.out.blk 2 rfl).two
 clear hb H1
 have HX:=H
 have Hn:=Lib.hid H.out.drew
 clear H x0 x1 x2
 have H:=Hn
 clear Hn
 have HA:=Lib.hid (HX.out.new' 9 #[.string ⟨#[83,66,67]⟩,.string ⟨#[65,68,67]⟩] (b:=w2.heap.size+1) (by rw [World.size_alloc])).drew
 go_upto_region 22 with fail
 obtain ⟨f0,f1,f2,_,_,_⟩:=(H.out.mem w1.heap.size 93 #[.int .i64 (rpF 2 3).kind,.int .i64 (rpF 2 3).reg,.int .i64 (rpF 2 3).n] (by simp)).three
 obtain ⟨g0,g1,g2,_,_,_⟩:=(H.out.mem w2.heap.size 93 #[.int .i64 (rpF (y / 2) 3).kind,.int .i64 (rpF (y / 2) 3).reg,.int .i64 (rpF (y / 2) 3).n] (by simp)).three
 obtain ⟨e0,e1,d0,d1⟩:=(H.out.mem w.heap.size 27 #[.string ⟨#[]⟩,.slice none 0 0] (by simp)).two
 have n3:=(H.out.mem w.heap.size 27 #[.string ⟨#[]⟩,.slice none 0 0] (by simp)).lt
 obtain ⟨p0,p1,p2,_,_,_⟩:=(HA.out.mem w1.heap.size 93 #[.int .i64 (rpF 2 3).kind,.int .i64 (rpF 2 3).reg,.int .i64 (rpF 2 3).n] (by simp)).three
 obtain ⟨q0,q1,q2,_,_,_⟩:=(HA.out.mem w2.heap.size 93 #[.int .i64 (rpF (y / 2) 3).kind,.int .i64 (rpF (y / 2) 3).reg,.int .i64 (rpF (y / 2) 3).n] (by simp)).three
 go_region_law ((go_simp;(first
   | (go_at_call 115;refine (two_any _ _ _).mono ?_;rintro e w' ⟨v,rfl,ho,hb⟩;obtain ⟨va,vc,rfl⟩:=ho.form;have HO:=Lib.hid (ho.mono (r:=fun k=>w.heap.size < k) (fun k hk=>Nat.lt_of_lt_of_le (H.out.mem w.heap.size 27 #[.string ⟨#[]⟩,.slice none 0 0] (by simp)).lt (Nat.le_trans (by first | (with_reducible exact Nat.le_refl _) | (simp only [World.size_drew,World.size_alloc];omega)) hk)));clear ho;clear f0 f1 f2 g0 g1 g2 e0 e1 d0 d1 n3;have Hn:=Lib.hid ((HX.out.new' 9 #[.string ⟨#[83,66,67]⟩,.string ⟨#[65,68,67]⟩] (b:=w2.heap.size+1) (by rw [World.size_alloc])).drew.next hb);clear H hb;have H:=Hn;clear Hn;have HS:=Lib.hid (H.out.blk 0 rfl);have s0:=HS.out.cell 0;obtain ⟨f0,f1,f2,_,_,_⟩:=(H.out.mem w1.heap.size 93 #[.int .i64 (rpF 2 3).kind,.int .i64 (rpF 2 3).reg,.int .i64 (rpF 2 3).n] (by simp)).three;obtain ⟨g0,g1,g2,_,_,_⟩:=(H.out.mem w2.heap.size 93 #[.int .i64 (rpF (y / 2) 3).kind,.int .i64 (rpF (y / 2) 3).reg,.int .i64 (rpF (y / 2) 3).n] (by simp)).three;obtain ⟨e0,e1,d0,d1⟩:=(H.out.mem w.heap.size 27 #[.string ⟨#[]⟩,.slice none 0 0] (by simp)).two;have n3:=(H.out.mem w.heap.size 27 #[.string ⟨#[]⟩,.slice none 0 0] (by simp)).lt)
   | (go_at_call 115;refine (two_any _ _ _).mono ?_;rintro e w' ⟨v,rfl,ho,hb⟩;obtain ⟨va,vc,rfl⟩:=ho.form;have HO:=Lib.hid (ho.mono (r:=fun k=>w.heap.size < k) (fun k hk=>Nat.lt_of_lt_of_le (H.out.mem w.heap.size 27 #[.string ⟨#[]⟩,.slice none 0 0] (by simp)).lt (Nat.le_trans (by first | (with_reducible exact Nat.le_refl _) | (simp only [World.size_drew,World.size_alloc];omega)) hk)));clear ho;clear f0 f1 f2 g0 g1 g2 e0 e1 d0 d1 n3;have Hn:=Lib.hid (H.out.next hb);clear H hb;have H:=Hn;clear Hn;obtain ⟨f0,f1,f2,_,_,_⟩:=(H.out.mem w1.heap.size 93 #[.int .i64 (rpF 2 3).kind,.int .i64 (rpF 2 3).reg,.int .i64 (rpF 2 3).n] (by simp)).three;obtain ⟨g0,g1,g2,_,_,_⟩:=(H.out.mem w2.heap.size 93 #[.int .i64 (rpF (y / 2) 3).kind,.int .i64 (rpF (y / 2) 3).reg,.int .i64 (rpF (y / 2) 3).n] (by simp)).three;obtain ⟨e0,e1,d0,d1⟩:=(H.out.mem w.heap.size 27 #[.string ⟨#[]⟩,.slice none 0 0] (by simp)).two;have n3:=(H.out.mem w.heap.size 27 #[.string ⟨#[]⟩,.slice none 0 0] (by simp)).lt)
   | (go_at_call 114;refine (ins9_any _ _ _ _ _ HO.out).mono ?_;rintro e w' ⟨rfl,ho,hb⟩;have HOn:=Lib.hid ho;clear HO ho;have HO:=HOn;clear HOn;clear f0 f1 f2 g0 g1 g2 e0 e1 d0 d1 n3;have Hn:=Lib.hid (H.out.next hb);clear H hb;have H:=Hn;clear Hn;obtain ⟨f0,f1,f2,_,_,_⟩:=(H.out.mem w1.heap.size 93 #[.int .i64 (rpF 2 3).kind,.int .i64 (rpF 2 3).reg,.int .i64 (rpF 2 3).n] (by simp)).three;obtain ⟨g0,g1,g2,_,_,_⟩:=(H.out.mem w2.heap.size 93 #[.int .i64 (rpF (y / 2) 3).kind,.int .i64 (rpF (y / 2) 3).reg,.int .i64 (rpF (y / 2) 3).n] (by simp)).three;obtain ⟨e0,e1,d0,d1⟩:=(H.out.mem w.heap.size 27 #[.string ⟨#[]⟩,.slice none 0 0] (by simp)).two;have n3:=(H.out.mem w.heap.size 27 #[.string ⟨#[]⟩,.slice none 0 0] (by simp)).lt)
   | (go_at_call 114;refine (ins9_any _ _ _ _ _ (HO.out.below ((Below.refl _ _).alloc (Nat.le_refl _) _))).mono ?_;rintro e w' ⟨rfl,ho,hb⟩;have HOn:=Lib.hid ho;clear HO ho;have HO:=HOn;clear HOn;clear f0 f1 f2 g0 g1 g2 e0 e1 d0 d1 n3;have Hn:=Lib.hid ((H.out.alloc _).next hb);clear H hb;have H:=Hn;clear Hn;obtain ⟨f0,f1,f2,_,_,_⟩:=(H.out.mem w1.heap.size 93 #[.int .i64 (rpF 2 3).kind,.int .i64 (rpF 2 3).reg,.int .i64 (rpF 2 3).n] (by simp)).three;obtain ⟨g0,g1,g2,_,_,_⟩:=(H.out.mem w2.heap.size 93 #[.int .i64 (rpF (y / 2) 3).kind,.int .i64 (rpF (y / 2) 3).reg,.int .i64 (rpF (y / 2) 3).n] (by simp)).three;obtain ⟨e0,e1,d0,d1⟩:=(H.out.mem w.heap.size 27 #[.string ⟨#[]⟩,.slice none 0 0] (by simp)).two;have n3:=(H.out.mem w.heap.size 27 #[.string ⟨#[]⟩,.slice none 0 0] (by simp)).lt));dsimp only))
 all_goals go_wp2
 all_goals obtain ⟨h1,h2⟩:=put_ins (x:=.string ⟨#[83,66,67]⟩) (y:=.slice va 2 vc) H.out.below HO.out (fun k hk=>hk) (Nat.le_refl _)
 all_goals exact bodyPost_ret (insA_end rfl rfl (((H.out.mem w.heap.size 27 #[.string ⟨#[]⟩,.slice none 0 0] (by simp)).set 0 _).set 1 _)) rfl ⟨_,rfl,h1,h2⟩
theorem ed_2_1 (op y z:Int) (_h0:0≤op) (_h8:op < 256) (_hy:op / 8 % 8=y) (_hz:op % 8=z) (_hy0:0≤y) (_hy8:y < 8) (_hz0:0≤z) (_hz8:z < 8) (hx:op / 64=1) (hz':z=2) (hq:y % 2=1) (w:World):Calls Tryz.prog 85 #[.int .u8 op] w (InsA w ⟨#[65,68,67]⟩ [rpF 2 3,rpF (y / 2) 3] ⟨#[]⟩ false):=by
 have H:=Lib.hid ((Fr.start w).new' 27 #[.string ⟨#[]⟩,.slice none 0 0] rfl)
 subst hz'
 go_enter Tryz.func85,Tryz.ntmps85
 go_wp2_with fail
 refine (rp_any 2 3 _).mono ?_
 rintro e w1 ⟨rfl,hb⟩
 have LT1:=Lib.hid ((H.out.next hb).blk 0 rfl).lt
 have H1:=Lib.hid ((H.out.next hb).new' 93 #[.int .i64 (rpF 2 3).kind,.int .i64 (rpF 2 3).reg,.int .i64 (rpF 2 3).n] rfl)
 clear hb H
 go_wp2_with fail
 refine (rp_any (y / 2) 3 _).mono ?_
 rintro e w2 ⟨rfl,hb⟩
 have LT2:=Lib.hid ((H1.out.next hb).blk 0 rfl).lt
 have H:=Lib.hid ((H1.out.next hb).new' 93 #[.int .i64 (rpF (y / 2) 3).kind,.int .i64 (rpF (y / 2) 3).reg,.int .i64 (rpF (y / 2) 3).n] rfl)
 obtain ⟨f0,f1,f2,x0,x1,x2⟩:=(H.out.blk 0 rfl).three
 obtain ⟨g0,g1,g2,_,_,_⟩:=(H.out.blk 1 rfl).three
 obtain ⟨e0,e1,d0,d1⟩:=(H.out.blk 2 rfl).two
 clear hb H1
 have HX:=H
 have Hn:=Lib.hid H.out.drew
 clear H x0 x1 x2
 have H:=Hn
 clear Hn
 have HA:=Lib.hid (HX.out.new' 9 #[.string ⟨#[83,66,67]⟩,.string ⟨#[65,68,67]⟩] (b:=w2.heap.size+1) (by rw [World.size_alloc])).drew
 go_upto_region 22 with fail
 obtain ⟨f0,f1,f2,_,_,_⟩:=(H.out.mem w1.heap.size 93 #[.int .i64 (rpF 2 3).kind,.int .i64 (rpF 2 3).reg,.int .i64 (rpF 2 3).n] (by simp)).three
 obtain ⟨g0,g1,g2,_,_,_⟩:=(H.out.mem w2.heap.size 93 #[.int .i64 (rpF (y / 2) 3).kind,.int .i64 (rpF (y / 2) 3).reg,.int .i64 (rpF (y / 2) 3).n] (by simp)).three
 obtain ⟨e0,e1,d0,d1⟩:=(H.out.mem w.heap.size 27 #[.string ⟨#[]⟩,.slice none 0 0] (by simp)).two
 have n3:=(H.out.mem w.heap.size 27 #[.string ⟨#[]⟩,.slice none 0 0] (by simp)).lt
 obtain ⟨p0,p1,p2,_,_,_⟩:=(HA.out.mem w1.heap.size 93 #[.int .i64 (rpF 2 3).kind,.int .i64 (rpF 2 3).reg,.int .i64 (rpF 2 3).n] (by simp)).three
 obtain ⟨q0,q1,q2,_,_,_⟩:=(HA.out.mem w2.heap.size 93 #[.int .i64 (rpF (y / 2) 3).kind,.int .i64 (rpF (y / 2) 3).reg,.int .i64 (rpF (y / 2) 3).n] (by simp)).three
 go_region_law ((go_simp;(first
   | (go_at_call 115;refine (two_any _ _ _).mono ?_;rintro e w' ⟨v,rfl,ho,hb⟩;obtain ⟨va,vc,rfl⟩:=ho.form;have HO:=Lib.hid (ho.mono (r:=fun k=>w.heap.size < k) (fun k hk=>Nat.lt_of_lt_of_le (H.out.mem w.heap.size 27 #[.string ⟨#[]⟩,.slice none 0 0] (by simp)).lt (Nat.le_trans (by first | (with_reducible exact Nat.le_refl _) | (simp only [World.size_drew,World.size_alloc];omega)) hk)));clear ho;clear f0 f1 f2 g0 g1 g2 e0 e1 d0 d1 n3;have Hn:=Lib.hid ((HX.out.new' 9 #[.string ⟨#[83,66,67]⟩,.string ⟨#[65,68,67]⟩] (b:=w2.heap.size+1) (by rw [World.size_alloc])).drew.next hb);clear H hb;have H:=Hn;clear Hn;have HS:=Lib.hid (H.out.blk 0 rfl);have s0:=HS.out.cell 1;obtain ⟨f0,f1,f2,_,_,_⟩:=(H.out.mem w1.heap.size 93 #[.int .i64 (rpF 2 3).kind,.int .i64 (rpF 2 3).reg,.int .i64 (rpF 2 3).n] (by simp)).three;obtain ⟨g0,g1,g2,_,_,_⟩:=(H.out.mem w2.heap.size 93 #[.int .i64 (rpF (y / 2) 3).kind,.int .i64 (rpF (y / 2) 3).reg,.int .i64 (rpF (y / 2) 3).n] (by simp)).three;obtain ⟨e0,e1,d0,d1⟩:=(H.out.mem w.heap.size 27 #[.string ⟨#[]⟩,.slice none 0 0] (by simp)).two;have n3:=(H.out.mem w.heap.size 27 #[.string ⟨#[]⟩,.slice none 0 0] (by simp)).lt)
   | (go_at_call 115;refine (two_any _ _ _).mono ?_;rintro e w' ⟨v,rfl,ho,hb⟩;obtain ⟨va,vc,rfl⟩:=ho.form;have HO:=Lib.hid (ho.mono (r:=fun k=>w.heap.size < k) (fun k hk=>Nat.lt_of_lt_of_le (H.out.mem w.heap.size 27 #[.string ⟨#[]⟩,.slice none 0 0] (by simp)).lt (Nat.le_trans (by first | (with_reducible exact Nat.le_refl _) | (simp only [World.size_drew,World.size_alloc];omega)) hk)));clear ho;clear f0 f1 f2 g0 g1 g2 e0 e1 d0 d1 n3;have Hn:=Lib.hid (H.out.next hb);clear H hb;have H:=Hn;clear Hn;obtain ⟨f0,f1,f2,_,_,_⟩:=(H.out.mem w1.heap.size 93 #[.int .i64 (rpF 2 3).kind,.int .i64 (rpF 2 3).reg,.int .i64 (rpF 2 3).n] (by simp)).three;obtain ⟨g0,g1,g2,_,_,_⟩:=(H.out.mem w2.heap.size 93 #[.int .i64 (rpF (y / 2) 3).kind,.int .i64 (rpF (y / 2) 3).reg,.int .i64 (rpF (y / 2) 3).n] (by simp)).three;obtain ⟨e0,e1,d0,d1⟩:=(H.out.mem w.heap.size 27 #[.string ⟨#[]⟩,.slice none 0 0] (by simp)).two;have n3:=(H.out.mem w.heap.size 27 #[.string ⟨#[]⟩,.slice none 0 0] (by simp)).lt)
   | (go_at_call 114;refine (ins9_any _ _ _ _ _ HO.out).mono ?_;rintro e w' ⟨rfl,ho,hb⟩;have HOn:=Lib.hid ho;clear HO ho;have HO:=HOn;clear HOn;clear f0 f1 f2 g0 g1 g2 e0 e1 d0 d1 n3;have Hn:=Lib.hid (H.out.next hb);clear H hb;have H:=Hn;clear Hn;obtain ⟨f0,f1,f2,_,_,_⟩:=(H.out.mem w1.heap.size 93 #[.int .i64 (rpF 2 3).kind,.int .i64 (rpF 2 3).reg,.int .i64 (rpF 2 3).n] (by simp)).three;obtain ⟨g0,g1,g2,_,_,_⟩:=(H.out.mem w2.heap.size 93 #[.int .i64 (rpF (y / 2) 3).kind,.int .i64 (rpF (y / 2) 3).reg,.int .i64 (rpF (y / 2) 3).n] (by simp)).three;obtain ⟨e0,e1,d0,d1⟩:=(H.out.mem w.heap.size 27 #[.string ⟨#[]⟩,.slice none 0 0] (by simp)).two;have n3:=(H.out.mem w.heap.size 27 #[.string ⟨#[]⟩,.slice none 0 0] (by simp)).lt)
   | (go_at_call 114;refine (ins9_any _ _ _ _ _ (HO.out.below ((Below.refl _ _).alloc (Nat.le_refl _) _))).mono ?_;rintro e w' ⟨rfl,ho,hb⟩;have HOn:=Lib.hid ho;clear HO ho;have HO:=HOn;clear HOn;clear f0 f1 f2 g0 g1 g2 e0 e1 d0 d1 n3;have Hn:=Lib.hid ((H.out.alloc _).next hb);clear H hb;have H:=Hn;clear Hn;obtain ⟨f0,f1,f2,_,_,_⟩:=(H.out.mem w1.heap.size 93 #[.int .i64 (rpF 2 3).kind,.int .i64 (rpF 2 3).reg,.int .i64 (rpF 2 3).n] (by simp)).three;obtain ⟨g0,g1,g2,_,_,_⟩:=(H.out.mem w2.heap.size 93 #[.int .i64 (rpF (y / 2) 3).kind,.int .i64 (rpF (y / 2) 3).reg,.int .i64 (rpF (y / 2) 3).n] (by simp)).three;obtain ⟨e0,e1,d0,d1⟩:=(H.out.mem w.heap.size 27 #[.string ⟨#[]⟩,.slice none 0 0] (by simp)).two;have n3:=(H.out.mem w.heap.size 27 #[.string ⟨#[]⟩,.slice none 0 0] (by simp)).lt));dsimp only))
 all_goals go_wp2
 all_goals obtain ⟨h1,h2⟩:=put_ins (x:=.string ⟨#[65,68,67]⟩) (y:=.slice va 2 vc) H.out.below HO.out (fun k hk=>hk) (Nat.le_refl _)
 all_goals exact bodyPost_ret (insA_end rfl rfl (((H.out.mem w.heap.size 27 #[.string ⟨#[]⟩,.slice none 0 0] (by simp)).set 0 _).set 1 _)) rfl ⟨_,rfl,h1,h2⟩
theorem ed_3_0t (op:Int) (_h0:0≤op) (_h8:op < 256) (hx:op / 64=1) (hy:op / 8 % 8=4) (hz:op % 8=3) (w:World):Calls Tryz.prog 85 #[.int .u8 op] w (InsA w ⟨#[76,68]⟩ [memO,rpF 2 3] ⟨#[119]⟩ true):=by
 have H:=Lib.hid ((Fr.start w).new' 27 #[.string ⟨#[]⟩,.slice none 0 0] rfl)
 go_enter Tryz.func85,Tryz.ntmps85
 go_wp2_with fail
 refine (rp_any 2 3 _).mono ?_
 rintro e w1 ⟨rfl,hb⟩
 have LT1:=Lib.hid ((H.out.next hb).blk 0 rfl).lt
 have H1:=Lib.hid ((H.out.next hb).new' 93 #[.int .i64 (rpF 2 3).kind,.int .i64 (rpF 2 3).reg,.int .i64 (rpF 2 3).n] rfl)
 clear hb H
 go_wp2_with fail
 refine (rp_any 2 3 _).mono ?_
 rintro e w2 ⟨rfl,hb⟩
 have LT2:=Lib.hid ((H1.out.next hb).blk 0 rfl).lt
 have H:=Lib.hid ((H1.out.next hb).new' 93 #[.int .i64 (rpF 2 3).kind,.int .i64 (rpF 2 3).reg,.int .i64 (rpF 2 3).n] rfl)
 obtain ⟨f0,f1,f2,x0,x1,x2⟩:=(H.out.blk 0 rfl).three
 obtain ⟨g0,g1,g2,_,_,_⟩:=(H.out.blk 1 rfl).three
 obtain ⟨e0,e1,d0,d1⟩:=(H.out.blk 2 rfl).two
 clear hb H1
 have Hn:=Lib.hid H.out.drew
 clear H x0 x1 x2
 have H:=Hn
 clear Hn
 have n1:¬w2.heap.size=w.heap.size:=by have:=LT1.out;have:=LT2.out;omega
 have n2:¬w.heap.size=w2.heap.size:=fun e=>n1 e.symm
 go_upto_region 25 with fail
 obtain ⟨f0,f1,f2,_,_,_⟩:=(H.out.blk 0 rfl).three
 obtain ⟨e0,e1,d0,d1⟩:=(H.out.blk 2 rfl).two
 go_region_held3 (fun w'=>w'.cell? ⟨w2.heap.size,0,none⟩=some (.int .i64 (rpF 2 3).kind)∧w'.cell? ⟨w2.heap.size,1,none⟩=some (.int .i64 (rpF 2 3).reg)∧w'.cell? ⟨w2.heap.size,2,none⟩=some (.int .i64 (rpF 2 3).n)) (go_keep)
  (first
   | (go_at_call 122;refine (frO H (mem9_any _)).mono ?_;rintro e w' ⟨rfl,H⟩;obtain ⟨f0,f1,f2,_,_,_⟩:=(H.out.blk 0 rfl).three)
   | (go_at_call 115;refine (frL H 2 rfl (two_any _ _ _)).mono ?_;rintro e w' ⟨va,vc,rfl,HO,H⟩;obtain ⟨f0,f1,f2,_,_,_⟩:=(H.out.blk 0 rfl).three)
   | (go_at_call 114;refine (frI H (ins9_any _ _ _ _ _ HO.out)).mono ?_;rintro e w' ⟨rfl,HO,H⟩;obtain ⟨e0,e1,d0,d1⟩:=(H.out.blk 2 rfl).two;obtain ⟨f0,f1,f2,_,_,_⟩:=(H.out.blk 0 rfl).three))
 go_wp2
 obtain ⟨h1,h2⟩:=put_ins (x:=.string ⟨#[76,68]⟩) (y:=.slice va 2 vc) H.out.below HO.out (fun k hk=>hk) (Nat.le_refl _)
 exact bodyPost_ret (insA_end rfl rfl (((H.out.blk 2 rfl).set 0 _).set 1 _)) rfl ⟨_,rfl,h1,h2⟩
theorem ed_3_0f (op y z:Int) (_h0:0≤op) (_h8:op < 256) (_hy:op / 8 % 8=y) (_hz:op % 8=z) (_hy0:0≤y) (_hy8:y < 8) (_hz0:0≤z) (_hz8:z < 8) (hx:op / 64=1) (hz':z=3) (hq:y % 2=0) (hal:(y==4)=false) (w:World):Calls Tryz.prog 85 #[.int .u8 op] w (InsA w ⟨#[76,68]⟩ [memO,rpF (y / 2) 3] ⟨#[119]⟩ false):=by
 have H:=Lib.hid ((Fr.start w).new' 27 #[.string ⟨#[]⟩,.slice none 0 0] rfl)
 subst hz'
 go_enter Tryz.func85,Tryz.ntmps85
 go_wp2_with fail
 refine (rp_any 2 3 _).mono ?_
 rintro e w1 ⟨rfl,hb⟩
 have LT1:=Lib.hid ((H.out.next hb).blk 0 rfl).lt
 have H1:=Lib.hid ((H.out.next hb).new' 93 #[.int .i64 (rpF 2 3).kind,.int .i64 (rpF 2 3).reg,.int .i64 (rpF 2 3).n] rfl)
 clear hb H
 go_wp2_with fail
 refine (rp_any (y / 2) 3 _).mono ?_
 rintro e w2 ⟨rfl,hb⟩
 have LT2:=Lib.hid ((H1.out.next hb).blk 0 rfl).lt
 have H:=Lib.hid ((H1.out.next hb).new' 93 #[.int .i64 (rpF (y / 2) 3).kind,.int .i64 (rpF (y / 2) 3).reg,.int .i64 (rpF (y / 2) 3).n] rfl)
 obtain ⟨f0,f1,f2,x0,x1,x2⟩:=(H.out.blk 0 rfl).three
 obtain ⟨g0,g1,g2,_,_,_⟩:=(H.out.blk 1 rfl).three
 obtain ⟨e0,e1,d0,d1⟩:=(H.out.blk 2 rfl).two
 clear hb H1
 have Hn:=Lib.hid H.out.drew
 clear H x0 x1 x2
 have H:=Hn
 clear Hn
 have n1:¬w2.heap.size=w.heap.size:=by have:=LT1.out;have:=LT2.out;omega
 have n2:¬w.heap.size=w2.heap.size:=fun e=>n1 e.symm
 go_upto_region 25 with fail
 obtain ⟨f0,f1,f2,_,_,_⟩:=(H.out.blk 0 rfl).three
 obtain ⟨e0,e1,d0,d1⟩:=(H.out.blk 2 rfl).two
 go_region_held3 (fun w'=>w'.cell? ⟨w2.heap.size,0,none⟩=some (.int .i64 (rpF (y / 2) 3).kind)∧w'.cell? ⟨w2.heap.size,1,none⟩=some (.int .i64 (rpF (y / 2) 3).reg)∧w'.cell? ⟨w2.heap.size,2,none⟩=some (.int .i64 (rpF (y / 2) 3).n)) (go_keep)
  (first
   | (go_at_call 122;refine (frO H (mem9_any _)).mono ?_;rintro e w' ⟨rfl,H⟩;obtain ⟨f0,f1,f2,_,_,_⟩:=(H.out.blk 0 rfl).three)
   | (go_at_call 115;refine (frL H 2 rfl (two_any _ _ _)).mono ?_;rintro e w' ⟨va,vc,rfl,HO,H⟩;obtain ⟨f0,f1,f2,_,_,_⟩:=(H.out.blk 0 rfl).three)
   | (go_at_call 114;refine (frI H (ins9_any _ _ _ _ _ HO.out)).mono ?_;rintro e w' ⟨rfl,HO,H⟩;obtain ⟨e0,e1,d0,d1⟩:=(H.out.blk 2 rfl).two;obtain ⟨f0,f1,f2,_,_,_⟩:=(H.out.blk 0 rfl).three))
 go_wp2
 obtain ⟨h1,h2⟩:=put_ins (x:=.string ⟨#[76,68]⟩) (y:=.slice va 2 vc) H.out.below HO.out (fun k hk=>hk) (Nat.le_refl _)
 exact bodyPost_ret (insA_end rfl rfl (((H.out.blk 2 rfl).set 0 _).set 1 _)) rfl ⟨_,rfl,h1,h2⟩
theorem ed_3_1t (op:Int) (_h0:0≤op) (_h8:op < 256) (hx:op / 64=1) (hy:op / 8 % 8=5) (hz:op % 8=3) (w:World):Calls Tryz.prog 85 #[.int .u8 op] w (InsA w ⟨#[76,68]⟩ [rpF 2 3,memO] ⟨#[119]⟩ true):=by
 have H:=Lib.hid ((Fr.start w).new' 27 #[.string ⟨#[]⟩,.slice none 0 0] rfl)
 go_enter Tryz.func85,Tryz.ntmps85
 go_wp2_with fail
 refine (rp_any 2 3 _).mono ?_
 rintro e w1 ⟨rfl,hb⟩
 have LT1:=Lib.hid ((H.out.next hb).blk 0 rfl).lt
 have H1:=Lib.hid ((H.out.next hb).new' 93 #[.int .i64 (rpF 2 3).kind,.int .i64 (rpF 2 3).reg,.int .i64 (rpF 2 3).n] rfl)
 clear hb H
 go_wp2_with fail
 refine (rp_any 2 3 _).mono ?_
 rintro e w2 ⟨rfl,hb⟩
 have LT2:=Lib.hid ((H1.out.next hb).blk 0 rfl).lt
 have H:=Lib.hid ((H1.out.next hb).new' 93 #[.int .i64 (rpF 2 3).kind,.int .i64 (rpF 2 3).reg,.int .i64 (rpF 2 3).n] rfl)
 obtain ⟨f0,f1,f2,x0,x1,x2⟩:=(H.out.blk 0 rfl).three
 obtain ⟨g0,g1,g2,_,_,_⟩:=(H.out.blk 1 rfl).three
 obtain ⟨e0,e1,d0,d1⟩:=(H.out.blk 2 rfl).two
 clear hb H1
 have Hn:=Lib.hid H.out.drew
 clear H x0 x1 x2
 have H:=Hn
 clear Hn
 have n1:¬w2.heap.size=w.heap.size:=by have:=LT1.out;have:=LT2.out;omega
 have n2:¬w.heap.size=w2.heap.size:=fun e=>n1 e.symm
 go_upto_region 26 with fail
 obtain ⟨f0,f1,f2,_,_,_⟩:=(H.out.blk 0 rfl).three
 obtain ⟨e0,e1,d0,d1⟩:=(H.out.blk 2 rfl).two
 go_region_held3 (fun w'=>w'.cell? ⟨w2.heap.size,0,none⟩=some (.int .i64 (rpF 2 3).kind)∧w'.cell? ⟨w2.heap.size,1,none⟩=some (.int .i64 (rpF 2 3).reg)∧w'.cell? ⟨w2.heap.size,2,none⟩=some (.int .i64 (rpF 2 3).n)) (go_keep)
  (first
   | (go_at_call 122;refine (frO H (mem9_any _)).mono ?_;rintro e w' ⟨rfl,H⟩;obtain ⟨f0,f1,f2,_,_,_⟩:=(H.out.blk 0 rfl).three)
   | (go_at_call 115;refine (frL H 2 rfl (two_any _ _ _)).mono ?_;rintro e w' ⟨va,vc,rfl,HO,H⟩;obtain ⟨f0,f1,f2,_,_,_⟩:=(H.out.blk 0 rfl).three)
   | (go_at_call 114;refine (frI H (ins9_any _ _ _ _ _ HO.out)).mono ?_;rintro e w' ⟨rfl,HO,H⟩;obtain ⟨e0,e1,d0,d1⟩:=(H.out.blk 2 rfl).two;obtain ⟨f0,f1,f2,_,_,_⟩:=(H.out.blk 0 rfl).three))
 go_wp2
 obtain ⟨h1,h2⟩:=put_ins (x:=.string ⟨#[76,68]⟩) (y:=.slice va 2 vc) H.out.below HO.out (fun k hk=>hk) (Nat.le_refl _)
 exact bodyPost_ret (insA_end rfl rfl (((H.out.blk 2 rfl).set 0 _).set 1 _)) rfl ⟨_,rfl,h1,h2⟩
theorem ed_3_1f (op y z:Int) (_h0:0≤op) (_h8:op < 256) (_hy:op / 8 % 8=y) (_hz:op % 8=z) (_hy0:0≤y) (_hy8:y < 8) (_hz0:0≤z) (_hz8:z < 8) (hx:op / 64=1) (hz':z=3) (hq:y % 2=1) (hal:(y==5)=false) (w:World):Calls Tryz.prog 85 #[.int .u8 op] w (InsA w ⟨#[76,68]⟩ [rpF (y / 2) 3,memO] ⟨#[119]⟩ false):=by
 have H:=Lib.hid ((Fr.start w).new' 27 #[.string ⟨#[]⟩,.slice none 0 0] rfl)
 subst hz'
 go_enter Tryz.func85,Tryz.ntmps85
 go_wp2_with fail
 refine (rp_any 2 3 _).mono ?_
 rintro e w1 ⟨rfl,hb⟩
 have LT1:=Lib.hid ((H.out.next hb).blk 0 rfl).lt
 have H1:=Lib.hid ((H.out.next hb).new' 93 #[.int .i64 (rpF 2 3).kind,.int .i64 (rpF 2 3).reg,.int .i64 (rpF 2 3).n] rfl)
 clear hb H
 go_wp2_with fail
 refine (rp_any (y / 2) 3 _).mono ?_
 rintro e w2 ⟨rfl,hb⟩
 have LT2:=Lib.hid ((H1.out.next hb).blk 0 rfl).lt
 have H:=Lib.hid ((H1.out.next hb).new' 93 #[.int .i64 (rpF (y / 2) 3).kind,.int .i64 (rpF (y / 2) 3).reg,.int .i64 (rpF (y / 2) 3).n] rfl)
 obtain ⟨f0,f1,f2,x0,x1,x2⟩:=(H.out.blk 0 rfl).three
 obtain ⟨g0,g1,g2,_,_,_⟩:=(H.out.blk 1 rfl).three
 obtain ⟨e0,e1,d0,d1⟩:=(H.out.blk 2 rfl).two
 clear hb H1
 have Hn:=Lib.hid H.out.drew
 clear H x0 x1 x2
 have H:=Hn
 clear Hn
 have n1:¬w2.heap.size=w.heap.size:=by have:=LT1.out;have:=LT2.out;omega
 have n2:¬w.heap.size=w2.heap.size:=fun e=>n1 e.symm
 go_upto_region 26 with fail
 obtain ⟨f0,f1,f2,_,_,_⟩:=(H.out.blk 0 rfl).three
 obtain ⟨e0,e1,d0,d1⟩:=(H.out.blk 2 rfl).two
 go_region_held3 (fun w'=>w'.cell? ⟨w2.heap.size,0,none⟩=some (.int .i64 (rpF (y / 2) 3).kind)∧w'.cell? ⟨w2.heap.size,1,none⟩=some (.int .i64 (rpF (y / 2) 3).reg)∧w'.cell? ⟨w2.heap.size,2,none⟩=some (.int .i64 (rpF (y / 2) 3).n)) (go_keep)
  (first
   | (go_at_call 122;refine (frO H (mem9_any _)).mono ?_;rintro e w' ⟨rfl,H⟩;obtain ⟨f0,f1,f2,_,_,_⟩:=(H.out.blk 0 rfl).three)
   | (go_at_call 115;refine (frL H 2 rfl (two_any _ _ _)).mono ?_;rintro e w' ⟨va,vc,rfl,HO,H⟩;obtain ⟨f0,f1,f2,_,_,_⟩:=(H.out.blk 0 rfl).three)
   | (go_at_call 114;refine (frI H (ins9_any _ _ _ _ _ HO.out)).mono ?_;rintro e w' ⟨rfl,HO,H⟩;obtain ⟨e0,e1,d0,d1⟩:=(H.out.blk 2 rfl).two;obtain ⟨f0,f1,f2,_,_,_⟩:=(H.out.blk 0 rfl).three))
 go_wp2
 obtain ⟨h1,h2⟩:=put_ins (x:=.string ⟨#[76,68]⟩) (y:=.slice va 2 vc) H.out.below HO.out (fun k hk=>hk) (Nat.le_refl _)
 exact bodyPost_ret (insA_end rfl rfl (((H.out.blk 2 rfl).set 0 _).set 1 _)) rfl ⟨_,rfl,h1,h2⟩
end Go.Proofs.YtnbmbcjnncbaiaaGreatDoor
