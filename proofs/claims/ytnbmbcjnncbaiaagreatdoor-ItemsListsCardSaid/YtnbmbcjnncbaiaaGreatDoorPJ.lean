/-
  The reference's instructions with the prefix ED, further. Conditions: the opcode is a byte.
-/
import Derived.Test.YtnbmbcjnncbaiaaGreatDoorQI
namespace Go.Proofs.YtnbmbcjnncbaiaaGreatDoor
set_option maxHeartbeats 4000000
set_option maxRecDepth 100000
open Go.RowKit Go.Shelf Go.Sort
theorem ed_4a (op y z:Int) (_h0:0≤op) (_h8:op < 256) (_hy:op / 8 % 8=y) (_hz:op % 8=z) (_hy0:0≤y) (_hy8:y < 8) (_hz0:0≤z) (_hz8:z < 8) (hx:op / 64=1) (hz':z=4) (hal:0 < y) (w:World):Calls Tryz.prog 85 #[.int .u8 op] w (InsA w ⟨#[78,69,71]⟩ [] ⟨#[]⟩ true):=by
 have H:=Lib.hid ((Fr.start w).new' 27 #[.string ⟨#[]⟩,.slice none 0 0] rfl)
 subst hz'
 go_enter Tryz.func85,Tryz.ntmps85
 go_wp2_with fail
 refine (rp_any 2 3 _).mono ?_
 rintro e w1 ⟨rfl,hb⟩
 have LT1:=Lib.hid ((H.out.next hb).blk 0 rfl).lt
 have H1:=Lib.hid ((H.out.next hb).new' 93 #[.int .i64 (rpF 2 3).kind,.int .i64 (rpF 2 3).reg,.int .i64 (rpF 2 3).n] rfl)
 clear hb H
 go_wp2_with fail
 refine (rp_any (y / 2) 3 _).mono ?_
 rintro e w2 ⟨rfl,hb⟩
 have LT2:=Lib.hid ((H1.out.next hb).blk 0 rfl).lt
 have H:=Lib.hid ((H1.out.next hb).new' 93 #[.int .i64 (rpF (y / 2) 3).kind,.int .i64 (rpF (y / 2) 3).reg,.int .i64 (rpF (y / 2) 3).n] rfl)
 obtain ⟨e0,e1,d0,d1⟩:=(H.out.blk 2 rfl).two
 clear hb H1
 go_wp2_with (go_at_call 114;refine (frI H (ins9_any _ none 0 0 _ (opdOwn_none _ (fun k=>w.heap.size < k)))).mono ?_;rintro e w' ⟨rfl,HO,H⟩;obtain ⟨e0,e1,d0,d1⟩:=(H.out.blk 2 rfl).two)
 obtain ⟨h1,h2⟩:=put_ins (x:=.string ⟨#[78,69,71]⟩) (y:=.slice none 0 0) H.out.below HO.out (fun k hk=>hk) (Nat.le_refl _)
 exact bodyPost_ret (insA_end rfl rfl (((H.out.blk 2 rfl).set 0 _).set 1 _)) rfl ⟨_,rfl,h1,h2⟩
theorem ed_4b (op y z:Int) (_h0:0≤op) (_h8:op < 256) (_hy:op / 8 % 8=y) (_hz:op % 8=z) (_hy0:0≤y) (_hy8:y < 8) (_hz0:0≤z) (_hz8:z < 8) (hx:op / 64=1) (hz':z=4) (hal:y=0) (w:World):Calls Tryz.prog 85 #[.int .u8 op] w (InsA w ⟨#[78,69,71]⟩ [] ⟨#[]⟩ false):=by
 have H:=Lib.hid ((Fr.start w).new' 27 #[.string ⟨#[]⟩,.slice none 0 0] rfl)
 subst hz' hal
 go_enter Tryz.func85,Tryz.ntmps85
 go_wp2_with fail
 refine (rp_any 2 3 _).mono ?_
 rintro e w1 ⟨rfl,hb⟩
 have LT1:=Lib.hid ((H.out.next hb).blk 0 rfl).lt
 have H1:=Lib.hid ((H.out.next hb).new' 93 #[.int .i64 (rpF 2 3).kind,.int .i64 (rpF 2 3).reg,.int .i64 (rpF 2 3).n] rfl)
 clear hb H
 go_wp2_with fail
 refine (rp_any 0 3 _).mono ?_
 rintro e w2 ⟨rfl,hb⟩
 have LT2:=Lib.hid ((H1.out.next hb).blk 0 rfl).lt
 have H:=Lib.hid ((H1.out.next hb).new' 93 #[.int .i64 (rpF 0 3).kind,.int .i64 (rpF 0 3).reg,.int .i64 (rpF 0 3).n] rfl)
 obtain ⟨e0,e1,d0,d1⟩:=(H.out.blk 2 rfl).two
 clear hb H1
 go_wp2_with (go_at_call 114;refine (frI H (ins9_any _ none 0 0 _ (opdOwn_none _ (fun k=>w.heap.size < k)))).mono ?_;rintro e w' ⟨rfl,HO,H⟩;obtain ⟨e0,e1,d0,d1⟩:=(H.out.blk 2 rfl).two)
 obtain ⟨h1,h2⟩:=put_ins (x:=.string ⟨#[78,69,71]⟩) (y:=.slice none 0 0) H.out.below HO.out (fun k hk=>hk) (Nat.le_refl _)
 exact bodyPost_ret (insA_end rfl rfl (((H.out.blk 2 rfl).set 0 _).set 1 _)) rfl ⟨_,rfl,h1,h2⟩
theorem ed_5a (op y z:Int) (_h0:0≤op) (_h8:op < 256) (_hy:op / 8 % 8=y) (_hz:op % 8=z) (_hy0:0≤y) (_hy8:y < 8) (_hz0:0≤z) (_hz8:z < 8) (hx:op / 64=1) (hz':z=5) (hal:y=1) (w:World):Calls Tryz.prog 85 #[.int .u8 op] w (InsA w ⟨#[82,69,84,73]⟩ [] ⟨#[]⟩ false):=by
 have H:=Lib.hid ((Fr.start w).new' 27 #[.string ⟨#[]⟩,.slice none 0 0] rfl)
 subst hz' hal
 go_enter Tryz.func85,Tryz.ntmps85
 go_wp2_with fail
 refine (rp_any 2 3 _).mono ?_
 rintro e w1 ⟨rfl,hb⟩
 have LT1:=Lib.hid ((H.out.next hb).blk 0 rfl).lt
 have H1:=Lib.hid ((H.out.next hb).new' 93 #[.int .i64 (rpF 2 3).kind,.int .i64 (rpF 2 3).reg,.int .i64 (rpF 2 3).n] rfl)
 clear hb H
 go_wp2_with fail
 refine (rp_any 0 3 _).mono ?_
 rintro e w2 ⟨rfl,hb⟩
 have LT2:=Lib.hid ((H1.out.next hb).blk 0 rfl).lt
 have H:=Lib.hid ((H1.out.next hb).new' 93 #[.int .i64 (rpF 0 3).kind,.int .i64 (rpF 0 3).reg,.int .i64 (rpF 0 3).n] rfl)
 obtain ⟨e0,e1,d0,d1⟩:=(H.out.blk 2 rfl).two
 clear hb H1
 go_wp2_with (go_at_call 114;refine (frI H (ins9_any _ none 0 0 _ (opdOwn_none _ (fun k=>w.heap.size < k)))).mono ?_;rintro e w' ⟨rfl,HO,H⟩;obtain ⟨e0,e1,d0,d1⟩:=(H.out.blk 2 rfl).two)
 obtain ⟨h1,h2⟩:=put_ins (x:=.string ⟨#[82,69,84,73]⟩) (y:=.slice none 0 0) H.out.below HO.out (fun k hk=>hk) (Nat.le_refl _)
 exact bodyPost_ret (insA_end rfl rfl (((H.out.blk 2 rfl).set 0 _).set 1 _)) rfl ⟨_,rfl,h1,h2⟩
theorem ed_5b (op y z:Int) (_h0:0≤op) (_h8:op < 256) (_hy:op / 8 % 8=y) (_hz:op % 8=z) (_hy0:0≤y) (_hy8:y < 8) (_hz0:0≤z) (_hz8:z < 8) (hx:op / 64=1) (hz':z=5) (h1:¬y=1) (hal:0 < y) (w:World):Calls Tryz.prog 85 #[.int .u8 op] w (InsA w ⟨#[82,69,84,78]⟩ [] ⟨#[]⟩ true):=by
 have H:=Lib.hid ((Fr.start w).new' 27 #[.string ⟨#[]⟩,.slice none 0 0] rfl)
 subst hz'
 go_enter Tryz.func85,Tryz.ntmps85
 go_wp2_with fail
 refine (rp_any 2 3 _).mono ?_
 rintro e w1 ⟨rfl,hb⟩
 have LT1:=Lib.hid ((H.out.next hb).blk 0 rfl).lt
 have H1:=Lib.hid ((H.out.next hb).new' 93 #[.int .i64 (rpF 2 3).kind,.int .i64 (rpF 2 3).reg,.int .i64 (rpF 2 3).n] rfl)
 clear hb H
 go_wp2_with fail
 refine (rp_any (y / 2) 3 _).mono ?_
 rintro e w2 ⟨rfl,hb⟩
 have LT2:=Lib.hid ((H1.out.next hb).blk 0 rfl).lt
 have H:=Lib.hid ((H1.out.next hb).new' 93 #[.int .i64 (rpF (y / 2) 3).kind,.int .i64 (rpF (y / 2) 3).reg,.int .i64 (rpF (y / 2) 3).n] rfl)
 obtain ⟨e0,e1,d0,d1⟩:=(H.out.blk 2 rfl).two
 clear hb H1
 go_wp2_with (go_at_call 114;refine (frI H (ins9_any _ none 0 0 _ (opdOwn_none _ (fun k=>w.heap.size < k)))).mono ?_;rintro e w' ⟨rfl,HO,H⟩;obtain ⟨e0,e1,d0,d1⟩:=(H.out.blk 2 rfl).two)
 obtain ⟨h1,h2⟩:=put_ins (x:=.string ⟨#[82,69,84,78]⟩) (y:=.slice none 0 0) H.out.below HO.out (fun k hk=>hk) (Nat.le_refl _)
 exact bodyPost_ret (insA_end rfl rfl (((H.out.blk 2 rfl).set 0 _).set 1 _)) rfl ⟨_,rfl,h1,h2⟩
theorem ed_5c (op y z:Int) (_h0:0≤op) (_h8:op < 256) (_hy:op / 8 % 8=y) (_hz:op % 8=z) (_hy0:0≤y) (_hy8:y < 8) (_hz0:0≤z) (_hz8:z < 8) (hx:op / 64=1) (hz':z=5) (hal:y=0) (w:World):Calls Tryz.prog 85 #[.int .u8 op] w (InsA w ⟨#[82,69,84,78]⟩ [] ⟨#[]⟩ false):=by
 have H:=Lib.hid ((Fr.start w).new' 27 #[.string ⟨#[]⟩,.slice none 0 0] rfl)
 subst hz' hal
 go_enter Tryz.func85,Tryz.ntmps85
 go_wp2_with fail
 refine (rp_any 2 3 _).mono ?_
 rintro e w1 ⟨rfl,hb⟩
 have LT1:=Lib.hid ((H.out.next hb).blk 0 rfl).lt
 have H1:=Lib.hid ((H.out.next hb).new' 93 #[.int .i64 (rpF 2 3).kind,.int .i64 (rpF 2 3).reg,.int .i64 (rpF 2 3).n] rfl)
 clear hb H
 go_wp2_with fail
 refine (rp_any 0 3 _).mono ?_
 rintro e w2 ⟨rfl,hb⟩
 have LT2:=Lib.hid ((H1.out.next hb).blk 0 rfl).lt
 have H:=Lib.hid ((H1.out.next hb).new' 93 #[.int .i64 (rpF 0 3).kind,.int .i64 (rpF 0 3).reg,.int .i64 (rpF 0 3).n] rfl)
 obtain ⟨e0,e1,d0,d1⟩:=(H.out.blk 2 rfl).two
 clear hb H1
 go_wp2_with (go_at_call 114;refine (frI H (ins9_any _ none 0 0 _ (opdOwn_none _ (fun k=>w.heap.size < k)))).mono ?_;rintro e w' ⟨rfl,HO,H⟩;obtain ⟨e0,e1,d0,d1⟩:=(H.out.blk 2 rfl).two)
 obtain ⟨h1,h2⟩:=put_ins (x:=.string ⟨#[82,69,84,78]⟩) (y:=.slice none 0 0) H.out.below HO.out (fun k hk=>hk) (Nat.le_refl _)
 exact bodyPost_ret (insA_end rfl rfl (((H.out.blk 2 rfl).set 0 _).set 1 _)) rfl ⟨_,rfl,h1,h2⟩
theorem ed_6_0 (op:Int) (_h0:0≤op) (_h8:op < 256) (hx:op / 64=1) (hy:op / 8 % 8=0) (hz:op % 8=6) (w:World):Calls Tryz.prog 85 #[.int .u8 op] w (InsA w ⟨#[73,77]⟩ [immO 0] ⟨#[]⟩ false):=by
 have H:=Lib.hid ((Fr.start w).new' 27 #[.string ⟨#[]⟩,.slice none 0 0] rfl)
 go_enter Tryz.func85,Tryz.ntmps85
 go_wp2_with fail
 refine (rp_any 2 3 _).mono ?_
 rintro e w1 ⟨rfl,hb⟩
 have LT1:=Lib.hid ((H.out.next hb).blk 0 rfl).lt
 have H1:=Lib.hid ((H.out.next hb).new' 93 #[.int .i64 (rpF 2 3).kind,.int .i64 (rpF 2 3).reg,.int .i64 (rpF 2 3).n] rfl)
 clear hb H
 go_wp2_with fail
 refine (rp_any 0 3 _).mono ?_
 rintro e w2 ⟨rfl,hb⟩
 have LT2:=Lib.hid ((H1.out.next hb).blk 0 rfl).lt
 have H:=Lib.hid ((H1.out.next hb).new' 93 #[.int .i64 (rpF 0 3).kind,.int .i64 (rpF 0 3).reg,.int .i64 (rpF 0 3).n] rfl)
 obtain ⟨e0,e1,d0,d1⟩:=(H.out.blk 2 rfl).two
 clear hb H1
 go_wp2_with (first
  | (go_at_call 119;refine (frO (Lib.hid (H.out.alloc _)) (imm9_any _ _)).mono ?_;rintro e w' ⟨rfl,H⟩)
  | (go_at_call 118;refine (frL H 2 rfl (one_any _ _)).mono ?_;rintro e w' ⟨va,vc,rfl,HO,H⟩)
  | (go_at_call 114;refine (frI H (ins9_any _ _ _ _ _ HO.out)).mono ?_;rintro e w' ⟨rfl,HO,H⟩;obtain ⟨e0,e1,d0,d1⟩:=(H.out.blk 2 rfl).two))
 obtain ⟨h1,h2⟩:=put_ins (x:=.string ⟨#[73,77]⟩) (y:=.slice va 1 vc) H.out.below HO.out (fun k hk=>hk) (Nat.le_refl _)
 exact bodyPost_ret (insA_end rfl rfl (((H.out.blk 2 rfl).set 0 _).set 1 _)) rfl ⟨_,rfl,h1,h2⟩
theorem ed_6_1 (op:Int) (_h0:0≤op) (_h8:op < 256) (hx:op / 64=1) (hy:op / 8 % 8=1) (hz:op % 8=6) (w:World):Calls Tryz.prog 85 #[.int .u8 op] w (InsA w ⟨#[73,77]⟩ [immO 0] ⟨#[]⟩ true):=by
 have H:=Lib.hid ((Fr.start w).new' 27 #[.string ⟨#[]⟩,.slice none 0 0] rfl)
 go_enter Tryz.func85,Tryz.ntmps85
 go_wp2_with fail
 refine (rp_any 2 3 _).mono ?_
 rintro e w1 ⟨rfl,hb⟩
 have LT1:=Lib.hid ((H.out.next hb).blk 0 rfl).lt
 have H1:=Lib.hid ((H.out.next hb).new' 93 #[.int .i64 (rpF 2 3).kind,.int .i64 (rpF 2 3).reg,.int .i64 (rpF 2 3).n] rfl)
 clear hb H
 go_wp2_with fail
 refine (rp_any 0 3 _).mono ?_
 rintro e w2 ⟨rfl,hb⟩
 have LT2:=Lib.hid ((H1.out.next hb).blk 0 rfl).lt
 have H:=Lib.hid ((H1.out.next hb).new' 93 #[.int .i64 (rpF 0 3).kind,.int .i64 (rpF 0 3).reg,.int .i64 (rpF 0 3).n] rfl)
 obtain ⟨e0,e1,d0,d1⟩:=(H.out.blk 2 rfl).two
 clear hb H1
 go_wp2_with (first
  | (go_at_call 119;refine (frO (Lib.hid (H.out.alloc _)) (imm9_any _ _)).mono ?_;rintro e w' ⟨rfl,H⟩)
  | (go_at_call 118;refine (frL H 2 rfl (one_any _ _)).mono ?_;rintro e w' ⟨va,vc,rfl,HO,H⟩)
  | (go_at_call 114;refine (frI H (ins9_any _ _ _ _ _ HO.out)).mono ?_;rintro e w' ⟨rfl,HO,H⟩;obtain ⟨e0,e1,d0,d1⟩:=(H.out.blk 2 rfl).two))
 obtain ⟨h1,h2⟩:=put_ins (x:=.string ⟨#[73,77]⟩) (y:=.slice va 1 vc) H.out.below HO.out (fun k hk=>hk) (Nat.le_refl _)
 exact bodyPost_ret (insA_end rfl rfl (((H.out.blk 2 rfl).set 0 _).set 1 _)) rfl ⟨_,rfl,h1,h2⟩
theorem ed_6_2 (op:Int) (_h0:0≤op) (_h8:op < 256) (hx:op / 64=1) (hy:op / 8 % 8=2) (hz:op % 8=6) (w:World):Calls Tryz.prog 85 #[.int .u8 op] w (InsA w ⟨#[73,77]⟩ [immO 1] ⟨#[]⟩ false):=by
 have H:=Lib.hid ((Fr.start w).new' 27 #[.string ⟨#[]⟩,.slice none 0 0] rfl)
 go_enter Tryz.func85,Tryz.ntmps85
 go_wp2_with fail
 refine (rp_any 2 3 _).mono ?_
 rintro e w1 ⟨rfl,hb⟩
 have LT1:=Lib.hid ((H.out.next hb).blk 0 rfl).lt
 have H1:=Lib.hid ((H.out.next hb).new' 93 #[.int .i64 (rpF 2 3).kind,.int .i64 (rpF 2 3).reg,.int .i64 (rpF 2 3).n] rfl)
 clear hb H
 go_wp2_with fail
 refine (rp_any 1 3 _).mono ?_
 rintro e w2 ⟨rfl,hb⟩
 have LT2:=Lib.hid ((H1.out.next hb).blk 0 rfl).lt
 have H:=Lib.hid ((H1.out.next hb).new' 93 #[.int .i64 (rpF 1 3).kind,.int .i64 (rpF 1 3).reg,.int .i64 (rpF 1 3).n] rfl)
 obtain ⟨e0,e1,d0,d1⟩:=(H.out.blk 2 rfl).two
 clear hb H1
 go_wp2_with (first
  | (go_at_call 119;refine (frO (Lib.hid (H.out.alloc _)) (imm9_any _ _)).mono ?_;rintro e w' ⟨rfl,H⟩)
  | (go_at_call 118;refine (frL H 2 rfl (one_any _ _)).mono ?_;rintro e w' ⟨va,vc,rfl,HO,H⟩)
  | (go_at_call 114;refine (frI H (ins9_any _ _ _ _ _ HO.out)).mono ?_;rintro e w' ⟨rfl,HO,H⟩;obtain ⟨e0,e1,d0,d1⟩:=(H.out.blk 2 rfl).two))
 obtain ⟨h1,h2⟩:=put_ins (x:=.string ⟨#[73,77]⟩) (y:=.slice va 1 vc) H.out.below HO.out (fun k hk=>hk) (Nat.le_refl _)
 exact bodyPost_ret (insA_end rfl rfl (((H.out.blk 2 rfl).set 0 _).set 1 _)) rfl ⟨_,rfl,h1,h2⟩
theorem ed_6_3 (op:Int) (_h0:0≤op) (_h8:op < 256) (hx:op / 64=1) (hy:op / 8 % 8=3) (hz:op % 8=6) (w:World):Calls Tryz.prog 85 #[.int .u8 op] w (InsA w ⟨#[73,77]⟩ [immO 2] ⟨#[]⟩ false):=by
 have H:=Lib.hid ((Fr.start w).new' 27 #[.string ⟨#[]⟩,.slice none 0 0] rfl)
 go_enter Tryz.func85,Tryz.ntmps85
 go_wp2_with fail
 refine (rp_any 2 3 _).mono ?_
 rintro e w1 ⟨rfl,hb⟩
 have LT1:=Lib.hid ((H.out.next hb).blk 0 rfl).lt
 have H1:=Lib.hid ((H.out.next hb).new' 93 #[.int .i64 (rpF 2 3).kind,.int .i64 (rpF 2 3).reg,.int .i64 (rpF 2 3).n] rfl)
 clear hb H
 go_wp2_with fail
 refine (rp_any 1 3 _).mono ?_
 rintro e w2 ⟨rfl,hb⟩
 have LT2:=Lib.hid ((H1.out.next hb).blk 0 rfl).lt
 have H:=Lib.hid ((H1.out.next hb).new' 93 #[.int .i64 (rpF 1 3).kind,.int .i64 (rpF 1 3).reg,.int .i64 (rpF 1 3).n] rfl)
 obtain ⟨e0,e1,d0,d1⟩:=(H.out.blk 2 rfl).two
 clear hb H1
 go_wp2_with (first
  | (go_at_call 119;refine (frO (Lib.hid (H.out.alloc _)) (imm9_any _ _)).mono ?_;rintro e w' ⟨rfl,H⟩)
  | (go_at_call 118;refine (frL H 2 rfl (one_any _ _)).mono ?_;rintro e w' ⟨va,vc,rfl,HO,H⟩)
  | (go_at_call 114;refine (frI H (ins9_any _ _ _ _ _ HO.out)).mono ?_;rintro e w' ⟨rfl,HO,H⟩;obtain ⟨e0,e1,d0,d1⟩:=(H.out.blk 2 rfl).two))
 obtain ⟨h1,h2⟩:=put_ins (x:=.string ⟨#[73,77]⟩) (y:=.slice va 1 vc) H.out.below HO.out (fun k hk=>hk) (Nat.le_refl _)
 exact bodyPost_ret (insA_end rfl rfl (((H.out.blk 2 rfl).set 0 _).set 1 _)) rfl ⟨_,rfl,h1,h2⟩
theorem ed_6_4 (op:Int) (_h0:0≤op) (_h8:op < 256) (hx:op / 64=1) (hy:op / 8 % 8=4) (hz:op % 8=6) (w:World):Calls Tryz.prog 85 #[.int .u8 op] w (InsA w ⟨#[73,77]⟩ [immO 0] ⟨#[]⟩ true):=by
 have H:=Lib.hid ((Fr.start w).new' 27 #[.string ⟨#[]⟩,.slice none 0 0] rfl)
 go_enter Tryz.func85,Tryz.ntmps85
 go_wp2_with fail
 refine (rp_any 2 3 _).mono ?_
 rintro e w1 ⟨rfl,hb⟩
 have LT1:=Lib.hid ((H.out.next hb).blk 0 rfl).lt
 have H1:=Lib.hid ((H.out.next hb).new' 93 #[.int .i64 (rpF 2 3).kind,.int .i64 (rpF 2 3).reg,.int .i64 (rpF 2 3).n] rfl)
 clear hb H
 go_wp2_with fail
 refine (rp_any 2 3 _).mono ?_
 rintro e w2 ⟨rfl,hb⟩
 have LT2:=Lib.hid ((H1.out.next hb).blk 0 rfl).lt
 have H:=Lib.hid ((H1.out.next hb).new' 93 #[.int .i64 (rpF 2 3).kind,.int .i64 (rpF 2 3).reg,.int .i64 (rpF 2 3).n] rfl)
 obtain ⟨e0,e1,d0,d1⟩:=(H.out.blk 2 rfl).two
 clear hb H1
 go_wp2_with (first
  | (go_at_call 119;refine (frO (Lib.hid (H.out.alloc _)) (imm9_any _ _)).mono ?_;rintro e w' ⟨rfl,H⟩)
  | (go_at_call 118;refine (frL H 2 rfl (one_any _ _)).mono ?_;rintro e w' ⟨va,vc,rfl,HO,H⟩)
  | (go_at_call 114;refine (frI H (ins9_any _ _ _ _ _ HO.out)).mono ?_;rintro e w' ⟨rfl,HO,H⟩;obtain ⟨e0,e1,d0,d1⟩:=(H.out.blk 2 rfl).two))
 obtain ⟨h1,h2⟩:=put_ins (x:=.string ⟨#[73,77]⟩) (y:=.slice va 1 vc) H.out.below HO.out (fun k hk=>hk) (Nat.le_refl _)
 exact bodyPost_ret (insA_end rfl rfl (((H.out.blk 2 rfl).set 0 _).set 1 _)) rfl ⟨_,rfl,h1,h2⟩
theorem ed_6_5 (op:Int) (_h0:0≤op) (_h8:op < 256) (hx:op / 64=1) (hy:op / 8 % 8=5) (hz:op % 8=6) (w:World):Calls Tryz.prog 85 #[.int .u8 op] w (InsA w ⟨#[73,77]⟩ [immO 0] ⟨#[]⟩ true):=by
 have H:=Lib.hid ((Fr.start w).new' 27 #[.string ⟨#[]⟩,.slice none 0 0] rfl)
 go_enter Tryz.func85,Tryz.ntmps85
 go_wp2_with fail
 refine (rp_any 2 3 _).mono ?_
 rintro e w1 ⟨rfl,hb⟩
 have LT1:=Lib.hid ((H.out.next hb).blk 0 rfl).lt
 have H1:=Lib.hid ((H.out.next hb).new' 93 #[.int .i64 (rpF 2 3).kind,.int .i64 (rpF 2 3).reg,.int .i64 (rpF 2 3).n] rfl)
 clear hb H
 go_wp2_with fail
 refine (rp_any 2 3 _).mono ?_
 rintro e w2 ⟨rfl,hb⟩
 have LT2:=Lib.hid ((H1.out.next hb).blk 0 rfl).lt
 have H:=Lib.hid ((H1.out.next hb).new' 93 #[.int .i64 (rpF 2 3).kind,.int .i64 (rpF 2 3).reg,.int .i64 (rpF 2 3).n] rfl)
 obtain ⟨e0,e1,d0,d1⟩:=(H.out.blk 2 rfl).two
 clear hb H1
 go_wp2_with (first
  | (go_at_call 119;refine (frO (Lib.hid (H.out.alloc _)) (imm9_any _ _)).mono ?_;rintro e w' ⟨rfl,H⟩)
  | (go_at_call 118;refine (frL H 2 rfl (one_any _ _)).mono ?_;rintro e w' ⟨va,vc,rfl,HO,H⟩)
  | (go_at_call 114;refine (frI H (ins9_any _ _ _ _ _ HO.out)).mono ?_;rintro e w' ⟨rfl,HO,H⟩;obtain ⟨e0,e1,d0,d1⟩:=(H.out.blk 2 rfl).two))
 obtain ⟨h1,h2⟩:=put_ins (x:=.string ⟨#[73,77]⟩) (y:=.slice va 1 vc) H.out.below HO.out (fun k hk=>hk) (Nat.le_refl _)
 exact bodyPost_ret (insA_end rfl rfl (((H.out.blk 2 rfl).set 0 _).set 1 _)) rfl ⟨_,rfl,h1,h2⟩
theorem ed_6_6 (op:Int) (_h0:0≤op) (_h8:op < 256) (hx:op / 64=1) (hy:op / 8 % 8=6) (hz:op % 8=6) (w:World):Calls Tryz.prog 85 #[.int .u8 op] w (InsA w ⟨#[73,77]⟩ [immO 1] ⟨#[]⟩ true):=by
 have H:=Lib.hid ((Fr.start w).new' 27 #[.string ⟨#[]⟩,.slice none 0 0] rfl)
 go_enter Tryz.func85,Tryz.ntmps85
 go_wp2_with fail
 refine (rp_any 2 3 _).mono ?_
 rintro e w1 ⟨rfl,hb⟩
 have LT1:=Lib.hid ((H.out.next hb).blk 0 rfl).lt
 have H1:=Lib.hid ((H.out.next hb).new' 93 #[.int .i64 (rpF 2 3).kind,.int .i64 (rpF 2 3).reg,.int .i64 (rpF 2 3).n] rfl)
 clear hb H
 go_wp2_with fail
 refine (rp_any 3 3 _).mono ?_
 rintro e w2 ⟨rfl,hb⟩
 have LT2:=Lib.hid ((H1.out.next hb).blk 0 rfl).lt
 have H:=Lib.hid ((H1.out.next hb).new' 93 #[.int .i64 (rpF 3 3).kind,.int .i64 (rpF 3 3).reg,.int .i64 (rpF 3 3).n] rfl)
 obtain ⟨e0,e1,d0,d1⟩:=(H.out.blk 2 rfl).two
 clear hb H1
 go_wp2_with (first
  | (go_at_call 119;refine (frO (Lib.hid (H.out.alloc _)) (imm9_any _ _)).mono ?_;rintro e w' ⟨rfl,H⟩)
  | (go_at_call 118;refine (frL H 2 rfl (one_any _ _)).mono ?_;rintro e w' ⟨va,vc,rfl,HO,H⟩)
  | (go_at_call 114;refine (frI H (ins9_any _ _ _ _ _ HO.out)).mono ?_;rintro e w' ⟨rfl,HO,H⟩;obtain ⟨e0,e1,d0,d1⟩:=(H.out.blk 2 rfl).two))
 obtain ⟨h1,h2⟩:=put_ins (x:=.string ⟨#[73,77]⟩) (y:=.slice va 1 vc) H.out.below HO.out (fun k hk=>hk) (Nat.le_refl _)
 exact bodyPost_ret (insA_end rfl rfl (((H.out.blk 2 rfl).set 0 _).set 1 _)) rfl ⟨_,rfl,h1,h2⟩
theorem ed_6_7 (op:Int) (_h0:0≤op) (_h8:op < 256) (hx:op / 64=1) (hy:op / 8 % 8=7) (hz:op % 8=6) (w:World):Calls Tryz.prog 85 #[.int .u8 op] w (InsA w ⟨#[73,77]⟩ [immO 2] ⟨#[]⟩ true):=by
 have H:=Lib.hid ((Fr.start w).new' 27 #[.string ⟨#[]⟩,.slice none 0 0] rfl)
 go_enter Tryz.func85,Tryz.ntmps85
 go_wp2_with fail
 refine (rp_any 2 3 _).mono ?_
 rintro e w1 ⟨rfl,hb⟩
 have LT1:=Lib.hid ((H.out.next hb).blk 0 rfl).lt
 have H1:=Lib.hid ((H.out.next hb).new' 93 #[.int .i64 (rpF 2 3).kind,.int .i64 (rpF 2 3).reg,.int .i64 (rpF 2 3).n] rfl)
 clear hb H
 go_wp2_with fail
 refine (rp_any 3 3 _).mono ?_
 rintro e w2 ⟨rfl,hb⟩
 have LT2:=Lib.hid ((H1.out.next hb).blk 0 rfl).lt
 have H:=Lib.hid ((H1.out.next hb).new' 93 #[.int .i64 (rpF 3 3).kind,.int .i64 (rpF 3 3).reg,.int .i64 (rpF 3 3).n] rfl)
 obtain ⟨e0,e1,d0,d1⟩:=(H.out.blk 2 rfl).two
 clear hb H1
 go_wp2_with (first
  | (go_at_call 119;refine (frO (Lib.hid (H.out.alloc _)) (imm9_any _ _)).mono ?_;rintro e w' ⟨rfl,H⟩)
  | (go_at_call 118;refine (frL H 2 rfl (one_any _ _)).mono ?_;rintro e w' ⟨va,vc,rfl,HO,H⟩)
  | (go_at_call 114;refine (frI H (ins9_any _ _ _ _ _ HO.out)).mono ?_;rintro e w' ⟨rfl,HO,H⟩;obtain ⟨e0,e1,d0,d1⟩:=(H.out.blk 2 rfl).two))
 obtain ⟨h1,h2⟩:=put_ins (x:=.string ⟨#[73,77]⟩) (y:=.slice va 1 vc) H.out.below HO.out (fun k hk=>hk) (Nat.le_refl _)
 exact bodyPost_ret (insA_end rfl rfl (((H.out.blk 2 rfl).set 0 _).set 1 _)) rfl ⟨_,rfl,h1,h2⟩
theorem ed_7_0 (op:Int) (_h0:0≤op) (_h8:op < 256) (hx:op / 64=1) (hy:op / 8 % 8=0) (hz:op % 8=7) (w:World):Calls Tryz.prog 85 #[.int .u8 op] w (InsA w ⟨#[76,68]⟩ [ctlI,accO] ⟨#[]⟩ false):=by
 have H:=Lib.hid ((Fr.start w).new' 27 #[.string ⟨#[]⟩,.slice none 0 0] rfl)
 go_enter Tryz.func85,Tryz.ntmps85
 go_wp2_with fail
 refine (rp_any 2 3 _).mono ?_
 rintro e w1 ⟨rfl,hb⟩
 have LT1:=Lib.hid ((H.out.next hb).blk 0 rfl).lt
 have H1:=Lib.hid ((H.out.next hb).new' 93 #[.int .i64 (rpF 2 3).kind,.int .i64 (rpF 2 3).reg,.int .i64 (rpF 2 3).n] rfl)
 clear hb H
 go_wp2_with fail
 refine (rp_any 0 3 _).mono ?_
 rintro e w2 ⟨rfl,hb⟩
 have LT2:=Lib.hid ((H1.out.next hb).blk 0 rfl).lt
 have H:=Lib.hid ((H1.out.next hb).new' 93 #[.int .i64 (rpF 0 3).kind,.int .i64 (rpF 0 3).reg,.int .i64 (rpF 0 3).n] rfl)
 obtain ⟨e0,e1,d0,d1⟩:=(H.out.blk 2 rfl).two
 clear hb H1
 clear e0 e1 d0 d1
 go_wp2_with fail
 refine (acc9_any _).mono ?_
 rintro e w3 ⟨rfl,hb⟩
 have l1:=LT1.out
 have l2:=LT2.out
 have l3:=((H.out.next hb).blk 0 rfl).lt
 have H1:=Lib.hid ((((H.out.next hb).new' 93 #[.int .i64 accO.kind,.int .i64 accO.reg,.int .i64 accO.n] rfl).new' 93 #[.int .i64 9,.int .i64 0,.int .i64 0] (b:=w3.heap.size+1) (by rw [World.size_alloc])).new' 93 #[.int .i64 9,.int .i64 1,.int .i64 0] (b:=w3.heap.size+1+1) (by rw [World.size_alloc,World.size_alloc])).drew
 clear hb H
 have H:=H1
 clear H1
 obtain ⟨f0,f1,f2,_,_,_⟩:=(H.out.blk 2 rfl).three
 obtain ⟨g0,g1,g2,_,_,_⟩:=(H.out.blk 1 rfl).three
 obtain ⟨k0,k1,k2,_,_,_⟩:=(H.out.blk 0 rfl).three
 go_upto_region 38 with fail
 have HM:=Lib.hid (Fo.nil w.heap.size _:Fo w.heap.size [] (((w3.alloc (.cells #[.int .i64 accO.kind,.int .i64 accO.reg,.int .i64 accO.n] 93)).alloc (.cells #[.int .i64 9,.int .i64 0,.int .i64 0] 93)).alloc (.cells #[.int .i64 9,.int .i64 1,.int .i64 0] 93)).drew)
 go_region_held3 (fun w'=>w'.cell? ⟨w3.heap.size,0,none⟩=some (.int .i64 accO.kind)∧w'.cell? ⟨w3.heap.size,1,none⟩=some (.int .i64 accO.reg)∧w'.cell? ⟨w3.heap.size,2,none⟩=some (.int .i64 accO.n)∧w'.cell? ⟨w3.heap.size+1,0,none⟩=some (.int .i64 9)∧w'.cell? ⟨w3.heap.size+1,1,none⟩=some (.int .i64 0)∧w'.cell? ⟨w3.heap.size+1,2,none⟩=some (.int .i64 0)∧w'.cell? ⟨w3.heap.size+1+1,0,none⟩=some (.int .i64 9)∧w'.cell? ⟨w3.heap.size+1+1,1,none⟩=some (.int .i64 1)∧w'.cell? ⟨w3.heap.size+1+1,2,none⟩=some (.int .i64 0)) (go_keep)
  (first
   | (go_at_call 115;refine (two_lit _ _ _ _ _ _ _).mono ?_;rintro e w' ⟨v,rfl,ho,hb⟩;obtain ⟨va,vc,rfl⟩:=ho.form;clear f0 f1 f2 g0 g1 g2 k0 k1 k2;have HMn:=Lib.hid ((HM.out.next hb).add (ho.mono (r:=fun k=>w.heap.size < k) (fun k hk=>Nat.lt_of_lt_of_le (H.out.blk 5 rfl).lt hk)));have Hn:=Lib.hid (H.out.next hb);clear H HM ho hb;have H:=Hn;have HM:=HMn;clear Hn HMn;obtain ⟨f0,f1,f2,_,_,_⟩:=(H.out.blk 2 rfl).three;obtain ⟨g0,g1,g2,_,_,_⟩:=(H.out.blk 1 rfl).three;obtain ⟨k0,k1,k2,_,_,_⟩:=(H.out.blk 0 rfl).three)
   | (go_at_call 114;with_reducible refine (ins9_any _ none 0 0 _ (opdOwn_none _ (fun k=>w.heap.size < k))).mono ?_;rintro e w' ⟨rfl,ho,hb⟩;clear f0 f1 f2 g0 g1 g2 k0 k1 k2;clear ho;have Hn:=Lib.hid (H.out.next hb);have HMn:=Lib.hid (HM.out.next hb);clear H HM hb;have H:=Hn;have HM:=HMn;clear Hn HMn;obtain ⟨f0,f1,f2,_,_,_⟩:=(H.out.blk 2 rfl).three;obtain ⟨g0,g1,g2,_,_,_⟩:=(H.out.blk 1 rfl).three;obtain ⟨k0,k1,k2,_,_,_⟩:=(H.out.blk 0 rfl).three)
   | (go_at_call 114;with_reducible refine (ins9_any _ _ _ _ _ (HM.out.get 0 rfl)).mono ?_;rintro e w' ⟨rfl,ho,hb⟩;clear f0 f1 f2 g0 g1 g2 k0 k1 k2;clear ho;have Hn:=Lib.hid (H.out.next hb);have HMn:=Lib.hid (HM.out.next hb);clear H HM hb;have H:=Hn;have HM:=HMn;clear Hn HMn;obtain ⟨f0,f1,f2,_,_,_⟩:=(H.out.blk 2 rfl).three;obtain ⟨g0,g1,g2,_,_,_⟩:=(H.out.blk 1 rfl).three;obtain ⟨k0,k1,k2,_,_,_⟩:=(H.out.blk 0 rfl).three))
 clear f0 f1 f2 g0 g1 g2 k0 k1 k2
 have n3:=(H.out.blk 5 rfl).lt
 obtain ⟨e0,e1,d0,d1⟩:=(H.out.blk 5 rfl).two
 go_wp2
 have HV:OpdOwn w' (fun k=>w.heap.size < k) (.slice _ 2 _) [ctlI,accO]:=(HM.out.get 3 rfl)
 obtain ⟨h1,h2⟩:=put_ins2 (x:=.string ⟨#[76,68]⟩) H.out.below HV (fun k hk=>hk) (Nat.le_refl _)
 refine bodyPost_ret (insA_end rfl rfl ((((H.out.blk 5 rfl).set 0 _).set 1 _).alloc _)) rfl ⟨_,rfl,h1.below ?_,?_⟩
 all_goals (repeat' (first | (with_reducible exact Below.refl _ _) | (with_reducible assumption) | (with_reducible refine Below.alloc ?_ ?_ _) | (with_reducible refine Below.drew ?_) | (with_reducible refine Below.setCell ?_ ?_ _) | (with_reducible exact Nat.le_refl _) | omega | (simp;done) | (simp;omega)))
theorem ed_7_1 (op:Int) (_h0:0≤op) (_h8:op < 256) (hx:op / 64=1) (hy:op / 8 % 8=1) (hz:op % 8=7) (w:World):Calls Tryz.prog 85 #[.int .u8 op] w (InsA w ⟨#[76,68]⟩ [ctlR,accO] ⟨#[]⟩ false):=by
 have H:=Lib.hid ((Fr.start w).new' 27 #[.string ⟨#[]⟩,.slice none 0 0] rfl)
 go_enter Tryz.func85,Tryz.ntmps85
 go_wp2_with fail
 refine (rp_any 2 3 _).mono ?_
 rintro e w1 ⟨rfl,hb⟩
 have LT1:=Lib.hid ((H.out.next hb).blk 0 rfl).lt
 have H1:=Lib.hid ((H.out.next hb).new' 93 #[.int .i64 (rpF 2 3).kind,.int .i64 (rpF 2 3).reg,.int .i64 (rpF 2 3).n] rfl)
 clear hb H
 go_wp2_with fail
 refine (rp_any 0 3 _).mono ?_
 rintro e w2 ⟨rfl,hb⟩
 have LT2:=Lib.hid ((H1.out.next hb).blk 0 rfl).lt
 have H:=Lib.hid ((H1.out.next hb).new' 93 #[.int .i64 (rpF 0 3).kind,.int .i64 (rpF 0 3).reg,.int .i64 (rpF 0 3).n] rfl)
 obtain ⟨e0,e1,d0,d1⟩:=(H.out.blk 2 rfl).two
 clear hb H1
 clear e0 e1 d0 d1
 go_wp2_with fail
 refine (acc9_any _).mono ?_
 rintro e w3 ⟨rfl,hb⟩
 have l1:=LT1.out
 have l2:=LT2.out
 have l3:=((H.out.next hb).blk 0 rfl).lt
 have H1:=Lib.hid ((((H.out.next hb).new' 93 #[.int .i64 accO.kind,.int .i64 accO.reg,.int .i64 accO.n] rfl).new' 93 #[.int .i64 9,.int .i64 0,.int .i64 0] (b:=w3.heap.size+1) (by rw [World.size_alloc])).new' 93 #[.int .i64 9,.int .i64 1,.int .i64 0] (b:=w3.heap.size+1+1) (by rw [World.size_alloc,World.size_alloc])).drew
 clear hb H
 have H:=H1
 clear H1
 obtain ⟨f0,f1,f2,_,_,_⟩:=(H.out.blk 2 rfl).three
 obtain ⟨g0,g1,g2,_,_,_⟩:=(H.out.blk 1 rfl).three
 obtain ⟨k0,k1,k2,_,_,_⟩:=(H.out.blk 0 rfl).three
 go_upto_region 38 with fail
 have HM:=Lib.hid (Fo.nil w.heap.size _:Fo w.heap.size [] (((w3.alloc (.cells #[.int .i64 accO.kind,.int .i64 accO.reg,.int .i64 accO.n] 93)).alloc (.cells #[.int .i64 9,.int .i64 0,.int .i64 0] 93)).alloc (.cells #[.int .i64 9,.int .i64 1,.int .i64 0] 93)).drew)
 go_region_held3 (fun w'=>w'.cell? ⟨w3.heap.size,0,none⟩=some (.int .i64 accO.kind)∧w'.cell? ⟨w3.heap.size,1,none⟩=some (.int .i64 accO.reg)∧w'.cell? ⟨w3.heap.size,2,none⟩=some (.int .i64 accO.n)∧w'.cell? ⟨w3.heap.size+1,0,none⟩=some (.int .i64 9)∧w'.cell? ⟨w3.heap.size+1,1,none⟩=some (.int .i64 0)∧w'.cell? ⟨w3.heap.size+1,2,none⟩=some (.int .i64 0)∧w'.cell? ⟨w3.heap.size+1+1,0,none⟩=some (.int .i64 9)∧w'.cell? ⟨w3.heap.size+1+1,1,none⟩=some (.int .i64 1)∧w'.cell? ⟨w3.heap.size+1+1,2,none⟩=some (.int .i64 0)) (go_keep)
  (first
   | (go_at_call 115;refine (two_lit _ _ _ _ _ _ _).mono ?_;rintro e w' ⟨v,rfl,ho,hb⟩;obtain ⟨va,vc,rfl⟩:=ho.form;clear f0 f1 f2 g0 g1 g2 k0 k1 k2;have HMn:=Lib.hid ((HM.out.next hb).add (ho.mono (r:=fun k=>w.heap.size < k) (fun k hk=>Nat.lt_of_lt_of_le (H.out.blk 5 rfl).lt hk)));have Hn:=Lib.hid (H.out.next hb);clear H HM ho hb;have H:=Hn;have HM:=HMn;clear Hn HMn;obtain ⟨f0,f1,f2,_,_,_⟩:=(H.out.blk 2 rfl).three;obtain ⟨g0,g1,g2,_,_,_⟩:=(H.out.blk 1 rfl).three;obtain ⟨k0,k1,k2,_,_,_⟩:=(H.out.blk 0 rfl).three)
   | (go_at_call 114;with_reducible refine (ins9_any _ none 0 0 _ (opdOwn_none _ (fun k=>w.heap.size < k))).mono ?_;rintro e w' ⟨rfl,ho,hb⟩;clear f0 f1 f2 g0 g1 g2 k0 k1 k2;clear ho;have Hn:=Lib.hid (H.out.next hb);have HMn:=Lib.hid (HM.out.next hb);clear H HM hb;have H:=Hn;have HM:=HMn;clear Hn HMn;obtain ⟨f0,f1,f2,_,_,_⟩:=(H.out.blk 2 rfl).three;obtain ⟨g0,g1,g2,_,_,_⟩:=(H.out.blk 1 rfl).three;obtain ⟨k0,k1,k2,_,_,_⟩:=(H.out.blk 0 rfl).three)
   | (go_at_call 114;with_reducible refine (ins9_any _ _ _ _ _ (HM.out.get 0 rfl)).mono ?_;rintro e w' ⟨rfl,ho,hb⟩;clear f0 f1 f2 g0 g1 g2 k0 k1 k2;clear ho;have Hn:=Lib.hid (H.out.next hb);have HMn:=Lib.hid (HM.out.next hb);clear H HM hb;have H:=Hn;have HM:=HMn;clear Hn HMn;obtain ⟨f0,f1,f2,_,_,_⟩:=(H.out.blk 2 rfl).three;obtain ⟨g0,g1,g2,_,_,_⟩:=(H.out.blk 1 rfl).three;obtain ⟨k0,k1,k2,_,_,_⟩:=(H.out.blk 0 rfl).three))
 clear f0 f1 f2 g0 g1 g2 k0 k1 k2
 have n3:=(H.out.blk 5 rfl).lt
 obtain ⟨e0,e1,d0,d1⟩:=(H.out.blk 5 rfl).two
 go_wp2
 have HV:OpdOwn w' (fun k=>w.heap.size < k) (.slice _ 2 _) [ctlR,accO]:=(HM.out.get 2 rfl)
 obtain ⟨h1,h2⟩:=put_ins2 (x:=.string ⟨#[76,68]⟩) H.out.below HV (fun k hk=>hk) (Nat.le_refl _)
 refine bodyPost_ret (insA_end rfl rfl ((((H.out.blk 5 rfl).set 0 _).set 1 _).alloc _)) rfl ⟨_,rfl,h1.below ?_,?_⟩
 all_goals (repeat' (first | (with_reducible exact Below.refl _ _) | (with_reducible assumption) | (with_reducible refine Below.alloc ?_ ?_ _) | (with_reducible refine Below.drew ?_) | (with_reducible refine Below.setCell ?_ ?_ _) | (with_reducible exact Nat.le_refl _) | omega | (simp;done) | (simp;omega)))
theorem ed_7_2 (op:Int) (_h0:0≤op) (_h8:op < 256) (hx:op / 64=1) (hy:op / 8 % 8=2) (hz:op % 8=7) (w:World):Calls Tryz.prog 85 #[.int .u8 op] w (InsA w ⟨#[76,68]⟩ [accO,ctlI] ⟨#[]⟩ false):=by
 have H:=Lib.hid ((Fr.start w).new' 27 #[.string ⟨#[]⟩,.slice none 0 0] rfl)
 go_enter Tryz.func85,Tryz.ntmps85
 go_wp2_with fail
 refine (rp_any 2 3 _).mono ?_
 rintro e w1 ⟨rfl,hb⟩
 have LT1:=Lib.hid ((H.out.next hb).blk 0 rfl).lt
 have H1:=Lib.hid ((H.out.next hb).new' 93 #[.int .i64 (rpF 2 3).kind,.int .i64 (rpF 2 3).reg,.int .i64 (rpF 2 3).n] rfl)
 clear hb H
 go_wp2_with fail
 refine (rp_any 1 3 _).mono ?_
 rintro e w2 ⟨rfl,hb⟩
 have LT2:=Lib.hid ((H1.out.next hb).blk 0 rfl).lt
 have H:=Lib.hid ((H1.out.next hb).new' 93 #[.int .i64 (rpF 1 3).kind,.int .i64 (rpF 1 3).reg,.int .i64 (rpF 1 3).n] rfl)
 obtain ⟨e0,e1,d0,d1⟩:=(H.out.blk 2 rfl).two
 clear hb H1
 clear e0 e1 d0 d1
 go_wp2_with fail
 refine (acc9_any _).mono ?_
 rintro e w3 ⟨rfl,hb⟩
 have l1:=LT1.out
 have l2:=LT2.out
 have l3:=((H.out.next hb).blk 0 rfl).lt
 have H1:=Lib.hid ((((H.out.next hb).new' 93 #[.int .i64 accO.kind,.int .i64 accO.reg,.int .i64 accO.n] rfl).new' 93 #[.int .i64 9,.int .i64 0,.int .i64 0] (b:=w3.heap.size+1) (by rw [World.size_alloc])).new' 93 #[.int .i64 9,.int .i64 1,.int .i64 0] (b:=w3.heap.size+1+1) (by rw [World.size_alloc,World.size_alloc])).drew
 clear hb H
 have H:=H1
 clear H1
 obtain ⟨f0,f1,f2,_,_,_⟩:=(H.out.blk 2 rfl).three
 obtain ⟨g0,g1,g2,_,_,_⟩:=(H.out.blk 1 rfl).three
 obtain ⟨k0,k1,k2,_,_,_⟩:=(H.out.blk 0 rfl).three
 go_upto_region 38 with fail
 have HM:=Lib.hid (Fo.nil w.heap.size _:Fo w.heap.size [] (((w3.alloc (.cells #[.int .i64 accO.kind,.int .i64 accO.reg,.int .i64 accO.n] 93)).alloc (.cells #[.int .i64 9,.int .i64 0,.int .i64 0] 93)).alloc (.cells #[.int .i64 9,.int .i64 1,.int .i64 0] 93)).drew)
 go_region_held3 (fun w'=>w'.cell? ⟨w3.heap.size,0,none⟩=some (.int .i64 accO.kind)∧w'.cell? ⟨w3.heap.size,1,none⟩=some (.int .i64 accO.reg)∧w'.cell? ⟨w3.heap.size,2,none⟩=some (.int .i64 accO.n)∧w'.cell? ⟨w3.heap.size+1,0,none⟩=some (.int .i64 9)∧w'.cell? ⟨w3.heap.size+1,1,none⟩=some (.int .i64 0)∧w'.cell? ⟨w3.heap.size+1,2,none⟩=some (.int .i64 0)∧w'.cell? ⟨w3.heap.size+1+1,0,none⟩=some (.int .i64 9)∧w'.cell? ⟨w3.heap.size+1+1,1,none⟩=some (.int .i64 1)∧w'.cell? ⟨w3.heap.size+1+1,2,none⟩=some (.int .i64 0)) (go_keep)
  (first
   | (go_at_call 115;refine (two_lit _ _ _ _ _ _ _).mono ?_;rintro e w' ⟨v,rfl,ho,hb⟩;obtain ⟨va,vc,rfl⟩:=ho.form;clear f0 f1 f2 g0 g1 g2 k0 k1 k2;have HMn:=Lib.hid ((HM.out.next hb).add (ho.mono (r:=fun k=>w.heap.size < k) (fun k hk=>Nat.lt_of_lt_of_le (H.out.blk 5 rfl).lt hk)));have Hn:=Lib.hid (H.out.next hb);clear H HM ho hb;have H:=Hn;have HM:=HMn;clear Hn HMn;obtain ⟨f0,f1,f2,_,_,_⟩:=(H.out.blk 2 rfl).three;obtain ⟨g0,g1,g2,_,_,_⟩:=(H.out.blk 1 rfl).three;obtain ⟨k0,k1,k2,_,_,_⟩:=(H.out.blk 0 rfl).three)
   | (go_at_call 114;with_reducible refine (ins9_any _ none 0 0 _ (opdOwn_none _ (fun k=>w.heap.size < k))).mono ?_;rintro e w' ⟨rfl,ho,hb⟩;clear f0 f1 f2 g0 g1 g2 k0 k1 k2;clear ho;have Hn:=Lib.hid (H.out.next hb);have HMn:=Lib.hid (HM.out.next hb);clear H HM hb;have H:=Hn;have HM:=HMn;clear Hn HMn;obtain ⟨f0,f1,f2,_,_,_⟩:=(H.out.blk 2 rfl).three;obtain ⟨g0,g1,g2,_,_,_⟩:=(H.out.blk 1 rfl).three;obtain ⟨k0,k1,k2,_,_,_⟩:=(H.out.blk 0 rfl).three)
   | (go_at_call 114;with_reducible refine (ins9_any _ _ _ _ _ (HM.out.get 0 rfl)).mono ?_;rintro e w' ⟨rfl,ho,hb⟩;clear f0 f1 f2 g0 g1 g2 k0 k1 k2;clear ho;have Hn:=Lib.hid (H.out.next hb);have HMn:=Lib.hid (HM.out.next hb);clear H HM hb;have H:=Hn;have HM:=HMn;clear Hn HMn;obtain ⟨f0,f1,f2,_,_,_⟩:=(H.out.blk 2 rfl).three;obtain ⟨g0,g1,g2,_,_,_⟩:=(H.out.blk 1 rfl).three;obtain ⟨k0,k1,k2,_,_,_⟩:=(H.out.blk 0 rfl).three))
 clear f0 f1 f2 g0 g1 g2 k0 k1 k2
 have n3:=(H.out.blk 5 rfl).lt
 obtain ⟨e0,e1,d0,d1⟩:=(H.out.blk 5 rfl).two
 go_wp2
 have HV:OpdOwn w' (fun k=>w.heap.size < k) (.slice _ 2 _) [accO,ctlI]:=(HM.out.get 1 rfl)
 obtain ⟨h1,h2⟩:=put_ins2 (x:=.string ⟨#[76,68]⟩) H.out.below HV (fun k hk=>hk) (Nat.le_refl _)
 refine bodyPost_ret (insA_end rfl rfl ((((H.out.blk 5 rfl).set 0 _).set 1 _).alloc _)) rfl ⟨_,rfl,h1.below ?_,?_⟩
 all_goals (repeat' (first | (with_reducible exact Below.refl _ _) | (with_reducible assumption) | (with_reducible refine Below.alloc ?_ ?_ _) | (with_reducible refine Below.drew ?_) | (with_reducible refine Below.setCell ?_ ?_ _) | (with_reducible exact Nat.le_refl _) | omega | (simp;done) | (simp;omega)))
theorem ed_7_3 (op:Int) (_h0:0≤op) (_h8:op < 256) (hx:op / 64=1) (hy:op / 8 % 8=3) (hz:op % 8=7) (w:World):Calls Tryz.prog 85 #[.int .u8 op] w (InsA w ⟨#[76,68]⟩ [accO,ctlR] ⟨#[]⟩ false):=by
 have H:=Lib.hid ((Fr.start w).new' 27 #[.string ⟨#[]⟩,.slice none 0 0] rfl)
 go_enter Tryz.func85,Tryz.ntmps85
 go_wp2_with fail
 refine (rp_any 2 3 _).mono ?_
 rintro e w1 ⟨rfl,hb⟩
 have LT1:=Lib.hid ((H.out.next hb).blk 0 rfl).lt
 have H1:=Lib.hid ((H.out.next hb).new' 93 #[.int .i64 (rpF 2 3).kind,.int .i64 (rpF 2 3).reg,.int .i64 (rpF 2 3).n] rfl)
 clear hb H
 go_wp2_with fail
 refine (rp_any 1 3 _).mono ?_
 rintro e w2 ⟨rfl,hb⟩
 have LT2:=Lib.hid ((H1.out.next hb).blk 0 rfl).lt
 have H:=Lib.hid ((H1.out.next hb).new' 93 #[.int .i64 (rpF 1 3).kind,.int .i64 (rpF 1 3).reg,.int .i64 (rpF 1 3).n] rfl)
 obtain ⟨e0,e1,d0,d1⟩:=(H.out.blk 2 rfl).two
 clear hb H1
 clear e0 e1 d0 d1
 go_wp2_with fail
 refine (acc9_any _).mono ?_
 rintro e w3 ⟨rfl,hb⟩
 have l1:=LT1.out
 have l2:=LT2.out
 have l3:=((H.out.next hb).blk 0 rfl).lt
 have H1:=Lib.hid ((((H.out.next hb).new' 93 #[.int .i64 accO.kind,.int .i64 accO.reg,.int .i64 accO.n] rfl).new' 93 #[.int .i64 9,.int .i64 0,.int .i64 0] (b:=w3.heap.size+1) (by rw [World.size_alloc])).new' 93 #[.int .i64 9,.int .i64 1,.int .i64 0] (b:=w3.heap.size+1+1) (by rw [World.size_alloc,World.size_alloc])).drew
 clear hb H
 have H:=H1
 clear H1
 obtain ⟨f0,f1,f2,_,_,_⟩:=(H.out.blk 2 rfl).three
 obtain ⟨g0,g1,g2,_,_,_⟩:=(H.out.blk 1 rfl).three
 obtain ⟨k0,k1,k2,_,_,_⟩:=(H.out.blk 0 rfl).three
 go_upto_region 38 with fail
 have HM:=Lib.hid (Fo.nil w.heap.size _:Fo w.heap.size [] (((w3.alloc (.cells #[.int .i64 accO.kind,.int .i64 accO.reg,.int .i64 accO.n] 93)).alloc (.cells #[.int .i64 9,.int .i64 0,.int .i64 0] 93)).alloc (.cells #[.int .i64 9,.int .i64 1,.int .i64 0] 93)).drew)
 go_region_held3 (fun w'=>w'.cell? ⟨w3.heap.size,0,none⟩=some (.int .i64 accO.kind)∧w'.cell? ⟨w3.heap.size,1,none⟩=some (.int .i64 accO.reg)∧w'.cell? ⟨w3.heap.size,2,none⟩=some (.int .i64 accO.n)∧w'.cell? ⟨w3.heap.size+1,0,none⟩=some (.int .i64 9)∧w'.cell? ⟨w3.heap.size+1,1,none⟩=some (.int .i64 0)∧w'.cell? ⟨w3.heap.size+1,2,none⟩=some (.int .i64 0)∧w'.cell? ⟨w3.heap.size+1+1,0,none⟩=some (.int .i64 9)∧w'.cell? ⟨w3.heap.size+1+1,1,none⟩=some (.int .i64 1)∧w'.cell? ⟨w3.heap.size+1+1,2,none⟩=some (.int .i64 0)) (go_keep)
  (first
   | (go_at_call 115;refine (two_lit _ _ _ _ _ _ _).mono ?_;rintro e w' ⟨v,rfl,ho,hb⟩;obtain ⟨va,vc,rfl⟩:=ho.form;clear f0 f1 f2 g0 g1 g2 k0 k1 k2;have HMn:=Lib.hid ((HM.out.next hb).add (ho.mono (r:=fun k=>w.heap.size < k) (fun k hk=>Nat.lt_of_lt_of_le (H.out.blk 5 rfl).lt hk)));have Hn:=Lib.hid (H.out.next hb);clear H HM ho hb;have H:=Hn;have HM:=HMn;clear Hn HMn;obtain ⟨f0,f1,f2,_,_,_⟩:=(H.out.blk 2 rfl).three;obtain ⟨g0,g1,g2,_,_,_⟩:=(H.out.blk 1 rfl).three;obtain ⟨k0,k1,k2,_,_,_⟩:=(H.out.blk 0 rfl).three)
   | (go_at_call 114;with_reducible refine (ins9_any _ none 0 0 _ (opdOwn_none _ (fun k=>w.heap.size < k))).mono ?_;rintro e w' ⟨rfl,ho,hb⟩;clear f0 f1 f2 g0 g1 g2 k0 k1 k2;clear ho;have Hn:=Lib.hid (H.out.next hb);have HMn:=Lib.hid (HM.out.next hb);clear H HM hb;have H:=Hn;have HM:=HMn;clear Hn HMn;obtain ⟨f0,f1,f2,_,_,_⟩:=(H.out.blk 2 rfl).three;obtain ⟨g0,g1,g2,_,_,_⟩:=(H.out.blk 1 rfl).three;obtain ⟨k0,k1,k2,_,_,_⟩:=(H.out.blk 0 rfl).three)
   | (go_at_call 114;with_reducible refine (ins9_any _ _ _ _ _ (HM.out.get 0 rfl)).mono ?_;rintro e w' ⟨rfl,ho,hb⟩;clear f0 f1 f2 g0 g1 g2 k0 k1 k2;clear ho;have Hn:=Lib.hid (H.out.next hb);have HMn:=Lib.hid (HM.out.next hb);clear H HM hb;have H:=Hn;have HM:=HMn;clear Hn HMn;obtain ⟨f0,f1,f2,_,_,_⟩:=(H.out.blk 2 rfl).three;obtain ⟨g0,g1,g2,_,_,_⟩:=(H.out.blk 1 rfl).three;obtain ⟨k0,k1,k2,_,_,_⟩:=(H.out.blk 0 rfl).three))
 clear f0 f1 f2 g0 g1 g2 k0 k1 k2
 have n3:=(H.out.blk 5 rfl).lt
 obtain ⟨e0,e1,d0,d1⟩:=(H.out.blk 5 rfl).two
 go_wp2
 have HV:OpdOwn w' (fun k=>w.heap.size < k) (.slice _ 2 _) [accO,ctlR]:=(HM.out.get 0 rfl)
 obtain ⟨h1,h2⟩:=put_ins2 (x:=.string ⟨#[76,68]⟩) H.out.below HV (fun k hk=>hk) (Nat.le_refl _)
 refine bodyPost_ret (insA_end rfl rfl ((((H.out.blk 5 rfl).set 0 _).set 1 _).alloc _)) rfl ⟨_,rfl,h1.below ?_,?_⟩
 all_goals (repeat' (first | (with_reducible exact Below.refl _ _) | (with_reducible assumption) | (with_reducible refine Below.alloc ?_ ?_ _) | (with_reducible refine Below.drew ?_) | (with_reducible refine Below.setCell ?_ ?_ _) | (with_reducible exact Nat.le_refl _) | omega | (simp;done) | (simp;omega)))
theorem ed_7_4 (op:Int) (_h0:0≤op) (_h8:op < 256) (hx:op / 64=1) (hy:op / 8 % 8=4) (hz:op % 8=7) (w:World):Calls Tryz.prog 85 #[.int .u8 op] w (InsA w ⟨#[82,82,68]⟩ [] ⟨#[]⟩ false):=by
 have H:=Lib.hid ((Fr.start w).new' 27 #[.string ⟨#[]⟩,.slice none 0 0] rfl)
 go_enter Tryz.func85,Tryz.ntmps85
 go_wp2_with fail
 refine (rp_any 2 3 _).mono ?_
 rintro e w1 ⟨rfl,hb⟩
 have LT1:=Lib.hid ((H.out.next hb).blk 0 rfl).lt
 have H1:=Lib.hid ((H.out.next hb).new' 93 #[.int .i64 (rpF 2 3).kind,.int .i64 (rpF 2 3).reg,.int .i64 (rpF 2 3).n] rfl)
 clear hb H
 go_wp2_with fail
 refine (rp_any 2 3 _).mono ?_
 rintro e w2 ⟨rfl,hb⟩
 have LT2:=Lib.hid ((H1.out.next hb).blk 0 rfl).lt
 have H:=Lib.hid ((H1.out.next hb).new' 93 #[.int .i64 (rpF 2 3).kind,.int .i64 (rpF 2 3).reg,.int .i64 (rpF 2 3).n] rfl)
 obtain ⟨e0,e1,d0,d1⟩:=(H.out.blk 2 rfl).two
 clear hb H1
 clear e0 e1 d0 d1
 go_wp2_with fail
 refine (acc9_any _).mono ?_
 rintro e w3 ⟨rfl,hb⟩
 have l1:=LT1.out
 have l2:=LT2.out
 have l3:=((H.out.next hb).blk 0 rfl).lt
 have H1:=Lib.hid ((((H.out.next hb).new' 93 #[.int .i64 accO.kind,.int .i64 accO.reg,.int .i64 accO.n] rfl).new' 93 #[.int .i64 9,.int .i64 0,.int .i64 0] (b:=w3.heap.size+1) (by rw [World.size_alloc])).new' 93 #[.int .i64 9,.int .i64 1,.int .i64 0] (b:=w3.heap.size+1+1) (by rw [World.size_alloc,World.size_alloc])).drew
 clear hb H
 have H:=H1
 clear H1
 obtain ⟨f0,f1,f2,_,_,_⟩:=(H.out.blk 2 rfl).three
 obtain ⟨g0,g1,g2,_,_,_⟩:=(H.out.blk 1 rfl).three
 obtain ⟨k0,k1,k2,_,_,_⟩:=(H.out.blk 0 rfl).three
 go_upto_region 38 with fail
 have HM:=Lib.hid (Fo.nil w.heap.size _:Fo w.heap.size [] (((w3.alloc (.cells #[.int .i64 accO.kind,.int .i64 accO.reg,.int .i64 accO.n] 93)).alloc (.cells #[.int .i64 9,.int .i64 0,.int .i64 0] 93)).alloc (.cells #[.int .i64 9,.int .i64 1,.int .i64 0] 93)).drew)
 go_region_held3 (fun w'=>w'.cell? ⟨w3.heap.size,0,none⟩=some (.int .i64 accO.kind)∧w'.cell? ⟨w3.heap.size,1,none⟩=some (.int .i64 accO.reg)∧w'.cell? ⟨w3.heap.size,2,none⟩=some (.int .i64 accO.n)∧w'.cell? ⟨w3.heap.size+1,0,none⟩=some (.int .i64 9)∧w'.cell? ⟨w3.heap.size+1,1,none⟩=some (.int .i64 0)∧w'.cell? ⟨w3.heap.size+1,2,none⟩=some (.int .i64 0)∧w'.cell? ⟨w3.heap.size+1+1,0,none⟩=some (.int .i64 9)∧w'.cell? ⟨w3.heap.size+1+1,1,none⟩=some (.int .i64 1)∧w'.cell? ⟨w3.heap.size+1+1,2,none⟩=some (.int .i64 0)) (go_keep)
  (first
   | (go_at_call 115;refine (two_lit _ _ _ _ _ _ _).mono ?_;rintro e w' ⟨v,rfl,ho,hb⟩;obtain ⟨va,vc,rfl⟩:=ho.form;clear f0 f1 f2 g0 g1 g2 k0 k1 k2;have HMn:=Lib.hid ((HM.out.next hb).add (ho.mono (r:=fun k=>w.heap.size < k) (fun k hk=>Nat.lt_of_lt_of_le (H.out.blk 5 rfl).lt hk)));have Hn:=Lib.hid (H.out.next hb);clear H HM ho hb;have H:=Hn;have HM:=HMn;clear Hn HMn;obtain ⟨f0,f1,f2,_,_,_⟩:=(H.out.blk 2 rfl).three;obtain ⟨g0,g1,g2,_,_,_⟩:=(H.out.blk 1 rfl).three;obtain ⟨k0,k1,k2,_,_,_⟩:=(H.out.blk 0 rfl).three)
   | (go_at_call 114;with_reducible refine (ins9_any _ none 0 0 _ (opdOwn_none _ (fun k=>w.heap.size < k))).mono ?_;rintro e w' ⟨rfl,ho,hb⟩;clear f0 f1 f2 g0 g1 g2 k0 k1 k2;clear ho;have Hn:=Lib.hid (H.out.next hb);have HMn:=Lib.hid (HM.out.next hb);clear H HM hb;have H:=Hn;have HM:=HMn;clear Hn HMn;obtain ⟨f0,f1,f2,_,_,_⟩:=(H.out.blk 2 rfl).three;obtain ⟨g0,g1,g2,_,_,_⟩:=(H.out.blk 1 rfl).three;obtain ⟨k0,k1,k2,_,_,_⟩:=(H.out.blk 0 rfl).three)
   | (go_at_call 114;with_reducible refine (ins9_any _ _ _ _ _ (HM.out.get 0 rfl)).mono ?_;rintro e w' ⟨rfl,ho,hb⟩;clear f0 f1 f2 g0 g1 g2 k0 k1 k2;clear ho;have Hn:=Lib.hid (H.out.next hb);have HMn:=Lib.hid (HM.out.next hb);clear H HM hb;have H:=Hn;have HM:=HMn;clear Hn HMn;obtain ⟨f0,f1,f2,_,_,_⟩:=(H.out.blk 2 rfl).three;obtain ⟨g0,g1,g2,_,_,_⟩:=(H.out.blk 1 rfl).three;obtain ⟨k0,k1,k2,_,_,_⟩:=(H.out.blk 0 rfl).three))
 clear f0 f1 f2 g0 g1 g2 k0 k1 k2
 have n3:=(H.out.blk 5 rfl).lt
 obtain ⟨e0,e1,d0,d1⟩:=(H.out.blk 5 rfl).two
 go_wp2
 have HV:OpdOwn w' (fun k=>w.heap.size < k) (.slice _ 0 _) []:=(opdOwn_none _ (fun k=>w.heap.size < k))
 obtain ⟨h1,h2⟩:=put_ins2 (x:=.string ⟨#[82,82,68]⟩) H.out.below HV (fun k hk=>hk) (Nat.le_refl _)
 refine bodyPost_ret (insA_end rfl rfl ((((H.out.blk 5 rfl).set 0 _).set 1 _).alloc _)) rfl ⟨_,rfl,h1.below ?_,?_⟩
 all_goals (repeat' (first | (with_reducible exact Below.refl _ _) | (with_reducible assumption) | (with_reducible refine Below.alloc ?_ ?_ _) | (with_reducible refine Below.drew ?_) | (with_reducible refine Below.setCell ?_ ?_ _) | (with_reducible exact Nat.le_refl _) | omega | (simp;done) | (simp;omega)))
theorem ed_7_5 (op:Int) (_h0:0≤op) (_h8:op < 256) (hx:op / 64=1) (hy:op / 8 % 8=5) (hz:op % 8=7) (w:World):Calls Tryz.prog 85 #[.int .u8 op] w (InsA w ⟨#[82,76,68]⟩ [] ⟨#[]⟩ false):=by
 have H:=Lib.hid ((Fr.start w).new' 27 #[.string ⟨#[]⟩,.slice none 0 0] rfl)
 go_enter Tryz.func85,Tryz.ntmps85
 go_wp2_with fail
 refine (rp_any 2 3 _).mono ?_
 rintro e w1 ⟨rfl,hb⟩
 have LT1:=Lib.hid ((H.out.next hb).blk 0 rfl).lt
 have H1:=Lib.hid ((H.out.next hb).new' 93 #[.int .i64 (rpF 2 3).kind,.int .i64 (rpF 2 3).reg,.int .i64 (rpF 2 3).n] rfl)
 clear hb H
 go_wp2_with fail
 refine (rp_any 2 3 _).mono ?_
 rintro e w2 ⟨rfl,hb⟩
 have LT2:=Lib.hid ((H1.out.next hb).blk 0 rfl).lt
 have H:=Lib.hid ((H1.out.next hb).new' 93 #[.int .i64 (rpF 2 3).kind,.int .i64 (rpF 2 3).reg,.int .i64 (rpF 2 3).n] rfl)
 obtain ⟨e0,e1,d0,d1⟩:=(H.out.blk 2 rfl).two
 clear hb H1
 clear e0 e1 d0 d1
 go_wp2_with fail
 refine (acc9_any _).mono ?_
 rintro e w3 ⟨rfl,hb⟩
 have l1:=LT1.out
 have l2:=LT2.out
 have l3:=((H.out.next hb).blk 0 rfl).lt
 have H1:=Lib.hid ((((H.out.next hb).new' 93 #[.int .i64 accO.kind,.int .i64 accO.reg,.int .i64 accO.n] rfl).new' 93 #[.int .i64 9,.int .i64 0,.int .i64 0] (b:=w3.heap.size+1) (by rw [World.size_alloc])).new' 93 #[.int .i64 9,.int .i64 1,.int .i64 0] (b:=w3.heap.size+1+1) (by rw [World.size_alloc,World.size_alloc])).drew
 clear hb H
 have H:=H1
 clear H1
 obtain ⟨f0,f1,f2,_,_,_⟩:=(H.out.blk 2 rfl).three
 obtain ⟨g0,g1,g2,_,_,_⟩:=(H.out.blk 1 rfl).three
 obtain ⟨k0,k1,k2,_,_,_⟩:=(H.out.blk 0 rfl).three
 go_upto_region 38 with fail
 have HM:=Lib.hid (Fo.nil w.heap.size _:Fo w.heap.size [] (((w3.alloc (.cells #[.int .i64 accO.kind,.int .i64 accO.reg,.int .i64 accO.n] 93)).alloc (.cells #[.int .i64 9,.int .i64 0,.int .i64 0] 93)).alloc (.cells #[.int .i64 9,.int .i64 1,.int .i64 0] 93)).drew)
 go_region_held3 (fun w'=>w'.cell? ⟨w3.heap.size,0,none⟩=some (.int .i64 accO.kind)∧w'.cell? ⟨w3.heap.size,1,none⟩=some (.int .i64 accO.reg)∧w'.cell? ⟨w3.heap.size,2,none⟩=some (.int .i64 accO.n)∧w'.cell? ⟨w3.heap.size+1,0,none⟩=some (.int .i64 9)∧w'.cell? ⟨w3.heap.size+1,1,none⟩=some (.int .i64 0)∧w'.cell? ⟨w3.heap.size+1,2,none⟩=some (.int .i64 0)∧w'.cell? ⟨w3.heap.size+1+1,0,none⟩=some (.int .i64 9)∧w'.cell? ⟨w3.heap.size+1+1,1,none⟩=some (.int .i64 1)∧w'.cell? ⟨w3.heap.size+1+1,2,none⟩=some (.int .i64 0)) (go_keep)
  (first
   | (go_at_call 115;refine (two_lit _ _ _ _ _ _ _).mono ?_;rintro e w' ⟨v,rfl,ho,hb⟩;obtain ⟨va,vc,rfl⟩:=ho.form;clear f0 f1 f2 g0 g1 g2 k0 k1 k2;have HMn:=Lib.hid ((HM.out.next hb).add (ho.mono (r:=fun k=>w.heap.size < k) (fun k hk=>Nat.lt_of_lt_of_le (H.out.blk 5 rfl).lt hk)));have Hn:=Lib.hid (H.out.next hb);clear H HM ho hb;have H:=Hn;have HM:=HMn;clear Hn HMn;obtain ⟨f0,f1,f2,_,_,_⟩:=(H.out.blk 2 rfl).three;obtain ⟨g0,g1,g2,_,_,_⟩:=(H.out.blk 1 rfl).three;obtain ⟨k0,k1,k2,_,_,_⟩:=(H.out.blk 0 rfl).three)
   | (go_at_call 114;with_reducible refine (ins9_any _ none 0 0 _ (opdOwn_none _ (fun k=>w.heap.size < k))).mono ?_;rintro e w' ⟨rfl,ho,hb⟩;clear f0 f1 f2 g0 g1 g2 k0 k1 k2;clear ho;have Hn:=Lib.hid (H.out.next hb);have HMn:=Lib.hid (HM.out.next hb);clear H HM hb;have H:=Hn;have HM:=HMn;clear Hn HMn;obtain ⟨f0,f1,f2,_,_,_⟩:=(H.out.blk 2 rfl).three;obtain ⟨g0,g1,g2,_,_,_⟩:=(H.out.blk 1 rfl).three;obtain ⟨k0,k1,k2,_,_,_⟩:=(H.out.blk 0 rfl).three)
   | (go_at_call 114;with_reducible refine (ins9_any _ _ _ _ _ (HM.out.get 0 rfl)).mono ?_;rintro e w' ⟨rfl,ho,hb⟩;clear f0 f1 f2 g0 g1 g2 k0 k1 k2;clear ho;have Hn:=Lib.hid (H.out.next hb);have HMn:=Lib.hid (HM.out.next hb);clear H HM hb;have H:=Hn;have HM:=HMn;clear Hn HMn;obtain ⟨f0,f1,f2,_,_,_⟩:=(H.out.blk 2 rfl).three;obtain ⟨g0,g1,g2,_,_,_⟩:=(H.out.blk 1 rfl).three;obtain ⟨k0,k1,k2,_,_,_⟩:=(H.out.blk 0 rfl).three))
 clear f0 f1 f2 g0 g1 g2 k0 k1 k2
 have n3:=(H.out.blk 5 rfl).lt
 obtain ⟨e0,e1,d0,d1⟩:=(H.out.blk 5 rfl).two
 go_wp2
 have HV:OpdOwn w' (fun k=>w.heap.size < k) (.slice _ 0 _) []:=(opdOwn_none _ (fun k=>w.heap.size < k))
 obtain ⟨h1,h2⟩:=put_ins2 (x:=.string ⟨#[82,76,68]⟩) H.out.below HV (fun k hk=>hk) (Nat.le_refl _)
 refine bodyPost_ret (insA_end rfl rfl ((((H.out.blk 5 rfl).set 0 _).set 1 _).alloc _)) rfl ⟨_,rfl,h1.below ?_,?_⟩
 all_goals (repeat' (first | (with_reducible exact Below.refl _ _) | (with_reducible assumption) | (with_reducible refine Below.alloc ?_ ?_ _) | (with_reducible refine Below.drew ?_) | (with_reducible refine Below.setCell ?_ ?_ _) | (with_reducible exact Nat.le_refl _) | omega | (simp;done) | (simp;omega)))
theorem ed_7_6 (op:Int) (_h0:0≤op) (_h8:op < 256) (hx:op / 64=1) (hy:op / 8 % 8=6) (hz:op % 8=7) (w:World):Calls Tryz.prog 85 #[.int .u8 op] w (InsA w ⟨#[]⟩ [] ⟨#[]⟩ false):=by
 have H:=Lib.hid ((Fr.start w).new' 27 #[.string ⟨#[]⟩,.slice none 0 0] rfl)
 go_enter Tryz.func85,Tryz.ntmps85
 go_wp2_with fail
 refine (rp_any 2 3 _).mono ?_
 rintro e w1 ⟨rfl,hb⟩
 have LT1:=Lib.hid ((H.out.next hb).blk 0 rfl).lt
 have H1:=Lib.hid ((H.out.next hb).new' 93 #[.int .i64 (rpF 2 3).kind,.int .i64 (rpF 2 3).reg,.int .i64 (rpF 2 3).n] rfl)
 clear hb H
 go_wp2_with fail
 refine (rp_any 3 3 _).mono ?_
 rintro e w2 ⟨rfl,hb⟩
 have LT2:=Lib.hid ((H1.out.next hb).blk 0 rfl).lt
 have H:=Lib.hid ((H1.out.next hb).new' 93 #[.int .i64 (rpF 3 3).kind,.int .i64 (rpF 3 3).reg,.int .i64 (rpF 3 3).n] rfl)
 obtain ⟨e0,e1,d0,d1⟩:=(H.out.blk 2 rfl).two
 clear hb H1
 clear e0 e1 d0 d1
 go_wp2_with fail
 refine (acc9_any _).mono ?_
 rintro e w3 ⟨rfl,hb⟩
 have l1:=LT1.out
 have l2:=LT2.out
 have l3:=((H.out.next hb).blk 0 rfl).lt
 have H1:=Lib.hid ((((H.out.next hb).new' 93 #[.int .i64 accO.kind,.int .i64 accO.reg,.int .i64 accO.n] rfl).new' 93 #[.int .i64 9,.int .i64 0,.int .i64 0] (b:=w3.heap.size+1) (by rw [World.size_alloc])).new' 93 #[.int .i64 9,.int .i64 1,.int .i64 0] (b:=w3.heap.size+1+1) (by rw [World.size_alloc,World.size_alloc])).drew
 clear hb H
 have H:=H1
 clear H1
 obtain ⟨f0,f1,f2,_,_,_⟩:=(H.out.blk 2 rfl).three
 obtain ⟨g0,g1,g2,_,_,_⟩:=(H.out.blk 1 rfl).three
 obtain ⟨k0,k1,k2,_,_,_⟩:=(H.out.blk 0 rfl).three
 go_upto_region 38 with fail
 have HM:=Lib.hid (Fo.nil w.heap.size _:Fo w.heap.size [] (((w3.alloc (.cells #[.int .i64 accO.kind,.int .i64 accO.reg,.int .i64 accO.n] 93)).alloc (.cells #[.int .i64 9,.int .i64 0,.int .i64 0] 93)).alloc (.cells #[.int .i64 9,.int .i64 1,.int .i64 0] 93)).drew)
 go_region_held3 (fun w'=>w'.cell? ⟨w3.heap.size,0,none⟩=some (.int .i64 accO.kind)∧w'.cell? ⟨w3.heap.size,1,none⟩=some (.int .i64 accO.reg)∧w'.cell? ⟨w3.heap.size,2,none⟩=some (.int .i64 accO.n)∧w'.cell? ⟨w3.heap.size+1,0,none⟩=some (.int .i64 9)∧w'.cell? ⟨w3.heap.size+1,1,none⟩=some (.int .i64 0)∧w'.cell? ⟨w3.heap.size+1,2,none⟩=some (.int .i64 0)∧w'.cell? ⟨w3.heap.size+1+1,0,none⟩=some (.int .i64 9)∧w'.cell? ⟨w3.heap.size+1+1,1,none⟩=some (.int .i64 1)∧w'.cell? ⟨w3.heap.size+1+1,2,none⟩=some (.int .i64 0)) (go_keep)
  (first
   | (go_at_call 115;refine (two_lit _ _ _ _ _ _ _).mono ?_;rintro e w' ⟨v,rfl,ho,hb⟩;obtain ⟨va,vc,rfl⟩:=ho.form;clear f0 f1 f2 g0 g1 g2 k0 k1 k2;have HMn:=Lib.hid ((HM.out.next hb).add (ho.mono (r:=fun k=>w.heap.size < k) (fun k hk=>Nat.lt_of_lt_of_le (H.out.blk 5 rfl).lt hk)));have Hn:=Lib.hid (H.out.next hb);clear H HM ho hb;have H:=Hn;have HM:=HMn;clear Hn HMn;obtain ⟨f0,f1,f2,_,_,_⟩:=(H.out.blk 2 rfl).three;obtain ⟨g0,g1,g2,_,_,_⟩:=(H.out.blk 1 rfl).three;obtain ⟨k0,k1,k2,_,_,_⟩:=(H.out.blk 0 rfl).three)
   | (go_at_call 114;with_reducible refine (ins9_any _ none 0 0 _ (opdOwn_none _ (fun k=>w.heap.size < k))).mono ?_;rintro e w' ⟨rfl,ho,hb⟩;clear f0 f1 f2 g0 g1 g2 k0 k1 k2;clear ho;have Hn:=Lib.hid (H.out.next hb);have HMn:=Lib.hid (HM.out.next hb);clear H HM hb;have H:=Hn;have HM:=HMn;clear Hn HMn;obtain ⟨f0,f1,f2,_,_,_⟩:=(H.out.blk 2 rfl).three;obtain ⟨g0,g1,g2,_,_,_⟩:=(H.out.blk 1 rfl).three;obtain ⟨k0,k1,k2,_,_,_⟩:=(H.out.blk 0 rfl).three)
   | (go_at_call 114;with_reducible refine (ins9_any _ _ _ _ _ (HM.out.get 0 rfl)).mono ?_;rintro e w' ⟨rfl,ho,hb⟩;clear f0 f1 f2 g0 g1 g2 k0 k1 k2;clear ho;have Hn:=Lib.hid (H.out.next hb);have HMn:=Lib.hid (HM.out.next hb);clear H HM hb;have H:=Hn;have HM:=HMn;clear Hn HMn;obtain ⟨f0,f1,f2,_,_,_⟩:=(H.out.blk 2 rfl).three;obtain ⟨g0,g1,g2,_,_,_⟩:=(H.out.blk 1 rfl).three;obtain ⟨k0,k1,k2,_,_,_⟩:=(H.out.blk 0 rfl).three))
 clear f0 f1 f2 g0 g1 g2 k0 k1 k2
 have n3:=(H.out.blk 5 rfl).lt
 obtain ⟨e0,e1,d0,d1⟩:=(H.out.blk 5 rfl).two
 go_wp2
 have HV:OpdOwn w' (fun k=>w.heap.size < k) (.slice _ 0 _) []:=(opdOwn_none _ (fun k=>w.heap.size < k))
 obtain ⟨h1,h2⟩:=put_ins2 (x:=.string ⟨#[]⟩) H.out.below HV (fun k hk=>hk) (Nat.le_refl _)
 refine bodyPost_ret (insA_end rfl rfl ((((H.out.blk 5 rfl).set 0 _).set 1 _).alloc _)) rfl ⟨_,rfl,h1.below ?_,?_⟩
 all_goals (repeat' (first | (with_reducible exact Below.refl _ _) | (with_reducible assumption) | (with_reducible refine Below.alloc ?_ ?_ _) | (with_reducible refine Below.drew ?_) | (with_reducible refine Below.setCell ?_ ?_ _) | (with_reducible exact Nat.le_refl _) | omega | (simp;done) | (simp;omega)))
theorem ed_7_7 (op:Int) (_h0:0≤op) (_h8:op < 256) (hx:op / 64=1) (hy:op / 8 % 8=7) (hz:op % 8=7) (w:World):Calls Tryz.prog 85 #[.int .u8 op] w (InsA w ⟨#[]⟩ [] ⟨#[]⟩ false):=by
 have H:=Lib.hid ((Fr.start w).new' 27 #[.string ⟨#[]⟩,.slice none 0 0] rfl)
 go_enter Tryz.func85,Tryz.ntmps85
 go_wp2_with fail
 refine (rp_any 2 3 _).mono ?_
 rintro e w1 ⟨rfl,hb⟩
 have LT1:=Lib.hid ((H.out.next hb).blk 0 rfl).lt
 have H1:=Lib.hid ((H.out.next hb).new' 93 #[.int .i64 (rpF 2 3).kind,.int .i64 (rpF 2 3).reg,.int .i64 (rpF 2 3).n] rfl)
 clear hb H
 go_wp2_with fail
 refine (rp_any 3 3 _).mono ?_
 rintro e w2 ⟨rfl,hb⟩
 have LT2:=Lib.hid ((H1.out.next hb).blk 0 rfl).lt
 have H:=Lib.hid ((H1.out.next hb).new' 93 #[.int .i64 (rpF 3 3).kind,.int .i64 (rpF 3 3).reg,.int .i64 (rpF 3 3).n] rfl)
 obtain ⟨e0,e1,d0,d1⟩:=(H.out.blk 2 rfl).two
 clear hb H1
 clear e0 e1 d0 d1
 go_wp2_with fail
 refine (acc9_any _).mono ?_
 rintro e w3 ⟨rfl,hb⟩
 have l1:=LT1.out
 have l2:=LT2.out
 have l3:=((H.out.next hb).blk 0 rfl).lt
 have H1:=Lib.hid ((((H.out.next hb).new' 93 #[.int .i64 accO.kind,.int .i64 accO.reg,.int .i64 accO.n] rfl).new' 93 #[.int .i64 9,.int .i64 0,.int .i64 0] (b:=w3.heap.size+1) (by rw [World.size_alloc])).new' 93 #[.int .i64 9,.int .i64 1,.int .i64 0] (b:=w3.heap.size+1+1) (by rw [World.size_alloc,World.size_alloc])).drew
 clear hb H
 have H:=H1
 clear H1
 obtain ⟨f0,f1,f2,_,_,_⟩:=(H.out.blk 2 rfl).three
 obtain ⟨g0,g1,g2,_,_,_⟩:=(H.out.blk 1 rfl).three
 obtain ⟨k0,k1,k2,_,_,_⟩:=(H.out.blk 0 rfl).three
 go_upto_region 38 with fail
 have HM:=Lib.hid (Fo.nil w.heap.size _:Fo w.heap.size [] (((w3.alloc (.cells #[.int .i64 accO.kind,.int .i64 accO.reg,.int .i64 accO.n] 93)).alloc (.cells #[.int .i64 9,.int .i64 0,.int .i64 0] 93)).alloc (.cells #[.int .i64 9,.int .i64 1,.int .i64 0] 93)).drew)
 go_region_held3 (fun w'=>w'.cell? ⟨w3.heap.size,0,none⟩=some (.int .i64 accO.kind)∧w'.cell? ⟨w3.heap.size,1,none⟩=some (.int .i64 accO.reg)∧w'.cell? ⟨w3.heap.size,2,none⟩=some (.int .i64 accO.n)∧w'.cell? ⟨w3.heap.size+1,0,none⟩=some (.int .i64 9)∧w'.cell? ⟨w3.heap.size+1,1,none⟩=some (.int .i64 0)∧w'.cell? ⟨w3.heap.size+1,2,none⟩=some (.int .i64 0)∧w'.cell? ⟨w3.heap.size+1+1,0,none⟩=some (.int .i64 9)∧w'.cell? ⟨w3.heap.size+1+1,1,none⟩=some (.int .i64 1)∧w'.cell? ⟨w3.heap.size+1+1,2,none⟩=some (.int .i64 0)) (go_keep)
  (first
   | (go_at_call 115;refine (two_lit _ _ _ _ _ _ _).mono ?_;rintro e w' ⟨v,rfl,ho,hb⟩;obtain ⟨va,vc,rfl⟩:=ho.form;clear f0 f1 f2 g0 g1 g2 k0 k1 k2;have HMn:=Lib.hid ((HM.out.next hb).add (ho.mono (r:=fun k=>w.heap.size < k) (fun k hk=>Nat.lt_of_lt_of_le (H.out.blk 5 rfl).lt hk)));have Hn:=Lib.hid (H.out.next hb);clear H HM ho hb;have H:=Hn;have HM:=HMn;clear Hn HMn;obtain ⟨f0,f1,f2,_,_,_⟩:=(H.out.blk 2 rfl).three;obtain ⟨g0,g1,g2,_,_,_⟩:=(H.out.blk 1 rfl).three;obtain ⟨k0,k1,k2,_,_,_⟩:=(H.out.blk 0 rfl).three)
   | (go_at_call 114;with_reducible refine (ins9_any _ none 0 0 _ (opdOwn_none _ (fun k=>w.heap.size < k))).mono ?_;rintro e w' ⟨rfl,ho,hb⟩;clear f0 f1 f2 g0 g1 g2 k0 k1 k2;clear ho;have Hn:=Lib.hid (H.out.next hb);have HMn:=Lib.hid (HM.out.next hb);clear H HM hb;have H:=Hn;have HM:=HMn;clear Hn HMn;obtain ⟨f0,f1,f2,_,_,_⟩:=(H.out.blk 2 rfl).three;obtain ⟨g0,g1,g2,_,_,_⟩:=(H.out.blk 1 rfl).three;obtain ⟨k0,k1,k2,_,_,_⟩:=(H.out.blk 0 rfl).three)
   | (go_at_call 114;with_reducible refine (ins9_any _ _ _ _ _ (HM.out.get 0 rfl)).mono ?_;rintro e w' ⟨rfl,ho,hb⟩;clear f0 f1 f2 g0 g1 g2 k0 k1 k2;clear ho;have Hn:=Lib.hid (H.out.next hb);have HMn:=Lib.hid (HM.out.next hb);clear H HM hb;have H:=Hn;have HM:=HMn;clear Hn HMn;obtain ⟨f0,f1,f2,_,_,_⟩:=(H.out.blk 2 rfl).three;obtain ⟨g0,g1,g2,_,_,_⟩:=(H.out.blk 1 rfl).three;obtain ⟨k0,k1,k2,_,_,_⟩:=(H.out.blk 0 rfl).three))
 clear f0 f1 f2 g0 g1 g2 k0 k1 k2
 have n3:=(H.out.blk 5 rfl).lt
 obtain ⟨e0,e1,d0,d1⟩:=(H.out.blk 5 rfl).two
 go_wp2
 have HV:OpdOwn w' (fun k=>w.heap.size < k) (.slice _ 0 _) []:=(opdOwn_none _ (fun k=>w.heap.size < k))
 obtain ⟨h1,h2⟩:=put_ins2 (x:=.string ⟨#[]⟩) H.out.below HV (fun k hk=>hk) (Nat.le_refl _)
 refine bodyPost_ret (insA_end rfl rfl ((((H.out.blk 5 rfl).set 0 _).set 1 _).alloc _)) rfl ⟨_,rfl,h1.below ?_,?_⟩
 all_goals (repeat' (first | (with_reducible exact Below.refl _ _) | (with_reducible assumption) | (with_reducible refine Below.alloc ?_ ?_ _) | (with_reducible refine Below.drew ?_) | (with_reducible refine Below.setCell ?_ ?_ _) | (with_reducible exact Nat.le_refl _) | omega | (simp;done) | (simp;omega)))
end Go.Proofs.YtnbmbcjnncbaiaaGreatDoor
