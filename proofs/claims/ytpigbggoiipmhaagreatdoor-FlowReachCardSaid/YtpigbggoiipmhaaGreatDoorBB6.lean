/-
  The reference's instructions with the prefix ED, further. The reference's instructions with the prefix ED, joined. Conditions: the opcode is a byte.
-/
import Derived.Test.YtpigbggoiipmhaaGreatDoorBB5
namespace Go.Proofs.YtpigbggoiipmhaaGreatDoor
set_option maxHeartbeats 4000000
set_option maxRecDepth 100000
open Go.RowKit Go.Shelf Go.Sort
theorem uG {P:Prop} (h:P:=by
  have H:=aA ((Fr.start w).new' 30 #[.string ⟨#[]⟩,.slice none 0 0] rfl);first
   | ((have _:=Ma0);(subst hz'))
   | (subst hz' hal)
  go_enter Tryz.func120,Tryz.ntmps120;go_wp2_with fail;refine (dT _ _ _).mono ?_;rintro e w1 ⟨o1,rfl,hb⟩;have LT1:=aA ((H.out.next hb).blk 0 rfl).lt;have H1:=aA ((H.out.next hb).new' 52 #[.int .i64 o1.kind,.int .i64 o1.reg,.int .i64 o1.n] rfl);clear hb H;go_wp2_with fail;refine (dT _ _ _).mono ?_;rintro e w2 ⟨o2,rfl,hb⟩;have LT2:=aA ((H1.out.next hb).blk 0 rfl).lt;have H:=aA ((H1.out.next hb).new' 52 #[.int .i64 o2.kind,.int .i64 o2.reg,.int .i64 o2.n] rfl);obtain ⟨e0,e1,d0,d1⟩:=(H.out.blk 2 rfl).two;clear hb H1;go_wp2_with (go_at_call 166;refine (frI H (aO _ none 0 0 _ (aV _ (λk=>w.heap.size < k)))).mono ?_;rintro e w' ⟨rfl,HO,H⟩;obtain ⟨e0,e1,d0,d1⟩:=(H.out.blk 2 rfl).two);have hpo:=λx=>aW (x:=x) (y:=.slice none 0 0) H.out.below HO.out (λk hk=>hk) (zI _);exact yR (dX rfl rfl (((H.out.blk 2 rfl).set 0 _).set 1 _)) rfl ⟨_,rfl,(hpo _).1,(hpo _).2⟩):P:=h
theorem ed_4a (op y z:Int) (_h0:0<=op) (_h8:op < 256) (_hy:op / 8 % 8=y) (_hz:op % 8=z) (_hy0:0<=y) (_hy8:y < 8) (_hz0:0<=z) (_hz8:z < 8) (hx:op / 64=1) (hz':z=4) (hal:0 < y) (w:World):Calls Tryz.prog 120 #[.int .u8 op] w (cS w ⟨#[78,69,71]⟩ [] ⟨#[]⟩ true):=by have Ma0:=trivial;exact uG
theorem ed_4b (op y z:Int) (_h0:0<=op) (_h8:op < 256) (_hy:op / 8 % 8=y) (_hz:op % 8=z) (_hy0:0<=y) (_hy8:y < 8) (_hz0:0<=z) (_hz8:z < 8) (hx:op / 64=1) (hz':z=4) (hal:y=0) (w:World):Calls Tryz.prog 120 #[.int .u8 op] w (cS w ⟨#[78,69,71]⟩ [] ⟨#[]⟩ false):=uG
theorem ed_5a (op y z:Int) (_h0:0<=op) (_h8:op < 256) (_hy:op / 8 % 8=y) (_hz:op % 8=z) (_hy0:0<=y) (_hy8:y < 8) (_hz0:0<=z) (_hz8:z < 8) (hx:op / 64=1) (hz':z=5) (hal:y=1) (w:World):Calls Tryz.prog 120 #[.int .u8 op] w (cS w ⟨#[82,69,84,73]⟩ [] ⟨#[]⟩ false):=uG
theorem ed_5b (op y z:Int) (_h0:0<=op) (_h8:op < 256) (_hy:op / 8 % 8=y) (_hz:op % 8=z) (_hy0:0<=y) (_hy8:y < 8) (_hz0:0<=z) (_hz8:z < 8) (hx:op / 64=1) (hz':z=5) (h1:¬y=1) (hal:0 < y) (w:World):Calls Tryz.prog 120 #[.int .u8 op] w (cS w ⟨#[82,69,84,78]⟩ [] ⟨#[]⟩ true):=by have Ma0:=trivial;exact uG
theorem ed_5c (op y z:Int) (_h0:0<=op) (_h8:op < 256) (_hy:op / 8 % 8=y) (_hz:op % 8=z) (_hy0:0<=y) (_hy8:y < 8) (_hz0:0<=z) (_hz8:z < 8) (hx:op / 64=1) (hz':z=5) (hal:y=0) (w:World):Calls Tryz.prog 120 #[.int .u8 op] w (cS w ⟨#[82,69,84,78]⟩ [] ⟨#[]⟩ false):=uG
theorem lT {P:Prop} (h:P:=by
  have H:=aA ((Fr.start w).new' 30 #[.string ⟨#[]⟩,.slice none 0 0] rfl);go_enter Tryz.func120,Tryz.ntmps120;go_wp2_with fail;refine (dT _ _ _).mono ?_;rintro e w1 ⟨o1,rfl,hb⟩;have LT1:=aA ((H.out.next hb).blk 0 rfl).lt;have H1:=aA ((H.out.next hb).new' 52 #[.int .i64 o1.kind,.int .i64 o1.reg,.int .i64 o1.n] rfl);clear hb H;go_wp2_with fail;refine (dT _ _ _).mono ?_;rintro e w2 ⟨o2,rfl,hb⟩;have LT2:=aA ((H1.out.next hb).blk 0 rfl).lt;have H:=aA ((H1.out.next hb).new' 52 #[.int .i64 o2.kind,.int .i64 o2.reg,.int .i64 o2.n] rfl);obtain ⟨e0,e1,d0,d1⟩:=(H.out.blk 2 rfl).two;clear hb H1
  go_wp2_with (first
   | (go_at_call 171;refine (frO (aA (H.out.alloc _)) (fK _ _)).mono ?_;rintro e w' ⟨rfl,H⟩)
   | (go_at_call 170;refine (frL H 2 rfl (fC _ _)).mono ?_;rintro e w' ⟨va,vc,rfl,HO,H⟩)
   | (go_at_call 166;refine (frI H (aO _ _ _ _ _ HO.out)).mono ?_;rintro e w' ⟨rfl,HO,H⟩;obtain ⟨e0,e1,d0,d1⟩:=(H.out.blk 2 rfl).two))
  have hpo:=λx=>aW (x:=x) (y:=.slice va 1 vc) H.out.below HO.out (λk hk=>hk) (zI _);exact yR (dX rfl rfl (((H.out.blk 2 rfl).set 0 _).set 1 _)) rfl ⟨_,rfl,(hpo _).1,(hpo _).2⟩):P:=h
theorem ed_6_0 (op:Int) (_h0:0<=op) (_h8:op < 256) (hx:op / 64=1) (hy:op / 8 % 8=0) (hz:op % 8=6) (w:World):Calls Tryz.prog 120 #[.int .u8 op] w (cS w ⟨#[73,77]⟩ [cV 0] ⟨#[]⟩ false):=lT
theorem ed_6_1 (op:Int) (_h0:0<=op) (_h8:op < 256) (hx:op / 64=1) (hy:op / 8 % 8=1) (hz:op % 8=6) (w:World):Calls Tryz.prog 120 #[.int .u8 op] w (cS w ⟨#[73,77]⟩ [cV 0] ⟨#[]⟩ true):=lT
theorem ed_6_2 (op:Int) (_h0:0<=op) (_h8:op < 256) (hx:op / 64=1) (hy:op / 8 % 8=2) (hz:op % 8=6) (w:World):Calls Tryz.prog 120 #[.int .u8 op] w (cS w ⟨#[73,77]⟩ [cV 1] ⟨#[]⟩ false):=lT
theorem ed_6_3 (op:Int) (_h0:0<=op) (_h8:op < 256) (hx:op / 64=1) (hy:op / 8 % 8=3) (hz:op % 8=6) (w:World):Calls Tryz.prog 120 #[.int .u8 op] w (cS w ⟨#[73,77]⟩ [cV 2] ⟨#[]⟩ false):=lT
theorem ed_6_4 (op:Int) (_h0:0<=op) (_h8:op < 256) (hx:op / 64=1) (hy:op / 8 % 8=4) (hz:op % 8=6) (w:World):Calls Tryz.prog 120 #[.int .u8 op] w (cS w ⟨#[73,77]⟩ [cV 0] ⟨#[]⟩ true):=lT
theorem ed_6_5 (op:Int) (_h0:0<=op) (_h8:op < 256) (hx:op / 64=1) (hy:op / 8 % 8=5) (hz:op % 8=6) (w:World):Calls Tryz.prog 120 #[.int .u8 op] w (cS w ⟨#[73,77]⟩ [cV 0] ⟨#[]⟩ true):=lT
theorem ed_6_6 (op:Int) (_h0:0<=op) (_h8:op < 256) (hx:op / 64=1) (hy:op / 8 % 8=6) (hz:op % 8=6) (w:World):Calls Tryz.prog 120 #[.int .u8 op] w (cS w ⟨#[73,77]⟩ [cV 1] ⟨#[]⟩ true):=lT
theorem ed_6_7 (op:Int) (_h0:0<=op) (_h8:op < 256) (hx:op / 64=1) (hy:op / 8 % 8=7) (hz:op % 8=6) (w:World):Calls Tryz.prog 120 #[.int .u8 op] w (cS w ⟨#[73,77]⟩ [cV 2] ⟨#[]⟩ true):=lT
theorem lZ {P:Prop} (h:P:=by
  have H:=aA ((Fr.start w).new' 30 #[.string ⟨#[]⟩,.slice none 0 0] rfl);go_enter Tryz.func120,Tryz.ntmps120;go_wp2_with fail;refine (dT _ _ _).mono ?_;rintro e w1 ⟨o1,rfl,hb⟩;have LT1:=aA ((H.out.next hb).blk 0 rfl).lt;have H1:=aA ((H.out.next hb).new' 52 #[.int .i64 o1.kind,.int .i64 o1.reg,.int .i64 o1.n] rfl);clear hb H;go_wp2_with fail;refine (dT _ _ _).mono ?_;rintro e w2 ⟨o2,rfl,hb⟩;have LT2:=aA ((H1.out.next hb).blk 0 rfl).lt;have H:=aA ((H1.out.next hb).new' 52 #[.int .i64 o2.kind,.int .i64 o2.reg,.int .i64 o2.n] rfl);obtain ⟨e0,e1,d0,d1⟩:=(H.out.blk 2 rfl).two;clear hb H1;clear e0 e1 d0 d1;go_wp2_with fail;refine (gO _).mono ?_;rintro e w3 ⟨rfl,hb⟩;have l1:=LT1.out;have l2:=LT2.out;have l3:=((H.out.next hb).blk 0 rfl).lt;have H1:=aA ((((H.out.next hb).new' 52 #[.int .i64 bV.kind,.int .i64 bV.reg,.int .i64 bV.n] rfl).new' 52 #[.int .i64 9,.int .i64 0,.int .i64 0] (b:=w3.heap.size+1) (by rw [zW])).new' 52 #[.int .i64 9,.int .i64 1,.int .i64 0] (b:=w3.heap.size+1+1) (by rw [zW,zW])).drew;clear hb H;have H:=H1;clear H1;obtain ⟨f0,f1,f2,_,_,_⟩:=(H.out.blk 2 rfl).three;obtain ⟨g0,g1,g2,_,_,_⟩:=(H.out.blk 1 rfl).three;obtain ⟨k0,k1,k2,_,_,_⟩:=(H.out.blk 0 rfl).three;go_upto_region 38 with fail;have HM:=aA (Fo.nil w.heap.size _:Fo w.heap.size [] (((w3.alloc (.cells #[.int .i64 bV.kind,.int .i64 bV.reg,.int .i64 bV.n] 52)).alloc (.cells #[.int .i64 9,.int .i64 0,.int .i64 0] 52)).alloc (.cells #[.int .i64 9,.int .i64 1,.int .i64 0] 52)).drew);go_region_held3 (λw'=>w'.cell? ⟨w3.heap.size,0,none⟩=some (.int .i64 bV.kind)/\w'.cell? ⟨w3.heap.size,1,none⟩=some (.int .i64 bV.reg)/\w'.cell? ⟨w3.heap.size,2,none⟩=some (.int .i64 bV.n)/\w'.cell? ⟨w3.heap.size+1,0,none⟩=some (.int .i64 9)/\w'.cell? ⟨w3.heap.size+1,1,none⟩=some (.int .i64 0)/\w'.cell? ⟨w3.heap.size+1,2,none⟩=some (.int .i64 0)/\w'.cell? ⟨w3.heap.size+1+1,0,none⟩=some (.int .i64 9)/\w'.cell? ⟨w3.heap.size+1+1,1,none⟩=some (.int .i64 1)/\w'.cell? ⟨w3.heap.size+1+1,2,none⟩=some (.int .i64 0)) (go_keep)
   (first
    | (go_at_call 167;refine (two_lit _ _ _ _ _ _ _).mono ?_;rintro e w' ⟨v,rfl,ho,hb⟩;obtain ⟨va,vc,rfl⟩:=ho.form;clear f0 f1 f2 g0 g1 g2 k0 k1 k2;have HMn:=aA ((HM.out.next hb).add (ho.mono (r:=λk=>w.heap.size < k) (λk hk=>vB (H.out.blk 5 rfl).lt hk)));have Hn:=aA (H.out.next hb);clear H HM ho hb;have H:=Hn;have HM:=HMn;clear Hn HMn;obtain ⟨f0,f1,f2,_,_,_⟩:=(H.out.blk 2 rfl).three;obtain ⟨g0,g1,g2,_,_,_⟩:=(H.out.blk 1 rfl).three;obtain ⟨k0,k1,k2,_,_,_⟩:=(H.out.blk 0 rfl).three)
    | (go_at_call 166;with_reducible refine (aO _ none 0 0 _ (aV _ (λk=>w.heap.size < k))).mono ?_;rintro e w' ⟨rfl,ho,hb⟩;clear f0 f1 f2 g0 g1 g2 k0 k1 k2;clear ho;have Hn:=aA (H.out.next hb);have HMn:=aA (HM.out.next hb);clear H HM hb;have H:=Hn;have HM:=HMn;clear Hn HMn;obtain ⟨f0,f1,f2,_,_,_⟩:=(H.out.blk 2 rfl).three;obtain ⟨g0,g1,g2,_,_,_⟩:=(H.out.blk 1 rfl).three;obtain ⟨k0,k1,k2,_,_,_⟩:=(H.out.blk 0 rfl).three)
    | (go_at_call 166;with_reducible refine (aO _ _ _ _ _ (HM.out.get 0 rfl)).mono ?_;rintro e w' ⟨rfl,ho,hb⟩;clear f0 f1 f2 g0 g1 g2 k0 k1 k2;clear ho;have Hn:=aA (H.out.next hb);have HMn:=aA (HM.out.next hb);clear H HM hb;have H:=Hn;have HM:=HMn;clear Hn HMn;obtain ⟨f0,f1,f2,_,_,_⟩:=(H.out.blk 2 rfl).three;obtain ⟨g0,g1,g2,_,_,_⟩:=(H.out.blk 1 rfl).three;obtain ⟨k0,k1,k2,_,_,_⟩:=(H.out.blk 0 rfl).three))
  clear f0 f1 f2 g0 g1 g2 k0 k1 k2;have n3:=(H.out.blk 5 rfl).lt;obtain ⟨e0,e1,d0,d1⟩:=(H.out.blk 5 rfl).two;go_wp2;first
   | ((have _:=Ma0);(have HV:aD w' (λk=>w.heap.size < k) (.slice _ 2 _) [MH,bV]:=(HM.out.get 3 rfl));(obtain ⟨h1,h2⟩:=cM (x:=.string ⟨#[76,68]⟩) H.out.below HV (λk hk=>hk) (zI _)))
   | ((have _:=Ma1);(have HV:aD w' (λk=>w.heap.size < k) (.slice _ 2 _) [NE,bV]:=(HM.out.get 2 rfl));(obtain ⟨h1,h2⟩:=cM (x:=.string ⟨#[76,68]⟩) H.out.below HV (λk hk=>hk) (zI _)))
   | ((have _:=Ma2);(have HV:aD w' (λk=>w.heap.size < k) (.slice _ 2 _) [bV,MH]:=(HM.out.get 1 rfl));(obtain ⟨h1,h2⟩:=cM (x:=.string ⟨#[76,68]⟩) H.out.below HV (λk hk=>hk) (zI _)))
   | ((have _:=Ma3);(have HV:aD w' (λk=>w.heap.size < k) (.slice _ 2 _) [bV,NE]:=(HM.out.get 0 rfl));(obtain ⟨h1,h2⟩:=cM (x:=.string ⟨#[76,68]⟩) H.out.below HV (λk hk=>hk) (zI _)))
   | ((have _:=Ma4);(have HV:aD w' (λk=>w.heap.size < k) (.slice _ 0 _) []:=(aV _ (λk=>w.heap.size < k)));(obtain ⟨h1,h2⟩:=cM (x:=.string ⟨#[82,82,68]⟩) H.out.below HV (λk hk=>hk) (zI _)))
   | ((have _:=Ma5);(have HV:aD w' (λk=>w.heap.size < k) (.slice _ 0 _) []:=(aV _ (λk=>w.heap.size < k)));(obtain ⟨h1,h2⟩:=cM (x:=.string ⟨#[82,76,68]⟩) H.out.below HV (λk hk=>hk) (zI _)))
   | ((have HV:aD w' (λk=>w.heap.size < k) (.slice _ 0 _) []:=(aV _ (λk=>w.heap.size < k)));(obtain ⟨h1,h2⟩:=cM (x:=.string ⟨#[]⟩) H.out.below HV (λk hk=>hk) (zI _)))
  refine yR (dX rfl rfl ((((H.out.blk 5 rfl).set 0 _).set 1 _).alloc _)) rfl ⟨_,rfl,h1.below ?_,?_⟩;all_goals (repeat' (first | (with_reducible exact zY _ _) | (with_reducible assumption) | (with_reducible refine Below.alloc ?_ ?_ _) | (with_reducible refine Below.drew ?_) | (with_reducible refine Below.setCell ?_ ?_ _) | (with_reducible exact zI _) | omega | (simp;done) | (simp;omega)))):P:=h
theorem ed_7_0 (op:Int) (_h0:0<=op) (_h8:op < 256) (hx:op / 64=1) (hy:op / 8 % 8=0) (hz:op % 8=7) (w:World):Calls Tryz.prog 120 #[.int .u8 op] w (cS w ⟨#[76,68]⟩ [MH,bV] ⟨#[]⟩ false):=by have Ma0:=trivial;exact lZ
theorem ed_7_1 (op:Int) (_h0:0<=op) (_h8:op < 256) (hx:op / 64=1) (hy:op / 8 % 8=1) (hz:op % 8=7) (w:World):Calls Tryz.prog 120 #[.int .u8 op] w (cS w ⟨#[76,68]⟩ [NE,bV] ⟨#[]⟩ false):=by have Ma1:=trivial;exact lZ
theorem ed_7_2 (op:Int) (_h0:0<=op) (_h8:op < 256) (hx:op / 64=1) (hy:op / 8 % 8=2) (hz:op % 8=7) (w:World):Calls Tryz.prog 120 #[.int .u8 op] w (cS w ⟨#[76,68]⟩ [bV,MH] ⟨#[]⟩ false):=by have Ma2:=trivial;exact lZ
theorem ed_7_3 (op:Int) (_h0:0<=op) (_h8:op < 256) (hx:op / 64=1) (hy:op / 8 % 8=3) (hz:op % 8=7) (w:World):Calls Tryz.prog 120 #[.int .u8 op] w (cS w ⟨#[76,68]⟩ [bV,NE] ⟨#[]⟩ false):=by have Ma3:=trivial;exact lZ
theorem ed_7_4 (op:Int) (_h0:0<=op) (_h8:op < 256) (hx:op / 64=1) (hy:op / 8 % 8=4) (hz:op % 8=7) (w:World):Calls Tryz.prog 120 #[.int .u8 op] w (cS w ⟨#[82,82,68]⟩ [] ⟨#[]⟩ false):=by have Ma4:=trivial;exact lZ
theorem ed_7_5 (op:Int) (_h0:0<=op) (_h8:op < 256) (hx:op / 64=1) (hy:op / 8 % 8=5) (hz:op % 8=7) (w:World):Calls Tryz.prog 120 #[.int .u8 op] w (cS w ⟨#[82,76,68]⟩ [] ⟨#[]⟩ false):=by have Ma5:=trivial;exact lZ
theorem ed_7_6 (op:Int) (_h0:0<=op) (_h8:op < 256) (hx:op / 64=1) (hy:op / 8 % 8=6) (hz:op % 8=7) (w:World):Calls Tryz.prog 120 #[.int .u8 op] w (cS w ⟨#[]⟩ [] ⟨#[]⟩ false):=lZ
theorem ed_7_7 (op:Int) (_h0:0<=op) (_h8:op < 256) (hx:op / 64=1) (hy:op / 8 % 8=7) (hz:op % 8=7) (w:World):Calls Tryz.prog 120 #[.int .u8 op] w (cS w ⟨#[]⟩ [] ⟨#[]⟩ false):=lZ
set_option maxHeartbeats 8000000
def edG (x y z:Int):ByteArray × List Opd × ByteArray × Bool:=(if x=2 then (if z < 4 then (if y < 4 then (⟨#[]⟩,[],⟨#[]⟩,false) else (if y=4 then (if z=0 then (⟨#[76,68,73]⟩,[],⟨#[]⟩,false) else (if z=1 then (⟨#[67,80,73]⟩,[],⟨#[]⟩,false) else (if z=2 then (⟨#[73,78,73]⟩,[],⟨#[]⟩,false) else (⟨#[79,85,84,73]⟩,[],⟨#[]⟩,false)))) else (if y=5 then (if z=0 then (⟨#[76,68,68]⟩,[],⟨#[]⟩,false) else (if z=1 then (⟨#[67,80,68]⟩,[],⟨#[]⟩,false) else (if z=2 then (⟨#[73,78,68]⟩,[],⟨#[]⟩,false) else (⟨#[79,85,84,68]⟩,[],⟨#[]⟩,false)))) else (if y=6 then (if z=0 then (⟨#[76,68,73,82]⟩,[],⟨#[]⟩,false) else (if z=1 then (⟨#[67,80,73,82]⟩,[],⟨#[]⟩,false) else (if z=2 then (⟨#[73,78,73,82]⟩,[],⟨#[]⟩,false) else (⟨#[79,84,73,82]⟩,[],⟨#[]⟩,false)))) else (if z=0 then (⟨#[76,68,68,82]⟩,[],⟨#[]⟩,false) else (if z=1 then (⟨#[67,80,68,82]⟩,[],⟨#[]⟩,false) else (if z=2 then (⟨#[73,78,68,82]⟩,[],⟨#[]⟩,false) else (⟨#[79,84,68,82]⟩,[],⟨#[]⟩,false)))))))) else (⟨#[]⟩,[],⟨#[]⟩,false)) else (if x=1 then (if z=0 then (if y=6 then (⟨#[73,78]⟩,[jF 8],⟨#[]⟩,false) else (⟨#[73,78]⟩,[rF y,jF 8],⟨#[]⟩,false)) else (if z=1 then (if y=6 then (⟨#[79,85,84]⟩,[jF 8,cV 0],⟨#[]⟩,false) else (⟨#[79,85,84]⟩,[jF 8,rF y],⟨#[]⟩,false)) else (if z=2 then (if y % 2=0 then (⟨#[83,66,67]⟩,[rpF 2 3,rpF (y / 2) 3],⟨#[]⟩,false) else (⟨#[65,68,67]⟩,[rpF 2 3,rpF (y / 2) 3],⟨#[]⟩,false)) else (if z=3 then (if y % 2=0 then (if y=4 then (⟨#[76,68]⟩,[fH,rpF 2 3],⟨#[119]⟩,true) else (⟨#[76,68]⟩,[fH,rpF (y / 2) 3],⟨#[119]⟩,false)) else (if y=5 then (⟨#[76,68]⟩,[rpF 2 3,fH],⟨#[119]⟩,true) else (⟨#[76,68]⟩,[rpF (y / 2) 3,fH],⟨#[119]⟩,false))) else (if z=4 then (if y=0 then (⟨#[78,69,71]⟩,[],⟨#[]⟩,false) else (⟨#[78,69,71]⟩,[],⟨#[]⟩,true)) else (if z=5 then (if y=1 then (⟨#[82,69,84,73]⟩,[],⟨#[]⟩,false) else (if y=0 then (⟨#[82,69,84,78]⟩,[],⟨#[]⟩,false) else (⟨#[82,69,84,78]⟩,[],⟨#[]⟩,true))) else (if z=6 then (if y=0 then (⟨#[73,77]⟩,[cV 0],⟨#[]⟩,false) else (if y=1 then (⟨#[73,77]⟩,[cV 0],⟨#[]⟩,true) else (if y=2 then (⟨#[73,77]⟩,[cV 1],⟨#[]⟩,false) else (if y=3 then (⟨#[73,77]⟩,[cV 2],⟨#[]⟩,false) else (if y=4 then (⟨#[73,77]⟩,[cV 0],⟨#[]⟩,true) else (if y=5 then (⟨#[73,77]⟩,[cV 0],⟨#[]⟩,true) else (if y=6 then (⟨#[73,77]⟩,[cV 1],⟨#[]⟩,true) else (⟨#[73,77]⟩,[cV 2],⟨#[]⟩,true)))))))) else (if y=0 then (⟨#[76,68]⟩,[MH,bV],⟨#[]⟩,false) else (if y=1 then (⟨#[76,68]⟩,[NE,bV],⟨#[]⟩,false) else (if y=2 then (⟨#[76,68]⟩,[bV,MH],⟨#[]⟩,false) else (if y=3 then (⟨#[76,68]⟩,[bV,NE],⟨#[]⟩,false) else (if y=4 then (⟨#[82,82,68]⟩,[],⟨#[]⟩,false) else (if y=5 then (⟨#[82,76,68]⟩,[],⟨#[]⟩,false) else (if y=6 then (⟨#[]⟩,[],⟨#[]⟩,false) else (⟨#[]⟩,[],⟨#[]⟩,false))))))))))))))) else (⟨#[]⟩,[],⟨#[]⟩,false)))
def edF (op:Int):ByteArray × List Opd × ByteArray × Bool:=edG (op / 64) (op / 8 % 8) (op % 8)
theorem ZD (op x y z:Int) (h0:0<=op) (h8:op < 256) (hx:op / 64=x) (hy:op / 8 % 8=y) (hz:op % 8=z) (hy0:0<=y) (hy8:y < 8) (hz0:0<=z) (hz8:z < 8) (w:World):
  Calls Tryz.prog 120 #[.int .u8 op] w (cS w (edG x y z).1 (edG x y z).2.1 (edG x y z).2.2.1 (edG x y z).2.2.2):=by
 by_cases q1:x=2\/x=1
 ·have hz2:z=0\/z=1\/z=2\/z=3\/z=4\/z=5\/z=6\/z=7:=by omega
  have hy2:y=0\/y=1\/y=2\/y=3\/y=4\/y=5\/y=6\/y=7:=by omega
  rcases q1 with rfl | rfl
  ·rcases hz2 with rfl | rfl | rfl | rfl | rfl | rfl | rfl | rfl
   ·rcases hy2 with rfl | rfl | rfl | rfl | rfl | rfl | rfl | rfl
    ·exact ed_b_2 op _ _ h0 h8 hy hz (by omega) (by omega) (by omega) (by omega) hx (by omega) (by omega) w
    ·exact ed_b_2 op _ _ h0 h8 hy hz (by omega) (by omega) (by omega) (by omega) hx (by omega) (by omega) w
    ·exact ed_b_2 op _ _ h0 h8 hy hz (by omega) (by omega) (by omega) (by omega) hx (by omega) (by omega) w
    ·exact ed_b_2 op _ _ h0 h8 hy hz (by omega) (by omega) (by omega) (by omega) hx (by omega) (by omega) w
    ·exact VF op h0 h8 hx hy hz w
    ·exact QH op h0 h8 hx hy hz w
    ·exact UE op h0 h8 hx hy hz w
    ·exact UN op h0 h8 hx hy hz w
   ·rcases hy2 with rfl | rfl | rfl | rfl | rfl | rfl | rfl | rfl
    ·exact ed_b_2 op _ _ h0 h8 hy hz (by omega) (by omega) (by omega) (by omega) hx (by omega) (by omega) w
    ·exact ed_b_2 op _ _ h0 h8 hy hz (by omega) (by omega) (by omega) (by omega) hx (by omega) (by omega) w
    ·exact ed_b_2 op _ _ h0 h8 hy hz (by omega) (by omega) (by omega) (by omega) hx (by omega) (by omega) w
    ·exact ed_b_2 op _ _ h0 h8 hy hz (by omega) (by omega) (by omega) (by omega) hx (by omega) (by omega) w
    ·exact SN op h0 h8 hx hy hz w
    ·exact RF op h0 h8 hx hy hz w
    ·exact QY op h0 h8 hx hy hz w
    ·exact WO op h0 h8 hx hy hz w
   ·rcases hy2 with rfl | rfl | rfl | rfl | rfl | rfl | rfl | rfl
    ·exact ed_b_2 op _ _ h0 h8 hy hz (by omega) (by omega) (by omega) (by omega) hx (by omega) (by omega) w
    ·exact ed_b_2 op _ _ h0 h8 hy hz (by omega) (by omega) (by omega) (by omega) hx (by omega) (by omega) w
    ·exact ed_b_2 op _ _ h0 h8 hy hz (by omega) (by omega) (by omega) (by omega) hx (by omega) (by omega) w
    ·exact ed_b_2 op _ _ h0 h8 hy hz (by omega) (by omega) (by omega) (by omega) hx (by omega) (by omega) w
    ·exact TL op h0 h8 hx hy hz w
    ·exact QP op h0 h8 hx hy hz w
    ·exact WQ op h0 h8 hx hy hz w
    ·exact QT op h0 h8 hx hy hz w
   ·rcases hy2 with rfl | rfl | rfl | rfl | rfl | rfl | rfl | rfl
    ·exact ed_b_2 op _ _ h0 h8 hy hz (by omega) (by omega) (by omega) (by omega) hx (by omega) (by omega) w
    ·exact ed_b_2 op _ _ h0 h8 hy hz (by omega) (by omega) (by omega) (by omega) hx (by omega) (by omega) w
    ·exact ed_b_2 op _ _ h0 h8 hy hz (by omega) (by omega) (by omega) (by omega) hx (by omega) (by omega) w
    ·exact ed_b_2 op _ _ h0 h8 hy hz (by omega) (by omega) (by omega) (by omega) hx (by omega) (by omega) w
    ·exact VK op h0 h8 hx hy hz w
    ·exact QC op h0 h8 hx hy hz w
    ·exact TU op h0 h8 hx hy hz w
    ·exact QL op h0 h8 hx hy hz w
   ·rcases hy2 with rfl | rfl | rfl | rfl | rfl | rfl | rfl | rfl<;>exact ed_b_1 op _ _ h0 h8 hy hz (by omega) (by omega) (by omega) (by omega) hx (by omega) w
   ·rcases hy2 with rfl | rfl | rfl | rfl | rfl | rfl | rfl | rfl<;>exact ed_b_1 op _ _ h0 h8 hy hz (by omega) (by omega) (by omega) (by omega) hx (by omega) w
   ·rcases hy2 with rfl | rfl | rfl | rfl | rfl | rfl | rfl | rfl<;>exact ed_b_1 op _ _ h0 h8 hy hz (by omega) (by omega) (by omega) (by omega) hx (by omega) w
   ·rcases hy2 with rfl | rfl | rfl | rfl | rfl | rfl | rfl | rfl<;>exact ed_b_1 op _ _ h0 h8 hy hz (by omega) (by omega) (by omega) (by omega) hx (by omega) w
  ·rcases hz2 with rfl | rfl | rfl | rfl | rfl | rfl | rfl | rfl
   ·rcases hy2 with rfl | rfl | rfl | rfl | rfl | rfl | rfl | rfl
    ·exact ed_0b op _ _ h0 h8 hy hz (by omega) (by omega) (by omega) (by omega) hx rfl (by omega) w
    ·exact ed_0b op _ _ h0 h8 hy hz (by omega) (by omega) (by omega) (by omega) hx rfl (by omega) w
    ·exact ed_0b op _ _ h0 h8 hy hz (by omega) (by omega) (by omega) (by omega) hx rfl (by omega) w
    ·exact ed_0b op _ _ h0 h8 hy hz (by omega) (by omega) (by omega) (by omega) hx rfl (by omega) w
    ·exact ed_0b op _ _ h0 h8 hy hz (by omega) (by omega) (by omega) (by omega) hx rfl (by omega) w
    ·exact ed_0b op _ _ h0 h8 hy hz (by omega) (by omega) (by omega) (by omega) hx rfl (by omega) w
    ·exact ed_0a op _ _ h0 h8 hy hz (by omega) (by omega) (by omega) (by omega) hx rfl rfl w
    ·exact ed_0b op _ _ h0 h8 hy hz (by omega) (by omega) (by omega) (by omega) hx rfl (by omega) w
   ·rcases hy2 with rfl | rfl | rfl | rfl | rfl | rfl | rfl | rfl
    ·exact ed_1b op _ _ h0 h8 hy hz (by omega) (by omega) (by omega) (by omega) hx rfl (by omega) w
    ·exact ed_1b op _ _ h0 h8 hy hz (by omega) (by omega) (by omega) (by omega) hx rfl (by omega) w
    ·exact ed_1b op _ _ h0 h8 hy hz (by omega) (by omega) (by omega) (by omega) hx rfl (by omega) w
    ·exact ed_1b op _ _ h0 h8 hy hz (by omega) (by omega) (by omega) (by omega) hx rfl (by omega) w
    ·exact ed_1b op _ _ h0 h8 hy hz (by omega) (by omega) (by omega) (by omega) hx rfl (by omega) w
    ·exact ed_1b op _ _ h0 h8 hy hz (by omega) (by omega) (by omega) (by omega) hx rfl (by omega) w
    ·exact ed_1a op _ _ h0 h8 hy hz (by omega) (by omega) (by omega) (by omega) hx rfl rfl w
    ·exact ed_1b op _ _ h0 h8 hy hz (by omega) (by omega) (by omega) (by omega) hx rfl (by omega) w
   ·rcases hy2 with rfl | rfl | rfl | rfl | rfl | rfl | rfl | rfl
    ·exact ed_2_0 op _ _ h0 h8 hy hz (by omega) (by omega) (by omega) (by omega) hx rfl (by omega) w
    ·exact ed_2_1 op _ _ h0 h8 hy hz (by omega) (by omega) (by omega) (by omega) hx rfl (by omega) w
    ·exact ed_2_0 op _ _ h0 h8 hy hz (by omega) (by omega) (by omega) (by omega) hx rfl (by omega) w
    ·exact ed_2_1 op _ _ h0 h8 hy hz (by omega) (by omega) (by omega) (by omega) hx rfl (by omega) w
    ·exact ed_2_0 op _ _ h0 h8 hy hz (by omega) (by omega) (by omega) (by omega) hx rfl (by omega) w
    ·exact ed_2_1 op _ _ h0 h8 hy hz (by omega) (by omega) (by omega) (by omega) hx rfl (by omega) w
    ·exact ed_2_0 op _ _ h0 h8 hy hz (by omega) (by omega) (by omega) (by omega) hx rfl (by omega) w
    ·exact ed_2_1 op _ _ h0 h8 hy hz (by omega) (by omega) (by omega) (by omega) hx rfl (by omega) w
   ·rcases hy2 with rfl | rfl | rfl | rfl | rfl | rfl | rfl | rfl
    ·exact XW op _ _ h0 h8 hy hz (by omega) (by omega) (by omega) (by omega) hx rfl (by omega) (by rw [yW];omega) w
    ·exact XR op _ _ h0 h8 hy hz (by omega) (by omega) (by omega) (by omega) hx rfl (by omega) (by rw [yW];omega) w
    ·exact XW op _ _ h0 h8 hy hz (by omega) (by omega) (by omega) (by omega) hx rfl (by omega) (by rw [yW];omega) w
    ·exact XR op _ _ h0 h8 hy hz (by omega) (by omega) (by omega) (by omega) hx rfl (by omega) (by rw [yW];omega) w
    ·exact ed_3_0t op h0 h8 hx hy hz w
    ·exact YJ op h0 h8 hx hy hz w
    ·exact XW op _ _ h0 h8 hy hz (by omega) (by omega) (by omega) (by omega) hx rfl (by omega) (by rw [yW];omega) w
    ·exact XR op _ _ h0 h8 hy hz (by omega) (by omega) (by omega) (by omega) hx rfl (by omega) (by rw [yW];omega) w
   ·rcases hy2 with rfl | rfl | rfl | rfl | rfl | rfl | rfl | rfl
    ·exact ed_4b op _ _ h0 h8 hy hz (by omega) (by omega) (by omega) (by omega) hx rfl rfl w
    ·exact ed_4a op _ _ h0 h8 hy hz (by omega) (by omega) (by omega) (by omega) hx rfl (by omega) w
    ·exact ed_4a op _ _ h0 h8 hy hz (by omega) (by omega) (by omega) (by omega) hx rfl (by omega) w
    ·exact ed_4a op _ _ h0 h8 hy hz (by omega) (by omega) (by omega) (by omega) hx rfl (by omega) w
    ·exact ed_4a op _ _ h0 h8 hy hz (by omega) (by omega) (by omega) (by omega) hx rfl (by omega) w
    ·exact ed_4a op _ _ h0 h8 hy hz (by omega) (by omega) (by omega) (by omega) hx rfl (by omega) w
    ·exact ed_4a op _ _ h0 h8 hy hz (by omega) (by omega) (by omega) (by omega) hx rfl (by omega) w
    ·exact ed_4a op _ _ h0 h8 hy hz (by omega) (by omega) (by omega) (by omega) hx rfl (by omega) w
   ·rcases hy2 with rfl | rfl | rfl | rfl | rfl | rfl | rfl | rfl
    ·exact ed_5c op _ _ h0 h8 hy hz (by omega) (by omega) (by omega) (by omega) hx rfl rfl w
    ·exact ed_5a op _ _ h0 h8 hy hz (by omega) (by omega) (by omega) (by omega) hx rfl rfl w
    ·exact ed_5b op _ _ h0 h8 hy hz (by omega) (by omega) (by omega) (by omega) hx rfl (by omega) (by omega) w
    ·exact ed_5b op _ _ h0 h8 hy hz (by omega) (by omega) (by omega) (by omega) hx rfl (by omega) (by omega) w
    ·exact ed_5b op _ _ h0 h8 hy hz (by omega) (by omega) (by omega) (by omega) hx rfl (by omega) (by omega) w
    ·exact ed_5b op _ _ h0 h8 hy hz (by omega) (by omega) (by omega) (by omega) hx rfl (by omega) (by omega) w
    ·exact ed_5b op _ _ h0 h8 hy hz (by omega) (by omega) (by omega) (by omega) hx rfl (by omega) (by omega) w
    ·exact ed_5b op _ _ h0 h8 hy hz (by omega) (by omega) (by omega) (by omega) hx rfl (by omega) (by omega) w
   ·rcases hy2 with rfl | rfl | rfl | rfl | rfl | rfl | rfl | rfl
    ·exact ed_6_0 op h0 h8 hx hy hz w
    ·exact ed_6_1 op h0 h8 hx hy hz w
    ·exact ed_6_2 op h0 h8 hx hy hz w
    ·exact ed_6_3 op h0 h8 hx hy hz w
    ·exact ed_6_4 op h0 h8 hx hy hz w
    ·exact ed_6_5 op h0 h8 hx hy hz w
    ·exact ed_6_6 op h0 h8 hx hy hz w
    ·exact ed_6_7 op h0 h8 hx hy hz w
   ·rcases hy2 with rfl | rfl | rfl | rfl | rfl | rfl | rfl | rfl
    ·exact ed_7_0 op h0 h8 hx hy hz w
    ·exact ed_7_1 op h0 h8 hx hy hz w
    ·exact ed_7_2 op h0 h8 hx hy hz w
    ·exact ed_7_3 op h0 h8 hx hy hz w
    ·exact ed_7_4 op h0 h8 hx hy hz w
    ·exact ed_7_5 op h0 h8 hx hy hz w
    ·exact ed_7_6 op h0 h8 hx hy hz w
    ·exact ed_7_7 op h0 h8 hx hy hz w
 ·skip;have e:edG x y z=(⟨#[]⟩,[],⟨#[]⟩,false):=by unfold edG;rw [if_neg (show ¬(x=2) by omega),if_neg (show ¬(x=1) by omega)]
  rw [e];exact ed_b_0 op y z h0 h8 hy hz (by omega) (by omega) (by omega) (by omega) x hx (by omega) (by omega) w
theorem JN (op:Int) (h0:0<=op) (h8:op < 256) (w:World):Calls Tryz.prog 120 #[.int .u8 op] w (cS w (edF op).1 (edF op).2.1 (edF op).2.2.1 (edF op).2.2.2):=ZD op _ _ _ h0 h8 rfl rfl rfl (by omega) (by omega) (by omega) (by omega) w
end Go.Proofs.YtpigbggoiipmhaaGreatDoor
