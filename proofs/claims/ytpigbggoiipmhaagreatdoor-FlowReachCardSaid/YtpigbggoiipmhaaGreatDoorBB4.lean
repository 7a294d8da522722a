/-
  The reference's instructions of x = 3 and z = 3. The reference's instructions of x = 0 and x = 3, joined. The reference's instruction of an opcode without prefix. Conditions: the bits; the opcode is a byte.
-/
import Derived.Test.YtpigbggoiipmhaaGreatDoorBB3
namespace Go.Proofs.YtpigbggoiipmhaaGreatDoor
set_option maxHeartbeats 4000000
set_option maxRecDepth 100000
open Go.RowKit Go.Shelf Go.Sort
theorem rC {P:Prop} (h:P:=by
  have H0:=aA ((Fr.start w).new' 30 #[.string ⟨#[]⟩,.slice none 0 0] rfl);go_enter Tryz.func169,Tryz.ntmps169;go_wp2_with fail;refine (dT _ _ _).mono ?_;rintro e w1 ⟨o1,rfl,hb⟩;have LT1:=aA (((H0.out.next hb).blk 0 rfl).lt);have H:=aA ((H0.out.next hb).new' 52 #[.int .i64 o1.kind,.int .i64 o1.reg,.int .i64 o1.n] rfl);obtain ⟨f0,f1,f2,x0,x1,x2⟩:=(H.out.blk 0 rfl).three;obtain ⟨e0,e1,d0,d1⟩:=(H.out.blk 1 rfl).two;clear hb;go_upto_region 13 with fail;have HM:=aA (Fo.nil w.heap.size _:Fo w.heap.size [] (w1.alloc (.cells #[.int .i64 o1.kind,.int .i64 o1.reg,.int .i64 o1.n] 52)).drew);have Hn:=aA H.out.drew;clear H;have H:=Hn;clear Hn;obtain ⟨f0,f1,f2,_,_,_⟩:=(H.out.blk 0 rfl).three;have n1:¬w1.heap.size=w.heap.size:=by have:=LT1.out;omega
  have n2:¬w.heap.size=w1.heap.size:=λe=>n1 e.symm;go_region_held3 (λw'=>w'.cell? ⟨w1.heap.size,0,none⟩=some (.int .i64 o1.kind)/\w'.cell? ⟨w1.heap.size,1,none⟩=some (.int .i64 o1.reg)/\w'.cell? ⟨w1.heap.size,2,none⟩=some (.int .i64 o1.n)) (go_keep)
   (first
    | (go_at_call 172;refine (cY _ _ _).mono ?_;rintro e w' ⟨rfl,hb⟩;clear f0 f1 f2;have Hn:=aA (H.out.next hb);have HMn:=aA (HM.out.next hb);clear H HM hb;have H:=Hn;have HM:=HMn;clear Hn HMn;obtain ⟨f0,f1,f2,_,_,_⟩:=(H.out.blk 0 rfl).three)
    | (go_at_call 171;refine (fK _ _).mono ?_;rintro e w' ⟨rfl,hb⟩;clear f0 f1 f2;have Hn:=aA (H.out.next hb);have HMn:=aA (HM.out.next hb);clear H HM hb;have H:=Hn;have HM:=HMn;clear Hn HMn;obtain ⟨f0,f1,f2,_,_,_⟩:=(H.out.blk 0 rfl).three)
    | (go_at_call 174;refine (iK _).mono ?_;rintro e w' ⟨rfl,hb⟩;clear f0 f1 f2;have Hn:=aA (H.out.next hb);have HMn:=aA (HM.out.next hb);clear H HM hb;have H:=Hn;have HM:=HMn;clear Hn HMn;obtain ⟨f0,f1,f2,_,_,_⟩:=(H.out.blk 0 rfl).three)
    | (go_at_call 173;refine (gM _ _).mono ?_;rintro e w' ⟨rfl,hb⟩;clear f0 f1 f2;have Hn:=aA (H.out.next hb);have HMn:=aA (HM.out.next hb);clear H HM hb;have H:=Hn;have HM:=HMn;clear Hn HMn;obtain ⟨f0,f1,f2,_,_,_⟩:=(H.out.blk 0 rfl).three)
    | (go_at_call 175;refine (gO _).mono ?_;rintro e w' ⟨rfl,hb⟩;clear f0 f1 f2;have Hn:=aA (H.out.next hb);have HMn:=aA (HM.out.next hb);clear H HM hb;have H:=Hn;have HM:=HMn;clear Hn HMn;obtain ⟨f0,f1,f2,_,_,_⟩:=(H.out.blk 0 rfl).three)
    | (go_at_call 170;refine (fC _ _).mono ?_;rintro e w' ⟨v,rfl,ho,hb⟩;obtain ⟨va,vc,rfl⟩:=ho.form;clear f0 f1 f2;have HMn:=aA ((HM.out.next hb).add (ho.mono (r:=λk=>w.heap.size < k) (λk hk=>vB (H.out.blk 1 rfl).lt hk)));have Hn:=aA (H.out.next hb);clear H HM ho hb;have H:=Hn;have HM:=HMn;clear Hn HMn;obtain ⟨f0,f1,f2,_,_,_⟩:=(H.out.blk 0 rfl).three)
    | (go_at_call 167;refine (cC _ _ _).mono ?_;rintro e w' ⟨v,rfl,ho,hb⟩;obtain ⟨va,vc,rfl⟩:=ho.form;clear f0 f1 f2;have HMn:=aA ((HM.out.next hb).add (ho.mono (r:=λk=>w.heap.size < k) (λk hk=>vB (H.out.blk 1 rfl).lt hk)));have Hn:=aA (H.out.next hb);clear H HM ho hb;have H:=Hn;have HM:=HMn;clear Hn HMn;obtain ⟨f0,f1,f2,_,_,_⟩:=(H.out.blk 0 rfl).three)
    | (go_at_call 166;with_reducible refine (aO _ none 0 0 _ (aV _ (λk=>w.heap.size < k))).mono ?_;rintro e w' ⟨rfl,ho,hb⟩;clear f0 f1 f2;clear ho;have Hn:=aA (H.out.next hb);have HMn:=aA (HM.out.next hb);clear H HM hb;have H:=Hn;have HM:=HMn;clear Hn HMn;obtain ⟨f0,f1,f2,_,_,_⟩:=(H.out.blk 0 rfl).three)
    | (go_at_call 166;with_reducible refine (aO _ _ _ _ _ (HM.out.get 0 rfl)).mono ?_;rintro e w' ⟨rfl,ho,hb⟩;clear f0 f1 f2;clear ho;have Hn:=aA (H.out.next hb);have HMn:=aA (HM.out.next hb);clear H HM hb;have H:=Hn;have HM:=HMn;clear Hn HMn;obtain ⟨f0,f1,f2,_,_,_⟩:=(H.out.blk 0 rfl).three))
  clear f0 f1 f2;go_wp2;have n3:=(H.out.blk 1 rfl).lt;obtain ⟨e0,e1,d0,d1⟩:=(H.out.blk 1 rfl).two;go_region;all_goals go_wp2
  all_goals have n3:=(H.out.blk 1 rfl).lt
  first
   | ((have _:=Ma0);(all_goals have HV:aD w' (λk=>w.heap.size < k) (.slice _ 1 _) [cV 0]:=(HM.out.get 4 rfl));(all_goals obtain ⟨h1,h2⟩:=cM (x:=.string ⟨#[74,80]⟩) H.out.below HV (λk hk=>hk) (zI _)))
   | ((have _:=Ma1);(all_goals have HV:aD w' (λk=>w.heap.size < k) (.slice _ 0 _) []:=(aV _ (λk=>w.heap.size < k)));(all_goals obtain ⟨h1,h2⟩:=cM (x:=.string ⟨#[]⟩) H.out.below HV (λk hk=>hk) (zI _)))
   | ((have _:=Ma2);(all_goals have HV:aD w' (λk=>w.heap.size < k) (.slice _ 2 _) [fH,bV]:=(HM.out.get 3 rfl));(all_goals obtain ⟨h1,h2⟩:=cM (x:=.string ⟨#[79,85,84]⟩) H.out.below HV (λk hk=>hk) (zI _)))
   | ((have _:=Ma3);(all_goals have HV:aD w' (λk=>w.heap.size < k) (.slice _ 2 _) [bV,fH]:=(HM.out.get 2 rfl));(all_goals obtain ⟨h1,h2⟩:=cM (x:=.string ⟨#[73,78]⟩) H.out.below HV (λk hk=>hk) (zI _)))
   | ((have _:=Ma4);(all_goals have HV:aD w' (λk=>w.heap.size < k) (.slice _ 0 _) []:=(aV _ (λk=>w.heap.size < k)));(all_goals obtain ⟨h1,h2⟩:=cM (x:=.string ⟨#[68,73]⟩) H.out.below HV (λk hk=>hk) (zI _)))
   | ((all_goals have HV:aD w' (λk=>w.heap.size < k) (.slice _ 0 _) []:=(aV _ (λk=>w.heap.size < k)));(all_goals obtain ⟨h1,h2⟩:=cM (x:=.string ⟨#[69,73]⟩) H.out.below HV (λk hk=>hk) (zI _)))
  all_goals refine yR (aN rfl rfl (((((H.out.blk 1 rfl).set 0 _).set 1 _).alloc _).alloc _).drew) rfl ⟨_,rfl,h1.below ?_,?_⟩
  all_goals (repeat' (first | (with_reducible exact zY _ _) | (with_reducible assumption) | (with_reducible refine Below.alloc ?_ ?_ _) | (with_reducible refine Below.drew ?_) | (with_reducible refine Below.setCell ?_ ?_ _) | (with_reducible exact zI _) | omega | (simp;done) | (simp;omega)))):P:=h
theorem QK (w:World):Calls Tryz.prog 169 #[.int .i64 0,.int .i64 3] w (cL w ⟨#[74,80]⟩ [cV 0] ⟨#[119]⟩):=by have Ma0:=trivial;exact rC
theorem TZ (w:World):Calls Tryz.prog 169 #[.int .i64 1,.int .i64 3] w (cL w ⟨#[]⟩ [] ⟨#[]⟩):=by have Ma1:=trivial;exact rC
theorem RN (w:World):Calls Tryz.prog 169 #[.int .i64 2,.int .i64 3] w (cL w ⟨#[79,85,84]⟩ [fH,bV] ⟨#[110]⟩):=by have Ma2:=trivial;exact rC
theorem SF (w:World):Calls Tryz.prog 169 #[.int .i64 3,.int .i64 3] w (cL w ⟨#[73,78]⟩ [bV,fH] ⟨#[110]⟩):=by have Ma3:=trivial;exact rC
theorem US {P:Prop} (h:P:=by
  have H0:=aA ((Fr.start w).new' 30 #[.string ⟨#[]⟩,.slice none 0 0] rfl);go_enter Tryz.func169,Tryz.ntmps169;go_wp2_with fail;refine (cY 2 3 _).mono ?_;rintro e w1 ⟨rfl,hb⟩;have LT1:=aA (((H0.out.next hb).blk 0 rfl).lt);have H:=aA ((H0.out.next hb).new' 52 #[.int .i64 (rpF 2 3).kind,.int .i64 (rpF 2 3).reg,.int .i64 (rpF 2 3).n] rfl);obtain ⟨f0,f1,f2,x0,x1,x2⟩:=(H.out.blk 0 rfl).three;obtain ⟨e0,e1,d0,d1⟩:=(H.out.blk 1 rfl).two;clear hb;go_upto_region 13 with fail;have HM:=aA (Fo.nil w.heap.size _:Fo w.heap.size [] (w1.alloc (.cells #[.int .i64 (rpF 2 3).kind,.int .i64 (rpF 2 3).reg,.int .i64 (rpF 2 3).n] 52)).drew);have Hn:=aA H.out.drew;clear H;have H:=Hn;clear Hn;obtain ⟨f0,f1,f2,_,_,_⟩:=(H.out.blk 0 rfl).three;have n1:¬w1.heap.size=w.heap.size:=by have:=LT1.out;omega
  have n2:¬w.heap.size=w1.heap.size:=λe=>n1 e.symm;go_region_held3 (λw'=>w'.cell? ⟨w1.heap.size,0,none⟩=some (.int .i64 (rpF 2 3).kind)/\w'.cell? ⟨w1.heap.size,1,none⟩=some (.int .i64 (rpF 2 3).reg)/\w'.cell? ⟨w1.heap.size,2,none⟩=some (.int .i64 (rpF 2 3).n)) (go_keep)
   (first
    | (go_at_call 172;refine (cY _ _ _).mono ?_;rintro e w' ⟨rfl,hb⟩;clear f0 f1 f2;have Hn:=aA (H.out.next hb);have HMn:=aA (HM.out.next hb);clear H HM hb;have H:=Hn;have HM:=HMn;clear Hn HMn;obtain ⟨f0,f1,f2,_,_,_⟩:=(H.out.blk 0 rfl).three)
    | (go_at_call 171;refine (fK _ _).mono ?_;rintro e w' ⟨rfl,hb⟩;clear f0 f1 f2;have Hn:=aA (H.out.next hb);have HMn:=aA (HM.out.next hb);clear H HM hb;have H:=Hn;have HM:=HMn;clear Hn HMn;obtain ⟨f0,f1,f2,_,_,_⟩:=(H.out.blk 0 rfl).three)
    | (go_at_call 174;refine (iK _).mono ?_;rintro e w' ⟨rfl,hb⟩;clear f0 f1 f2;have Hn:=aA (H.out.next hb);have HMn:=aA (HM.out.next hb);clear H HM hb;have H:=Hn;have HM:=HMn;clear Hn HMn;obtain ⟨f0,f1,f2,_,_,_⟩:=(H.out.blk 0 rfl).three)
    | (go_at_call 173;refine (gM _ _).mono ?_;rintro e w' ⟨rfl,hb⟩;clear f0 f1 f2;have Hn:=aA (H.out.next hb);have HMn:=aA (HM.out.next hb);clear H HM hb;have H:=Hn;have HM:=HMn;clear Hn HMn;obtain ⟨f0,f1,f2,_,_,_⟩:=(H.out.blk 0 rfl).three)
    | (go_at_call 175;refine (gO _).mono ?_;rintro e w' ⟨rfl,hb⟩;clear f0 f1 f2;have Hn:=aA (H.out.next hb);have HMn:=aA (HM.out.next hb);clear H HM hb;have H:=Hn;have HM:=HMn;clear Hn HMn;obtain ⟨f0,f1,f2,_,_,_⟩:=(H.out.blk 0 rfl).three)
    | (go_at_call 170;refine (fC _ _).mono ?_;rintro e w' ⟨v,rfl,ho,hb⟩;obtain ⟨va,vc,rfl⟩:=ho.form;clear f0 f1 f2;have HMn:=aA ((HM.out.next hb).add (ho.mono (r:=λk=>w.heap.size < k) (λk hk=>vB (H.out.blk 1 rfl).lt hk)));have Hn:=aA (H.out.next hb);clear H HM ho hb;have H:=Hn;have HM:=HMn;clear Hn HMn;obtain ⟨f0,f1,f2,_,_,_⟩:=(H.out.blk 0 rfl).three)
    | (go_at_call 167;refine (cC _ _ _).mono ?_;rintro e w' ⟨v,rfl,ho,hb⟩;obtain ⟨va,vc,rfl⟩:=ho.form;clear f0 f1 f2;have HMn:=aA ((HM.out.next hb).add (ho.mono (r:=λk=>w.heap.size < k) (λk hk=>vB (H.out.blk 1 rfl).lt hk)));have Hn:=aA (H.out.next hb);clear H HM ho hb;have H:=Hn;have HM:=HMn;clear Hn HMn;obtain ⟨f0,f1,f2,_,_,_⟩:=(H.out.blk 0 rfl).three)
    | (go_at_call 166;with_reducible refine (aO _ none 0 0 _ (aV _ (λk=>w.heap.size < k))).mono ?_;rintro e w' ⟨rfl,ho,hb⟩;clear f0 f1 f2;clear ho;have Hn:=aA (H.out.next hb);have HMn:=aA (HM.out.next hb);clear H HM hb;have H:=Hn;have HM:=HMn;clear Hn HMn;obtain ⟨f0,f1,f2,_,_,_⟩:=(H.out.blk 0 rfl).three)
    | (go_at_call 166;with_reducible refine (aO _ _ _ _ _ (HM.out.get 0 rfl)).mono ?_;rintro e w' ⟨rfl,ho,hb⟩;clear f0 f1 f2;clear ho;have Hn:=aA (H.out.next hb);have HMn:=aA (HM.out.next hb);clear H HM hb;have H:=Hn;have HM:=HMn;clear Hn HMn;obtain ⟨f0,f1,f2,_,_,_⟩:=(H.out.blk 0 rfl).three))
  clear f0 f1 f2;go_wp2;have n3:=(H.out.blk 1 rfl).lt;obtain ⟨e0,e1,d0,d1⟩:=(H.out.blk 1 rfl).two;go_region;all_goals go_wp2
  all_goals have n3:=(H.out.blk 1 rfl).lt
  first
   | ((have _:=Ma0);(all_goals have HV:aD w' (λk=>w.heap.size < k) (.slice _ 2 _) [jF 3,rpF 2 3]:=(HM.out.get 1 rfl)))
   | (all_goals have HV:aD w' (λk=>w.heap.size < k) (.slice _ 2 _) [rpF 1 3,rpF 2 3]:=(HM.out.get 0 rfl))
  all_goals obtain ⟨h1,h2⟩:=cM (x:=.string ⟨#[69,88]⟩) H.out.below HV (λk hk=>hk) (zI _)
  all_goals refine yR (aN rfl rfl (((((H.out.blk 1 rfl).set 0 _).set 1 _).alloc _).alloc _).drew) rfl ⟨_,rfl,h1.below ?_,?_⟩
  all_goals (repeat' (first | (with_reducible exact zY _ _) | (with_reducible assumption) | (with_reducible refine Below.alloc ?_ ?_ _) | (with_reducible refine Below.drew ?_) | (with_reducible refine Below.setCell ?_ ?_ _) | (with_reducible exact zI _) | omega | (simp;done) | (simp;omega)))):P:=h
theorem QM (w:World):Calls Tryz.prog 169 #[.int .i64 4,.int .i64 3] w (cL w ⟨#[69,88]⟩ [jF 3,rpF 2 3] ⟨#[]⟩):=by have Ma0:=trivial;exact US
theorem RH (w:World):Calls Tryz.prog 169 #[.int .i64 5,.int .i64 3] w (cL w ⟨#[69,88]⟩ [rpF 1 3,rpF 2 3] ⟨#[]⟩):=US
theorem VS (w:World):Calls Tryz.prog 169 #[.int .i64 6,.int .i64 3] w (cL w ⟨#[68,73]⟩ [] ⟨#[]⟩):=by have Ma4:=trivial;exact rC
theorem RI (w:World):Calls Tryz.prog 169 #[.int .i64 7,.int .i64 3] w (cL w ⟨#[69,73]⟩ [] ⟨#[]⟩):=rC
def tT (y z:Int):ByteArray × List Opd × ByteArray:=
 if z=0 then (if y=0 then (⟨#[78,79,80]⟩,[],⟨#[]⟩) else (if y=1 then (⟨#[69,88]⟩,[rpF 3 4,rpF 3 7],⟨#[]⟩) else (if y=2 then (⟨#[68,74,78,90]⟩,[CY],⟨#[101]⟩) else (if y=3 then (⟨#[74,82]⟩,[CY],⟨#[101]⟩) else (⟨#[74,82]⟩,[ccO (y - 4),CY],⟨#[101]⟩))))) else
 if z=1 then (if y % 2=0 then (⟨#[76,68]⟩,[rpF (y / 2) 3,cV 0],⟨#[119]⟩) else (⟨#[65,68,68]⟩,[rpF 2 3,rpF (y / 2) 3],⟨#[]⟩)) else
 if z=2 then (if y % 2=0 then (if y < 4 then (⟨#[76,68]⟩,[jF (y / 2),bV],⟨#[]⟩) else (if y < 6 then (⟨#[76,68]⟩,[fH,rpF 2 3],⟨#[119]⟩) else (⟨#[76,68]⟩,[fH,bV],⟨#[119]⟩))) else (if y < 4 then (⟨#[76,68]⟩,[bV,jF (y / 2)],⟨#[]⟩) else (if y < 6 then (⟨#[76,68]⟩,[rpF 2 3,fH],⟨#[119]⟩) else (⟨#[76,68]⟩,[bV,fH],⟨#[119]⟩)))) else
 if z=3 then (if y % 2=0 then (⟨#[73,78,67]⟩,[rpF (y / 2) 3],⟨#[]⟩) else (⟨#[68,69,67]⟩,[rpF (y / 2) 3],⟨#[]⟩)) else
 if z=4 then (⟨#[73,78,67]⟩,[rF y],⟨#[]⟩) else
 if z=5 then (⟨#[68,69,67]⟩,[rF y],⟨#[]⟩) else
 if z=6 then (⟨#[76,68]⟩,[rF y,cV 0],⟨#[110]⟩) else
 (if y=0 then (⟨#[82,76,67,65]⟩,[],⟨#[]⟩) else (if y=1 then (⟨#[82,82,67,65]⟩,[],⟨#[]⟩) else (if y=2 then (⟨#[82,76,65]⟩,[],⟨#[]⟩) else (if y=3 then (⟨#[82,82,65]⟩,[],⟨#[]⟩) else (if y=4 then (⟨#[68,65,65]⟩,[],⟨#[]⟩) else (if y=5 then (⟨#[67,80,76]⟩,[],⟨#[]⟩) else (if y=6 then (⟨#[83,67,70]⟩,[],⟨#[]⟩) else (⟨#[67,67,70]⟩,[],⟨#[]⟩))))))))
theorem ZW (y z:Int) (hy0:0<=y) (hy8:y < 8) (hz0:0<=z) (hz8:z < 8) (w:World):Calls Tryz.prog 165 #[.int .i64 y,.int .i64 z] w (cL w (tT y z).1 (tT y z).2.1 (tT y z).2.2):=by
 have hz:z=0\/z=1\/z=2\/z=3\/z=4\/z=5\/z=6\/z=7:=by omega
 have hy:y=0\/y=1\/y=2\/y=3\/y=4\/y=5\/y=6\/y=7:=by omega
 rcases hz with rfl | rfl | rfl | rfl | rfl | rfl | rfl | rfl
 ·rcases hy with rfl | rfl | rfl | rfl | rfl | rfl | rfl | rfl
  ·exact YR w
  ·exact ZJ w
  ·exact low_0_2 w
  ·exact low_0_3 w
  ·exact ZE _ (by omega) (by omega) w
  ·exact ZE _ (by omega) (by omega) w
  ·exact ZE _ (by omega) (by omega) w
  ·exact ZE _ (by omega) (by omega) w
 ·rcases hy with rfl | rfl | rfl | rfl | rfl | rfl | rfl | rfl
  ·exact ZC _ (by omega) (by omega) (by omega) w
  ·exact low_1_1 _ (by omega) (by omega) (by omega) w
  ·exact ZC _ (by omega) (by omega) (by omega) w
  ·exact low_1_1 _ (by omega) (by omega) (by omega) w
  ·exact ZC _ (by omega) (by omega) (by omega) w
  ·exact low_1_1 _ (by omega) (by omega) (by omega) w
  ·exact ZC _ (by omega) (by omega) (by omega) w
  ·exact low_1_1 _ (by omega) (by omega) (by omega) w
 ·rcases hy with rfl | rfl | rfl | rfl | rfl | rfl | rfl | rfl
  ·exact UL _ (by omega) (by omega) (by omega) w
  ·exact UJ _ (by omega) (by omega) (by omega) w
  ·exact UL _ (by omega) (by omega) (by omega) w
  ·exact UJ _ (by omega) (by omega) (by omega) w
  ·exact VI _ (by omega) (by omega) (by omega) w
  ·exact WL _ (by omega) (by omega) (by omega) w
  ·exact UY _ (by omega) (by omega) (by omega) w
  ·exact VP _ (by omega) (by omega) (by omega) w
 ·rcases hy with rfl | rfl | rfl | rfl | rfl | rfl | rfl | rfl
  ·exact YU _ (by omega) (by omega) (by omega) w
  ·exact YP _ (by omega) (by omega) (by omega) w
  ·exact YU _ (by omega) (by omega) (by omega) w
  ·exact YP _ (by omega) (by omega) (by omega) w
  ·exact YU _ (by omega) (by omega) (by omega) w
  ·exact YP _ (by omega) (by omega) (by omega) w
  ·exact YU _ (by omega) (by omega) (by omega) w
  ·exact YP _ (by omega) (by omega) (by omega) w
 ·rcases hy with rfl | rfl | rfl | rfl | rfl | rfl | rfl | rfl<;>exact low_4 _ (by omega) (by omega) w
 ·rcases hy with rfl | rfl | rfl | rfl | rfl | rfl | rfl | rfl<;>exact low_5 _ (by omega) (by omega) w
 ·rcases hy with rfl | rfl | rfl | rfl | rfl | rfl | rfl | rfl<;>exact low_6 _ (by omega) (by omega) w
 ·rcases hy with rfl | rfl | rfl | rfl | rfl | rfl | rfl | rfl
  ·exact low_7_0 w
  ·exact low_7_1 w
  ·exact XU w
  ·exact low_7_3 w
  ·exact XV w
  ·exact low_7_5 w
  ·exact low_7_6 w
  ·exact YM w
def lU (y z:Int):ByteArray × List Opd × ByteArray:=
 if z=0 then (⟨#[82,69,84]⟩,[ccO y],⟨#[]⟩) else
 if z=1 then (if y % 2=0 then (⟨#[80,79,80]⟩,[rpF (y / 2) 4],⟨#[]⟩) else (if y=1 then (⟨#[82,69,84]⟩,[],⟨#[]⟩) else (if y=3 then (⟨#[69,88,88]⟩,[],⟨#[]⟩) else (if y=5 then (⟨#[74,80]⟩,[jF 2],⟨#[]⟩) else (⟨#[76,68]⟩,[rpF 3 3,rpF 2 3],⟨#[]⟩))))) else
 if z=2 then (⟨#[74,80]⟩,[ccO y,cV 0],⟨#[119]⟩) else
 if z=3 then (if y=0 then (⟨#[74,80]⟩,[cV 0],⟨#[119]⟩) else (if y=1 then (⟨#[]⟩,[],⟨#[]⟩) else (if y=2 then (⟨#[79,85,84]⟩,[fH,bV],⟨#[110]⟩) else (if y=3 then (⟨#[73,78]⟩,[bV,fH],⟨#[110]⟩) else (if y=4 then (⟨#[69,88]⟩,[jF 3,rpF 2 3],⟨#[]⟩) else (if y=5 then (⟨#[69,88]⟩,[rpF 1 3,rpF 2 3],⟨#[]⟩) else (if y=6 then (⟨#[68,73]⟩,[],⟨#[]⟩) else (⟨#[69,73]⟩,[],⟨#[]⟩)))))))) else
 if z=4 then (⟨#[67,65,76,76]⟩,[ccO y,cV 0],⟨#[119]⟩) else
 if z=5 then (if y % 2=0 then (⟨#[80,85,83,72]⟩,[rpF (y / 2) 4],⟨#[]⟩) else (if y=1 then (⟨#[67,65,76,76]⟩,[cV 0],⟨#[119]⟩) else (⟨#[]⟩,[],⟨#[]⟩))) else
 if z=6 then ((mV y).1,(if (mV y).2 then [bV,cV 0] else [cV 0]),⟨#[110]⟩) else
 (⟨#[82,83,84]⟩,[cV (8 * y)],⟨#[]⟩)
theorem SW (y z:Int) (hy0:0<=y) (hy8:y < 8) (hz0:0<=z) (hz8:z < 8) (w:World):Calls Tryz.prog 169 #[.int .i64 y,.int .i64 z] w (cL w (lU y z).1 (lU y z).2.1 (lU y z).2.2):=by
 have hz:z=0\/z=1\/z=2\/z=3\/z=4\/z=5\/z=6\/z=7:=by omega
 have hy:y=0\/y=1\/y=2\/y=3\/y=4\/y=5\/y=6\/y=7:=by omega
 rcases hz with rfl | rfl | rfl | rfl | rfl | rfl | rfl | rfl
 ·rcases hy with rfl | rfl | rfl | rfl | rfl | rfl | rfl | rfl<;>exact high_0 _ (by omega) (by omega) w
 ·rcases hy with rfl | rfl | rfl | rfl | rfl | rfl | rfl | rfl
  ·exact SH _ (by omega) (by omega) (by omega) w
  ·exact UC w
  ·exact SH _ (by omega) (by omega) (by omega) w
  ·exact TX w
  ·exact SH _ (by omega) (by omega) (by omega) w
  ·exact WR w
  ·exact SH _ (by omega) (by omega) (by omega) w
  ·exact WN w
 ·rcases hy with rfl | rfl | rfl | rfl | rfl | rfl | rfl | rfl<;>exact high_2 _ (by omega) (by omega) w
 ·rcases hy with rfl | rfl | rfl | rfl | rfl | rfl | rfl | rfl
  ·exact QK w
  ·exact TZ w
  ·exact RN w
  ·exact SF w
  ·exact QM w
  ·exact RH w
  ·exact VS w
  ·exact RI w
 ·rcases hy with rfl | rfl | rfl | rfl | rfl | rfl | rfl | rfl<;>exact high_4 _ (by omega) (by omega) w
 ·rcases hy with rfl | rfl | rfl | rfl | rfl | rfl | rfl | rfl
  ·exact RU _ (by omega) (by omega) (by omega) w
  ·exact VC w
  ·exact RU _ (by omega) (by omega) (by omega) w
  ·exact SQ _ (by omega) (by omega) (by omega) (by omega) w
  ·exact RU _ (by omega) (by omega) (by omega) w
  ·exact SQ _ (by omega) (by omega) (by omega) (by omega) w
  ·exact RU _ (by omega) (by omega) (by omega) w
  ·exact SQ _ (by omega) (by omega) (by omega) (by omega) w
 ·rcases hy with rfl | rfl | rfl | rfl | rfl | rfl | rfl | rfl<;>exact high_6 _ (by omega) (by omega) w
 ·rcases hy with rfl | rfl | rfl | rfl | rfl | rfl | rfl | rfl<;>exact high_7 _ (by omega) (by omega) w
def aK (op:Int):ByteArray × List Opd × ByteArray:=
 if op / 64=0 then tT (op / 8 % 8) (op % 8) else
 if op / 64=1 then (if op / 8 % 8=6/\op % 8=6 then (⟨#[72,65,76,84]⟩,[],⟨#[]⟩) else (⟨#[76,68]⟩,[rF (op / 8 % 8),rF (op % 8)],⟨#[]⟩)) else
 if op / 64=2 then ((mV (op / 8 % 8)).1,(if (mV (op / 8 % 8)).2 then [bV,rF (op % 8)] else [rF (op % 8)]),⟨#[]⟩) else lU (op / 8 % 8) (op % 8)
theorem main_0 (op y z:Int) (_h0:0<=op) (_h8:op < 256) (_hy:op / 8 % 8=y) (_hz:op % 8=z) (_hy0:0<=y) (_hy8:y < 8) (_hz0:0<=z) (_hz8:z < 8) (hx:op / 64=0) (w:World):Calls Tryz.prog 117 #[.int .u8 op] w (cL w (tT y z).1 (tT y z).2.1 (tT y z).2.2):=by have H:=aA ((Fr.start w).new' 30 #[.string ⟨#[]⟩,.slice none 0 0] rfl);have HL:=aA (λW=>ZW y z _hy0 _hy8 _hz0 _hz8 W);generalize (tT y z).1=s at *;generalize (tT y z).2.1=l at *;generalize (tT y z).2.2=ex at *;go_enter Tryz.func117,Tryz.ntmps117;go_wp2_with (go_at_call 165;refine (HL.out _).mono ?_;rintro e w' ⟨v,rfl,ho,hb⟩;obtain ⟨va,vc,rfl⟩:=ho.form;have HO:=aA (ho.mono (r:=λk=>w.heap.size < k) (λk hk=>vB (H.out.blk 0 rfl).lt hk));have H:=aA (H.out.next hb);obtain ⟨e0,e1,d0,d1⟩:=(H.out.blk 0 rfl).two;clear ho hb);exact tX2e
theorem main_3 (op y z:Int) (_h0:0<=op) (_h8:op < 256) (_hy:op / 8 % 8=y) (_hz:op % 8=z) (_hy0:0<=y) (_hy8:y < 8) (_hz0:0<=z) (_hz8:z < 8) (hx:op / 64=3) (w:World):Calls Tryz.prog 117 #[.int .u8 op] w (cL w (lU y z).1 (lU y z).2.1 (lU y z).2.2):=by have H:=aA ((Fr.start w).new' 30 #[.string ⟨#[]⟩,.slice none 0 0] rfl);have HL:=aA (λW=>SW y z _hy0 _hy8 _hz0 _hz8 W);generalize (lU y z).1=s at *;generalize (lU y z).2.1=l at *;generalize (lU y z).2.2=ex at *;go_enter Tryz.func117,Tryz.ntmps117;go_wp2_with (go_at_call 169;refine (HL.out _).mono ?_;rintro e w' ⟨v,rfl,ho,hb⟩;obtain ⟨va,vc,rfl⟩:=ho.form;have HO:=aA (ho.mono (r:=λk=>w.heap.size < k) (λk hk=>vB (H.out.blk 0 rfl).lt hk));have H:=aA (H.out.next hb);obtain ⟨e0,e1,d0,d1⟩:=(H.out.blk 0 rfl).two;clear ho hb);exact tX2e
theorem main_1h (op y z:Int) (_h0:0<=op) (_h8:op < 256) (_hy:op / 8 % 8=y) (_hz:op % 8=z) (_hy0:0<=y) (_hy8:y < 8) (_hz0:0<=z) (_hz8:z < 8) (hx:op / 64=1) (h6:y=6) (h7:z=6) (w:World):Calls Tryz.prog 117 #[.int .u8 op] w (cL w ⟨#[72,65,76,84]⟩ [] ⟨#[]⟩):=by have H:=aA ((Fr.start w).new' 30 #[.string ⟨#[]⟩,.slice none 0 0] rfl);subst h6;subst h7;go_enter Tryz.func117,Tryz.ntmps117;go_wp2_with (go_at_call 166;refine (frI H (aO _ none 0 0 _ (aV _ (λk=>w.heap.size < k)))).mono ?_;rintro e w' ⟨rfl,HO,H⟩;obtain ⟨e0,e1,d0,d1⟩:=(H.out.blk 0 rfl).two);obtain ⟨h1,h2⟩:=aW (x:=.string ⟨#[72,65,76,84]⟩) (y:=.slice none 0 0) H.out.below HO.out (λk hk=>hk) (zI _);exact tX78
theorem a0C (op y z:Int) (_h0:0<=op) (_h8:op < 256) (_hy:op / 8 % 8=y) (_hz:op % 8=z) (_hy0:0<=y) (_hy8:y < 8) (_hz0:0<=z) (_hz8:z < 8) (hx:op / 64=1) (h6:¬y=6) (w:World):Calls Tryz.prog 117 #[.int .u8 op] w (cL w ⟨#[76,68]⟩ [rF y,rF z] ⟨#[]⟩):=by have H:=aA ((Fr.start w).new' 30 #[.string ⟨#[]⟩,.slice none 0 0] rfl);exact tXd
theorem main_1b (op y z:Int) (_h0:0<=op) (_h8:op < 256) (_hy:op / 8 % 8=y) (_hz:op % 8=z) (_hy0:0<=y) (_hy8:y < 8) (_hz0:0<=z) (_hz8:z < 8) (hx:op / 64=1) (h6:y=6) (h7:¬z=6) (w:World):Calls Tryz.prog 117 #[.int .u8 op] w (cL w ⟨#[76,68]⟩ [rF y,rF z] ⟨#[]⟩):=by have H:=aA ((Fr.start w).new' 30 #[.string ⟨#[]⟩,.slice none 0 0] rfl);subst h6;exact tXd
theorem main_2 (op y z:Int) (_h0:0<=op) (_h8:op < 256) (_hy:op / 8 % 8=y) (_hz:op % 8=z) (_hy0:0<=y) (_hy8:y < 8) (_hz0:0<=z) (_hz8:z < 8) (hx:op / 64=2) (w:World):Calls Tryz.prog 117 #[.int .u8 op] w (cL w (mV y).1 (if (mV y).2 then [bV,rF z] else [rF z]) ⟨#[]⟩):=by
 have H:=aA ((Fr.start w).new' 30 #[.string ⟨#[]⟩,.slice none 0 0] rfl);have HL:=aA (λW=>GV y (rF z) W _hy0 _hy8);generalize (if (mV y).2 then [bV,rF z] else [rF z])=l at *;generalize (mV y).1=s at *;go_enter Tryz.func117,Tryz.ntmps117
 go_wp2_with (first
  | (go_at_call 119;refine (frO H (oX _ _)).mono ?_;rintro e w' ⟨rfl,H⟩)
  | (go_at_call 168;refine (HL.out _).mono ?_;rintro e w' ⟨v,rfl,ho,hb⟩;obtain ⟨va,vc,rfl⟩:=ho.form;have HO:=aA (ho.mono (r:=λk=>w.heap.size < k) (λk hk=>vB (H.out.blk 0 rfl).lt hk));have H:=aA (H.out.next hb);obtain ⟨e0,e1,d0,d1⟩:=(H.out.blk 0 rfl).two;clear ho hb))
 exact tX2e
theorem mN (op:Int) (h0:0<=op) (h8:op < 256) (w:World):Calls Tryz.prog 117 #[.int .u8 op] w (cL w (aK op).1 (aK op).2.1 (aK op).2.2):=by
 have hx:op / 64=0\/op / 64=1\/op / 64=2\/op / 64=3:=by omega
 rcases hx with hx | hx | hx | hx
 ·have e:aK op=tT (op / 8 % 8) (op % 8):=by unfold aK;rw [if_pos hx]
  rw [e];exact main_0 op _ _ h0 h8 rfl rfl (by omega) (by omega) (by omega) (by omega) hx w
 ·by_cases h6:op / 8 % 8=6
  ·by_cases h7:op % 8=6
   ·have e:aK op=(⟨#[72,65,76,84]⟩,[],⟨#[]⟩):=(by unfold aK;rw [if_neg (show ¬(op / 64=0) by omega),if_pos hx,if_pos ⟨h6,h7⟩]);rw [e];exact main_1h op _ _ h0 h8 rfl rfl (by omega) (by omega) (by omega) (by omega) hx h6 h7 w
   ·have e:aK op=(⟨#[76,68]⟩,[rF (op / 8 % 8),rF (op % 8)],⟨#[]⟩):=(by unfold aK;rw [if_neg (show ¬(op / 64=0) by omega),if_pos hx,if_neg (λh=>h7 h.2)]);rw [e];exact main_1b op _ _ h0 h8 rfl rfl (by omega) (by omega) (by omega) (by omega) hx h6 h7 w
  ·have e:aK op=(⟨#[76,68]⟩,[rF (op / 8 % 8),rF (op % 8)],⟨#[]⟩):=(by unfold aK;rw [if_neg (show ¬(op / 64=0) by omega),if_pos hx,if_neg (λh=>h6 h.1)]);rw [e];exact a0C op _ _ h0 h8 rfl rfl (by omega) (by omega) (by omega) (by omega) hx h6 w
 ·have e:aK op=((mV (op / 8 % 8)).1,(if (mV (op / 8 % 8)).2 then [bV,rF (op % 8)] else [rF (op % 8)]),⟨#[]⟩):=by unfold aK;rw [if_neg (show ¬(op / 64=0) by omega),if_neg (show ¬(op / 64=1) by omega),if_pos hx]
  rw [e];exact main_2 op _ _ h0 h8 rfl rfl (by omega) (by omega) (by omega) (by omega) hx w
 ·have e:aK op=lU (op / 8 % 8) (op % 8):=by unfold aK;rw [if_neg (show ¬(op / 64=0) by omega),if_neg (show ¬(op / 64=1) by omega),if_neg (show ¬(op / 64=2) by omega)]
  rw [e];exact main_3 op _ _ h0 h8 rfl rfl (by omega) (by omega) (by omega) (by omega) hx w
end Go.Proofs.YtpigbggoiipmhaaGreatDoor
