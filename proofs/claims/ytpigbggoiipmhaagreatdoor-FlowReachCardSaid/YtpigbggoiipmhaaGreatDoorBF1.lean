/-
  Functions of the program and of the reference, walked; plain facts on what they compute. Conditions: sizes.
-/
import Derived.Test.YtpigbggoiipmhaaGreatDoorBB8
import Derived.Test.YtpigbggoiipmhaaGreatDoorBU1
import Derived.Test.YtpigbggoiipmhaaGreatDoorBC2
import Derived.IntWalk
namespace Go.Proofs.YtpigbggoiipmhaaGreatDoor
set_option maxHeartbeats 8000000
set_option maxRecDepth 100000
open Go.RowKit Go.Shelf Go.Sort
theorem AM {ex:List UInt8} {l:List Opd} {d n:Int} {k:Nat} (h:okL ex l d n k=false):∀m,okL ex l d n (k+m)=false
 | 0=>h
 | m+1=>by rw [<-z2B,okL,AM h m,z1Z]
theorem FT (o:Opd) (r:List Opd) (ex:List UInt8):vL o r ex=0\/vL o r ex=100\/vL o r ex=101\/vL o r ex=110\/vL o r ex=119:=by
 unfold vL
 repeat' split
 all_goals simp
theorem DO (l:List Opd) (ex:List UInt8) (k:Nat):eQ l ex k=0\/eQ l ex k=100\/eQ l ex k=101\/eQ l ex k=110\/eQ l ex k=119:=by
 unfold eQ;split
 ·exact FT _ _ _
 ·exact Or.inl rfl
def SJ (w:World) (s:ByteArray) (r:Option (List Opd)) (e:Ending) (w':World):Prop:=(match r with|some c=>∃v',e=.returned (.tuple #[.agg #[.string s,v'],.bool true])/\OwO w' w.heap.size v' c|none=>e=.returned (.tuple #[.agg #[.string ⟨#[]⟩,.slice none 0 0],.bool false]))/\RowKit.Below w.heap.size w w'
theorem iY {w:World} {s:ByteArray} {e:Ending} {w':World} (h:e=.returned (.tuple #[.agg #[.string ⟨#[]⟩,.slice none 0 0],.bool false])) (hb:RowKit.Below w.heap.size w w'):SJ w s none e w':=⟨h,hb⟩
theorem NV {w:World} {s:ByteArray} {c:List Opd} {e:Ending} {w':World} {v':Value} (h:e=.returned (.tuple #[.agg #[.string s,v'],.bool true])) (ho:OwO w' w.heap.size v' c) (hb:RowKit.Below w.heap.size w w'):SJ w s (some c) e w':=⟨⟨v',h,ho⟩,hb⟩
theorem vA (pg op d n:Int) (s ex:ByteArray) (al:Bool) (l:List Opd) (p:aB) (v:Value) (w:World) (h:SlR aM w p v l) (hl:l.length<=1000000) (hex:ex.size<=9223372036854775807):
  Calls Tryz.prog 77 #[.agg #[.int .i64 pg,.int .u8 op,.string s,v,.string ex,.bool al],.int .i64 d,.int .i64 n] w (SJ w s (fN ex.data.toList l d n)):=by
 obtain ⟨va,vc,rfl⟩:∃a c,v=.slice a l.length c:=by obtain ⟨a,c,e,_⟩:=h;exact ⟨a,c,e⟩
 have HL0:=aA hl;have HF:=aA ((((Fr.start w).new 122 #[.int .i64 pg,.int .u8 op,.string s,.slice va l.length vc,.string ex,.bool al]).new' 30 #[.string ⟨#[]⟩,.slice none 0 0] (zW _ _)).new' 30 #[.string s,.slice none 0 0] (show _=w.heap.size+1+1 from by rw [zW,zW]));have HS:=aA h;have HNO:=aA (show okL ex.data.toList l d n l.length=false->fN ex.data.toList l d n=none from λh=>if_neg (by rw [h];decide));have HND:=aA (show okL ex.data.toList l d n l.length=true->usD ex.data.toList l d l.length=false->fN ex.data.toList l d n=none from λh h2=>by unfold fN;rw [if_pos h,if_neg (by rw [h2];decide)]);have HNN:=aA (show okL ex.data.toList l d n l.length=true->usD ex.data.toList l d l.length=true->usN ex.data.toList l n l.length=false->fN ex.data.toList l d n=none from λh h2 h3=>by unfold fN;rw [if_pos h,if_pos h2,if_neg (by rw [h3];decide)]);have HYE:=aA (show okL ex.data.toList l d n l.length=true->usD ex.data.toList l d l.length=true->usN ex.data.toList l n l.length=true->fN ex.data.toList l d n=some (lK ex.data.toList l d n l.length) from λh h2 h3=>by unfold fN;rw [if_pos h,if_pos h2,if_pos h3]);clear h hl;generalize fN ex.data.toList l d n=R at *;go_enter Tryz.func77,Tryz.ntmps77;go_upto_region 2 with fail;obtain ⟨W3,hW3⟩:∃W:World,W=(((w.alloc (.cells #[.int .i64 pg,.int .u8 op,.string s,.slice va l.length vc,.string ex,.bool al] 122)).alloc (.cells #[.string ⟨#[]⟩,.slice none 0 0] 30)).alloc (.cells #[.string s,.slice none 0 0] 30)):=⟨_,rfl⟩;have hs3:W3.heap.size=w.heap.size+1+1+1:=by rw [hW3,zW,zW,zW]
 rw [<-hW3] at HF ⊢;clear hW3;go_wp2;go_loopw [9,10,11] (λud un i wx=>∃(k:Nat) (lv:Value),k<=l.length/\ud=.bool (usD ex.data.toList l d k)/\un=.bool (usN ex.data.toList l n k)/\i=.int .i64 k/\okL ex.data.toList l d n k=true/\OwO wx (w.heap.size+1+1+1) lv (lK ex.data.toList l d n k)/\
  Fr w [(w.heap.size+1+1,30,#[.string s,lv]),(w.heap.size+1,30,#[.string ⟨#[]⟩,.slice none 0 0]),(w.heap.size,122,#[.int .i64 pg,.int .u8 op,.string s,.slice va l.length vc,.string ex,.bool al])] wx/\w.heap.size+1+1+1<=wx.heap.size) (λ_ _ i _=>l.length-(intOf i).toNat)
 case atStart=>exact ⟨0,_,YD _,rfl,rfl,rfl,rfl,Own.nil _ _ _ _ _,HF.out,by omega⟩
 case round=>
  obtain ⟨k,lv,hk,rfl,rfl,rfl,hok,ho,hfr,hsz⟩:=hrel;have HT:=aA hok;have HO:=aA ho;have HX:=aA hfr;have HSX:=aA (HS.out.below hfr.below);have HSZ:=aA hsz;obtain ⟨la,lc,rfl⟩:=ho.form;clear hok ho hfr hsz hs3;have e0:=(HX.out.blk 2 rfl).cell 0;have e1:=(HX.out.blk 2 rfl).cell 1;have e2:=(HX.out.blk 2 rfl).cell 2;have e3:=(HX.out.blk 2 rfl).cell 3;have e4:=(HX.out.blk 2 rfl).cell 4;have e5:=(HX.out.blk 2 rfl).cell 5;by_cases hlt:k<l.length
  ·have HLt:=aA (λW h=>oJ pg op s ex al l _ _ k hlt W (HSX.out.below h) hex);have HLC:=aA (DO l ex.data.toList k);have HFL:=aA (show lK ex.data.toList l d n (k+1)=lK ex.data.toList l d n k++[AC (eQ l ex.data.toList k) d n l[k]] from by rw [lK];unfold oAt;rw [zL hlt]);have HOL:=aA (show okL ex.data.toList l d n (k+1)=((eQ l ex.data.toList k==0) || cE (eQ l ex.data.toList k) (AC (eQ l ex.data.toList k) d n l[k]).n) from by rw [okL,HT.out,z0Y];unfold oAt;rw [zL hlt]);have HUD:=aA (show usD ex.data.toList l d (k+1)=(usD ex.data.toList l d k || (eQ l ex.data.toList k==100)) from rfl);have HUN:=aA (show usN ex.data.toList l n (k+1)=(usN ex.data.toList l n k || ((eQ l ex.data.toList k==101) || (eQ l ex.data.toList k==110) || (eQ l ex.data.toList k==119))) from rfl);have HBAD:=aA (λh=>HNO.out (by have:=AM (ex:=ex.data.toList) (l:=l) (d:=d) (n:=n) (k:=k+1) h (l.length-(k+1));rwa [Nat.add_sub_cancel' hlt] at this));have HFN:=aA (iH ex.data.toList l d n k);obtain ⟨a1,c1,e6,_,_,g1⟩:=HSX.out.opd;injection e6 with e6 e8 e9;clear e8;subst e6 e9;obtain ⟨b1,o1,rfl,_,x0,x1,x2⟩:=g1 k l[k] (zL hlt);clear g1 HNO HND HNN HYE;generalize l[k]=x at *;generalize eQ l ex.data.toList k=L at *;generalize lK ex.data.toList l d n k=xs at *;generalize usD ex.data.toList l d k=ud at *;generalize usN ex.data.toList l n k=un at *;obtain ⟨xk,xr,xn⟩:=x;dsimp only at *;go_upto_region 8 with fail;have HX5:=aA (HX.out.new 52 #[.int .i64 xk,.int .i64 xr,.int .i64 xn]);have HB5:Hid (RowKit.Below wr.heap.size wr (wr.alloc (.cells #[.int .i64 xk,.int .i64 xr,.int .i64 xn] 52))):=aA ((zY _ _).alloc (zI _) _);have HLt:=aA (HLt.out _ HB5.out);obtain ⟨W5,hW5⟩:∃W:World,W=(wr.alloc (.cells #[.int .i64 xk,.int .i64 xr,.int .i64 xn] 52)):=⟨_,rfl⟩;rw [<-hW5] at HX5 HB5 HLt ⊢;clear hW5 e0 e1 e2 e3 e4 e5 x0 x1 x2 HSX HX;have e0:=(HX5.out.blk 3 rfl).cell 0;have e1:=(HX5.out.blk 3 rfl).cell 1;have e2:=(HX5.out.blk 3 rfl).cell 2;have e3:=(HX5.out.blk 3 rfl).cell 3;have e4:=(HX5.out.blk 3 rfl).cell 4;have e5:=(HX5.out.blk 3 rfl).cell 5;go_upto_region 9 with (go_at_call 124;refine HLt.out.mono ?_;rintro e w6 ⟨rfl,hb⟩;have HX6:=aA (HX5.out.next hb);have HB6:=aA (RowKit.Below.trans HB5.out (hb.mono HB5.out.size));clear hb e0 e1 e2 e3 e4 e5);clear HLt HX5 HB5;rcases HLC.out with rfl|rfl|hL
   ·go_upto_region 15 with fail;have HX7:=HX6;have HB7:=HB6;obtain ⟨W7,hW7⟩:∃W:World,W=w6:=⟨_,rfl⟩;rw [<-hW7] at HX7 HB7 ⊢;clear hW7 HX6 HB6;have x0:=(HX7.out.blk 0 rfl).cell 0;have x1:=(HX7.out.blk 0 rfl).cell 1;have x2:=(HX7.out.blk 0 rfl).cell 2;have c1:=(HX7.out.blk 1 rfl).cell 1;have HO7:=aA (OwO.below HO.out HB7.out);have HS7:=HB7.out.size;have hok2:okL ex.data.toList l d n (k+1)=true:=HOL.out;have HOK2:=aA hok2;clear hok2;go_upto_region 17 with fail;clear x2;have x2:=(HX7.out.blk 0 rfl).cell 2;go_wp2_with (at_builtin;refine cK rfl (.tmp 66) (.tmp 68) 28 rfl (w.heap.size+1+1+1) 52 24 lH _ xs ⟨xk,xr,xn⟩ _ rfl rfl HO7.out rfl (by have:=HFN.out;have:=HL0.out;omega) (by have:=HFN.out;have:=HL0.out;omega) (by have:=HSZ.out;omega) ?_;intro a' c' w' hp;have HP:=aA hp;have HGR:=aA (HX7.out.grown HP.out.2 (λj hj=>⟨by have:=(Own.lt HO7.out j hj).1;omega,by have h1:=(Own.lt HO7.out j hj).1;have h2:=(Own.lt HO.out j hj).2;intro y hy;simp only [List.mem_cons,List.not_mem_nil,or_false] at hy;rcases hy with rfl|rfl|rfl|rfl<;>dsimp only<;>omega⟩));have k1:=(HGR.out.blk 1 rfl).cell 1;have k2:=(HGR.out.blk 1 rfl).free 1;clear hp);exact tX14
   ·have x2:=(HX6.out.blk 0 rfl).cell 2;have f2:=(HX6.out.blk 0 rfl).free 2;go_upto_region 15 with fail;clear x2 f2;have HX7:=aA (HX6.out.set (by have:=HSZ.out;omega) (by intro y hy;simp only [List.mem_cons,List.not_mem_nil,or_false] at hy;have:=HSZ.out;rcases hy with rfl|rfl|rfl<;>dsimp only<;>omega) 2 (.int .i64 d));have HB7:=aA (HB6.out.setCell (p:=⟨wr.heap.size,2,none⟩) (zI _) (.int .i64 d));obtain ⟨W7,hW7⟩:∃W:World,W=w6.setCell ⟨wr.heap.size,2,none⟩ (.int .i64 d):=⟨_,rfl⟩;rw [<-hW7] at HX7 HB7 ⊢;clear hW7 HX6 HB6;have x0:=(HX7.out.blk 0 rfl).cell 0;have x1:=(HX7.out.blk 0 rfl).cell 1;have x2:=(HX7.out.blk 0 rfl).cell 2;have c1:=(HX7.out.blk 1 rfl).cell 1;have HO7:=aA (OwO.below HO.out HB7.out);have HS7:=HB7.out.size;have hok2:okL ex.data.toList l d n (k+1)=cE _ d:=HOL.out;have HWI:=aA (λW=>jH 100 d W);cases hwi:cE 100 d
    ·rw [hwi] at hok2 HWI;exact tX12
    ·rw [hwi] at hok2 HWI;have HOK2:=aA hok2;clear hok2 hwi;go_upto_region 17 with (go_at_call 125;refine (HWI.out _).mono ?_;rintro e w8 ⟨rfl,hw8⟩;subst w8);clear x2;have x2:=(HX7.out.blk 0 rfl).cell 2;go_wp2_with (at_builtin;refine cK rfl (.tmp 66) (.tmp 68) 28 rfl (w.heap.size+1+1+1) 52 24 lH _ xs ⟨xk,xr,d⟩ _ rfl rfl HO7.out rfl (by have:=HFN.out;have:=HL0.out;omega) (by have:=HFN.out;have:=HL0.out;omega) (by have:=HSZ.out;omega) ?_;intro a' c' w' hp;have HP:=aA hp;have HGR:=aA (HX7.out.grown HP.out.2 (λj hj=>⟨by have:=(Own.lt HO7.out j hj).1;omega,by have h1:=(Own.lt HO7.out j hj).1;have h2:=(Own.lt HO.out j hj).2;intro y hy;simp only [List.mem_cons,List.not_mem_nil,or_false] at hy;rcases hy with rfl|rfl|rfl|rfl<;>dsimp only<;>omega⟩));have k1:=(HGR.out.blk 1 rfl).cell 1;have k2:=(HGR.out.blk 1 rfl).free 1;clear hp);exact tX14
   ·rcases hL with rfl|rfl|rfl
    ·have x2:=(HX6.out.blk 0 rfl).cell 2;have f2:=(HX6.out.blk 0 rfl).free 2;go_upto_region 15 with fail;clear x2 f2;have HX7:=aA (HX6.out.set (by have:=HSZ.out;omega) (by intro y hy;simp only [List.mem_cons,List.not_mem_nil,or_false] at hy;have:=HSZ.out;rcases hy with rfl|rfl|rfl<;>dsimp only<;>omega) 2 (.int .i64 n));have HB7:=aA (HB6.out.setCell (p:=⟨wr.heap.size,2,none⟩) (zI _) (.int .i64 n));obtain ⟨W7,hW7⟩:∃W:World,W=w6.setCell ⟨wr.heap.size,2,none⟩ (.int .i64 n):=⟨_,rfl⟩;rw [<-hW7] at HX7 HB7 ⊢;clear hW7 HX6 HB6;have x0:=(HX7.out.blk 0 rfl).cell 0;have x1:=(HX7.out.blk 0 rfl).cell 1;have x2:=(HX7.out.blk 0 rfl).cell 2;have c1:=(HX7.out.blk 1 rfl).cell 1;have HO7:=aA (OwO.below HO.out HB7.out);have HS7:=HB7.out.size;have hok2:okL ex.data.toList l d n (k+1)=cE _ n:=HOL.out;have HWI:=aA (λW=>jH 101 n W);cases hwi:cE 101 n
     ·rw [hwi] at hok2 HWI;exact tX12
     ·rw [hwi] at hok2 HWI;exact tX6
    ·have x2:=(HX6.out.blk 0 rfl).cell 2;have f2:=(HX6.out.blk 0 rfl).free 2;go_upto_region 15 with fail;clear x2 f2;have HX7:=aA (HX6.out.set (by have:=HSZ.out;omega) (by intro y hy;simp only [List.mem_cons,List.not_mem_nil,or_false] at hy;have:=HSZ.out;rcases hy with rfl|rfl|rfl<;>dsimp only<;>omega) 2 (.int .i64 n));have HB7:=aA (HB6.out.setCell (p:=⟨wr.heap.size,2,none⟩) (zI _) (.int .i64 n));obtain ⟨W7,hW7⟩:∃W:World,W=w6.setCell ⟨wr.heap.size,2,none⟩ (.int .i64 n):=⟨_,rfl⟩;rw [<-hW7] at HX7 HB7 ⊢;clear hW7 HX6 HB6;have x0:=(HX7.out.blk 0 rfl).cell 0;have x1:=(HX7.out.blk 0 rfl).cell 1;have x2:=(HX7.out.blk 0 rfl).cell 2;have c1:=(HX7.out.blk 1 rfl).cell 1;have HO7:=aA (OwO.below HO.out HB7.out);have HS7:=HB7.out.size;have hok2:okL ex.data.toList l d n (k+1)=cE _ n:=HOL.out;have HWI:=aA (λW=>jH 110 n W);cases hwi:cE 110 n
     ·rw [hwi] at hok2 HWI;exact tX12
     ·rw [hwi] at hok2 HWI;exact tX6
    ·have x2:=(HX6.out.blk 0 rfl).cell 2;have f2:=(HX6.out.blk 0 rfl).free 2;go_upto_region 15 with fail;clear x2 f2;have HX7:=aA (HX6.out.set (by have:=HSZ.out;omega) (by intro y hy;simp only [List.mem_cons,List.not_mem_nil,or_false] at hy;have:=HSZ.out;rcases hy with rfl|rfl|rfl<;>dsimp only<;>omega) 2 (.int .i64 n));have HB7:=aA (HB6.out.setCell (p:=⟨wr.heap.size,2,none⟩) (zI _) (.int .i64 n));obtain ⟨W7,hW7⟩:∃W:World,W=w6.setCell ⟨wr.heap.size,2,none⟩ (.int .i64 n):=⟨_,rfl⟩;rw [<-hW7] at HX7 HB7 ⊢;clear hW7 HX6 HB6;have x0:=(HX7.out.blk 0 rfl).cell 0;have x1:=(HX7.out.blk 0 rfl).cell 1;have x2:=(HX7.out.blk 0 rfl).cell 2;have c1:=(HX7.out.blk 1 rfl).cell 1;have HO7:=aA (OwO.below HO.out HB7.out);have HS7:=HB7.out.size;have hok2:okL ex.data.toList l d n (k+1)=cE _ n:=HOL.out;have HWI:=aA (λW=>jH 119 n W);cases hwi:cE 119 n
     ·rw [hwi] at hok2 HWI;exact tX12
     ·rw [hwi] at hok2 HWI;exact tX6
  ·obtain rfl:k=l.length:=(by omega);have HN1:=aA (HND.out HT.out);have HN2:=aA (HNN.out HT.out);have HN3:=aA (HYE.out HT.out);clear HND HNN HYE HNO HT e0 e1 e2 e4 e5 HS HSX;generalize usD ex.data.toList l d l.length=ud at *;generalize usN ex.data.toList l n l.length=un at *;generalize lK ex.data.toList l d n l.length=xs at *;have r0:=(HX.out.blk 1 rfl).cell 0;have r1:=(HX.out.blk 1 rfl).cell 1;have r2:=(HX.out.blk 1 rfl).free 0;have r3:=(HX.out.blk 1 rfl).free 1;have c0:=(HX.out.blk 0 rfl).cell 0;have c1:=(HX.out.blk 0 rfl).cell 1;cases ud
   ·have HR:=aA (HN1.out rfl);exact tX29
   cases un
   ·have HR:=aA (HN2.out rfl rfl);exact tX29
   ·have HR:=aA (HN3.out rfl rfl);go_wp2;refine yR (aN rfl rfl (((HX.out.blk 1 rfl).set 0 _).set 1 _)) rfl ?_;rw [HR.out];refine NV rfl ?_ ((HX.out.below.setCell (p:=⟨w.heap.size+1,0,none⟩) (jQ _) _).setCell (p:=⟨w.heap.size+1,1,none⟩) (jQ _) _);exact Own.base (OwO.far (OwO.far HO.out (p:=⟨w.heap.size+1,0,none⟩) (by dsimp only;omega) _) (p:=⟨w.heap.size+1,1,none⟩) (by dsimp only;omega) _) (by omega)
end Go.Proofs.YtpigbggoiipmhaaGreatDoor
namespace Go.Proofs.YtpigbggoiipmhaaGreatDoor
open Go.RowKit Go.Shelf
theorem fU (p:Int) (w:World):
  Calls Tryz.prog 123 #[.int .i64 p] w λe w'=>∃v,e=.returned v/\Own aI w' w.heap.size 5 NoB v (aR p)/\Below w.heap.size w w':=by
 have hal:∀c:UInt8,Own aI (w.alloc (.cells #[.int .u8 c.toNat] 5)) w.heap.size 5 NoB (.slice (some ⟨w.heap.size,0,none⟩) 1 1) [c]:=λc=>Own.lit w _ [c] _ 1 rfl rfl (by simp);have hal2:∀c d:UInt8,Own aI (w.alloc (.cells #[.int .u8 c.toNat,.int .u8 d.toNat] 5)) w.heap.size 5 NoB (.slice (some ⟨w.heap.size,0,none⟩) 2 2) [c,d]:=λc d=>Own.lit w _ [c,d] _ 2 rfl rfl (by simp);have hb:∀o:Obj,Below w.heap.size w (w.alloc o):=λo=>(zY _ w).alloc (zI _) o;have HAL:=aA hal;have HAL2:=aA hal2;have HB:=aA hb;clear hal hb hal2;by_cases h1:p=1
 ·subst h1;go_enter Tryz.func123,Tryz.ntmps123;go_wp2;go_ret;exact ⟨_,rfl,HAL.out 203,HB.out _⟩
 by_cases h2:p=2
 ·subst h2;go_enter Tryz.func123,Tryz.ntmps123;go_wp2;go_ret;exact ⟨_,rfl,HAL.out 237,HB.out _⟩
 by_cases h3:p=3
 ·subst h3;go_enter Tryz.func123,Tryz.ntmps123;go_wp2;go_ret;exact ⟨_,rfl,HAL.out 221,HB.out _⟩
 by_cases h4:p=4
 ·subst h4;go_enter Tryz.func123,Tryz.ntmps123;go_wp2;go_ret;exact ⟨_,rfl,HAL.out 253,HB.out _⟩
 by_cases h5:p=5
 ·subst h5;go_enter Tryz.func123,Tryz.ntmps123;go_wp2;go_ret;exact ⟨_,rfl,HAL2.out 221 203,HB.out _⟩
 by_cases h6:p=6
 ·subst h6;go_enter Tryz.func123,Tryz.ntmps123;go_wp2;go_ret;exact ⟨_,rfl,HAL2.out 253 203,HB.out _⟩
 have hf:aR p=[]:=by rw [aR,if_neg h1,if_neg h2,if_neg h3,if_neg h4,if_neg h5,if_neg h6]
 have b1:(p==1)=false:=by rw [yW];exact h1
 have b2:(p==2)=false:=by rw [yW];exact h2
 have b3:(p==3)=false:=by rw [yW];exact h3
 have b4:(p==4)=false:=by rw [yW];exact h4
 have b5:(p==5)=false:=by rw [yW];exact h5
 have b6:(p==6)=false:=by rw [yW];exact h6
 rw [hf];clear hf h1 h2 h3 h4 h5 h6;go_enter Tryz.func123,Tryz.ntmps123;go_wp2;go_ret;exact ⟨_,rfl,Own.nil _ _ _ _ _,zY _ _⟩
end Go.Proofs.YtpigbggoiipmhaaGreatDoor
namespace Go.Proofs.YtpigbggoiipmhaaGreatDoor
open Go.RowKit Go.Shelf Go.Sort
set_option maxHeartbeats 4000000
set_option maxRecDepth 100000
def mU:List UInt8->Int
 | []=>0
 | b::r=>(if ((b.toNat:Int)==119)=true then 2 else 1)+mU r
theorem zV:∀l:List UInt8,0<=mU l/\mU l<=2*l.length
 | []=>by simp [mU]
 | b::r=>by have h:=zV r;rw [mU,VH];split<;>omega
theorem xT:∀(l:List UInt8) (b:UInt8),mU (l++[b])=mU l+(if ((b.toNat:Int)==119)=true then 2 else 1)
 | [],b=>by simp [mU]
 | a::r,b=>by rw [z1H,mU,mU,xT r b];omega
theorem LE (pg op:Int) (s ex:ByteArray) (al:Bool) (va:Option Addr) (vn vc:Nat) (w:World) (hex:ex.size<=1000):
  Calls Tryz.prog 75 #[.agg #[.int .i64 pg,.int .u8 op,.string s,.slice va vn vc,.string ex,.bool al]] w λe w'=>e=.returned (.int .i64 (((aR pg).length:Int)+1+mU ex.data.toList))/\Below w.heap.size w w':=by
 have HF:=aA ((Fr.start w).new 122 #[.int .i64 pg,.int .u8 op,.string s,.slice va vn vc,.string ex,.bool al]);have HP:=aA (λW=>fU pg W);have hpl:=cW pg;have HPL:=aA hpl;have HLX:=aA (zV ex.data.toList);clear hpl;go_enter Tryz.func75,Tryz.ntmps75;go_wp2_with (go_at_call 123;refine (HP.out _).mono ?_;rintro e w1 ⟨v,rfl,ho,hb⟩;obtain ⟨pa,pc,rfl⟩:=ho.form;have H:=aA (HF.out.next hb);have hpl:(aR pg).length<=2:=HPL.out;clear ho hb);generalize hn:(aR pg).length=n at *;have HN:=aA hn;clear hn;go_loop [3,4] (λt i=>∃k:Nat,k<=ex.size/\i=.int .i64 k/\t=.int .i64 ((n:Int)+1+mU (ex.data.toList.take k))) (λ_ i=>ex.size-(intOf i).toNat);case atStart=>exact ⟨0,YD _,rfl,by simp [mU]⟩
 case round=>
  obtain ⟨k,hk,rfl,rfl⟩:=hrel;have e4:=(H.out.blk 0 rfl).cell 4;have hn2:n<=2:=HPL.out;have hlx:=zV (ex.data.toList.take k);have hl9:(ex.data.toList.take k).length<=k:=List.length_take_le _ _;by_cases hlt:k<ex.size
  ·have hts:ex.data.toList.take (k+1)=ex.data.toList.take k++[ex[k]]:=(by rw [ZP (by simpa using hlt)];rfl);have hsn:=xT (ex.data.toList.take k) ex[k];rw [<-hts] at hsn;have HSN:=aA hsn;clear hts hsn;by_cases hc:((ex[k].toNat:Int)==119)=true
   ·go_wp2;go_round;case rel=>exact ⟨k+1,by omega,by go_num,by rw [HSN.out,if_pos hc];go_num⟩
    case measure=>simp [intOf];omega
   ·have hc':((ex[k].toNat:Int)==119)=false:=(by simpa using hc);go_wp2;go_round;case rel=>exact ⟨k+1,by omega,by go_num,by rw [HSN.out,if_neg hc];go_num⟩
    case measure=>simp [intOf];omega
  ·have hk2:k=ex.size:=(by omega);have HTK:Hid (ex.data.toList.take k=ex.data.toList):=QD (by simp;omega);clear hk2;go_wp2;go_ret;exact ⟨by rw [HN.out,HTK.out];rfl,H.out.below⟩
theorem CO:∀ex:List UInt8,mU ex=(rdN ex:Int)
 | []=>rfl
 | c::ex=>by
  have e:((c.toNat:Int)==119)=true↔c=119:=by
   rw [z2E];constructor
   ·intro h;exact z1O.1 (by show c.toNat=119;omega)
   ·rintro rfl;rfl
  rw [mU,rdN,CO ex];by_cases h:c=119
  ·rw [if_pos (e.2 h),if_pos h];omega
  ·rw [if_neg (λk=>h (e.1 k)),if_neg h];omega
def chkX (p x:Nat):Bool:=match (atF p x).1 with
 | some e=>(e.ex==[119]) || !(e.ex.contains 119)
 | none=>true
theorem ckx:∀p:Fin 7,∀x:Fin 256,chkX p.val x.val=true:=by decide+kernel
theorem at_word {p x:Nat} (hp:p<7) (hx:x<256) {e:aL} (he:(atF p x).1=some e):e.ex=[119]\/¬(119:UInt8)∈e.ex:=by
 have:=ckx ⟨p,hp⟩ ⟨x,hx⟩;unfold chkX at this;dsimp only at this;rw [he] at this;rcases z1R.1 this with h|h
 ·exact .inl (eq_of_beq h)
 ·exact .inr (by simpa using h)
theorem pA (b:Nat) (hb:b<256) (w:World):Calls Tryz.prog 76 #[.int .u8 b] w λe w'=>e=.returned (.int .i64 (sg b))/\w'=w:=by
 cases h:decide (128<=b)
 ·have h:=z0R h;have hs:sg b=b:=by unfold sg;rw [if_neg h]
  rw [hs];have h3:¬((128:Int)<=(b:Int)):=by omega
  have h4:IntKind.i64.wrap (b:Int)=b:=by rw [IntKind.wrap_i64];omega
  exact tX55
 ·have h:=jU h;have hs:sg b=(b:Int)-256:=by unfold sg;rw [if_pos h]
  rw [hs];have h3:(128:Int)<=(b:Int):=by omega
  have h4:IntKind.i64.wrap (b:Int)=b:=by rw [IntKind.wrap_i64];omega
  have h5:IntKind.i64.wrap ((b:Int)-256)=(b:Int)-256:=by rw [IntKind.wrap_i64];omega
  exact tX55
theorem JZ {ex:List UInt8} (h:ex≠[]):0<rdN ex:=by
 cases ex with
 | nil=>exact absurd rfl h
 | cons c ex=>rw [rdN];split<;>omega
theorem BG (x:aL) (hok:fA x) (hx:zD x) (d n:Int) (p:aB) (v:Value) (w:World) (h:SlR aM w p v x.args):
  Calls Tryz.prog 77 #[bQ x v,.int .i64 d,.int .i64 n] w (InsQP w (jO x d n).1 (jO x d n).2):=by
 have hz:=hok.size;refine (vA x.pg x.op d n ⟨x.iop.toArray⟩ ⟨x.ex.toArray⟩ x.al x.args p v w h (by have:=hz.2;omega) (by have:=hx.len;show x.ex.toArray.size<=_;rw [XF];omega)).mono ?_;rintro e w' ⟨h1,h2⟩;rw [show (⟨x.ex.toArray⟩:ByteArray).data.toList=x.ex from rfl] at h1;unfold jO;cases hF:fN x.ex x.args d n with
 | none=>rw [hF] at h1;exact ⟨none,0,false,h1,SlR.nil _ _ _,h2⟩
 | some c=>rw [hF] at h1;obtain ⟨v',rfl,ho⟩:=h1;obtain ⟨a,cc,rfl⟩:=ho.form;exact ⟨a,cc,true,rfl,Own.slR ho (λ_ h=>h.elim) (λ_ h=>h),h2⟩
theorem UV (p:aB) (a:Option Addr) (c:Nat) (l:List UInt8) (w:World) (hs:SlR aI w p (.slice a l.length c) l) (h0:0<l.length) (hl:l.length<=1000000):
  Calls Tryz.prog 72 #[.slice a l.length c] w λe w'=>e=.returned (.tuple #[.int .i64 (pgB l),.int .i64 (pos (pgB l))])/\w'=w:=by
 obtain ⟨b,o,rfl,_,_,hc⟩:=nN hs h0;have c0:=hc 0 h0;have c1:=hc 1;have P1:pos 1=1:=rfl;have P2:pos 2=1:=rfl;have P3:pos 3=1:=rfl;have P4:pos 4=1:=rfl;have P5:pos 5=3:=rfl;have P6:pos 6=3:=rfl;have P0:pos 0=0:=rfl;have h0':(0:Int)<(l.length:Int):=by omega
 unfold pgB;generalize bAt l 0=x at *;generalize bAt l 1=y at *;generalize l.length=m at *;rw [z0N] at c0;have key:∀(r:Nat) (q:Nat),(if x=203 then 1 else if x=237 then 2 else if x=221 then (if 1<m/\y=203 then 5 else 3) else if x=253 then (if 1<m/\y=203 then 6 else 4) else 0:Nat)=r->pos r=q->Calls Tryz.prog 72 #[.slice (some ⟨b,o,none⟩) m c] w (λe w'=>e=.returned (.tuple #[.int .i64 r,.int .i64 q])/\w'=w)->Calls Tryz.prog 72 #[.slice (some ⟨b,o,none⟩) m c] w λe w'=>e=.returned (.tuple #[.int .i64 ((if x=203 then 1 else if x=237 then 2 else if x=221 then (if 1<m/\y=203 then 5 else 3) else if x=253 then (if 1<m/\y=203 then 6 else 4) else 0:Nat)),.int .i64 (pos (if x=203 then 1 else if x=237 then 2 else if x=221 then (if 1<m/\y=203 then 5 else 3) else if x=253 then (if 1<m/\y=203 then 6 else 4) else 0:Nat))])/\w'=w:=by rintro r q rfl rfl h;exact h
 clear hs hc;by_cases h1:x=203
 ·refine key 1 1 (by rw [if_pos h1]) rfl ?_;subst h1;exact tX46
 by_cases h2:x=237
 ·refine key 2 1 (by rw [if_neg h1,if_pos h2]) rfl ?_;subst h2;exact tX46
 by_cases h3:x=221
 ·by_cases h5:1<m
  ·have c1:=c1 h5;have h5':(1:Int)<(m:Int):=(by omega);by_cases h6:y=203
   ·refine key 5 3 (by rw [if_neg h1,if_neg h2,if_pos h3,if_pos ⟨h5,h6⟩]) rfl ?_;subst h3 h6;exact tX46
   ·refine key 3 1 (by rw [if_neg h1,if_neg h2,if_pos h3,if_neg (by omega)]) rfl ?_;have h6':((y:Int)==203)=false:=(by rw [yW];omega);subst h3;exact tX3e
  ·refine key 3 1 (by rw [if_neg h1,if_neg h2,if_pos h3,if_neg (by omega)]) rfl ?_;obtain rfl:m=1:=(by omega);subst h3;exact tX3d
 by_cases h4:x=253
 ·by_cases h5:1<m
  ·have c1:=c1 h5;have h5':(1:Int)<(m:Int):=(by omega);by_cases h6:y=203
   ·refine key 6 3 (by rw [if_neg h1,if_neg h2,if_neg h3,if_pos h4,if_pos ⟨h5,h6⟩]) rfl ?_;subst h4 h6;exact tX46
   ·refine key 4 1 (by rw [if_neg h1,if_neg h2,if_neg h3,if_pos h4,if_neg (by omega)]) rfl ?_;have h6':((y:Int)==203)=false:=(by rw [yW];omega);subst h4;exact tX3e
  ·refine key 4 1 (by rw [if_neg h1,if_neg h2,if_neg h3,if_pos h4,if_neg (by omega)]) rfl ?_;obtain rfl:m=1:=(by omega);subst h4;exact tX3d
 ·refine key 0 0 (by rw [if_neg h1,if_neg h2,if_neg h3,if_neg h4]) rfl ?_;have h1':¬(x:Int)=203:=by omega
  have h2':¬(x:Int)=237:=by omega
  have h3':¬(x:Int)=221:=by omega
  have h4':¬(x:Int)=253:=by omega
  clear key P0 P1 P2 P3 P4 P5 P6 h1 h2 h3 h4;exact tX5e
theorem DX (k:Int) (p:aB) (ad:Addr) (c:Nat) (l:List UInt8) (n:Nat) (w:World) (hs:SlR aI w p (.slice (some ad) l.length c) l) (hn:n<=l.length) (hl:l.length<=1000000):
  Calls Tryz.prog 73 #[.int .i64 k,.slice (some ad) l.length c,.int .i64 n] w λe w'=>∃a cc,e=.returned (.agg #[.int .i64 k,.slice a (l.take n).length cc,.string ⟨#[]⟩,.slice none 0 0,.bool false])/\Own aI w' w.heap.size 5 NoB (.slice a (l.take n).length cc) (l.take n)/\RowKit.Below w.heap.size w w':=by
 obtain ⟨hs2,_,hc,_⟩:=hs.cutB hn;have hcut:=UX ad l.length c n (by omega);have HLT:Hid ((l.take n).length=n):=aA (by rw [JX];omega);have HN:Hid ((l.take n).length<=1000000):=aA (by rw [HLT.out];omega);have HS2:=aA hs2;have HZ:Hid ((w.alloc (.cells cD 32)).heap.size=w.heap.size+1):=aA (zW _ _);have HI:=aA (Blk.new w 32 cD);have HB:=aA ((zY w.heap.size w).alloc (zI _) (.cells cD 32));have HX:Hid (SlR aI ((w.alloc (.cells cD 32)).alloc (.cells #[] 5)) (λk=>p k/\k<w.heap.size) (.slice (some ad) n c) (l.take n)):=aA (hs2.old.keep (aS.of_below (((zY w.heap.size w).alloc (zI _) (.cells cD 32)).alloc (by rw [zW];omega) _) (λk hk=>hk.2)));clear hs2 hs;generalize l.take n=l2 at *;generalize l.length=m at *;obtain rfl:=HLT.out;obtain ⟨W0,hW0⟩:∃W:World,W=w.alloc (.cells cD 32):=⟨_,rfl⟩;rw [<-hW0] at HI HB HX HZ;go_enter Tryz.func73,Tryz.ntmps73;go_upto_region 1 with fail;rw [<-hW0];clear hW0;have HB2:Hid (RowKit.Below w.heap.size w (W0.alloc (.cells #[] 5))):=aA (HB.out.alloc HB.out.size _);have HI2:Hid (Blk (W0.alloc (.cells #[] 5)) w.heap.size 32 cD):=aA (HI.out.alloc _);have HO:Hid (Own aI (W0.alloc (.cells #[] 5)) W0.heap.size 5 NoB (.slice (some ⟨W0.heap.size,0,none⟩) 0 0) []):=Own.made W0 _ _;have C2:Hid (∀k,p k/\k<w.heap.size->some k≠Value.ownBlock (.slice (some ⟨W0.heap.size,0,none⟩) 0 0)):=λk hk e=>by simp [Value.ownBlock] at e;have:=HZ.out;omega
 have C3:Hid (([]:List UInt8).length+l2.length<=1000000):=by have:=HN.out;simp;omega
 have HZ2:Hid (W0.heap.size<=(W0.alloc (.cells #[] 5)).heap.size):=aA (by rw [zW];omega);go_wp2_with (at_builtin;refine dJ _ rfl (.tmp 8) (.tmp 11) 22 rfl W0.heap.size 5 1 mH NoB _ _ _ [] l2 rfl rfl HO.out HX.out (λ_ h=>False.elim h) C2.out (by have:=C3.out;omega) (by have:=C3.out;omega) HZ2.out ?_;intro v' w' hap;obtain ⟨ho,hg,hv⟩:=hap;obtain ⟨qa,qc,rfl⟩:=(ho.flat NoB).form;have HO3:=aA (ho.flat NoB);have HI3:=aA (HI2.out.grown hg (λe=>by have e2:w.heap.size=W0.heap.size:=ZS e;have:=HZ.out;omega));have HB3:=aA (HB2.out.grown hg HB2.out.size (λk e=>by have e2:W0.heap.size=k:=ZS e;have:=HZ.out;omega));obtain ⟨⟨c0,c1,c2,c3,c4⟩,f0,f1,f2,f3,f4⟩:=HI3.out.five;clear ho hg hv);have HF:=aA (((((HI3.out.set 0 (.int .i64 k)).set 1 (.slice qa l2.length qc)).set 2 (.string ⟨#[]⟩)).set 3 (.slice none 0 0)).set 4 (.bool false));have hb:w.heap.size<W0.heap.size:=by have:=HZ.out;omega
 refine yR (eG rfl rfl HF.out rfl) rfl ⟨qa,qc,rfl,?_,?_⟩
 ·exact Own.base (B:=W0.heap.size) (((((HO3.out.off hb 0 _).off hb 1 _).off hb 2 _).off hb 3 _).off hb 4 _) (by omega)
 ·exact ((((HB3.out.setCell (p:=⟨w.heap.size,0,none⟩) (zI _) _).setCell (p:=⟨w.heap.size,1,none⟩) (zI _) _).setCell (p:=⟨w.heap.size,2,none⟩) (zI _) _).setCell (p:=⟨w.heap.size,3,none⟩) (zI _) _).setCell (p:=⟨w.heap.size,4,none⟩) (zI _) _
end Go.Proofs.YtpigbggoiipmhaaGreatDoor
