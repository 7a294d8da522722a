/-
  operand.Index. search.pages, candidates. A LAW: a range fR a function whose rounds are told what the memory holds of what they are handed, and which may be left. Conditions: none.
-/
import Derived.Test.YtpigbggoiipmhaaGreatDoorBA7
namespace Go.Proofs.YtpigbggoiipmhaaGreatDoor
set_option maxHeartbeats 8000000
set_option maxRecDepth 100000
open Go.RowKit Go.Shelf Go.Sort
def dU (r h:Int):List Opd:=[⟨2,h,0⟩,⟨2,h+1,0⟩,⟨3,r,0⟩,⟨4,r,0⟩,⟨5,r,0⟩]
def kQ (o:Opd):Int:=if aZ o=false then 0 else if (dU 5 0).any (aP (z0 o))=true then 5 else if (dU 6 2).any (aP (z0 o))=true then 6 else 0
theorem FY (o:Opd) (w:World):Calls Tryz.prog 235 #[.agg #[.int .i64 o.kind,.int .i64 o.reg,.int .i64 o.n]] w λe w'=>e=.returned (.int .i64 (kQ o))/\Below w.heap.size w w':=by
 have HVA:=aA (λW=>wH o W);have HNO:=aA (show aZ o=false->kQ o=0 from λh=>if_pos h);have HY5:=aA (show aZ o=true->(dU 5 0).any (aP (z0 o))=true->kQ o=5 from λh h2=>by unfold kQ;rw [h,if_neg (by decide),if_pos h2]);have HY6:=aA (show aZ o=true->(dU 5 0).any (aP (z0 o))=false->(dU 6 2).any (aP (z0 o))=true->kQ o=6 from λh h2 h3=>by unfold kQ;rw [h,if_neg (by decide),if_neg (by rw [h2];decide),if_pos h3]);have HY0:=aA (show aZ o=true->(dU 5 0).any (aP (z0 o))=false->(dU 6 2).any (aP (z0 o))=false->kQ o=0 from λh h2 h3=>by unfold kQ;rw [h,if_neg (by decide),if_neg (by rw [h2];decide),if_neg (by rw [h3];decide)]);obtain ⟨t5,ht5⟩:∃t,(dU 5 0).any (aP (z0 o))=t:=⟨_,rfl⟩;obtain ⟨t6,ht6⟩:∃t,(dU 6 2).any (aP (z0 o))=t:=⟨_,rfl⟩;rw [ht5] at HY5 HY6 HY0;rw [ht6] at HY6 HY0;have HT5:=aA ht5;have HT6:=aA ht6;clear ht5 ht6;generalize aZ o=ok at *;generalize kQ o=R at *;obtain ⟨xk,xr,xn⟩:=o;dsimp only [z0] at *;have hop:=gD;have HF:=aA ((Fr.start w).new 52 #[.int .i64 xk,.int .i64 xr,.int .i64 xn]);obtain ⟨W0,hW0⟩:∃W0:World,W0=w.alloc (.cells #[.int .i64 xk,.int .i64 xr,.int .i64 xn] 52):=⟨_,rfl⟩;rw [<-hW0] at HF;go_enter Tryz.func235,Tryz.ntmps235;go_upto_region 1 with fail;rw [<-hW0];clear hW0;have e0:=(HF.out.blk 0 rfl).cell 0;have e1:=(HF.out.blk 0 rfl).cell 1;have e2:=(HF.out.blk 0 rfl).cell 2;cases ok
 ·have HR:=aA (HNO.out rfl);go_wp2_with (go_at_call 196;refine (HVA.out _).mono ?_;rintro e w1 ⟨rfl,hb1⟩;have HF1:=aA (HF.out.next hb1);clear hb1);go_ret;exact ⟨by rw [HR.out];rfl,HF1.out.below⟩
 have HZ5:=aA (HY5.out rfl);have HZ6:=aA (HY6.out rfl);have HZ0:=aA (HY0.out rfl);clear HNO HY5 HY6 HY0;go_upto_region 3 with (go_at_call 196;refine (HVA.out _).mono ?_;rintro e w1 ⟨rfl,hb1⟩;have HF1:=aA (HF.out.next hb1);clear hb1);have HF2:=aA (HF1.out.new 3 #[.int .i64 5,.int .i64 6]);go_wp2;have HL1:=aA (HF1.out.blk 0 rfl).lt;obtain ⟨b2,hb2⟩:∃b,w1.heap.size=b:=⟨_,rfl⟩;rw [hb2] at HF2 HL1 ⊢;obtain ⟨W2,hW2⟩:∃W:World,W=w1.alloc (.cells #[.int .i64 5,.int .i64 6] 3):=⟨_,rfl⟩;rw [<-hW2] at HF2 ⊢;clear hW2 hb2 HF1 HF HVA e0 e1 e2;go_loopw [13] (λi wx=>∃(k:Nat) (z:Int),k<=2/\i=.int .i64 k/\(1<=k->t5=false)/\(2<=k->t6=false)/\Fr w [(w.heap.size,52,#[.int .i64 xk,.int .i64 xr,.int .i64 z]),(b2,3,#[.int .i64 5,.int .i64 6])] wx/\b2 < wx.heap.size) (λi _=>2 - (intOf i).toNat);case atStart=>exact ⟨0,xn,by omega,rfl,λh=>absurd h (by omega),λh=>absurd h (by omega),HF2.out.sub (by intro y hy;simp only [List.mem_cons,List.not_mem_nil,or_false] at hy ⊢;exact hy.symm),(HF2.out.blk 0 rfl).lt⟩
 case round=>
  obtain ⟨k,z,hk,rfl,hk1,hk2,hfr,hlt⟩:=hrel;have HX:=aA hfr;have HK1:=aA hk1;have HK2:=aA hk2;have HLT:=aA hlt;clear hfr hk1 hk2 hlt;have c0:=(HX.out.blk 1 rfl).cell 0;have c1:=(HX.out.blk 1 rfl).cell 1;have o2:=(HX.out.blk 0 rfl).cell 2;have f2:=(HX.out.blk 0 rfl).free 2;have HS:=aA (HX.out.set (zI _) (by intro y hy;simp only [List.mem_cons,List.not_mem_nil,or_false] at hy;subst hy;have:=HL1.out;dsimp only;omega) 2 (.int .i64 0));rcases k with _ | k
  ·have HN:=aA (HS.out.new' 52 #[.int .i64 2,.int .i64 0,.int .i64 0,.int .i64 2,.int .i64 1,.int .i64 0,.int .i64 3,.int .i64 5,.int .i64 0,.int .i64 4,.int .i64 5,.int .i64 0,.int .i64 5,.int .i64 5,.int .i64 0] (yY _ _ _));have HGL:=aA HLT.out;go_wp2;obtain ⟨g,hg⟩:∃g,wr.heap.size=g:=⟨_,rfl⟩;rw [hg] at HN HGL ⊢;obtain ⟨W5,hW5⟩:∃W:World,W=(wr.setCell ⟨w.heap.size,2,none⟩ (.int .i64 0)).alloc (.cells #[.int .i64 2,.int .i64 0,.int .i64 0,.int .i64 2,.int .i64 1,.int .i64 0,.int .i64 3,.int .i64 5,.int .i64 0,.int .i64 4,.int .i64 5,.int .i64 0,.int .i64 5,.int .i64 5,.int .i64 0] 52):=⟨_,rfl⟩;rw [<-hW5] at HN ⊢;clear hW5 hg c0 c1 o2 f2 HS HX HLT;go_loopw [34] (λi wx=>∃(j:Nat),j<=5/\i=.int .i64 j/\((dU 5 0).take j).any (aP ⟨xk,xr,0⟩)=false/\Fr w [(g,52,#[.int .i64 2,.int .i64 0,.int .i64 0,.int .i64 2,.int .i64 1,.int .i64 0,.int .i64 3,.int .i64 5,.int .i64 0,.int .i64 4,.int .i64 5,.int .i64 0,.int .i64 5,.int .i64 5,.int .i64 0]),(w.heap.size,52,#[.int .i64 xk,.int .i64 xr,.int .i64 0]),(b2,3,#[.int .i64 5,.int .i64 6])] wx) (λi _=>5 - (intOf i).toNat);case atStart=>exact ⟨0,by omega,rfl,rfl,HN.out⟩
   case round=>
    obtain ⟨j,hj,rfl,hp,hfr⟩:=hrel;have HP:=aA hp;have HX:=aA hfr;clear hp hfr;rcases j with _ | _ | _ | _ | _ | j
    ·have x0:=(HX.out.blk 0 rfl).cell 0;have x1:=(HX.out.blk 0 rfl).cell 1;have x2:=(HX.out.blk 0 rfl).cell 2;have HA:=aA (HX.out.new 52 #[.int .i64 2,.int .i64 0,.int .i64 0]);go_upto_region 11 with fail;obtain ⟨g7,hg7⟩:∃g,wr.heap.size=g:=⟨_,rfl⟩;rw [hg7] at HA ⊢;obtain ⟨W7,hW7⟩:∃W:World,W=wr.alloc (.cells #[.int .i64 2,.int .i64 0,.int .i64 0] 52):=⟨_,rfl⟩;rw [<-hW7] at HA ⊢;clear hW7 hg7 x0 x1 x2 HX;have y0:=(HA.out.blk 0 rfl).cell 0;have y1:=(HA.out.blk 0 rfl).cell 1;have y2:=(HA.out.blk 0 rfl).cell 2;have d0:=(HA.out.blk 2 rfl).cell 0;have d1:=(HA.out.blk 2 rfl).cell 1;have d2:=(HA.out.blk 2 rfl).cell 2;cases hb:aP ⟨xk,xr,0⟩ ⟨2,0,0⟩
     ·have HB:=aA hb;exact tX5a
     ·have HR:=aA (HZ5.out (HT5.out.symm.trans (z0H.2 ⟨_,(by simp [dU]:(⟨2,0,0⟩:Opd)∈dU 5 0),hb⟩)));go_wp2;go_ret;exact ⟨by rw [HR.out];rfl,HA.out.below⟩
    ·have x0:=(HX.out.blk 0 rfl).cell 3;have x1:=(HX.out.blk 0 rfl).cell 4;have x2:=(HX.out.blk 0 rfl).cell 5;have HA:=aA (HX.out.new 52 #[.int .i64 2,.int .i64 1,.int .i64 0]);go_upto_region 11 with fail;obtain ⟨g7,hg7⟩:∃g,wr.heap.size=g:=⟨_,rfl⟩;rw [hg7] at HA ⊢;obtain ⟨W7,hW7⟩:∃W:World,W=wr.alloc (.cells #[.int .i64 2,.int .i64 1,.int .i64 0] 52):=⟨_,rfl⟩;rw [<-hW7] at HA ⊢;clear hW7 hg7 x0 x1 x2 HX;have y0:=(HA.out.blk 0 rfl).cell 0;have y1:=(HA.out.blk 0 rfl).cell 1;have y2:=(HA.out.blk 0 rfl).cell 2;have d0:=(HA.out.blk 2 rfl).cell 0;have d1:=(HA.out.blk 2 rfl).cell 1;have d2:=(HA.out.blk 2 rfl).cell 2;cases hb:aP ⟨xk,xr,0⟩ ⟨2,1,0⟩
     ·have HB:=aA hb;exact tX42
     ·have HR:=aA (HZ5.out (HT5.out.symm.trans (z0H.2 ⟨_,(by simp [dU]:(⟨2,1,0⟩:Opd)∈dU 5 0),hb⟩)));go_wp2;go_ret;exact ⟨by rw [HR.out];rfl,HA.out.below⟩
    ·have x0:=(HX.out.blk 0 rfl).cell 6;have x1:=(HX.out.blk 0 rfl).cell 7;have x2:=(HX.out.blk 0 rfl).cell 8;have HA:=aA (HX.out.new 52 #[.int .i64 3,.int .i64 5,.int .i64 0]);go_upto_region 11 with fail;obtain ⟨g7,hg7⟩:∃g,wr.heap.size=g:=⟨_,rfl⟩;rw [hg7] at HA ⊢;obtain ⟨W7,hW7⟩:∃W:World,W=wr.alloc (.cells #[.int .i64 3,.int .i64 5,.int .i64 0] 52):=⟨_,rfl⟩;rw [<-hW7] at HA ⊢;clear hW7 hg7 x0 x1 x2 HX;have y0:=(HA.out.blk 0 rfl).cell 0;have y1:=(HA.out.blk 0 rfl).cell 1;have y2:=(HA.out.blk 0 rfl).cell 2;have d0:=(HA.out.blk 2 rfl).cell 0;have d1:=(HA.out.blk 2 rfl).cell 1;have d2:=(HA.out.blk 2 rfl).cell 2;cases hb:aP ⟨xk,xr,0⟩ ⟨3,5,0⟩
     ·have HB:=aA hb;exact tX43
     ·have HR:=aA (HZ5.out (HT5.out.symm.trans (z0H.2 ⟨_,(by simp [dU]:(⟨3,5,0⟩:Opd)∈dU 5 0),hb⟩)));go_wp2;go_ret;exact ⟨by rw [HR.out];rfl,HA.out.below⟩
    ·have x0:=(HX.out.blk 0 rfl).cell 9;have x1:=(HX.out.blk 0 rfl).cell 10;have x2:=(HX.out.blk 0 rfl).cell 11;have HA:=aA (HX.out.new 52 #[.int .i64 4,.int .i64 5,.int .i64 0]);go_upto_region 11 with fail;obtain ⟨g7,hg7⟩:∃g,wr.heap.size=g:=⟨_,rfl⟩;rw [hg7] at HA ⊢;obtain ⟨W7,hW7⟩:∃W:World,W=wr.alloc (.cells #[.int .i64 4,.int .i64 5,.int .i64 0] 52):=⟨_,rfl⟩;rw [<-hW7] at HA ⊢;clear hW7 hg7 x0 x1 x2 HX;have y0:=(HA.out.blk 0 rfl).cell 0;have y1:=(HA.out.blk 0 rfl).cell 1;have y2:=(HA.out.blk 0 rfl).cell 2;have d0:=(HA.out.blk 2 rfl).cell 0;have d1:=(HA.out.blk 2 rfl).cell 1;have d2:=(HA.out.blk 2 rfl).cell 2;cases hb:aP ⟨xk,xr,0⟩ ⟨4,5,0⟩
     ·have HB:=aA hb;exact tX44
     ·have HR:=aA (HZ5.out (HT5.out.symm.trans (z0H.2 ⟨_,(by simp [dU]:(⟨4,5,0⟩:Opd)∈dU 5 0),hb⟩)));go_wp2;go_ret;exact ⟨by rw [HR.out];rfl,HA.out.below⟩
    ·have x0:=(HX.out.blk 0 rfl).cell 12;have x1:=(HX.out.blk 0 rfl).cell 13;have x2:=(HX.out.blk 0 rfl).cell 14;have HA:=aA (HX.out.new 52 #[.int .i64 5,.int .i64 5,.int .i64 0]);go_upto_region 11 with fail;obtain ⟨g7,hg7⟩:∃g,wr.heap.size=g:=⟨_,rfl⟩;rw [hg7] at HA ⊢;obtain ⟨W7,hW7⟩:∃W:World,W=wr.alloc (.cells #[.int .i64 5,.int .i64 5,.int .i64 0] 52):=⟨_,rfl⟩;rw [<-hW7] at HA ⊢;clear hW7 hg7 x0 x1 x2 HX;have y0:=(HA.out.blk 0 rfl).cell 0;have y1:=(HA.out.blk 0 rfl).cell 1;have y2:=(HA.out.blk 0 rfl).cell 2;have d0:=(HA.out.blk 2 rfl).cell 0;have d1:=(HA.out.blk 2 rfl).cell 1;have d2:=(HA.out.blk 2 rfl).cell 2;cases hb:aP ⟨xk,xr,0⟩ ⟨5,5,0⟩
     ·have HB:=aA hb;exact tX45
     ·have HR:=aA (HZ5.out (HT5.out.symm.trans (z0H.2 ⟨_,(by simp [dU]:(⟨5,5,0⟩:Opd)∈dU 5 0),hb⟩)));go_wp2;go_ret;exact ⟨by rw [HR.out];rfl,HA.out.below⟩
    ·obtain rfl:j=0:=(by omega);go_wp2;go_roundw;case rel=>exact ⟨1,0,by omega,by go_num,λ_=>HT5.out.symm.trans HP.out,λh=>absurd h (by omega),HX.out.drop,(HX.out.blk 2 rfl).lt⟩
     case measure=>simp [intOf]
  rcases k with _ | k
  ·have HN:=aA (HS.out.new' 52 #[.int .i64 2,.int .i64 2,.int .i64 0,.int .i64 2,.int .i64 3,.int .i64 0,.int .i64 3,.int .i64 6,.int .i64 0,.int .i64 4,.int .i64 6,.int .i64 0,.int .i64 5,.int .i64 6,.int .i64 0] (yY _ _ _));have HGL:=aA HLT.out;go_wp2;obtain ⟨g,hg⟩:∃g,wr.heap.size=g:=⟨_,rfl⟩;rw [hg] at HN HGL ⊢;obtain ⟨W5,hW5⟩:∃W:World,W=(wr.setCell ⟨w.heap.size,2,none⟩ (.int .i64 0)).alloc (.cells #[.int .i64 2,.int .i64 2,.int .i64 0,.int .i64 2,.int .i64 3,.int .i64 0,.int .i64 3,.int .i64 6,.int .i64 0,.int .i64 4,.int .i64 6,.int .i64 0,.int .i64 5,.int .i64 6,.int .i64 0] 52):=⟨_,rfl⟩;rw [<-hW5] at HN ⊢;clear hW5 hg c0 c1 o2 f2 HS HX HLT;go_loopw [34] (λi wx=>∃(j:Nat),j<=5/\i=.int .i64 j/\((dU 6 2).take j).any (aP ⟨xk,xr,0⟩)=false/\Fr w [(g,52,#[.int .i64 2,.int .i64 2,.int .i64 0,.int .i64 2,.int .i64 3,.int .i64 0,.int .i64 3,.int .i64 6,.int .i64 0,.int .i64 4,.int .i64 6,.int .i64 0,.int .i64 5,.int .i64 6,.int .i64 0]),(w.heap.size,52,#[.int .i64 xk,.int .i64 xr,.int .i64 0]),(b2,3,#[.int .i64 5,.int .i64 6])] wx) (λi _=>5 - (intOf i).toNat);case atStart=>exact ⟨0,by omega,rfl,rfl,HN.out⟩
   case round=>
    obtain ⟨j,hj,rfl,hp,hfr⟩:=hrel;have HP:=aA hp;have HX:=aA hfr;clear hp hfr;rcases j with _ | _ | _ | _ | _ | j
    ·have x0:=(HX.out.blk 0 rfl).cell 0;have x1:=(HX.out.blk 0 rfl).cell 1;have x2:=(HX.out.blk 0 rfl).cell 2;have HA:=aA (HX.out.new 52 #[.int .i64 2,.int .i64 2,.int .i64 0]);go_upto_region 11 with fail;obtain ⟨g7,hg7⟩:∃g,wr.heap.size=g:=⟨_,rfl⟩;rw [hg7] at HA ⊢;obtain ⟨W7,hW7⟩:∃W:World,W=wr.alloc (.cells #[.int .i64 2,.int .i64 2,.int .i64 0] 52):=⟨_,rfl⟩;rw [<-hW7] at HA ⊢;clear hW7 hg7 x0 x1 x2 HX;have y0:=(HA.out.blk 0 rfl).cell 0;have y1:=(HA.out.blk 0 rfl).cell 1;have y2:=(HA.out.blk 0 rfl).cell 2;have d0:=(HA.out.blk 2 rfl).cell 0;have d1:=(HA.out.blk 2 rfl).cell 1;have d2:=(HA.out.blk 2 rfl).cell 2;cases hb:aP ⟨xk,xr,0⟩ ⟨2,2,0⟩
     ·have HB:=aA hb;exact tX5a
     ·have HR:=aA ((HZ6.out (HK1.out (by omega))) (HT6.out.symm.trans (z0H.2 ⟨_,(by simp [dU]:(⟨2,2,0⟩:Opd)∈dU 6 2),hb⟩)));go_wp2;go_ret;exact ⟨by rw [HR.out];rfl,HA.out.below⟩
    ·have x0:=(HX.out.blk 0 rfl).cell 3;have x1:=(HX.out.blk 0 rfl).cell 4;have x2:=(HX.out.blk 0 rfl).cell 5;have HA:=aA (HX.out.new 52 #[.int .i64 2,.int .i64 3,.int .i64 0]);go_upto_region 11 with fail;obtain ⟨g7,hg7⟩:∃g,wr.heap.size=g:=⟨_,rfl⟩;rw [hg7] at HA ⊢;obtain ⟨W7,hW7⟩:∃W:World,W=wr.alloc (.cells #[.int .i64 2,.int .i64 3,.int .i64 0] 52):=⟨_,rfl⟩;rw [<-hW7] at HA ⊢;clear hW7 hg7 x0 x1 x2 HX;have y0:=(HA.out.blk 0 rfl).cell 0;have y1:=(HA.out.blk 0 rfl).cell 1;have y2:=(HA.out.blk 0 rfl).cell 2;have d0:=(HA.out.blk 2 rfl).cell 0;have d1:=(HA.out.blk 2 rfl).cell 1;have d2:=(HA.out.blk 2 rfl).cell 2;cases hb:aP ⟨xk,xr,0⟩ ⟨2,3,0⟩
     ·have HB:=aA hb;exact tX42
     ·have HR:=aA ((HZ6.out (HK1.out (by omega))) (HT6.out.symm.trans (z0H.2 ⟨_,(by simp [dU]:(⟨2,3,0⟩:Opd)∈dU 6 2),hb⟩)));go_wp2;go_ret;exact ⟨by rw [HR.out];rfl,HA.out.below⟩
    ·have x0:=(HX.out.blk 0 rfl).cell 6;have x1:=(HX.out.blk 0 rfl).cell 7;have x2:=(HX.out.blk 0 rfl).cell 8;have HA:=aA (HX.out.new 52 #[.int .i64 3,.int .i64 6,.int .i64 0]);go_upto_region 11 with fail;obtain ⟨g7,hg7⟩:∃g,wr.heap.size=g:=⟨_,rfl⟩;rw [hg7] at HA ⊢;obtain ⟨W7,hW7⟩:∃W:World,W=wr.alloc (.cells #[.int .i64 3,.int .i64 6,.int .i64 0] 52):=⟨_,rfl⟩;rw [<-hW7] at HA ⊢;clear hW7 hg7 x0 x1 x2 HX;have y0:=(HA.out.blk 0 rfl).cell 0;have y1:=(HA.out.blk 0 rfl).cell 1;have y2:=(HA.out.blk 0 rfl).cell 2;have d0:=(HA.out.blk 2 rfl).cell 0;have d1:=(HA.out.blk 2 rfl).cell 1;have d2:=(HA.out.blk 2 rfl).cell 2;cases hb:aP ⟨xk,xr,0⟩ ⟨3,6,0⟩
     ·have HB:=aA hb;exact tX43
     ·have HR:=aA ((HZ6.out (HK1.out (by omega))) (HT6.out.symm.trans (z0H.2 ⟨_,(by simp [dU]:(⟨3,6,0⟩:Opd)∈dU 6 2),hb⟩)));go_wp2;go_ret;exact ⟨by rw [HR.out];rfl,HA.out.below⟩
    ·have x0:=(HX.out.blk 0 rfl).cell 9;have x1:=(HX.out.blk 0 rfl).cell 10;have x2:=(HX.out.blk 0 rfl).cell 11;have HA:=aA (HX.out.new 52 #[.int .i64 4,.int .i64 6,.int .i64 0]);go_upto_region 11 with fail;obtain ⟨g7,hg7⟩:∃g,wr.heap.size=g:=⟨_,rfl⟩;rw [hg7] at HA ⊢;obtain ⟨W7,hW7⟩:∃W:World,W=wr.alloc (.cells #[.int .i64 4,.int .i64 6,.int .i64 0] 52):=⟨_,rfl⟩;rw [<-hW7] at HA ⊢;clear hW7 hg7 x0 x1 x2 HX;have y0:=(HA.out.blk 0 rfl).cell 0;have y1:=(HA.out.blk 0 rfl).cell 1;have y2:=(HA.out.blk 0 rfl).cell 2;have d0:=(HA.out.blk 2 rfl).cell 0;have d1:=(HA.out.blk 2 rfl).cell 1;have d2:=(HA.out.blk 2 rfl).cell 2;cases hb:aP ⟨xk,xr,0⟩ ⟨4,6,0⟩
     ·have HB:=aA hb;exact tX44
     ·have HR:=aA ((HZ6.out (HK1.out (by omega))) (HT6.out.symm.trans (z0H.2 ⟨_,(by simp [dU]:(⟨4,6,0⟩:Opd)∈dU 6 2),hb⟩)));go_wp2;go_ret;exact ⟨by rw [HR.out];rfl,HA.out.below⟩
    ·have x0:=(HX.out.blk 0 rfl).cell 12;have x1:=(HX.out.blk 0 rfl).cell 13;have x2:=(HX.out.blk 0 rfl).cell 14;have HA:=aA (HX.out.new 52 #[.int .i64 5,.int .i64 6,.int .i64 0]);go_upto_region 11 with fail;obtain ⟨g7,hg7⟩:∃g,wr.heap.size=g:=⟨_,rfl⟩;rw [hg7] at HA ⊢;obtain ⟨W7,hW7⟩:∃W:World,W=wr.alloc (.cells #[.int .i64 5,.int .i64 6,.int .i64 0] 52):=⟨_,rfl⟩;rw [<-hW7] at HA ⊢;clear hW7 hg7 x0 x1 x2 HX;have y0:=(HA.out.blk 0 rfl).cell 0;have y1:=(HA.out.blk 0 rfl).cell 1;have y2:=(HA.out.blk 0 rfl).cell 2;have d0:=(HA.out.blk 2 rfl).cell 0;have d1:=(HA.out.blk 2 rfl).cell 1;have d2:=(HA.out.blk 2 rfl).cell 2;cases hb:aP ⟨xk,xr,0⟩ ⟨5,6,0⟩
     ·have HB:=aA hb;exact tX45
     ·have HR:=aA ((HZ6.out (HK1.out (by omega))) (HT6.out.symm.trans (z0H.2 ⟨_,(by simp [dU]:(⟨5,6,0⟩:Opd)∈dU 6 2),hb⟩)));go_wp2;go_ret;exact ⟨by rw [HR.out];rfl,HA.out.below⟩
    ·obtain rfl:j=0:=(by omega);go_wp2;go_roundw;case rel=>exact ⟨2,0,by omega,by go_num,λ_=>HK1.out (by omega),λ_=>HT6.out.symm.trans HP.out,HX.out.drop,(HX.out.blk 2 rfl).lt⟩
     case measure=>simp [intOf]
  ·obtain rfl:k=0:=(by omega);have HR:=aA (HZ0.out (HK1.out (by omega)) (HK2.out (by omega)));go_wp2;go_ret;exact ⟨by rw [HR.out];rfl,HX.out.below⟩
set_option maxHeartbeats 4000000
def eI:List Opd->List Int
 | []=>[0,1,2]
 | o::r=>if kQ (z0 o)=5 then [3,5] else if kQ (z0 o)=6 then [4,6] else eI r
theorem KZ (s:ByteArray) (l:List Opd) (p:aB) (v:Value) (w:World) (h:SlR aM w p v l):
  Calls Tryz.prog 199 #[.agg #[.string s,v]] w λe w'=>∃v',e=.returned v'/\SlR oO w' (λb=>w.heap.size<=b) v' (eI l)/\Below w.heap.size w w':=by
 have hl:=h.len_le;have HS:=aA h;obtain ⟨va,vc,rfl⟩:∃a c,v=.slice a l.length c:=by obtain ⟨a,c,e,_⟩:=h;exact ⟨a,c,e⟩
 clear h;have HF:=aA ((Fr.start w).new 30 #[.string s,.slice va l.length vc]);obtain ⟨W0,hW0⟩:∃W0:World,W0=w.alloc (.cells #[.string s,.slice va l.length vc] 30):=⟨_,rfl⟩;rw [<-hW0] at HF;go_enter Tryz.func199,Tryz.ntmps199;go_upto_region 1 with fail;rw [<-hW0];clear hW0;have e1:=(HF.out.blk 0 rfl).cell 1;go_wp2;go_loopw [8] (λi wx=>∃(k:Nat),k<=l.length/\i=.int .i64 k/\eI l=eI (l.drop k)/\Fr w [(w.heap.size,30,#[.string s,.slice va l.length vc])] wx) (λi _=>l.length - (intOf i).toNat);case atStart=>exact ⟨0,by omega,rfl,by rw [List.drop_zero],HF.out⟩
 case round=>
  obtain ⟨k,hk,rfl,hp,hfr⟩:=hrel;have HP:=aA hp;have HX:=aA hfr;have HSX:=aA (HS.out.below hfr.below);clear hp hfr e1;by_cases hlt:k < l.length
  ·obtain ⟨a1,c1,e6,_,_,g1⟩:=HSX.out.opd;injection e6 with e6 e8 e9;clear e8;subst e6 e9;obtain ⟨b1,o1,rfl,_,x0,x1,x2⟩:=g1 k l[k] (zL hlt);have hq:eI l=if kQ (z0 l[k])=5 then [3,5] else if kQ (z0 l[k])=6 then [4,6] else eI (l.drop (k+1)):=(by rw [HP.out,ZX hlt];rfl);have HQ5:=aA (show kQ (z0 l[k])=5->eI l=[3,5] from λh=>by rw [hq,if_pos h]);have HQ6:=aA (show ¬kQ (z0 l[k])=5->kQ (z0 l[k])=6->eI l=[4,6] from λh h2=>by rw [hq,if_neg h,if_pos h2]);have HQ0:=aA (show ¬kQ (z0 l[k])=5->¬kQ (z0 l[k])=6->eI l=eI (l.drop (k+1)) from λh h2=>by rw [hq,if_neg h,if_neg h2]);clear hq;clear g1 HP;generalize l[k]=x at *;obtain ⟨xk,xr,xn⟩:=x;dsimp only [z0] at *;have HA:=aA (HX.out.new 52 #[.int .i64 xk,.int .i64 xr,.int .i64 xn]);have HI:=aA (λW=>FY ⟨xk,xr,0⟩ W);generalize kQ ⟨xk,xr,0⟩=I at *;go_upto_region 4 with fail;obtain ⟨g7,hg7⟩:∃g,wr.heap.size=g:=⟨_,rfl⟩;rw [hg7] at HA ⊢;obtain ⟨W7,hW7⟩:∃W:World,W=wr.alloc (.cells #[.int .i64 xk,.int .i64 xr,.int .i64 xn] 52):=⟨_,rfl⟩;rw [<-hW7] at HA ⊢;clear hW7 hg7 x0 x1 x2 HX HSX;have y0:=(HA.out.blk 0 rfl).cell 0;have y1:=(HA.out.blk 0 rfl).cell 1;go_upto_region 5 with (go_at_call 235;refine (HI.out _).mono ?_;rintro e w8 ⟨rfl,hb8⟩;have HB:=aA (HA.out.drop.next hb8);clear hb8);by_cases h5:I=5
   ·have HQ:=aA (HQ5.out h5);subst h5;go_wp2;go_ret;refine ⟨_,rfl,?_,(HB.out.alloc _).below⟩;rw [HQ.out];exact fS w8 3 _ [3,5] _ 2 rfl rfl (by decide) (λk hk=>qJ HB.out.size hk)
   have HR6:=aA (HQ6.out h5);have HR0:=aA (HQ0.out h5);clear HQ5 HQ6 HQ0;have b5:(I==5)=false:=(by rw [yW];exact h5);clear h5;by_cases h6:I=6
   ·have HQ:=aA (HR6.out h6);subst h6;go_wp2;go_ret;refine ⟨_,rfl,?_,(HB.out.alloc _).below⟩;rw [HQ.out];exact fS w8 3 _ [4,6] _ 2 rfl rfl (by decide) (λk hk=>qJ HB.out.size hk)
   have HQ:=aA (HR0.out h6);clear HR6 HR0;have b6:(I==6)=false:=(by rw [yW];exact h6);clear h6;go_wp2;go_roundw;case rel=>exact ⟨k+1,by omega,by go_num,HQ.out,HB.out⟩
   case measure=>simp [intOf];omega
  ·have HQ:Hid (eI l=[0,1,2]):=aA (by rw [HP.out,VA (by omega)];rfl);go_wp2;go_ret;refine ⟨_,rfl,?_,(HX.out.alloc _).below⟩;rw [HQ.out];exact fS wr 3 _ [0,1,2] _ 3 rfl rfl (by decide) (λk hk=>qJ HX.out.size hk)
theorem sL (s:ByteArray) (u:Value) (w:World):
  Calls Tryz.prog 143 #[.agg #[.string s,u]] w λe w'=>e=.returned (.func (.func 197) #[] #[.pointer (some ⟨w.heap.size,0,none⟩)])/\w'=w.alloc (.cells #[.string s,u] 30):=by
 have hmf:∀(fn:Fn) (first cap:Array Value) (w:World),(Instr.makeFunc fn first cap).run Tryz.prog w=.ok (.func fn first cap) w:=λ_ _ _ _=>rfl;go_enter Tryz.func143,Tryz.ntmps143;go_wp2;go_ret;exact ⟨rfl,rfl⟩
end Go.Proofs.YtpigbggoiipmhaaGreatDoor
namespace Go.Proofs.YtpigbggoiipmhaaGreatDoor
open Go.RowKit
attribute [local go_sem] Oper.semAt_some
section
variable {α:Type} {F:Fence} {n:Nat} {P:Program}
def zT (F:Fence) (n:Nat) (P:Program) (gf:Nat) (lb:Array Value) (encs:α->Array Value) (T:World->World->Prop) (Rx:List α->α->World->Prop) (S Sp:List α->Prop) (w0:World):Prop:=
 ∀(l:Nat) (J Jx:List α->World->Prop) (W:World),Below w0.heap.size w0 W->(∀s A B,J s A->Below A.heap.size A B->J s B)->(∀s A B,Jx s A->Below A.heap.size A B->Jx s B)->
  (∀pre x W1,J pre W1->Rx pre x W1->YieldAt F (n - 1) P l (encs x) W1 λe W'=>(e=.returned (.bool true)/\J (pre++[x]) W'/\T W1 W')\/(e=.returned (.bool false)/\Jx (pre++[x]) W'))->
  J [] W->CallsIn F n P gf (#[.func (.yield l) #[] #[]]++lb) W λe W'=>(∃v,e=.returned v)/\((∃xs,S xs/\J xs W')\/(∃pre,Sp pre/\Jx pre W'))
structure eE (B:Nat) (A C:World):Prop where
 size:A.heap.size<=C.heap.size
 same:∀(k:Nat) (o:Obj),B<=k->A.heap[k]?=some o->o.isCells=false->C.heap[k]?=some o
theorem eE.refl (B:Nat) (A:World):eE B A A:=⟨zI _,λ_ _ _ h _=>h⟩
theorem eE.below {B:Nat} {A C:World} (h:Below A.heap.size A C):eE B A C:=⟨h.size,λk _ _ hk _=>(h.block k (jN.1 hk).1).trans hk⟩
theorem eE.trans {B:Nat} {X Y Z:World} (h:eE B X Y) (k:eE B Y Z):eE B X Z:=⟨qJ h.size k.size,λi o hB hi ho=>k.same i o hB (h.same i o hB hi ho) ho⟩
theorem eE.setCell {B:Nat} {A:World} {b:Nat} {t:TypeId} {cs:Array Value} (h:Blk A b t cs) (j:Nat) (v:Value):eE B A (A.setCell ⟨b,j,none⟩ v):=⟨by rw [yY];exact zI _,λk o _ hk ho=>by refine (xV _ _ _ _ (λe=>?_)).trans hk;have e:k=b:=e;subst e;have h2:A.heap[k]?=some (.cells cs t (0,0)):=h;rw [h2] at hk;injection hk with hk;subst hk;cases ho⟩
def KQ (B:Nat) (T:World->World->Prop) (I:List α->World->Prop) (Ix:Code->List α->World->Prop) (xs:List α) (W:World):Exit->Act->World->Prop
 | .normal,_,W'=>eE B W W'/\T W W'/\I xs W'
 | .ret,_,W'=>eE B W W'/\Ix .ret xs W'
 | .exit id,_,W'=>eE B W W'/\Ix (.exit id) xs W'
 | .goto t,_,W'=>eE B W W'/\Ix (.goto t) xs W'
 | _,_,_=>False
theorem cU {W:World} {l:Nat} (o':Obj):W.grownBy (W.putObj l o') (some l):=⟨rfl,rfl,rfl,by simp [World.putObj],λk _ hk=>QU (λe=>hk (by rw [e]))⟩
theorem fW {g:Operand} {ps:Array Tmp} {assign body:Code} {Q:Exit->Act->World->Prop} {a:Act} {w:World}
  (hro:F.round=none) (h1:1<=n) {gf:Nat} {lb:Array Value} (hg:a.eval g=.func (.func gf) #[] lb) (hFg:F.fn gf) (eg:∀args w,(callFunc gf args).run P w=.ok (.enter gf args) w)
  {encs:α->Array Value} (hps:∀x,(encs x).size=ps.size) {T:World->World->Prop} {Rx:List α->α->World->Prop} {S Sp:List α->Prop} (hseq:zT F (n - 1) P gf lb encs T Rx S Sp w)
  (hTt:∀{A B C:World},T A B->T B C->T A C) (hTp:∀(W:World) (l:Nat) (o o':Obj),W.heap[l]?=some o->o.isCells=false->T W (W.putObj l o'))
  (I:List α->World->Prop) (Ix:Code->List α->World->Prop) (hI:OwnFrom w.heap.size I) (hIx:∀c,OwnFrom w.heap.size (Ix c)) (h0:I [] w) (Ax:List α->α->Act->World->Prop)
  (hAx:∀s x a' (W:World) (l:Nat) (o o':Obj),Ax s x a' W->w.heap.size<=l->W.heap[l]?=some o->o.isCells=false->Ax s x a' (W.putObj l o'))
  (hassign:∀(l:Nat) (pre:List α) (x:α) (W:World) (K:Act->World->Prop),I pre W->Rx pre x W->(∀a' W',eE w.heap.size W W'->T W W'->I pre W'->Ax pre x a' W'->K a' W')->
   assign.wpIn (F.inRound l) (n - 1 - 1) P (Exit.then K (λ_ _ _=>False)) {tmps:=(ps.zip (encs x)).foldl (λt (p,v)=>t.setIfInBounds p v) a.tmps,defers:=[]} W)
  (hbody:∀(l:Nat) (pre:List α) (x:α) (a':Act) (W:World),w.heap.size<=l->I pre W->Ax pre x a' W->body.wpIn (F.inRound l) (n - 1 - 1) P (KQ w.heap.size T I Ix (pre++[x]) W) a' W)
  (hdone:∀(D:Nat) (xs:List α) (W:World),w.heap.size<=D->S xs->I xs W->W.heap[D]?=some (.deferred (some []))->Q .normal {a with defers:={target:=.collected D,args:=#[]}::a.defers} W)
  (hstop:∀(D:Nat) (c:Code) (pre:List α) (W:World),w.heap.size<=D->Sp pre->Ix c pre W->W.heap[D]?=some (.deferred (some []))->c.wpIn F n P Q {a with defers:={target:=.collected D,args:=#[]}::a.defers} W):
  (Code.rangeFunc g ps assign body).wpIn F n P Q a w:=by
 refine wpIn_rangeFunc ?_;intro fn hfn;rw [hro];let rec_:LoopState->Option Code->Loop:=λst pe=>{state:=st,pending:=pe,fn,tmps:=a.tmps,params:=ps,assign,body,defers:=w.heap.size};let D:=w.heap.size;let L:=w.heap.size+1;let W1:=(w.alloc (.deferred (some []))).alloc (.loop (rec_ .ready none));have hL1:W1.heap[L]?=some (.loop (rec_ .ready none)):=by have:=World.alloc_heap_new (w.alloc (.deferred (some []))) (.loop (rec_ .ready none));rwa [zW] at this
 have hD1:W1.heap[D]?=some (.deferred (some [])):=(z1S _ _ _ (by simp [D])).trans (World.alloc_heap_new w _);have hB1:Below w.heap.size w W1:=((zY _ w).alloc (zI _) _).alloc (by simp) _;have hstay:∀{K:List α->World->Prop},OwnFrom w.heap.size K->∀s A B,K s A->Below A.heap.size A B->K s B:=λhK s A B hs hb=>hK s A B none hs ⟨hb.os,hb.tape,hb.output,hb.size,λk hk _=>hb.block k hk⟩ (λr e=>by cases e);have hrec:∀{K:List α->World->Prop},OwnFrom w.heap.size K->∀{s:List α} {A:World} (o o':Obj),K s A->A.heap[L]?=some o->o.isCells=false->K s (A.putObj L o'):=λhK _ _ o o' hs ho hc=>hK _ _ _ (some L) hs (cU o') (λr e=>by injection e with e;subst e;exact ⟨jQ _,o,ho,hc⟩);refine ⟨L,[{target:=.collected D,args:=#[]}],W1,{target:=.fn (.func gf) lb,args:=#[.func (.yield L) #[] #[]]},W1,gf,#[.func (.yield L) #[] #[]]++lb,W1,run_enterLoop_outer _ _ _ _ _,?_,?_,?_,λ_=>h1,?_⟩
 ·simp only [resolve,hg];simp [go_sem]
 ·intro f' hf';simp [Target.leads] at hf';subst hf';exact hFg
 ·simp [invoke,go_sem,eg]
 refine (hseq L (λs W=>I s W/\W.heap[L]?=some (.loop (rec_ .ready none))/\W.heap[D]?=some (.deferred (some [])))
  (λs W=>∃c,Ix c s W/\W.heap[L]?=some (.loop (rec_ .done (some c)))/\W.heap[D]?=some (.deferred (some []))) W1 hB1
  (λs A B hs hb=>⟨hstay hI s A B hs.1 hb,(hb.block _ (jN.1 hs.2.1).1).trans hs.2.1,(hb.block _ (jN.1 hs.2.2).1).trans hs.2.2⟩)
  (λs A B hs hb=>by obtain ⟨c,h1,h2,h3⟩:=hs;exact ⟨c,hstay (hIx c) s A B h1 hb,(hb.block _ (jN.1 h2).1).trans h2,(hb.block _ (jN.1 h3).1).trans h3⟩)
  ?_ ⟨hstay hI _ _ _ h0 hB1,hL1,hD1⟩).mono ?_
 ·
  rintro pre x W ⟨hi,hl,hd⟩ hx;refine ⟨fn,_,assign,body,run_yield (P:=P) (args:=encs x) hl (hps x),roundIn_of_wpIn hfn (hassign _ pre x W _ hi hx ?_)⟩;intro a' Wa hka hTa hia haa;have hla:=hka.same _ _ (jQ _) hl rfl;have hda:=hka.same _ _ (zI _) hd rfl;refine ⟨_,run_beginRound hla rfl,?_⟩;have hLlt:L < Wa.heap.size:=(jN.1 hla).1;have hlb:(Wa.putObj L (.loop {rec_ .ready none with state:=.busy})).heap[L]?=some (.loop {rec_ .ready none with state:=.busy}):=z1W hLlt;have hdb:(Wa.putObj L (.loop {rec_ .ready none with state:=.busy})).heap[D]?=some (.deferred (some [])):=(QU (by show D≠L;omega)).trans hda;refine wpIn_mono (hbody _ pre x a' _ (jQ _) (hrec hI _ _ hia hla rfl) (hAx pre x a' _ _ _ _ haa (jQ _) hla rfl)) ?_;rintro e a3 W3 hp;have fin:∀(jump:Option Code),eE w.heap.size (Wa.putObj L (.loop {rec_ .ready none with state:=.busy})) W3->
    (Instr.endRound L jump).run P W3=.ok (.bool jump.isNone) (W3.putObj L (.loop (rec_ (if jump.isNone then .ready else .done) jump)))/\W3.heap[L]?=some (.loop {rec_ .ready none with state:=.busy})/\
    (W3.putObj L (.loop (rec_ (if jump.isNone then .ready else .done) jump))).heap[L]?=some (.loop (rec_ (if jump.isNone then .ready else .done) jump))/\
    (W3.putObj L (.loop (rec_ (if jump.isNone then .ready else .done) jump))).heap[D]?=some (.deferred (some [])):=λjump hk3=>by
   have hl3:=hk3.same _ _ (jQ _) hlb rfl;exact ⟨run_endRound (P:=P) jump hl3,hl3,z1W (jN.1 hl3).1,(QU (by show D≠L;omega)).trans (hk3.same _ _ (zI _) hdb rfl)⟩
  cases e with
  | normal=>obtain ⟨hk3,hT3,hi3⟩:=hp;obtain ⟨hr,hl3,hl4,hd4⟩:=fin none hk3;exact ⟨_,_,hr,.inl ⟨rfl,⟨hrec hI _ _ hi3 hl3 rfl,hl4,hd4⟩,hTt hTa (hTt (hTt (hTp _ _ _ _ hla rfl) hT3) (hTp _ _ _ _ hl3 rfl))⟩⟩
  | ret=>obtain ⟨hk3,hi3⟩:=hp;obtain ⟨hr,hl3,hl4,hd4⟩:=fin (some .ret) hk3;exact ⟨_,_,hr,.inr ⟨rfl,.ret,hrec (hIx _) _ _ hi3 hl3 rfl,hl4,hd4⟩⟩
  | exit id=>obtain ⟨hk3,hi3⟩:=hp;obtain ⟨hr,hl3,hl4,hd4⟩:=fin (some (.exit id)) hk3;exact ⟨_,_,hr,.inr ⟨rfl,.exit id,hrec (hIx _) _ _ hi3 hl3 rfl,hl4,hd4⟩⟩
  | goto t=>obtain ⟨hk3,hi3⟩:=hp;obtain ⟨hr,hl3,hl4,hd4⟩:=fin (some (.goto t)) hk3;exact ⟨_,_,hr,.inr ⟨rfl,.goto t,hrec (hIx _) _ _ hi3 hl3 rfl,hl4,hd4⟩⟩
  | panic ch=>exact hp.elim
  | outgrown=>exact hp.elim
 ·
  rintro e W2 ⟨⟨v,rfl⟩,(⟨xs,hS,hi,hl,hd⟩ | ⟨pre,hSp,c,hi,hl,hd⟩)⟩
  ·exact ⟨none,_,run_endLoop (P:=P) hl (by simp [rec_]),hdone _ xs _ (zI _) hS (hrec hI _ _ hi hl rfl) ((QU (by show D≠L;omega)).trans hd)⟩
  ·exact ⟨some c,_,run_endLoop (P:=P) hl (by simp [rec_]),hstop _ c pre _ (zI _) hSp (hrec (hIx c) _ _ hi hl rfl) ((QU (by show D≠L;omega)).trans hd)⟩
def Tk (p:Nat->Prop) (W W':World):Prop:=∀k o,p k->W.heap[k]?=some o->o.isCells=true->W'.heap[k]?=some o
theorem Tk.refl {p:Nat->Prop} {A:World}:Tk p A A:=λ_ _ _ h _=>h
theorem Tk.trans {p:Nat->Prop} {A B C:World} (h:Tk p A B) (k:Tk p B C):Tk p A C:=λi o hp hi hc=>k i o hp (h i o hp hi hc) hc
theorem Tk.put {p:Nat->Prop} (W:World) (l:Nat) (o o':Obj) (hl:W.heap[l]?=some o) (ho:o.isCells=false):Tk p W (W.putObj l o'):=λk q _ hk hc=>by refine (QU (λe=>?_)).trans hk;subst e;rw [hl] at hk;injection hk with hk;subst hk;rw [ho] at hc;cases hc
theorem Tk.below {p:Nat->Prop} {W W':World} (h:Below W.heap.size W W'):Tk p W W':=λk _ _ hk _=>(h.block k (jN.1 hk).1).trans hk
theorem Tk.setCell {p:Nat->Prop} {W:World} {b:Nat} (h:¬p b) (j:Nat) (v:Value):Tk p W (W.setCell ⟨b,j,none⟩ v):=λk o hp hk _=>(xV _ _ _ _ (λe=>h (by have e:k=b:=e;rw [<-e];exact hp))).trans hk
theorem Tk.blk {p:Nat->Prop} {W W':World} (h:Tk p W W') {b:Nat} {t:TypeId} {cs:Array Value} (hb:Blk W b t cs) (hp:p b):Blk W' b t cs:=h b _ hp hb rfl
theorem eR {B:Nat} {W W':World} {b:Nat} {t:TypeId} {cs:Array Value} {row:Option Nat} (h:Blk W b t cs) (hg:W.grownBy W' row) (hr:∀r,row=some r->B<=r/\∃o:Obj,W.heap[r]?=some o/\o.isCells=false):Blk W' b t cs:=(hg.block b h.lt (λe=>by obtain ⟨_,o,ho,hc⟩:=hr b e.symm;have hk:W.heap[b]?=some (.cells cs t (0,0)):=h;rw [hk] at ho;injection ho with ho;subst ho;cases hc)).trans h
end
end Go.Proofs.YtpigbggoiipmhaaGreatDoor
