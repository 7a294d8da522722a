/-
  Functions of the program and of the reference, walked; plain facts on what they compute. Conditions: sizes.
-/
import Derived.Test.YtpigbggoiipmhaaGreatDoorBC1
namespace Go.Proofs.YtpigbggoiipmhaaGreatDoor
set_option maxHeartbeats 16000000
set_option maxRecDepth 100000
open Go.RowKit Go.Shelf Go.Sort
theorem DW {w w1:World} {g b:Nat} (h:w.grownBy w1 (some g)) (hb:w.heap.size<=b) (o:Obj):w.grownBy (w1.putObj b o) (some g):=⟨h.os,h.tape,h.output,by rw [World.putObj_size];exact h.size,λk hk hr=>(QU (by omega)).trans (h.block k hk hr)⟩
theorem jL {w w1:World} {g:Nat} (h:w.grownBy w1 (some g)) (i:Nat) (v:Value):w.grownBy (w1.setCell ⟨g,i,none⟩ v) (some g):=⟨h.os,h.tape,h.output,by rw [yY];exact h.size,λk hk hr=>(xV _ _ _ _ (λe=>hr (by rw [e]))).trans (h.block k hk hr)⟩
theorem gN {w w1 w2:World} {g:Nat} (h:w.grownBy w1 (some g)) (h2:w1.grownBy w2 (some g)):w.grownBy w2 (some g):=fZ h h2
theorem GD {w:World} {g b:Nat} {t:TypeId} {cs:Array Value} (h:Blk w g t cs) (hb:g≠b) (o:Obj):Blk (w.putObj b o) g t cs:=(QU hb).trans h
theorem World.heap_setCell_iter {w:World} {ib g i:Nat} {ex:ByteArray} {j:Nat} {v:Value} (h:w.heap[ib]?=some (.stringIter ex j)) (hne:g≠ib):(w.setCell ⟨g,i,none⟩ v).heap[ib]?=some (.stringIter ex j):=(xV _ _ _ _ (λe=>hne e.symm)).trans h
def qN (w:World) (g:Nat) (E:Nat->Int->Int->Array Value) (L K:Nat) (r:Int × Int) (e:Ending) (w':World):Prop:=w.grownBy w' (some g)/\(if K<=L then e=.returned (.tuple #[])/\Blk w' g dC (E K r.1 r.2) else e=.panicked xA/\∃k d n,Blk w' g dC (E k d n))
theorem qN.no {w w':World} {g:Nat} {E:Nat->Int->Int->Array Value} {L K k:Nat} {r:Int × Int} {d n:Int} (h:¬K<=L) (hg:w.grownBy w' (some g)) (hb:Blk w' g dC (E k d n)):qN w g E L K r (.panicked xA) w':=⟨hg,by rw [if_neg h];exact ⟨rfl,k,d,n,hb⟩⟩
theorem qN.yes {w w':World} {g:Nat} {E:Nat->Int->Int->Array Value} {L K:Nat} {r:Int × Int} {v:Value} (h:K<=L) (hv:v=.tuple #[]) (hg:w.grownBy w' (some g)) (hb:Blk w' g dC (E K r.1 r.2)):qN w g E L K r (.returned v) w':=⟨hg,by rw [if_pos h,hv];exact ⟨rfl,hb⟩⟩
theorem xW (g:Nat) (a:Option Addr) (c:Nat) (vq:Value) (pg op:Int) (iop:ByteArray) (va:Value) (xb:ByteArray) (al:Bool) (ex:ByteArray) (hex:∀k (h:k<ex.size),rN ex[k]) (hes:ex.size<=1000) (p:aB) (l:List UInt8) (hp:∀b,p b->b≠g) (hl:l.length<=1000000) (k:Nat) (hk:k<=l.length) (d n:Int) (w:World)
  (h:Blk w g dC (dcC (.slice a l.length c) vq pg op iop va xb al k d n)) (hs:SlR aI w p (.slice a l.length c) l):
  Calls Tryz.prog 159 #[.pointer (some ⟨g,0,none⟩),.string ex] w (qN w g (dcC (.slice a l.length c) vq pg op iop va xb al) l.length (k+rdN ex.data.toList) (rdF ex.data.toList l k d n)):=by
 have HEX:=aA hex;have HES:=aA hes;have HP:=aA hp;have HL:=aA hl;have HK:=aA hk;have HB:=aA h;have HS:=aA hs;clear hex hes hp hl hk h hs;obtain ⟨E,hE⟩:∃E,E=dcC (.slice a l.length c) vq pg op iop va xb al:=⟨_,rfl⟩;rw [<-hE] at HB ⊢;have HE:=aA hE;clear hE;have HI:Hid ((w.iter ex 0).heap[w.heap.size]?=some (.stringIter ex 0)):=World.iter_heap w ex 0;have HG:Hid (w.grownBy (w.iter ex 0) (some g)):=aA (bZ g ((zY _ _).alloc (zI _) _));have HB0:Hid (Blk (w.iter ex 0) g dC (E k d n)):=aA (HB.out.alloc _);have HGL:Hid (g<w.heap.size):=HB.out.lt;go_enter Tryz.func159,Tryz.ntmps159;go_wp2;generalize w.iter ex 0=W0 at *;obtain ⟨ib,hib⟩:∃ib,ib=w.heap.size:=⟨_,rfl⟩;rw [<-hib];have HIB:=aA hib;have HNE:Hid (g≠ib):=aA (by have:=HGL.out;have:=HIB.out;omega);have HSG:Hid (∀W,w.grownBy W (some g)->SlR aI W p (.slice a l.length c) l):=aA (λW hW=>(HS.out.old.keep (aS.grown hW (λk hk=>⟨hk.2,λe=>HP.out k hk.1 (ZS e)⟩))).mono (λk hk=>hk.1));have HE0:Hid (∀k d n,(E k d n)[0]?=some (.slice a l.length c)):=aA (λk d n=>by rw [HE.out];rfl);have HE1:Hid (∀(k:Nat) d n,(E k d n)[1]?=some (.int .i64 k)):=aA (λk d n=>by rw [HE.out];rfl);have HE9:Hid (∀(k:Nat) d n,(E k d n)[9]?=some (.int .i64 d)):=aA (λk d n=>by rw [HE.out];rfl);have HE10:Hid (∀(k:Nat) d n,(E k d n)[10]?=some (.int .i64 n)):=aA (λk d n=>by rw [HE.out];rfl);have HS1:Hid (∀(k k':Nat) d n,(E k d n).setIfInBounds 1 (.int .i64 k')=E k' d n):=aA (λk k' d n=>by rw [HE.out];rfl);have HS9:Hid (∀(k:Nat) d d' n,(E k d n).setIfInBounds 9 (.int .i64 d')=E k d' n):=aA (λk d d' n=>by rw [HE.out];rfl);have HS10:Hid (∀(k:Nat) d n n',(E k d n).setIfInBounds 10 (.int .i64 n')=E k d n'):=aA (λk d n n'=>by rw [HE.out];rfl);clear HE HS HB hib;rw [<-HIB.out] at HI;go_loopw [5,6] (λ_ _ wr=>∃j kk dd nn,j<=ex.size/\wr.heap[ib]?=some (.stringIter ex j)/\w.grownBy wr (some g)/\Blk wr g dC (E kk dd nn)/\kk<=l.length/\kk+rdN (ex.data.toList.drop j)=k+rdN ex.data.toList/\rdF (ex.data.toList.drop j) l kk dd nn=rdF ex.data.toList l k d n) (λ_ _ wr=>pK wr ib);case atStart=>exact ⟨0,k,d,n,YD _,HI.out,HG.out,HB0.out,HK.out,rfl,rfl⟩
 case round=>
  obtain ⟨j,kk,dd,nn,hj,hi,hg,hb,hkk,hn,hr⟩:=hrel;clear HI HG HB0;have HB:=aA hb;have HG:=aA hg;have HN:=aA hn;have HR:=aA hr;have HML:=aA (dA hi);clear hg hb hn hr;by_cases hlt:j<ex.size
  ·have hlet:=HEX.out j hlt;have hnx:=λty=>rS (W:=wr) ty hi hlt (by rcases hlet with e|e|e|e<;>rw [e]<;>decide);have HI9:=aA (z1W (w:=wr) (r:=ib) (o:=.stringIter ex (j+1)) (jN.1 hi).1);have HB9:=aA (GD HB.out HNE.out (.stringIter ex (j+1)));have HG9:=aA (DW HG.out (Nat.le_of_eq HIB.out.symm) (.stringIter ex (j+1)));have HS9':=aA (HSG.out _ HG9.out);have HJ:=aA hlt;have HD:Hid (ex.data.toList.drop j=ex[j]::ex.data.toList.drop (j+1)):=aA (by rw [ZX (by simpa using hlt)];rfl);generalize hW9:wr.putObj ib (.stringIter ex (j+1))=W9 at *;clear hi HG HB hj hW9;generalize ex[j]=b9 at *;rcases hlet with rfl|rfl|rfl|rfl
   ·by_cases hk9:kk<l.length
    ·have HLT9:=aA hk9;have HR9:Hid (rdF (ex.data.toList.drop (j+1)) l (kk+1) (sg (bAt l kk)) nn=rdF ex.data.toList l k d n):=aA (HR.out.symm.trans (by rw [HD.out];rfl)).symm;have HN9:Hid (kk+1+rdN (ex.data.toList.drop (j+1))=k+rdN ex.data.toList):=aA (by rw [<-HN.out,HD.out,rdN,if_neg (by decide)];omega);have hw9:IntKind.i64.wrap (bAt l kk:Int)=bAt l kk:=(by have:=bT l kk;rw [IntKind.wrap_i64];omega);clear HR HN HD hk9
     go_wp2_with (first
      | (go_at_call 160;refine (dY g _ p a c l kk _ HB9.out (HE0.out _ _ _) (HE1.out _ _ _) HS9'.out HP.out HLT9.out HL.out).mono ?_;rintro e w2 ⟨rfl,hb2,hg2⟩;rw [HS1.out] at hb2;have HB2:=aA hb2;have HG2:=aA (gN HG9.out hg2);have HI2:=aA ((hg2.block ib (jN.1 HI9.out).1 (λe=>HNE.out (ZS e).symm)).trans HI9.out);have z9:=HB2.out.free 9;have c9:=(HB2.out.cell 9).trans (HE9.out _ _ _);have z10:=HB2.out.free 10;have c10:=(HB2.out.cell 10).trans (HE10.out _ _ _);clear hb2 hg2)
      | (go_at_call 210;refine (nP _ (bT _ _) _).mono ?_;rintro e w3 ⟨rfl,hw3⟩;subst w3))
     go_roundw;case rel=>exact ⟨j+1,kk+1,_,_,HJ.out,(World.heap_setCell_iter HI2.out HNE.out),jL HG2.out _ _,by have:=HB2.out.set 9 (.int .i64 (sg (bAt l kk)));rw [HS9.out] at this;exact this,HLT9.out,HN9.out,HR9.out⟩
     case measure=>rw [dA (World.heap_setCell_iter HI2.out HNE.out),HML.out];have:=HJ.out;omega
    ·have HN9:Hid (¬k+rdN ex.data.toList<=l.length):=aA (by rw [<-HN.out,HD.out,rdN];split<;>omega);exact tX1f
   ·by_cases hk9:kk<l.length
    ·have HLT9:=aA hk9;have HR9:Hid (rdF (ex.data.toList.drop (j+1)) l (kk+1) dd (sg (bAt l kk))=rdF ex.data.toList l k d n):=aA (HR.out.symm.trans (by rw [HD.out];rfl)).symm;have HN9:Hid (kk+1+rdN (ex.data.toList.drop (j+1))=k+rdN ex.data.toList):=aA (by rw [<-HN.out,HD.out,rdN,if_neg (by decide)];omega);have hw9:IntKind.i64.wrap (bAt l kk:Int)=bAt l kk:=(by have:=bT l kk;rw [IntKind.wrap_i64];omega);clear HR HN HD hk9
     go_wp2_with (first
      | (go_at_call 160;refine (dY g _ p a c l kk _ HB9.out (HE0.out _ _ _) (HE1.out _ _ _) HS9'.out HP.out HLT9.out HL.out).mono ?_;rintro e w2 ⟨rfl,hb2,hg2⟩;rw [HS1.out] at hb2;have HB2:=aA hb2;have HG2:=aA (gN HG9.out hg2);have HI2:=aA ((hg2.block ib (jN.1 HI9.out).1 (λe=>HNE.out (ZS e).symm)).trans HI9.out);have z9:=HB2.out.free 9;have c9:=(HB2.out.cell 9).trans (HE9.out _ _ _);have z10:=HB2.out.free 10;have c10:=(HB2.out.cell 10).trans (HE10.out _ _ _);clear hb2 hg2)
      | (go_at_call 210;refine (nP _ (bT _ _) _).mono ?_;rintro e w3 ⟨rfl,hw3⟩;subst w3))
     go_roundw;case rel=>exact ⟨j+1,kk+1,_,_,HJ.out,(World.heap_setCell_iter HI2.out HNE.out),jL HG2.out _ _,by have:=HB2.out.set 10 (.int .i64 (sg (bAt l kk)));rw [HS10.out] at this;exact this,HLT9.out,HN9.out,HR9.out⟩
     case measure=>rw [dA (World.heap_setCell_iter HI2.out HNE.out),HML.out];have:=HJ.out;omega
    ·have HN9:Hid (¬k+rdN ex.data.toList<=l.length):=aA (by rw [<-HN.out,HD.out,rdN];split<;>omega);exact tX1f
   ·by_cases hk9:kk<l.length
    ·have HLT9:=aA hk9;have HR9:Hid (rdF (ex.data.toList.drop (j+1)) l (kk+1) dd (bAt l kk)=rdF ex.data.toList l k d n):=aA (HR.out.symm.trans (by rw [HD.out];rfl)).symm;have HN9:Hid (kk+1+rdN (ex.data.toList.drop (j+1))=k+rdN ex.data.toList):=aA (by rw [<-HN.out,HD.out,rdN,if_neg (by decide)];omega);have hw9:IntKind.i64.wrap (bAt l kk:Int)=bAt l kk:=(by have:=bT l kk;rw [IntKind.wrap_i64];omega);clear HR HN HD hk9
     go_wp2_with (first
      | (go_at_call 160;refine (dY g _ p a c l kk _ HB9.out (HE0.out _ _ _) (HE1.out _ _ _) HS9'.out HP.out HLT9.out HL.out).mono ?_;rintro e w2 ⟨rfl,hb2,hg2⟩;rw [HS1.out] at hb2;have HB2:=aA hb2;have HG2:=aA (gN HG9.out hg2);have HI2:=aA ((hg2.block ib (jN.1 HI9.out).1 (λe=>HNE.out (ZS e).symm)).trans HI9.out);have z9:=HB2.out.free 9;have c9:=(HB2.out.cell 9).trans (HE9.out _ _ _);have z10:=HB2.out.free 10;have c10:=(HB2.out.cell 10).trans (HE10.out _ _ _);clear hb2 hg2)
      | (go_at_call 210;refine (nP _ (bT _ _) _).mono ?_;rintro e w3 ⟨rfl,hw3⟩;subst w3))
     go_roundw;case rel=>exact ⟨j+1,kk+1,_,_,HJ.out,(World.heap_setCell_iter HI2.out HNE.out),jL HG2.out _ _,by have:=HB2.out.set 10 (.int .i64 (bAt l kk));rw [HS10.out] at this;exact this,HLT9.out,HN9.out,HR9.out⟩
     case measure=>rw [dA (World.heap_setCell_iter HI2.out HNE.out),HML.out];have:=HJ.out;omega
    ·have HN9:Hid (¬k+rdN ex.data.toList<=l.length):=aA (by rw [<-HN.out,HD.out,rdN];split<;>omega);exact tX1f
   ·by_cases hk9:kk<l.length
    ·have HLT9:=aA hk9;have hw9:IntKind.i64.wrap (bAt l kk:Int)=bAt l kk:=(by have:=bT l kk;rw [IntKind.wrap_i64];omega);by_cases hk8:kk+1<l.length
     ·have HLT8:=aA hk8;have HR9:Hid (rdF (ex.data.toList.drop (j+1)) l (kk+1+1) dd ((bAt l kk:Int)+256*bAt l (kk+1))=rdF ex.data.toList l k d n):=aA (HR.out.symm.trans (by rw [HD.out];rfl)).symm;have HN9:Hid (kk+1+1+rdN (ex.data.toList.drop (j+1))=k+rdN ex.data.toList):=aA (by rw [<-HN.out,HD.out,rdN,if_pos rfl];omega);have hw8:IntKind.i64.wrap (bAt l (kk+1):Int)=bAt l (kk+1):=(by have:=bT l (kk+1);rw [IntKind.wrap_i64];omega);have hw7:IntKind.i64.wrap ((bAt l (kk+1):Int)*256)=256*bAt l (kk+1):=(by have:=bT l (kk+1);rw [IntKind.wrap_i64];omega);have hw6:IntKind.i64.wrap ((bAt l kk:Int)+256*bAt l (kk+1))=(bAt l kk:Int)+256*bAt l (kk+1):=(by have:=bT l kk;have:=bT l (kk+1);rw [IntKind.wrap_i64];omega);have tok:True:=trivial;clear HR HN HD hk9 hk8
      go_wp2_with (first
       | (have _t:=tok;go_at_call 160;refine (dY g _ p a c l kk _ HB9.out (HE0.out _ _ _) (HE1.out _ _ _) HS9'.out HP.out HLT9.out HL.out).mono ?_;rintro e w2 ⟨rfl,hb2,hg2⟩;rw [HS1.out] at hb2;have HB7:=aA hb2;have HG7:=aA (gN HG9.out hg2);have HI7:=aA ((hg2.block ib (jN.1 HI9.out).1 (λe=>HNE.out (ZS e).symm)).trans HI9.out);have z9:=HB7.out.free 9;have c9:=(HB7.out.cell 9).trans (HE9.out _ _ _);have z10:=HB7.out.free 10;have c10:=(HB7.out.cell 10).trans (HE10.out _ _ _);clear hb2 hg2;have HS7:=aA (HSG.out _ HG7.out);clear tok _t)
       | (go_at_call 160;refine (dY g _ p a c l (kk+1) _ HB7.out (HE0.out _ _ _) (HE1.out _ _ _) HS7.out HP.out HLT8.out HL.out).mono ?_;rintro e w2 ⟨rfl,hb2,hg2⟩;rw [HS1.out] at hb2;have HB2:=aA hb2;have HG2:=aA (gN HG7.out hg2);have HI2:=aA ((hg2.block ib (jN.1 HI7.out).1 (λe=>HNE.out (ZS e).symm)).trans HI7.out);have z9:=HB2.out.free 9;have c9:=(HB2.out.cell 9).trans (HE9.out _ _ _);have z10:=HB2.out.free 10;have c10:=(HB2.out.cell 10).trans (HE10.out _ _ _);clear hb2 hg2))
      go_roundw;case rel=>exact ⟨j+1,kk+1+1,_,_,HJ.out,(World.heap_setCell_iter HI2.out HNE.out),jL HG2.out _ _,by have:=HB2.out.set 10 (.int .i64 ((bAt l kk:Int)+256*bAt l (kk+1)));rw [HS10.out] at this;exact this,HLT8.out,HN9.out,HR9.out⟩
      case measure=>rw [dA (World.heap_setCell_iter HI2.out HNE.out),HML.out];have:=HJ.out;omega
     ·have HN9:Hid (¬k+rdN ex.data.toList<=l.length):=aA (by rw [<-HN.out,HD.out,rdN,if_pos rfl];omega);have tok:True:=trivial;clear HR HN HD hk9
      go_wp2_with (first
       | (have _t:=tok;go_at_call 160;refine (dY g _ p a c l kk _ HB9.out (HE0.out _ _ _) (HE1.out _ _ _) HS9'.out HP.out HLT9.out HL.out).mono ?_;rintro e w2 ⟨rfl,hb2,hg2⟩;rw [HS1.out] at hb2;have HB7:=aA hb2;have HG7:=aA (gN HG9.out hg2);have HI7:=aA ((hg2.block ib (jN.1 HI9.out).1 (λe=>HNE.out (ZS e).symm)).trans HI9.out);have z9:=HB7.out.free 9;have c9:=(HB7.out.cell 9).trans (HE9.out _ _ _);have z10:=HB7.out.free 10;have c10:=(HB7.out.cell 10).trans (HE10.out _ _ _);clear hb2 hg2;clear tok _t)
       | (go_at_call 160;refine (jB g _ a l.length c (kk+1) _ HB7.out (HE0.out _ _ _) (HE1.out _ _ _) (by omega)).mono ?_;rintro e w2 ⟨rfl,hb2⟩;have HBZ:=aA (HB7.out.below hb2 HB7.out.lt);have HGZ:=aA (gN HG7.out (bZ g hb2));clear hb2))
      exact ⟨rfl,qN.no HN9.out HGZ.out HBZ.out⟩
    ·have HN9:Hid (¬k+rdN ex.data.toList<=l.length):=aA (by rw [<-HN.out,HD.out,rdN];split<;>omega);exact tX1f
  ·obtain rfl:j=ex.size:=(by omega);have hnx:=λty=>mZ (W:=wr) ty hi hlt;have HDR:Hid (ex.data.toList.drop ex.size=[]):=aA (VA (by simp));have HY:Hid (kk=k+rdN ex.data.toList/\(dd,nn)=rdF ex.data.toList l k d n):=aA (by have e1:=HN.out;have e2:=HR.out;rw [HDR.out] at e1 e2;exact ⟨e1,e2⟩);have HKK:=aA hkk;clear HN HR HDR hkk hi;go_wp2;go_end0;refine qN.yes (by rw [<-HY.out.1];exact HKK.out) rfl HG.out ?_;rw [<-HY.out.1,<-HY.out.2];exact HB.out
abbrev tJ:TypeId:=32
theorem Blk.five {w:World} {b:Nat} {t:TypeId} {x0 x1 x2 x3 x4:Value} (h:Blk w b t #[x0,x1,x2,x3,x4]):
  (w.cell? ⟨b,0,none⟩=some x0/\w.cell? ⟨b,1,none⟩=some x1/\w.cell? ⟨b,2,none⟩=some x2/\w.cell? ⟨b,3,none⟩=some x3/\w.cell? ⟨b,4,none⟩=some x4)/\
  w.frozen? ⟨b,0,none⟩=false/\w.frozen? ⟨b,1,none⟩=false/\w.frozen? ⟨b,2,none⟩=false/\w.frozen? ⟨b,3,none⟩=false/\w.frozen? ⟨b,4,none⟩=false:=
 ⟨⟨h.cell 0,h.cell 1,h.cell 2,h.cell 3,h.cell 4⟩,h.free 0,h.free 1,h.free 2,h.free 3,h.free 4⟩
theorem Fr.swap {w0 W:World} {a b:Nat × TypeId × Array Value} {L:List (Nat × TypeId × Array Value)} (h:Fr w0 (a::b::L) W):Fr w0 (b::a::L) W:=
 h.sub (λx hx=>by
  rcases ZR.1 hx with e|hx
  ·rw [e];simp
  ·rcases ZR.1 hx with e|hx
   ·rw [e];simp
   ·simp [hx])
theorem Fr.grow {w0 W W':World} {g:Nat} {t:TypeId} {cs cs':Array Value} {L:List (Nat × TypeId × Array Value)} (h:Fr w0 ((g,t,cs)::L) W) (hg:W.grownBy W' (some g)) (hb:Blk W' g t cs') (hz:w0.heap.size<=g) (hn:∀x∈L,x.1≠g):Fr w0 ((g,t,cs')::L) W':=
 ⟨h.below.grown hg h.below.size (λk e=>by cases e;exact hz),λx hx=>by
  rcases ZR.1 hx with rfl|hx
  ·exact hb
  ·exact (h.drop.at' x hx).grown hg (λe=>hn x hx (ZS e))⟩
def qU (x:Itm) (m:Nat) (ra:Option Addr) (rc:Nat) (va:Option Addr) (vc:Nat):Value:=.agg #[.int .i64 x.k,.slice ra m rc,.string ⟨x.op.toArray⟩,.slice va x.args.length vc,.bool x.al]
def dW (w:World) (B:Nat) (x:Itm) (l:List UInt8) (v:Value):Prop:=∃ra rc va vc,v=qU x (l.take x.n).length ra rc va vc/\SlR aI w (λb=>B<=b) (.slice ra (l.take x.n).length rc) (l.take x.n)/\SlR aM w (λb=>B<=b) (.slice va x.args.length vc) x.args
theorem dW.next {w w':World} {B:Nat} {x:Itm} {l:List UInt8} {v:Value} (h:dW w B x l v) (hb:RowKit.Below w.heap.size w w'):dW w' B x l v:=by exact tX80
theorem dW.base {w:World} {B B':Nat} {x:Itm} {l:List UInt8} {v:Value} (h:dW w B x l v) (hB:B'<=B):dW w B' x l v:=by obtain ⟨ra,rc,va,vc,e,h1,h2⟩:=h;exact ⟨ra,rc,va,vc,e,h1.mono (λk hk=>qJ hB hk),h2.mono (λk hk=>qJ hB hk)⟩
def WJ (w:World) (x:Itm) (l:List UInt8) (e:Ending) (w':World):Prop:=(∃v,e=.returned v/\dW w' w.heap.size x l v)/\RowKit.Below w.heap.size w w'
def JY (w:World) (g:Nat) (vb:Value) (l:List UInt8):Prop:=
 ∃(xe:aL) (va qa:Option Addr) (vn vc qc k:Nat) (d n:Int),Blk w g dC (dcC vb (.slice qa (aR (pgB l)).length qc) xe.pg xe.op ⟨xe.iop.toArray⟩ (.slice va vn vc) ⟨xe.ex.toArray⟩ xe.al k d n)/\
  ((xe.iop=[]/\l.length<=pos (pgB l))\/(pos (pgB l)<l.length/\(atF (pgB l) (bAt l (pos (pgB l)))).1=some xe))
def qF (wz:World) (g:Nat) (vb:Value) (l:List UInt8) (e:Ending) (w':World):Prop:=
 RowKit.Below wz.heap.size wz w'/\(if (itF l).k=4 then e=.panicked xA/\JY w' g vb l
  else (∃cs,Blk w' g dC cs/\cs[0]?=some vb)/\∃v,e=.returned v/\dW w' wz.heap.size (itF l) l v)
theorem qF.cut {wz w':World} {g:Nat} {vb:Value} {l:List UInt8} (h:(itF l).k=4) (hb:RowKit.Below wz.heap.size wz w') (hn:JY w' g vb l):qF wz g vb l (.panicked xA) w':=⟨hb,by rw [if_pos h];exact ⟨rfl,hn⟩⟩
theorem qF.ret {wz w':World} {g:Nat} {vb:Value} {l:List UInt8} {cs:Array Value} {x:Itm} {v:Value} (hx:itF l=x) (h:¬x.k=4) (hb:RowKit.Below wz.heap.size wz w') (hk:Blk w' g dC cs) (h0:cs[0]?=some vb) (hi:dW w' wz.heap.size x l v):qF wz g vb l (.returned v) w':=by subst hx;exact ⟨hb,by rw [if_neg h];exact ⟨⟨cs,hk,h0⟩,v,rfl,hi⟩⟩
def InsQP (w:World) (s:List UInt8) (l:List Opd) (e:Ending) (w':World):Prop:=∃a c b,e=.returned (.tuple #[.agg #[.string ⟨s.toArray⟩,.slice a l.length c],.bool b])/\SlR aM w' (λb=>w.heap.size<=b) (.slice a l.length c) l/\RowKit.Below w.heap.size w w'
theorem wU (x:aL) (hok:fA x) (d n:Int) (p:aB) (v:Value) (w:World) (h:SlR aM w p v x.args):
  Calls Tryz.prog 162 #[bQ x v,.int .i64 d,.int .i64 n] w (InsQP w (jO x d n).1 (jO x d n).2):=by
 have hz:=hok.size;refine (xM x.pg x.op d n ⟨x.iop.toArray⟩ ⟨x.ex.toArray⟩ x.al x.args p v w h (by have:=hz.2;omega) (by have:=hz.1;omega)).mono ?_;rintro e w' ⟨h1,h2⟩;rw [show (⟨x.ex.toArray⟩:ByteArray).data.toList=x.ex from rfl,hok.up,sH hok.var] at h1;unfold jO;cases hF:fN x.ex x.args d n with
 | none=>rw [hF] at h1;exact ⟨none,0,false,h1,SlR.nil _ _ _,h2⟩
 | some c=>rw [hF] at h1;obtain ⟨v',rfl,ho⟩:=h1;obtain ⟨a,cc,rfl⟩:=ho.form;exact ⟨a,cc,true,rfl,ho.slR,h2⟩
theorem nN {w:World} {p:aB} {a:Option Addr} {c:Nat} {l:List UInt8} (hs:SlR aI w p (.slice a l.length c) l) (h0:0<l.length):∃b o,a=some ⟨b,o,none⟩/\l.length<=c/\c<=9223372036854775807/\∀k,k<l.length->w.cell? ⟨b,o+k,none⟩=some (.int .u8 (bAt l k)):=by obtain ⟨a',c',e,h1,h2,gg⟩:=hs.byte;injection e with e1 e2 e3;subst e1 e3;obtain ⟨b,o,rfl,_,_⟩:=gg 0 l[0] (zL h0);refine ⟨b,o,rfl,h1,h2,λk hk=>?_⟩;obtain ⟨b',o',e,_,hc⟩:=gg k l[k] (zL hk);injection e with e;injection e with e1 e2;subst e1 e2;rw [hc,sC hk]
theorem Own.off {α:Type} {R:Rep α} {w:World} {B b:Nat} {e:TypeId} {v:Value} {xs:List α} (h:Own R w B e NoB v xs) (hb:b<B) (i:Nat) (u:Value):Own R (w.setCell ⟨b,i,none⟩ u) B e NoB v xs:=h.keep (aS.setCell (λk hk=>by rcases hk with hk|hk;exact hk.elim;have:=(h.lt k hk).1;show k≠b;omega) _)
theorem eG {fn:Func} {p:Tmp} (h:fn.results=#[.cell p 32]) {tmps:Array Value} {w':World} {cs:Array Value} {g:Nat} (hp:tmps.getD p undef=.pointer (some ⟨g,0,none⟩)) (hg:Blk w' g 32 cs) (hs:cs.size=5):(results fn tmps).run Tryz.prog w'=.ok (.agg cs) w':=aJ h tmps w' g 32 _ (0,0) _ hp hg Tryz.underlying32 rfl (by rw [hs];kernel_rfl)
abbrev cD:Array Value:=#[.int .i64 0,.slice none 0 0,.string ⟨#[]⟩,.slice none 0 0,.bool false]
end Go.Proofs.YtpigbggoiipmhaaGreatDoor
