/-
  Functions of the program and of the reference, walked; plain facts on what they compute. Conditions: sizes.
-/
import Derived.Test.YtpigbggoiipmhaaGreatDoorBE3
import Derived.Test.YtpigbggoiipmhaaGreatDoorBB8
namespace Go.Proofs.YtpigbggoiipmhaaGreatDoor
set_option maxHeartbeats 4000000
set_option maxRecDepth 100000
open Go.RowKit Go.Shelf Go.Sort
theorem EA {s t:ByteArray} {l m:List Opd} (h:(s.toList==t.toList)=false):shF s t l m=false:=by unfold shF;rw [h];rfl
theorem ZL {s t:ByteArray} {l m:List Opd} (h:l.length≠m.length):shF s t l m=false:=by unfold shF;rw [z0A (λe=>h (by have:=congrArg List.length e;simpa using this)),Bool.and_false]
theorem shF_at {s t:ByteArray} {l m:List Opd} (k:Nat) (h1:k<l.length) (h2:k<m.length) (h:kr l[k]≠kr m[k]):shF s t l m=false:=by unfold shF;rw [z0A (λe=>h ?_),Bool.and_false];have:=congrArg (λz:List (Int × Int)=>z[k]?) e;simpa [List.getElem?_map,List.getElem?_eq_getElem h1,List.getElem?_eq_getElem h2] using this
theorem jV (pg op:Int) (s ex t:ByteArray) (al:Bool) (l m:List Opd) (p q:aB) (v u:Value) (w:World) (h:SlR aM w p v l) (g:SlR aM w q u m):
  Calls Tryz.prog 129 #[.agg #[.int .i64 pg,.int .u8 op,.string s,v,.string ex,.bool al],.agg #[.string t,u]] w λe w'=>e=.returned (.bool (shF s t l m))/\Below w.heap.size w w':=by
 obtain ⟨va,vc,rfl⟩:∃a c,v=.slice a l.length c:=by obtain ⟨a,c,e,_⟩:=h;exact ⟨a,c,e⟩
 obtain ⟨ua,uc,rfl⟩:∃a c,u=.slice a m.length c:=by obtain ⟨a,c,e,_⟩:=g;exact ⟨a,c,e⟩
 have hl1:=h.len_le;have hl2:=g.len_le;have HF:=aA (((Fr.start w).new 122 #[.int .i64 pg,.int .u8 op,.string s,.slice va l.length vc,.string ex,.bool al]).new 30 #[.string t,.slice ua m.length uc]);have HS1:=aA ((h.alloc (.cells #[.int .i64 pg,.int .u8 op,.string s,.slice va l.length vc,.string ex,.bool al] 122)).alloc (.cells #[.string t,.slice ua m.length uc] 30));have HS2:=aA ((g.alloc (.cells #[.int .i64 pg,.int .u8 op,.string s,.slice va l.length vc,.string ex,.bool al] 122)).alloc (.cells #[.string t,.slice ua m.length uc] 30));have hsz:(w.alloc (.cells #[.int .i64 pg,.int .u8 op,.string s,.slice va l.length vc,.string ex,.bool al] 122)).heap.size=w.heap.size+1:=zW _ _;rw [hsz] at HF;clear h g hsz;cases hst:(s.toList==t.toList)
 ·have HV:=aA (EA (l:=l) (m:=m) hst);generalize shF s t l m=R at *;exact tX4e
 by_cases hlm:l.length=m.length;rotate_left
 ·have HV:=aA (ZL (s:=s) (t:=t) hlm);generalize shF s t l m=R at *;have hlm':((l.length:Int)==(m.length:Int))=false:=by rw [yW];omega
  clear hlm;exact tX4e
 have HAT:=aA (λk h1 h2 h=>shF_at (s:=s) (t:=t) (l:=l) (m:=m) k h1 h2 h);have HOK:Hid (l.map kr=m.map kr->shF s t l m=true):=λe=>by unfold shF;rw [hst,z0P e];rfl
 have HLM:=aA hlm;have hlm':((l.length:Int)==(m.length:Int))=true:=by rw [z2E];omega
 generalize shF s t l m=R at *;clear hlm;go_enter Tryz.func129,Tryz.ntmps129;go_wp2;generalize ((w.alloc (.cells #[.int .i64 pg,.int .u8 op,.string s,.slice va l.length vc,.string ex,.bool al] 122)).alloc (.cells #[.string t,.slice ua m.length uc] 30))=W2 at *;clear hlm';go_loopw [5] (λi wx=>∃k:Nat,k<=m.length/\i=.int .i64 k/\(l.map kr).take k=(m.map kr).take k/\∃n,wx=W2.drewN n) (λi _=>m.length-(intOf i).toNat);case atStart=>exact ⟨0,YD _,rfl,rfl,0,rfl⟩
 case round=>
  obtain ⟨k,hk,rfl,ht,nd,rfl⟩:=hrel;have HT:=aA ht;clear ht;have q3:=(HF.out.blk 1 rfl).cell 3;have r1:=(HF.out.blk 0 rfl).cell 1;by_cases hlt:k<m.length
  ·have hltl:k<l.length:=(by have:=HLM.out;omega);obtain ⟨a1,c1,e1,_,_,g1⟩:=HS1.out.opd;obtain ⟨a2,c2,e2,_,_,g2⟩:=HS2.out.opd;injection e1 with e1 e3 e4;injection e2 with e2 e5 e6;clear e3 e5;subst e1 e4 e2 e6;obtain ⟨b1,o1,rfl,_,c0,c1,_⟩:=g1 k l[k] (zL hltl);obtain ⟨b2,o2,rfl,_,d0,d1,_⟩:=g2 k m[k] (zL hlt);have HNO:=aA (HAT.out k hltl hlt);have hstep:kr l[k]=kr m[k]->(l.map kr).take (k+1)=(m.map kr).take (k+1):=λe=>(by rw [ZP (by simpa using hltl),ZP (by simpa using hlt),HT.out,List.getElem_map,List.getElem_map,e]);have HST:=aA hstep;clear g1 g2 hstep;generalize l[k]=x at *;generalize m[k]=y at *;obtain ⟨xk,xr,xn⟩:=x;obtain ⟨yk,yr,yn⟩:=y;dsimp only at *;cases hxk:(xk != yk)
   ·obtain rfl:xk=yk:=(by simpa using hxk);cases hxr:(xr != yr)
    ·obtain rfl:xr=yr:=(by simpa using hxr);have HSN:=aA (HST.out rfl);clear HNO HST;go_wp2;go_quiet (fail);go_wp2;go_roundw;case rel=>exact ⟨k+1,by omega,by go_num,HSN.out,_,rfl⟩
     case measure=>simp [intOf];omega
    ·have HRF:=aA (HNO.out (λe=>by have e2:xr=yr:=congrArg Prod.snd e;rw [e2] at hxr;simp at hxr));exact tX6a
   ·have HRF:=aA (HNO.out (λe=>by have e2:xk=yk:=congrArg Prod.fst e;rw [e2] at hxk;simp at hxk));exact tX6a
  ·have hkm:k=m.length:=(by omega);have hall:l.map kr=m.map kr:=(by have:=HT.out;rwa [QD (by simp;have:=HLM.out;omega),QD (by simp;omega)] at this);have HRT:=aA (HOK.out hall);clear hall hkm HT;go_wp2;go_ret;exact ⟨aF HRT.out.symm,(HF.out.drewN _).below⟩
set_option maxHeartbeats 8000000
theorem UT {s t:ByteArray} {ex:List UInt8} {l c:List Opd} (k:Nat) (hk:k<c.length) (h:rY ex l c k=false):dB s t ex l c=false:=by unfold dB;rw [Bool.and_eq_false_iff];exact Or.inr (List.all_eq_false.2 ⟨k,z1D.2 hk,by simp [h]⟩)
theorem LW {s t:ByteArray} {ex:List UInt8} {l c:List Opd} (h:shF s t l c=true) (h2:∀k,k<c.length->rY ex l c k=true):dB s t ex l c=true:=by unfold dB;rw [h,z0Y,z1A];intro k hk;exact h2 k (z1D.1 hk)
theorem YQ {ex:List UInt8} {l c:List Opd} {k:Nat} (h1:k<l.length) (h2:k<c.length):rY ex l c k=if eQ l ex k=0 then l[k].n==c[k].n else cE (eQ l ex k) c[k].n:=by unfold rY nAt;rw [zL h1,zL h2]
theorem PK {P:Nat->Prop} {k:Nat} (h:∀j,j<k->P j) (hk:P k):∀j,j<k+1->P j:=λj hj=>by
 rcases Nat.lt_succ_iff_lt_or_eq.1 hj with h1|rfl
 ·exact h j h1
 ·exact hk
theorem oH (pg op:Int) (s ex:ByteArray) (al:Bool) (l:List Opd) (x:Ins) (p q:aB) (v u:Value) (w:World) (h:SlR aM w p v l) (g:SlR aM w q u x.args) (hn:x.args.length<=1000000) (hf:∀y∈x.args,cN y.n) (hex:ex.size<=9223372036854775807):
  Calls Tryz.prog 130 #[.agg #[.int .i64 pg,.int .u8 op,.string s,v,.string ex,.bool al],.agg #[.string x.op,u]] w λe w'=>e=.returned (.bool (dB s x.op ex.data.toList l (aE x).args))/\Below w.heap.size w w':=by
 obtain ⟨va,vc,rfl⟩:∃a c,v=.slice a l.length c:=by obtain ⟨a,c,e,_⟩:=h;exact ⟨a,c,e⟩
 obtain ⟨ua,uc,rfl⟩:∃a c,u=.slice a x.args.length c:=by obtain ⟨a,c,e,_⟩:=g;exact ⟨a,c,e⟩
 have HOf:=aA (λp v W h=>jS p x v W h hn hf);obtain ⟨t,m⟩:=x;dsimp only at *;have HF:=aA (((Fr.start w).new 122 #[.int .i64 pg,.int .u8 op,.string s,.slice va l.length vc,.string ex,.bool al]).new 30 #[.string t,.slice ua m.length uc]);have HS1:=aA ((h.alloc (.cells #[.int .i64 pg,.int .u8 op,.string s,.slice va l.length vc,.string ex,.bool al] 122)).alloc (.cells #[.string t,.slice ua m.length uc] 30));have HS2:=aA ((g.alloc (.cells #[.int .i64 pg,.int .u8 op,.string s,.slice va l.length vc,.string ex,.bool al] 122)).alloc (.cells #[.string t,.slice ua m.length uc] 30));have hsz:(w.alloc (.cells #[.int .i64 pg,.int .u8 op,.string s,.slice va l.length vc,.string ex,.bool al] 122)).heap.size=w.heap.size+1:=zW _ _;rw [hsz] at HF;clear h g hsz hn hf;generalize (aE ⟨t,m⟩).args=cn at *;obtain ⟨W0,hW0⟩:∃W0:World,W0=((w.alloc (.cells #[.int .i64 pg,.int .u8 op,.string s,.slice va l.length vc,.string ex,.bool al] 122)).alloc (.cells #[.string t,.slice ua m.length uc] 30)):=⟨_,rfl⟩;rw [<-hW0] at HF HS1 HS2;have HC:=aA (λ(h:shF s t l cn=false)=>AU (ex:=ex.data.toList) h);have HL:=aA (λ(h:shF s t l cn=true)=>jJ h);have HAT:=aA (λk hk h=>UT (s:=s) (t:=t) (ex:=ex.data.toList) (l:=l) (c:=cn) k hk h);have HYS:=aA (λh h2=>LW (s:=s) (t:=t) (ex:=ex.data.toList) (l:=l) (c:=cn) h h2);generalize dB s t ex.data.toList l cn=R at *;go_enter Tryz.func130,Tryz.ntmps130;go_upto_region 1 with fail;rw [<-hW0];clear hW0;have q0:=(HF.out.blk 0 rfl).cell 0;have q1:=(HF.out.blk 0 rfl).cell 1;go_upto_region 2 with (go_at_call 79;refine (HOf.out _ _ _ HS2.out).mono ?_;rintro e w1 ⟨u1,rfl,ho,hb1⟩;obtain ⟨ca,cc,rfl⟩:=ho.form;have HF1:=aA (HF.out.next hb1);have HSl:=aA (HS1.out.below hb1);have HSc:=aA ho.slR;clear ho hb1 q0 q1);have HF2:=aA (HF1.out.new 30 #[.string t,.slice ca cn.length cc]);have HSl2:=aA (HSl.out.alloc (.cells #[.string t,.slice ca cn.length cc] 30));have HSc2:=aA (HSc.out.alloc (.cells #[.string t,.slice ca cn.length cc] 30));obtain ⟨b5,hb5⟩:∃b,w1.heap.size=b:=⟨_,rfl⟩;rw [hb5] at HF2 ⊢;obtain ⟨W2,hW2⟩:∃W:World,W=(w1.alloc (.cells #[.string t,.slice ca cn.length cc] 30)):=⟨_,rfl⟩;rw [<-hW2] at HF2 HSl2 HSc2 ⊢;clear hW2 hb5 HF1 HSl HSc HS1 HS2 HF;have e0:=(HF2.out.blk 2 rfl).cell 0;have e1:=(HF2.out.blk 2 rfl).cell 1;have e2:=(HF2.out.blk 2 rfl).cell 2;have e3:=(HF2.out.blk 2 rfl).cell 3;have e4:=(HF2.out.blk 2 rfl).cell 4;have e5:=(HF2.out.blk 2 rfl).cell 5;have c0:=(HF2.out.blk 0 rfl).cell 0;have c1:=(HF2.out.blk 0 rfl).cell 1;have HSH:=aA (jV pg op s ex t al l cn _ _ _ _ _ HSl2.out HSc2.out);cases hsh:shF s t l cn
 ·have HR:=aA (HC.out hsh);rw [hsh] at HSH;go_wp2_with (go_at_call 129;refine HSH.out.mono ?_;rintro e w2 ⟨rfl,hb2⟩;have HF3:=aA (HF2.out.next hb2);clear hb2);go_ret;exact ⟨aF HR.out.symm,HF3.out.below⟩
 rw [hsh] at HSH;have HLE:=aA (HL.out hsh);have HYR:=aA (HYS.out hsh);clear HC HL HYS;go_upto_region 4 with (go_at_call 129;refine HSH.out.mono ?_;rintro e w2 ⟨rfl,hb2⟩;have HF3:=aA (HF2.out.next hb2);have HSl3:=aA (HSl2.out.below hb2);have HSc3:=aA (HSc2.out.below hb2);clear hb2 e0 e1 e2 e3 e4 e5 c0 c1);clear HSH HSl2 HSc2 HF2 hsh;go_wp2;obtain ⟨W3,hW3⟩:∃W:World,W=w2:=⟨_,rfl⟩;rw [<-hW3] at HF3 HSl3 HSc3 ⊢;clear hW3;have hl1:=HSl3.out.len_le;have hl2:=HSc3.out.len_le;go_loopw [6] (λi wx=>∃k:Nat,k<=cn.length/\i=.int .i64 k/\(∀j,j<k->rY ex.data.toList l cn j=true)/\RowKit.Below W3.heap.size W3 wx) (λi _=>cn.length-(intOf i).toNat);case atStart=>exact ⟨0,YD _,rfl,λj hj=>absurd hj (Nat.not_lt_zero _),zY _ _⟩
 case round=>
  obtain ⟨k,hk,rfl,ht,hbx⟩:=hrel;have HT:=aA ht;have HBX:=aA hbx;have HX:=aA (HF3.out.next hbx);have HSlX:=aA (HSl3.out.below hbx);have HScX:=aA (HSc3.out.below hbx);clear ht hbx;have e0:=(HX.out.blk 2 rfl).cell 0;have e1:=(HX.out.blk 2 rfl).cell 1;have e2:=(HX.out.blk 2 rfl).cell 2;have e3:=(HX.out.blk 2 rfl).cell 3;have e4:=(HX.out.blk 2 rfl).cell 4;have e5:=(HX.out.blk 2 rfl).cell 5;have c0:=(HX.out.blk 0 rfl).cell 0;have c1:=(HX.out.blk 0 rfl).cell 1;by_cases hlt:k<cn.length
  ·have hltl:k<l.length:=(by have:=HLE.out;omega);have HO:=aA (YQ (ex:=ex.data.toList) hltl hlt);have HNR:=aA (HAT.out k hlt);have HSU:=aA (PK (P:=λj=>rY ex.data.toList l cn j=true) HT.out);have HLt:=aA (oJ pg op s ex al l _ _ k hltl _ HSlX.out hex);clear HYR HAT HT;generalize rY ex.data.toList l cn k=one at *;generalize eQ l ex.data.toList k=L at *;go_upto_region 8 with (go_at_call 124;refine HLt.out.mono ?_;rintro e w4 ⟨rfl,hb4⟩;have HY:=aA (HX.out.next hb4);have HSlY:=aA (HSlX.out.below hb4);have HScY:=aA (HScX.out.below hb4);have HBY:=aA (RowKit.Below.trans HBX.out (hb4.mono HBX.out.size));clear hb4 e0 e1 e2 e3 e4 e5 c0 c1);clear HLt HX HSlX HScX HBX;have e3:=(HY.out.blk 2 rfl).cell 3;have c1:=(HY.out.blk 0 rfl).cell 1;obtain ⟨a1,d1,e6,_,_,g1⟩:=HSlY.out.opd;obtain ⟨a2,d2,e7,_,_,g2⟩:=HScY.out.opd;injection e6 with e6 e8 e9;injection e7 with e7 e10 e11;clear e8 e10;subst e6 e9 e7 e11;obtain ⟨b1,o1,rfl,_,_,_,x2⟩:=g1 k l[k] (zL hltl);obtain ⟨b2,o2,rfl,_,_,_,y2⟩:=g2 k cn[k] (zL hlt);clear g1 g2 HSlY HScY;generalize l[k]=x at *;generalize cn[k]=y at *;obtain ⟨xk,xr,xn⟩:=x;obtain ⟨yk,yr,yn⟩:=y;dsimp only at *;have HW:=aA (λW=>jH L yn W);by_cases hL:L=0
   ·rw [if_pos hL] at HO;subst hL;clear HW;cases hxy:(xn != yn)
    ·have hxe:(xn==yn)=true:=(by rw [z2E];simpa using hxy);have HR:=aA (HSU.out (HO.out.trans hxe));clear HNR HSU hxe;go_quiet (fail);exact tX68
    ·have hxe:(xn==yn)=false:=(by rw [yW];simpa using hxy);have HR:=aA (HNR.out (HO.out.trans hxe));clear HNR HSU hxe;go_quiet (fail);go_wp2;go_ret;exact ⟨aF HR.out.symm,(HY.out.drewN _).below⟩
   ·rw [if_neg hL] at HO;have h0:(L==0)=false:=(by rw [yW];exact hL);have h1:(L != 0)=true:=(by rw [bne_iff_ne];exact hL);clear hL;generalize cE L yn=wn at *;cases wn
    ·have HR:=aA (HNR.out HO.out);clear HNR HSU;go_quiet ((go_at_call 125;exact Calls.quiet_of_same (HW.out _)));go_wp2;go_ret;exact ⟨aF HR.out.symm,(HY.out.drewN _).below⟩
    ·have HR:=aA (HSU.out HO.out);clear HNR HSU;go_quiet ((go_at_call 125;exact Calls.quiet_of_same (HW.out _)));exact tX68
  ·have hkm:k=cn.length:=(by omega);have HR:=aA (HYR.out (λj hj=>HT.out j (by omega)));clear hkm HT;go_wp2;go_ret;exact ⟨aF HR.out.symm,HX.out.below⟩
def lP (l:List Opd):Int:=if l.any ixO=true then 6 else 2
theorem EP {l:List Opd} (k:Nat) (h1:k<l.length) (h:ixO l[k]=true):bL l=3:=if_pos (z0H.2 ⟨l[k],z0J h1,h⟩)
theorem MG {l:List Opd} (h:(l.take l.length).any ixO=false):bL l=0:=by rw [z0L] at h;exact if_neg (by rw [h];decide)
theorem TY {l:List Opd} (k:Nat) (h1:k<l.length) (h:ixO l[k]=false) (h2:(l.take k).any ixO=false):(l.take (k+1)).any ixO=false:=by rw [ZP h1,List.any_append,h2,Bool.false_or,z1C,h];rfl
theorem qO (t:ByteArray) (l:List Opd) (p:aB) (v:Value) (w:World) (h:SlR aM w p v l):
  Calls Tryz.prog 127 #[.agg #[.string t,v]] w λe w'=>e=.returned (.int .i64 (bL l))/\Below w.heap.size w w':=by
 obtain ⟨va,vc,rfl⟩:∃a c,v=.slice a l.length c:=by obtain ⟨a,c,e,_⟩:=h;exact ⟨a,c,e⟩
 have hl1:=h.len_le;have HF:=aA ((Fr.start w).new 30 #[.string t,.slice va l.length vc]);have HS1:=aA (h.alloc (.cells #[.string t,.slice va l.length vc] 30));have HYS:=aA (λk h1 h=>EP (l:=l) k h1 h);have HNO:=aA (λh=>MG (l:=l) h);clear h;generalize bL l=R at *;obtain ⟨W0,hW0⟩:∃W0:World,W0=(w.alloc (.cells #[.string t,.slice va l.length vc] 30)):=⟨_,rfl⟩;rw [<-hW0] at HF HS1;go_enter Tryz.func127,Tryz.ntmps127;go_upto_region 1 with fail;rw [<-hW0];clear hW0;go_wp2;go_loopw [3] (λi wx=>∃k:Nat,k<=l.length/\i=.int .i64 k/\(l.take k).any ixO=false/\Below W0.heap.size W0 wx) (λi _=>l.length-(intOf i).toNat);case atStart=>exact ⟨0,YD _,rfl,rfl,zY _ _⟩
 case round=>
  obtain ⟨k,hk,rfl,ht,hbx⟩:=hrel;have HT:=aA ht;have HX:=aA (HF.out.next hbx);have HBX:=aA hbx;have HSX:=aA (HS1.out.below hbx);clear ht hbx;have q1:=(HX.out.blk 0 rfl).cell 1;by_cases hlt:k<l.length
  ·obtain ⟨a1,c1,e1,_,_,g1⟩:=HSX.out.opd;injection e1 with e1 e3 e4;clear e3;subst e1 e4;obtain ⟨b1,o1,rfl,_,c0,c1,c2⟩:=g1 k l[k] (zL hlt);have HY:=aA (HYS.out k hlt);have HN:=aA (λh=>TY (l:=l) k hlt h HT.out);clear g1;generalize l[k]=x at *;obtain ⟨xk,xr,xn⟩:=x;dsimp only at *;have fin:RowKit.Below W0.heap.size W0 (wr.alloc (.cells #[.int .i64 xk,.int .i64 xr,.int .i64 xn] 52)):=HBX.out.alloc HBX.out.size _;have HFIN:=aA fin;clear fin;cases h2:(xk==2)
   ·cases h3:decide (xk ≥ 3)
    ·have HR:=aA (HN.out (by unfold ixO;rw [h2,h3];rfl));exact tX6b
    ·cases h4:decide (xk<=5)
     ·have HR:=aA (HN.out (by unfold ixO;rw [h2,h4,h3];rfl));exact tX6b
     ·cases h5:(xr==5)
      ·cases h6:(xr==6)
       ·have HR:=aA (HN.out (by unfold ixO;rw [h2,h4,h3,h5,h6];rfl));exact tX6b
       ·have HR:=aA (HY.out (by unfold ixO;rw [h4,h3,h6];simp));exact tX83
      ·have HR:=aA (HY.out (by unfold ixO;rw [h4,h3,h5];simp));exact tX83
   ·have HR:=aA (HY.out (by unfold ixO;rw [h2];rfl));exact tX83
  ·have hkm:k=l.length:=(by omega);have HR:=aA (HNO.out (by rw [<-hkm];exact HT.out));clear hkm HT;go_wp2;go_ret;exact ⟨bK HR.out.symm,HX.out.below⟩
theorem WD (l:List Opd):lP l=if (bL l==3)=true then 6 else 2:=by unfold lP bL;cases l.any ixO<;>rfl
theorem yB (l:List Opd):bL l=3\/bL l=0:=by
 unfold bL;cases l.any ixO
 ·exact Or.inr rfl
 ·exact Or.inl rfl
theorem BV (t:ByteArray) (l:List Opd) (p:aB) (v:Value) (w:World) (h:SlR aM w p v l):
  Calls Tryz.prog 128 #[.agg #[.string t,v]] w λe w'=>e=.returned (.int .i64 (lP l))/\Below w.heap.size w w':=by
 rw [WD];have HF:=aA ((Fr.start w).new 30 #[.string t,v]);have HS1:=aA (h.alloc (.cells #[.string t,v] 30));obtain ⟨va,vc,rfl⟩:∃a c,v=.slice a l.length c:=by obtain ⟨a,c,e,_⟩:=h;exact ⟨a,c,e⟩
 have HFA:=aA (qO t l _ _ _ HS1.out);clear h;rcases yB l with e3|e3;all_goals rw [e3] at HFA ⊢;clear e3;go_enter Tryz.func128,Tryz.ntmps128;go_wp2_with (go_at_call 127;refine HFA.out.mono ?_;rintro e w1 ⟨rfl,hb⟩;have HB:=aA hb;have HF2:=aA (HF.out.next hb);clear hb);go_ret;exact ⟨rfl,HF2.out.below⟩
theorem yE:∀{l c:List Opd},l.map kr=c.map kr->eI l=eI c
 | [],[],_=>rfl
 | [],_::_,h=>by cases h
 | _::_,[],h=>by cases h
 | a::l,b::c,h=>by rw [z0U,z0U] at h;injection h with h1 h2;unfold kr at h1;injection h1 with h3 h4;unfold eI z0;rw [h3,h4,yE h2]
theorem FH:∀{l c:List Opd},l.map kr=c.map kr->l.any ixO=c.any ixO
 | [],[],_=>rfl
 | [],_::_,h=>by cases h
 | _::_,[],h=>by cases h
 | a::l,b::c,h=>by rw [z0U,z0U] at h;injection h with h1 h2;unfold kr at h1;injection h1 with h3 h4;rw [z1C,z1C,FH h2];unfold ixO;rw [h3,h4]
def WY (p:Int) (x:Nat):Bool:=match atF p x with
 | (some e,k)=>(k==1)&&(decide (e.ex.length<=10)&&((pg9 e.args).contains p&&(eI e.args).contains p))
 | (none,k)=>!(k==1)
theorem chp:∀p:Fin 7,∀x:Fin 256,WY p.val x.val=true:=by decide+kernel
theorem EQ {p:Nat} {x:Nat} (hp:p<7) (hx:x<256):WY p x=true:=chp ⟨p,hp⟩ ⟨x,hx⟩
theorem UP {p:Nat} {x:Nat} (hp:p<7) (hx:x<256) {e:aL} (he:(atF p x).1=some e):(⟨e.ex.toArray⟩:ByteArray).size<=10:=by have h:=EQ hp hx;unfold WY at h;generalize atF (p:Int) x=r at *;obtain ⟨o,k⟩:=r;dsimp only at he;subst he;obtain ⟨_,h⟩:=xS.1 h;have:=jU (xS.1 h).1;show e.ex.toArray.size<=_;rw [XF];exact this
def kG (l:List Opd):List aL:=(pg9 l).flatMap eJ
theorem uX {p:Int} {e:aL} (h:e∈eJ p):∃k,k<256/\(atF p k).1=some e:=by unfold eJ iG at h;obtain ⟨k,hk,h2⟩:=List.mem_filterMap.1 h;exact ⟨k,z1D.1 hk,h2⟩
theorem kS (c:List Opd):eI c=[0,1,2]\/eI c=[3,5]\/eI c=[4,6]:=by
 induction c with
 | nil=>exact .inl rfl
 | cons o r ih=>
  unfold eI;split
  ·exact .inr (.inl rfl)
  ·split
   ·exact .inr (.inr rfl)
   ·exact ih
theorem findR_code {x:Ins}:(cQ x).2=0↔(cQ x).1.isSome=true:=by
 generalize h:cQ x=r;obtain ⟨o,k⟩:=r;cases o with
 | none=>have:=oA h;simp;exact this
 | some e=>have:=(kT h).2.1;simp;exact this
theorem oU (c:List Opd):lP c=bL c+(pg9 c).length-1/\(pg9 c).length<=4/\0<=bL c/\bL c<=3:=by unfold lP bL pg9;cases c.any ixO<;>decide
theorem VJ (c:List Opd) (j:Nat) (h:j<(pg9 c).length):(pg9 c)[j]=bL c+j:=by
 revert h;unfold bL pg9;cases c.any ixO
 ·intro h;have:j=0\/j=1\/j=2:=by have:j<3:=h;omega
  rcases this with rfl|rfl|rfl<;>rfl
 ·intro h;have:j=0\/j=1\/j=2\/j=3:=by have:j<4:=h;omega
  rcases this with rfl|rfl|rfl|rfl<;>rfl
theorem sQ (L:List Int) (k:Nat) (h:k<L.length):(L.take (k+1)).flatMap eJ=(L.take k).flatMap eJ++eJ L[k]:=by rw [ZP h,List.flatMap_append];simp
theorem wO (c:List Opd) (j:Nat) (h:j<(pg9 c).length):gJ c j 256=gJ c (j+1) 0:=by unfold gJ;rw [sQ _ _ h,VJ c j h];show _=_++[];rw [z1E];rfl
theorem sS (c:List Opd):gJ c (pg9 c).length 0=kG c:=by unfold gJ kG;rw [z0L];exact z1E _
theorem JT {c:List Opd} {j k:Nat} (h:(atF (bL c+j) k).1=none):gJ c j (k+1)=gJ c j k:=by unfold gJ;rw [CT h]
theorem NX (p:Int) {m k:Nat} (h:k<=m):iG p k <+: iG p m:=by
 induction m with
 | zero=>
  have:k=0:=by omega
  subst this;exact List.prefix_rfl
 | succ m ih=>
  by_cases e:k=m+1
  ·subst e;exact List.prefix_rfl
  ·refine List.IsPrefix.trans (ih (by omega)) ?_;unfold iG;rw [List.range_succ,List.filterMap_append];exact List.prefix_append _ _
theorem BD (c:List Opd) {j k:Nat} (hj:j<(pg9 c).length) (hk:k<=256):gJ c j k <+: kG c:=by
 unfold gJ kG;refine List.IsPrefix.trans (l₂:=((pg9 c).take (j+1)).flatMap eJ) ?_ ?_
 ·rw [sQ _ _ hj,VJ c j hj];exact List.prefix_append_right_inj _ |>.2 (NX _ hk)
 ·have:=List.take_append_drop (j+1) (pg9 c);refine ⟨((pg9 c).drop (j+1)).flatMap eJ,?_⟩;rw [<-List.flatMap_append,this]
theorem GF {c:List Opd} {j k:Nat} {x:aL} (hj:j<(pg9 c).length) (hk:k<256) (h:(atF (bL c+j) k).1=some x):fA x/\(⟨x.ex.toArray⟩:ByteArray).size<=10:=by obtain ⟨p,hp,e⟩:∃p:Nat,p<7/\bL c+(j:Int)=p:=⟨(bL c+j).toNat,by have:=oU c;omega,by have:=oU c;omega⟩;rw [e] at h;exact ⟨mG hk h,UP hp hk h⟩
end Go.Proofs.YtpigbggoiipmhaaGreatDoor
