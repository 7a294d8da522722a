/-
  Functions of the program and of the reference, walked; plain facts on what they compute. Conditions: sizes.
-/
import Derived.Test.YtpigbggoiipmhaaGreatDoorBM1
import Derived.Test.YtpigbggoiipmhaaGreatDoorBQ1
namespace Go.Proofs.YtpigbggoiipmhaaGreatDoor
open Go.RowKit
theorem pD {a b:ByteArray} (h:a=b):Ending.returned (.string a)=.returned (.string b):=by rw [h]
section
variable {P:Program} (w:World)
end
section
variable {P:Program} {α:Type} {n:Nat} {enc:α->List Value} {h0:∀x,(enc x).length=n} {h1:∀x,∀u∈enc x,u.oneCell'=true}
end
set_option maxHeartbeats 16000000
theorem MJ (k:Int) (h1:(k==1)=false) (h2:(k==2)=false) (h3:(k==3)=false) (h4:(k==4)=false) (h5:(k==5)=false) (h8:(k==8)=false) (h9:(k==9)=false) (w:World):Calls Tryz.prog 220 #[.int .i64 k] w λe w'=>∃v,e=.returned v/\SlR eN w' (λ_=>True) v (dM k)/\Below w.heap.size w w':=by have HV:=aA (show dM k=[] by simp only [dM,h1,h2,h3,h4,h5,h8,h9];rfl);go_enter Tryz.func220,Tryz.ntmps220;go_wp2;go_ret;exact ⟨_,rfl,by rw [HV.out];exact SlR.nil _ _ _,zY _ _⟩
theorem WC (k:Int) (w:World):Calls Tryz.prog 220 #[.int .i64 k] w λe w'=>∃v,e=.returned v/\SlR eN w' (λ_=>True) v (dM k)/\Below w.heap.size w w':=by
 by_cases hk:k=1\/k=2\/k=3\/k=4\/k=5\/k=8\/k=9
 ·have HL:=aA (λ(W:World) (e:TypeId)=>kB W e (λ_=>True) (dM k) W.heap.size rfl trivial (by rcases hk with rfl|rfl|rfl|rfl|rfl|rfl|rfl<;>decide));rcases hk with rfl|rfl|rfl|rfl|rfl|rfl|rfl;all_goals go_enter Tryz.func220,Tryz.ntmps220;go_wp2;go_ret;exact ⟨_,rfl,HL.out _ _,(zY _ _).alloc (zI _) _⟩
 ·simp only [not_or] at hk;obtain ⟨h1,h2,h3,h4,h5,h8,h9⟩:=hk;exact MJ k (by simpa using h1) (by simpa using h2) (by simpa using h3) (by simpa using h4) (by simpa using h5) (by simpa using h8) (by simpa using h9) w
theorem sY (k r:Int) (w:World):Calls Tryz.prog 180 #[.int .i64 k,.int .i64 r] w λe w'=>e=.returned (.string (aQ k r))/\Below w.heap.size w w':=by
 have HR:=aA (WC k w);cases h1:decide (r<0)
 ·have h1:¬r<0:=z0R h1;have h0:0<=r:=by omega
  obtain ⟨n,rfl⟩:=z1N h0;clear h1 h0;cases h2:(dM k)[n]? with
  | none=>have HV:=aA (show aQ k n=⟨#[]⟩ by simp [aQ,dZ,h2]);have hle:(dM k).length<=n:=(by simpa using h2);have hd:decide ((n:Int)<0)=false:=z0A (by omega);have hg:decide (((dM k).length:Int)<=n)=true:=(by simp;omega);clear h2;go_enter Tryz.func180,Tryz.ntmps180;go_wp2_with fail;refine HR.out.mono ?_;rintro e w1 ⟨v,rfl,hs,hb⟩;obtain ⟨a,c,rfl,_⟩:=hs.str;have HB:=aA hb;clear hs hb;go_wp2;go_ret;exact ⟨pD HV.out.symm,HB.out⟩
  | some s=>have HV:=aA (show aQ k n=s by simp [aQ,dZ,h2];intro h;omega);have H2:=aA h2;have hlt:n<(dM k).length:=(ZV.1 h2).1;have hd:decide ((n:Int)<0)=false:=z0A (by omega);have hg:decide (((dM k).length:Int)<=n)=false:=(by simp;omega);have hlt':(n:Int)<(dM k).length:=(by omega);have h0':(0:Int)<=n:=(by omega);clear h2;go_enter Tryz.func180,Tryz.ntmps180;go_wp2_with fail;refine HR.out.mono ?_;rintro e w1 ⟨v,rfl,hs,hb⟩;obtain ⟨a,c,rfl,_,_,g⟩:=hs.str;obtain ⟨b,o,rfl,_,d1⟩:=g n s H2.out;clear g;have HB:=aA hb;clear hs hb;go_wp2;go_ret;exact ⟨pD HV.out.symm,HB.out⟩
 ·have h1:r<0:=jU h1;have HV:=aA (show aQ k r=⟨#[]⟩ by simp [aQ,dZ,h1]);have hd:decide (r<0)=true:=by simpa using h1
  go_enter Tryz.func180,Tryz.ntmps180;go_wp2_with fail;refine HR.out.mono ?_;rintro e w1 ⟨v,rfl,hs,hb⟩;obtain ⟨a,c,rfl,_⟩:=hs.str;have HB:=aA hb;clear hs hb;go_wp2;go_ret;exact ⟨pD HV.out.symm,HB.out⟩
theorem gC (k r n:Int) (hk:k=1\/k=2\/k=3\/k=4\/k=8\/k=9) (w:World):Calls Tryz.prog 179 #[.agg #[.int .i64 k,.int .i64 r,.int .i64 n]] w λe w'=>e=.returned (.bool (aC ⟨k,r,n⟩))/\Below w.heap.size w w':=by
 have HB0:Hid (Below w.heap.size w (w.alloc (.cells #[.int .i64 k,.int .i64 r,.int .i64 n] 52))):=(zY _ _).alloc (zI _) _;have HK:Hid (Blk (w.alloc (.cells #[.int .i64 k,.int .i64 r,.int .i64 n] 52)) w.heap.size 52 #[.int .i64 k,.int .i64 r,.int .i64 n]):=Blk.new w _ _;have HN:=aA (sY k r (w.alloc (.cells #[.int .i64 k,.int .i64 r,.int .i64 n] 52)));have HV:Hid (aC ⟨k,r,n⟩=(!((aQ k r).toList==[])&&(n==0))):=by rcases hk with rfl|rfl|rfl|rfl|rfl|rfl<;>exact aA (by simp only [aC];cases (aQ _ r).toList==[]<;>cases n==0<;>rfl)
 generalize aC ⟨k,r,n⟩=V at *;cases e0:((aQ k r).toList==[])<;>cases e1:(n==0);all_goals rw [e0,e1] at HV;rcases hk with rfl|rfl|rfl|rfl|rfl|rfl
 all_goals exact tX16
theorem NG (r n:Int) (w:World):Calls Tryz.prog 179 #[.agg #[.int .i64 5,.int .i64 r,.int .i64 n]] w λe w'=>e=.returned (.bool (aC ⟨5,r,n⟩))/\Below w.heap.size w w':=by
 have HB0:Hid (Below w.heap.size w (w.alloc (.cells #[.int .i64 5,.int .i64 r,.int .i64 n] 52))):=(zY _ _).alloc (zI _) _;have HK:Hid (Blk (w.alloc (.cells #[.int .i64 5,.int .i64 r,.int .i64 n] 52)) w.heap.size 52 #[.int .i64 5,.int .i64 r,.int .i64 n]):=Blk.new w _ _;have HN:=aA (sY 5 r (w.alloc (.cells #[.int .i64 5,.int .i64 r,.int .i64 n] 52)));cases e0:((aQ 5 r).toList==[])
 ·cases e1:decide (-128<=n)
  ·have HV:=aA (show aC ⟨5,r,n⟩=false by simp only [aC,e0,e1];rfl);exact tX16
  ·cases e2:decide (n<=127)
   ·have HV:=aA (show aC ⟨5,r,n⟩=false by simp only [aC,e0,e1,e2];rfl);exact tX16
   ·have HV:=aA (show aC ⟨5,r,n⟩=true by simp only [aC,e0,e1,e2];rfl);exact tX16
 ·have HV:=aA (show aC ⟨5,r,n⟩=false by simp only [aC,e0];rfl);exact tX16
theorem KW (r n:Int) (w:World):Calls Tryz.prog 179 #[.agg #[.int .i64 6,.int .i64 r,.int .i64 n]] w λe w'=>e=.returned (.bool (aC ⟨6,r,n⟩))/\Below w.heap.size w w':=by
 have HB0:Hid (Below w.heap.size w (w.alloc (.cells #[.int .i64 6,.int .i64 r,.int .i64 n] 52))):=(zY _ _).alloc (zI _) _;cases e0:(r==0)
 ·have HV:=aA (show aC ⟨6,r,n⟩=false by simp only [aC,e0];rfl);exact tX52
 ·cases e1:decide (-32768<=n)
  ·have HV:=aA (show aC ⟨6,r,n⟩=false by simp only [aC,e0,e1];rfl);exact tX52
  ·cases e2:decide (n<=65535)
   ·have HV:=aA (show aC ⟨6,r,n⟩=false by simp only [aC,e0,e1,e2];rfl);exact tX52
   ·have HV:=aA (show aC ⟨6,r,n⟩=true by simp only [aC,e0,e1,e2];rfl);exact tX52
theorem KT (r n:Int) (w:World):Calls Tryz.prog 179 #[.agg #[.int .i64 7,.int .i64 r,.int .i64 n]] w λe w'=>e=.returned (.bool (aC ⟨7,r,n⟩))/\Below w.heap.size w w':=by
 have HB0:Hid (Below w.heap.size w (w.alloc (.cells #[.int .i64 7,.int .i64 r,.int .i64 n] 52))):=(zY _ _).alloc (zI _) _;cases e0:(r==0)
 ·have HV:=aA (show aC ⟨7,r,n⟩=false by simp only [aC,e0];rfl);exact tX52
 ·cases e1:decide (0<=n)
  ·have HV:=aA (show aC ⟨7,r,n⟩=false by simp only [aC,e0,e1];rfl);exact tX52
  ·cases e2:decide (n<=65535)
   ·have HV:=aA (show aC ⟨7,r,n⟩=false by simp only [aC,e0,e1,e2];rfl);exact tX52
   ·have HV:=aA (show aC ⟨7,r,n⟩=true by simp only [aC,e0,e1,e2];rfl);exact tX52
theorem EE (r n:Int) (w:World):Calls Tryz.prog 179 #[.agg #[.int .i64 10,.int .i64 r,.int .i64 n]] w λe w'=>e=.returned (.bool (aC ⟨10,r,n⟩))/\Below w.heap.size w w':=by
 have HB0:Hid (Below w.heap.size w (w.alloc (.cells #[.int .i64 10,.int .i64 r,.int .i64 n] 52))):=(zY _ _).alloc (zI _) _;cases e0:(r==0)
 ·have HV:=aA (show aC ⟨10,r,n⟩=false by simp only [aC,e0];rfl);exact tX52
 ·cases e1:decide (-128<=n)
  ·have HV:=aA (show aC ⟨10,r,n⟩=false by simp only [aC,e0,e1];rfl);exact tX52
  ·cases e2:decide (n<=127)
   ·have HV:=aA (show aC ⟨10,r,n⟩=false by simp only [aC,e0,e1,e2];rfl);exact tX52
   ·have HV:=aA (show aC ⟨10,r,n⟩=true by simp only [aC,e0,e1,e2];rfl);exact tX52
theorem DE (k r n:Int) (h1:(k==1)=false) (h2:(k==2)=false) (h3:(k==3)=false) (h4:(k==4)=false) (h8:(k==8)=false) (h9:(k==9)=false) (h5:(k==5)=false) (h6:(k==6)=false) (h7:(k==7)=false) (h10:(k==10)=false) (w:World):Calls Tryz.prog 179 #[.agg #[.int .i64 k,.int .i64 r,.int .i64 n]] w λe w'=>e=.returned (.bool (aC ⟨k,r,n⟩))/\Below w.heap.size w w':=by have HB0:Hid (Below w.heap.size w (w.alloc (.cells #[.int .i64 k,.int .i64 r,.int .i64 n] 52))):=(zY _ _).alloc (zI _) _;have HV:=aA (show aC ⟨k,r,n⟩=false by simp only [aC,h1,h2,h3,h4,h8,h9,h5,h6,h7,h10];rfl);exact tX52
theorem rI (o:Opd) (w:World):Calls Tryz.prog 179 #[.agg #[.int .i64 o.kind,.int .i64 o.reg,.int .i64 o.n]] w λe w'=>e=.returned (.bool (aC o))/\Below w.heap.size w w':=by
 obtain ⟨k,r,n⟩:=o;dsimp only;by_cases h1:k=1
 ·subst h1;exact gC _ r n (.inl rfl) w
 by_cases h2:k=2
 ·subst h2;exact gC _ r n (.inr (.inl rfl)) w
 by_cases h3:k=3
 ·subst h3;exact gC _ r n (.inr (.inr (.inl rfl))) w
 by_cases h4:k=4
 ·subst h4;exact gC _ r n (.inr (.inr (.inr (.inl rfl)))) w
 by_cases h8:k=8
 ·subst h8;exact gC _ r n (.inr (.inr (.inr (.inr (.inl rfl))))) w
 by_cases h9:k=9
 ·subst h9;exact gC _ r n (.inr (.inr (.inr (.inr (.inr rfl))))) w
 by_cases h5:k=5
 ·subst h5;exact NG r n w
 by_cases h6:k=6
 ·subst h6;exact KW r n w
 by_cases h7:k=7
 ·subst h7;exact KT r n w
 by_cases h10:k=10
 ·subst h10;exact EE r n w
 exact DE k r n (by simpa using h1) (by simpa using h2) (by simpa using h3) (by simpa using h4) (by simpa using h8) (by simpa using h9) (by simpa using h5) (by simpa using h6) (by simpa using h7) (by simpa using h10) w
set_option maxHeartbeats 2000000
set_option maxRecDepth 100000
theorem PH (w:World):Calls Tryz.prog 219 #[] w λe w'=>∃v,e=.returned v/\SlR eN w' (λ_=>True) v gR/\Below w.heap.size w w':=by have HF:Hid (SlR eN (w.alloc (.cells (gR.map Value.string).toArray 9)) (λ_=>True) (.slice (some ⟨w.heap.size,0,none⟩) gR.length gR.length) gR):=kB w 9 (λ_=>True) gR _ rfl trivial (by decide);go_enter Tryz.func219,Tryz.ntmps219;go_wp2;go_ret;exact ⟨_,rfl,HF.out,(zY _ _).alloc (zI _) _⟩
theorem BF (s:ByteArray) (w:World):Calls Tryz.prog 178 #[.string s] w λe w'=>e=.returned (.bool (inL gR s))/\Below w.heap.size w w':=by
 have ho:=PH w;obtain ⟨l,hl⟩:∃l,l=gR:=⟨_,rfl⟩;rw [<-hl] at ho ⊢;clear hl;have HO:=aA ho;clear ho;go_enter Tryz.func178,Tryz.ntmps178;go_wp2_with fail;refine HO.out.mono ?_;rintro e w1 ⟨v,rfl,hs,hb⟩;have HB:=aA hb;clear hb;obtain ⟨a1,c1,rfl,hc1,hm1,g1⟩:=hs.str;clear hs HO;go_wp2;go_loop [4] (λi=>∃k:Nat,k<=l.length/\i=.int .i64 k/\inL l s=inL (l.drop k) s) (λi=>l.length-(intOf i).toNat);case atStart=>exact ⟨0,YD _,rfl,rfl⟩
 case round=>
  obtain ⟨k,hk,rfl,ht⟩:=hrel;have HT:=aA ht;clear ht;by_cases hlt:k<l.length
  ·obtain ⟨b1,o1,rfl,_,d1⟩:=g1 k l[k] (zL hlt);clear g1;have HD:=aA (ZX hlt);have HY:Hid ((l[k].toList==s.toList)=true->inL l s=true):=oQ hlt;generalize l[k]=x at *;go_wp2
   ·go_ret;exact ⟨aF (HY.out (by assumption)).symm,HB.out⟩
   ·go_round;case rel=>exact ⟨k+1,by omega,by go_num,by rw [HT.out,HD.out];simp only [inL,List.any_cons];simp [*]⟩
    case measure=>simp [intOf];omega
  ·go_wp2;go_ret;exact ⟨aF (by rw [HT.out,VA (by omega)];rfl),HB.out⟩
theorem AO (p:aB) (x:Ins) (v:Value) (w:World) (h:SlR aM w p v x.args):
  Calls Tryz.prog 126 #[.agg #[.string x.op,v]] w λe w'=>e=.returned (.int .i64 (bH x))/\Below w.heap.size w w':=by
 obtain ⟨s,l⟩:=x;dsimp only at *;obtain ⟨a,c,rfl,_⟩:=h.opd;obtain ⟨W,hW⟩:∃W:World,W=w.alloc (.cells #[.string s,.slice a l.length c] 30):=⟨_,rfl⟩;have hbW:Below w.heap.size w W:=hW ▸ (zY _ _).alloc (zI _) _;have k1:Blk W w.heap.size 30 #[.string s,.slice a l.length c]:=hW ▸ Blk.new w _ _;have HBW:=aA hbW;have HK:=aA k1;have HSL:=aA (h.below hbW);have hkn:=BF s W;clear h hbW k1;cases hs:inL gR s;all_goals rw [hs] at hkn;have HKN:=aA hkn;clear hkn
 ·have HV:=aA (show bH ⟨s,l⟩=12 by simp [bH,hs]);go_enter Tryz.func126,Tryz.ntmps126;obtain ⟨a0,a1,_,_⟩:=HK.out.two;go_wp2_with fail;rw [<-hW];clear hW;refine HKN.out.mono ?_;rintro e w1 ⟨rfl,hb⟩;have HB:=aA hb;exact tX7a
 ·have hs1:w.heap.size<W.heap.size:=HK.out.lt;cases hl:decide ((3:Int)<l.length);rotate_left
  ·have HV:=aA (show bH ⟨s,l⟩=11 by have:=jU hl;simp [bH,hs];omega);go_enter Tryz.func126,Tryz.ntmps126;go_wp2_with fail;rw [<-hW];clear hW;refine HKN.out.mono ?_;rintro e w1 ⟨rfl,hb⟩;have HB:=aA hb;obtain ⟨a0,a1,_,_⟩:=(HK.out.below hb hs1).two;exact tX7a
  ·have HV:=aA (show bH ⟨s,l⟩=if l.all aC then 0 else 2 by have:=z0R hl;simp [bH,hs];omega);go_enter Tryz.func126,Tryz.ntmps126;go_wp2_with fail;rw [<-hW];clear hW;refine HKN.out.mono ?_;rintro e w1 ⟨rfl,hb⟩;have HB:=aA (HBW.out.trans (hb.mono HBW.out.size));have HSL1:=aA (HSL.out.below hb);have HK1:=aA (HK.out.below hb hs1);obtain ⟨a0,a1,_,_⟩:=HK1.out.two;clear hb;go_wp2;go_loopw [3] (λi wx=>∃k:Nat,k<=l.length/\i=.int .i64 k/\l.all aC=(l.drop k).all aC/\Below w1.heap.size w1 wx) (λi _=>l.length-(intOf i).toNat);case atStart=>exact ⟨0,YD _,rfl,rfl,zY _ _⟩
   case round=>
    obtain ⟨k,hk,rfl,ht,hb⟩:=hrel;have HT:=aA ht;have HBX:=aA hb;have HKX:=aA (HK1.out.below hb HK1.out.lt);obtain ⟨a0,a1,_,_⟩:=HKX.out.two;obtain ⟨ad,cd,hv,_,_,g1⟩:=(HSL1.out.below hb).opd;obtain ⟨rfl,_,rfl⟩:a=ad/\l.length=l.length/\c=cd:=(by injection hv with h1 h2 h3;exact ⟨h1,h2,h3⟩);clear ht hb hv;by_cases hlt:k<l.length
    ·obtain ⟨b1,o1,rfl,_,d1,d2,d3⟩:=g1 k l[k] (zL hlt);clear g1;have HD:=aA (ZX hlt);have hva:=λwz=>rI l[k] wz;generalize l[k]=x at *;cases hvx:aC x;all_goals rw [hvx] at hva;have HVA:=aA hva;have HVX:=aA hvx;clear hva hvx
     ·go_wp2_with (go_at_call 179;refine (HVA.out _).mono ?_;rintro e w2 ⟨rfl,hb⟩;have HB2:=aA (HBX.out.trans (hb.mono HBX.out.size));clear hb);go_ret;exact ⟨bK (by rw [HV.out,HT.out,HD.out,List.all_cons,HVX.out];rfl),HB.out.trans (HB2.out.mono HB.out.size)⟩
     ·go_wp2_with (go_at_call 179;refine (HVA.out _).mono ?_;rintro e w2 ⟨rfl,hb⟩;have HB2:=aA (HBX.out.trans (hb.mono HBX.out.size));clear hb);exact tX4f
    ·clear g1;go_wp2;go_ret;exact ⟨bK (by rw [HV.out,HT.out,VA (by omega)];rfl),HB.out.trans (HBX.out.mono HB.out.size)⟩
end Go.Proofs.YtpigbggoiipmhaaGreatDoor
namespace Go.Proofs.YtpigbggoiipmhaaGreatDoor
open Go.RowKit Go.Shelf Go.Sort
theorem wL {f g:aL->Bool} (h:∀e,f e=true->g e=true) (L:List aL):(L.filter g).find? f=L.find? f:=by
 induction L with
 | nil=>rfl
 | cons a L ih=>
  cases hg:g a
  ·rw [List.filter_cons_of_neg (by rw [hg];decide),ih,List.find?_cons];cases hf:f a
   ·rfl
   ·have:=h a hf;rw [hg] at this;cases this
  ·rw [List.filter_cons_of_pos hg,List.find?_cons,List.find?_cons,ih]
theorem AD {g:aL->Bool} (L:List aL):(L.filter g).any g=L.any g:=by rw [List.any_filter];congr 1;funext e;cases g e<;>rfl
theorem tQ {t:ByteArray} {c:List Opd} {e:aL} (h:dL t c e=true):e.iop=t.data.toList/\e.args.map kr=c.map kr:=by unfold dL at h;obtain ⟨h1,h2⟩:=mI (xS.1 h).2;exact ⟨by rw [<-h1],h2⟩
theorem uD {t:ByteArray} {c:List Opd} {p:Nat} (hp:p<7) {e:aL} (he:e∈eJ p) (h:dL t c e=true):(pg9 c).contains (p:Int)=true/\(eI c).contains (p:Int)=true:=by
 obtain ⟨k,hk,h2⟩:=uX he;have hc:=EQ hp hk;obtain ⟨_,hkr⟩:=tQ h;unfold WY at hc;generalize atF (p:Int) k=r at *;obtain ⟨o,m⟩:=r;dsimp only at h2;subst h2;obtain ⟨_,hc⟩:=xS.1 hc;obtain ⟨_,hc⟩:=xS.1 hc;have e1:pg9 e.args=pg9 c:=by unfold pg9;rw [FH hkr]
 rw [e1,yE hkr] at hc;exact xS.1 hc
theorem JK {t:ByteArray} {c:List Opd} (P:List Int) (Q:List Nat) (hQ:∀q∈Q,q<7) (hP:P=(Q.map λ(q:Nat)=>(q:Int)).filter λp=>P.contains p) (hin:∀q∈Q,∀e∈eJ (q:Int),dL t c e=true->P.contains (q:Int)=true):
  (P.flatMap eJ).filter (dL t c)=((Q.map λ(q:Nat)=>(q:Int)).flatMap eJ).filter (dL t c):=by
 rw [hP];clear hP;induction Q with
 | nil=>rfl
 | cons q Q ih=>
  have ih:=ih (λa h=>hQ a (z1I _ h)) (λa h=>hin a (z1I _ h));rw [z0U,z1M,z1T,<-ih];cases hq:P.contains (q:Int)
  ·rw [List.filter_cons_of_neg (by rw [hq];decide)];have:(eJ (q:Int)).filter (dL t c)=[]:=(by rw [List.filter_eq_nil_iff];intro e he hn;have:=hin q (List.mem_cons_self) e he hn;rw [hq] at this;cases this);rw [this,z0T]
  ·rw [List.filter_cons_of_pos hq,z1M,z1T]
theorem xF {t:ByteArray} {c:List Opd}:(eC t.data.toList c).filter (dL t c)=(kG c).filter (dL t c):=by
 have h1:(eC t.data.toList c).filter (dL t c)=((eI c).flatMap eJ).filter (dL t c):=by
  unfold eC;have e:fJ (eI c)=eI c:=by unfold fJ;rw [if_neg];rcases kS c with h|h|h<;>rw [h]<;>decide
  rw [e];induction eI c with
  | nil=>rfl
  | cons p P ih=>
   rw [z1M,z1M,z1T,z1T,ih,yZ,List.filter_filter];congr 1;refine List.filter_congr λe _=>?_;cases h:dL t c e
   ·rfl
   ·rw [z0Y,(tQ h).1];exact beq_self_eq_true _
 have hq:∀q∈List.range 7,q<7:=λq h=>z1D.1 h;rw [h1,JK (eI c) (List.range 7) hq (by rcases kS c with h|h|h<;>rw [h]<;>decide) (λq h e he hn=>(uD (hq q h) he hn).2)];unfold kG;exact (JK (pg9 c) (List.range 7) hq (by unfold pg9;split<;>decide) (λq h e he hn=>(uD (hq q h) he hn).1)).symm
def GO (x:Ins):Option aL × Int:=
 if bH x=0 then (match (kG (aE x).args).find? (iA x.op (aE x).args) with
  | some e=>(some e,0)
  | none=>(none,jP x.op (aE x).args (kG (aE x).args))) else (none,bH x)
theorem uJ (x:Ins):GO x=cQ x:=by have hn:∀e,iA x.op (aE x).args e=true->dL x.op (aE x).args e=true:=λe h=>(xS.1 h).1;unfold GO cQ jP;rw [<-wL hn (kG _),<-xF,wL hn,<-AD (kG _),<-xF,AD];rfl
set_option maxHeartbeats 8000000
set_option maxRecDepth 100000
theorem Blk.free6 {w:World} {b:Nat} {t:TypeId} {x0 x1 x2 x3 x4 x5:Value} (h:Blk w b t #[x0,x1,x2,x3,x4,x5]):
  w.frozen? ⟨b,0,none⟩=false/\w.frozen? ⟨b,1,none⟩=false/\w.frozen? ⟨b,2,none⟩=false/\w.frozen? ⟨b,3,none⟩=false/\w.frozen? ⟨b,4,none⟩=false/\w.frozen? ⟨b,5,none⟩=false:=⟨h.free 0,h.free 1,h.free 2,h.free 3,h.free 4,h.free 5⟩
theorem Fr.set6 {w0 W:World} {L:List (Nat × TypeId × Array Value)} {b:Nat} {t:TypeId} {x0 x1 x2 x3 x4 x5:Value} (h:Fr w0 ((b,t,#[x0,x1,x2,x3,x4,x5])::L) W) (hb:w0.heap.size<=b) (hn:∀x∈L,x.1≠b) (a0 a1 a2 a3 a4 a5:Value):
  Fr w0 ((b,t,#[a0,a1,a2,a3,a4,a5])::L) ((((((W.setCell ⟨b,0,none⟩ a0).setCell ⟨b,1,none⟩ a1).setCell ⟨b,2,none⟩ a2).setCell ⟨b,3,none⟩ a3).setCell ⟨b,4,none⟩ a4).setCell ⟨b,5,none⟩ a5):=
 (((((h.set hb hn 0 a0).set hb hn 1 a1).set hb hn 2 a2).set hb hn 3 a3).set hb hn 4 a4).set hb hn 5 a5
theorem aD.far6 {w:World} {q:aB} {v:Value} {l:List Opd} (h:aD w q v l) {b:Nat} (hq:∀k,q k->k≠b) (a0 a1 a2 a3 a4 a5:Value):
  aD ((((((w.setCell ⟨b,0,none⟩ a0).setCell ⟨b,1,none⟩ a1).setCell ⟨b,2,none⟩ a2).setCell ⟨b,3,none⟩ a3).setCell ⟨b,4,none⟩ a4).setCell ⟨b,5,none⟩ a5) q v l:=
 (((((h.far hq a0).far hq a1).far hq a2).far hq a3).far hq a4).far hq a5
theorem Trd.none {t:ByteArray} {c:List Opd} {j k:Nat} {u:Value} (h:Trd t c (gJ c j k) u) (hx:(atF (bL c+j) k).1=none):Trd t c (gJ c j (k+1)) u:=by rw [JT hx];exact h
theorem Trd.near {t:ByteArray} {c:List Opd} {j k:Nat} {u:Value} {x:aL} (h:Trd t c (gJ c j k) u) (hx:(atF (bL c+j) k).1=some x) (hn:dL t c x=true) (hh:iA t c x=false):Trd t c (gJ c j (k+1)) (.int .i64 2):=by rw [pJ hx];exact ⟨sF h.1 hh,by rw [lB,hn];rfl⟩
theorem Find9_any (p:aB) (x:Ins) (v:Value) (w:World) (h:SlR aM w p v x.args) (hn:x.args.length<=1000000) (hf:∀y∈x.args,cN y.n):
  Calls Tryz.prog 78 #[.agg #[.string x.op,v]] w (TQ w (cQ x)):=by
 have HCH:=aA (λW (hb:RowKit.Below w.heap.size w W)=>AO p x v W (h.below hb));have HOf:=aA (λW (hb:RowKit.Below w.heap.size w W)=>jS p x v W (h.below hb) hn hf);have HFT:=aA (λs ex al l p2 v2 W (hb:RowKit.Below w.heap.size w W) h2 hex pg op=>oH pg op s ex al l x p2 p v2 v W h2 (h.below hb) hn hf hex);have HNO:Hid (¬bH x=0->cQ x=(none,bH x)):=aA (λh=>by rw [<-uJ];exact if_neg h);have HHIT:Hid (bH x=0->∀pre e,pre++[e] <+: kG (aE x).args->(∀z∈pre,iA x.op (aE x).args z=false)->iA x.op (aE x).args e=true->cQ x=(some e,0)):=aA (λh pre e h1 h2 h3=>by rw [<-uJ];unfold GO;rw [if_pos h,xP h1 h2 h3]);have HEND:Hid (bH x=0->(∀z∈kG (aE x).args,iA x.op (aE x).args z=false)->cQ x=(none,jP x.op (aE x).args (kG (aE x).args))):=aA (λh h1=>by rw [<-uJ];unfold GO;rw [if_pos h,List.find?_eq_none.2 (λz hz=>by rw [h1 z hz];decide)]);have HS:=aA h;obtain ⟨va,vc,rfl⟩:∃a c,v=.slice a x.args.length c:=by obtain ⟨a,c,e,_⟩:=h;exact ⟨a,c,e⟩
 clear h hn hf;obtain ⟨t,m⟩:=x;dsimp only at *;generalize (aE ⟨t,m⟩).args=cn at *;generalize bH ⟨t,m⟩=ck at *;generalize cQ ⟨t,m⟩=R at *;have HF:=aA (((Fr.start w).new 30 #[.string t,.slice va m.length vc]).new' 122 #[.int .i64 0,.int .u8 0,.string ⟨#[]⟩,.slice none 0 0,.string ⟨#[]⟩,.bool false] (zW _ _));obtain ⟨W0,hW0⟩:∃W0:World,W0=((w.alloc (.cells #[.string t,.slice va m.length vc] 30)).alloc (.cells #[.int .i64 0,.int .u8 0,.string ⟨#[]⟩,.slice none 0 0,.string ⟨#[]⟩,.bool false] 122)):=⟨_,rfl⟩;rw [<-hW0] at HF;go_enter Tryz.func78,Tryz.ntmps78;go_upto_region 1 with fail;rw [<-hW0];clear hW0;have a0:=(HF.out.blk 1 rfl).cell 0;have a1:=(HF.out.blk 1 rfl).cell 1;have HC1:=aA (HCH.out _ HF.out.below);by_cases hck:ck=0;rotate_left
 ·have HR:=aA (HNO.out hck);have bck2:(ck != 0)=true:=by rw [bne_iff_ne];exact hck
  clear HNO HHIT HEND;go_upto_region 3 with (go_at_call 126;refine HC1.out.mono ?_;rintro e w1 ⟨rfl,hb1⟩;have HF1:=aA (HF.out.next hb1);obtain ⟨r0,r1,r2,r3,r4,r5⟩:=(HF1.out.blk 0 rfl).six;obtain ⟨s0,s1,s2,s3,s4,s5⟩:=(HF1.out.blk 0 rfl).free6;clear a0 a1 hb1);have HE:=aA ((HF1.out.set6 (jQ _) (λx hx=>by simp only [List.mem_singleton] at hx;subst hx;exact YX (YH _)) (.int .i64 0) (.int .u8 0) (.string ⟨#[]⟩) (.slice none 0 0) (.string ⟨#[]⟩) (.bool false)));go_wp2;exact yR (eD rfl rfl (HE.out.blk 0 rfl)) rfl (by rw [HR.out];exact ⟨rfl,HE.out.below⟩)
 ·have HHT:=aA (HHIT.out hck);have HEN:=aA (HEND.out hck);subst hck;clear HNO HHIT HEND;go_upto_region 4 with (go_at_call 126;refine HC1.out.mono ?_;rintro e w1 ⟨rfl,hb1⟩;have HF1:=aA (HF.out.next hb1);obtain ⟨a0,a1⟩:=(HF1.out.blk 1 rfl).pair;clear hb1);have HO1:=aA (HOf.out _ HF1.out.below);clear HCH HC1 HOf;go_upto_region 6 with (go_at_call 79;refine HO1.out.mono ?_;rintro e w2 ⟨v2,rfl,ho2,hb2⟩;obtain ⟨va2,vc2,rfl⟩:=ho2.form;have HF2:=aA ((HF1.out.next hb2).new 30 #[.string t,.slice va2 cn.length vc2]);have HS2:=aA (ho2.slR.alloc (.cells #[.string t,.slice va2 cn.length vc2] 30));clear hb2 ho2);clear HO1 HF HF1 a0 a1;generalize hg2:w2.heap.size=g2 at *;obtain ⟨W2,hW2⟩:∃W:World,W=w2.alloc (.cells #[.string t,.slice va2 cn.length vc2] 30):=⟨_,rfl⟩;rw [<-hW2] at HF2 HS2 ⊢;clear hW2 hg2;have hgl:=(HF2.out.blk 0 rfl).lt;have HFS:=aA (λW (hb:RowKit.Below W2.heap.size W2 W)=>qO t cn _ _ W (HS2.out.below hb));have HLS:=aA (λW (hb:RowKit.Below W2.heap.size W2 W)=>BV t cn _ _ W (HS2.out.below hb));have HPL:=aA (oU cn);obtain ⟨d0,d1⟩:=(HF2.out.blk 0 rfl).pair;go_upto_region 7 with (go_at_call 127;refine (HFS.out _ (zY _ _)).mono ?_;rintro e w3 ⟨rfl,hb3⟩;have HB3:=aA hb3;clear hb3 d0 d1);go_loopw [6,7] (λc i wr=>∃j:Nat,j<=(pg9 cn).length/\i=.int .i64 (bL cn+j)/\Trd t cn (gJ cn j 0) c/\Below W2.heap.size W2 wr) (λ_ i _=>(lP cn+1-intOf i).toNat);case atStart=>exact ⟨0,YD _,by rw [Int.ofNat_zero,Int.add_zero],⟨show ∀z∈([]:List aL),iA t cn z=false from (by simp),rfl⟩,HB3.out⟩
  case round=>
   obtain ⟨j,hj,rfl,htr,hb⟩:=hrel;have HTR:=aA htr;have HB:=aA hb;have hcc:=htr.2;subst hcc;clear HB3 htr hb;obtain ⟨d0,d1⟩:=((HF2.out.next HB.out).blk 0 rfl).pair;by_cases hlt:j<(pg9 cn).length
   ·have hle:bL cn+(j:Int)<=lP cn:=(by have:=HPL.out;omega);have HLT:=aA hlt;go_wp2_with (go_at_call 128;refine (HLS.out _ HB.out).mono ?_;rintro e w4 ⟨rfl,hb4⟩;have HB4:=aA (HB.out.trans (hb4.mono HB.out.size));clear hb4 d0 d1);go_loopw [6,8] (λc i wr=>∃k:Nat,k<=256/\i=.int .i64 k/\Trd t cn (gJ cn j k) c/\Below W2.heap.size W2 wr) (λ_ i _=>(256-intOf i).toNat);case atStart=>exact ⟨0,YD _,rfl,HTR.out,HB4.out⟩
    case round=>
     obtain ⟨k,hk,rfl,htr,hb⟩:=hrel;clear HTR HB4 HB;have HTR:=aA htr;have HB:=aA hb;have hcc:=htr.2;subst hcc;clear htr hb;by_cases hlk:k<256
     ·have hcv:IntKind.u8.wrap (k:Int)=k:=IntWalk.u8_in _ (by omega);have HA:=aA (λW=>pY (bL cn+j) k hlk W);have HKD:=aA (uB (bL cn+j) k);have HY0:=aA (λh=>HTR.out.none h);have HYF:=aA (λx h hn=>HTR.out.far (x:=x) h hn);have HYN:=aA (λx h hn hh=>HTR.out.near (x:=x) h hn hh);have HYH:=aA (λx h hh=>HHT.out (gJ cn j k) x (by rw [<-pJ h];exact BD cn HLT.out hlk) HTR.out.1 hh);have HEX:=aA (λx h=>GF (x:=x) HLT.out hlk h);generalize atF (bL cn+j) k=r at *;obtain ⟨x,kk⟩:=r;dsimp only at *;rcases x with _|x
      ·have hk1:¬kk=1:=(by rcases HKD.out.2 rfl with h|h|h<;>omega);have HY:=aA (HY0.out rfl);clear HKD HY0 HYF HYN HTR HYH HEX;go_wp2_with fail;refine (HA.out _).mono ?_;rintro e w5 ⟨he,hb5⟩;subst he;have HB5:=aA ((HB.out.trans (hb5.mono HB.out.size)).alloc (by have:=hb5.size;have:=HB.out.size;omega) (.cells #[.int .i64 0,.int .u8 0,.string ⟨#[]⟩,.slice none 0 0,.string ⟨#[]⟩,.bool false] 122));clear hb5;unfold mX;go_wp2;go_round;case rel=>exact ⟨k+1,hlk,by go_num,HY.out,HB5.out⟩
       case measure=>simp [intOf];omega
      ·obtain rfl:kk=1:=HKD.out.1 _ rfl;obtain ⟨hok,hx1⟩:=HEX.out x rfl;have hfo:=kP hok (t:=t) (c:=cn);obtain ⟨p1,o1,i1,l1,s1,f1⟩:=x;dsimp only at hx1 hfo;have HYX:Hid (f1=true\/shF ⟨i1.toArray⟩ t l1 cn=false->Trd t cn (gJ cn j (k+1)) (.int .i64 (jP t cn (gJ cn j k)))):=aA (λh=>HYF.out _ rfl (by
        unfold dL;rcases h with h|h<;>dsimp only<;>rw [h]
        ·rfl
        ·exact Bool.and_false _))
       have hne:f1=false->shF ⟨i1.toArray⟩ t l1 cn=true->dL t cn ⟨p1,o1,i1,l1,s1,f1⟩=true:=λh1 h2=>(by unfold dL;dsimp only;rw [h1,h2];rfl);have HYW:Hid (f1=false->shF ⟨i1.toArray⟩ t l1 cn=true->dB ⟨i1.toArray⟩ t s1 l1 cn=false->Trd t cn (gJ cn j (k+1)) (.int .i64 2)):=aA (λh1 h2 h3=>HYN.out _ rfl (hne h1 h2) (by unfold iA;rw [hne h1 h2,hfo,h3];rfl));have HYZ:Hid (f1=false->shF ⟨i1.toArray⟩ t l1 cn=true->dB ⟨i1.toArray⟩ t s1 l1 cn=true->R=(some ⟨p1,o1,i1,l1,s1,f1⟩,0)):=aA (λh1 h2 h3=>HYH.out _ rfl (by unfold iA;rw [hne h1 h2,hfo,h3];rfl));have hx1:(⟨s1.toArray⟩:ByteArray).size<=9223372036854775807:=qJ hx1 (by decide);obtain ⟨S,hS⟩:∃S:ByteArray,S=⟨i1.toArray⟩:=⟨_,rfl⟩;rw [<-hS] at HYX HYW HYZ;have HSS:=aA hS;clear HKD HY0 HYF HYN HTR HYH HEX hok hne hfo hS;go_wp2_with fail;refine (HA.out _).mono ?_;rintro e w5 ⟨⟨v5,rfl,ho5⟩,hb5⟩;obtain ⟨va,vc,rfl⟩:=ho5.form;unfold bQ;dsimp only at *;rw [<-HSS.out];have hsz:=HB.out.size;have H5:=aA (((Fr.start W2).next (HB.out.trans (hb5.mono HB.out.size))).new 122 #[.int .i64 p1,.int .u8 o1,.string S,.slice va l1.length vc,.string ⟨s1.toArray⟩,.bool f1]);have HS5:=aA (ho5.below ((zY _ _).alloc (zI _) (.cells #[.int .i64 p1,.int .u8 o1,.string S,.slice va l1.length vc,.string ⟨s1.toArray⟩,.bool f1] 122)));clear hb5 ho5;go_upto_region 13 with fail;generalize hg5:w5.heap.size=g5 at *;obtain ⟨W5,hW5⟩:∃W:World,W=w5.alloc (.cells #[.int .i64 p1,.int .u8 o1,.string S,.slice va l1.length vc,.string ⟨s1.toArray⟩,.bool f1] 122):=⟨_,rfl⟩;rw [<-hW5] at H5 HS5 ⊢;clear hW5 hg5;obtain ⟨c0,c1,c2,c3,c4,c5⟩:=(H5.out.blk 0 rfl).six;obtain ⟨d0,d1⟩:=((HF2.out.next H5.out.below).blk 0 rfl).pair;obtain ⟨e0,e1⟩:=((HF2.out.next H5.out.below).blk 2 rfl).pair;cases f1;rotate_left
       ·have HY:=aA (HYX.out (.inl rfl));exact tX62
       cases hq:(S.toList==t.toList)
       ·have HY:=aA (HYX.out (.inr (EA hq)));exact tX62
       cases hsh:shF S t l1 cn
       ·have HY:=aA (HYX.out (.inr hsh));clear HYX HYW HYZ;go_wp2_with (go_at_call 129;refine (jV p1 o1 S ⟨s1.toArray⟩ t false l1 cn _ _ _ _ _ HS5.out.slR (HS2.out.below H5.out.below)).mono ?_;rintro e w6 ⟨rfl,hb⟩;rw [hsh];have H6:=aA (H5.out.next hb);have HS6:=aA (HS5.out.below hb);obtain ⟨c0,c1,c2,c3,c4,c5⟩:=(H6.out.blk 0 rfl).six;obtain ⟨e0,e1⟩:=((HF2.out.next H6.out.below).blk 2 rfl).pair;clear hb);go_round;case rel=>exact ⟨k+1,hlk,by go_num,HY.out,H6.out.below⟩
        case measure=>simp [intOf];omega
       cases hfc:dB S t s1 l1 cn
       ·have HY:=aA (HYW.out rfl hsh hfc);clear HYX HYW HYZ;go_wp2_with (first|(go_at_call 129;refine (jV p1 o1 S ⟨s1.toArray⟩ t false l1 cn _ _ _ _ _ HS5.out.slR (HS2.out.below H5.out.below)).mono ?_;rintro e w6 ⟨rfl,hb⟩;rw [hsh];have H6:=aA (H5.out.next hb);have HS6:=aA (HS5.out.below hb);obtain ⟨c0,c1,c2,c3,c4,c5⟩:=(H6.out.blk 0 rfl).six;obtain ⟨e0,e1⟩:=((HF2.out.next H6.out.below).blk 2 rfl).pair;clear hb)|(go_at_call 130;refine (HFT.out S ⟨s1.toArray⟩ false l1 _ _ _ (HF2.out.next H6.out.below).below HS6.out.slR hx1 p1 o1).mono ?_;rintro e w7 ⟨rfl,hb⟩;rw [show (⟨s1.toArray⟩:ByteArray).data.toList=s1 from rfl,hfc];have H7:=aA (H6.out.next hb);have HS7:=aA (HS6.out.below hb);obtain ⟨c0,c1,c2,c3,c4,c5⟩:=(H7.out.blk 0 rfl).six;obtain ⟨r0,r1,r2,r3,r4,r5⟩:=((HF2.out.next H7.out.below).blk 1 rfl).six;obtain ⟨s0,s1',s2,s3,s4,s5⟩:=((HF2.out.next H7.out.below).blk 1 rfl).free6;clear hb));go_round;case rel=>exact ⟨k+1,hlk,by go_num,HY.out,H7.out.below⟩
        case measure=>simp [intOf];omega
       ·have HY:=aA (HYZ.out rfl hsh hfc);clear HYX HYW HYZ;go_wp2_with (first|(go_at_call 129;refine (jV p1 o1 S ⟨s1.toArray⟩ t false l1 cn _ _ _ _ _ HS5.out.slR (HS2.out.below H5.out.below)).mono ?_;rintro e w6 ⟨rfl,hb⟩;rw [hsh];have H6:=aA (H5.out.next hb);have HS6:=aA (HS5.out.below hb);obtain ⟨c0,c1,c2,c3,c4,c5⟩:=(H6.out.blk 0 rfl).six;obtain ⟨e0,e1⟩:=((HF2.out.next H6.out.below).blk 2 rfl).pair;clear hb)|(go_at_call 130;refine (HFT.out S ⟨s1.toArray⟩ false l1 _ _ _ (HF2.out.next H6.out.below).below HS6.out.slR hx1 p1 o1).mono ?_;rintro e w7 ⟨rfl,hb⟩;rw [show (⟨s1.toArray⟩:ByteArray).data.toList=s1 from rfl,hfc];have H7:=aA (H6.out.next hb);have HS7:=aA (HS6.out.below hb);obtain ⟨c0,c1,c2,c3,c4,c5⟩:=(H7.out.blk 0 rfl).six;obtain ⟨r0,r1,r2,r3,r4,r5⟩:=((HF2.out.next H7.out.below).blk 1 rfl).six;obtain ⟨s0,s1',s2,s3,s4,s5⟩:=((HF2.out.next H7.out.below).blk 1 rfl).free6;clear hb));have HE:=aA (((HF2.out.next H7.out.below).sub (M:=[(w.heap.size+1,122,#[.int .i64 0,.int .u8 0,.string ⟨#[]⟩,.slice none 0 0,.string ⟨#[]⟩,.bool false])]) (by simp)).set6 (jQ _) (λx hx=>by cases hx) (.int .i64 p1) (.int .u8 o1) (.string S) (.slice va l1.length vc) (.string ⟨s1.toArray⟩) (.bool false));have hlt1:=(HF2.out.blk 1 rfl).lt;exact yR (eD rfl rfl (HE.out.blk 0 rfl)) rfl (by rw [HY.out];exact ⟨⟨_,_,by rw [HSS.out];rfl,(HS7.out.far6 (λk hk=>by omega) _ _ _ _ _ _).slR⟩,HE.out.below⟩)
     ·obtain rfl:k=256:=(by omega);have hw:wrap64 (bL cn+(j:Int)+1)=bL cn+((j+1:Nat):Int):=(by have:=HPL.out;have:=HLT.out;rw [Int.natCast_add];unfold wrap64;omega);go_wp2;go_round;case rel=>exact ⟨j+1,HLT.out,by rw [hw],by rw [<-wO cn j HLT.out];exact HTR.out,HB.out⟩
      case measure=>simp only [intOf];rw [hw];omega
   ·obtain rfl:j=(pg9 cn).length:=(by omega);have hle:¬bL cn+((pg9 cn).length:Int)<=lP cn:=(by have:=HPL.out;omega);go_wp2_with (go_at_call 128;refine (HLS.out _ HB.out).mono ?_;rintro e w4 ⟨rfl,hb4⟩;have HF4:=aA ((HF2.out.next (HB.out.trans (hb4.mono HB.out.size))).sub (M:=[(w.heap.size+1,122,#[.int .i64 0,.int .u8 0,.string ⟨#[]⟩,.slice none 0 0,.string ⟨#[]⟩,.bool false])]) (by simp));obtain ⟨r0,r1,r2,r3,r4,r5⟩:=(HF4.out.blk 0 rfl).six;obtain ⟨s0,s1,s2,s3,s4,s5⟩:=(HF4.out.blk 0 rfl).free6;clear hb4 d0 d1);have HE:=aA (HF4.out.set6 (jQ _) (λx hx=>by cases hx) (.int .i64 0) (.int .u8 0) (.string ⟨#[]⟩) (.slice none 0 0) (.string ⟨#[]⟩) (.bool false));exact yR (eD rfl rfl (HE.out.blk 0 rfl)) rfl (by rw [HEN.out (by rw [<-sS];exact HTR.out.1),<-sS];exact ⟨rfl,HE.out.below⟩)
end Go.Proofs.YtpigbggoiipmhaaGreatDoor
