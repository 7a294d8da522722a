/-
  Functions of the program and of the reference, walked; plain facts on what they compute. Conditions: sizes.
-/
import Derived.Test.YtpigbggoiipmhaaGreatDoorBE2
import Derived.Test.YtpigbggoiipmhaaGreatDoorBA17
namespace Go.Proofs.YtpigbggoiipmhaaGreatDoor
open Go.RowKit Go.Shelf Go.Sort
def rY (ex:List UInt8) (l c:List Opd) (k:Nat):Bool:=if eQ l ex k=0 then nAt l k==nAt c k else cE (eQ l ex k) (nAt c k)
def dB (s t:ByteArray) (ex:List UInt8) (l c:List Opd):Bool:=shF s t l c&&(List.range c.length).all (rY ex l c)
theorem AU {s t:ByteArray} {ex:List UInt8} {l c:List Opd} (h:shF s t l c=false):dB s t ex l c=false:=by unfold dB;rw [h];rfl
theorem jJ {s t:ByteArray} {l m:List Opd} (h:shF s t l m=true):l.length=m.length:=by exact tX6c
def oL (L n:Int) (r:Int × Int):Int × Int:=if L=100 then (n,r.2) else if L=101\/L=110\/L=119 then (r.1,n) else r
def qB (ex:List UInt8) (l c:List Opd):Nat->Int × Int
 | 0=>(0,0)
 | k+1=>oL (eQ l ex k) (nAt c k) (qB ex l c k)
def qV (s t:ByteArray) (ex:List UInt8) (l c:List Opd):Int × Int:=if dB s t ex l c=true then qB ex l c c.length else (0,0)
theorem nR {l:List Opd} {k:Nat} (h:k<l.length):nAt l k=l[k].n:=by unfold nAt;rw [zL h]
theorem xO {s t:ByteArray} {ex:List UInt8} {l c:List Opd} (h:dB s t ex l c=true):l.length=c.length:=jJ (xS.1 h).1
theorem zF {l:List Opd} {k:Nat} {x:Opd} (h:l[k]?=some x):nAt l k=x.n:=by unfold nAt;rw [h]
theorem pQ {i:Nat} {lo hi:Int} {op:ByteArray} {c:List Opd} {x:Opd} (hx:c[i]?=some x):jT (i:Int) lo hi true op c=(x.n,(if bG lo hi x.n=true then op else ⟨#[]⟩),(if bG lo hi x.n=true then c.set i (z0 x) else c)):=by unfold jT;rw [if_pos rfl,z0X,hx];rfl
theorem qP {idx lo hi:Int} {op:ByteArray} {c:List Opd}:jT idx lo hi false op c=(0,op,c):=if_neg (by decide)
theorem zero_eq {l c m:List Opd} (P:Nat->Prop) [DecidablePred P] (hk:l.map kr=c.map kr) (hm:m.length=c.length) (h1:∀k,k<c.length->m[k]?=(c[k]?).map λo=>if P k then z0 o else o) (h2:∀k,k<l.length->P k->nAt l k=0):
  m=l↔∀k,k<l.length->¬P k->nAt l k=nAt c k:=by
 have hl:l.length=c.length:=by have:=congrArg List.length hk;simpa using this
 have hkr:∀k (h:k<l.length) (h':k<c.length),l[k].kind=c[k].kind/\l[k].reg=c[k].reg:=λk h h'=>by
  have e:(l.map kr)[k]?=(c.map kr)[k]?:=by rw [hk]
  rw [z0Q,z0Q,zL h,zL h'] at e;simp only [Option.map_some,kr] at e;injection e with e;injection e with e1 e2;exact ⟨e1,e2⟩
 constructor
 ·rintro rfl k hlt hP;have:=h1 k (by omega);rw [zL (show k<c.length by omega),Option.map_some,if_neg hP,<-zL (show k<c.length by omega)] at this;unfold nAt;rw [this]
 ·intro h;refine z2J λk=>?_;by_cases hlt:k<l.length
  ·have hc:k<c.length:=(by omega);obtain ⟨e1,e2⟩:=hkr k hlt hc;rw [h1 k hc,zL hc,zL hlt,Option.map_some];congr 1;split
   ·rename_i hP;have h3:=h2 k hlt hP;rw [nR hlt] at h3;rw [z0,<-e1,<-e2,<-h3]
   ·rename_i hP;have h3:=h k hlt hP;rw [nR hlt,nR hc] at h3;generalize l[k]=a at *;generalize c[k]=b at *;obtain ⟨a1,a2,a3⟩:=a;obtain ⟨b1,b2,b3⟩:=b;dsimp only at *;subst e1 e2 h3;rfl
  ·rw [z0W (by omega),z0W (by omega)]
theorem rA {s t:ByteArray} {ex:List UInt8} {l c:List Opd} {D J:Option Nat} {L lo hi:Int} (V:uE ex l D J L lo hi) (hs:shF s t l c=true):
  dB s t ex l c=true↔(∀i,D=some i->bG (-128) 127 (nAt c i)=true)/\(∀j,J=some j->bG lo hi (nAt c j)=true)/\∀k,k<l.length->¬(D=some k\/J=some k)->nAt l k=nAt c k:=by
 have hl:l.length=c.length:=jJ hs;have hL0:L≠0:=by have:=V.ll;omega
 unfold dB;rw [hs,z0Y,z1A];have hd:∀n,cE 100 n=bG (-128) 127 n:=λn=>by unfold cE bG;rw [if_pos (Or.inl rfl)]
 constructor
 ·intro h;refine ⟨λi hi=>?_,λj hj=>?_,λk hk hP=>?_⟩
  ·have h3:=(V.d1 i hi).2.2.1;have h4:=h i (z1D.2 (by omega));unfold rY at h4;rw [V.le i h3,if_pos hi,if_neg (by decide),hd] at h4;exact h4
  ·have h3:=(V.j1 j hj).2.1;have h4:=h j (z1D.2 (by omega));unfold rY at h4;rw [V.le j h3,if_neg (λe=>V.ne j e hj),if_pos hj,if_neg hL0,V.wi] at h4;exact h4
  ·have h4:=h k (z1D.2 (by omega));unfold rY at h4;rw [V.le k hk,if_neg (λe=>hP (Or.inl e)),if_neg (λe=>hP (Or.inr e)),if_pos rfl] at h4;exact eq_of_beq h4
 ·rintro ⟨h1,h2,h3⟩ k hk;have hk2:=z1D.1 hk;unfold rY;rw [V.le k (by omega)];by_cases e1:D=some k
  ·rw [if_pos e1,if_neg (by decide),hd];exact h1 k e1
  by_cases e2:J=some k
  ·rw [if_neg e1,if_pos e2,if_neg hL0,V.wi];exact h2 k e2
  rw [if_neg e1,if_neg e2,if_pos rfl,h3 k (by omega) (by rintro (h|h);exact e1 h;exact e2 h)];exact beq_self_eq_true _
def dAt (c:List Opd):Option Nat->Int
 | some i=>nAt c i
 | none=>0
theorem AQ {ex:List UInt8} {l c:List Opd} {D J:Option Nat} {L lo hi:Int} (V:uE ex l D J L lo hi) (hl:l.length=c.length):
  qB ex l c c.length=(dAt c D,dAt c J):=by
 have hL:L=101\/L=110\/L=119:=V.ll;have key:∀m,m<=l.length->qB ex l c m=((match D with|some i=>if i<m then nAt c i else 0|none=>0),(match J with|some j=>if j<m then nAt c j else 0|none=>0)):=by
  intro m;induction m with
  | zero=>intro _;cases D<;>cases J<;>simp [qB]
  | succ m ih=>
   intro hm;have ih:=ih (by omega);rw [qB,ih,V.le m (by omega)];by_cases e1:D=some m
   ·subst e1;have e2:=V.ne m rfl;rw [if_pos rfl];unfold oL;rw [if_pos rfl];refine Prod.ext ?_ ?_
    ·simp
    ·cases J with
     | none=>rfl
     | some j=>
      have:j≠m:=λe=>e2 (by rw [e]);show (if j<m then nAt c j else 0)=if j<m+1 then nAt c j else 0;by_cases h:j<m
      ·rw [if_pos h,if_pos (by omega)]
      ·rw [if_neg h,if_neg (by omega)]
   by_cases e2:J=some m
   ·subst e2;rw [if_neg e1,if_pos rfl];unfold oL;rw [if_neg (by omega),if_pos hL];refine Prod.ext ?_ ?_
    ·cases D with
     | none=>rfl
     | some i=>
      have:i≠m:=λe=>e1 (by rw [e]);show (if i<m then nAt c i else 0)=if i<m+1 then nAt c i else 0;by_cases h:i<m
      ·rw [if_pos h,if_pos (by omega)]
      ·rw [if_neg h,if_neg (by omega)]
    ·simp
   rw [if_neg e1,if_neg e2];unfold oL;rw [if_neg (by decide),if_neg (by decide)];refine Prod.ext ?_ ?_
   ·cases D with
    | none=>rfl
    | some i=>
     have:i≠m:=λe=>e1 (by rw [e]);show (if i<m then nAt c i else 0)=if i<m+1 then nAt c i else 0;by_cases h:i<m
     ·rw [if_pos h,if_pos (by omega)]
     ·rw [if_neg h,if_neg (by omega)]
   ·cases J with
    | none=>rfl
    | some j=>
     have:j≠m:=λe=>e2 (by rw [e]);show (if j<m then nAt c j else 0)=if j<m+1 then nAt c j else 0;by_cases h:j<m
     ·rw [if_pos h,if_pos (by omega)]
     ·rw [if_neg h,if_neg (by omega)]
 rw [<-hl,key _ (zI _)];refine Prod.ext ?_ ?_
 ·cases D with
  | none=>rfl
  | some i=>exact if_pos (V.d1 i rfl).2.2.1
 ·cases J with
  | none=>rfl
  | some j=>exact if_pos (V.j1 j rfl).2.1
theorem mI {s t:ByteArray} {l c:List Opd} (h:shF s t l c=true):s=t/\l.map kr=c.map kr:=by unfold shF at h;obtain ⟨h1,h2⟩:=xS.1 h;exact ⟨gA (eq_of_beq h1),jU h2⟩
theorem lX {a s:ByteArray} {m l:List Opd} {b:Bool} (h:(a=s/\m=l)↔b=true):fG ⟨a,m⟩ ⟨s,l⟩=b:=by unfold fG;rw [z0C,decide_eq_true_iff];exact h
theorem lW {s t:ByteArray} {ex:List UInt8} {l c:List Opd} {x1 x2 d n:Int} {b:Bool} (hb:b=dB s t ex l c) (hv:qB ex l c c.length=(d,n)) (h1:x1=d) (h2:x2=n):
  (if b=true then (x1,x2,true) else (0,0,false))=((qV s t ex l c).1,(qV s t ex l c).2,dB s t ex l c):=by
 subst hb h1 h2;unfold qV;cases h:dB s t ex l c
 ·rfl
 ·rw [if_pos rfl,if_pos rfl,hv]
theorem yJ {s t:ByteArray} {ex:List UInt8} {l c:List Opd} {D J:Option Nat} {L lo hi:Int} (V:uE ex l D J L lo hi) (hu:dG s=s) (hn:s≠⟨#[]⟩):
  fQ s t ex l c=((qV s t ex l c).1,(qV s t ex l c).2,dB s t ex l c):=by
 cases hs:shF s t l c
 ·have h1:=AU hs (ex:=ex);unfold fQ qV;rw [hs,h1];rfl
 have hl:=jJ hs;obtain ⟨hst,hk⟩:=mI hs;have hiff:=rA V hs;have hv:=AQ V hl;have hz:=λm P [DecidablePred P]=>zero_eq (l:=l) (c:=c) (m:=m) P hk;unfold fQ;rw [if_pos hs];subst hst;rw [hu];cases hD:D with
 | none=>
  rw [V.d0 hD,qP];dsimp only;cases hJ:J with
  | none=>rw [V.j0 hJ,qP];refine lW (lX ?_) hv (by rw [hD];rfl) (by rw [hJ];rfl);rw [hiff,hD,hJ];rw [hz c (λ_=>False) rfl (λk hk=>by simp) (λ_ _ h=>h.elim)];simp
  | some j=>
   obtain ⟨e1,e2,e3⟩:=V.j1 j hJ;have hx:c[j]?=some c[j]:=zL (by omega);have hy:nAt c j=c[j].n:=zF hx;rw [e1,pQ hx];refine lW (lX ?_) hv (by rw [hD];rfl) (by rw [hJ];exact hy.symm);rw [hiff,hD,hJ];cases hf:bG lo hi c[j].n
   ·rw [if_neg (by decide)];exact tX7d
   ·rw [if_pos rfl,if_pos rfl];rw [hz (c.set j (z0 c[j])) (λk=>j=k) (by rw [QQ]) (λk hk=>by
     rw [z1L];by_cases h:j=k
     ·subst h;rw [if_pos rfl,if_pos hk,hx,Option.map_some,if_pos rfl]
     ·rw [if_neg h];simp [h]) (λk _ h=>by rw [<-h];exact e3)]
    constructor
    ·rintro ⟨_,h⟩;exact ⟨λi hi=>(by cases hi),λj' hj'=>by injection hj' with hj';subst hj';rw [hy];exact hf,λk hk hP=>h k hk (λe=>hP (Or.inr (by rw [e])))⟩
    ·rintro ⟨_,_,h⟩;exact ⟨rfl,λk hk hP=>h k hk (by rintro (h|h);cases h;injection h with h;exact hP h)⟩
 | some i=>
  obtain ⟨d1,d2,d3,d4⟩:=V.d1 i hD;have hxi:c[i]?=some c[i]:=zL (by omega);have hyi:nAt c i=c[i].n:=zF hxi;rw [d1,d2,pQ hxi];dsimp only;cases hJ:J with
  | none=>
   rw [V.j0 hJ,qP];refine lW (lX ?_) hv (by rw [hD];exact hyi.symm) (by rw [hJ];rfl);rw [hiff,hD,hJ];cases hf:bG (-128) 127 c[i].n
   ·rw [if_neg (by decide)];exact ⟨λh=>absurd h.1.symm hn,λh=>absurd (h.1 i rfl) (by rw [hyi,hf];decide)⟩
   ·rw [if_pos rfl,if_pos rfl];rw [hz (c.set i (z0 c[i])) (λk=>i=k) (by rw [QQ]) (λk hk=>by
     rw [z1L];by_cases h:i=k
     ·subst h;rw [if_pos rfl,if_pos hk,hxi,Option.map_some,if_pos rfl]
     ·rw [if_neg h];simp [h]) (λk _ h=>by rw [<-h];exact d4)]
    constructor
    ·rintro ⟨_,h⟩;exact ⟨λi' hi'=>by injection hi' with hi';subst hi';rw [hyi];exact hf,λj hj=>(by cases hj),λk hk hP=>h k hk (λe=>hP (Or.inl (by rw [e])))⟩
    ·rintro ⟨_,_,h⟩;exact ⟨rfl,λk hk hP=>h k hk (by rintro (h|h);injection h with h;exact hP h;cases h)⟩
  | some j=>
   obtain ⟨e1,e2,e3⟩:=V.j1 j hJ;have hij:i≠j:=λe=>V.ne i hD (by rw [hJ,e]);have hx:c[j]?=some c[j]:=zL (by omega);have hy:nAt c j=c[j].n:=zF hx;rw [e1];cases hf1:bG (-128) 127 c[i].n
   ·simp only [Bool.false_eq_true,if_false];rw [pQ hx];refine lW (lX ?_) hv (by rw [hD];exact hyi.symm) (by rw [hJ];exact hy.symm);rw [hiff,hD,hJ];exact ⟨λh=>absurd (by have:=h.1;split at this<;>exact this.symm) hn,λh=>absurd (h.1 i rfl) (by rw [hyi,hf1];decide)⟩
   ·simp only [if_true];rw [pQ (x:=c[j]) (by rw [z0F hij];exact hx)];refine lW (lX ?_) hv (by rw [hD];exact hyi.symm) (by rw [hJ];exact hy.symm);rw [hiff,hD,hJ];cases hf:bG lo hi c[j].n
    ·rw [if_neg (by decide)];exact tX7d
    ·rw [if_pos rfl,if_pos rfl];rw [hz ((c.set i (z0 c[i])).set j (z0 c[j])) (λk=>i=k\/j=k) (by rw [QQ,QQ]) (λk hk=>by
      rw [z1L,z1L];by_cases h:j=k
      ·subst h;rw [if_pos rfl,if_pos (by rw [QQ];exact hk),hx,Option.map_some,if_pos (Or.inr rfl)]
      ·rw [if_neg h];by_cases h2:i=k
       ·subst h2;rw [if_pos rfl,if_pos hk,hxi,Option.map_some,if_pos (Or.inl rfl)]
       ·rw [if_neg h2];simp [h,h2]) (λk _ h=>by rcases h with h|h;rw [<-h];exact d4;rw [<-h];exact e3)]
     constructor
     ·rintro ⟨_,h⟩;exact ⟨λi' hi'=>by injection hi' with hi';subst hi';rw [hyi];exact hf1,λj' hj'=>by injection hj' with hj';subst hj';rw [hy];exact hf,λk hk hP=>h k hk (λe=>hP (by rcases e with e|e;exact Or.inl (by rw [e]);exact Or.inr (by rw [e])))⟩
     ·rintro ⟨_,_,h⟩;exact ⟨rfl,λk hk hP=>h k hk (by rintro (h|h);injection h with h;exact hP (Or.inl h);injection h with h;exact hP (Or.inr h))⟩
theorem xK {x:aL} (hx:fA x) {d n:Int} {c:List Opd}:fN x.ex x.args d n=some c↔yC x d n c:=by
 have hL:lL x.ex=101\/lL x.ex=110\/lL x.ex=119:=hx.var.ll;have hel:∀k (hk:k<x.args.length),(lK x.ex x.args d n x.args.length)[k]?=some (if Dof x.ex x.args=some k then {x.args[k] with n:=d} else if Jof x.ex x.args=some k then {x.args[k] with n:=n} else x.args[k]):=λk hk=>by
  rw [xY _ _ _ _ _ k hk,hx.var.le k hk,EO hk];congr 1;unfold AC filN;by_cases e1:Dof x.ex x.args=some k
  ·rw [if_pos e1,if_pos e1,if_pos rfl]
  rw [if_neg e1,if_neg e1];by_cases e2:Jof x.ex x.args=some k
  ·rw [if_pos e2,if_pos e2,if_neg (by omega),if_pos hL]
  rw [if_neg e2,if_neg e2,if_neg (by decide),if_neg (by decide)]
 rw [xN hx.var];constructor
 ·intro h;split at h
  ·rename_i hc;injection h with h;subst h;obtain ⟨a,b⟩:=xS.1 hc;refine ⟨?_,b,a,hel⟩;refine z2J λk=>?_;rw [z0Q,z0Q];by_cases hk:k<x.args.length
   ·rw [hel k hk,zL hk,Option.map_some,Option.map_some];congr 1;split
    ·rfl
    ·split<;>rfl
   ·rw [z0W (by rw [iH];omega),z0W (by omega)]
  ·cases h
 ·intro h;rw [if_pos (xS.2 ⟨h.okn,h.okd⟩)];congr 1;refine z2J λk=>?_;by_cases hk:k<x.args.length
  ·rw [hel k hk,h.el k hk]
  ·have:=h.len;rw [z0W (by rw [iH];omega),z0W (by omega)]
theorem qM {x:aL} (hx:fA x) {t:ByteArray} {c:List Opd}:dB ⟨x.iop.toArray⟩ t x.ex x.args c=true↔t=⟨x.iop.toArray⟩/\yC x (dAt c (Dof x.ex x.args)) (dAt c (Jof x.ex x.args)) c:=by
 constructor
 ·intro h;have hs:shF ⟨x.iop.toArray⟩ t x.args c=true:=(xS.1 h).1;obtain ⟨hst,hk⟩:=mI hs;have hl:=jJ hs;obtain ⟨h1,h2,h3⟩:=(rA hx.var hs).1 h;refine ⟨hst.symm,⟨hk.symm,?_,?_,λk hlt=>?_⟩⟩
  ·cases hD:Dof x.ex x.args with
   | none=>rfl
   | some i=>exact h1 i hD
  ·cases hJ:Jof x.ex x.args with
   | none=>rfl
   | some j=>exact h2 j hJ
  ·have hc:k<c.length:=(by omega);have e:(x.args.map kr)[k]?=(c.map kr)[k]?:=(by rw [hk]);rw [z0Q,z0Q,zL hlt,zL hc] at e;simp only [Option.map_some,kr] at e;injection e with e;injection e with e1 e2;rw [zL hc];congr 1;have hn:nAt c k=c[k].n:=nR hc;by_cases g1:Dof x.ex x.args=some k
   ·rw [if_pos g1,g1];show c[k]=⟨x.args[k].kind,x.args[k].reg,nAt c k⟩;rw [hn,e1,e2]
   rw [if_neg g1];by_cases g2:Jof x.ex x.args=some k
   ·rw [if_pos g2,g2];show c[k]=⟨x.args[k].kind,x.args[k].reg,nAt c k⟩;rw [hn,e1,e2]
   rw [if_neg g2];have e3:=h3 k hlt (by rintro (h|h);exact g1 h;exact g2 h);rw [nR hlt,hn] at e3;generalize x.args[k]=a at *;generalize c[k]=b at *;obtain ⟨a1,a2,a3⟩:=a;obtain ⟨b1,b2,b3⟩:=b;dsimp only at *;subst e1 e2 e3;rfl
 ·rintro ⟨rfl,h⟩;have hs:shF ⟨x.iop.toArray⟩ ⟨x.iop.toArray⟩ x.args c=true:=by unfold shF;rw [h.k];simp
  refine (rA hx.var hs).2 ⟨λi hi=>?_,λj hj=>?_,λk hk hP=>?_⟩
  ·have:=h.okd;rw [hi] at this;exact this
  ·have:=h.okn;rw [hj] at this;exact this
  ·have:=h.el k hk;rw [if_neg (λe=>hP (Or.inl e)),if_neg (λe=>hP (Or.inr e))] at this;rw [zF this,nR hk]
theorem UF {s:ByteArray} {l c:List Opd} (hk:c.map kr=l.map kr) (h:EG s l=true):cP s c=c:=by
 unfold EG at h;obtain ⟨h1,h⟩:=xS.1 h;obtain ⟨h2,h⟩:=xS.1 h;have hl:l.length=c.length:=by have:=congrArg List.length hk;simpa using this.symm
 rw [<-hk,hl] at h1;rw [hl] at h2
 match c with
 | []=>rfl
 | [x]=>
  have:inL iS s=false:=by simpa using h2
  unfold cP;rw [this];rfl
 | [x,y]=>
  have:(inL iM s&&aP x kM)=false:=by
   cases e:inL iM s
   ·rfl
   ·rw [z0Y];rw [e] at h1;cases e2:aP x kM
    ·rfl
    ·exfalso;have e3:x=kM:=jU e2;rw [e3] at h1;simp [kr,kM] at h1
  show (if (inL iM s&&aP x kM)=true then [y] else [x,y])=[x,y];rw [this];rfl
 | _::_::_::_=>rfl
theorem exch_kr {s:ByteArray} {l c:List Opd} (hk:c.map kr=l.map kr) (h:EG s l=true):gI s c=c:=by unfold EG at h;obtain ⟨h1,h⟩:=xS.1 h;obtain ⟨h2,h⟩:=xS.1 h;obtain ⟨h3,h⟩:=xS.1 h;rw [<-hk] at h3;unfold gI;rw [if_neg];intro e;obtain ⟨e1,e2⟩:=xS.1 e;rw [e1] at h3;have e4:=jU e2;rw [e4] at h3;revert h3;decide
theorem VN {sz:Int} {o:Opd} (h:o.kind=6->0<=o.n):fE sz o=o:=by unfold fE;rw [if_neg];rintro ⟨h1,h2,_⟩;have:=h h1;omega
theorem WM {l:List Opd} {k:Nat} (h:k<l.length):kAt l k=l[k].kind:=by unfold kAt;rw [zL h]
theorem yC.canon {x:aL} (hx:fA x) {d n:Int} {c:List Opd} (h:yC x d n c):eB ⟨x.iop.toArray⟩ c=c:=by
 unfold eB;rw [UF h.k hx.c,exch_kr h.k hx.c];dsimp only;have hC:=hx.c;unfold EG at hC;obtain ⟨_,hC⟩:=xS.1 hC;obtain ⟨_,hC⟩:=xS.1 hC;obtain ⟨_,hC⟩:=xS.1 hC;have hV:=hx.v;unfold UZ at hV;obtain ⟨hV1,hV⟩:=xS.1 hV;obtain ⟨hV2,_⟩:=xS.1 hV;have key:∀o∈c,fE (iT (bW ⟨⟨x.iop.toArray⟩,c⟩)) o=o:=by
  intro o ho;refine VN λhk6=>?_;obtain ⟨k,hk,rfl⟩:=List.mem_iff_getElem.1 ho;have hlen:=h.len;have hk2:k<x.args.length:=by omega
  have e:=h.el k hk2;rw [zL hk] at e;injection e with e;rw [e] at hk6 ⊢;by_cases g1:Dof x.ex x.args=some k
  ·exfalso;rw [if_pos g1] at hk6;rw [g1] at hV1;have:=eq_of_beq (xS.1 (xS.1 hV1).2).2;rw [WM hk2] at this;have hk7:x.args[k].kind=6:=hk6;omega
  rw [if_neg g1] at hk6 ⊢;by_cases g2:Jof x.ex x.args=some k
  ·rw [if_pos g2] at hk6 ⊢;rw [g2] at hV2;have:=(xS.1 hV2).2;rw [WM hk2] at this;have hk7:x.args[k].kind=6:=hk6;rw [hk7] at this;have h0:0<=loF x.ex:=(by simpa using this);have hn:=h.okn;rw [g2] at hn;have h5:=jU (xS.1 (show bG (loF x.ex) (hiF x.ex) n=true from hn)).1;show 0<=n;omega
  rw [if_neg g2] at hk6 ⊢;have:=z1A.1 hC x.args[k] (z0J hk2);rw [hk6] at this;simpa using this
 have:c.map (fE (iT (bW ⟨⟨x.iop.toArray⟩,c⟩)))=c.map id:=List.map_congr_left key;rw [this,List.map_id]
theorem wE {k r a b m:Int} (h1:aC ⟨k,r,a⟩=true) (h2:aC ⟨k,r,b⟩=true) (ha:a<=m) (hb:m<=b):aC ⟨k,r,m⟩=true:=by
 unfold aC at *;dsimp only at *;split
 ·rename_i h;rw [if_pos h] at h1 h2;simp only [Bool.and_eq_true,beq_iff_eq] at h1 h2 ⊢;exact ⟨h1.1,by omega⟩
 rename_i g1;rw [if_neg g1] at h1 h2;split
 ·rename_i h;rw [if_pos h] at h1 h2;simp only [Bool.and_eq_true,decide_eq_true_eq] at h1 h2 ⊢;exact ⟨⟨h1.1.1,by omega⟩,by omega⟩
 rename_i g2;rw [if_neg g2] at h1 h2;split
 ·rename_i h;exact tX5c
 rename_i g3;rw [if_neg g3] at h1 h2;split
 ·rename_i h;exact tX5c
 rename_i g4;rw [if_neg g4] at h1 h2;split
 ·rename_i h;exact tX5c
 ·rename_i g5;rw [if_neg g5] at h1;exact h1
theorem yC.check {x:aL} (hx:fA x) {d n:Int} {c:List Opd} (h:yC x d n c):bH ⟨⟨x.iop.toArray⟩,c⟩=0:=by
 have hL:=hx.l;unfold XS at hL;obtain ⟨h1,hL⟩:=xS.1 hL;obtain ⟨h2,h3⟩:=xS.1 hL;have h2:=jU h2;have hlen:=h.len;unfold bH;dsimp only;rw [h1,if_neg (by decide),if_neg (by omega),if_pos];rw [z1A];intro o ho;obtain ⟨k,hk,rfl⟩:=List.mem_iff_getElem.1 ho;have hk2:k<x.args.length:=by omega
 have h4:=z1A.1 h3 k (z1D.2 hk2);rw [EO hk2] at h4;have e:=h.el k hk2;rw [zL hk] at e;injection e with e;rw [e];by_cases g1:Dof x.ex x.args=some k
 ·rw [if_pos g1] at h4 ⊢;have hd:=h.okd;rw [g1] at hd;obtain ⟨a1,a2⟩:=xS.1 (show bG (-128) 127 d=true from hd);exact tX6d
 rw [if_neg g1] at h4 ⊢;by_cases g2:Jof x.ex x.args=some k
 ·rw [if_pos g2] at h4 ⊢;have hd:=h.okn;rw [g2] at hd;obtain ⟨a1,a2⟩:=xS.1 (show bG (loF x.ex) (hiF x.ex) n=true from hd);exact tX6d
 rw [if_neg g2] at h4 ⊢;exact h4
theorem kJ {x:Ins} {e:aL} {k:Int} (h:cQ x=(some e,k)):e∈eC x.op.data.toList (aE x).args/\iA x.op (aE x).args e=true/\k=0/\bH x=0:=by
 unfold cQ at h;split at h
 ·rename_i hc;cases hf:(eC x.op.data.toList (aE x).args).find? (iA x.op (aE x).args) with
  | none=>rw [hf] at h;cases h
  | some e2=>rw [hf] at h;injection h with h1 h2;injection h1 with h1;subst h1;exact ⟨List.mem_of_find?_eq_some hf,List.find?_some hf,h2.symm,hc⟩
 ·cases h
theorem VD {x:Ins} {e:aL} {k:Int} (h:cQ x=(some e,k)):fA e:=by obtain ⟨p,k,hk,hx⟩:=jG (kJ h).1;exact mG hk hx
theorem tK {x:aL} (hx:fA x) {t:ByteArray} {c:List Opd} (h:dB ⟨x.iop.toArray⟩ t x.ex x.args c=true):fQ ⟨x.iop.toArray⟩ t x.ex x.args c=(dAt c (Dof x.ex x.args),dAt c (Jof x.ex x.args),true):=by rw [yJ hx.var hx.up hx.ne];unfold qV;rw [if_pos h,AQ hx.var (xO h),h]
theorem kP {x:aL} (hx:fA x) {t:ByteArray} {c:List Opd}:(fQ ⟨x.iop.toArray⟩ t x.ex x.args c).2.2=dB ⟨x.iop.toArray⟩ t x.ex x.args c:=by rw [yJ hx.var hx.up hx.ne]
theorem kT {x:Ins} {e:aL} {k:Int} (h:cQ x=(some e,k)):fA e/\k=0/\x.op=⟨e.iop.toArray⟩/\eB x.op (aE x).args=(aE x).args/\cQ (aE x)=(some e,0)/\∃d n,fQ ⟨e.iop.toArray⟩ x.op e.ex e.args (aE x).args=(d,n,true)/\tH e.ex e.args d n=some (aE x).args:=by
 obtain ⟨_,h2,rfl,h4⟩:=kJ h;have hx:=VD h;unfold iA at h2;obtain ⟨_,h3⟩:=xS.1 h2;rw [kP hx] at h3;have hv:=tK hx h3;obtain ⟨ht,hS⟩:=(qM hx).1 h3;have hc:eB x.op (aE x).args=(aE x).args:=by rw [ht];exact hS.canon hx
 have hcc:aE (aE x)=aE x:=by show (⟨x.op,eB x.op (aE x).args⟩:Ins)=_;rw [hc];rfl
 refine ⟨hx,rfl,ht,hc,?_,_,_,hv,?_⟩
 ·have hk:bH (aE x)=0:=by have:=hS.check hx;rw [<-ht] at this;exact this
  unfold cQ at h ⊢;rw [if_pos h4] at h;rw [if_pos hk,hcc];exact h
 ·rw [sH hx.var];exact (xK hx).2 hS
theorem oA {x:Ins} {k:Int} (h:cQ x=(none,k)):k≠0:=by
 unfold cQ jP at h;split at h
 ·split at h
  ·cases h
  ·injection h with _ h;subst h;split<;>decide
 ·rename_i hc;injection h with _ h;subst h;exact hc
theorem Blk.six {w:World} {b:Nat} {t:TypeId} {x0 x1 x2 x3 x4 x5:Value} (h:Blk w b t #[x0,x1,x2,x3,x4,x5]):
  w.cell? ⟨b,0,none⟩=some x0/\w.cell? ⟨b,1,none⟩=some x1/\w.cell? ⟨b,2,none⟩=some x2/\w.cell? ⟨b,3,none⟩=some x3/\w.cell? ⟨b,4,none⟩=some x4/\w.cell? ⟨b,5,none⟩=some x5:=⟨h.cell 0,h.cell 1,h.cell 2,h.cell 3,h.cell 4,h.cell 5⟩
theorem sG {p:Int} {k:Nat} {x:aL} (h:(atF p k).1=some x):∃q:Nat,q<7/\p=q:=by
 by_cases h0:0<=p/\p<7
 ·exact ⟨p.toNat,by omega,by omega⟩
 have e:atF p k=(none,0):=by exact tX72
 rw [e] at h;cases h
def mF (e:aL) (c:List Opd):Int:=dAt c (Dof e.ex e.args)
def lM (e:aL) (c:List Opd):Int:=dAt c (Jof e.ex e.args)
def exB (e:aL):Bool:=
 let D:=(Dof e.ex e.args).isSome;let J:=(Jof e.ex e.args).isSome
 (e.ex==[]&&(!D&&!J)) || ((e.ex==[100]&&(D&&!J)) || ((e.ex==[101]&&(!D&&J)) || ((e.ex==[110]&&(!D&&J)) || ((e.ex==[119]&&(!D&&J)) || (e.ex==[100,110]&&(D&&J))))))
def chkN (p:Int) (x:Nat):Bool:=match (atF p x).1 with
 | some e=>exB e&&(decide (p=0->x≠203/\x≠237/\x≠221/\x≠253)&&decide ((p=3\/p=4)->x≠203))
 | none=>true
theorem ckn:∀p:Fin 7,∀x:Fin 256,chkN p.val x.val=true:=by decide+kernel
structure EntN (p x:Nat) (e:aL):Prop where
 ex:exB e=true
 p0:p=0->x≠203/\x≠237/\x≠221/\x≠253
 p3:(p=3\/p=4)->x≠203
theorem YN {p x:Nat} (hp:p<7) (hx:x<256) {e:aL} (he:(atF p x).1=some e):EntN p x e:=by have h:=ckn ⟨p,hp⟩ ⟨x,hx⟩;unfold chkN at h;dsimp only at h;rw [he] at h;obtain ⟨h1,h⟩:=xS.1 h;obtain ⟨h2,h3⟩:=xS.1 h;exact ⟨h1,λe=>jU h2 (by omega),λe=>jU h3 (by omega)⟩
structure Fnd11 (x:Ins) (e:aL) (p k:Nat):Prop where
 hp:p<7
 hk:k<256
 at':(atF p k).1=some e
 W:zD e
 N:EntN p k e
 pg:e.pg=p
 op:e.op=k
 ok:fA e
 iop:x.op=⟨e.iop.toArray⟩
 fil:yC e (mF e (aE x).args) (lM e (aE x).args) (aE x).args
 again:cQ (aE x)=(some e,0)
theorem fnd11 {x:Ins} {e:aL} {j:Int} (h:cQ x=(some e,j)):∃p k,Fnd11 x e p k:=by
 obtain ⟨p,k,hk,he⟩:=jG (kJ h).1;obtain ⟨q,hq,rfl⟩:=sG he;obtain ⟨hW,hpg,hop⟩:=kZ hq hk he;obtain ⟨hok,_,hio,_,hag,d,n,h1,h2⟩:=kT h;have hfc:dB ⟨e.iop.toArray⟩ x.op e.ex e.args (aE x).args=true:=by rw [<-kP hok,h1]
 exact ⟨q,k,hq,hk,he,hW,YN hq hk he,hpg,hop,hok,hio,((qM hok).1 hfc).2,hag⟩
end Go.Proofs.YtpigbggoiipmhaaGreatDoor
