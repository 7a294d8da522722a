/-
  Functions of the program and of the reference, walked; plain facts on what they compute. Conditions: sizes.
-/
import Derived.Test.YtpigbggoiipmhaaGreatDoorBC1
import Derived.Laws.BitsAllLaws
import Derived.Shelf.Spec.TrailingZeros
import Derived.Laws.IdiomCopy
import Derived.Shelf.Spec.SlicesInsert
import Derived.Lib.Builder
import Derived.Lib.AppendStr
import Derived.Lib.UnsafeStr
import Derived.Laws.Externs
namespace Go.Proofs.YtpigbggoiipmhaaGreatDoor
theorem tb1 (j:Nat):Nat.testBit 1 j=decide (j=0):=by
 cases j with
 | zero=>rfl
 | succ n=>rw [Nat.testBit_succ];simp
def nX (d:Nat->Bool) (base:Nat):Nat->Nat
 | 0=>0
 | n+1=>nX d base n ||| (if d (base+n) then 1 <<< n else 0)
theorem tR (d:Nat->Bool) (base j:Nat):∀n,(nX d base n).testBit j=(decide (j<n)&&d (base+j))
 | 0=>by simp [nX]
 | n+1=>by
  rw [nX,Nat.testBit_or,tR d base j n];by_cases hj:j=n
  ·subst hj;cases h:d (base+j)<;>simp [Nat.testBit_shiftLeft]
  ·have h0:(if d (base+n)=true then 1 <<< n else 0).testBit j=false:=by
    split
    ·rw [Nat.testBit_shiftLeft];by_cases hjn:n<=j
     ·have:1<=j-n:=(by omega);simp [tb1,show j-n≠0 by omega]
     ·simp [hjn]
    ·simp
   rw [h0,Bool.or_false];congr 1;simp;omega
def dQ (d:Nat->Bool) (i:Nat):Nat:=nX d (i*64) 64
theorem fX (d:Nat->Bool) (i j:Nat):(dQ d i).testBit j=(decide (j<64)&&d (i*64+j)):=tR d _ j 64
theorem yQ {d e:Nat->Bool} {i:Nat} (h:∀j,j<64->d (i*64+j)=e (i*64+j)):dQ d i=dQ e i:=by
 apply Nat.eq_of_testBit_eq;intro j;rw [fX,fX];by_cases hj:j<64
 ·simp [hj,h j hj]
 ·simp [hj]
def kL (d:Nat->Bool) (a:Nat):Nat->Bool:=λx=>d x || x==a
theorem zU (d:Nat->Bool) (a i:Nat) (h:i≠a/64):dQ (kL d a) i=dQ d i:=yQ λj hj=>by simp [kL];omega
def fO (d:Nat->Bool) (b:Bool):Nat->Nat->Nat
 | 0,a=>a
 | f+1,a=>if d a==b then a else fO d b f (a+1)
def dS (d:Nat->Bool) (b:Bool) (a:Nat):Nat:=if a<65536 then fO d b (65536-a) a else 65536
theorem jX (d:Nat->Bool) (b:Bool):∀f a,a<=fO d b f a/\fO d b f a<=a+f/\(∀x,a<=x->x<fO d b f a->(d x==b)=false)/\(fO d b f a<a+f->(d (fO d b f a)==b)=true)
 | 0,a=>by simp [fO];omega
 | f+1,a=>by
  obtain ⟨h1,h2,h3,h4⟩:=jX d b f (a+1);unfold fO;by_cases h:(d a==b)=true
  ·rw [if_pos h];exact ⟨zI _,by omega,λx hx hx2=>by omega,λ_=>h⟩
  ·rw [if_neg h];refine ⟨by omega,by omega,λx hx hx2=>?_,λhl=>h4 (by omega)⟩;by_cases e:x=a
   ·subst e;simpa using h
   ·exact h3 x (by omega) hx2
theorem kO (d:Nat->Bool) (b:Bool) (a:Nat) (ha:a<=65536):a<=dS d b a/\dS d b a<=65536/\(∀x,a<=x->x<dS d b a->(d x==b)=false)/\(dS d b a<65536->(d (dS d b a)==b)=true):=by
 unfold dS;by_cases h:a<65536
 ·rw [if_pos h];obtain ⟨g1,g2,g3,g4⟩:=jX d b (65536-a) a;exact ⟨g1,by omega,g3,λhl=>g4 (by omega)⟩
 ·rw [if_neg h];exact ⟨by omega,zI _,λx hx hx2=>by omega,λhl=>by omega⟩
end Go.Proofs.YtpigbggoiipmhaaGreatDoor
namespace Go.Proofs.YtpigbggoiipmhaaGreatDoor
open Go.RowKit
structure eO (w:World) (b:Nat) (d:Nat->Bool) (v:Nat->UInt8) (n:Nat):Prop where
 words:∀i,i<1024->w.cell? ⟨b,i,none⟩=some (.int .u64 (dQ d i))
 count:w.cell? ⟨b,1024,none⟩=some (.int .i64 n)
 bytes:∀a,a<65536->w.cell? ⟨b,1025+a,none⟩=some (.int .u8 (v a).toNat)
 free:∀o,w.frozen? ⟨b,o,none⟩=false
theorem eO.lt {w:World} {b n:Nat} {d:Nat->Bool} {v:Nat->UInt8} (h:eO w b d v n):b<w.heap.size:=QI _ _ h.count
theorem eO.below {w w':World} {b n B:Nat} {d:Nat->Bool} {v:Nat->UInt8} (h:eO w b d v n) (hb:Below B w w') (hB:b<B):eO w' b d v n:=⟨λi hi=>(hb.cell (p:=⟨b,i,none⟩) hB).trans (h.words i hi),(hb.cell (p:=⟨b,1024,none⟩) hB).trans h.count,λa ha=>(hb.cell (p:=⟨b,1025+a,none⟩) hB).trans (h.bytes a ha),λo=>(hb.frozen (p:=⟨b,o,none⟩) hB).trans (h.free o)⟩
theorem eO.add {w:World} {b n a:Nat} {d:Nat->Bool} {v:Nat->UInt8} (h:eO w b d v n) (ha:a<65536):
  eO ((w.setCell ⟨b,a/64,none⟩ (.int .u64 (dQ (kL d a) (a/64)))).setCell ⟨b,1024,none⟩ (.int .i64 ((n:Int)+1))) b (kL d a) v (n+1):=by
 refine ⟨λi hi=>?_,?_,λx hx=>?_,λo=>?_⟩
 ·rw [z0D _ _ _ _ (by intro e;injection e with _ e2;omega)];by_cases hia:i=a/64
  ·subst hia;exact z1B _ _ _ (by rw [h.words _ hi];rfl)
  ·rw [z0D _ _ _ _ (by intro e;injection e with _ e2;omega),h.words i hi,zU d a i hia]
 ·exact z1B _ _ _ (by rw [z0D _ _ _ _ (by intro e;injection e with _ e2;omega),h.count];rfl)
 ·rw [z0D _ _ _ _ (by intro e;injection e with _ e2;omega),z0D _ _ _ _ (by intro e;injection e with _ e2;omega)];exact h.bytes x hx
 ·rw [World.frozen?_setCell,World.frozen?_setCell];exact h.free o
end Go.Proofs.YtpigbggoiipmhaaGreatDoor
namespace Go.Proofs.YtpigbggoiipmhaaGreatDoor
open Go.RowKit Go.Shelf
def tzRen:Ren:=⟨fun|29=>137|n=>n,fun|0=>0|3=>3|4=>4|5=>5|22=>134|25=>168|54=>244|n=>n,fun|1=>0|n=>n⟩
theorem tzLays:Lays7.n29 Tryz.prog tzRen:={
 mixed:=by kernel_rfl
 f29:=Tryz.func137.trans (congrArg some (by kernel_rfl))
 t0:=Tryz.underlying0
 a0:=Tryz.isAgg0
 z0:=Tryz.sizeOf0
 v0:=Tryz.zeroValue0
 i0:=by kernel_rfl
 t3:=Tryz.underlying3
 a3:=Tryz.isAgg3
 z3:=Tryz.sizeOf3
 v3:=Tryz.zeroValue3
 i3:=by kernel_rfl
 t4:=Tryz.underlying4
 a4:=Tryz.isAgg4
 z4:=Tryz.sizeOf4
 v4:=Tryz.zeroValue4
 i4:=by kernel_rfl
 t5:=Tryz.underlying5
 a5:=Tryz.isAgg5
 z5:=Tryz.sizeOf5
 v5:=Tryz.zeroValue5
 i5:=by kernel_rfl
 t22:=Tryz.underlying134
 a22:=Tryz.isAgg134
 z22:=Tryz.sizeOf134
 v22:=Tryz.zeroValue134
 i22:=by kernel_rfl
 t25:=Tryz.underlying168
 a25:=Tryz.isAgg168
 z25:=Tryz.sizeOf168
 v25:=Tryz.zeroValue168
 i25:=by kernel_rfl
 t54:=Tryz.underlying244
 a54:=Tryz.isAgg244
 z54:=Tryz.sizeOf244
 g1:=by kernel_rfl}
def Deb (w:World):Prop:=TabAt 0 Lib.deBruijn64tab w
theorem Deb.below {w w':World} (h:Deb w) (hb:Below w.heap.size w w'):Deb w':=λj hj=>(hb.cell (QI _ _ (h j hj))).trans (h j hj)
theorem RK (x:Nat) (hx:x<18446744073709551616) (w:World) (hT:Deb w):
  Calls Tryz.prog 137 #[.int .u64 x] w λe w'=>e=.returned (.int .i64 (Lib.ctz 64 x))/\w'=w:=
 Any7.bits_TrailingZeros64 tzLays x hx w (λ_=>hT)
end Go.Proofs.YtpigbggoiipmhaaGreatDoor
namespace Go.Proofs.YtpigbggoiipmhaaGreatDoor
open Go.RowKit
def vJ (k m:Nat) (x y z:Value):Array Value:=(List.replicate k x++([y]++List.replicate m z)).toArray
theorem row3_a (k m:Nat) (x y z:Value) {i:Nat} (hi:i<k):(vJ k m x y z)[i]?=some x:=by unfold vJ;rw [z1Y,z1F (by simpa using hi),z2G,if_pos hi]
theorem row3_b (k m:Nat) (x y z:Value):(vJ k m x y z)[k]?=some y:=by unfold vJ;rw [z1Y,z0G (by simp),List.length_replicate,z2I];rfl
theorem row3_c (k m:Nat) (x y z:Value) {i:Nat} (hi:i<m):(vJ k m x y z)[k+1+i]?=some z:=by unfold vJ;rw [z1Y,z0G (by rw [List.length_replicate];omega),List.length_replicate,z0G (by simp;omega),z2G];rw [if_pos (by simp;omega)]
theorem BL (i:Nat):dQ (λ_=>false) i=0:=by apply Nat.eq_of_testBit_eq;intro j;rw [fX,Nat.zero_testBit,Bool.and_false]
theorem eO.zero (w:World) (t:TypeId) (cs:Array Value) (h:cs=vJ 1024 65536 (.int .u64 0) (.int .i64 0) (.int .u8 0)):eO (w.alloc (.cells cs t)) w.heap.size (λ_=>false) (λ_=>0) 0:=by subst h;have hB:Blk (w.alloc (.cells (vJ 1024 65536 (.int .u64 0) (.int .i64 0) (.int .u8 0)) t)) w.heap.size t (vJ 1024 65536 (.int .u64 0) (.int .i64 0) (.int .u8 0)):=Blk.new w t _;exact ⟨λi hi=>(hB.cell i).trans ((row3_a _ _ _ _ _ hi).trans (by rw [BL];rfl)),(hB.cell 1024).trans (row3_b _ _ _ _ _),λa ha=>(hB.cell (1025+a)).trans (row3_c 1024 65536 _ _ _ ha),λo=>hB.free o⟩
def mY (d:Nat->Bool) (a k:Nat):Nat->Bool:=λx=>d x || (decide (a<=x)&&decide (x<a+k))
def fR (v:Nat->UInt8) (a:Nat) (l:List UInt8):Nat->UInt8:=λx=>if a<=x then l.getD (x-a) (v x) else v x
def cT (d:Nat->Bool) (a:Int) (k:Nat):Nat:=if a<0\/65536<=a then 2 else if 65536<a+k then 10 else if dS d true a.toNat<a.toNat+k then 4 else 0
def ByB (w:World) (k:Nat):Prop:=∃cs,w.heap[k]?=some (.cells cs 5 (0,0))
theorem ByB.lt {w:World} {k:Nat} (h:ByB w k):k<w.heap.size:=by obtain ⟨cs,h⟩:=h;exact (jN.1 h).1
def TyB (w:World) (ts:List TypeId) (k:Nat):Prop:=∃cs t,t∈ts/\w.heap[k]?=some (.cells cs t (0,0))
theorem TyB.lt {w:World} {ts:List TypeId} {k:Nat} (h:TyB w ts k):k<w.heap.size:=by obtain ⟨cs,t,_,h⟩:=h;exact (jN.1 h).1
theorem TyB.same {w w':World} {ts:List TypeId} {k:Nat} (h:TyB w ts k) (e:w'.heap[k]?=w.heap[k]?):TyB w' ts k:=by obtain ⟨cs,t,ht,h⟩:=h;exact ⟨cs,t,ht,e.trans h⟩
def lY {α:Type} (R:Rep α) (w:World) (B:Nat) (e:TypeId) (v:Value) (xs:List α):Prop:=∃p:aB,Own R w B e p v xs/\∀k,p k->B<=k/\v.ownBlock≠some k/\TyB w [e,5] k
section
variable {α:Type} {R:Rep α}
theorem Own.rowT {w:World} {B:Nat} {e:TypeId} {p:aB} {v:Value} {xs:List α} (h:Own R w B e p v xs) {k:Nat} (hk:v.ownBlock=some k):∃cs,w.heap[k]?=some (.cells cs e (0,0)):=by
 obtain ⟨cs,ho,_⟩:=h;rcases ho.2 with ⟨hv,_⟩|⟨g,cap,cur,hv,_,hg,_⟩
 ·rw [hv] at hk;cases hk
 ·rw [hv] at hk;injection hk with hk;subst hk;exact ⟨_,hg⟩
theorem lY.lt {w:World} {B:Nat} {e:TypeId} {v:Value} {xs:List α} (h:lY R w B e v xs):∀k,v.ownBlock=some k->B<=k/\k<w.heap.size:=by obtain ⟨p,ho,_⟩:=h;exact ho.lt
theorem lY.keepT {w w':World} {B:Nat} {e:TypeId} {v:Value} {xs:List α} (h:lY R w B e v xs) (hk:∀k,B<=k->TyB w [e,5] k->w'.heap[k]?=w.heap[k]?):lY R w' B e v xs:=by
 obtain ⟨p,ho,hp⟩:=h;have hsame:∀k,p k->w'.heap[k]?=w.heap[k]?:=λk hk2=>by obtain ⟨h1,_,h3⟩:=hp k hk2;exact hk k h1 h3
 refine ⟨p,ho.keep (λk hk2=>?_),λk hk2=>⟨(hp k hk2).1,(hp k hk2).2.1,?_⟩⟩
 ·rcases hk2 with h2|h2
  ·exact hsame k h2
  ·obtain ⟨cs,h3⟩:=ho.rowT h2;exact hk k (ho.lt k h2).1 ⟨cs,_,by simp,h3⟩
 ·exact (hp k hk2).2.2.same (hsame k hk2)
theorem lY.keep {w w':World} {B:Nat} {e:TypeId} {v:Value} {xs:List α} (h:lY R w B e v xs) (hk:aS (λk=>B<=k/\k<w.heap.size) w w'):lY R w' B e v xs:=h.keepT λk h1 ⟨_,_,_,h2⟩=>hk k ⟨h1,(jN.1 h2).1⟩
variable {P:Program}
end
def sumN (l:List UInt8):Nat:=l.foldl (λn x=>(n+x.toNat)%256) 0
structure cJ where
 addr:Nat
 byte:UInt8
end Go.Proofs.YtpigbggoiipmhaaGreatDoor
namespace Go.Proofs.YtpigbggoiipmhaaGreatDoor
def gH (d:Nat->Bool) (v:Nat->UInt8):Nat->Nat->List cJ
 | _,0=>[]
 | a,n+1=>(if d a then [⟨a,v a⟩] else [])++gH d v (a+1) n
def eU (d:Nat->Bool) (v:Nat->UInt8):List cJ:=gH d v 0 65536
def dH (d:Nat->Bool) (v:Nat->UInt8) (a:Int) (l:List UInt8):(Nat->Bool) × (Nat->UInt8):=if cT d a l.length=0 then (mY d a.toNat l.length,fR v a.toNat l) else (d,v)
theorem pF {v:Nat->UInt8} {a x:Nat} {l:List UInt8} (h:x<a\/a+l.length<=x):fR v a l x=v x:=by exact tX77
def Sep:Nat->List (Nat × List UInt8)->Prop
 | _,[]=>True
 | lo,(a,l)::R=>lo<=a/\l≠[]/\a+l.length<=65536/\Sep (a+l.length+1) R
theorem Sep.mono:∀{R:List (Nat × List UInt8)} {lo lo':Nat},Sep lo R->lo'<=lo->Sep lo' R
 | [],_,_,_,_=>trivial
 | (_,_)::_,_,_,h,hl=>⟨qJ hl h.1,h.2⟩
def hexV (c:UInt8):Nat:=if 48<=c.toNat/\c.toNat<=57 then c.toNat-48 else if 97<=c.toNat/\c.toNat<=102 then c.toNat-97+10 else if 65<=c.toNat/\c.toNat<=70 then c.toNat-65+10 else 99
def UR:List UInt8->Option (List UInt8)
 | []=>some []
 | [_]=>none
 | a::b::r=>if 15<hexV a\/15<hexV b then none else (UR r).map (UInt8.ofNat (16*hexV a+hexV b)::·)
structure RecV where
 t:Nat
 a:Nat
 l:List UInt8
def PE:RecV:=⟨0,0,[]⟩
def GH (b:List UInt8) (i:Nat):Nat:=(b.getD i 0).toNat
def parseB (b:List UInt8):Nat × RecV:=
 if b.length<5 then (3,PE) else if GH b 0+5≠b.length then (6,PE) else if sumN b≠0 then (5,PE)
 else (0,⟨GH b 3,GH b 1*256+GH b 2,(b.drop 4).take (b.length-5)⟩)
def FR (s:List UInt8):Nat × RecV:=
 match s with
 | []=>(3,PE)
 | c::r=>if c=58 then (match UR r with|none=>(3,PE)|some b=>parseB b) else (3,PE)
def Asc:Nat->List (Nat × List UInt8)->Prop
 | _,[]=>True
 | lo,(a,l)::D=>lo<=a/\l≠[]/\a+l.length<=65536/\Asc (a+l.length) D
theorem Asc.mono:∀{R:List (Nat × List UInt8)} {lo lo':Nat},Asc lo R->lo'<=lo->Asc lo' R
 | [],_,_,_,_=>trivial
 | (_,_)::_,_,_,h,hl=>⟨qJ hl h.1,h.2⟩
def isBl (c:UInt8):Bool:=c==32 || c==9
def blankL (s:List UInt8):Bool:=s.all isBl
def zE (s:List UInt8):List UInt8:=if s.getLast?=some 13 then s.dropLast else s
abbrev lJ:=(Nat->Bool) × (Nat->UInt8)
def recH (st:lJ × Bool) (r:RecV):Nat × (lJ × Bool):=if r.t=0 then (cT st.1.1 r.a r.l.length,(dH st.1.1 st.1.2 r.a r.l,st.2)) else if r.t=1 then (if r.l=[] then (0,(st.1,true)) else (6,st)) else (7,st)
def BO (st:lJ × Bool) (s:List UInt8):Nat × (lJ × Bool):=if blankL (zE s) then (0,st) else if st.2 then (9,st) else if (FR (zE s)).1≠0 then ((FR (zE s)).1,st) else recH st (FR (zE s)).2
def LO:Nat->lJ × Bool->List (List UInt8)->(Nat × Nat) × (lJ × Bool)
 | _,st,[]=>(if st.2 then (0,0) else (0,8),st)
 | i,st,s::r=>if (BO st s).1=0 then LO (i+1) (BO st s).2 r else ((i+1,(BO st s).1),st)
def AS (st:lJ × Bool) (L:List (List UInt8)) (st':lJ × Bool):Prop:=∀i r,LO i st (L++r)=LO (i+L.length) st' r
theorem AS.trans {a b c:lJ × Bool} {L M:List (List UInt8)} (h:AS a L b) (k:AS b M c):AS a (L++M) c:=λi r=>by rw [JP,h,k,YL,z2B]
end Go.Proofs.YtpigbggoiipmhaaGreatDoor
namespace Go.Proofs.YtpigbggoiipmhaaGreatDoor
open Go.RowKit
def Bld (w:World) (B b:Nat) (v:Value) (l:List UInt8):Prop:=B<=b/\(∃p,(p=.pointer none\/p=.pointer (some ⟨b,0,none⟩))/\Blk w b 103 #[p,v])/\w.ownsRow B 5 1 v l.length (Lib.byteCells l)/\v.ownBlock≠some b
structure Wrt (w w':World) (B b:Nat) (v v':Value):Prop where
 below:Below B w w'
 size:w.heap.size<=w'.heap.size
 keep:∀k,k<w.heap.size->k≠b->v.ownBlock≠some k->w'.heap[k]?=w.heap[k]?
 row:v'.ownBlock=v.ownBlock\/∃k,v'.ownBlock=some k/\w.heap.size<=k
theorem Wrt.trans {w1 w2 w3:World} {B b:Nat} {v1 v2 v3:Value} (h:Wrt w1 w2 B b v1 v2) (k:Wrt w2 w3 B b v2 v3):Wrt w1 w3 B b v1 v3:=by
 refine ⟨h.below.trans k.below,qJ h.size k.size,λj hj hb hv=>?_,?_⟩
 ·refine (k.keep j (vB hj h.size) hb (λe=>?_)).trans (h.keep j hj hb hv);rcases h.row with e2|⟨q,e2,hq⟩
  ·exact hv (e2.symm.trans e)
  ·rw [e2] at e;injection e with e;omega
 ·rcases k.row with e2|⟨q,e2,hq⟩
  ·rcases h.row with e3|⟨q,e3,hq⟩
   ·exact .inl (e2.trans e3)
   ·exact .inr ⟨q,e2.trans e3,hq⟩
  ·exact .inr ⟨q,e2,qJ h.size hq⟩
end Go.Proofs.YtpigbggoiipmhaaGreatDoor
