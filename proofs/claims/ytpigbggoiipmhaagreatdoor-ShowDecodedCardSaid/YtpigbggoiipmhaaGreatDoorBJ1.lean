/-
  breadboardref12.Same on alike items; decode.At. decode.At. Items by their bytes; breadboardref12.Same, decode.Same in general. PLAIN: all items of some bytes. Lists of items in memory; the rest of a row of bytes. breadboardref13.Decode. items.each's iterator. slices.AppendSeq, slices.Collect fR items.each; items.Decode. slices.AppendSeq and slices.Collect fR items.each; items.Decode. items.Decode; law13.alive. Conditions: the library's table as its initialiser lays it; sizes.
-/
import Derived.Test.YtpigbggoiipmhaaGreatDoorBU1
import Derived.Test.YtpigbggoiipmhaaGreatDoorBS1
import Derived.Test.YtpigbggoiipmhaaGreatDoorBT0
namespace Go.Proofs.YtpigbggoiipmhaaGreatDoor
open Go.RowKit Go.Shelf Go.Sort
theorem CQ (b o len cap k:Nat) (h1:k<=len) (h2:k < cap) (W:World):(Instr.sliceAt 22 (.slice (some ⟨b,o,none⟩) len cap) (some (.int .i64 (k:Int))) none none).run Tryz.prog W=.ok (.slice (some ⟨b,o+k,none⟩) (len - k) (cap - k)) W:=by rw [run_sliceAt_slice _ _ _ _ _ _ (by kernel_rfl),run_slice_l W _ (some ⟨b,o,none⟩) len cap (by kernel_rfl) .i64 (k:Int) (by omega) (by omega)];go_simp;omega
theorem SlR.dropB {w:World} {p:aB} {b o c k:Nat} {xs:List UInt8} (h:SlR aI w p (.slice (some ⟨b,o,none⟩) xs.length c) xs) (hk:k<=xs.length):SlR aI w p (.slice (some ⟨b,o+k,none⟩) (xs.drop k).length (c - k)) (xs.drop k):=by obtain ⟨a2,c2,e,h1,h2,h3⟩:=h;injection e with e1 e2 e3;subst e1 e3;refine ⟨_,_,rfl,by rw [JS];omega,by unfold maxLen at *;omega,λi x hx=>?_⟩;rw [List.getElem?_drop] at hx;obtain ⟨b',o',cs,ea,hb,hbs,hc,hr⟩:=h3 (k+i) x hx;injection ea with ea;injection ea with e1 e2;subst e1 e2;exact ⟨b,o+k,cs,rfl,hb,hbs,by rw [show o+k+i * aI.size=o+(k+i) * aI.size from by show o+k+i * 1=o+(k+i) * 1;omega];exact hc,hr⟩
theorem DS {fn:Func} {p u v:Tmp} (h:fn.results=#[.cell p 32,.tmp u,.tmp v]) {tmps:Array Value} {w':World} {g:Nat} {v0 v1 v2 v3 v4:Value} (hp:tmps.getD p undef=.pointer (some ⟨g,0,none⟩)) (hg:Blk w' g 32 #[v0,v1,v2,v3,v4]):(results fn tmps).run Tryz.prog w'=.ok (.tuple #[.agg #[v0,v1,v2,v3,v4],tmps.getD u undef,tmps.getD v undef]) w':=by
 obtain ⟨⟨c0,c1,c2,c3,c4⟩,_⟩:=hg.five;have hp':tmps[p]?.getD undef=.pointer (some ⟨g,0,none⟩):=by simpa using hp
 simp [results,h,hp',go_sem,c0,c1,c2,c3,c4]
set_option maxHeartbeats 4000000 in
set_option maxRecDepth 100000 in
theorem At_no (a:Option Addr) (c:Nat) (m:Nat) (i:Int) (w:World) (h:i < 0\/(m:Int)<=i):
  Calls Tryz.prog 71 #[.slice a m c,.int .i64 i] w λe w'=>e=.returned (.tuple #[.agg cD,.int .i64 0,.bool false])/\RowKit.Below w.heap.size w w':=by
 have HF0:=aA ((Fr.start w).new 32 cD);obtain ⟨W0,hW0⟩:∃W:World,W=w.alloc (.cells cD 32):=⟨_,rfl⟩;rw [<-hW0] at HF0;cases h1:decide (i < 0)
 ·have h1:=z0R h1;have h2:(m:Int)<=i:=h.resolve_left h1;exact tX15
 ·have h1:=jU h1;exact tX15
set_option maxHeartbeats 4000000 in
set_option maxRecDepth 100000 in
theorem At_yes (p:aB) (a:Option Addr) (c:Nat) (l:List UInt8) (k:Nat) (w:World) (hT:Spc w) (hs:SlR aI w p (.slice a l.length c) l) (hk:k < l.length) (hl:l.length<=1000000):
  Calls Tryz.prog 71 #[.slice a l.length c,.int .i64 k] w λe w'=>(∃v,e=.returned (.tuple #[v,.int .i64 ((k:Int)+((l.drop k).take (itF (l.drop k)).n).length),.bool true])/\dW w' w.heap.size (itF (l.drop k)) (l.drop k) v)/\RowKit.Below w.heap.size w w':=by
 obtain ⟨b,o,rfl,hc1,hc2,_⟩:=nN hs (by omega);have hcut:=CQ b o l.length c k (by omega) (by omega);have hlen:(l.drop k).length=l.length - k:=JS;rw [<-hlen] at hcut;have HFI:=aA (λW (hb:RowKit.Below w.heap.size w W)=>kE p (some ⟨b,o+k,none⟩) (c - k) (l.drop k) W (hT.below hb) ((hs.dropB (by omega)).below hb) (by omega) (by omega));have HLN:Hid (((l.drop k).take (itF (l.drop k)).n).length<=l.length - k):=aA (by rw [JX];omega);have HL:=aA hl;have HF0:=aA ((Fr.start w).new 32 cD);have hk':¬(l.length:Int)<=(k:Int):=by omega
 have hk0:¬(k:Int) < 0:=by omega
 have HKL:=aA hk;clear hT hs hk hl hlen hc1 hc2;generalize l.drop k=L at *;generalize l.length=m at *;obtain ⟨R1,hR1⟩:∃R,R=L.take (itF L).n:=⟨_,rfl⟩;rw [<-hR1] at HLN ⊢;have HR1:=aA hR1;clear hR1;have hw9:IntKind.i64.wrap ((k:Int)+R1.length)=(k:Int)+R1.length:=by have:=HLN.out;have:=HL.out;have:=HKL.out;rw [IntKind.wrap_i64];omega
 obtain ⟨W0,hW0⟩:∃W:World,W=w.alloc (.cells cD 32):=⟨_,rfl⟩;rw [<-hW0] at HF0;go_enter Tryz.func71,Tryz.ntmps71;go_upto_region 1 with fail;rw [<-hW0];clear hW0;go_upto_region 4 with (go_at_call 25;refine (HFI.out _ HF0.out.below).mono ?_;rintro e w1 ⟨⟨v,rfl,hi⟩,hb⟩;obtain ⟨ra,rc,va,vc,rfl,h1,h2⟩:=hi;rw [<-HR1.out] at h1 ⊢;have H1:=aA h1;have H2:=aA h2;have HF1:=aA (HF0.out.next hb);clear h1 h2 hb;unfold qU);have HF2:=aA ((HF1.out.new' 32 #[.int .i64 (itF L).k,.slice ra R1.length rc,.string ⟨(itF L).op.toArray⟩,.slice va (itF L).args.length vc,.bool (itF L).al] (b:=w1.heap.size) rfl));have HZ:Hid (w.heap.size < w1.heap.size):=aA ((HF1.out.blk 0 rfl).lt);have HZ0:Hid (w.heap.size < W0.heap.size):=aA ((HF0.out.blk 0 rfl).lt);have HA1:=aA (H1.out.alloc (.cells #[.int .i64 (itF L).k,.slice ra R1.length rc,.string ⟨(itF L).op.toArray⟩,.slice va (itF L).args.length vc,.bool (itF L).al] 32));have HA2:=aA (H2.out.alloc (.cells #[.int .i64 (itF L).k,.slice ra R1.length rc,.string ⟨(itF L).op.toArray⟩,.slice va (itF L).args.length vc,.bool (itF L).al] 32));generalize w1.alloc (.cells #[.int .i64 (itF L).k,.slice ra R1.length rc,.string ⟨(itF L).op.toArray⟩,.slice va (itF L).args.length vc,.bool (itF L).al] 32)=W2 at *;generalize w1.heap.size=tb at *;obtain ⟨⟨c0,c1,c2,c3,c4⟩,_⟩:=(HF2.out.blk 0 rfl).five;obtain ⟨⟨m0,m1,m2,m3,m4⟩,g0,g1,g2,g3,g4⟩:=(HF2.out.blk 1 rfl).five;have hne1:¬tb=w.heap.size:=by have:=HZ.out;omega
 have hne2:¬w.heap.size=tb:=by have:=HZ.out;omega
 go_region;all_goals go_wp2
 all_goals have F5:=aA (HF2.out.swap.set5 (zI _) (λx hx=>by rw [XJ.1 hx];have:=HZ.out;show tb≠w.heap.size;omega) (.int .i64 (itF L).k) (.slice ra R1.length rc) (.string ⟨(itF L).op.toArray⟩) (.slice va (itF L).args.length vc) (.bool (itF L).al))
 all_goals have HM:dW W2 W0.heap.size (itF L) L (.agg #[.int .i64 (itF L).k,.slice ra R1.length rc,.string ⟨(itF L).op.toArray⟩,.slice va (itF L).args.length vc,.bool (itF L).al]):=⟨ra,rc,va,vc,by rw [<-HR1.out];rfl,by rw [<-HR1.out];exact HA1.out,HA2.out⟩
 all_goals have F6:=aA F5.out.drew
 all_goals exact yR (DS rfl rfl (F6.out.blk 0 rfl)) rfl ⟨⟨_,rfl,((HM.off5 HZ0.out _ _ _ _ _).next (zY _ _).drew).base (z0I HZ0.out)⟩,F6.out.below⟩
theorem ItP.below {w w':World} {p:aB} {x:It} {v:Value} (h:ItP w p x v) (hb:RowKit.Below w.heap.size w w'):ItP w' p x v:=by exact tX80
theorem QF (l:List UInt8) (_h0:0 < l.length):
  (itF l=⟨4,l.length,[],[],false⟩/\(l.length<=pos (pgB l)\/∃e,(atF (pgB l) (bAt l (pos (pgB l)))).1=some e/\l.length < gX e))\/
  (pos (pgB l) < l.length/\(atF (pgB l) (bAt l (pos (pgB l)))).1=none/\itF l=⟨2,1,[],[],false⟩)\/
  (pos (pgB l) < l.length/\pgB l=2/\(atF (pgB l) (bAt l (pos (pgB l)))).1=none/\itF l=⟨3,2,[],[],false⟩)\/
  (pos (pgB l) < l.length/\∃e,(atF (pgB l) (bAt l (pos (pgB l)))).1=some e/\gX e<=l.length/\itF l=⟨1,gX e,(jO e (gP (pgB l) e l).1 (gP (pgB l) e l).2).1,(jO e (gP (pgB l) e l).1 (gP (pgB l) e l).2).2,e.al⟩):=by
 unfold itF itS;by_cases h:l.length<=pos (pgB l)
 ·rw [if_pos h];exact .inl ⟨rfl,.inl h⟩
 rw [if_neg h];have h:pos (pgB l) < l.length:=by omega
 obtain ⟨h7,hp⟩:=yN (l:=l);cases ha:atF (pgB l) (bAt l (pos (pgB l))) with
 | mk o k=>
  cases o with
  | none=>
   rcases sA h7 (bT _ _) (hp h) ha with ⟨rfl,_⟩ | ⟨rfl,hq⟩
   ·exact .inr (.inl ⟨h,rfl,rfl⟩)
   ·exact .inr (.inr (.inl ⟨h,hq,rfl,rfl⟩))
  | some e=>
   dsimp only;unfold itE;by_cases hs:l.length < gX e
   ·rw [if_pos hs];exact .inl ⟨rfl,.inr ⟨e,rfl,hs⟩⟩
   ·rw [if_neg hs];exact .inr (.inr (.inr ⟨h,e,rfl,by omega,rfl⟩))
theorem nG (l:List UInt8) (h0:0 < l.length):1<=(itF l).n/\(itF l).n<=l.length:=by
 rcases QF l h0 with ⟨h,_⟩ | ⟨_,_,h⟩ | ⟨h1,h2,_,h⟩ | ⟨_,e,_,h2,h⟩
 ·rw [h];exact ⟨h0,zI _⟩
 ·rw [h];exact ⟨zI _,h0⟩
 ·rw [h];rw [h2] at h1;have:pos 2=1:=rfl;exact ⟨by decide,by show 2<=_;omega⟩
 ·rw [h];exact ⟨by show 1<=gX e;unfold gX;omega,h2⟩
theorem JO (l:List UInt8) (h0:0 < l.length):(l.take (itF l).n).length=(itF l).n:=by rw [JX];have:=nG l h0;omega
def jK:Nat->List UInt8->List It
 | 0,_=>[]
 | f+1,l=>if l.length=0 then [] else (itF l).it l::jK f (l.drop (itF l).n)
def aX (l:List UInt8):List It:=jK l.length l
theorem rL:∀(f g:Nat) (l:List UInt8),l.length<=f->l.length<=g->jK f l=jK g l
 | 0,g,l,h,_=>by
  have h:l.length=0:=by omega
  cases g with
  | zero=>rfl
  | succ g=>rw [jK,jK,if_pos h]
 | f+1,0,l,_,h=>by
  have h:l.length=0:=by omega
  rw [jK,jK,if_pos h]
 | f+1,g+1,l,h1,h2=>by
  rw [jK,jK];by_cases h:l.length=0
  ·rw [if_pos h,if_pos h]
  ·have:=nG l (by omega);rw [if_neg h,if_neg h,rL f g _ (by rw [JS];omega) (by rw [JS];omega)]
theorem gB {l:List UInt8} (h:l.length=0):aX l=[]:=by unfold aX;rw [h];rfl
theorem dN {l:List UInt8} (h:0 < l.length):aX l=(itF l).it l::aX (l.drop (itF l).n):=by
 unfold aX;have:=nG l h;cases hl:l.length with
 | zero=>omega
 | succ f=>rw [jK,if_neg (by omega),rL f (l.drop (itF l).n).length _ (by rw [JS];omega) (zI _)]
theorem mQ {P:List UInt8->Prop} (h0:∀l,l.length=0->P l) (h1:∀l,0 < l.length->P (l.drop (itF l).n)->P l):∀l,P l:=by
 have:∀n (l:List UInt8),l.length<=n->P l:=by
  intro n;induction n with
  | zero=>intro l h;exact h0 l (by omega)
  | succ n ih=>
   intro l h;by_cases hl:l.length=0
   ·exact h0 l hl
   ·have:=nG l (by omega);exact h1 l (by omega) (ih _ (by rw [JS];omega))
 exact λl=>this l.length l (zI _)
theorem tA (l:List UInt8):(aX l).length<=l.length:=by
 refine mQ (P:=λl=>(aX l).length<=l.length) ?_ ?_ l
 ·intro l h;rw [gB h];exact YD _
 ·intro l h ih;have:=nG l h;rw [dN h,VH];rw [JS] at ih;omega
theorem yD {a b:List UInt8} {k:Nat} (h:k < a.length):bAt (a++b) k=bAt a k:=by unfold bAt;rw [JL,JL,z1F h]
theorem mE {a c:List UInt8}:∀(ex:List UInt8) (k:Nat) (d n:Int),(∀b∈ex,rN b)->(∀j,j < k+rdN ex->bAt c j=bAt a j)->rdF ex c k d n=rdF ex a k d n
 | [],_,_,_,_,_=>rfl
 | x::ex,k,d,n,ho,h=>by
  have ho':∀b∈ex,rN b:=λb hb=>ho b (z1I _ hb);rw [rdN] at h;unfold rdF;by_cases h1:x=100
  ·rw [if_pos h1,if_pos h1,h k (by split<;>omega),mE ex (k+1) _ _ ho' (λj hj=>h j (by split<;>omega))]
  rw [if_neg h1,if_neg h1];by_cases h2:x=101
  ·rw [if_pos h2,if_pos h2,h k (by split<;>omega),mE ex (k+1) _ _ ho' (λj hj=>h j (by split<;>omega))]
  rw [if_neg h2,if_neg h2];by_cases h3:x=110
  ·rw [if_pos h3,if_pos h3,h k (by split<;>omega),mE ex (k+1) _ _ ho' (λj hj=>h j (by split<;>omega))]
  rw [if_neg h3,if_neg h3];have h4:x=119:=by
   rcases ho x (List.mem_cons_self ..) with e | e | e | e
   ·exact absurd e h1
   ·exact absurd e h2
   ·exact absurd e h3
   ·exact e
  rw [if_pos h4] at h;rw [h k (by omega),h (k+1) (by omega),mE ex (k+2) _ _ ho' (λj hj=>h j (by omega))]
theorem NH {a c:List UInt8} {p x:Nat} (hp:p < 7) (hx:x < 256) {e:aL} (he:(atF p x).1=some e) (h:∀j,j < gX e->bAt c j=bAt a j):gP p e c=gP p e a:=by
 obtain ⟨hw,hpg,_⟩:=kZ hp hx he;unfold gP;refine mE _ _ _ _ hw.lets (λj hj=>h j ?_);unfold gX;rw [hpg];by_cases h5:5<=p
 ·rw [if_pos h5,hw.hi (by rw [hpg];omega)] at hj;have:p=5\/p=6:=by omega
  rw [hw.hi (by rw [hpg];omega)];rcases this with e | e<;>subst e
  ·show j < 2+1+1;have hj:j < 2+1:=hj;omega
  ·show j < 2+1+1;have hj:j < 2+1:=hj;omega
 ·rw [if_neg h5] at hj;unfold pos at hj;rw [if_neg h5] at hj;omega
theorem WG {a c:List UInt8} (hp:pgB c=pgB a) (hb:∀j,j < a.length->bAt c j=bAt a j) (hl:a.length<=c.length) (hk:¬(itF a).k=4):itF c=itF a:=by
 obtain ⟨h7,_⟩:=yN (l:=a);unfold itF itS at hk ⊢;rw [hp];by_cases h:a.length<=pos (pgB a)
 ·rw [if_pos h] at hk;exact absurd rfl hk
 rw [if_neg h] at hk ⊢;rw [if_neg (by omega),hb _ (by omega)];cases ha:atF (pgB a) (bAt a (pos (pgB a))) with
 | mk o k=>
  rw [ha] at hk;cases o with
  | none=>rfl
  | some e=>
   dsimp only at hk ⊢;unfold itE at hk ⊢;by_cases hs:a.length < gX e
   ·rw [if_pos hs] at hk;exact absurd rfl hk
   ·rw [if_neg hs,if_neg (by omega),NH h7 (bT _ _) (by rw [ha]) (λj hj=>hb j (by omega))]
theorem ZI {a b:List UInt8} (h:pos (pgB a) < a.length):pgB (a++b)=pgB a:=by
 have h0:0 < a.length:=by omega
 have e0:bAt (a++b) 0=bAt a 0:=yD h0;by_cases h2:1 < a.length
 ·unfold pgB;rw [e0,yD h2];have:1 < (a++b).length:=by rw [YL];omega
  simp only [this,h2,true_and]
 ·have h1:a.length=1:=by omega
  rw [h1] at h;have n1:¬bAt a 0=221:=λe=>by have:pgB a=3:=(by unfold pgB;rw [if_neg (by omega),if_neg (by omega),if_pos e,if_neg (by omega)]);rw [this] at h;exact absurd h (by decide)
  have n2:¬bAt a 0=253:=λe=>by have:pgB a=4:=(by unfold pgB;rw [if_neg (by omega),if_neg (by omega),if_neg n1,if_pos e,if_neg (by omega)]);rw [this] at h;exact absurd h (by decide)
  unfold pgB;rw [e0];simp only [n1,n2,if_false]
theorem itF_pos {a:List UInt8} (hk:¬(itF a).k=4):pos (pgB a) < a.length:=by refine Nat.lt_of_not_le (λh=>hk ?_);unfold itF itS;rw [if_pos h]
theorem GX {a b:List UInt8} (hk:¬(itF a).k=4):itF (a++b)=itF a:=WG (ZI (itF_pos hk)) (λ_ h=>yD h) (by rw [YL];omega) hk
abbrev tIL:TypeId:=26
theorem elIT:ElT Tryz.prog tIL tJ itR.size 80:=ElT.mk' (z:=.agg #[.int .i64 0,.slice none 0 0,.string ⟨#[]⟩,.slice none 0 0,.bool false]) Tryz.underlying26 (by kernel_rfl) rfl (by decide)
def QV (w:World) (L:List It) (e:Ending) (w':World):Prop:=(∃v,e=.returned v/\Acc itR w' w.heap.size tJ v L)/\RowKit.Below w.heap.size w w'
attribute [local go_sem] Oper.semAt_some
theorem iF {w:World} {b j:Nat} {v:Value} (h:w.cell? ⟨b,j,none⟩=some v):∃o,w.heap[b]?=some o/\o.isCells=true:=by exact tX74
theorem SlR.tkY {w w':World} {p P:aB} {v:Value} {xs:List UInt8} (h:SlR aI w p v xs) (ht:Tk P w w') (hp:∀k,p k->P k):SlR aI w' p v xs:=by obtain ⟨a,cap,e,h1,h2,h3⟩:=h;refine ⟨a,cap,e,h1,h2,λi x hx=>?_⟩;obtain ⟨b,o,cs,ea,hb,hbs,hc,hr⟩:=h3 i x hx;have hr2:cs=[.int .u8 x.toNat]:=hr;exact tX2a
theorem Spc.at {w:World} (h:Spc w):1 < w.heap.size:=by
 have hg:Tryz.prog.globalNamed "strings.asciiSpace" =some 1:=by kernel_rfl
 exact QI w _ (h.cell hg 0 (by rw [Lib.asciiSpaceTab_length];decide))
theorem Spc.tk {n0:Nat} {A C:World} (h:Spc A) (hg:1 < n0) (ht:Tk (λk=>k < n0) A C):Spc C:=by
 have hgn:Tryz.prog.globalNamed "strings.asciiSpace" =some 1:=by kernel_rfl
 unfold Spc Lib.TabIs World.var? at h ⊢;simp only [hgn,Option.bind_some] at h ⊢;cases hA:A.heap[1]? with
 | none=>rw [hA] at h;cases h
 | some o=>
  cases o with
  | cells cs t fz=>rw [hA] at h;rw [ht _ _ hg hA rfl];exact h
  | _=>rw [hA] at h;cases h
def AT (z:It × Value):Array Value:=#[z.2]
def RxT (Φ:World->Prop) (l:List UInt8) (pre:List (It × Value)) (z:It × Value) (W:World):Prop:=(∃(A:World) (q:aB),Φ A/\RowKit.Below A.heap.size A W/\ItP W q z.1 z.2/\∀k,q k->A.heap.size<=k/\k < W.heap.size)/\(pre.map (·.1)++[z.1]) <+: aX l
theorem ItP.old {w:World} {p:aB} {x:It} {v:Value} (h:ItP w p x v):ItP w (λk=>p k/\k < w.heap.size) x v:=by obtain ⟨ra,rc,va,vc,e,h1,h2⟩:=h;exact ⟨ra,rc,va,vc,e,h1.old,h2.old⟩
set_option maxHeartbeats 4000000 in
set_option maxRecDepth 100000 in
theorem AJ (T:World->World->Prop) (Φ:World->Prop) (n0 bb:Nat) (a:Option Addr) (c:Nat) (l:List UInt8) (p:aB) (w:World) (hB:Blk w bb 22 #[.slice a l.length c]) (hbb:bb < n0) (hs:SlR aI w p (.slice a l.length c) l) (hp:∀k,p k->k < n0) (hT:Spc w) (hg:1 < n0) (hl:l.length<=1000000)
  (hTk:∀A C,T A C->Tk (λk=>k < n0) A C) (hΦ0:Φ w) (hΦB:∀A C,RowKit.Below A.heap.size A C->Φ A->Φ C) (hΦT:∀A C,T A C->Φ A->Φ C):
  zT Fence.wide 8 Tryz.prog 70 #[.pointer (some ⟨bb,0,none⟩)] AT T (RxT Φ l) (λxs=>xs.map (·.1)=aX l) (λpre=>pre.map (·.1) <+: aX l) w:=by
 intro b J Jx W hW hJ hJx hY h0;have HTK:=aA hTk;have HPB:=aA hΦB;have HPT:=aA hΦT;have HP0:=aA (show Φ W from hΦB _ _ (hW.mono (zI _)) hΦ0);have HB:=aA (hB.below hW hB.lt);have HS:=aA (hs.below hW);have HSP:=aA (hT.below hW);have HJ:=aA hJ;have HJx:=aA hJx;have HY:=aA hY;have H0:=aA h0;have HPN:=aA hp;have HGN:=aA hg;have HBB:=aA hbb;have HL:=aA hl;clear hTk hΦ0 hΦB hΦT hW hJ hJx hY h0 hB hs hT hp hg hl hbb;refine callsIn_of_wp Tryz.func70 rfl trivial ?_ rfl;simp only [Tryz.ntmps70,List.size_toArray,List.length_cons,List.length_nil,Nat.reduceAdd,Nat.reduceSub,Array.replicate_succ,Array.replicate_zero,List.push_toArray,List.append_toArray,List.nil_append,List.cons_append];gi_wp2;gi_loopw [3,4,5,6] (λi _ _ _ wr=>∃(pre:List (It × Value)) (k:Nat),k<=l.length/\i=.int .i64 k/\pre.map (·.1)++aX (l.drop k)=aX l/\Blk wr bb 22 #[.slice a l.length c]/\SlR aI wr p (.slice a l.length c) l/\Spc wr/\Φ wr/\J pre wr) (λi _ _ _ _=>l.length - (intOf i).toNat);case atStart=>exact ⟨[],0,YD _,rfl,rfl,HB.out,HS.out,HSP.out,HP0.out,H0.out⟩
 case round=>
  obtain ⟨pre,k,hk,rfl,hpre,hb,hs,hsp,hph,hj⟩:=hrel;clear HB HS HSP HP0 H0;have HPR:=aA hpre;have HB:=aA hb;have HS:=aA hs;have HSP:=aA hsp;have HPH:=aA hph;have HJW:=aA hj;have d0:=hb.cell 0;clear hpre hb hs hsp hph hj;by_cases hlt:k < l.length
  ·have HAT:=aA (At_yes p a c l k wr HSP.out HS.out hlt HL.out);have hL0:0 < (l.drop k).length:=(by rw [JS];omega);have HCO:=aA (dN hL0);have HNL:=aA (show ((l.drop k).take (itF (l.drop k)).n).length=(itF (l.drop k)).n/\1<=(itF (l.drop k)).n/\k+(itF (l.drop k)).n<=l.length from ⟨JO _ hL0,(nG _ hL0).1,by have:=(nG _ hL0).2;rw [JS] at this;omega⟩);have HDR:Hid (l.drop (k+(itF (l.drop k)).n)=(l.drop k).drop (itF (l.drop k)).n):=aA (by rw [List.drop_drop]);obtain ⟨R1,hR1⟩:∃R,R=(l.drop k).take (itF (l.drop k)).n:=⟨_,rfl⟩;have HX0:Hid ((itF (l.drop k)).it (l.drop k)=⟨(itF (l.drop k)).k,R1,(itF (l.drop k)).op,(itF (l.drop k)).args,(itF (l.drop k)).al⟩):=aA (by rw [hR1];rfl);rw [<-hR1] at HNL HAT;have HR1:=aA hR1;clear hR1 hL0;generalize l.drop k=L at *;generalize itF L=IT at *;gi_wp2_with (refine ⟨trivial,?_⟩;gi_at_call 71;refine (callsIn_wide.2 HAT.out).mono ?_;rintro e w2 ⟨⟨v2,rfl,hi⟩,hb2⟩;obtain ⟨ra,rc,va,vc,hv,x1,x2⟩:=hi;unfold qU at hv;rw [<-HR1.out] at hv x1;subst hv;have HBN:Hid (RowKit.Below w2.heap.size w2 (w2.alloc (.cells #[.int .i64 IT.k,.slice ra R1.length rc,.string ⟨IT.op.toArray⟩,.slice va IT.args.length vc,.bool IT.al] 32))):=aA ((zY _ _).alloc (zI _) _);have HB2:=aA hb2;have HB3:=aA (hb2.trans (HBN.out.mono hb2.size));obtain ⟨fn,tmps,assign,body,hy,hR⟩:=HY.out pre (⟨IT.k,R1,IT.op,IT.args,IT.al⟩,.agg #[.int .i64 IT.k,.slice ra R1.length rc,.string ⟨IT.op.toArray⟩,.slice va IT.args.length vc,.bool IT.al]) _ (HJ.out _ _ _ HJW.out HB3.out) ⟨⟨wr,λk=>wr.heap.size<=k/\k < w2.heap.size,HPH.out,HB3.out,⟨ra,rc,va,vc,rfl,x1.old.below HBN.out,x2.old.below HBN.out⟩,λk hk=>⟨hk.1,vB hk.2 HBN.out.size⟩⟩,⟨aX (L.drop IT.n),by rw [<-HPR.out,HCO.out,HX0.out,JP];rfl⟩⟩;have HR:=aA hR;dsimp only [AT] at hy;clear x1 x2 hb2 hR);refine HR.out.mono ?_;rintro e W' (⟨rfl,hj3,hT⟩ | ⟨rfl,hjx⟩)
   ·have HJ3:=aA hj3;have ht:=(Tk.below (p:=λk=>k < n0) HB3.out).trans (HTK.out _ _ hT);have HB':=aA (ht.blk HB.out HBB.out);have HS':=aA (HS.out.tkY ht HPN.out);have HSP':=aA (HSP.out.tk HGN.out ht);have HPH':=aA (HPT.out _ _ hT (HPB.out _ _ HB3.out HPH.out));clear hj3 hT ht hy d0;gi_wp2;go_roundw;case rel=>exact ⟨pre++[(⟨IT.k,R1,IT.op,IT.args,IT.al⟩,.agg #[.int .i64 IT.k,.slice ra R1.length rc,.string ⟨IT.op.toArray⟩,.slice va IT.args.length vc,.bool IT.al])],k+IT.n,HNL.out.2.2,by rw [HNL.out.1];push_cast;rfl,by rw [HDR.out,z0O,<-HPR.out,HCO.out,HX0.out,JP];rfl,HB'.out,HS'.out,HSP'.out,HPH'.out,HJ3.out⟩
    case measure=>have:=HNL.out;simp [intOf];omega
   ·have HJ3:=aA hjx;clear hjx hy d0;gi_wp2;refine yR (results_none rfl _ _ _) rfl ?_;exact ⟨⟨_,rfl⟩,.inr ⟨_,by rw [z0O,<-HPR.out,HCO.out,HX0.out];exact ⟨aX (L.drop IT.n),by rw [JP];rfl⟩,HJ3.out⟩⟩
  ·have HAT:=aA (At_no a c l.length k wr (.inr (by omega)));have HE:Hid (pre.map (·.1)=aX l):=aA (by rw [<-HPR.out,gB (by rw [JS];omega),z1E]);gi_wp2_with (refine ⟨trivial,?_⟩;gi_at_call 71;refine (callsIn_wide.2 HAT.out).mono ?_;rintro e w2 ⟨rfl,hb2⟩;have HJ3:=aA (HJ.out _ _ _ (HJ.out _ _ _ HJW.out hb2) ((zY _ _).alloc (zI _) (.cells cD 32)));clear hb2);refine ⟨λ_ h=>(by cases h),?_⟩;gi_wp2;refine yR (results_none rfl _ _ _) rfl ?_;exact ⟨⟨_,rfl⟩,.inl ⟨pre,HE.out,HJ3.out⟩⟩
attribute [local go_sem] Oper.semAt_some
theorem Tk.ownI {P:aB} {B:Nat} {W W':World} {row:Option Nat} (hg:W.grownBy W' row) (hr:∀r,row=some r->B<=r/\∃o:Obj,W.heap[r]?=some o/\o.isCells=false):Tk P W W':=λk o _ hk hc=>(hg.block k (jN.1 hk).1 (λe=>by obtain ⟨_,o2,ho,hc2⟩:=hr k e.symm;rw [hk] at ho;injection ho with ho;subst ho;rw [hc] at hc2;cases hc2)).trans hk
theorem SlR.tkO {w w':World} {p P:aB} {v:Value} {xs:List Opd} (h:SlR aM w p v xs) (ht:Tk P w w') (hp:∀k,p k->P k):SlR aM w' p v xs:=by obtain ⟨a,cap,e,h1,h2,h3⟩:=h;refine ⟨a,cap,e,h1,h2,λi x hx=>?_⟩;obtain ⟨b,o,cs,ea,hb,hbs,hc,hr⟩:=h3 i x hx;have hr2:cs=x.cells:=hr;exact tX2a
theorem Els.tkJ {w w':World} {p:aB} (ht:Tk p w w'):∀{xs:List It} {cs:List Value},Els itR w p cs xs->Els itR w' p cs xs
 | [],_,h=>h
 | _::_,_,⟨c1,c2,e,⟨ra,rc,va,vc,e2,hs,ho⟩,h2⟩=>⟨c1,c2,e,⟨ra,rc,va,vc,e2,hs.tkY ht (λ_ h=>h),ho.tkO ht (λ_ h=>h)⟩,Els.tkJ ht h2⟩
theorem Acc.tkJ {w w':World} {B:Nat} {e:TypeId} {v:Value} {xs:List It} (h:Acc itR w B e v xs) (ht:Tk (λ_=>True) w w') (hs:w.heap.size<=w'.heap.size):Acc itR w' B e v xs:=by
 obtain ⟨p,⟨cs,hrow,hels⟩,hp⟩:=h;refine ⟨p,⟨cs,⟨hrow.1,?_⟩,hels.tkJ (λk o _ hk hc=>ht k o trivial hk hc)⟩,λk hk=>⟨(hp k hk).1,vB (hp k hk).2.1 hs,(hp k hk).2.2⟩⟩;rcases hrow.2 with hn | ⟨g,cap,cur,rfl,hb,hg,rest⟩
 ·exact .inl hn
 ·exact .inr ⟨g,cap,cur,rfl,hb,ht _ _ trivial hg rfl,rest⟩
theorem uO {w:World} {b j:Nat} {v:Value} (h:w.cell? ⟨b,j,none⟩=some v):b < w.heap.size:=by obtain ⟨o,ho,_⟩:=iF h;exact (jN.1 ho).1
def PhI (bo:Nat) (W:World):Prop:=∃u,W.cell? ⟨bo,0,none⟩=some u/\∀k,u.ownBlock=some k->k < W.heap.size
structure TkI (bo:Nat) (A C:World):Prop where
 size:A.heap.size<=C.heap.size
 tk:Tk (λk=>k < bo) A C
 phi:PhI bo A->PhI bo C
theorem TkI.trans {bo:Nat} {A C D:World} (h:TkI bo A C) (g:TkI bo C D):TkI bo A D:=⟨qJ h.size g.size,h.tk.trans g.tk,λx=>g.phi (h.phi x)⟩
theorem PhI.below {bo:Nat} {A C:World} (h:Below A.heap.size A C) (g:PhI bo A):PhI bo C:=by obtain ⟨u,hu,hk⟩:=g;exact ⟨u,(h.cell (p:=⟨bo,0,none⟩) (uO hu)).trans hu,λk e=>vB (hk k e) h.size⟩
theorem TkI.below {bo:Nat} {A C:World} (h:Below A.heap.size A C):TkI bo A C:=⟨h.size,Tk.below h,PhI.below h⟩
theorem TkI.put {bo:Nat} (W:World) (l:Nat) (o o':Obj) (hl:W.heap[l]?=some o) (ho:o.isCells=false):TkI bo W (W.putObj l o'):=by have ht:Tk (λ_=>True) W (W.putObj l o'):=Tk.put W l o o' hl ho;have hs:=(cU (W:=W) (l:=l) o').size;refine ⟨hs,Tk.put W l o o' hl ho,λ⟨u,hu,hk⟩=>?_⟩;obtain ⟨q,hq,hqc⟩:=iF hu;have h2:=ht bo q trivial hq hqc;exact ⟨u,(z0E (h2.trans hq.symm)).trans hu,λk e=>vB (hk k e) hs⟩
structure ItI (w wS:World) (bo:Nat) (L:List It) (W:World):Prop where
 tk:Tk (λk=>k < bo) wS W
 acc:∃v,Blk W bo 26 #[v]/\Acc itR W wS.heap.size tJ v L
 below:Below w.heap.size w W
 size:wS.heap.size<=W.heap.size
theorem ItI.own {w wS W W':World} {bo:Nat} {L:List It} {row:Option Nat} (hB:w.heap.size<=wS.heap.size) (h:ItI w wS bo L W) (hg:W.grownBy W' row) (hr:∀r,row=some r->wS.heap.size<=r/\∃o:Obj,W.heap[r]?=some o/\o.isCells=false):ItI w wS bo L W':=by obtain ⟨v,h1,h2⟩:=h.acc;exact ⟨h.tk.trans (Tk.ownI hg hr),⟨v,eR h1 hg hr,h2.tkJ (Tk.ownI hg hr) hg.size⟩,h.below.grown hg h.below.size (λk hk=>qJ hB (hr k hk).1),qJ h.size hg.size⟩
theorem ItI.stay {w wS W W':World} {bo:Nat} {L:List It} (h:ItI w wS bo L W) (hb:Below W.heap.size W W'):ItI w wS bo L W':=by obtain ⟨v,h1,h2⟩:=h.acc;exact ⟨h.tk.trans (Tk.below hb),⟨v,h1.below hb h1.lt,h2.stay hb⟩,h.below.trans (hb.mono h.below.size),qJ h.size hb.size⟩
theorem ItI.app {w wS W:World} {bo:Nat} {L:List It} {oa:Option Addr} {oc:Nat} (x:It) (cs:Array Value) (q:aB) (h:ItI w wS bo L W) (hw:w.heap.size<=bo) (hbo:bo < wS.heap.size) (h1:Blk W bo 26 #[.slice oa L.length oc]) (hL:L.length<=1000000)
  (hx:itR.rel W q cs.toList x) (hq:∀k,q k->wS.heap.size<=k/\Value.ownBlock (.slice oa L.length oc)≠some k):
  ∃a5 c5 w3,(Builtin.append_ #[26,26] 26 #[.slice oa L.length oc,.slice (some ⟨W.heap.size,0,none⟩) 1 1]).run Tryz.prog (W.alloc (.cells cs 32))=.ok (.slice a5 (L.length+1) c5) w3/\
   Blk w3 bo 26 #[.slice oa L.length oc]/\eE wS.heap.size W (w3.setCell ⟨bo,0,none⟩ (.slice a5 (L.length+1) c5))/\TkI bo W (w3.setCell ⟨bo,0,none⟩ (.slice a5 (L.length+1) c5))/\ItI w wS bo (L++[x]) (w3.setCell ⟨bo,0,none⟩ (.slice a5 (L.length+1) c5)):=by
 obtain ⟨v,hv1,hacc⟩:=h.acc;obtain rfl:v=.slice oa L.length oc:=by have e:=hv1.symm.trans h1;injection e with e;injection e with e;injection e with e;injection e with e
 have hlt:=hacc.lt;have hcells:∀k,Value.ownBlock (.slice oa L.length oc)=some k->∃cs t fz,W.heap[k]?=some (.cells cs t fz):=by obtain ⟨p,⟨cs,hrow,_⟩,_⟩:=hacc;exact tX4b
 obtain ⟨a5,c5,w3,hrun,ho,hg,hn⟩:=Acc.pushed (P:=Tryz.prog) (t:=26) (ty:=26) (x:=x) elIT hacc cs hx hq (by omega) (by omega) h.size;have hkeep:∀k o,W.heap[k]?=some o->Value.ownBlock (.slice oa L.length oc)≠some k->w3.heap[k]?=some o:=λk o hk hne=>(hg.block k (jN.1 hk).1 (λe=>hne e.symm)).trans hk;have hnot:∀k,k < wS.heap.size->Value.ownBlock (.slice oa L.length oc)≠some k:=λk hk e=>by have:=(hlt k e).1;omega
 have hb3:Blk w3 bo 26 #[.slice oa L.length oc]:=hkeep _ _ h1 (hnot _ hbo);have hsz:W.heap.size<=w3.heap.size:=hg.size;have hne:∀k,k≠bo->∀u,(w3.setCell ⟨bo,0,none⟩ u).heap[k]?=w3.heap[k]?:=λk hk u=>xV _ _ _ _ hk;refine ⟨a5,c5,w3,hrun,hb3,⟨by rw [yY];exact hsz,λk o hk hko hc=>?_⟩,⟨by rw [yY];exact hsz,λk o hk hko hc=>?_,λ_=>?_⟩,⟨?_,⟨_,hb3.set 0 _,?_⟩,?_,by rw [yY];exact qJ h.size hsz⟩⟩
 ·refine (hne k (by omega) _).trans (hkeep _ _ hko (λe=>?_));exact tX76
 ·exact (hne k (by omega) _).trans (hkeep _ _ hko (hnot _ (by omega)))
 ·exact ⟨_,(hb3.set 0 _).cell 0,λk hk=>by rw [yY];exact (ho.lt k hk).2⟩
 ·exact λk o hk hko hc=>(hne k (by omega) _).trans (hkeep _ _ (h.tk k o hk hko hc) (hnot _ (by omega)))
 ·exact ho.keep (λk hk=>hne k (by omega) _) (by rw [yY];exact zI _)
 ·refine Below.setCell ?_ hw _;exact h.below.grown hg h.below.size (λk hk=>by have:=(hlt k hk).1;omega)
attribute [local go_sem] Oper.semAt_some
def GkI (bo:Nat) (A:World) (k:Nat):Prop:=∃u,A.cell? ⟨bo,0,none⟩=some u/\u.ownBlock≠some k
theorem GkI.below {bo:Nat} {A C:World} {k:Nat} (h:Below A.heap.size A C) (g:GkI bo A k):GkI bo C k:=by obtain ⟨u,hu,hn⟩:=g;exact ⟨u,(h.cell (p:=⟨bo,0,none⟩) (uO hu)).trans hu,hn⟩
theorem GkI.tk {bo:Nat} {A C:World} {k:Nat} (g:GkI bo A k) (ht:Tk (λ_=>True) A C):GkI bo C k:=by obtain ⟨u,hu,hn⟩:=g;obtain ⟨q,hq,hqc⟩:=iF hu;exact ⟨u,(z0E ((ht bo q trivial hq hqc).trans hq.symm)).trans hu,hn⟩
theorem GkI.fresh {bo:Nat} {A W:World} {k:Nat} (g:PhI bo A) (h:Below A.heap.size A W) (hk:A.heap.size<=k):GkI bo W k:=by obtain ⟨u,hu,hn⟩:=g;exact ⟨u,(h.cell (p:=⟨bo,0,none⟩) (uO hu)).trans hu,λe=>by have:=hn k e;omega⟩
theorem GkI.ne {bo:Nat} {W:World} {k:Nat} {t:TypeId} {v:Value} (g:GkI bo W k) (h:Blk W bo t #[v]):v.ownBlock≠some k:=by obtain ⟨u,hu,hn⟩:=g;have e:=hu.symm.trans (h.cell 0);injection e with e;subst e;exact hn
set_option maxHeartbeats 8000000 in
set_option maxRecDepth 100000 in
theorem vH (bb:Nat) (a:Option Addr) (c:Nat) (l:List UInt8) (p:aB) (w:World) (hB:Blk w bb 22 #[.slice a l.length c]) (hs:SlR aI w p (.slice a l.length c) l) (hT:Spc w) (hl:l.length<=1000000):
  Calls Tryz.prog 69 #[.slice none 0 0,.func (.func 70) #[] #[.pointer (some ⟨bb,0,none⟩)]] w (QV w (aX l)):=by
 have HEP:Hid (QV w (aX l)=λe w'=>(∃v,e=.returned v/\Acc itR w' w.heap.size tJ v (aX l))/\Below w.heap.size w w'):=aA rfl;have HF:=aA ((Fr.start w).new 26 #[.slice none 0 0]);obtain ⟨bo,hbo⟩:∃b,w.heap.size=b:=⟨_,rfl⟩;have HBO:=aA hbo;obtain ⟨wS,hwS⟩:∃W:World,W=w.alloc (.cells #[.slice none 0 0] 26):=⟨_,rfl⟩;rw [<-hwS,hbo] at HF;have HGC:=aA (HF.out.blk 0 rfl).lt;have HBW:Hid (Below bo w wS):=aA (by rw [<-hbo];exact HF.out.below);have HSEQ:=aA (AJ (TkI bo) (λW=>PhI bo W/\wS.heap.size<=W.heap.size) bo bb a c l (λk=>p k/\k < bo) wS (hB.below (by rw [hbo];exact HBW.out) hB.lt) (by rw [<-hbo];exact hB.lt) ((by rw [<-hbo];exact hs.old:SlR aI w (λk=>p k/\k < bo) (.slice a l.length c) l).below (by rw [hbo];exact HBW.out)) (λk hk=>hk.2) (hT.below (by rw [hbo];exact HBW.out)) (by rw [<-hbo];exact hT.at) hl
  (λA C h=>h.tk) ⟨⟨_,(HF.out.blk 0 rfl).cell 0,λk e=>by cases e⟩,zI _⟩ (λA C h g=>⟨g.1.below h,qJ g.2 h.size⟩) (λA C h g=>⟨h.phi g.1,qJ g.2 h.size⟩))
 have HI0:Hid (ItI w wS bo [] wS):=aA ⟨Tk.refl,⟨_,HF.out.blk 0 rfl,Acc.nil _ _ _⟩,HF.out.below,zI _⟩;have HLN:=aA (qJ (tA l) hl);have HWS:Hid (w.heap.size<=wS.heap.size):=aA HBW.out.size;clear hB hs hT hl;obtain ⟨L,hL⟩:∃L,aX l=L:=⟨_,rfl⟩;have HLQ:=aA hL;rw [hL] at HEP HLN HSEQ ⊢;clear hL;rw [HEP.out];clear HEP;refine (callsIn_wide (n:=9)).1 ?_;refine callsIn_of_wp_marks Tryz.func69 rfl trivial ?_ rfl;simp only [Tryz.ntmps69,List.size_toArray,List.length_cons,List.length_nil,Nat.reduceAdd,Nat.reduceSub,Array.replicate_succ,Array.replicate_zero,List.push_toArray,List.append_toArray,List.nil_append,List.cons_append];refine wpIn_wide.2 ?_;go_upto_region 1 with fail;rw [<-hwS];clear hwS hbo HF;go_wp2_with fail;refine (wpIn_wide (n:=9)).1 ?_;refine fW rfl (by omega) (gf:=70) (lb:=#[.pointer (some ⟨bb,0,none⟩)]) rfl trivial (enters_of Tryz.func70 (by kernel_rfl) rfl)
  (encs:=AT) (λ_=>rfl) HSEQ.out (λh k=>h.trans k) (λW l o o' h1 h2=>TkI.put W l o o' h1 h2)
  (λ(pre:List (It × Value)) W=>ItI w wS bo (pre.map (λz:It × Value=>z.1)) W)
  (λ_ _ _=>False)
  (λpre W W' row hi hg hr=>ItI.own HWS.out (show ItI w wS bo (pre.map (λz:It × Value=>z.1)) W from hi) hg hr)
  (λc pre W W' row hi hg hr=>hi.elim)
  HI0.out
  (λpre x a' W=>∃(g:Nat) (ra va:Option Addr) (rc vc:Nat) (u0 u1 u3 u4 u6 u7 u8 u9 u10 u11 u12:Value),wS.heap.size<=g/\Blk W g 32 (kY x.1 ra rc va vc)/\(∃q:aB,SlR aI W q (.slice ra x.1.raw.length rc) x.1.raw/\SlR aM W q (.slice va x.1.args.length vc) x.1.args/\∀k,q k->wS.heap.size<=k/\k < W.heap.size/\GkI bo W k)/\(pre.map (·.1)++[x.1]) <+: L/\a'={tmps:=#[u0,u1,.pointer (some ⟨bo,0,none⟩),u3,u4,.pointer (some ⟨g,0,none⟩),u6,u7,u8,u9,u10,u11,u12],defers:=[]})
  ?ax ?assign ?body ?done ?stop
 case ax=>rintro pre x a' W l o o' ⟨g,ra,va,rc,vc,u0,u1,u3,u4,u6,u7,u8,u9,u10,u11,u12,hg,hb,⟨q,hs,hs2,hq⟩,hpre,rfl⟩ hl ho hc;have hgr:=(cU (W:=W) (l:=l) o').size;have htk:Tk (λ_=>True) W (W.putObj l o'):=Tk.put W l o o' ho hc;exact ⟨g,ra,va,rc,vc,u0,u1,u3,u4,u6,u7,u8,u9,u10,u11,u12,hg,htk.blk hb trivial,⟨q,hs.tkY htk (λ_ _=>trivial),hs2.tkO htk (λ_ _=>trivial),λk hk=>⟨(hq k hk).1,vB (hq k hk).2.1 hgr,(hq k hk).2.2.tk htk⟩⟩,hpre,rfl⟩
 case assign=>rintro l pre ⟨x1,v1⟩ W K hi ⟨⟨A,q,hΦ,hAW,⟨ra,rc,va,vc,hv,hs,hs2⟩,hq⟩,hpre⟩ hK;dsimp only at hv hs hs2 hpre;rw [HLQ.out] at hpre;subst hv;have HK:=aA hK;have HI:=aA hi;have HS:=aA hs;have HS2:=aA hs2;have HQ:=aA (λk (h:q k)=>(show wS.heap.size<=k/\k < W.heap.size/\GkI bo W k from ⟨qJ hΦ.2 (hq k h).1,(hq k h).2,GkI.fresh hΦ.1 hAW (hq k h).1⟩));have HP:=aA hpre;obtain ⟨k9,R1,op,args,al⟩:=x1;dsimp only [kY] at HS HS2 HP ⊢;have HBN:Hid (Below W.heap.size W (W.alloc (.cells #[.int .i64 k9,.slice ra R1.length rc,.string ⟨op.toArray⟩,.slice va args.length vc,.bool al] 32))):=aA ((zY _ _).alloc (zI _) _);clear hK hi hs hs2 hpre hq hΦ hAW;dsimp only [AT];gi_wp2;exact HK.out _ _ (eE.below HBN.out) (TkI.below HBN.out) (HI.out.stay HBN.out) ⟨W.heap.size,ra,va,rc,vc,_,_,_,_,_,_,_,_,_,_,_,HI.out.size,Blk.new W _ _,⟨q,HS.out.below HBN.out,HS2.out.below HBN.out,λk hk=>⟨(HQ.out k hk).1,vB (HQ.out k hk).2.1 HBN.out.size,(HQ.out k hk).2.2.below HBN.out⟩⟩,HP.out,rfl⟩
 case body=>
  rintro l pre ⟨x1,v1⟩ a' W hl hi ⟨g,ra,va,rc,vc,u0,u1,u3,u4,u6,u7,u8,u9,u10,u11,u12,hg,hb,⟨q,hs,hs2,hq⟩,hpre,rfl⟩;dsimp only at hb hs hs2 hpre;have hln:(pre.map (λz:It × Value=>z.1)).length<=1000000:=by have h1:=hpre.length_le;have h2:=HLN.out;rw [YL] at h1;omega
  obtain ⟨vo,hvo,hao⟩:=hi.acc;obtain ⟨oa,oc,rfl⟩:=hao.form;have hme:(pre++[(x1,v1)]).map (λz:It × Value=>z.1)=pre.map (λz:It × Value=>z.1)++[x1]:=by rw [z0O];rfl
  have HME:=aA hme;obtain ⟨a5,c5,w3,hrun,hb3,hre,hta,hall⟩:=ItI.app x1 (kY x1 ra rc va vc) q hi (by have:=HBO.out;omega) HGC.out hvo hln ⟨ra,rc,va,vc,rfl,hs,hs2⟩ (λk hk=>⟨(hq k hk).1,(hq k hk).2.2.ne hvo⟩);have HRN:=aA hrun;have HRE:=aA hre;have HTA:=aA hta;have HAL:=aA hall;obtain ⟨k9,R1,op,args,al⟩:=x1;dsimp only [kY] at hb HRN;obtain ⟨⟨y0,y1,y2,y3,y4⟩,_⟩:=hb.five;have k0:=hvo.cell 0;have k3:=hb3.cell 0;have k4:=hb3.free 0;clear hi hs hs2 hb hq hpre hme hln HSEQ hvo hao hrun hre hta hall hb3;generalize (pre.map (λz:It × Value=>z.1)).length=n at *;gi_wp2_with (first | (gi_at_builtin;refine fI rfl (.tmp 8) (.tmp 10) 26 rfl rfl rfl HRN.out ?_) | gi_in);exact ⟨HRE.out,HTA.out,by show ItI w wS bo (List.map (λz:It × Value=>z.1) _) _;rw [HME.out];exact HAL.out⟩
 case done=>
  rintro D xs W hD hall hk hK;have HKD:=aA hK;have hk2:=hk.own HWS.out (cU (W:=W) (l:=D) (.deferred none)) (λr e=>by injection e with e;subst e;exact ⟨hD,_,hK,rfl⟩);rw [hall] at hk hk2;obtain ⟨v,hb1,hov⟩:=hk.acc;obtain ⟨v2,hb2,hov2⟩:=hk2.acc;obtain rfl:v2=v:=by have hne:bo≠D:=(by have:=HGC.out;omega);have e1:(W.putObj D (.deferred none)).heap[bo]?=W.heap[bo]?:=QU hne;exact tX4d
  have HOV:=aA (hov2.base (B':=w.heap.size) HWS.out);have HBX:=aA hk2.below;have d1:=hb1.cell 0;clear hk hk2 hb1 hb2 hov hov2 hK;go_wp2;refine ⟨by simp,.inl ⟨_,_,rfl,run_takeDeferred HKD.out,?_⟩⟩;refine ⟨v2,?_,?_⟩
  ·simp [results,Tryz.results69,go_sem]
  ·exact ⟨⟨_,rfl,HOV.out⟩,HBX.out⟩
 case stop=>rintro D c pre W hD hpre h hK;exact h.elim
theorem AE (a:Option Addr) (n c:Nat) (w:World):Calls Tryz.prog 28 #[.slice a n c] w λe w'=>e=.returned (.func (.func 70) #[] #[.pointer (some ⟨w.heap.size,0,none⟩)])/\w'=w.alloc (.cells #[.slice a n c] 22):=by have hmf:∀(fn:Fn) (first cap:Array Value) (w:World),(Instr.makeFunc fn first cap).run Tryz.prog w=.ok (.func fn first cap) w:=λ_ _ _ _=>rfl;go_enter Tryz.func28,Tryz.ntmps28;go_wp2;go_ret;exact ⟨rfl,rfl⟩
set_option maxRecDepth 100000 in
theorem BZ (bb:Nat) (a:Option Addr) (c:Nat) (l:List UInt8) (p:aB) (w:World) (hB:Blk w bb 22 #[.slice a l.length c]) (hs:SlR aI w p (.slice a l.length c) l) (hT:Spc w) (hl:l.length<=1000000):
  Calls Tryz.prog 27 #[.func (.func 70) #[] #[.pointer (some ⟨bb,0,none⟩)]] w (QV w (aX l)):=by
 have HA:=aA (vH bb a c l p w hB hs hT hl);go_enter Tryz.func27,Tryz.ntmps27;go_wp2_with (go_at_call 69;refine (HA.out).mono ?_;rintro e w1 ⟨⟨v,rfl,ha⟩,hb⟩;have HA1:=aA ha;have HB1:=aA hb;clear ha hb);go_ret;exact ⟨⟨_,rfl,HA1.out⟩,HB1.out⟩
set_option maxRecDepth 100000 in
theorem a0A (p:aB) (a:Option Addr) (c:Nat) (l:List UInt8) (w:World) (hT:Spc w) (hs:SlR aI w p (.slice a l.length c) l) (hl:l.length<=1000000):
  Calls Tryz.prog 8 #[.slice a l.length c] w (QV w (aX l)):=by
 have hb0:RowKit.Below w.heap.size w (w.alloc (.cells #[.slice a l.length c] 22)):=(zY _ _).alloc (zI _) _;have HC:=aA (BZ w.heap.size a c l p _ (Blk.new w _ _) (hs.below hb0) (hT.below hb0) hl);have HB:=aA hb0;clear hT hs hb0;go_enter Tryz.func8,Tryz.ntmps8
 go_wp2_with (first
  | (go_at_call 28;refine (AE _ _ _ _).mono ?_;rintro e w1 ⟨rfl,hw1⟩;subst w1)
  | (go_at_call 27;refine (HC.out).mono ?_;rintro e w2 ⟨⟨v,rfl,ha⟩,hb⟩;have HA1:=aA ha;have HB1:=aA hb;clear ha hb))
 go_ret;exact ⟨⟨_,rfl,HA1.out.base HB.out.size⟩,HB.out.trans (HB1.out.mono HB.out.size)⟩
end Go.Proofs.YtpigbggoiipmhaaGreatDoor
