/-
  Functions of the program and of the reference, walked; plain facts on what they compute. Conditions: sizes.
-/
import Derived.Test.YtpigbggoiipmhaaGreatDoorBK1
import Derived.Test.YtpigbggoiipmhaaGreatDoorBF1
import Derived.Test.YtpigbggoiipmhaaGreatDoorShelfT
import Derived.WalkKit
import Derived.Test.YtpigbggoiipmhaaGreatDoorBD2
namespace Go.Proofs.YtpigbggoiipmhaaGreatDoor
open Go.RowKit Go.Shelf Go.Sort
theorem PU (lo hi n:Int):bG lo hi n=decide (lo<=n/\n<=hi):=by unfold bG;rw [z0C];simp
theorem okN_some {D:Option Nat} {lo hi n:Int} (hD:D.isSome=true) (h:okN D lo hi n=true):lo<=n/\n<=hi:=by
 cases D with
 | none=>cases hD
 | some i=>have h:bG lo hi n=true:=h;rw [PU] at h;exact jU h
end Go.Proofs.YtpigbggoiipmhaaGreatDoor
namespace Go.Proofs.YtpigbggoiipmhaaGreatDoor
set_option maxHeartbeats 400000
open Go.RowKit
theorem YF (p q:aB) (v1 v2:Value) (l1 l2:List Int) (w:World) (h1:SlR oO w p v1 l1) (h2:SlR oO w q v2 l2):
  Calls Tryz.prog 18 #[v1,v2] w λe w'=>e=.returned (.bool (decide (l1=l2)))/\∃n,w'=w.drewN n:=by
 obtain ⟨a1,c1,rfl,hc1,hm1,g1⟩:=h1.int;obtain ⟨a2,c2,rfl,hc2,hm2,g2⟩:=h2.int;clear h1 h2;by_cases hl:l1.length=l2.length
 ·have HL:=aA hl;rw [<-hl] at hc2 ⊢;clear hl;go_enter Tryz.func18,Tryz.ntmps18;go_wp2;go_loopw [5,13] (λ_ i wr=>∃k n:Nat,k<=l1.length/\i=.int .i64 k/\wr=w.drewN n/\l1.take k=l2.take k) (λ_ i _=>l1.length-(intOf i).toNat);case atStart=>exact ⟨0,0,YD _,rfl,rfl,rfl⟩
  case round=>
   obtain ⟨k,n,hk,rfl,rfl,ht⟩:=hrel;have HT:=aA ht;clear ht;by_cases hlt:k<l1.length
   ·have hlt2:k<l2.length:=(by have:=HL.out;omega);obtain ⟨b1,o1,rfl,_,d1⟩:=g1 k l1[k] (zL hlt);obtain ⟨b2,o2,rfl,_,e1⟩:=g2 k l2[k] (zL hlt2);clear g1 g2;have HS:=aA (iV hlt hlt2 HT.out);have HN:Hid (l1[k]≠l2[k]->l1≠l2):=λh e=>h (by simp only [e]);generalize l1[k]=x at *;generalize l2[k]=y at *;cases hxy:(x==y);rotate_left
    ·go_wp2;go_quiet (fail);go_wp2;go_roundw;case rel=>exact ⟨k+1,n+nq,by omega,by go_num,rfl,HS.out (eq_of_beq hxy)⟩
     case measure=>simp [intOf];omega
    ·go_wp2;go_quiet (fail);go_wp2;go_ret;exact ⟨aF (z0A (HN.out (by simpa using hxy))).symm,_,ER _ _ _⟩
   ·go_wp2;exact tX41
 ·go_enter Tryz.func18,Tryz.ntmps18;exact tX84
end Go.Proofs.YtpigbggoiipmhaaGreatDoor
namespace Go.Proofs.YtpigbggoiipmhaaGreatDoor
set_option maxRecDepth 100000
open Go.RowKit Go.ChangeShapes Go.WideShapes Go.ChangeAt Go.Deep Go.Joins
theorem gDeb:Tryz.prog.globalNamed "math/bits.deBruijn64tab" =some 0:=by kernel_rfl
def YC {H:Type}:DataW H:=Lib.tabData .u8 (Lib.deBruijn64tab.map λ(n:Nat)=>(n:Int))
theorem deb_of_reads {w:World} (h:Lib.VarReads Tryz.prog w "math/bits.deBruijn64tab" YC):Deb w:=by obtain ⟨g,t,cs,fuel,p,hg,ht,hv,hd⟩:=h;obtain rfl:=ZS (gDeb.symm.trans hg);obtain rfl:=ZS ((show (Tryz.prog.globals[0]?).map (·.type)=some 244 by kernel_rfl).symm.trans ht);have hcs:=Lib.cells_of_tab Tryz.underlying244 Tryz.underlying5 (by kernel_rfl) (by kernel_rfl) hd;intro j hj;rw [World.var?_cell hg hv j,<-Array.getElem?_toList,hcs];rw [List.map_map,z0Q,zL hj,JL,zL hj];rfl
theorem JQ (b o n:Nat):(⟨b,o,none⟩:Addr).add n=⟨b,o+n,none⟩:=by unfold Addr.add;split<;>simp_all
theorem list2Q' {α:Type} {l:List α} (h:l.length=2):∃a b,l=[a,b]:=by
 match l,h with
 | [a,b],_=>exact ⟨a,b,rfl⟩
theorem c_intQ:Tryz.prog.cellsOf 3=1:=by kernel_rfl
theorem a0B:Tryz.prog.cellsOf 5=1:=by kernel_rfl
theorem c_bytes:Tryz.prog.cellsOf 22=1:=by kernel_rfl
theorem c_run:Tryz.prog.cellsOf 62=2:=by kernel_rfl
variable {H:Type} {enc:TypeId × Value->H} {W:World}
theorem DC {α:Type} {f:α->Value} {h1:∀x,∀u∈[f x],u.oneCell'=true} {Q:α->Prop} {t e:TypeId} {fuel:Nat} {cs:List Value} {y:DataW H × List MemPlace} (ht:Tryz.prog.underlying t=some (.slice e)) (hc:Tryz.prog.cellsOf e=1)
  (hel:∀(n:Nat) (v:Value) (y:DataW H × List MemPlace),DataW.trod enc Tryz.prog W 0 (λ_=>true) true n e [v]=some y->∃x,v=f x/\Q x) (h:DataW.trod enc Tryz.prog W 0 (λ_=>true) true fuel t cs=some y):
  ∃v l,cs=[v]/\SlR (Rep.flat 1 (λx=>[f x]) (λ_=>rfl) h1) W (λ_=>True) v l/\∀x∈l,Q x:=by
 rcases open_slice1 ht hc h with ⟨rfl,_⟩|⟨a,len,cap,m,n,V,D,Pl,rfl,_,hl,hm,hmm,_,hi⟩
 ·exact ⟨_,[],rfl,SlR.nil _ _ _,by simp⟩
 ·have key:∀i,i<len->∃x:α,W.cell? (a.add i)=some (f x)/\Q x:=λi hil=>by exact tX61
  by_cases h0:0<len
  ·obtain ⟨x0,_⟩:=key 0 h0;have key2:∀i,∃x:α,i<len->W.cell? (a.add i)=some (f x)/\Q x:=λi=>(by exact tX69);have hg:=λi=>(key2 i).choose_spec;generalize hF:(λi=>(key2 i).choose)=F at hg;have hF':∀i,(key2 i).choose=F i:=λi=>congrFun hF i;simp only [hF'] at hg;have hat:∀i x,((List.range len).map F)[i]?=some x->i<len/\F i=x:=λi x hx=>(by exact tX3b);refine ⟨_,(List.range len).map F,rfl,⟨some a,cap,by simp,by simpa using hl,hm,λi x hx=>?_⟩,λx hx=>?_⟩
   ·obtain ⟨hil,rfl⟩:=hat i x hx;have hcell:=(hg i hil).1;obtain ⟨b,o,spot⟩:=a;have hspot:spot=none:=(by have:=(hg 0 h0).1;simpa [Addr.add] using World.cell?_spot this);subst hspot;rw [JQ] at hcell;exact tX47
   ·obtain ⟨i,hi',rfl⟩:=z2A.1 hx;exact (hg i (by simpa using hi')).2
  ·obtain rfl:len=0:=(by omega);exact tX7b
theorem FI {fuel:Nat} {v:Value} {y:DataW H × List MemPlace} (h:DataW.trod enc Tryz.prog W 0 (λ_=>true) true fuel 22 [v]=some y):∃l,SlR aI W (λ_=>True) v l:=by
 obtain ⟨v',l,e,hs,_⟩:=DC (α:=UInt8) (f:=λn=>.int .u8 n.toNat) (h1:=λx u hu=>by simp at hu;subst hu;rfl) (Q:=λ_=>True) Tryz.underlying22 a0B (λn v y ht=>by
  obtain ⟨k,q,_,wf⟩:=DataW.trod_int Tryz.underlying5 ht;obtain rfl:=z0V q |>.1;have hb:=bounds_u8 wf;refine ⟨UInt8.ofNat k.toNat,?_,trivial⟩;have e:((UInt8.ofNat k.toNat).toNat:Int)=k:=by rw [UInt8.toNat_ofNat'];omega
  rw [e]) h
 obtain rfl:=z0V e |>.1;exact ⟨l,hs⟩
def JE (x:Int × List UInt8):Prop:=-9223372036854775808<=x.1/\x.1<=9223372036854775807
theorem XK {b0:Nat} {v:Value} {d:DataW H} {p:List MemPlace} (hv:Value.okWide Tryz.prog W .any b0 37 v) (h:DataW.Trod enc Tryz.prog W 0 (λ_=>true) true 37 v d p):
  ∃l,SlR CC W (λ_=>True) v l/\∀x∈l,JE x:=by
 have hcl:v.cells.toList=[v]:=by obtain ⟨a,n,c,rfl⟩:=okWide_slice Tryz.underlying37 hv;rfl
 obtain ⟨fuel,hf⟩:=h;rw [hcl] at hf;rcases open_slice Tryz.underlying37 hf with ⟨hv,_⟩|⟨a,len,cap,m,n,D,Pl,hv,_,hl,hm,hmm,_,hi⟩
 ·obtain rfl:=z0V hv |>.1;exact ⟨[],SlR.nil _ _ _,by simp⟩
 ·obtain rfl:=z0V hv |>.1;have key:∀i,i<len->∃x:Int × List UInt8,(∃va,W.cell? (a.add (i*2))=some (.int .i64 x.1)/\W.cell? (a.add (i*2+1))=some va/\SlR aI W (λ_=>True) va x.2)/\JE x:=λi hil=>by obtain ⟨cs,hc,ht⟩:=hi i (by rw [hmm,if_pos rfl];omega);rw [c_run] at hc;obtain ⟨_,hlen,hat⟩:=World.cells?_some hc;obtain ⟨y0,y1,n',_,_,h0,h1⟩:=trod_struct2 Tryz.underlying62 ht;obtain ⟨c0,c1,rfl⟩:=list2Q' hlen;have e0:=hat 0 (by omega);have e1:=hat 1 (by omega);rw [add_add] at e0 e1;dsimp only at h0 h1;rw [c_intQ] at h0;rw [c_bytes] at h1;obtain ⟨s,q0,_,hs⟩:=DataW.trod_int Tryz.underlying3 (fuel:=n') (cs:=[c0]) h0;obtain rfl:=z0V q0 |>.1;obtain ⟨l,hl⟩:=FI (fuel:=n') (v:=c1) h1;exact ⟨⟨s,l⟩,⟨c1,e0,e1,hl⟩,(bounds_i64 hs).1,(bounds_i64 hs).2⟩
  obtain ⟨f,hf⟩:=choose_lt key;have hg:∀i x,((List.range len).map f)[i]?=some x->i<len/\f i=x:=λi x hx=>by exact tX3b
  refine ⟨(List.range len).map f,⟨some a,cap,by simp,by simpa using hl,hm,λi x hx=>?_⟩,λx hx=>?_⟩
  ·obtain ⟨hil,rfl⟩:=hg i x hx;obtain ⟨⟨va,h0,h1,h2⟩,_⟩:=hf i hil;obtain ⟨b,o,spot⟩:=a;have hspot:spot=none:=(by obtain ⟨⟨_,h00,_⟩,_⟩:=hf 0 (by omega);simpa [Addr.add] using World.cell?_spot h00);subst hspot;rw [JQ] at h0 h1;refine ⟨b,o,[.int .i64 (f i).1,va],rfl,trivial,QI W _ h0,λj u hu=>?_,[.int .i64 (f i).1],[va],rfl,rfl,va,rfl,h2⟩;show W.cell? ⟨b,o+i*2+j,none⟩=_;rw [z2B]
   match j,hu with
   | 0,hu=>simp at hu;subst hu;exact h0
   | 1,hu=>simp at hu;subst hu;exact h1
  ·obtain ⟨i,hi,rfl⟩:=z2A.1 hx;exact (hf i (by simpa using hi)).2
end Go.Proofs.YtpigbggoiipmhaaGreatDoor
namespace Go.Proofs.YtpigbggoiipmhaaGreatDoor
set_option maxHeartbeats 4000000
set_option maxRecDepth 100000
open Go.RowKit Go.Shelf Go.Sort
def ofK (l:List Opd) (k:Int):Option Opd:=l.find? λo=>o.kind==k
def OfV (r:Option Opd):Value:=.tuple #[.agg #[.int .i64 (r.getD ⟨0,0,0⟩).kind,.int .i64 (r.getD ⟨0,0,0⟩).reg,.int .i64 (r.getD ⟨0,0,0⟩).n],.bool r.isSome]
def oJl (x:Ins):Ins:=if tI x=true then aE x else ⟨⟨#[]⟩,[]⟩
theorem oLj {w:World} {b:Nat} {v:Value} {q:aB} {x:Ins} {t:TypeId} (hB:Blk w b t #[.string x.op,v]) (h:SlR aM w q v x.args):SlR rP w (λ_=>True) (.slice (some ⟨b,0,none⟩) 1 1) [x]:=by
  refine ⟨_,1,rfl,zI _,by decide,λi y hy=>?_⟩
  match i,hy with
  | 0,hy=>
    obtain rfl:=ZS hy;refine ⟨b,0,[.string x.op,v],rfl,trivial,hB.lt,λj u hu=>?_,v,rfl,h.mono λ_ _=>trivial⟩
    match j,hu with
    | 0,hu=>obtain rfl:=ZS hu;exact hB.cell 0
    | 1,hu=>obtain rfl:=ZS hu;exact hB.cell 1
  | i+1,hy=>cases hy
theorem oPd (k:Int) (b:Nat) (o:Opd) (w:World) (h:w.cell? ⟨b,0,none⟩=some (.int .i64 k)):
    Calls Tryz.prog 136 #[.agg #[.int .i64 o.kind,.int .i64 o.reg,.int .i64 o.n],.pointer (some ⟨b,0,none⟩)] w λe w'=>e=.returned (.bool (o.kind==k))/\Below w.heap.size w w':=by
  obtain ⟨o1,o2,o3⟩:=o;dsimp only;have HF:=aA ((Fr.start w).new 52 #[.int .i64 o1,.int .i64 o2,.int .i64 o3]);have hc:=(HF.out.below.cell (p:=⟨b,0,none⟩) (QI _ _ h)).trans h;obtain ⟨W,hW⟩:∃W:World,W=w.alloc (.cells #[.int .i64 o1,.int .i64 o2,.int .i64 o3] 52):=⟨_,rfl⟩;rw [<-hW] at HF hc;go_enter Tryz.func136,Tryz.ntmps136;go_upto_region 1 with fail;rw [<-hW];clear hW h;obtain ⟨c0,c1,c2⟩:=(HF.out.blk 0 rfl).three;go_wp2;go_ret;exact ⟨rfl,HF.out.below⟩
def IdxQ (r:Option Opd) (l:List Opd) (e:Ending):Prop:=match r with|some o=>∃j:Nat,e=.returned (.int .i64 j)/\l[j]?=some o|none=>e=.returned (.int .i64 (-1))
theorem oNd (k:Int) (b:Nat) (p:aB) (v:Value) (l:List Opd) (w:World) (h:SlR aM w p v l) (hk:w.cell? ⟨b,0,none⟩=some (.int .i64 k)):
    Calls Tryz.prog 135 #[v,.func (.func 136) #[] #[.pointer (some ⟨b,0,none⟩)]] w λe w'=>IdxQ (ofK l k) l e/\Below w.heap.size w w':=by
  have HC:=aA (λo W (hb:RowKit.Below w.heap.size w W)=>oPd k b o W ((hb.cell (p:=⟨b,0,none⟩) (QI _ _ hk)).trans hk));have HS:=aA h;obtain ⟨a,c,rfl,hl1,hl2,_⟩:=h.opd;have hl:(l.length:Int)<=9223372036854775807:=by omega
  clear h hk hl1 hl2;go_enter Tryz.func135,Tryz.ntmps135;go_wp2;go_loopw [5,8] (λ_ i wr=>∃j:Nat,j<=l.length/\i=.int .i64 j/\ofK l k=ofK (l.drop j) k/\Below w.heap.size w wr) (λ_ i _=>l.length-(intOf i).toNat);case atStart=>exact ⟨0,YD _,rfl,rfl,zY _ _⟩
  case round=>
    obtain ⟨j,hj,rfl,ht,hb⟩:=hrel;have HT:=aA ht;have HB:=aA hb;clear ht hb;by_cases hlt:j<l.length
    · obtain ⟨a2,c2,e2,_,_,hg⟩:=(HS.out.below HB.out).opd;injection e2 with e2 e3 e4;clear e3;subst e2 e4;obtain ⟨b1,o1,rfl,_,d0,d1,d2⟩:=hg j l[j] (zL hlt);have HD:Hid (ofK (l.drop j) k=if (l[j].kind==k)=true then some l[j] else ofK (l.drop (j+1)) k):=aA (by rw [ZX hlt];unfold ofK;rw [List.find?_cons];cases (l[j].kind==k)<;>rfl);have HG:=aA (zL hlt);have HV:=aA (HC.out l[j] _ HB.out);clear hg;generalize l[j]=x at *;obtain ⟨x1,x2,x3⟩:=x;dsimp only at *;cases hvx:(x1==k);all_goals rw [hvx] at HV HD;clear hvx
      · go_wp2_with (go_at_call 136;refine HV.out.mono ?_;rintro e w2 ⟨rfl,hb⟩;have HB2:=aA (HB.out.trans (hb.mono HB.out.size));clear hb);go_roundw;case rel=>exact ⟨j+1,by omega,by go_num,by rw [HT.out,HD.out];rfl,HB2.out⟩
        case measure=>simp [intOf];omega
      · go_wp2_with (go_at_call 136;refine HV.out.mono ?_;rintro e w2 ⟨rfl,hb⟩;have HB2:=aA (HB.out.trans (hb.mono HB.out.size));clear hb);go_ret;rw [HT.out,HD.out,if_pos (by trivial)];exact ⟨(by unfold IdxQ;exact ⟨j,rfl,HG.out⟩),HB2.out⟩
    · go_wp2;go_ret;rw [HT.out,VA (by omega)];exact ⟨(by unfold IdxQ;rfl),HB.out⟩
theorem oLd (x:Ins) (k:Int) (p:aB) (v:Value) (w:World) (h:SlR aM w p v x.args):
    Calls Tryz.prog 83 #[.agg #[.string x.op,v],.int .i64 k] w λe w'=>e=.returned (OfV (ofK x.args k))/\Below w.heap.size w w':=by
  obtain ⟨op,l⟩:=x;dsimp only at *;obtain ⟨a,c,rfl⟩:∃a c,v=.slice a l.length c:=by obtain ⟨a,c,e,_⟩:=h;exact ⟨a,c,e⟩
  have hlm:(l.length:Int)<=9223372036854775807:=by obtain ⟨_,_,e,h1,h2,_⟩:=h.opd;injection e with _ e2 e3;omega
  have HF0:=aA ((((Fr.start w).new 30 #[.string op,.slice a l.length c]).new' 3 #[.int .i64 k] (zW _ _)).new' 52 #[.int .i64 0,.int .i64 0,.int .i64 0] (b:=w.heap.size+1+1) (by rw [zW,zW]));have HS:=aA (λW (hb:RowKit.Below w.heap.size w W)=>h.below hb);have hmf:∀(fn:Fn) (first cap:Array Value) (w:World),(Instr.makeFunc fn first cap).run Tryz.prog w=.ok (.func fn first cap) w:=λ_ _ _ _=>rfl;clear h;obtain ⟨W0,hW0⟩:∃W:World,W=((w.alloc (.cells #[.string op,.slice a l.length c] 30)).alloc (.cells #[.int .i64 k] 3)).alloc (.cells #[.int .i64 0,.int .i64 0,.int .i64 0] 52):=⟨_,rfl⟩;rw [<-hW0] at HF0;have HI:=aA (oNd k (w.heap.size+1) p _ l W0 (HS.out _ HF0.out.below) (HF0.out.blk 1 rfl).one.1);go_enter Tryz.func83,Tryz.ntmps83;go_upto_region 1 with fail;rw [<-hW0];clear hW0;obtain ⟨e0,e1⟩:=(HF0.out.blk 2 rfl).pair;cases ho:ofK l k with
  | none=>rw [ho] at HI;have HK9:=aA ho;clear ho;go_upto_region 3 with (go_at_call 135;refine HI.out.mono ?_;rintro e w1 ⟨rfl,hb⟩;have HF1:=aA (HF0.out.next hb);clear hb);obtain ⟨q0,q1,q2,y0,y1,y2⟩:=(HF1.out.blk 0 rfl).three;have HF2:=aA (HF1.out.set3 (by omega) (λy hy=>by simp at hy;rcases hy with rfl|rfl<;>(show _≠_;dsimp only;omega)) (.int .i64 0) (.int .i64 0) (.int .i64 0));go_wp2;exact yR (aH rfl _ _ (w.heap.size+1+1) 52 #[.int .i64 0,.int .i64 0,.int .i64 0] (0,0) _ rfl (HF2.out.blk 0 rfl) Tryz.underlying52 rfl (by kernel_rfl)) rfl ⟨by rw [HK9.out];rfl,HF2.out.below⟩
  | some o=>rw [ho] at HI;have HK9:=aA ho;clear ho;obtain ⟨o1,o2,o3⟩:=o;go_upto_region 2 with (go_at_call 135;refine HI.out.mono ?_;rintro e w1 ⟨⟨j,rfl,hj⟩,hb⟩;have HF1:=aA (HF0.out.next hb);clear hb);obtain ⟨e0,e1⟩:=(HF1.out.blk 2 rfl).pair;obtain ⟨a2,c2,e2,_,_,hg⟩:=(HS.out _ HF1.out.below).opd;injection e2 with e2 e3 e4;clear e3;subst e2 e4;obtain ⟨b1,q1,rfl,_,d0,d1,d2⟩:=hg j _ hj;have hjl:j<l.length:=(ZV.1 hj).1;clear hg hj;dsimp only at d0 d1 d2;obtain ⟨q0,q1,q2,y0,y1,y2⟩:=(HF1.out.blk 0 rfl).three;have HF2:=aA (HF1.out.set3 (by omega) (λy hy=>by simp at hy;rcases hy with rfl|rfl<;>(show _≠_;dsimp only;omega)) (.int .i64 o1) (.int .i64 o2) (.int .i64 o3));go_wp2;exact yR (aH rfl _ _ (w.heap.size+1+1) 52 #[.int .i64 o1,.int .i64 o2,.int .i64 o3] (0,0) _ rfl (HF2.out.blk 0 rfl) Tryz.underlying52 rfl (by kernel_rfl)) rfl ⟨by rw [HK9.out];rfl,HF2.out.below⟩
theorem oJw (x:Ins) (m:CV x) (p:aB) (v:Value) (w:World) (h:SlR aM w p v x.args) (hT:Spc w):
    Calls Tryz.prog 82 #[.agg #[.string x.op,v]] w λe w'=>(∃a c,e=.returned (.agg #[.string (oJl x).op,.slice a (oJl x).args.length c])/\SlR aM w' (λ_=>True) (.slice a (oJl x).args.length c) (oJl x).args)/\Below w.heap.size w w':=by
  have HL:=aA (λq v W h (hb:RowKit.Below w.heap.size w W)=>Legal_any q v [x] W h (hT.below hb) (λy hy=>by rw [XJ.1 hy];exact m));have HO:=aA (λW (hb:RowKit.Below w.heap.size w W)=>EB p x v W (h.below hb) (hT.below hb) (by have:=m.n;omega) m.f);have hls:[x].all tI=tI x:=by simp
  rw [hls] at HL;have HG:Hid (oJl x=if tI x=true then aE x else ⟨⟨#[]⟩,[]⟩):=aA rfl;obtain ⟨a,c,rfl⟩:∃a c,v=.slice a x.args.length c:=by obtain ⟨a,c,e,_⟩:=h;exact ⟨a,c,e⟩
  have HF0:=aA (((Fr.start w).new 30 #[.string x.op,.slice a x.args.length c]).new' 30 #[.string ⟨#[]⟩,.slice none 0 0] (zW _ _));have HS:=aA (λW (hb:RowKit.Below w.heap.size w W)=>h.below hb);rw [show aE x=⟨x.op,(aE x).args⟩ from rfl] at HG;generalize (aE x).args=C at *;generalize tI x=B at *;generalize oJl x=G at *;obtain ⟨W0,hW0⟩:∃W:World,W=(w.alloc (.cells #[.string x.op,.slice a x.args.length c] 30)).alloc (.cells #[.string ⟨#[]⟩,.slice none 0 0] 30):=⟨_,rfl⟩;rw [<-hW0] at HF0;clear h hT m hls;go_enter Tryz.func82,Tryz.ntmps82;go_upto_region 1 with fail;rw [<-hW0];clear hW0;obtain ⟨e0,e1⟩:=(HF0.out.blk 1 rfl).pair;cases B
  · obtain rfl:=HG.out;go_wp2_with (go_at_call 53;refine (HL.out _ _ _ (oLj (Blk.new W0 30 _) ((HS.out _ HF0.out.below).alloc _)) (HF0.out.alloc _).below).mono ?_;rintro e w1 ⟨rfl,hb⟩;have HF1:=aA ((HF0.out.alloc (.cells #[.string x.op,.slice a x.args.length c] 30)).next hb);obtain ⟨q0,q1,y0,y1⟩:=(HF1.out.blk 0 rfl).two;clear hb);have HF2:=aA ((HF1.out.set (by omega) (λy hy=>by simp at hy;rcases hy with rfl;(show _≠_;dsimp only;omega)) 0 (.string ⟨#[]⟩)).set (by omega) (λy hy=>by simp at hy;rcases hy with rfl;(show _≠_;dsimp only;omega)) 1 (.slice none 0 0));exact yR (mM rfl rfl (HF2.out.blk 0 rfl)) rfl ⟨⟨none,0,rfl,SlR.nil _ _ _⟩,HF2.out.below⟩
  · obtain rfl:=HG.out
    go_wp2_with (first
      | (go_at_call 53;refine (HL.out _ _ _ (oLj (Blk.new W0 30 _) ((HS.out _ HF0.out.below).alloc _)) (HF0.out.alloc _).below).mono ?_;rintro e w1 ⟨rfl,hb⟩;have HF1:=aA ((HF0.out.alloc (.cells #[.string x.op,.slice a x.args.length c] 30)).next hb);clear hb e0 e1;obtain ⟨e0,e1⟩:=(HF1.out.blk 1 rfl).pair)
      | (go_at_call 54;(with_reducible refine (HO.out _ HF1.out.below).mono ?_);rintro e w2 ⟨v2,rfl,ho,hb⟩;have h2:=ho.slR.mono (q:=λ_=>True) (λ_ _=>trivial);obtain ⟨va,vc,rfl⟩:=ho.form;have HO2:=aA ho;have HF2:=aA (HF1.out.next hb);obtain ⟨q0,q1,y0,y1⟩:=(HF2.out.blk 0 rfl).two;clear hb ho h2))
    have HF3:=aA ((HF2.out.set (by omega) (λy hy=>by simp at hy;rcases hy with rfl;(show _≠_;dsimp only;omega)) 0 (.string x.op)).set (by omega) (λy hy=>by simp at hy;rcases hy with rfl;(show _≠_;dsimp only;omega)) 1 (.slice va C.length vc));have hlt:w.heap.size+1<w1.heap.size:=(HF1.out.blk 0 rfl).lt;exact yR (mM rfl rfl (HF3.out.blk 0 rfl)) rfl ⟨⟨va,vc,rfl,(((HO2.out.far (p:=⟨w.heap.size+1,0,none⟩) (λk hk=>by dsimp only;omega) _).far (p:=⟨w.heap.size+1,1,none⟩) (λk hk=>by dsimp only;omega) _).slR.mono (λ_ _=>trivial))⟩,HF3.out.below⟩
set_option maxHeartbeats 8000000
def oNk (s:List UInt8) (ind:Bool):Int:=
  if (s==[74,80])=true then (if ind=true then 4 else 1)
  else if ((s==[74,82]) || (s==[68,74,78,90]))=true then 1
  else if ((s==[67,65,76,76]) || (s==[82,83,84]))=true then 2
  else if ((s==[82,69,84]) || ((s==[82,69,84,73]) || (s==[82,69,84,78])))=true then 3
  else if (s==[72,65,76,84])=true then 4 else 0
def oPe (s:ByteArray) (ind:Bool):Int:=oNk s.toList ind
def oJf (x:Ins):Int:=oPe (oJl x).op (ofK (oJl x).args 4).isSome
def oMr (x:Ins):Bool:=(ofK (oJl x).args 8).isSome || ((oJl x).op.toList==[68,74,78,90])
theorem oJu (x:Ins) (m:CV x) (p:aB) (v:Value) (w:World) (h:SlR aM w p v x.args) (hT:Spc w):
    Calls Tryz.prog 34 #[.agg #[.string x.op,v]] w λe w'=>e=.returned (.int .i64 (oJf x))/\Below w.heap.size w w':=by
  have HL:=aA (λW (hb:RowKit.Below w.heap.size w W)=>oJw x m p v W (h.below hb) (hT.below hb));have HO:=aA (λq v W h=>oLd (oJl x) 4 q v W h);have HG:Hid (oJf x=oPe (oJl x).op (ofK (oJl x).args 4).isSome):=aA rfl;obtain ⟨a,c,rfl⟩:∃a c,v=.slice a x.args.length c:=by obtain ⟨a,c,e,_⟩:=h;exact ⟨a,c,e⟩
  have HF0:=aA ((Fr.start w).new 30 #[.string x.op,.slice a x.args.length c]);unfold OfV at HO;generalize oJf x=K at *;generalize ofK (oJl x).args 4=r at *;generalize r.getD ⟨0,0,0⟩=z at *;generalize r.isSome=B at *;generalize oJl x=G at *;obtain ⟨s,l⟩:=G;obtain ⟨z1,z2,z3⟩:=z;dsimp only at *;obtain ⟨W0,hW0⟩:∃W:World,W=w.alloc (.cells #[.string x.op,.slice a x.args.length c] 30):=⟨_,rfl⟩;rw [<-hW0] at HF0;clear h hT m;go_enter Tryz.func34,Tryz.ntmps34;go_upto_region 1 with fail;rw [<-hW0];clear hW0;obtain ⟨e0,e1⟩:=(HF0.out.blk 0 rfl).pair;go_upto_region 2 with (go_at_call 82;(with_reducible refine (HL.out _ HF0.out.below).mono ?_);rintro e w1 ⟨⟨va,vc,rfl,h1⟩,hb⟩;have HS:=aA (h1.alloc (.cells #[.string s,.slice va l.length vc] 30));have HF1:=aA ((HF0.out.next hb).new' 30 #[.string s,.slice va l.length vc] (b:=w1.heap.size) rfl);clear hb h1 e0 e1);obtain ⟨W1,hW1⟩:∃W:World,W=w1.alloc (.cells #[.string s,.slice va l.length vc] 30):=⟨_,rfl⟩;rw [<-hW1] at HF1 HS ⊢;clear hW1;generalize w1.heap.size=g1 at *;obtain ⟨e0,e1⟩:=(HF1.out.blk 0 rfl).pair;go_upto_region 3 with (go_at_call 83;(with_reducible refine (HO.out _ _ _ HS.out).mono ?_);rintro e w2 ⟨rfl,hb⟩;have HF2:=aA ((HF1.out.next hb).alloc (.cells #[.int .i64 z1,.int .i64 z2,.int .i64 z3] 52));clear hb e0 e1);obtain ⟨W2,hW2⟩:∃W:World,W=w2.alloc (.cells #[.int .i64 z1,.int .i64 z2,.int .i64 z3] 52):=⟨_,rfl⟩;rw [<-hW2] at HF2 ⊢;clear hW2;obtain ⟨e0,e1⟩:=(HF2.out.blk 0 rfl).pair;clear HL HO HF0 HF1 HS;unfold oPe oNk at HG;cases h1:(s.toList==[74,80])
  · cases h2:(s.toList==[74,82])
    · cases h3:(s.toList==[68,74,78,90])
      · cases h4:(s.toList==[67,65,76,76])
        · cases h5:(s.toList==[82,83,84])
          · cases h6:(s.toList==[82,69,84])
            · cases h7:(s.toList==[82,69,84,73])
              · cases h8:(s.toList==[82,69,84,78])
                · cases h9:(s.toList==[72,65,76,84])
                  · have hK:K=0:=(by have:=HG.out;rw [h1,h2,h3,h4,h5,h6,h7,h8,h9] at this;exact this);subst hK;go_wp2;go_ret;exact ⟨rfl,HF2.out.below⟩
                  · have hK:K=4:=(by have:=HG.out;rw [h1,h2,h3,h4,h5,h6,h7,h8,h9] at this;exact this);subst hK;go_wp2;go_ret;exact ⟨rfl,HF2.out.below⟩
                · have hK:K=3:=(by have:=HG.out;rw [h1,h2,h3,h4,h5,h6,h7,h8] at this;exact this);subst hK;go_wp2;go_ret;exact ⟨rfl,HF2.out.below⟩
              · have hK:K=3:=(by have:=HG.out;rw [h1,h2,h3,h4,h5,h6,h7] at this;exact this);subst hK;go_wp2;go_ret;exact ⟨rfl,HF2.out.below⟩
            · have hK:K=3:=(by have:=HG.out;rw [h1,h2,h3,h4,h5,h6] at this;exact this);subst hK;go_wp2;go_ret;exact ⟨rfl,HF2.out.below⟩
          · have hK:K=2:=(by have:=HG.out;rw [h1,h2,h3,h4,h5] at this;exact this);subst hK;go_wp2;go_ret;exact ⟨rfl,HF2.out.below⟩
        · have hK:K=2:=(by have:=HG.out;rw [h1,h2,h3,h4] at this;exact this);subst hK;go_wp2;go_ret;exact ⟨rfl,HF2.out.below⟩
      · have hK:K=1:=(by have:=HG.out;rw [h1,h2,h3] at this;exact this);subst hK;go_wp2;go_ret;exact ⟨rfl,HF2.out.below⟩
    · have hK:K=1:=(by have:=HG.out;rw [h1,h2] at this;exact this);subst hK;go_wp2;go_ret;exact ⟨rfl,HF2.out.below⟩
  · cases B
    · have hK:K=1:=(by have:=HG.out;rw [h1] at this;exact this);subst hK;go_wp2;go_ret;exact ⟨rfl,HF2.out.below⟩
    · have hK:K=4:=(by have:=HG.out;rw [h1] at this;exact this);subst hK;go_wp2;go_ret;exact ⟨rfl,HF2.out.below⟩
theorem oLa (x:Ins) (m:CV x) (p:aB) (v:Value) (w:World) (h:SlR aM w p v x.args) (hT:Spc w):
    Calls Tryz.prog 35 #[.agg #[.string x.op,v]] w λe w'=>e=.returned (.bool (oMr x))/\Below w.heap.size w w':=by
  have HL:=aA (λW (hb:RowKit.Below w.heap.size w W)=>oJw x m p v W (h.below hb) (hT.below hb));have HO:=aA (λq v W h=>oLd (oJl x) 8 q v W h);have HG:Hid (oMr x=((ofK (oJl x).args 8).isSome || ((oJl x).op.toList==[68,74,78,90]))):=aA rfl;obtain ⟨a,c,rfl⟩:∃a c,v=.slice a x.args.length c:=by obtain ⟨a,c,e,_⟩:=h;exact ⟨a,c,e⟩
  have HF0:=aA ((Fr.start w).new 30 #[.string x.op,.slice a x.args.length c]);unfold OfV at HO;generalize oMr x=K at *;generalize ofK (oJl x).args 8=r at *;generalize r.getD ⟨0,0,0⟩=z at *;generalize r.isSome=B at *;generalize oJl x=G at *;obtain ⟨s,l⟩:=G;obtain ⟨z1,z2,z3⟩:=z;dsimp only at *;obtain ⟨W0,hW0⟩:∃W:World,W=w.alloc (.cells #[.string x.op,.slice a x.args.length c] 30):=⟨_,rfl⟩;rw [<-hW0] at HF0;clear h hT m;go_enter Tryz.func35,Tryz.ntmps35;go_upto_region 1 with fail;rw [<-hW0];clear hW0;obtain ⟨e0,e1⟩:=(HF0.out.blk 0 rfl).pair;go_upto_region 2 with (go_at_call 82;(with_reducible refine (HL.out _ HF0.out.below).mono ?_);rintro e w1 ⟨⟨va,vc,rfl,h1⟩,hb⟩;have HS:=aA (h1.alloc (.cells #[.string s,.slice va l.length vc] 30));have HF1:=aA ((HF0.out.next hb).new' 30 #[.string s,.slice va l.length vc] (b:=w1.heap.size) rfl);clear hb h1 e0 e1);obtain ⟨W1,hW1⟩:∃W:World,W=w1.alloc (.cells #[.string s,.slice va l.length vc] 30):=⟨_,rfl⟩;rw [<-hW1] at HF1 HS ⊢;clear hW1;generalize w1.heap.size=g1 at *;obtain ⟨e0,e1⟩:=(HF1.out.blk 0 rfl).pair;go_upto_region 3 with (go_at_call 83;(with_reducible refine (HO.out _ _ _ HS.out).mono ?_);rintro e w2 ⟨rfl,hb⟩;have HF2:=aA ((HF1.out.next hb).alloc (.cells #[.int .i64 z1,.int .i64 z2,.int .i64 z3] 52));clear hb e0 e1);obtain ⟨W2,hW2⟩:∃W:World,W=w2.alloc (.cells #[.int .i64 z1,.int .i64 z2,.int .i64 z3] 52):=⟨_,rfl⟩;rw [<-hW2] at HF2 ⊢;clear hW2;obtain ⟨e0,e1⟩:=(HF2.out.blk 0 rfl).pair;clear HL HO HF0 HF1 HS;cases B
  · cases h3:(s.toList==[68,74,78,90]);all_goals
      have hK:=HG.out;rw [h3] at hK;try dsimp only [Bool.or_self,Bool.false_or] at hK
      subst hK;go_wp2;go_ret;exact ⟨rfl,HF2.out.below⟩
  · have hK:=HG.out;rw [Bool.true_or] at hK;subst hK;go_wp2;go_ret;exact ⟨rfl,HF2.out.below⟩
theorem oMu (m:Int):bits .and .i64 m 65535=m%65536:=by
  have h16:(BitVec.ofInt 64 65535).toNat=2^16-1:=by decide
  have key:(BitVec.ofInt 64 m&&& BitVec.ofInt 64 65535).toNat=(m%((2^64:Nat):Int)).toNat%2^16:=by rw [BitVec.toNat_and,BitVec.toNat_ofInt,h16,Nat.and_two_pow_sub_one_eq_mod]
  show IntKind.i64.wrap ((BitVec.ofInt 64 m&&& BitVec.ofInt 64 65535).toNat:Nat)=m%65536;rw [key,IntKind.wrap_i64];omega
def oPm (addr:Int) (l:List Opd):Int × Bool:=match ofK l 10 with
  | some o=>((addr+2+o.n)%65536,true)
  | none=>(((ofK l 6).getD ⟨0,0,0⟩).n,(ofK l 6).isSome)
def oMa (addr:Int) (x:Ins):Int × Bool:=if bG 0 65535 addr=true/\(oJf x=1\/oJf x=2) then oPm addr (oJl x).args else (0,false)
theorem oKh (lo hi n:Int):bG lo hi n=true↔lo<=n/\n<=hi:=by unfold bG;simp
theorem oKb {l:List Opd} {k:Int} {o:Opd} (h:ofK l k=some o):o∈l:=List.mem_of_find?_eq_some h
theorem oKe (addr:Int) (x:Ins) (m:CV x) (hn:∀o∈(oJl x).args,-70000<=o.n/\o.n<=70000) (p:aB) (v:Value) (w:World) (h:SlR aM w p v x.args) (hT:Spc w):
    Calls Tryz.prog 48 #[.int .i64 addr,.agg #[.string x.op,v]] w λe w'=>e=.returned (.tuple #[.int .i64 (oMa addr x).1,.bool (oMa addr x).2])/\Below w.heap.size w w':=by
  have HL:=aA (λW (hb:RowKit.Below w.heap.size w W)=>oJw x m p v W (h.below hb) (hT.below hb));have HKI:=aA (λW (hb:RowKit.Below w.heap.size w W)=>oJu x m p v W (h.below hb) (hT.below hb));have HO:=aA (λk q v W h=>oLd (oJl x) k q v W h);have HFI:=aA (λb W h=>sV 0 65535 addr b W h);have HG:Hid (oMa addr x=if bG 0 65535 addr=true/\(oJf x=1\/oJf x=2) then oPm addr (oJl x).args else (0,false)):=aA rfl;have HFB:=aA (oKh 0 65535 addr);have HN:=aA hn;obtain ⟨a,c,rfl⟩:∃a c,v=.slice a x.args.length c:=by obtain ⟨a,c,e,_⟩:=h;exact ⟨a,c,e⟩
  have HF0:=aA ((Fr.start w).new 30 #[.string x.op,.slice a x.args.length c]);unfold OfV at HO;generalize oMa addr x=K at *;generalize oJf x=kd at *;generalize oJl x=G at *;obtain ⟨s,l⟩:=G;obtain ⟨K1,K2⟩:=K;dsimp only at *;obtain ⟨W0,hW0⟩:∃W:World,W=w.alloc (.cells #[.string x.op,.slice a x.args.length c] 30):=⟨_,rfl⟩;rw [<-hW0] at HF0;clear h hT m hn;by_cases hc:bG 0 65535 addr=true/\(kd=1\/kd=2)
  · have hG:=HG.out;rw [if_pos hc] at hG;have hf:=HFB.out.1 hc.1;have HKD:=aA hc.2;rw [hc.1] at HFI;clear HG HFB;go_enter Tryz.func48,Tryz.ntmps48;go_upto_region 1 with fail;rw [<-hW0];clear hW0;obtain ⟨e0,e1⟩:=(HF0.out.blk 0 rfl).pair;rcases HKD.out with hk|hk;all_goals
      subst hk
      go_upto_region 4 with (first
        | (go_at_call 34;(with_reducible refine (HKI.out _ HF0.out.below).mono ?_);rintro e w1 ⟨rfl,hb⟩;have HF1:=aA (HF0.out.next hb);clear hb)
        | (go_at_call 59;refine (HFI.out _ _ (Blk.cell (Blk.new w1 _ _) 0)).mono ?_;rintro e w2 ⟨rfl,hw2⟩;have HF2:=aA (HF1.out.alloc (.cells #[.int .i64 addr] 3));subst hw2;clear e0 e1))
      obtain ⟨W2,hW2⟩:∃W:World,W=w1.alloc (.cells #[.int .i64 addr] 3):=⟨_,rfl⟩;rw [<-hW2] at HF2 ⊢;clear hW2;obtain ⟨e0,e1⟩:=(HF2.out.blk 0 rfl).pair;go_upto_region 5 with (go_at_call 82;(with_reducible refine (HL.out _ HF2.out.below).mono ?_);rintro e w3 ⟨⟨va,vc,rfl,h1⟩,hb⟩;have HS:=aA (h1.alloc (.cells #[.string s,.slice va l.length vc] 30));have HF3:=aA ((HF2.out.next hb).new' 30 #[.string s,.slice va l.length vc] (b:=w3.heap.size) rfl);clear hb h1 e0 e1);obtain ⟨W3,hW3⟩:∃W:World,W=w3.alloc (.cells #[.string s,.slice va l.length vc] 30):=⟨_,rfl⟩;rw [<-hW3] at HF3 HS ⊢;clear hW3;generalize w3.heap.size=g3 at *;obtain ⟨e0,e1⟩:=(HF3.out.blk 0 rfl).pair;cases h10:ofK l 10 with
      | some o=>have hno:=HN.out o (oKb h10);have HO1:=aA (HO.out 10);unfold oPm at hG;rw [h10] at HO1 hG;dsimp only [Option.getD_some,Option.isSome_some] at HO1 hG;obtain ⟨o1,o2,o3⟩:=o;dsimp only at HO1 hG hno;injection hG with hG1 hG2;subst hG1 hG2;have ha1:=hf.1;have ha2:=hf.2;have hn1:=hno.1;have hn2:=hno.2;have hand:=oMu (addr+2+o3);clear h10 HO;go_upto_region 6 with (go_at_call 83;(with_reducible refine (HO1.out _ _ _ HS.out).mono ?_);rintro e w4 ⟨rfl,hb⟩;have HF4:=aA ((HF3.out.next hb).new' 52 #[.int .i64 o1,.int .i64 o2,.int .i64 o3] (b:=w4.heap.size) rfl);clear hb e0 e1);obtain ⟨W4,hW4⟩:∃W:World,W=w4.alloc (.cells #[.int .i64 o1,.int .i64 o2,.int .i64 o3] 52):=⟨_,rfl⟩;rw [<-hW4] at HF4 ⊢;clear hW4;generalize w4.heap.size=g4 at *;obtain ⟨c0,c1,c2⟩:=(HF4.out.blk 0 rfl).three;go_wp2;go_ret2;exact ⟨rfl,HF4.out.below⟩
      | none=>have HO1:=aA (HO.out 10);have HO2:=aA (HO.out 6);unfold oPm at hG;rw [h10] at HO1 hG;dsimp only [Option.getD_none,Option.isSome_none] at HO1 hG;generalize (ofK l 6).getD ⟨0,0,0⟩=z at *;generalize (ofK l 6).isSome=B at *;obtain ⟨z1,z2,z3⟩:=z;dsimp only at HO2 hG;injection hG with hG1 hG2;subst hG1 hG2;clear h10 HO HN;go_upto_region 6 with (go_at_call 83;(with_reducible refine (HO1.out _ _ _ HS.out).mono ?_);rintro e w4 ⟨rfl,hb⟩;have HS4:=aA ((HS.out.below hb).alloc (.cells #[.int .i64 0,.int .i64 0,.int .i64 0] 52));have HF4:=aA ((HF3.out.next hb).alloc (.cells #[.int .i64 0,.int .i64 0,.int .i64 0] 52));clear hb e0 e1);obtain ⟨W4,hW4⟩:∃W:World,W=w4.alloc (.cells #[.int .i64 0,.int .i64 0,.int .i64 0] 52):=⟨_,rfl⟩;rw [<-hW4] at HF4 HS4 ⊢;clear hW4;generalize w4.heap.size=g4 at *;obtain ⟨e0,e1⟩:=(HF4.out.blk 0 rfl).pair;go_upto_region 9 with (go_at_call 83;(with_reducible refine (HO2.out _ _ _ HS4.out).mono ?_);rintro e w5 ⟨rfl,hb⟩;have HF5:=aA ((HF4.out.next hb).new' 52 #[.int .i64 z1,.int .i64 z2,.int .i64 K1] (b:=w5.heap.size) rfl);clear hb e0 e1);obtain ⟨W5,hW5⟩:∃W:World,W=w5.alloc (.cells #[.int .i64 z1,.int .i64 z2,.int .i64 K1] 52):=⟨_,rfl⟩;rw [<-hW5] at HF5 ⊢;clear hW5;generalize w5.heap.size=g5 at *;obtain ⟨c0,c1,c2⟩:=(HF5.out.blk 0 rfl).three;go_wp2;go_ret2;exact ⟨rfl,HF5.out.below⟩
  · have hG:=HG.out;rw [if_neg hc] at hG;injection hG with hG1 hG2;subst hG1 hG2;clear HG HFB HN HL HO;generalize bG 0 65535 addr=FB at *;have hcc:FB=false\/(FB=true/\¬kd=1/\¬kd=2):=by
      cases FB
      · exact .inl rfl
      · exact .inr ⟨rfl,λe=>hc ⟨rfl,.inl e⟩,λe=>hc ⟨rfl,.inr e⟩⟩
    clear hc;go_enter Tryz.func48,Tryz.ntmps48;go_upto_region 1 with fail;rw [<-hW0];clear hW0;obtain ⟨e0,e1⟩:=(HF0.out.blk 0 rfl).pair;have hcd:FB=false\/(FB=true/\(kd != 1)=true/\(kd != 2)=true):=hcc.imp id (λh=>⟨h.1,by rw [bne_iff_ne];exact h.2.1,by rw [bne_iff_ne];exact h.2.2⟩);clear hcc;rcases hcd with rfl|⟨rfl,hk1,hk2⟩;all_goals
      go_wp2_with (first
        | (go_at_call 34;(with_reducible refine (HKI.out _ HF0.out.below).mono ?_);rintro e w1 ⟨rfl,hb⟩;have HF1:=aA (HF0.out.next hb);clear hb)
        | (go_at_call 59;refine (HFI.out _ _ (Blk.cell (Blk.new w1 _ _) 0)).mono ?_;rintro e w2 ⟨rfl,hw2⟩;have HF2:=aA (HF1.out.alloc (.cells #[.int .i64 addr] 3));subst hw2))
      go_ret2;exact ⟨rfl,HF2.out.below⟩
set_option maxHeartbeats 4000000
theorem oJg:ElT Tryz.prog 38 3 oO.size 8:=ElT.mk' (z:=.int .i64 0) Tryz.underlying38 (by kernel_rfl) rfl (by decide)
structure oKg (g:Nat) (mv s:Value) (xs:List Int) (W:World):Prop where
  blk:Blk W g 152 #[s,mv]
  own:Own oO W (g+1) 3 NoB s xs
theorem oKg.lt {g:Nat} {mv s:Value} {xs:List Int} {W:World} (h:oKg g mv s xs W):g<W.heap.size:=h.blk.lt
theorem oKg.next {g:Nat} {mv s:Value} {xs:List Int} {W W':World} (h:oKg g mv s xs W) (hb:Below W.heap.size W W'):oKg g mv s xs W':=⟨h.blk.below hb h.blk.lt,h.own.stay hb⟩
theorem Own.cutI {w:World} {B:Nat} {a:Option Addr} {n c:Nat} {xs:List Int} {k:Nat} (h:Own oO w B 3 NoB (.slice a n c) xs) (hk:k<xs.length):Own oO w B 3 NoB (.slice a k c) (xs.take k):=by
  obtain ⟨cs,hrow,hels⟩:=h;have hl:=hels.len;have hels2:Els oO w NoB (cs.take k) (xs.take k):=by
    clear hrow hk hl;induction xs generalizing cs k with
    | nil=>obtain rfl:cs=[]:=hels;rw [List.take_nil,List.take_nil];exact rfl
    | cons x xs ih=>
      obtain ⟨c1,c2,rfl,h1,h2⟩:=hels;have h1':c1=[.int .i64 x]:=h1;subst h1';cases k with
      | zero=>exact rfl
      | succ k=>exact ⟨[.int .i64 x],c2.take k,rfl,rfl,ih c2 h2⟩
  have hkl:(xs.take k).length=k:=by rw [JX];omega
  refine ⟨cs.take k,⟨?_,?_⟩,hels2⟩
  · have h5:cs.length=xs.length*1:=hl;show (cs.take k).length=(xs.take k).length*1;rw [JX,hkl];omega
  · rcases hrow.2 with ⟨e,h0⟩|⟨g,cap,cur,e,hb,hg,h1,h2,h3,h4⟩
    · omega
    · injection e with e1 e2 e3;subst e1 e3;refine .inr ⟨g,c,cur,by rw [hkl],hb,hg,by rw [hkl];omega,h2,h3,?_⟩;rw [hkl,<-h4];show cur.toList.take (k*1)=(cur.toList.take (xs.length*1)).take k;rw [List.take_take];congr 1;omega
theorem oNu (ad:Addr) (len cap h:Nat) (h2:h<=cap) (W:World):(Instr.sliceAt 38 (.slice (some ad) len cap) none (some (.int .i64 (h:Int))) none).run Tryz.prog W=.ok (.slice (some ad) h cap) W:=by rw [run_sliceAt_slice _ _ _ _ _ _ (by kernel_rfl),run_slice_h W _ (some ad) len cap (by kernel_rfl) .i64 (h:Int) (by omega) (by omega)];go_simp
theorem oMt (g:Nat) (mv s:Value) (w:World) (h:oKg g mv s [] w):
    Calls Tryz.prog 91 #[.pointer (some ⟨g,0,none⟩)] w λe w'=>e=.returned (.tuple #[.int .i64 0,.bool false])/\w'=w:=by
  have e0:w.cell? ⟨g,0,none⟩=some s:=h.blk.cell 0;obtain ⟨a,c,rfl⟩:=h.own.form;clear h;go_enter Tryz.func91,Tryz.ntmps91;go_wp2;go_ret2;exact ⟨rfl,rfl⟩
theorem oNl (p:aB) (v:Value) (l:List Int) (n:Int) (w:World) (h:SlR oO w p v l):
    Calls Tryz.prog 45 #[v,.int .i64 n] w λe w'=>e=.returned (.bool (l.contains n))/\w'=w:=by
  obtain ⟨a,c,rfl,hc1,hc2,g⟩:=h.int;have G:=aA g;have oAf:(l.length:Int)<=9223372036854775807:=by omega
  have HLN:=aA oAf;clear h g hc1 hc2 oAf;go_enter Tryz.func45,Tryz.ntmps45;go_wp2;go_loop [5] (λi=>∃k:Nat,k<=l.length/\i=.int .i64 k/\l.contains n=(l.drop k).contains n) (λi=>l.length-(intOf i).toNat);case atStart=>exact ⟨0,YD _,rfl,by simp⟩
  case round=>
    obtain ⟨k,hk,rfl,hx⟩:=hrel;have HX:=aA hx;clear hx;by_cases hlt:k<l.length
    · obtain ⟨b1,o1,rfl,_,d1⟩:=G.out k l[k] (zL hlt);have HD:Hid ((l.drop k).contains n=(n==l[k] || (l.drop (k+1)).contains n)):=aA (by rw [ZX hlt,List.contains_cons]);generalize l[k]=y at *;have hk9:=HLN.out;by_cases hy:y=n
      · subst hy;have HE:Hid (l.contains y=true):=aA (by rw [HX.out,HD.out,beq_self_eq_true];rfl);go_wp2;go_ret;exact ⟨aF (by simpa using HE.out.symm),rfl⟩
      · have HE:Hid ((l.drop k).contains n=(l.drop (k+1)).contains n):=aA (by rw [HD.out,yW.2 (λe=>hy e.symm),Bool.false_or]);have hyb:(y==n)=false:=yW.2 hy;go_wp2;go_round;case rel=>exact ⟨k+1,by omega,by go_num,HX.out.trans HE.out⟩
        case measure=>simp [intOf];omega
    · obtain rfl:k=l.length:=(by omega);have HE:Hid (l.contains n=false):=aA (by rw [HX.out,List.drop_length];rfl);go_wp2;go_ret;exact ⟨aF (by simpa using HE.out.symm),rfl⟩
set_option maxHeartbeats 16000000
def oKp (a k:Int) (n:Nat):Bool:=(k != 4)&&decide (a+n<65536)
def oJp (a k:Int) (n:Nat) (x:Ins):Bool:=oKp a k n&&(if k=1/\(oJf x=1\/oJf x=3\/oJf x=4) then oMr x else true)
def oMh (a k:Int) (x:Ins):Int × Bool:=if k=1 then oMa a x else (0,false)
def oKy (a k:Int) (n:Nat) (x:Ins):List Int:=if oJp a k n x=true then [a+n] else []
def oJn (a k:Int) (n:Nat) (x:Ins):List Int:=if 0<=a/\a<=65535 then (if (oMh a k x).2=true/\(oKy a k n x).contains (oMh a k x).1=false then oKy a k n x++[(oMh a k x).1] else oKy a k n x) else []
theorem oNy {a k:Int} {n:Nat} {x:Ins} (hk:¬(oJf x=1\/oJf x=3\/oJf x=4)):oJp a k n x=oKp a k n:=by unfold oJp;rw [if_neg (λe=>hk e.2),Bool.and_true]
theorem oMs {a:Int} {n:Nat} {x:Ins} (hk:oJf x=1\/oJf x=3\/oJf x=4):oJp a 1 n x=(oKp a 1 n&&oMr x):=by unfold oJp;rw [if_pos ⟨rfl,hk⟩]
theorem oNm {a k:Int} {n:Nat} {x:Ins} (h:¬k=1):oJp a k n x=oKp a k n:=by unfold oJp;rw [if_neg (λe=>h e.1),Bool.and_true]
theorem oNi (a k:Int) (n:Nat) (x:Ins) (m:CV x) (hn:n<=1000) (hx:∀o∈(oJl x).args,-70000<=o.n/\o.n<=70000) (ra:Option Addr) (rc:Nat) (va:Option Addr) (vc:Nat) (al:Bool) (p:aB) (w:World) (h:SlR aM w p (.slice va x.args.length vc) x.args) (hT:Spc w):
    Calls Tryz.prog 33 #[.int .i64 a,.agg #[.int .i64 k,.slice ra n rc,.string x.op,.slice va x.args.length vc,.bool al]] w λe w'=>(∃v,e=.returned v/\Own oO w' w.heap.size 3 NoB v (oJn a k n x))/\RowKit.Below w.heap.size w w':=by
  have HTG:=aA (λW (hb:RowKit.Below w.heap.size w W)=>oKe a x m hx p _ W (h.below hb) (hT.below hb));have HKI:=aA (λW (hb:RowKit.Below w.heap.size w W)=>oJu x m p _ W (h.below hb) (hT.below hb));have HSO:=aA (λW (hb:RowKit.Below w.heap.size w W)=>oLa x m p _ W (h.below hb) (hT.below hb));have HFI:=aA (λb W h=>sV 0 65535 a b W h);have HF:=aA ((Fr.start w).new' 32 #[.int .i64 k,.slice ra n rc,.string x.op,.slice va x.args.length vc,.bool al] (b:=w.heap.size) rfl);obtain ⟨W,hW⟩:∃W:World,W=w.alloc (.cells #[.int .i64 k,.slice ra n rc,.string x.op,.slice va x.args.length vc,.bool al] 32):=⟨_,rfl⟩;rw [<-hW] at HF;clear h m hx;by_cases ha:0<=a/\a<=65535
  · have hf:bG 0 65535 a=true:=(by unfold bG;simp;omega);rw [hf] at HFI;have ha0:=ha.1;have ha1:=ha.2;have hnn:(n:Int)<=1000:=(by omega);clear hf;have HNX:Hid (oJn a k n x=if (oMh a k x).2=true/\(oKy a k n x).contains (oMh a k x).1=false then oKy a k n x++[(oMh a k x).1] else oKy a k n x):=aA (if_pos ha);have HN4:Hid (k=4->oJn a k n x=[]):=aA (λe=>by subst e;unfold oJn oKy oJp oKp oMh;simp);unfold oKy at HNX;generalize oJn a k n x=NF at *;go_enter Tryz.func33,Tryz.ntmps33;go_upto_region 1 with fail;rw [<-hW];clear hW;obtain ⟨⟨c0,c1,c2,c3,c4⟩,_⟩:=(HF.out.blk 0 rfl).five;go_upto_region 5 with (go_at_call 59;refine (HFI.out _ _ (Blk.cell (Blk.new W _ _) 0)).mono ?_;rintro e w2 ⟨rfl,hw2⟩;have HF2:=aA (HF.out.alloc (.cells #[.int .i64 a] 3));subst hw2;clear c0 c1 c2 c3 c4;obtain ⟨⟨c0,c1,c2,c3,c4⟩,_⟩:=(HF2.out.blk 0 rfl).five);by_cases hk4:k=4
    · obtain rfl:=HN4.out hk4;subst hk4;clear HTG HKI HSO;go_wp2;go_ret;exact ⟨⟨_,rfl,Own.nil oO _ _ _ _⟩,HF2.out.below⟩
    have hk4b:(k != 4)=true:=(by rw [bne_iff_ne];exact hk4);have HG0:Hid (oKp a k n=decide (a+(n:Int)<65536)):=aA (by unfold oKp;rw [hk4b,z0Y]);go_upto_region 7 with fail;generalize decide (a+(n:Int)<65536)=g0 at *;have HGE:Hid (¬k=1->oJp a k n x=g0/\oMh a k x=(0,false)):=aA (λhk=>⟨(oNm hk).trans HG0.out,if_neg hk⟩);have HGS:Hid (k=1->oJf x=1\/oJf x=3\/oJf x=4->oJp a k n x=(g0&&oMr x)):=aA (λe hk=>by subst e;exact (oMs hk).trans (by rw [HG0.out]));have HGN:Hid (k=1->¬(oJf x=1\/oJf x=3\/oJf x=4)->oJp a k n x=g0):=aA (λ_ hk=>(oNy hk).trans HG0.out);have HGJ:Hid (k=1->oMh a k x=oMa a x):=aA (λe=>if_pos e);generalize oJp a k n x=GF at *;generalize oMh a k x=JF at *;obtain ⟨tt,jb⟩:=JF;dsimp only at HNX;clear HG0;iterate 13 (first|go_values|go_skip|go_guarded|go_step|go_upon|go_back)
    go_cut [7,8,9] (λs7 s8 s9 wx=>s7=.bool GF/\s8=.int .i64 tt/\s9=.bool jb/\RowKit.Below w.heap.size w wx);case first=>
      by_cases hk:k=1
      · have hj:=HGJ.out hk;have HGS1:=aA (HGS.out hk);have HGN1:=aA (HGN.out hk);subst hk;clear HGE HGS HGN HGJ;generalize oMa a x=TF at *;subst hj
        go_upto_region 10 with (first
          | (go_at_call 48;(with_reducible refine (HTG.out _ HF2.out.below).mono ?_);rintro e w3 ⟨rfl,hb⟩;have HF3:=aA (HF2.out.next hb);clear hb c0 c1 c2 c3 c4;obtain ⟨⟨c0,c1,c2,c3,c4⟩,_⟩:=(HF3.out.blk 0 rfl).five)
          | (go_at_call 34;(with_reducible refine (HKI.out _ HF3.out.below).mono ?_);rintro e w4 ⟨rfl,hb⟩;have HF4:=aA (HF3.out.next hb);clear hb c0 c1 c2 c3 c4;obtain ⟨⟨c0,c1,c2,c3,c4⟩,_⟩:=(HF4.out.blk 0 rfl).five))
        obtain ⟨kb,hkb⟩:∃kb:Bool,kb=decide (oJf x=1\/oJf x=3\/oJf x=4):=⟨_,rfl⟩;have HKK:=aA hkb;clear hkb;generalize oJf x=kd at *;generalize oMr x=sm at *;iterate 10 (first|go_values|go_skip|go_guarded|go_step|go_upon|go_back)
        go_cut [39] (λs39 wx=>s39=.bool kb/\wx=w4);case first=>
          by_cases hkd:kd=1\/kd=3\/kd=4
          · have hG:kb=true:=(by rw [HKK.out];exact z0P hkd);subst hG;rcases hkd with rfl|rfl|rfl;all_goals go_wp2;go_meet;case rel=>exact ⟨rfl,rfl⟩
          · have hG:kb=false:=(by rw [HKK.out];exact z0A hkd);subst hG;have e1:(kd==1)=false:=(by rw [yW];omega);have e3:(kd==3)=false:=(by rw [yW];omega);have e4:(kd==4)=false:=(by rw [yW];omega);have f1:¬kd=1:=(by omega);have f3:¬kd=3:=(by omega);have f4:¬kd=4:=(by omega);clear hkd;go_wp2;go_meet;case rel=>exact ⟨rfl,rfl⟩
        case rest=>
          obtain ⟨rfl,hwc⟩:=hcut;subst hwc;cases kb
          · have hG:=aA (HGN1.out (z0R HKK.out.symm));go_wp2;go_meet;case rel=>exact ⟨by rw [hG.out],rfl,rfl,HF4.out.below⟩
          · have hG:=aA (HGS1.out (jU HKK.out.symm));cases g0
            · go_wp2;go_meet;case rel=>exact ⟨by rw [hG.out];rfl,rfl,rfl,HF4.out.below⟩
            · go_wp2_with (go_at_call 35;(with_reducible refine (HSO.out _ HF4.out.below).mono ?_);rintro e w5 ⟨rfl,hb⟩;have HF5:=aA (HF4.out.next hb);clear hb);go_meet;case rel=>exact ⟨by rw [hG.out];rfl,rfl,rfl,HF5.out.below⟩
      · obtain ⟨hg,hj⟩:=HGE.out hk;have hk1:(k==1)=false:=(by rw [yW];exact hk);injection hj with hj1 hj2;have HGG:=aA hg;have HJ1:=aA hj1;have HJ2:=aA hj2;clear HGE HGS HGN HGJ hg hj1 hj2 HTG HKI HSO;go_wp2;go_meet;case rel=>exact ⟨by rw [HGG.out],by rw [HJ1.out],by rw [HJ2.out],HF2.out.below⟩
    case rest=>
      obtain ⟨rfl,rfl,rfl,hb⟩:=hcut;have HB:=aA hb;clear hb HF2 c0 c1 c2 c3 c4 HTG HKI HSO HGE HGS HGN HGJ HFI;cases GF
      · cases jb
        · have hN:NF=[]:=(by rw [HNX.out];simp);subst hN;go_wp2;go_ret;exact ⟨⟨_,rfl,Own.nil oO _ _ _ _⟩,HB.out⟩
        · have hN:NF=[tt]:=(by rw [HNX.out];simp);subst hN;have HO0:=aA (Own.nil oO wc w.heap.size 3 NoB);have HCE:=aA (λa c (W:World)=>Tryz.slices_Contains_int_empty a c tt W)
          go_wp2_with (first
            | (go_at_call 17;refine (HCE.out _ _ _).mono ?_;rintro e w6 ⟨rfl,rfl⟩)
            | (at_builtin;refine cK rfl (.tmp 61) (.tmp 63) 38 rfl w.heap.size 3 8 oJg _ [] tt _ rfl rfl HO0.out rfl (by decide) (by decide) HB.out.size ?_;intro a1 c1 w7 hp;have HP1:=aA hp;clear hp))
          go_ret;exact ⟨⟨_,rfl,HP1.out.1⟩,HB.out.grown HP1.out.2 HB.out.size (λj hj=>(HO0.out.lt j hj).1)⟩
      · have HO0:=aA (Own.nil oO wc w.heap.size 3 NoB);go_upto_region 16 with (at_builtin;refine cK rfl (.tmp 50) (.tmp 52) 38 rfl w.heap.size 3 8 oJg _ [] (a+(n:Int)) _ rfl rfl HO0.out rfl (by decide) (by decide) HB.out.size ?_;intro a1 c1 w7 hp;have HP1:=aA hp;clear hp);have HB7:=aA (HB.out.grown HP1.out.2 HB.out.size (λj hj=>(HO0.out.lt j hj).1));have HO5:Hid (Own oO w7 w.heap.size 3 NoB (.slice a1 1 c1) [a+(n:Int)]):=aA HP1.out.1;clear HP1 HB HO0;generalize a+(n:Int)=an at *;cases jb
        · have hN:NF=[an]:=(by rw [HNX.out];simp);subst hN;go_wp2;go_ret;exact ⟨⟨_,rfl,HO5.out⟩,HB7.out⟩
        · have HCT:Hid (Calls Tryz.prog 17 #[.slice a1 1 c1,.int .i64 tt] w7 λe w'=>e=.returned (.bool ([an].contains tt))/\w'=w7):=aA (by
            obtain ⟨a9,c9,e9,_,_,hg⟩:=(HO5.out.slR (q:=λ_=>True) (λ_ h=>h.elim) (λ_ _=>trivial)).int;injection e9 with e1 e2 e3;obtain ⟨b,o,e4,_,hc⟩:=hg 0 an rfl;rw [e1,e4];refine (Tryz.slices_Contains_int b o 1 c1 [an] tt w7 (by simp) (by decide) (λj hj=>?_)).mono ?_
            · match j,hj with
              | 0,_=>exact hc
              | j+1,hj=>exact absurd hj (by simp)
            · rintro e w' ⟨rfl,rfl⟩;exact ⟨rfl,rfl⟩)
          by_cases htt:tt=an
          · subst htt;have hN:NF=[tt]:=(by rw [HNX.out];simp);subst hN;rw [show [tt].contains tt=true by simp] at HCT;go_wp2_with (go_at_call 17;refine HCT.out.mono ?_;rintro e w8 ⟨rfl,rfl⟩);go_ret;exact ⟨⟨_,rfl,HO5.out⟩,HB7.out⟩
          · have hc:[an].contains tt=false:=(by simp;exact htt);have hN:NF=[an,tt]:=(by rw [HNX.out,if_pos ⟨rfl,hc⟩];rfl);subst hN;rw [hc] at HCT;clear hc
            go_wp2_with (first
              | (go_at_call 17;refine HCT.out.mono ?_;rintro e w8 ⟨rfl,rfl⟩)
              | (at_builtin;refine cK rfl (.tmp 61) (.tmp 63) 38 rfl w.heap.size 3 8 oJg _ [an] tt _ rfl rfl HO5.out rfl (by simp) (by simp) HB7.out.size ?_;intro a2 c2 w9 hp;have HP2:=aA hp;clear hp))
            go_ret;exact ⟨⟨_,rfl,HP2.out.1⟩,HB7.out.grown HP2.out.2 HB7.out.size (λj hj=>(HO5.out.lt j hj).1)⟩
  · have hf:bG 0 65535 a=false:=(by unfold bG;simp;omega);rw [hf] at HFI;rw [show oJn a k n x=[] from if_neg ha];clear HTG HKI HSO ha hf;go_enter Tryz.func33,Tryz.ntmps33;go_upto_region 1 with fail;rw [<-hW];clear hW;go_wp2_with (go_at_call 59;refine (HFI.out _ _ (Blk.cell (Blk.new W _ _) 0)).mono ?_;rintro e w2 ⟨rfl,hw2⟩;have HF2:=aA (HF.out.alloc (.cells #[.int .i64 a] 3));subst hw2);go_ret;exact ⟨⟨_,rfl,Own.nil oO _ _ _ _⟩,HF2.out.below⟩
set_option maxHeartbeats 8000000
def oJo:Ins:=⟨⟨#[74,82]⟩,[⟨8,0,0⟩,⟨10,0,3⟩]⟩
theorem oNp:oJf oJo=1:=by decide+kernel
theorem oPl:oMr oJo=true:=by decide+kernel
theorem tgtF0:oMa 100 oJo=(105,true):=by decide+kernel
theorem argF0:(oJl oJo).args=[⟨8,0,0⟩,⟨10,0,3⟩]:=by decide+kernel
theorem numF0:∀o∈(oJl oJo).args,-70000<=o.n/\o.n<=70000:=by rw [argF0];intro o ho;simp at ho;rcases ho with rfl|rfl<;>exact ⟨by decide,by decide⟩
theorem oKq:CV oJo:=⟨by decide,by decide,by intro y hy;simp [oJo] at hy;rcases hy with rfl|rfl<;>exact ⟨by decide,by decide⟩⟩
theorem oNv:dG ⟨#[74,82]⟩=⟨#[74,82]⟩:=by decide+kernel
theorem oPq:oJn 100 1 2 oJo=[102,105]:=by unfold oJn oMh oKy oJp oKp;rw [tgtF0,oNp,oPl];decide
theorem oPc (ra:Option Addr) (rc:Nat) (va:Option Addr) (vc:Nat) (p:aB) (w:World) (hT:Spc w) (h:SlR aM w p (.slice va 2 vc) oJo.args):
    Calls Tryz.prog 33 #[.int .i64 100,.agg #[.int .i64 1,.slice ra 2 rc,.string ⟨#[74,82]⟩,.slice va 2 vc,.bool false]] w λe w'=>(∃v,e=.returned v/\Own oO w' w.heap.size 3 NoB v [102,105])/\RowKit.Below w.heap.size w w':=by
  have H:=oNi 100 1 2 oJo oKq (by decide) numF0 ra rc va vc false p w h hT;rw [oPq] at H;exact H
theorem lit2F (W:World):SlR oO (W.alloc (.cells #[.int .i64 102,.int .i64 105] 3)) (λ_=>True) (.slice (some ⟨W.heap.size,0,none⟩) 2 2) [102,105]:=fS W _ _ [102,105] _ 2 rfl rfl (by decide) (λ_ _=>trivial)
theorem oMx (w:World) (q:aB) (l:List Opd) (cs:Array Value) (m:Nat) (hm:m=l.length) (hcs:cs.toList=l.flatMap Opd.cells) (hl:l.length<=1000000) (hq:∀k,w.heap.size<=k->q k):
    SlR aM (w.alloc (.cells cs 52)) q (.slice (some ⟨w.heap.size,0,none⟩) m m) l:=fS w _ q l cs m hm hcs hl hq
theorem oKx (w:World) (hT:Spc w):Calls Tryz.prog 14 #[] w λe w'=>e=.returned (.bool true)/\RowKit.Below w.heap.size w w':=by
  have HT:=aA hT;have HM:=aA (λp v W h=>mC p ⟨#[74,82]⟩ v [⟨8,0,0⟩,⟨10,0,3⟩] W h (by decide) (by decide));rw [oNv] at HM;clear hT;have HX1:=aA (HM.out _ _ _ (oMx w (λ_=>True) [⟨8,0,0⟩,⟨10,0,3⟩] #[.int .i64 8,.int .i64 0,.int .i64 0,.int .i64 10,.int .i64 0,.int .i64 3] 2 rfl rfl (by decide) (λ_ _=>trivial)));have HA:=aA ((Fr.start w).alloc (.cells #[.int .i64 8,.int .i64 0,.int .i64 0,.int .i64 10,.int .i64 0,.int .i64 3] 52));go_enter Tryz.func14,Tryz.ntmps14;go_upto_region 2 with (go_at_call 23;refine HX1.out.mono ?_;rintro e w1 ⟨v1,rfl,ho1,hb1⟩;obtain ⟨a1,c1,rfl⟩:=ho1.form;have HO1:=aA ((Own.slR (q:=λ_=>True) ho1 (λ_ h=>h.elim) (λ_ _=>trivial)).alloc (.cells #[.string ⟨#[74,82]⟩,.slice a1 2 c1] 30));have HB1:=aA ((HA.out.next hb1).new' 30 #[.string ⟨#[74,82]⟩,.slice a1 2 c1] (b:=w1.heap.size) rfl);clear hb1 ho1);obtain ⟨W1,hW1⟩:∃W:World,W=w1.alloc (.cells #[.string ⟨#[74,82]⟩,.slice a1 2 c1] 30):=⟨_,rfl⟩;dsimp only [List.length_cons,List.length_nil] at HO1;rw [<-hW1] at HB1 HO1 ⊢;clear hW1;generalize w1.heap.size=b1 at *;obtain ⟨e0,e1⟩:=(HB1.out.blk 0 rfl).pair;have HNX:=aA (λra rc W (hb:RowKit.Below W1.heap.size W1 W)=>oPc ra rc a1 c1 (λ_=>True) W ((HT.out.below HB1.out.below).below hb) (HO1.out.below hb));have HKI:=aA (λW (hb:RowKit.Below W1.heap.size W1 W)=>oJu oJo oKq (λ_=>True) (.slice a1 2 c1) W (HO1.out.below hb) ((HT.out.below HB1.out.below).below hb));have HSO:=aA (λW (hb:RowKit.Below W1.heap.size W1 W)=>oLa oJo oKq (λ_=>True) (.slice a1 2 c1) W (HO1.out.below hb) ((HT.out.below HB1.out.below).below hb));rw [oNp] at HKI;rw [oPl] at HSO;rw [show oJo.op=⟨#[74,82]⟩ from rfl] at HKI HSO;have HQ:=aA (λp q v1 v2 l1 l2 W h1 h2=>YF p q v1 v2 l1 l2 W h1 h2);have HBA:Hid (RowKit.Below W1.heap.size W1 (W1.alloc (.cells #[.int .u8 32,.int .u8 3] 5))):=(zY _ _).alloc (zI _) _;obtain ⟨f0,f1⟩:=((HB1.out.alloc (.cells #[.int .u8 32,.int .u8 3] 5)).blk 0 rfl).pair
  go_wp2_with (first
    | (go_at_call 33;refine (HNX.out _ _ _ HBA.out).mono ?_;rintro e w2 ⟨⟨v2,rfl,ho⟩,hb⟩;obtain ⟨na,nc,rfl⟩:=ho.form;have HN2:=aA ((ho.slR (q:=λ_=>True) (λ_ h=>h.elim) (λ_ _=>trivial)).alloc (.cells #[.int .i64 102,.int .i64 105] 3));have HN3:=aA (lit2F w2);have HB2:=aA (HBA.out.trans (hb.mono HBA.out.size));have HF2:=aA ((HB1.out.next HB2.out).alloc (.cells #[.int .i64 102,.int .i64 105] 3));clear hb ho)
    | (go_at_call 18;refine (HQ.out _ _ _ _ [102,105] [102,105] _ HN2.out HN3.out).mono ?_;rw [z0P rfl];rintro e w3 ⟨rfl,n3,hw3⟩;have HF3:=aA (show Fr w _ w3 from hw3 ▸ HF2.out.drewN n3);have HB3:Hid (RowKit.Below W1.heap.size W1 w3):=aA (hw3 ▸ aY (HB2.out.alloc HB2.out.size _) n3);clear hw3 e0 e1;obtain ⟨e0,e1⟩:=(HF3.out.blk 0 rfl).pair)
    | (go_at_call 34;(with_reducible refine (HKI.out _ HB3.out).mono ?_);rintro e w4 ⟨rfl,hb⟩;have HF4:=aA (HF3.out.next hb);have HB4:=aA (HB3.out.trans (hb.mono HB3.out.size));clear hb e0 e1;obtain ⟨e0,e1⟩:=(HF4.out.blk 0 rfl).pair)
    | (go_at_call 35;(with_reducible refine (HSO.out _ HB4.out).mono ?_);rintro e w5 ⟨rfl,hb⟩;have HF5:=aA (HF4.out.next hb);clear hb))
  go_ret;exact ⟨rfl,HF5.out.below⟩
theorem oJt (x:Ins) (m:CV x) (p:aB) (v:Value) (w:World) (h:SlR aM w p v x.args):
    Calls Tryz.prog 78 #[.agg #[.string x.op,v]] w λe w'=>(∃a b c da dn dc s f,e=.returned (.tuple #[.agg #[.int .i64 a,.int .u8 b,.string c,.slice da dn dc,.string s,.bool f],.int .i64 (cQ x).2]))/\Below w.heap.size w w':=
  (Find9_any p x v w h (by have:=m.n;omega) m.f).mono λe w' h=>by
    generalize cQ x=r at h ⊢;obtain ⟨o,k⟩:=r;obtain ⟨h,hb⟩:=h;cases o with
    | none=>exact ⟨⟨_,_,_,_,_,_,_,_,h⟩,hb⟩
    | some x=>obtain ⟨v,q,h,a,c,hv,_⟩:=h;subst hv;exact ⟨⟨_,_,_,_,_,_,_,_,h⟩,hb⟩
def oKd (x:Ins) (k:Int):Option Opd:=ofK (oJl x).args k
theorem oPb {x:Ins} {k:Int} (h:¬(cQ x).2=0):oKd x k=none:=by
  unfold oKd oJl;have hb:tI x=false:=by unfold tI;rw [yW];exact h
  rw [if_neg (by rw [hb];decide)];rfl
theorem oMv {x:Ins} {k:Int} (h:(cQ x).2=0):oKd x k=ofK (aE x).args k:=by
  unfold oKd oJl;have hb:tI x=true:=by unfold tI;rw [h];rfl
  rw [if_pos hb]
theorem fldI (v1 v2:Value) (W:World):(Instr.field 30 (.agg #[v1,v2]) 1).run Tryz.prog W=.ok v2 W:=by simp [Instr.field,asAgg,go_sem]
theorem oJx (x:Ins) (m:CV x) (k:Int) (p:aB) (v:Value) (w:World) (h:SlR aM w p v x.args):
    Calls Tryz.prog 97 #[.agg #[.string x.op,v],.int .i64 k] w λe w'=>e=.returned (OfV (oKd x k))/\Below w.heap.size w w':=by
  have HCD:=aA (λW (hb:RowKit.Below w.heap.size w W)=>oJt x m p v W (h.below hb));have HOF:=aA (λW (hb:RowKit.Below w.heap.size w W)=>jS p x v W (h.below hb) (by have:=m.n;omega) m.f);have HNO:=aA (oPb (x:=x) (k:=k));have HYE:=aA (oMv (x:=x) (k:=k));have hcl:(aE x).args.length<=1000000:=by have:=mB x;have:=m.n;omega
  obtain ⟨a,c,rfl⟩:∃a c,v=.slice a x.args.length c:=by obtain ⟨a,c,e,_⟩:=h;exact ⟨a,c,e⟩
  have HF0:=aA (((Fr.start w).new 30 #[.string x.op,.slice a x.args.length c]).new' 52 #[.int .i64 0,.int .i64 0,.int .i64 0] (zW _ _));generalize oKd x k=R at *;generalize (cQ x).2=cd at *;generalize (aE x).args=l at *;obtain ⟨W0,hW0⟩:∃W:World,W=(w.alloc (.cells #[.string x.op,.slice a x.args.length c] 30)).alloc (.cells #[.int .i64 0,.int .i64 0,.int .i64 0] 52):=⟨_,rfl⟩;rw [<-hW0] at HF0;clear h m;have hfd:=fldI;go_enter Tryz.func97,Tryz.ntmps97;go_upto_region 1 with fail;rw [<-hW0];clear hW0;obtain ⟨e0,e1⟩:=(HF0.out.blk 1 rfl).pair
  go_upto_region 3 with (first
    | (go_at_call 78;(with_reducible refine (HCD.out _ HF0.out.below).mono ?_);rintro e w1 ⟨⟨z0,z1,z2,z3,z4,z5,z6,z7,rfl⟩,hb⟩;have HF1:=aA ((HF0.out.next hb).alloc (.cells #[.int .i64 z0,.int .u8 z1,.string z2,.slice z3 z4 z5,.string z6,.bool z7] 122));clear hb e0 e1;obtain ⟨e0,e1⟩:=(HF1.out.blk 1 rfl).pair)
    | (go_at_call 79;(with_reducible refine (HOF.out _ HF1.out.below).mono ?_);rintro e w2 ⟨v2,rfl,ho,hb⟩;obtain ⟨va,vc,rfl⟩:=ho.form;have HS:=aA (ho.slR.mono (q:=λ_=>True) (λ_ _=>trivial));have HF2:=aA (HF1.out.next hb);clear hb ho e0 e1))
  have hg:w.heap.size+1<w2.heap.size:=(HF2.out.blk 0 rfl).lt;obtain ⟨q0,q1,q2,y0,y1,y2⟩:=(HF2.out.blk 0 rfl).three;by_cases hcd:cd=0
  · have hR:=HYE.out hcd;subst hcd;clear HNO HYE;go_wp2;go_loopw [9] (λi wr=>∃j:Nat,j<=l.length/\i=.int .i64 j/\R=ofK (l.drop j) k/\wr=w2) (λi _=>l.length-(intOf i).toNat);case atStart=>exact ⟨0,YD _,rfl,hR,rfl⟩
    case round=>
      obtain ⟨j,hj,rfl,ht,rfl⟩:=hrel;have HT:=aA ht;clear ht hR;by_cases hlt:j<l.length
      · obtain ⟨a2,c2,e2,_,_,hg2⟩:=HS.out.opd;injection e2 with e2 e3 e4;clear e3;subst e2 e4;obtain ⟨b1,o1,rfl,_,d0,d1,d2⟩:=hg2 j l[j] (zL hlt);have HD:Hid (ofK (l.drop j) k=if (l[j].kind==k)=true then some l[j] else ofK (l.drop (j+1)) k):=aA (by rw [ZX hlt];unfold ofK;rw [List.find?_cons];cases (l[j].kind==k)<;>rfl);clear hg2;generalize l[j]=x at *;obtain ⟨x1,x2,x3⟩:=x;dsimp only at *;by_cases hvx:x1=k
        · have hR:R=some ⟨x1,x2,x3⟩:=(by rw [HT.out,HD.out,if_pos (by rw [hvx];exact beq_self_eq_true k)]);subst hR;subst hvx;go_wp2;have HF3:=aA (HF2.out.set3 (by omega) (λy hy=>by simp at hy;rcases hy with rfl;(show _≠_;dsimp only;omega)) (.int .i64 x1) (.int .i64 x2) (.int .i64 x3));exact yR (aH rfl _ _ (w.heap.size+1) 52 #[.int .i64 x1,.int .i64 x2,.int .i64 x3] (0,0) _ rfl (HF3.out.blk 0 rfl) Tryz.underlying52 rfl (by kernel_rfl)) rfl ⟨rfl,HF3.out.below⟩
        · have hR:R=ofK (l.drop (j+1)) k:=(by rw [HT.out,HD.out,if_neg (λe=>hvx (eq_of_beq e))]);go_wp2;go_roundw;case rel=>exact ⟨j+1,by omega,by go_num,hR,trivial⟩
          case measure=>simp [intOf];omega
      · have hR:R=none:=(by rw [HT.out,VA (by omega)];rfl);subst hR;go_wp2;have HF3:=aA (HF2.out.set3 (by omega) (λy hy=>by simp at hy;rcases hy with rfl;(show _≠_;dsimp only;omega)) (.int .i64 0) (.int .i64 0) (.int .i64 0));exact yR (aH rfl _ _ (w.heap.size+1) 52 #[.int .i64 0,.int .i64 0,.int .i64 0] (0,0) _ rfl (HF3.out.blk 0 rfl) Tryz.underlying52 rfl (by kernel_rfl)) rfl ⟨rfl,HF3.out.below⟩
  · have hR:=HNO.out hcd;subst hR;clear HNO HYE;go_wp2;go_loopw [9] (λi wr=>i=.int .i64 0/\wr=w2) (λi _=>0);case atStart=>exact ⟨rfl,rfl⟩
    case round=>obtain ⟨rfl,rfl⟩:=hrel;by_cases hlt:(0:Int)<(l.length:Int);all_goals go_wp2;have HF3:=aA (HF2.out.set3 (by omega) (λy hy=>by simp at hy;rcases hy with rfl;(show _≠_;dsimp only;omega)) (.int .i64 0) (.int .i64 0) (.int .i64 0));exact yR (aH rfl _ _ (w.heap.size+1) 52 #[.int .i64 0,.int .i64 0,.int .i64 0] (0,0) _ rfl (HF3.out.blk 0 rfl) Tryz.underlying52 rfl (by kernel_rfl)) rfl ⟨rfl,HF3.out.below⟩
def kndR (s:List UInt8) (imm:Bool):Int:=
  if ((s==[74,82]) || (s==[68,74,78,90]))=true then 1
  else if (s==[74,80])=true then (if imm=true then 1 else 4)
  else if ((s==[67,65,76,76]) || (s==[82,83,84]))=true then 2
  else if ((s==[82,69,84]) || ((s==[82,69,84,73]) || (s==[82,69,84,78])))=true then 3
  else if (s==[72,65,76,84])=true then 4 else 0
def oJj (x:Ins):Int:=if (cQ x).2=0 then kndR x.op.toList (oKd x 6).isSome else 0
def oNt (x:Ins):Bool:=((cQ x).2==0)&&((oKd x 8).isSome || (x.op.toList==[68,74,78,90]))
def oPk (addr:Int) (x:Ins):Int:=match oKd x 10 with
  | some o=>(addr+2+o.n+65536)%65536
  | none=>((oKd x 6).getD ⟨0,0,0⟩).n
def oLq (addr:Int) (x:Ins):Int:=if (0<=addr/\addr<=65535)/\(oJj x=1\/oJj x=2) then oPk addr x else -1
theorem oKf (x:Ins) (m:CV x) (p:aB) (v:Value) (w:World) (h:SlR aM w p v x.args):
    Calls Tryz.prog 93 #[.agg #[.string x.op,v]] w λe w'=>e=.returned (.int .i64 (oJj x))/\Below w.heap.size w w':=by
  have HCD:=aA (λW (hb:RowKit.Below w.heap.size w W)=>oJt x m p v W (h.below hb));have HA:=aA (λW (hb:RowKit.Below w.heap.size w W)=>oJx x m 6 p v W (h.below hb));have HG:Hid (oJj x=if (cQ x).2=0 then kndR x.op.toList (oKd x 6).isSome else 0):=aA rfl;obtain ⟨a,c,rfl⟩:∃a c,v=.slice a x.args.length c:=by obtain ⟨a,c,e,_⟩:=h;exact ⟨a,c,e⟩
  have HF0:=aA ((Fr.start w).new 30 #[.string x.op,.slice a x.args.length c]);unfold OfV at HA;generalize oJj x=K at *;generalize oKd x 6=r at *;generalize r.getD ⟨0,0,0⟩=y at *;generalize r.isSome=B at *;generalize (cQ x).2=cd at *;obtain ⟨y1,y2,y3⟩:=y;obtain ⟨s,l⟩:=x;dsimp only at *;obtain ⟨W0,hW0⟩:∃W:World,W=w.alloc (.cells #[.string s,.slice a l.length c] 30):=⟨_,rfl⟩;rw [<-hW0] at HF0;clear h m;by_cases hcd:cd=0
  · subst hcd;have hG:=HG.out;rw [if_pos rfl] at hG;unfold kndR at hG;clear HG;go_enter Tryz.func93,Tryz.ntmps93;go_upto_region 1 with fail;rw [<-hW0];clear hW0;obtain ⟨e0,e1⟩:=(HF0.out.blk 0 rfl).pair;go_upto_region 5 with (go_at_call 78;(with_reducible refine (HCD.out _ HF0.out.below).mono ?_);rintro e w1 ⟨⟨z0,z1,z2,z3,z4,z5,z6,z7,rfl⟩,hb⟩;have HF1:=aA ((HF0.out.next hb).alloc (.cells #[.int .i64 z0,.int .u8 z1,.string z2,.slice z3 z4 z5,.string z6,.bool z7] 122));clear hb e0 e1;obtain ⟨e0,e1⟩:=(HF1.out.blk 0 rfl).pair);cases h0:(s.toList==[74,82])
    · cases h1:(s.toList==[68,74,78,90])
      · cases h2:(s.toList==[74,80])
        · cases h3:(s.toList==[67,65,76,76])
          · cases h4:(s.toList==[82,83,84])
            · cases h5:(s.toList==[82,69,84])
              · cases h6:(s.toList==[82,69,84,73])
                · cases h7:(s.toList==[82,69,84,78])
                  · cases h8:(s.toList==[72,65,76,84])
                    · have hK:K=0:=(by rw [h0,h1,h2,h3,h4,h5,h6,h7,h8] at hG;exact hG);subst hK;go_wp2;go_ret;exact ⟨rfl,HF1.out.below⟩
                    · have hK:K=4:=(by rw [h0,h1,h2,h3,h4,h5,h6,h7,h8] at hG;exact hG);subst hK;go_wp2;go_ret;exact ⟨rfl,HF1.out.below⟩
                  · have hK:K=3:=(by rw [h0,h1,h2,h3,h4,h5,h6,h7] at hG;exact hG);subst hK;go_wp2;go_ret;exact ⟨rfl,HF1.out.below⟩
                · have hK:K=3:=(by rw [h0,h1,h2,h3,h4,h5,h6] at hG;exact hG);subst hK;go_wp2;go_ret;exact ⟨rfl,HF1.out.below⟩
              · have hK:K=3:=(by rw [h0,h1,h2,h3,h4,h5] at hG;exact hG);subst hK;go_wp2;go_ret;exact ⟨rfl,HF1.out.below⟩
            · have hK:K=2:=(by rw [h0,h1,h2,h3,h4] at hG;exact hG);subst hK;go_wp2;go_ret;exact ⟨rfl,HF1.out.below⟩
          · have hK:K=2:=(by rw [h0,h1,h2,h3] at hG;exact hG);subst hK;go_wp2;go_ret;exact ⟨rfl,HF1.out.below⟩
        · cases B
          · have hK:K=4:=(by rw [h0,h1,h2] at hG;exact hG);subst hK;go_wp2_with (go_at_call 97;(with_reducible refine (HA.out _ HF1.out.below).mono ?_);rintro e w2 ⟨rfl,hb⟩;have HF2:=aA ((HF1.out.next hb).alloc (.cells #[.int .i64 y1,.int .i64 y2,.int .i64 y3] 52));clear hb e0 e1;obtain ⟨e0,e1⟩:=(HF2.out.blk 0 rfl).pair);go_ret;exact ⟨rfl,HF2.out.below⟩
          · have hK:K=1:=(by rw [h0,h1,h2] at hG;exact hG);subst hK;go_wp2_with (go_at_call 97;(with_reducible refine (HA.out _ HF1.out.below).mono ?_);rintro e w2 ⟨rfl,hb⟩;have HF2:=aA ((HF1.out.next hb).alloc (.cells #[.int .i64 y1,.int .i64 y2,.int .i64 y3] 52));clear hb e0 e1;obtain ⟨e0,e1⟩:=(HF2.out.blk 0 rfl).pair);go_ret;exact ⟨rfl,HF2.out.below⟩
      · have hK:K=1:=(by rw [h0,h1] at hG;exact hG);subst hK;go_wp2;go_ret;exact ⟨rfl,HF1.out.below⟩
    · have hK:K=1:=(by rw [h0] at hG;exact hG);subst hK;go_wp2;go_ret;exact ⟨rfl,HF1.out.below⟩
  · have hG:=HG.out;rw [if_neg hcd] at hG;subst hG;go_enter Tryz.func93,Tryz.ntmps93;go_upto_region 1 with fail;rw [<-hW0];clear hW0;obtain ⟨e0,e1⟩:=(HF0.out.blk 0 rfl).pair;go_wp2_with (go_at_call 78;(with_reducible refine (HCD.out _ HF0.out.below).mono ?_);rintro e w1 ⟨⟨z0,z1,z2,z3,z4,z5,z6,z7,rfl⟩,hb⟩;have HF1:=aA ((HF0.out.next hb).alloc (.cells #[.int .i64 z0,.int .u8 z1,.string z2,.slice z3 z4 z5,.string z6,.bool z7] 122));clear hb e0 e1;obtain ⟨e0,e1⟩:=(HF1.out.blk 0 rfl).pair);go_ret;exact ⟨rfl,HF1.out.below⟩
theorem oMm (x:Ins) (m:CV x) (p:aB) (v:Value) (w:World) (h:SlR aM w p v x.args):
    Calls Tryz.prog 94 #[.agg #[.string x.op,v]] w λe w'=>e=.returned (.bool (oNt x))/\Below w.heap.size w w':=by
  have HCD:=aA (λW (hb:RowKit.Below w.heap.size w W)=>oJt x m p v W (h.below hb));have HA:=aA (λW (hb:RowKit.Below w.heap.size w W)=>oJx x m 8 p v W (h.below hb));have HG:Hid (oNt x=(((cQ x).2==0)&&((oKd x 8).isSome || (x.op.toList==[68,74,78,90])))):=aA rfl;obtain ⟨a,c,rfl⟩:∃a c,v=.slice a x.args.length c:=by obtain ⟨a,c,e,_⟩:=h;exact ⟨a,c,e⟩
  have HF0:=aA ((Fr.start w).new 30 #[.string x.op,.slice a x.args.length c]);unfold OfV at HA;generalize oNt x=K at *;generalize oKd x 8=r at *;generalize r.getD ⟨0,0,0⟩=y at *;generalize r.isSome=B at *;generalize (cQ x).2=cd at *;obtain ⟨y1,y2,y3⟩:=y;obtain ⟨s,l⟩:=x;dsimp only at *;obtain ⟨W0,hW0⟩:∃W:World,W=w.alloc (.cells #[.string s,.slice a l.length c] 30):=⟨_,rfl⟩;rw [<-hW0] at HF0;clear h m;go_enter Tryz.func94,Tryz.ntmps94;go_upto_region 1 with fail;rw [<-hW0];clear hW0;obtain ⟨e0,e1⟩:=(HF0.out.blk 0 rfl).pair
  go_upto_region 3 with (first
    | (go_at_call 78;(with_reducible refine (HCD.out _ HF0.out.below).mono ?_);rintro e w1 ⟨⟨z0,z1,z2,z3,z4,z5,z6,z7,rfl⟩,hb⟩;have HF1:=aA ((HF0.out.next hb).alloc (.cells #[.int .i64 z0,.int .u8 z1,.string z2,.slice z3 z4 z5,.string z6,.bool z7] 122));clear hb e0 e1;obtain ⟨e0,e1⟩:=(HF1.out.blk 0 rfl).pair)
    | (go_at_call 97;(with_reducible refine (HA.out _ HF1.out.below).mono ?_);rintro e w2 ⟨rfl,hb⟩;have HF2:=aA ((HF1.out.next hb).alloc (.cells #[.int .i64 y1,.int .i64 y2,.int .i64 y3] 52));clear hb e0 e1;obtain ⟨e0,e1⟩:=(HF2.out.blk 0 rfl).pair))
  have hG:=HG.out;clear HG;cases hc:(cd==0)
  · rw [hc,z1Z] at hG;subst hG;go_wp2;go_ret;exact ⟨rfl,HF2.out.below⟩
  · rw [hc,z0Y] at hG;cases B
    · cases h3:(s.toList==[68,74,78,90]);all_goals
        rw [h3] at hG;try dsimp only [Bool.or_self,Bool.false_or] at hG
        subst hG;go_wp2;go_ret;exact ⟨rfl,HF2.out.below⟩
    · rw [Bool.true_or] at hG;subst hG;go_wp2;go_ret;exact ⟨rfl,HF2.out.below⟩
theorem oMw {x:Ins} {k:Int} {o:Opd} (h:oKd x k=some o):o∈(oJl x).args:=oKb h
theorem oKt (addr:Int) (x:Ins) (m:CV x) (hn:∀o∈(oJl x).args,-65000<=o.n/\o.n<=70000) (p:aB) (v:Value) (w:World) (h:SlR aM w p v x.args):
    Calls Tryz.prog 51 #[.int .i64 addr,.agg #[.string x.op,v]] w λe w'=>e=.returned (.int .i64 (oLq addr x))/\Below w.heap.size w w':=by
  have HKI:=aA (λW (hb:RowKit.Below w.heap.size w W)=>oKf x m p v W (h.below hb));have HA:=aA (λk W (hb:RowKit.Below w.heap.size w W)=>oJx x m k p v W (h.below hb));have HG:Hid (oLq addr x=if (0<=addr/\addr<=65535)/\(oJj x=1\/oJj x=2) then oPk addr x else -1):=aA rfl;have HN:=aA hn;obtain ⟨a,c,rfl⟩:∃a c,v=.slice a x.args.length c:=by obtain ⟨a,c,e,_⟩:=h;exact ⟨a,c,e⟩
  have HF0:=aA ((Fr.start w).new 30 #[.string x.op,.slice a x.args.length c]);unfold OfV at HA;generalize oLq addr x=K at *;generalize oJj x=kd at *;obtain ⟨W0,hW0⟩:∃W:World,W=w.alloc (.cells #[.string x.op,.slice a x.args.length c] 30):=⟨_,rfl⟩;rw [<-hW0] at HF0;clear h m hn;by_cases hc:(0<=addr/\addr<=65535)/\(kd=1\/kd=2)
  · have hG:=HG.out;rw [if_pos hc] at hG;have ha1:=hc.1.1;have ha2:=hc.1.2;have ha3:¬addr<0:=(by omega);have ha4:¬65535<addr:=(by omega);have HKD:=aA hc.2;clear HG hc;go_enter Tryz.func51,Tryz.ntmps51;go_upto_region 1 with fail;rw [<-hW0];clear hW0;obtain ⟨e0,e1⟩:=(HF0.out.blk 0 rfl).pair;rcases HKD.out with hk|hk;all_goals
      subst hk;unfold oPk at hG;cases h10:oKd x 10 with
      | some o=>
        have hno:=HN.out o (oMw h10);have HO1:=aA (HA.out 10);rw [h10] at HO1 hG;dsimp only [Option.getD_some,Option.isSome_some] at HO1 hG;obtain ⟨y1,y2,y3⟩:=o;dsimp only at HO1 hG hno;have hn1:=hno.1;have hn2:=hno.2;subst hG;clear h10 HA HN hno
        go_upto_region 6 with (first
          | (go_at_call 93;(with_reducible refine (HKI.out _ HF0.out.below).mono ?_);rintro e w1 ⟨rfl,hb⟩;have HF1:=aA (HF0.out.next hb);clear hb e0 e1;obtain ⟨e0,e1⟩:=(HF1.out.blk 0 rfl).pair)
          | (go_at_call 97;(with_reducible refine (HO1.out _ HF1.out.below).mono ?_);rintro e w2 ⟨rfl,hb⟩;have HF2:=aA ((HF1.out.next hb).new' 52 #[.int .i64 y1,.int .i64 y2,.int .i64 y3] (b:=w2.heap.size) rfl);clear hb e0 e1))
        obtain ⟨W2,hW2⟩:∃W:World,W=w2.alloc (.cells #[.int .i64 y1,.int .i64 y2,.int .i64 y3] 52):=⟨_,rfl⟩;rw [<-hW2] at HF2 ⊢;clear hW2;generalize w2.heap.size=g2 at *;obtain ⟨c0,c1,c2⟩:=(HF2.out.blk 0 rfl).three;go_wp2;go_ret;exact ⟨rfl,HF2.out.below⟩
      | none=>
        have HO1:=aA (HA.out 10);have HO2:=aA (HA.out 6);rw [h10] at HO1 hG;dsimp only [Option.getD_none,Option.isSome_none] at HO1 hG;generalize oKd x 6=r at *;generalize r.getD ⟨0,0,0⟩=z at *;generalize r.isSome=B at *;obtain ⟨z1,z2,z3⟩:=z;dsimp only at HO2 hG;subst hG;clear h10 HA HN
        go_upto_region 7 with (first
          | (go_at_call 93;(with_reducible refine (HKI.out _ HF0.out.below).mono ?_);rintro e w1 ⟨rfl,hb⟩;have HF1:=aA (HF0.out.next hb);clear hb e0 e1;obtain ⟨e0,e1⟩:=(HF1.out.blk 0 rfl).pair)
          | (go_at_call 97;(with_reducible refine (HO1.out _ HF1.out.below).mono ?_);rintro e w2 ⟨rfl,hb⟩;have HF2:=aA ((HF1.out.next hb).alloc (.cells #[.int .i64 0,.int .i64 0,.int .i64 0] 52));clear hb e0 e1))
        obtain ⟨e0,e1⟩:=(HF2.out.blk 0 rfl).pair;obtain ⟨W2,hW2⟩:∃W:World,W=w2.alloc (.cells #[.int .i64 0,.int .i64 0,.int .i64 0] 52):=⟨_,rfl⟩;rw [<-hW2] at HF2 e0 e1 ⊢;clear hW2;go_upto_region 8 with (go_at_call 97;(with_reducible refine (HO2.out _ HF2.out.below).mono ?_);rintro e w3 ⟨rfl,hb⟩;have HF3:=aA ((HF2.out.next hb).new' 52 #[.int .i64 z1,.int .i64 z2,.int .i64 K] (b:=w3.heap.size) rfl);clear hb e0 e1);obtain ⟨W3,hW3⟩:∃W:World,W=w3.alloc (.cells #[.int .i64 z1,.int .i64 z2,.int .i64 K] 52):=⟨_,rfl⟩;rw [<-hW3] at HF3 ⊢;clear hW3;generalize w3.heap.size=g3 at *;obtain ⟨c0,c1,c2⟩:=(HF3.out.blk 0 rfl).three;go_wp2;go_ret;exact ⟨rfl,HF3.out.below⟩
  · have hG:=HG.out;rw [if_neg hc] at hG;subst hG;have hcc:addr<0\/(¬addr<0/\65535<addr)\/((¬addr<0/\¬65535<addr)/\¬kd=1/\¬kd=2):=by
      by_cases h1:addr<0
      · exact .inl h1
      · by_cases h2:65535<addr
        · exact .inr (.inl ⟨h1,h2⟩)
        · exact .inr (.inr ⟨⟨h1,h2⟩,λe=>hc ⟨⟨by omega,by omega⟩,.inl e⟩,λe=>hc ⟨⟨by omega,by omega⟩,.inr e⟩⟩)
    clear HG HN HA hc;go_enter Tryz.func51,Tryz.ntmps51;go_upto_region 1 with fail;rw [<-hW0];clear hW0;obtain ⟨e0,e1⟩:=(HF0.out.blk 0 rfl).pair;have hcd:addr<0\/(¬addr<0/\65535<addr)\/((¬addr<0/\¬65535<addr)/\(kd != 1)=true/\(kd != 2)=true):=hcc.imp id (λh=>h.imp id (λh=>⟨h.1,by rw [bne_iff_ne];exact h.2.1,by rw [bne_iff_ne];exact h.2.2⟩));clear hcc;rcases hcd with h1|⟨h1,h2⟩|⟨⟨h1,h2⟩,h3,h4⟩;all_goals go_wp2_with (go_at_call 93;(with_reducible refine (HKI.out _ HF0.out.below).mono ?_);rintro e w1 ⟨rfl,hb⟩;have HF1:=aA (HF0.out.next hb);clear hb);go_ret;exact ⟨rfl,HF1.out.below⟩
def chkT (p:Int) (x:Nat):Bool:=match (atF p x).1 with
  | some e=>
    let an:=λ(k:Int)=>e.args.any (λo=>o.kind==k)
    (!(e.iop==[74,80]) || (an 4==!(an 6)))&&((e.args.all λo=>decide (0<=o.n)&&decide (o.n<=65535))&&(!(decide (oNk e.iop (an 4)=1) || decide (oNk e.iop (an 4)=2)) || (an 10 || an 6)))
  | none=>true
theorem ckt:∀p:Fin 7,∀x:Fin 256,chkT p.val x.val=true:=by decide+kernel
theorem oNr:∀{c l:List Opd},c.map kr=l.map kr->∀k,(ofK c k).isSome=l.any (λo=>o.kind==k)
  | [],[],_,_=>rfl
  | [],_::_,h,_=>by cases h
  | _::_,[],h,_=>by cases h
  | a::c,b::l,h,k=>by
    rw [z0U,z0U] at h;injection h with h1 h2;unfold kr at h1;injection h1 with h3 h4;have ih:=oNr h2 k;unfold ofK at ih ⊢;rw [List.find?_cons,z1C,<-h3];cases (a.kind==k)
    · rw [Bool.false_or];exact ih
    · rfl
structure LegP (x:Ins) (e:aL):Prop where
  op:x.op.toList=e.iop
  knd:∀k,(ofK (aE x).args k).isSome=e.args.any (λo=>o.kind==k)
  jp:e.iop=[74,80]->(ofK (aE x).args 4).isSome=!(ofK (aE x).args 6).isSome
  too:oNk e.iop (ofK (aE x).args 4).isSome=1\/oNk e.iop (ofK (aE x).args 4).isSome=2->(ofK (aE x).args 10).isSome=true\/(ofK (aE x).args 6).isSome=true
  num:∀o∈(aE x).args,-128<=o.n/\o.n<=65535
  imm:∀o∈(aE x).args,o.kind=6->0<=o.n
theorem oNa {x:Ins} (h:tI x=true):∃e,cQ x=(some e,0):=by
  have h0:(cQ x).2=0:=eq_of_beq h;have h1:=findR_code.1 h0;cases hR:cQ x with
  | mk o k=>
    rw [hR] at h0 h1;cases o with
    | none=>cases h1
    | some e=>exact ⟨e,by dsimp only at h0;rw [h0]⟩
theorem oKa {x:Ins} (h:tI x=true):∃e,LegP x e:=by
  obtain ⟨e,hR⟩:=oNa h;obtain ⟨p,k,F⟩:=fnd11 hR;have hc:=ckt ⟨p,F.hp⟩ ⟨k,F.hk⟩;unfold chkT at hc;dsimp only at hc;rw [F.at'] at hc;dsimp only at hc;obtain ⟨c1,hc⟩:=xS.1 hc;obtain ⟨c2,c3⟩:=xS.1 hc;have hk:=λk=>oNr F.fil.k k;have hel:=F.fil.el;have h1:=F.fil.okd;have h2:=F.fil.okn;have hv:=F.ok.v;have oAf:=F.fil.len;have hnum:∀o∈(aE x).args,(-128<=o.n/\o.n<=65535)/\(o.kind=6->0<=o.n):=by
    intro o ho;obtain ⟨j,hj,rfl⟩:=List.mem_iff_getElem.1 ho;have hj2:j<e.args.length:=(by omega);have hj3:=hel j hj2;rw [zL hj] at hj3;injection hj3 with hj3;have hfix:=z1A.1 c2 e.args[j] (z0J hj2);obtain ⟨f1,f2⟩:=xS.1 hfix;have f1:=jU f1;have f2:=jU f2;rw [hj3];unfold UZ at hv;by_cases hD:Dof e.ex e.args=some j
    · rw [if_pos hD];rw [hD] at h1 hv;have:=okN_some rfl h1;refine ⟨⟨by dsimp only;omega,by dsimp only;omega⟩,λhk6=>?_⟩;dsimp only at hk6 hv;obtain ⟨v1,_⟩:=xS.1 hv;obtain ⟨_,v1⟩:=xS.1 v1;obtain ⟨_,v1⟩:=xS.1 v1;have v1:=eq_of_beq v1;rw [WM hj2] at v1;omega
    · rw [if_neg hD];by_cases hJ:Jof e.ex e.args=some j
      · rw [if_pos hJ];rw [hJ] at h2 hv;have hlo:=okN_some rfl h2;have h3:-128<=loF e.ex:=(by unfold loF;split<;>omega);have h4:hiF e.ex<=65535:=by
          unfold hiF;split
          · omega
          · split<;>omega
        refine ⟨⟨by dsimp only;omega,by dsimp only;omega⟩,λhk6=>?_⟩;dsimp only at hk6 hv;obtain ⟨_,hv⟩:=xS.1 hv;obtain ⟨v1,_⟩:=xS.1 hv;obtain ⟨_,v1⟩:=xS.1 v1;rw [WM hj2,hk6] at v1;have v1:decide (0<=loF e.ex)=true:=v1;have:=jU v1;dsimp only;omega
      · rw [if_neg hJ];exact ⟨⟨by omega,by omega⟩,λ_=>f1⟩
  refine ⟨e,?_,hk,?_,?_,λo ho=>(hnum o ho).1,λo ho=>(hnum o ho).2⟩
  · rw [F.iop];exact dK _
  · intro hjp;rw [hk,hk];rw [hjp] at c1;exact eq_of_beq c1
  · rw [hk,hk,hk];intro hto;have:(decide (oNk e.iop (e.args.any λo=>o.kind==4)=1) || decide (oNk e.iop (e.args.any λo=>o.kind==4)=2))=true:=(by rw [Bool.or_eq_true,decide_eq_true_iff,decide_eq_true_iff];exact hto);rw [this,Bool.not_true,Bool.false_or] at c3;exact z1R.1 c3
theorem oJv {x:Ins} (h:tI x=true):oJl x=aE x:=if_pos h
theorem oKk {x:Ins} (h:tI x=false):oJl x=⟨⟨#[]⟩,[]⟩:=if_neg (by rw [h];decide)
theorem oKu {x:Ins}:tI x=((cQ x).2==0):=rfl
theorem oKm:(⟨#[]⟩:ByteArray).toList=[]:=dK []
theorem oKc (x:Ins):oJf x=oJj x:=by
  unfold oJf oJj oPe oKd;cases hl:tI x
  · have hc:¬(cQ x).2=0:=λe=>(by rw [oKu,e] at hl;cases hl);rw [oKk hl,if_neg hc,oKm];rfl
  · have hc:(cQ x).2=0:=eq_of_beq hl;obtain ⟨e,L⟩:=oKa hl;rw [oJv hl,if_pos hc,show (aE x).op=x.op from rfl,L.op];by_cases hj:e.iop=[74,80]
    · rw [L.jp hj,hj];cases (ofK (aE x).args 6).isSome<;>rfl
    · unfold oNk kndR;have hb:(e.iop==[74,80])=false:=(by rw [yW];exact hj);rw [hb];rfl
theorem oNg (x:Ins):oMr x=oNt x:=by
  unfold oMr oNt oKd;rw [<-oKu];cases hl:tI x
  · rw [oKk hl,oKm];rfl
  · rw [oJv hl,z0Y];rfl
theorem oLn (x:Ins):∀o∈(oJl x).args,-128<=o.n/\o.n<=65535:=by
  cases hl:tI x
  · rw [oKk hl];intro o ho;cases ho
  · obtain ⟨e,L⟩:=oKa hl;rw [oJv hl];exact L.num
theorem oNb (addr:Int) (x:Ins):(oMa addr x).2=decide (0<=oLq addr x)/\(oMa addr x).1=max (oLq addr x) 0:=by
  unfold oMa oLq;rw [oKc x];simp only [oKh];by_cases hc:(0<=addr/\addr<=65535)/\(oJj x=1\/oJj x=2)
  · rw [if_pos hc,if_pos hc];have hkk:=hc.2;rw [<-oKc x] at hkk;unfold oPm oPk oKd;cases h10:ofK (oJl x).args 10 with
    | some o=>dsimp only;have:=oLn x o (oKb h10);have h0:0<=(addr+2+o.n+65536)%65536:=Int.emod_nonneg _ (by decide);rw [Int.max_eq_left h0];exact ⟨(z0P h0).symm,by omega⟩
    | none=>
      dsimp only;cases hl:tI x
      · unfold oJf oPe at hkk;rw [oKk hl,oKm] at hkk;rcases hkk with hkk|hkk<;>cases hkk
      · obtain ⟨e,L⟩:=oKa hl;unfold oJf oPe at hkk;rw [oJv hl] at h10 hkk ⊢;rw [show (aE x).op=x.op from rfl,L.op] at hkk;have h6:=L.too hkk;rw [h10] at h6;rcases h6 with h6|h6
        · cases h6
        · cases h6':ofK (aE x).args 6 with
          | none=>rw [h6'] at h6;cases h6
          | some o=>dsimp only [Option.getD_some,Option.isSome_some];have hk6:o.kind=6:=(by have:=List.find?_some h6';exact eq_of_beq this);have h0:=L.imm o (oKb h6') hk6;rw [Int.max_eq_left h0];exact ⟨(z0P h0).symm,rfl⟩
  · rw [if_neg hc,if_neg hc];exact ⟨rfl,rfl⟩
end Go.Proofs.YtpigbggoiipmhaaGreatDoor
namespace Go.Proofs.YtpigbggoiipmhaaGreatDoor
section
variable (it:Int->Bool) (nx:Int->List Int)
inductive Rch (S:List Int):Int->Prop
  | start (a:Int):a∈S->it a=true->Rch S a
  | step (a b:Int):Rch S a->b∈nx a->it b=true->Rch S b
structure oKw (S wait seen:List Int):Prop where
  sn:∀a∈seen,Rch it nx S a
  wt:∀a∈wait,it a=true->Rch it nx S a
  al:∀a∈S,it a=true->a∈seen\/a∈wait
  nt:∀a∈seen,∀b∈nx a,it b=true->b∈seen\/b∈wait
  nd:seen.Nodup
variable {it nx}
theorem Rch.here {S:List Int} {a:Int} (h:Rch it nx S a):it a=true:=by
  cases h with
  | start _ _ h=>exact h
  | step _ _ _ _ h=>exact h
theorem Rch.mono {S T:List Int} (hs:∀a∈S,a∈T) {a:Int} (h:Rch it nx S a):Rch it nx T a:=by
  induction h with
  | start a h1 h2=>exact .start a (hs a h1) h2
  | step a b _ h2 h3 ih=>exact .step a b ih h2 h3
theorem oKw.start (S:List Int):oKw it nx S S []:=⟨λ_ h=>(by cases h),λa h1 h2=>.start a h1 h2,λ_ h _=>.inr h,λ_ h=>(by cases h),List.nodup_nil⟩
theorem oKw.skip {S w w' seen:List Int} {a:Int} (h:oKw it nx S w seen) (hw:∀b,b∈w↔b=a\/b∈w') (ha:a∈seen\/it a=false):oKw it nx S w' seen:=by
  have key:∀b,it b=true->b∈seen\/b∈w->b∈seen\/b∈w':=λb hb hm=>by
    rcases hm with hm|hm
    · exact .inl hm
    · rcases (hw b).1 hm with rfl|hm
      · rcases ha with ha|ha
        · exact .inl ha
        · rw [ha] at hb;cases hb
      · exact .inr hm
  exact ⟨h.sn,λb hb=>h.wt b ((hw b).2 (.inr hb)),λb hb h2=>key b h2 (h.al b hb h2),λb hb c hc h2=>key c h2 (h.nt b hb c hc h2),h.nd⟩
theorem oKw.add {S w w' w2 seen seen2:List Int} {a:Int} (h:oKw it nx S w seen) (hw:∀b,b∈w↔b=a\/b∈w') (ha:a ∉ seen) (hi:it a=true) (h2:∀b,b∈w2↔b∈w'\/b∈nx a) (hs:∀b,b∈seen2↔b=a\/b∈seen) (hn:seen2.Nodup):oKw it nx S w2 seen2:=by
  have hra:Rch it nx S a:=h.wt a ((hw a).2 (.inl rfl)) hi;have key:∀b,b∈seen\/b∈w->b∈seen2\/b∈w2:=λb hm=>by
    rcases hm with hm|hm
    · exact .inl ((hs b).2 (.inr hm))
    · rcases (hw b).1 hm with rfl|hm
      · exact .inl ((hs b).2 (.inl rfl))
      · exact .inr ((h2 b).2 (.inl hm))
  refine ⟨λb hb=>?_,λb hb hib=>?_,λb hb hib=>key b (h.al b hb hib),λb hb c hc hic=>?_,hn⟩
  · rcases (hs b).1 hb with rfl|hb
    · exact hra
    · exact h.sn b hb
  · rcases (h2 b).1 hb with hb|hb
    · exact h.wt b ((hw b).2 (.inr hb)) hib
    · exact .step a b hra hb hib
  · rcases (hs b).1 hb with rfl|hb
    · exact .inr ((h2 c).2 (.inr hc))
    · exact key c (h.nt b hb c hc hic)
theorem oKw.done {S seen:List Int} (h:oKw it nx S [] seen) (a:Int):a∈seen↔Rch it nx S a:=by
  constructor
  · exact h.sn a
  · intro hr;induction hr with
    | start a h1 h2=>exact (h.al a h1 h2).elim id (λhm=>by cases hm)
    | step a b _ h2 h3 ih=>exact (h.nt a ih b h2 h3).elim id (λhm=>by cases hm)
end
theorem oKn:∀{l m:List Int},l.Pairwise (· < ·)->m.Pairwise (· < ·)->(∀a,a∈l↔a∈m)->l=m
  | [],[],_,_,_=>rfl
  | [],b::m,_,_,h=>by have:=(h b).2 List.mem_cons_self;cases this
  | a::l,[],_,_,h=>by have:=(h a).1 List.mem_cons_self;cases this
  | a::l,b::m,hl,hm,h=>by
    obtain ⟨l1,l2⟩:=List.pairwise_cons.1 hl;obtain ⟨m1,m2⟩:=List.pairwise_cons.1 hm;have hab:a=b:=by
      rcases ZR.1 ((h a).1 List.mem_cons_self) with e|e
      · exact e
      · rcases ZR.1 ((h b).2 List.mem_cons_self) with e2|e2
        · exact e2.symm
        · have:=l1 b e2;have:=m1 a e;omega
    subst hab;rw [oKn l2 m2 λc=>?_];constructor
    · intro hc;rcases ZR.1 ((h c).1 (z1I _ hc)) with e|e
      · have:=l1 c hc;omega
      · exact e
    · intro hc;rcases ZR.1 ((h c).2 (z1I _ hc)) with e|e
      · have:=m1 c hc;omega
      · exact e
theorem oJi:∀(n:Nat) {l:List Int},l.Nodup->(∀a∈l,0<=a/\a<n)->l.length<=n
  | 0,[],_,_=>zI _
  | 0,a::l,_,h=>by have:=h a List.mem_cons_self;omega
  | n+1,l,hn,h=>by
    by_cases hm:(n:Int)∈l
    · have h1:=oJi n (hn.erase (n:Int)) (λa ha=>by obtain ⟨h2,h3⟩:=hn.mem_erase_iff.1 ha;have:=h a h3;omega);have h2:=List.length_erase_of_mem hm;omega
    · have:=oJi n hn (λa ha=>by have h3:a≠(n:Int):=λe=>hm (e ▸ ha);have:=h a ha;omega);omega
theorem oKl {l:List Int} (hn:l.Nodup):(l.mergeSort (λx y=>decide (x<=y))).Pairwise (· < ·):=by have h1:=List.pairwise_mergeSort (le:=λx y:Int=>decide (x<=y)) (λa b c h1 h2=>by simp at *;omega) (λa b=>by simp;omega) l;have h2:(l.mergeSort (λx y=>decide (x<=y))).Nodup:=(List.mergeSort_perm l _).nodup_iff.2 hn;refine (h1.and h2).imp fun {a b} h3=>?_;have:=jU h3.1;have:=h3.2;omega
theorem oNx {l:List Int} (h:l.Pairwise (· < ·)) {i j:Nat} (hij:i<j) (hj:j<l.length):l[i]'(Nat.lt_trans hij hj)<l[j]:=List.pairwise_iff_getElem.1 h i j (Nat.lt_trans hij hj) hj hij
structure AtI (out:List Int) (v:Int) (p:Nat):Prop where
  le:p<=out.length
  gt:∀j,p<=j->∀hj:j<out.length,v<out[j]
theorem oMc (out:List Int) (v:Int):AtI out v out.length:=⟨zI _,λj h1 h2=>by omega⟩
theorem AtI.down {out:List Int} {v:Int} {p:Nat} (h:AtI out v (p+1)) (hv:v<out[p]'(h.le)):AtI out v p:=
  ⟨by have:=h.le;omega,λj h1 h2=>by
    by_cases e:j=p
    · subst e;exact hv
    · exact h.gt j (by omega) h2⟩
theorem AtI.new {out:List Int} {v:Int} {p:Nat} (h:AtI out v p) (ha:out.Pairwise (· < ·)) (h0:∀hp:p-1<out.length,p≠0->out[p-1]<v):(out.take p++[v]++out.drop p).Pairwise (· < ·)/\∀a,a∈out.take p++[v]++out.drop p↔a=v\/a∈out:=by
  have hlt:∀x∈out.take p,x<v:=λx hx=>by
    obtain ⟨i,hi,e⟩:=List.getElem_of_mem hx;rw [JX] at hi;rw [List.getElem_take] at e;have hp:p-1<out.length:=(by have:=h.le;omega);have h1:=h0 hp (by omega);rw [<-e];by_cases hip:i=p-1
    · subst hip;exact h1
    · have:=oNx ha (show i<p-1 by omega) hp;omega
  have hgt:∀x∈out.drop p,v<x:=λx hx=>by obtain ⟨i,hi,e⟩:=List.getElem_of_mem hx;rw [JS] at hi;rw [List.getElem_drop] at e;rw [<-e];exact h.gt _ (by omega) _
  have h1:out.take p++out.drop p=out:=List.take_append_drop p out;have ht:(out.take p).Pairwise (· < ·):=ha.sublist (List.take_sublist _ _);have hd:(out.drop p).Pairwise (· < ·):=ha.sublist (List.drop_sublist _ _);constructor
  · rw [JP];refine List.pairwise_append.2 ⟨ht,List.pairwise_cons.2 ⟨λx hx=>hgt x (by simpa using hx),by simpa using hd⟩,λx hx y hy=>?_⟩;rcases ZR.1 (by simpa using hy:y∈v::out.drop p) with rfl|hy
    · exact hlt x hx
    · have:=hlt x hx;have:=hgt y hy;omega
  · intro a;have hm:a∈out↔a∈out.take p\/a∈out.drop p:=(by rw [<-z2D,h1]);rw [hm];simp only [List.mem_append,List.mem_singleton];constructor
    · rintro ((h|h)|h)
      · exact .inr (.inl h)
      · exact .inl h
      · exact .inr (.inr h)
    · rintro (h|h|h)
      · exact .inl (.inr h)
      · exact .inl (.inl h)
      · exact .inr h
structure oKz (l:List Int) (k:Nat) (out:List Int):Prop where
  asc:out.Pairwise (· < ·)
  mem:∀a,a∈out↔a∈l.take k
theorem oLs (l:List Int):oKz l 0 []:=⟨List.Pairwise.nil,λa=>by simp⟩
theorem oKz.same {l out:List Int} {k:Nat} (h:oKz l k out) (hk:k<l.length) (hv:l[k]∈out):oKz l (k+1) out:=
  ⟨h.asc,λa=>by
    rw [ZP hk,z2D,XJ,<-h.mem];constructor
    · exact .inl
    · rintro (h|rfl)
      · exact h
      · exact hv⟩
theorem oKz.add {l out:List Int} {k p:Nat} (h:oKz l k out) (hk:k<l.length) (hp:AtI out l[k] p) (h0:∀hp:p-1<out.length,p≠0->out[p-1]<l[k]):oKz l (k+1) (out.take p++[l[k]]++out.drop p):=by obtain ⟨a1,a2⟩:=hp.new h.asc h0;refine ⟨a1,λa=>?_⟩;rw [a2,ZP hk,z2D,XJ,<-h.mem];exact Or.comm
theorem oLe {l m out:List Int} (h:oKz l l.length out) (hn:m.Nodup) (hs:∀a,a∈l↔a∈m):m.mergeSort (λx y=>decide (x<=y))=out:=oKn (oKl hn) h.asc λa=>by rw [(List.mergeSort_perm m _).mem_iff,h.mem,z0L,hs]
end Go.Proofs.YtpigbggoiipmhaaGreatDoor
namespace Go.Proofs.YtpigbggoiipmhaaGreatDoor
set_option maxHeartbeats 16000000
set_option maxRecDepth 100000
open Go.RowKit Go.Shelf Go.Sort
theorem oLo (a:Option Addr) (n c f:Nat) (hf:f<=n) (hc:n<=c) (w:World):(Instr.sliceAt 38 (.slice a n c) none (some (.int .i64 (f:Int))) none).run Tryz.prog w=.ok (sliced a 0 f c 1) w:=by rw [run_sliceAt_slice _ _ _ _ _ _ (by kernel_rfl),run_slice_h w _ a n c (by kernel_rfl) .i64 (f:Int) (by omega) (by omega)];go_simp
theorem oLk (a:Option Addr) (n c f:Nat) (hf:f<=n) (w:World):(Instr.sliceAt 38 (.slice a n c) (some (.int .i64 (f:Int))) none none).run Tryz.prog w=.ok (sliced a f n c 1) w:=by rw [run_sliceAt_slice _ _ _ _ _ _ (by kernel_rfl),run_slice_l w _ a n c (by kernel_rfl) .i64 (f:Int) (by omega) (by omega)];go_simp
theorem oMb {w:World} {p:aB} {a:Option Addr} {c:Nat} {m:List Int} (h:SlR oO w p (.slice a m.length c) m) (f:Nat) (hf:f<=m.length):
    SlR oO w p (sliced a 0 f c 1) (m.take f)/\SlR oO w p (sliced a f m.length c 1) (m.drop f):=by
  obtain ⟨a',c',e,h1,h2,g⟩:=h;injection e with e1 _ e3;subst e1 e3;have ht:(m.take f).length=f:=by rw [JX];omega
  have hd:(m.drop f).length=m.length-f:=JS;constructor
  · unfold sliced;simp only [Nat.zero_mul,Addr.add_zero',ite_self,Nat.sub_zero,Option.map_id'];refine ⟨_,_,by rw [ht],by omega,by omega,λi x hx=>?_⟩;rw [List.getElem?_take] at hx;split at hx
    · exact g i x hx
    · cases hx
  · unfold sliced;by_cases hc:c=f
    · have h0:m.drop f=[]:=List.drop_eq_nil_of_le (by omega);rw [if_pos hc,h0];exact ⟨_,_,by rw [show m.length-f=0 by omega];rfl,YD _,by omega,λi x hx=>by simp at hx⟩
    · rw [if_neg hc];refine ⟨_,_,by rw [hd],by omega,by omega,λi x hx=>?_⟩;rw [List.getElem?_drop] at hx;obtain ⟨b,o,cs,e,hp,hb,hcs,hr⟩:=g (f+i) x hx;refine ⟨b,o+f*1,cs,by rw [e,Option.map_some,Addr.add_lit],hp,hb,?_,hr⟩;rw [show o+f*1+i*oO.size=o+(f+i)*oO.size from by show o+f*1+i*1=o+(f+i)*1;omega];exact hcs
theorem regS {P:Prop} (h:P:=by
  have HS1:=aA (λW (hb:RowKit.Below w8.heap.size w8 W)=>s1.old.below hb);have HS2:=aA (λW (hb:RowKit.Below w8.heap.size w8 W)=>s2.old.below hb);clear s1 s2 HPT HAD HAS HOI HLI;have HZ:=aA HBV.out.size;have HBA:Hid (RowKit.Below w8.heap.size w8 (V.alloc (.cells #[] 3)).drew):=aA ((HBV.out.alloc HBV.out.size _).drew);have HBB:Hid (RowKit.Below w8.heap.size w8 ((V.alloc (.cells #[] 3)).alloc (.cells #[.int .i64 x] 3)).drew):=aA (((HBV.out.alloc HBV.out.size _).alloc (by rw [zW];have:=HZ.out;omega) _).drew);have HBC:Hid (RowKit.Below w8.heap.size w8 ((V.alloc (.cells #[.int .i64 x] 3)).alloc (.cells #[] 3)).drew):=aA (((HBV.out.alloc HBV.out.size _).alloc (by rw [zW];have:=HZ.out;omega) _).drew);have HOA:Hid (Own oO (V.alloc (.cells #[] 3)).drew w8.heap.size 3 NoB (.slice (some ⟨V.heap.size,0,none⟩) 0 0) []):=aA (((Own.made V _ _).base HZ.out).keep (aS.drew _));have HOB:Hid (Own oO ((V.alloc (.cells #[] 3)).alloc (.cells #[.int .i64 x] 3)).drew w8.heap.size 3 NoB (.slice (some ⟨V.heap.size,0,none⟩) 0 0) []):=aA ((((Own.made V _ _).base HZ.out).stay ((zY _ _).alloc (zI _) _)).keep (aS.drew _));have HOC2:Hid (Own oO ((V.alloc (.cells #[.int .i64 x] 3)).alloc (.cells #[] 3)).drew w8.heap.size 3 NoB (.slice (some ⟨V.heap.size+1,0,none⟩) 0 0) []):=aA (by have h1:=(Own.made (R:=oO) (V.alloc (.cells #[.int .i64 x] 3)) 3 NoB).base (B':=w8.heap.size) (by rw [zW];have:=HZ.out;omega);rw [zW] at h1;exact h1.keep (aS.drew _));have HLB:Hid (SlR oO ((V.alloc (.cells #[] 3)).alloc (.cells #[.int .i64 x] 3)).drew (λk=>NoB k\/k=V.heap.size+1) (.slice (some ⟨V.heap.size+1,0,none⟩) 1 1) [x]):=aA (by have h1:=GR (R:=oO) (w:=V.alloc (.cells #[] 3)) (p:=NoB) (cs:=[.int .i64 x]) (x:=x) rfl 3;rw [zW] at h1;exact h1.drew);have HLC:Hid (SlR oO ((V.alloc (.cells #[.int .i64 x] 3)).alloc (.cells #[] 3)).drew (λk=>NoB k\/k=V.heap.size) (.slice (some ⟨V.heap.size,0,none⟩) 1 1) [x]):=aA ((GR (R:=oO) (w:=V) (p:=NoB) (cs:=[.int .i64 x]) (x:=x) rfl 3).alloc _).drew;have HN1:Hid ((([]:List Int).length+m1.length)*8<=140737488355328/\([]:List Int).length+m1.length<=9223372036854775807):=aA (by have:=HL12.out;have:=HOL.out;have:=HLN.out;simp;omega);have HN2:Hid ((m1.length+[x].length)*8<=140737488355328/\m1.length+[x].length<=9223372036854775807):=aA (by have:=HL12.out;have:=HOL.out;have:=HLN.out;simp;omega);have HN3:Hid (((m1++[x]).length+m2.length)*8<=140737488355328/\(m1++[x]).length+m2.length<=9223372036854775807):=aA (by have:=HL12.out;have:=HOL.out;have:=HLN.out;simp;omega);have HNL:Hid ((m1++[x]++m2).length<=k+1):=aA (by have:=HL12.out;have:=HOL.out;simp;omega);have HQ0:Hid (∀k,True/\k<w8.heap.size->some k≠Value.ownBlock (.slice (some ⟨V.heap.size,0,none⟩) 0 0)/\some k≠Value.ownBlock (.slice (some ⟨V.heap.size+1,0,none⟩) 0 0)):=aA (λk hk=>by have:=HZ.out;constructor<;>(intro e;simp [Value.ownBlock] at e;omega));have HG0:Hid (∀k,(Value.ownBlock (.slice (some ⟨V.heap.size,0,none⟩) 0 0)=some k->w8.heap.size<=k)/\(Value.ownBlock (.slice (some ⟨V.heap.size+1,0,none⟩) 0 0)=some k->w8.heap.size<=k)):=aA (λk=>by have:=HZ.out;constructor<;>(intro e;simp [Value.ownBlock] at e;omega));go_region_held3 (λw'=>w'.cell? ⟨lb,lo+k,none⟩=some (.int .i64 x)) (go_keep)
    (first
      | (refine eK (o:=⟨some 48,_,_,_,_,_⟩) _ (by rfl) (.tmp 44) (.tmp 47) 38 (by rfl) w8.heap.size 3 8 oJg NoB (λk=>True/\k<w8.heap.size) (.slice (some ⟨V.heap.size,0,none⟩) 0 0) u1 [] m1 (by rfl) (by rfl) HOA.out (HS1.out _ HBA.out) (λ_ h=>h.elim) (λk hk=>(HQ0.out k hk).1) HN1.out.1 HN1.out.2 HBA.out.size ?_;intro v5 wA hap;rw [z0T] at hap;have HB2:=aA (HBA.out.grown hap.2.1 HBA.out.size (λk e=>(HG0.out k).1 e));have hclA:=HCF.out _ HB2.out;have HO2:Hid (Own oO wA w8.heap.size 3 NoB v5 m1):=aA (hap.1.flat NoB);obtain ⟨a5,c5,rfl⟩:=hap.1.form;clear hap)
      | (refine eK (o:=⟨some 48,_,_,_,_,_⟩) _ (by rfl) (.tmp 44) (.tmp 47) 38 (by rfl) w8.heap.size 3 8 oJg NoB (λk=>True/\k<w8.heap.size) (.slice (some ⟨V.heap.size,0,none⟩) 0 0) u1 [] m1 (by rfl) (by rfl) HOB.out (HS1.out _ HBB.out) (λ_ h=>h.elim) (λk hk=>(HQ0.out k hk).1) HN1.out.1 HN1.out.2 HBB.out.size ?_;intro v5 wA hap;rw [z0T] at hap;have HB2:=aA (HBB.out.grown hap.2.1 HBB.out.size (λk e=>(HG0.out k).1 e));have hclA:=HCF.out _ HB2.out;have HO2:Hid (Own oO wA w8.heap.size 3 NoB v5 m1):=aA (hap.1.flat NoB);obtain ⟨a5,c5,rfl⟩:=hap.1.form;have HLT:=aA (HLB.out.old.keep (aS.grown hap.2.1 (λk hk=>⟨hk.2,by rcases hk.1 with h|h;exact h.elim;subst h;simp [Value.ownBlock]⟩)));have HLQ:Hid (∀k,(NoB k\/k=V.heap.size+1)/\k<((V.alloc (.cells #[] 3)).alloc (.cells #[.int .i64 x] 3)).drew.heap.size->some k≠Value.ownBlock (.slice a5 m1.length c5)):=aA (λk hk e=>by rcases hk.1 with h|h;exact h.elim;rcases hap.2.2 with h2|h2;(rw [h2] at e;simp [Value.ownBlock] at e;omega);(rw [h2] at e;have:=hk.2;injection e with e;omega));clear hap)
      | (refine eK (o:=⟨some 48,_,_,_,_,_⟩) _ (by rfl) (.tmp 44) (.tmp 47) 38 (by rfl) w8.heap.size 3 8 oJg NoB (λk=>True/\k<w8.heap.size) (.slice (some ⟨V.heap.size+1,0,none⟩) 0 0) u1 [] m1 (by rfl) (by rfl) HOC2.out (HS1.out _ HBC.out) (λ_ h=>h.elim) (λk hk=>(HQ0.out k hk).2) HN1.out.1 HN1.out.2 HBC.out.size ?_;intro v5 wA hap;rw [z0T] at hap;have HB2:=aA (HBC.out.grown hap.2.1 HBC.out.size (λk e=>(HG0.out k).2 e));have hclA:=HCF.out _ HB2.out;have HO2:Hid (Own oO wA w8.heap.size 3 NoB v5 m1):=aA (hap.1.flat NoB);obtain ⟨a5,c5,rfl⟩:=hap.1.form;have HLT:=aA (HLC.out.old.keep (aS.grown hap.2.1 (λk hk=>⟨hk.2,by rcases hk.1 with h|h;exact h.elim;subst h;simp [Value.ownBlock]⟩)));have HLQ:Hid (∀k,(NoB k\/k=V.heap.size)/\k<((V.alloc (.cells #[.int .i64 x] 3)).alloc (.cells #[] 3)).drew.heap.size->some k≠Value.ownBlock (.slice a5 m1.length c5)):=aA (λk hk e=>by rcases hk.1 with h|h;exact h.elim;rcases hap.2.2 with h2|h2;(rw [h2] at e;simp [Value.ownBlock] at e;omega);(rw [h2] at e;have:=hk.2;injection e with e;omega));clear hap)
      | (refine eK (o:=⟨some 54,_,_,_,_,_⟩) _ (by rfl) (.tmp 48) (.tmp 53) 38 (by rfl) w8.heap.size 3 8 oJg NoB _ (.slice a5 m1.length c5) _ m1 [x] (by rfl) (by rfl) HO2.out HLT.out (λ_ h=>h.elim) HLQ.out HN2.out.1 HN2.out.2 HB2.out.size ?_;intro v6 wC hap;have HB3:=aA (HB2.out.grown hap.2.1 HB2.out.size (λk e=>(HO2.out.lt k e).1));have hclC:=HCF.out _ HB3.out;have HO3:Hid (Own oO wC w8.heap.size 3 NoB v6 (m1++[x])):=aA (hap.1.flat NoB);obtain ⟨a6,c6,e6⟩:=hap.1.form;rw [show (m1++[x]).length=m1.length+1 by simp] at e6;subst e6;have HQ3:Hid (∀k,True/\k<w8.heap.size->some k≠Value.ownBlock (.slice a6 (m1.length+1) c6)):=aA (λk hk e=>by have:=(HO3.out.lt k e.symm).1;omega);clear hap)
      | (refine eK (o:=⟨some 54,_,_,_,_,_⟩) _ (by rfl) (.tmp 48) (.tmp 53) 38 (by rfl) w8.heap.size 3 8 oJg NoB (λk=>NoB k\/k=wA.heap.size) (.slice a5 m1.length c5) (.slice (some ⟨wA.heap.size,0,none⟩) 1 1) m1 [x] (by rfl) (by rfl) (HO2.out.stay ((zY _ _).alloc (zI _) _)) (GR (R:=oO) (w:=wA) (p:=NoB) (cs:=[.int .i64 x]) (x:=x) rfl 3) (λ_ h=>h.elim) (λk hk e=>by rcases hk with h|h;exact h.elim;have:=(HO2.out.lt k e.symm).2;omega) HN2.out.1 HN2.out.2 (HB2.out.alloc HB2.out.size _).size ?_;intro v6 wC hap;have HB3:=aA ((HB2.out.alloc HB2.out.size _).grown hap.2.1 (HB2.out.alloc HB2.out.size _).size (λk e=>(HO2.out.lt k e).1));have hclC:=HCF.out _ HB3.out;have HO3:Hid (Own oO wC w8.heap.size 3 NoB v6 (m1++[x])):=aA (hap.1.flat NoB);obtain ⟨a6,c6,e6⟩:=hap.1.form;rw [show (m1++[x]).length=m1.length+1 by simp] at e6;subst e6;have HQ3:Hid (∀k,True/\k<w8.heap.size->some k≠Value.ownBlock (.slice a6 (m1.length+1) c6)):=aA (λk hk e=>by have:=(HO3.out.lt k e.symm).1;omega);clear hap)
      | (refine eK (o:=⟨some 58,_,_,_,_,_⟩) _ (by rfl) (.tmp 54) (.tmp 57) 38 (by rfl) w8.heap.size 3 8 oJg NoB (λk=>True/\k<w8.heap.size) (.slice a6 (m1.length+1) c6) u2 (m1++[x]) m2 (by rfl) (by rfl) HO3.out (HS2.out _ HB3.out) (λ_ h=>h.elim) HQ3.out HN3.out.1 HN3.out.2 HB3.out.size ?_;intro v7 wD hap;have HB4:=aA (HB3.out.grown hap.2.1 HB3.out.size (λk e=>(HO3.out.lt k e).1));have hclD:=HCF.out _ HB4.out;have HO4:Hid (Own oO wD w8.heap.size 3 NoB v7 (m1++[x]++m2)):=aA (hap.1.flat NoB);obtain ⟨a7,c7,rfl⟩:=hap.1.form;clear hap))
  all_goals
    go_wp2;go_roundw;case rel=>exact ⟨k+1,m1++[x]++m2,by omega,by go_num,HNL.out,HNW.out,by have h4:=HO4.out.base HB.out.size;rwa [show (m1++[x]++m2).length=m1.length+(m2.length+1) by simp] at h4,HB.out.trans (HB4.out.mono HB.out.size)⟩
    case measure=>simp [intOf];omega):P:=h
theorem oKv (p:aB) (v:Value) (l:List Int) (w:World) (h:SlR oO w p v l) (hl:l.length<=1000000):
    Calls Tryz.prog 47 #[v] w λe w'=>(∃v' out,e=.returned v'/\Own oO w' w.heap.size 3 NoB v' out/\oKz l l.length out)/\RowKit.Below w.heap.size w w':=by
  have HS:=aA h;have HLN:=aA hl;obtain ⟨la,lc,rfl,_,_,_⟩:=h.int;have hlm:(l.length:Int)<=1000000:=by omega
  clear h hl;go_enter Tryz.func47,Tryz.ntmps47;go_wp2;go_loopw [3,4,5] (λy i _ wr=>∃(k:Nat) (out:List Int),k<=l.length/\i=.int .i64 k/\out.length<=k/\oKz l k out/\Own oO wr w.heap.size 3 NoB y out/\RowKit.Below w.heap.size w wr) (λ_ i _ _=>l.length-(intOf i).toNat);case atStart=>exact ⟨0,[],YD _,rfl,zI _,oLs _,Own.nil _ _ _ _ _,zY _ _⟩
  case round=>
    obtain ⟨k,out,hk,rfl,hol,hasc,ho,hb⟩:=hrel;obtain ⟨w8,hw8⟩:∃W:World,W=wr:=⟨_,rfl⟩;subst hw8;have HB:=aA hb;have HO:=aA ho;obtain ⟨oa,oc,rfl⟩:=ho.form;by_cases hlt:k<l.length
    · have HOL:=aA hol;have HLI:=aA ((HS.out.below HB.out).int);have HOI:=aA ((HO.out.slR (q:=λ_=>True) (λ_ h=>h.elim) (λ_ _=>trivial)).int);have HAS:Hid (l[k]∈out->oKz l (k+1) out):=aA (λhv=>hasc.same hlt hv);have HAD:Hid (∀q,AtI out l[k] q->(∀hp:q-1<out.length,q≠0->out[q-1]<l[k])->oKz l (k+1) (out.take q++[l[k]]++out.drop q)):=aA (λq h1 h2=>hasc.add hlt h1 h2);have HC:Hid (∃b o,la=some ⟨b,o,none⟩/\w8.cell? ⟨b,o+k,none⟩=some (.int .i64 l[k])):=aA (by obtain ⟨a2,c2,e2,_,_,g2⟩:=HLI.out;injection e2 with e2 e3 e4;obtain ⟨b,o,e5,_,e6⟩:=g2 k l[k] (zL hlt);exact ⟨b,o,e2.trans e5,e6⟩);generalize l[k]=x at *;obtain ⟨lb,lo,rfl,hcl⟩:=HC.out;have HPT:=aA (λq hq=>oMb (HO.out.slR (q:=λ_=>True) (λ_ h=>h.elim) (λ_ _=>trivial)) q hq);have HOC:Hid (out.length<=oc):=aA (by obtain ⟨_,_,e,h1,_⟩:=HOI.out;injection e with _ _ e;rw [e];exact h1);clear hasc ho hb hol HC;have hom:(out.length:Int)<=1000000:=(by have:=HOL.out;omega);go_upto_region 6 with fail;go_loopw [5] (λi w2=>∃q:Nat,q<=out.length/\i=.int .i64 q/\AtI out x q/\RowKit.Below w8.heap.size w8 w2) (λi _=>(intOf i).toNat);case atStart=>exact ⟨out.length,zI _,rfl,oMc _ _,zY _ _⟩
      case round=>
        obtain ⟨q,hq,rfl,hat,hb2⟩:=hrel;have HB2:=aA hb2;have HAT:=aA hat;have hcl2:=(hb2.cell (QI _ _ hcl)).trans hcl;clear hb2 hat;cases q with
        | zero=>go_wp2;go_quiet (fail);go_upto_region 8 with fail;go_quiet (fail);go_upto_region 9 with fail;rename_i n1;obtain ⟨V,hV⟩:∃V,V=(wr.drewN n1).drewN nq:=⟨_,rfl⟩;have HBV:Hid (RowKit.Below w8.heap.size w8 V):=aA (by rw [hV];exact aY (aY HB2.out _) _);rw [<-hV];have hclV:=(HBV.out.cell (QI _ _ hcl)).trans hcl;have HCF:=aA (λW (hb:RowKit.Below w8.heap.size w8 W)=>(hb.cell (QI _ _ hcl)).trans hcl);clear hV hcl hcl2;have HNW:=aA (HAD.out 0 HAT.out (λ_ h=>absurd rfl h));obtain ⟨s1,s2⟩:=HPT.out 0 (YD _);have hr1:=λW=>oLo oa out.length oc 0 (YD _) HOC.out W;have hr2:=λW=>oLk oa out.length oc 0 (YD _) W;generalize hz9:((0:Nat):Int)=z9;rw [hz9] at hr1 hr2;clear hz9;have HL12:Hid ((out.take 0).length+(out.drop 0).length=out.length):=aA (by rw [JX,JS];omega);generalize out.take 0=m1 at *;generalize out.drop 0=m2 at *;generalize sliced oa 0 0 oc 1=u1 at *;generalize sliced oa 0 out.length oc 1=u2 at *;exact regS
        | succ m=>
          have hm:m<out.length:=(by omega);obtain ⟨a3,c3,e3,_,_,g3⟩:=HOI.out;injection e3 with e3 e4 e5;obtain ⟨ob,oo,e6,_,hco⟩:=g3 m out[m] (zL hm);have hco2:=(HB2.out.cell (QI _ _ hco)).trans hco;subst e6;subst e3;clear e4 e5 g3;have hx1:((m+1:Nat):Int)-1=(m:Int):=(by omega);have HDN:Hid (x<out[m]->AtI out x m):=aA (λhv=>HAT.out.down hv);have HEQ:Hid (out[m]=x->x∈out):=aA (λe=>e ▸ z0J hm);have HLE:Hid (out[m]<x->∀hp:m+1-1<out.length,m+1≠0->out[m+1-1]<x):=aA (λe hp _=>by simpa using e);generalize out[m]=y at *;by_cases hy:x<y
          · go_wp2;go_quiet (fail);go_wp2;go_roundw;case rel=>exact ⟨m,by omega,by go_num,HDN.out hy,aY HB2.out _⟩
            case measure=>simp [intOf]
          · have hyx:¬x<y:=hy;have hz0:((m:Int)+1==0)=false:=(by rw [yW];omega);go_wp2;go_quiet (fail);by_cases he:y=x
            · have HA2:=aA (HAS.out (HEQ.out he));have hne:(y != x)=false:=(by rw [bne_eq_false_iff_eq];exact he);go_upto_region 8 with fail;go_quiet (fail);go_wp2;go_roundw;case rel=>exact ⟨k+1,out,by omega,by go_num,by have:=HOL.out;omega,HA2.out,(HO.out.stay HB2.out).keep (λ_ _=>rfl),HB.out.trans ((aY HB2.out _).mono HB.out.size)⟩
              case measure=>simp [intOf];omega
            · have hne:(y != x)=true:=(by rw [bne_iff_ne];exact he);have HLE2:=aA (HLE.out (by omega));go_upto_region 8 with fail;go_quiet (fail);go_upto_region 9 with fail;rename_i n1 h9;obtain ⟨V,hV⟩:∃V,V=(wr.drewN n1).drewN nq:=⟨_,rfl⟩;have HBV:Hid (RowKit.Below w8.heap.size w8 V):=aA (by rw [hV];exact aY (aY HB2.out _) _);rw [<-hV];have hclV:=(HBV.out.cell (QI _ _ hcl)).trans hcl;have HCF:=aA (λW (hb:RowKit.Below w8.heap.size w8 W)=>(hb.cell (QI _ _ hcl)).trans hcl);clear hV hcl hcl2;have hm1:m+1<=out.length:=(by omega);have HNW:=aA (HAD.out (m+1) HAT.out HLE2.out);obtain ⟨s1,s2⟩:=HPT.out (m+1) hm1;have hr1:=λW=>oLo (some ⟨ob,oo,none⟩) out.length oc (m+1) hm1 HOC.out W;have hr2:=λW=>oLk (some ⟨ob,oo,none⟩) out.length oc (m+1) hm1 W;rw [show ((m+1:Nat):Int)=(m:Int)+1 from by omega] at hr1 hr2;generalize hz9:(m:Int)+1=z9;rw [hz9] at hr1 hr2;clear hz9 HDN HEQ HLE HLE2 hco hco2;have HL12:Hid ((out.take (m+1)).length+(out.drop (m+1)).length=out.length):=aA (by rw [JX,JS];omega);generalize out.take (m+1)=m1 at *;generalize out.drop (m+1)=m2 at *;generalize sliced (some ⟨ob,oo,none⟩) 0 (m+1) oc 1=u1 at *;generalize sliced (some ⟨ob,oo,none⟩) (m+1) out.length oc 1=u2 at *;exact regS
    · obtain rfl:k=l.length:=(by omega);clear ho hb;go_wp2;go_ret;exact ⟨⟨_,out,rfl,HO.out,hasc⟩,HB.out⟩
end Go.Proofs.YtpigbggoiipmhaaGreatDoor
