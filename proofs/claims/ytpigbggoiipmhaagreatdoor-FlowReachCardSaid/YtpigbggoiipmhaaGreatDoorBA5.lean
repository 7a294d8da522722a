/-
  The reference's operands, instructions, operations with the accumulator. search.last, in$1. ref10: has, within, Letter. search.displaced, numbered. The reference's instructions of x = 0. search.plain. search.numbered. ref10.Letter. ref10.shaped. Go's data in memory, operands, instructions, append, copies, words of a text. Conditions: the bits; at most a million operands; the index lies in the list of operands; sizes.
-/
import Derived.Test.YtpigbggoiipmhaaGreatDoorBA4
namespace Go.Proofs.YtpigbggoiipmhaaGreatDoor
open Go.RowKit
structure Fr (w0:World) (L:List (Nat × TypeId × Array Value)) (w:World):Prop where
 below:Below w0.heap.size w0 w
 at':∀x∈L,Blk w x.1 x.2.1 x.2.2
theorem Fr.start (w:World):Fr w [] w:=⟨zY _ _,λ_ h=>by cases h⟩
theorem Fr.blk {w0 w:World} {L:List (Nat × TypeId × Array Value)} (h:Fr w0 L w) (i:Nat) {b:Nat} {t:TypeId} {cs:Array Value} (hi:L[i]?=some (b,t,cs)):Blk w b t cs:=h.at' _ (VM hi)
theorem Fr.next {w0 W w1:World} {L:List (Nat × TypeId × Array Value)} (h:Fr w0 L W) (hb:Below W.heap.size W w1):Fr w0 L w1:=⟨h.below.trans (hb.mono h.below.size),λx hx=>(h.at' x hx).below hb (h.at' x hx).lt⟩
theorem Fr.drew {w0 W:World} {L:List (Nat × TypeId × Array Value)} (h:Fr w0 L W):Fr w0 L W.drew:=h.next (zY _ _).drew
theorem Fr.drewN {w0 W:World} {L:List (Nat × TypeId × Array Value)} (h:Fr w0 L W) (n:Nat):Fr w0 L (W.drewN n):=h.next (aY (zY _ _) n)
theorem Fr.alloc {w0 W:World} {L:List (Nat × TypeId × Array Value)} (h:Fr w0 L W) (o:Obj):Fr w0 L (W.alloc o):=h.next ((zY _ _).alloc (zI _) o)
theorem Fr.new {w0 W:World} {L:List (Nat × TypeId × Array Value)} (h:Fr w0 L W) (t:TypeId) (cs:Array Value):Fr w0 ((W.heap.size,t,cs)::L) (W.alloc (.cells cs t)):=
 ⟨(h.alloc _).below,λx hx=>by
  rcases ZR.1 hx with rfl | hx
  ·exact Blk.new W t cs
  ·exact (h.alloc _).at' x hx⟩
theorem Fr.new' {w0 W:World} {L:List (Nat × TypeId × Array Value)} (h:Fr w0 L W) (t:TypeId) (cs:Array Value) {b:Nat} (hb:W.heap.size=b):Fr w0 ((b,t,cs)::L) (W.alloc (.cells cs t)):=by subst hb;exact h.new t cs
theorem Fr.set {w0 W:World} {L:List (Nat × TypeId × Array Value)} {b:Nat} {t:TypeId} {cs:Array Value} (h:Fr w0 ((b,t,cs)::L) W) (hb:w0.heap.size<=b) (hn:∀x∈L,x.1≠b) (i:Nat) (u:Value):Fr w0 ((b,t,cs.setIfInBounds i u)::L) (W.setCell ⟨b,i,none⟩ u):=
 ⟨h.below.setCell hb _,λx hx=>by
  rcases ZR.1 hx with rfl | hx
  ·exact (h.blk 0 rfl).set i u
  ·exact (h.at' x (by simp [hx])).far (hn x hx) u⟩
theorem Fr.drop {w0 W:World} {x:Nat × TypeId × Array Value} {L:List (Nat × TypeId × Array Value)} (h:Fr w0 (x::L) W):Fr w0 L W:=⟨h.below,λy hy=>h.at' y (by simp [hy])⟩
theorem Fr.sub {w0 W:World} {L M:List (Nat × TypeId × Array Value)} (h:Fr w0 L W) (hs:∀x∈M,x∈L):Fr w0 M W:=⟨h.below,λy hy=>h.at' y (hs y hy)⟩
theorem Fr.size {w0 W:World} {L:List (Nat × TypeId × Array Value)} (h:Fr w0 L W):w0.heap.size<=W.heap.size:=h.below.size
end Go.Proofs.YtpigbggoiipmhaaGreatDoor
namespace Go.Proofs.YtpigbggoiipmhaaGreatDoor
open Go.RowKit Go.Shelf Go.Sort
theorem aD.form {w:World} {q:aB} {v:Value} {l:List Opd} (h:aD w q v l):∃a c,v=.slice a l.length c:=by obtain ⟨a,c,e,_⟩:=h;exact ⟨a,c,e⟩
theorem aD.far {w:World} {q:aB} {v:Value} {l:List Opd} (h:aD w q v l) {p:Addr} (hq:∀k,q k->k≠p.block) (u:Value):aD (w.setCell p u) q v l:=h.keep (aS.setCell hq u)
set_option maxHeartbeats 4000000
set_option maxRecDepth 100000
def kAt (l:List Opd) (k:Nat):Int:=match l[k]? with | some o=>o.kind | none=>0
def bU (ks:List Int) (l:List Opd):Nat->Int
 | 0=>-1
 | n+1=>if ks.contains (kAt l n)=true then n else bU ks l n
theorem PG {ks:List Int} {l:List Opd} {n:Nat} (hn:n < l.length) (h:ks.contains l[n].kind=true):bU ks l (n+1)=n:=by unfold bU kAt;rw [zL hn];exact if_pos h
theorem VL {ks:List Int} {l:List Opd} {n:Nat} (hn:n < l.length) (h:ks.contains l[n].kind=false):bU ks l (n+1)=bU ks l n:=by rw [bU];unfold kAt;rw [zL hn];exact if_neg (by simp only [h];decide)
theorem qR (t:ByteArray) (l:List Opd) (ks:List Int) (kv:Value) (p:aB) (v:Value) (w:World) (h:SlR aM w p v l)
  (hks:∀W,RowKit.Below w.heap.size w W->∀x,Calls Tryz.prog 17 #[kv,.int .i64 x] W λe w'=>e=.returned (.bool (ks.contains x))/\w'=W):
  Calls Tryz.prog 236 #[.agg #[.string t,v],kv] w λe w'=>e=.returned (.int .i64 (bU ks l l.length))/\Below w.heap.size w w':=by
 obtain ⟨va,vc,rfl⟩:∃a c,v=.slice a l.length c:=by obtain ⟨a,c,e,_⟩:=h;exact ⟨a,c,e⟩
 have hl1:=h.len_le;have HF:=aA ((Fr.start w).new 30 #[.string t,.slice va l.length vc]);have HS1:=aA (h.alloc (.cells #[.string t,.slice va l.length vc] 30));have HK:=aA (hks _ HF.out.below);clear h hks;obtain ⟨R,hR⟩:∃R,bU ks l l.length=R:=⟨_,rfl⟩;rw [hR];obtain ⟨W0,hW0⟩:∃W0:World,W0=(w.alloc (.cells #[.string t,.slice va l.length vc] 30)):=⟨_,rfl⟩;rw [<-hW0] at HF HS1 HK;go_enter Tryz.func236,Tryz.ntmps236;go_upto_region 1 with fail;rw [<-hW0];clear hW0;have q1:=(HF.out.blk 0 rfl).cell 1;go_wp2;have HR:=aA hR;clear hR;go_loop [5] (λi=>∃k:Nat,k<=l.length/\i=.int .i64 ((k:Int) - 1)/\bU ks l k=R) (λi=>(intOf i+1).toNat);case atStart=>exact ⟨l.length,zI _,by go_num,HR.out⟩
 case round=>
  obtain ⟨k,hk,hi,ht⟩:=hrel;rcases k with _ | k
  ·have ht2:-1=R:=ht;have HT:=aA ht2;have hi2:((0:Nat):Int) - 1=-1:=rfl;rw [hi2] at hi;subst hi;clear ht ht2 hi2;go_wp2;go_ret;exact ⟨bK HT.out,HF.out.below⟩
  ·have hi2:((k+1:Nat):Int) - 1=k:=(by omega);rw [hi2] at hi;subst hi;have hlt:k < l.length:=hk;obtain ⟨a1,c1,e1,_,_,g1⟩:=HS1.out.opd;injection e1 with e1 e3 e4;clear e3;subst e1 e4;obtain ⟨b1,o1,rfl,_,c0,_,_⟩:=g1 k l[k] (zL hlt);have HY:=aA (λh=>(PG (ks:=ks) hlt h).symm.trans ht);have HN:=aA (λh=>(VL (ks:=ks) hlt h).symm.trans ht);clear g1 ht hi2;generalize l[k]=x at *;obtain ⟨xk,xr,xn⟩:=x;dsimp only at *;have HC:=aA (HK.out xk);cases hc:ks.contains xk
   ·rw [hc] at HC;have HT:=aA (HN.out hc);clear hc HY HN;go_wp2_with (go_at_call 17;refine HC.out.mono ?_;rintro e w2 ⟨rfl,hw2⟩;subst w2);go_round;case rel=>exact ⟨k,by omega,by go_num,HT.out⟩
    case measure=>simp [intOf]
   ·rw [hc] at HC;have HT:=aA (HY.out hc);clear hc HY HN;go_wp2_with (go_at_call 17;refine HC.out.mono ?_;rintro e w2 ⟨rfl,hw2⟩;subst w2);go_ret;exact ⟨bK HT.out,HF.out.below⟩
theorem GU (lo hi n:Int) (a b:Nat) (w:World) (h1:w.cell? ⟨a,0,none⟩=some (.int .i64 lo)) (h2:w.cell? ⟨b,0,none⟩=some (.int .i64 hi)):
  Calls Tryz.prog 259 #[.int .i64 n,.pointer (some ⟨a,0,none⟩),.pointer (some ⟨b,0,none⟩)] w λe w'=>e=.returned (.bool (bG lo hi n))/\Below w.heap.size w w':=by
 have HB:=aA (((Fr.start w).new 38 #[.int .i64 n]).blk 0 rfl);have HQ:=aA ((Fr.start w).alloc (.cells #[.int .i64 n] 3));go_enter Tryz.func259,Tryz.ntmps259;go_wp2_with (go_at_call 59;refine (sV lo hi n _ _ (Blk.cell (Blk.new _ _ _) 0)).mono ?_;rintro e w2 ⟨rfl,hw2⟩;subst w2);go_ret;exact ⟨rfl,HQ.out.below⟩
def cO (l:List UInt8) (c:Int):Bool:=l.any λb=>(b.toNat:Int)==c
def cE (c n:Int):Bool:=if c=100\/c=101 then decide (-128<=n)&&decide (n<=127) else if c=110 then decide (0<=n)&&decide (n<=255) else decide (0<=n)&&decide (n<=65535)
theorem nH (c:UInt8):∀l:List UInt8,0<=Lib.indexByte l c↔c∈l
 | []=>by simp [Lib.indexByte]
 | b::l=>by
  have ih:=nH c l;unfold Lib.indexByte;by_cases hb:b=c
  ·subst hb;simp
  ·rw [if_neg (by simpa using hb)];by_cases hm:Lib.indexByte l c=-1
   ·rw [if_pos (by simpa using hm)];have:c ∉ l:=λh=>(by have:=ih.2 h;omega);simp [this];exact λe=>hb e.symm
   ·rw [if_neg (by simpa using hm)];have hge:0<=Lib.indexByte l c↔0<=Lib.indexByte l c+1:=by
     rcases (Int.lt_or_le (Lib.indexByte l c) 0) with h | h
     ·exfalso;have:-1<=Lib.indexByte l c:=(by rw [<-Lib.index_one];exact Lib.index_ge _ _);omega
     ·constructor<;>intro _<;>omega
    rw [<-hge,ih];constructor
    ·exact λh=>z1I _ h
    ·intro h;rcases ZR.1 h with h | h
     ·exact absurd h.symm hb
     ·exact h
theorem iE (s:ByteArray) (c:UInt8) (w:World):Calls Tryz.prog 238 #[.string s,.string ⟨#[c]⟩] w λe w'=>e=.returned (.bool (cO s.data.toList c.toNat))/\w'=w:=
 (Tryz.strings_Contains_one s c w).mono λe w' ⟨h1,h2⟩=>⟨by
  rw [h1];refine aF ?_;rw [z0C,decide_eq_true_iff,nH];unfold cO;rw [z0H];constructor
  ·exact λh=>⟨c,h,by simp⟩
  ·rintro ⟨x,hx,he⟩;have h2:x.toNat=c.toNat:=(by have:=eq_of_beq he;omega);rwa [<-z1O.1 h2],h2⟩
def funV (a b:Nat):Value:=.func (.func 259) #[] #[.pointer (some ⟨a,0,none⟩),.pointer (some ⟨b,0,none⟩)]
def VarP (w:World) (idx lo hi:Int) (there:Bool) (e:Ending) (w':World):Prop:=∃f,e=.returned (.tuple #[.agg #[.int .i64 idx,f],.bool there])/\(there=true->∃a b,f=funV a b/\w.heap.size<=a/\w.heap.size<=b/\a < w'.heap.size/\b < w'.heap.size/\w'.cell? ⟨a,0,none⟩=some (.int .i64 lo)/\w'.cell? ⟨b,0,none⟩=some (.int .i64 hi))/\RowKit.Below w.heap.size w w'/\f.oneCell'=true
theorem sM (b:Nat) (zs:List Int) (n:Nat) (hn:n=zs.length) (hz:zs.length<=1000) (w:World) (h:Blk w b 3 (zs.map (Value.int .i64)).toArray) (W:World) (hb:RowKit.Below w.heap.size w W) (x:Int):
  Calls Tryz.prog 17 #[.slice (some ⟨b,0,none⟩) n n,.int .i64 x] W λe w'=>e=.returned (.bool (zs.contains x))/\w'=W:=by
 subst hn;have:=Tryz.slices_Contains_int b 0 zs.length zs.length zs x W (zI _) (by omega) (λj hj=>by rw [((h.below hb h.lt).cell (0+j))];simp [List.getD_eq_getElem?_getD,List.getElem?_eq_getElem hj]);rwa [z0L] at this
theorem zK (lo hi:Int) (w:World):Calls Tryz.prog 237 #[.int .i64 lo,.int .i64 hi] w λe w'=>∃a b,e=.returned (.func (.func 259) #[] #[.pointer (some ⟨a,0,none⟩),.pointer (some ⟨b,0,none⟩)])/\w.heap.size<=a/\w.heap.size<=b/\a < w'.heap.size/\b < w'.heap.size/\Fr w [(b,3,#[.int .i64 hi]),(a,3,#[.int .i64 lo])] w':=by have HF:=aA (((Fr.start w).new 3 #[.int .i64 lo]).new' 3 #[.int .i64 hi] (zW _ _));go_enter Tryz.func237,Tryz.ntmps237;go_wp2;go_ret;exact ⟨_,_,rfl,zI _,jQ _,(HF.out.blk 1 rfl).lt,(HF.out.blk 0 rfl).lt,HF.out⟩
theorem nJ (pg op:Int) (s ex:ByteArray) (al:Bool) (l:List Opd) (p:aB) (v:Value) (w:World) (h:SlR aM w p v l):
  Calls Tryz.prog 203 #[.agg #[.int .i64 pg,.int .u8 op,.string s,v,.string ex,.bool al]] w (VarP w (bU [5] l l.length) (-128) 127 (cO ex.data.toList 100&&decide (0<=bU [5] l l.length))):=by
 obtain ⟨va,vc,rfl⟩:∃a c,v=.slice a l.length c:=by obtain ⟨a,c,e,_⟩:=h;exact ⟨a,c,e⟩
 have HF:=aA ((((Fr.start w).new 158 #[.int .i64 pg,.int .u8 op,.string s,.slice va l.length vc,.string ex,.bool al]).new' 262 #[.int .i64 0,.nilFunc] (zW _ _)).new' 3 #[.int .i64 5] (show _=w.heap.size+1+1 from by rw [zW,zW]));have HLA:=aA (qR s l [5] (.slice (some ⟨w.heap.size+1+1,0,none⟩) 1 1) _ _ _ (h.below HF.out.below) (λW hb x=>sM (w.heap.size+1+1) [5] 1 rfl (by decide) _ (HF.out.blk 0 rfl) W hb x));have HCN:=aA (λW=>iE ex 100 W);clear h;generalize bU [5] l l.length=idx at *;obtain ⟨T,hT⟩:∃T,(cO ex.data.toList 100&&decide (0<=idx))=T:=⟨_,rfl⟩;rw [hT];have HT:=aA hT;clear hT;go_enter Tryz.func203,Tryz.ntmps203;go_upto_region 1 with fail;go_upto_region 2 with (go_at_call 236;refine HLA.out.mono ?_;rintro e w1 ⟨rfl,hb1⟩;have HF1:=aA (HF.out.next hb1);clear hb1);have HB1:=aA (λw' (hb:RowKit.Below w1.heap.size w1 w')=>HF1.out.next hb);have HS1:=aA (HF1.out.blk 0 rfl).lt;refine (zK _ _ _).mono ?_;rintro e w2 ⟨a,b,rfl,ha1,hb1,ha2,hb2,hfr⟩;have HF2:=aA (HF1.out.next hfr.below);have HV:=aA (hfr.new 262 #[.int .i64 idx,(.func (.func 259) #[] #[.pointer (some ⟨a,0,none⟩),.pointer (some ⟨b,0,none⟩)])]);have HF3:=aA (HF2.out.new 262 #[.int .i64 idx,(.func (.func 259) #[] #[.pointer (some ⟨a,0,none⟩),.pointer (some ⟨b,0,none⟩)])]);have HA:=aA (And.intro (vB HS1.out ha1) (And.intro (vB HS1.out hb1) (And.intro ha2 hb2)));clear hfr ha1 hb1 ha2 hb2 HF1 HB1 HS1 HLA HF;go_upto_region 2 with fail;have HGE:=aA HF2.out.size;obtain ⟨g,hg⟩:∃g,w2.heap.size=g:=⟨_,rfl⟩;rw [hg] at HF3 HV ⊢;rw [hg] at HA HGE;obtain ⟨W3,hW3⟩:∃W:World,W=w2.alloc (.cells #[.int .i64 idx,(.func (.func 259) #[] #[.pointer (some ⟨a,0,none⟩),.pointer (some ⟨b,0,none⟩)])] 262):=⟨_,rfl⟩;rw [<-hW3] at HF3 HV ⊢;clear hW3 hg HF2;have g0:=(HF3.out.blk 0 rfl).cell 0;have g1:=(HF3.out.blk 0 rfl).cell 1;have e4:=(HF3.out.blk 3 rfl).cell 4;have r0:=(HF3.out.blk 2 rfl).cell 0;have r1:=(HF3.out.blk 2 rfl).cell 1;have r2:=(HF3.out.blk 2 rfl).free 0;have r3:=(HF3.out.blk 2 rfl).free 1;have n1:¬g=w.heap.size+1:=by have:=HA.out;omega
 have n2:¬w.heap.size+1=g:=λe=>n1 e.symm;cases hd:cO ex.data.toList 100
 ·rw [show cO ex.data.toList (100:UInt8).toNat=false from hd] at HCN;first | (go_region_with (go_at_call 238;refine (HCN.out _).mono ?_;rintro e w4 ⟨rfl,hw4⟩;subst w4)) | fail
  all_goals exact tX5
 ·rw [show cO ex.data.toList (100:UInt8).toNat=true from hd] at HCN;go_region_held3 (λw'=>w'.cell? ⟨g,0,none⟩=some (.int .i64 idx)/\w'.cell? ⟨g,1,none⟩=some (.func (.func 259) #[] #[.pointer (some ⟨a,0,none⟩),.pointer (some ⟨b,0,none⟩)])/\w'.cell? ⟨w.heap.size,4,none⟩=some (.string ex)) (go_keep) ((go_at_call 238;refine (HCN.out _).mono ?_;rintro e w4 ⟨rfl,hw4⟩;subst w4));all_goals exact tX5
theorem aN {fn:Func} {p u:Tmp} (h:fn.results=#[.cell p 30,.tmp u]) {tmps:Array Value} {w':World} {s v:Value} {g:Nat} (hp:tmps.getD p undef=.pointer (some ⟨g,0,none⟩))
  (hg:Blk w' g 30 #[s,v]):(results fn tmps).run Tryz.prog w'=.ok (.tuple #[.agg #[s,v],tmps.getD u undef]) w':=
 aH h tmps w' g 30 _ (0,0) _ hp hg Tryz.underlying30 rfl (by kernel_rfl)
def z0 (o:Opd):Opd:=⟨o.kind,o.reg,0⟩
def pl:Nat->List Opd->List Opd
 | 0,l=>l
 | _+1,[]=>[]
 | k+1,x::l=>z0 x::pl k l
theorem FJ:∀(k:Nat) (l:List Opd) (h:k < l.length),(pl k l)[k]?=some l[k]
 | 0,x::l,_=>rfl
 | k+1,x::l,h=>by rw [pl,List.getElem?_cons_succ,FJ k l (by simpa using h)];rfl
theorem SK:∀(k:Nat) (l:List Opd) (h:k < l.length),(pl k l).set k {l[k] with n:=0}=pl (k+1) l
 | 0,x::l,_=>by simp [pl,z0]
 | k+1,x::l,h=>by have:=SK k l (by simpa using h);rw [pl,pl,vT,<-this];rfl
theorem PY:∀l:List Opd,pl l.length l=l.map z0
 | []=>rfl
 | x::l=>by rw [VH,pl,PY l,z0U]
theorem Fr.off {w0 W:World} {L:List (Nat × TypeId × Array Value)} (h:Fr w0 L W) (p:Addr) (hb:w0.heap.size<=p.block) (hn:∀x∈L,x.1≠p.block) (u:Value):Fr w0 L (W.setCell p u):=⟨h.below.setCell hb _,λx hx=>(h.at' x hx).far (hn x hx) u⟩
theorem uL (s:ByteArray) (l:List Opd) (p:aB) (v:Value) (w:World) (h:SlR aM w p v l) (hn:l.length<=1000000) (hs:s.size<=9223372036854775807):
  Calls Tryz.prog 201 #[.agg #[.string s,v]] w λe w'=>∃v',e=.returned (.agg #[.string s,v'])/\aD w' (λb=>w.heap.size<=b) v' (l.map z0)/\Below w.heap.size w w':=by
 obtain ⟨va,vc,rfl⟩:∃a c,v=.slice a l.length c:=by obtain ⟨a,c,e,_⟩:=h;exact ⟨a,c,e⟩
 have HF:=aA (((Fr.start w).new 30 #[.string s,.slice va l.length vc]).new' 30 #[.string ⟨#[]⟩,.slice none 0 0] (zW _ _));have HMK:=aA (mC p s _ l _ (h.below HF.out.below) hn hs);have hsz:((w.alloc (.cells #[.string s,.slice va l.length vc] 30)).alloc (.cells #[.string ⟨#[]⟩,.slice none 0 0] 30)).heap.size=w.heap.size+1+1:=by rw [zW,zW]
 have HPL:=aA (PY l);have HN:=aA hn;obtain ⟨W0,hW0⟩:∃W0:World,W0=((w.alloc (.cells #[.string s,.slice va l.length vc] 30)).alloc (.cells #[.string ⟨#[]⟩,.slice none 0 0] 30)):=⟨_,rfl⟩;rw [<-hW0] at HF HMK hsz;rw [hsz] at HMK;have HZ:=aA hsz;clear h hn hs hsz;generalize l.map z0=R at *;go_enter Tryz.func201,Tryz.ntmps201;go_upto_region 1 with fail;rw [<-hW0];clear hW0;have q0:=(HF.out.blk 1 rfl).cell 0;have q1:=(HF.out.blk 1 rfl).cell 1;go_upto_region 2 with (go_at_call 23;refine HMK.out.mono ?_;rintro e w1 ⟨v1,rfl,ho,hb⟩;obtain ⟨ca,cc,rfl⟩:=ho.form;have HF1:=aA (HF.out.next (by rw [HZ.out];exact hb));have HO:=aA (Own.opdOwn (q:=λk=>w.heap.size+1+1<=k/\k < w1.heap.size) ho (λk hk=>ho.lt k hk));clear ho hb q0 q1);have HF2:=aA (HF1.out.new 30 #[.string (dG s),(.slice ca l.length cc)]);have HO2:=aA (HO.out.below ((zY _ _).alloc (zI _) (.cells #[.string (dG s),(.slice ca l.length cc)] 30)));obtain ⟨b3,hb3⟩:∃b,w1.heap.size=b:=⟨_,rfl⟩;have h3:w.heap.size+1+1<=w1.heap.size:=by have:=(HF1.out.blk 0 rfl).lt;omega
 rw [hb3] at HF2 HO2 h3 ⊢;have H3:=aA h3;obtain ⟨W3,hW3⟩:∃W:World,W=w1.alloc (.cells #[.string (dG s),(.slice ca l.length cc)] 30):=⟨_,rfl⟩;rw [<-hW3] at HF2 HO2 ⊢;clear hW3 hb3 h3 HO HF1 HF HMK;have q0:=(HF2.out.blk 2 rfl).cell 0;have r0:=(HF2.out.blk 0 rfl).cell 0;have f0:=(HF2.out.blk 0 rfl).free 0;go_upto_region 3 with fail;have HF3:=aA (HF2.out.set (by have:=H3.out;omega) (by intro y hy;simp only [List.mem_cons,List.not_mem_nil,or_false] at hy;have:=H3.out;rcases hy with rfl | rfl<;>dsimp only<;>omega) 0 (.string s));have HO3:=aA (HO2.out.far (p:=⟨b3,0,none⟩) (λk hk=>by dsimp only;omega) (.string s));obtain ⟨W4,hW4⟩:∃W:World,W=W3.setCell ⟨b3,0,none⟩ (.string s):=⟨_,rfl⟩;rw [<-hW4] at HF3 HO3 ⊢;clear hW4 HF2 HO2 q0 r0 f0;have q1:=(HF3.out.blk 0 rfl).cell 1;go_wp2;have HX0:=aA (HF3.out.size);go_loopw [16] (λi wx=>∃k:Nat,k<=l.length/\i=.int .i64 k/\aD wx (λk=>w.heap.size+1+1<=k/\k < b3) (.slice ca l.length cc) (pl k l)/\
  Fr w [(b3,30,#[.string s,.slice ca l.length cc]),(w.heap.size+1,30,#[.string ⟨#[]⟩,.slice none 0 0]),(w.heap.size,30,#[.string s,.slice va l.length vc])] wx) (λi _=>l.length - (intOf i).toNat)
 case atStart=>exact ⟨0,YD _,rfl,HO3.out,HF3.out⟩
 case round=>
  obtain ⟨k,hk,rfl,ho,hfr⟩:=hrel;have HX:=aA hfr;have HO:=aA ho;clear ho hfr q1;have q1:=(HX.out.blk 0 rfl).cell 1;by_cases hlt:k < l.length
  ·obtain ⟨a1,c1,e1,hc1,hc2,g1⟩:=HO.out;injection e1 with e1 e2 e3;obtain ⟨b,o,rfl,hq,hbl,x0,x1,x2,hfz⟩:=g1 k l[k] (FJ k l hlt);have HQ:=aA hq;have f2:=hfz (o+k * 3+2);clear g1 hfz hq;subst e1 e3;have HON:=aA (HO.out.setN (m:=0) (FJ k l hlt));rw [SK k l hlt] at HON;clear e2 hc1 hc2;have hl9:l.length<=9223372036854775807:=(by have:=HN.out;omega);go_wp2;go_roundw;case rel=>exact ⟨k+1,by omega,by go_num,HON.out,HX.out.off _ (by have:=HQ.out;dsimp only;omega) (by intro y hy;simp only [List.mem_cons,List.not_mem_nil,or_false] at hy;have:=HQ.out;rcases hy with rfl | rfl | rfl<;>dsimp only<;>omega) _⟩
   case measure=>simp [intOf];omega
  ·obtain rfl:k=l.length:=(by omega);have r0:=(HX.out.blk 1 rfl).cell 0;have r1:=(HX.out.blk 1 rfl).cell 1;have r2:=(HX.out.blk 1 rfl).free 0;have r3:=(HX.out.blk 1 rfl).free 1;have q0:=(HX.out.blk 0 rfl).cell 0;go_wp2;refine yR (results_cell_row rfl _ _ (w.heap.size+1) 30 #[.string s,.slice ca l.length cc] (0,0) _ rfl (((HX.out.blk 1 rfl).set 0 _).set 1 _) Tryz.underlying30 rfl (by kernel_rfl)) rfl ?_;refine ⟨_,rfl,?_,(HX.out.below.setCell (p:=⟨w.heap.size+1,0,none⟩) (jQ _) _).setCell (p:=⟨w.heap.size+1,1,none⟩) (jQ _) _⟩;have hp:=HO.out;rw [HPL.out] at hp;exact ((hp.far (p:=⟨w.heap.size+1,0,none⟩) (λk hk=>by dsimp only;omega) _).far (p:=⟨w.heap.size+1,1,none⟩) (λk hk=>by dsimp only;omega) _).mono (λk hk=>by omega)
theorem Fr.join {w0 W w':World} {L M:List (Nat × TypeId × Array Value)} (h1:Fr w0 L W) (h2:Fr W M w'):Fr w0 (M++L) w':=
 ⟨(h1.next h2.below).below,λx hx=>by
  rcases z2D.1 hx with hx | hx
  ·exact h2.at' x hx
  ·exact (h1.next h2.below).at' x hx⟩
def cX (ex:List UInt8) (l:List Opd):Int × Int × Int × Bool:=
 if cO ex 101=true then (bU [10] l l.length,-128,127,decide (0<=bU [10] l l.length))
 else if cO ex 110=true then (bU [6,7] l l.length,0,255,decide (0<=bU [6,7] l l.length))
 else if cO ex 119=true then (bU [6,7] l l.length,0,65535,decide (0<=bU [6,7] l l.length))
 else (bU [6,7] l l.length,0,0,false)
theorem pW (pg op:Int) (s ex:ByteArray) (al:Bool) (l:List Opd) (p:aB) (v:Value) (w:World) (h:SlR aM w p v l):
  Calls Tryz.prog 204 #[.agg #[.int .i64 pg,.int .u8 op,.string s,v,.string ex,.bool al]] w (VarP w (cX ex.data.toList l).1 (cX ex.data.toList l).2.1 (cX ex.data.toList l).2.2.1 (cX ex.data.toList l).2.2.2):=by
 obtain ⟨va,vc,rfl⟩:∃a c,v=.slice a l.length c:=by obtain ⟨a,c,e,_⟩:=h;exact ⟨a,c,e⟩
 have HF:=aA ((((Fr.start w).new 158 #[.int .i64 pg,.int .u8 op,.string s,.slice va l.length vc,.string ex,.bool al]).new' 262 #[.int .i64 0,.nilFunc] (zW _ _)).new' 3 #[.int .i64 6,.int .i64 7] (show _=w.heap.size+1+1 from by rw [zW,zW]));have HLA:=aA (qR s l [6,7] (.slice (some ⟨w.heap.size+1+1,0,none⟩) 2 2) _ _ _ (h.below HF.out.below) (λW hb x=>sM (w.heap.size+1+1) [6,7] 2 rfl (by decide) _ (HF.out.blk 0 rfl) W hb x));have HLE:=aA (λW (hb:RowKit.Below w.heap.size w W)=>qR s l [10] (.slice (some ⟨W.heap.size,0,none⟩) 1 1) _ _ _ ((h.below hb).alloc (.cells #[.int .i64 10] 3)) (λW2 hb2 x=>sM W.heap.size [10] 1 rfl (by decide) _ (Blk.new W _ _) W2 hb2 x));have HC1:=aA (λW=>iE ex 101 W);have HC2:=aA (λW=>iE ex 110 W);have HC3:=aA (λW=>iE ex 119 W);clear h;unfold cX;generalize bU [6,7] l l.length=nS at *;generalize bU [10] l l.length=eS at *;go_enter Tryz.func204,Tryz.ntmps204;go_upto_region 1 with fail;go_upto_region 3 with (go_at_call 236;refine HLA.out.mono ?_;rintro e w1 ⟨rfl,hb1⟩;have HF1:=aA (HF.out.next hb1);clear hb1);have HF3:=aA (HF1.out.new 262 #[.int .i64 nS,.nilFunc]);have HGE:=aA (HF1.out.blk 0 rfl).lt;obtain ⟨g,hg⟩:∃g,w1.heap.size=g:=⟨_,rfl⟩;rw [hg] at HF3 HGE ⊢;obtain ⟨W3,hW3⟩:∃W:World,W=w1.alloc (.cells #[.int .i64 nS,.nilFunc] 262):=⟨_,rfl⟩;rw [<-hW3] at HF3 ⊢;clear hW3 hg HF1 HLA HF;have e4:=(HF3.out.blk 3 rfl).cell 4;have n1:¬g=w.heap.size+1:=by have:=HGE.out;omega
 have n2:¬w.heap.size+1=g:=λe=>n1 e.symm;cases h1:cO ex.data.toList 101;rotate_left
 ·rw [show cO ex.data.toList (101:UInt8).toNat=true from h1] at HC1;rw [if_pos rfl];have e2:=(HF3.out.blk 3 rfl).cell 2;have e3:=(HF3.out.blk 3 rfl).cell 3;have HLE2:=aA (HLE.out _ HF3.out.below);go_upto_region 9 with (first | (go_at_call 238;with_reducible refine (HC1.out _).mono ?_;rintro e w4 ⟨rfl,hw4⟩;subst w4) | (go_at_call 236;refine HLE2.out.mono ?_;rintro e w4 ⟨rfl,hb4⟩;have HF4:=aA ((HF3.out.alloc (.cells #[.int .i64 10] 3)).next hb4);clear hb4) | (go_at_call 237;refine (zK (-128) 127 _).mono ?_;rintro e w5 ⟨a,b,rfl,ha1,hb1,ha2,hb2,hfr⟩;have HJ:=aA (HF4.out.join hfr);have HA:=aA (And.intro (vB (HF4.out.blk 0 rfl).lt ha1) (And.intro (vB (HF4.out.blk 0 rfl).lt hb1) HGE.out));have g0:=(HJ.out.blk 2 rfl).cell 0;have g1:=(HJ.out.blk 2 rfl).cell 1;have gf:=(HJ.out.blk 2 rfl).free 1;have gf0:=(HJ.out.blk 2 rfl).free 0;clear hfr ha1 hb1 ha2 hb2));have HJs:=HJ.out.sub (M:=[(g,262,#[.int .i64 nS,.nilFunc]),(b,3,#[.int .i64 127]),(a,3,#[.int .i64 (-128)]),(w.heap.size+1,262,#[.int .i64 0,.nilFunc])]) (by intro y hy;simp only [List.mem_cons,List.not_mem_nil,or_false] at hy;rcases hy with rfl | rfl | rfl | rfl<;>simp);have HJ2:=aA ((HJs.set (by have:=HA.out;omega) (by intro y hy;simp only [List.mem_cons,List.not_mem_nil,or_false] at hy;have:=HA.out;rcases hy with rfl | rfl | rfl<;>dsimp only<;>omega) 0 (.int .i64 eS)).set (by have:=HA.out;omega) (by intro y hy;simp only [List.mem_cons,List.not_mem_nil,or_false] at hy;have:=HA.out;rcases hy with rfl | rfl | rfl<;>dsimp only<;>omega) 1 (.func (.func 259) #[] #[.pointer (some ⟨a,0,none⟩),.pointer (some ⟨b,0,none⟩)]));obtain ⟨W6,hW6⟩:∃W:World,W=((w5.setCell ⟨g,0,none⟩ (.int .i64 eS)).setCell ⟨g,1,none⟩ (.func (.func 259) #[] #[.pointer (some ⟨a,0,none⟩),.pointer (some ⟨b,0,none⟩)])):=⟨_,rfl⟩;rw [<-hW6] at HJ2 ⊢;clear hW6 HJs HJ g0 g1 gf gf0;have g0:=(HJ2.out.blk 0 rfl).cell 0;have g1:=(HJ2.out.blk 0 rfl).cell 1;have r0:=(HJ2.out.blk 3 rfl).cell 0;have r1:=(HJ2.out.blk 3 rfl).cell 1;have r2:=(HJ2.out.blk 3 rfl).free 0;have r3:=(HJ2.out.blk 3 rfl).free 1;have kr:=((HJ2.out.blk 3 rfl).set 0 (.int .i64 eS)).set 1 (.func (.func 259) #[] #[.pointer (some ⟨a,0,none⟩),.pointer (some ⟨b,0,none⟩)]);have ka:=((HJ2.out.blk 2 rfl).far (p:=⟨w.heap.size+1,0,none⟩) (by have:=HA.out;dsimp only;omega) (.int .i64 eS)).far (p:=⟨w.heap.size+1,1,none⟩) (by have:=HA.out;dsimp only;omega) (.func (.func 259) #[] #[.pointer (some ⟨a,0,none⟩),.pointer (some ⟨b,0,none⟩)]);have kb:=((HJ2.out.blk 1 rfl).far (p:=⟨w.heap.size+1,0,none⟩) (by have:=HA.out;dsimp only;omega) (.int .i64 eS)).far (p:=⟨w.heap.size+1,1,none⟩) (by have:=HA.out;dsimp only;omega) (.func (.func 259) #[] #[.pointer (some ⟨a,0,none⟩),.pointer (some ⟨b,0,none⟩)]);have kz:=(HJ2.out.below.setCell (p:=⟨w.heap.size+1,0,none⟩) (jQ _) (.int .i64 eS)).setCell (p:=⟨w.heap.size+1,1,none⟩) (jQ _) (.func (.func 259) #[] #[.pointer (some ⟨a,0,none⟩),.pointer (some ⟨b,0,none⟩)]);clear HC1 HC2 HC3;go_region;all_goals go_wp2;all_goals refine yR (aH rfl _ _ (w.heap.size+1) 262 #[.int .i64 eS,(.func (.func 259) #[] #[.pointer (some ⟨a,0,none⟩),.pointer (some ⟨b,0,none⟩)])] (0,0) _ rfl kr Tryz.underlying262 rfl (by kernel_rfl)) rfl ?_;exact tX25
 rw [show cO ex.data.toList (101:UInt8).toNat=false from h1] at HC1;rw [if_neg XN];cases h2:cO ex.data.toList 110;rotate_left
 ·rw [show cO ex.data.toList (110:UInt8).toNat=true from h2] at HC2;rw [if_pos rfl];go_upto_region 9 with (first | (go_at_call 238;with_reducible refine (HC1.out _).mono ?_;rintro e w4 ⟨rfl,hw4⟩;subst w4) | (go_at_call 238;with_reducible refine (HC2.out _).mono ?_;rintro e w4 ⟨rfl,hw4⟩;subst w4) | (go_at_call 237;refine (zK 0 255 _).mono ?_;rintro e w5 ⟨a,b,rfl,ha1,hb1,ha2,hb2,hfr⟩;have HJ:=aA (HF3.out.join hfr);have HA:=aA (And.intro (vB (HF3.out.blk 0 rfl).lt ha1) (And.intro (vB (HF3.out.blk 0 rfl).lt hb1) HGE.out));have g0:=(HJ.out.blk 2 rfl).cell 0;have g1:=(HJ.out.blk 2 rfl).cell 1;have gf:=(HJ.out.blk 2 rfl).free 1;have gf0:=(HJ.out.blk 2 rfl).free 0;clear hfr ha1 hb1 ha2 hb2));have HJs:=HJ.out.sub (M:=[(g,262,#[.int .i64 nS,.nilFunc]),(b,3,#[.int .i64 255]),(a,3,#[.int .i64 0]),(w.heap.size+1,262,#[.int .i64 0,.nilFunc])]) (by intro y hy;simp only [List.mem_cons,List.not_mem_nil,or_false] at hy;rcases hy with rfl | rfl | rfl | rfl<;>simp);exact tX2
 rw [show cO ex.data.toList (110:UInt8).toNat=false from h2] at HC2;rw [if_neg XN];cases h3:cO ex.data.toList 119;rotate_left
 ·rw [show cO ex.data.toList (119:UInt8).toNat=true from h3] at HC3;rw [if_pos rfl];go_upto_region 9 with (first | (go_at_call 238;with_reducible refine (HC1.out _).mono ?_;rintro e w4 ⟨rfl,hw4⟩;subst w4) | (go_at_call 238;with_reducible refine (HC2.out _).mono ?_;rintro e w4 ⟨rfl,hw4⟩;subst w4) | (go_at_call 238;with_reducible refine (HC3.out _).mono ?_;rintro e w4 ⟨rfl,hw4⟩;subst w4) | (go_at_call 237;refine (zK 0 65535 _).mono ?_;rintro e w5 ⟨a,b,rfl,ha1,hb1,ha2,hb2,hfr⟩;have HJ:=aA (HF3.out.join hfr);have HA:=aA (And.intro (vB (HF3.out.blk 0 rfl).lt ha1) (And.intro (vB (HF3.out.blk 0 rfl).lt hb1) HGE.out));have g0:=(HJ.out.blk 2 rfl).cell 0;have g1:=(HJ.out.blk 2 rfl).cell 1;have gf:=(HJ.out.blk 2 rfl).free 1;have gf0:=(HJ.out.blk 2 rfl).free 0;clear hfr ha1 hb1 ha2 hb2));have HJs:=HJ.out.sub (M:=[(g,262,#[.int .i64 nS,.nilFunc]),(b,3,#[.int .i64 65535]),(a,3,#[.int .i64 0]),(w.heap.size+1,262,#[.int .i64 0,.nilFunc])]) (by intro y hy;simp only [List.mem_cons,List.not_mem_nil,or_false] at hy;rcases hy with rfl | rfl | rfl | rfl<;>simp);exact tX2
 ·rw [show cO ex.data.toList (119:UInt8).toNat=false from h3] at HC3;rw [if_neg XN];have g0:=(HF3.out.blk 0 rfl).cell 0;have g1:=(HF3.out.blk 0 rfl).cell 1;have r0:=(HF3.out.blk 2 rfl).cell 0;have r1:=(HF3.out.blk 2 rfl).cell 1;have r2:=(HF3.out.blk 2 rfl).free 0;have r3:=(HF3.out.blk 2 rfl).free 1;go_wp2_with (first | (go_at_call 238;with_reducible refine (HC1.out _).mono ?_;rintro e w4 ⟨rfl,hw4⟩;subst w4) | (go_at_call 238;with_reducible refine (HC2.out _).mono ?_;rintro e w4 ⟨rfl,hw4⟩;subst w4) | (go_at_call 238;with_reducible refine (HC3.out _).mono ?_;rintro e w4 ⟨rfl,hw4⟩;subst w4));all_goals refine yR (aH rfl _ _ (w.heap.size+1) 262 #[.int .i64 nS,.nilFunc] (0,0) _ rfl (((HF3.out.blk 2 rfl).set 0 _).set 1 _) Tryz.underlying262 rfl (by kernel_rfl)) rfl ?_;exact ⟨.nilFunc,rfl,λh=>absurd h XN,(HF3.out.below.setCell (p:=⟨w.heap.size+1,0,none⟩) (jQ _) _).setCell (p:=⟨w.heap.size+1,1,none⟩) (jQ _) _,rfl⟩
def isN (o:Opd):Bool:=(o.kind==6) || (o.kind==7)
def vL (o:Opd) (rest:List Opd) (ex:List UInt8):Int:=
 if (o.kind==5&&cO ex 100)=true then 100 else if (o.kind==10&&cO ex 101)=true then 101 else if isN o=false then 0
 else if rest.any isN=true then 0 else if cO ex 110=true then 110 else if cO ex 119=true then 119 else 0
def eQ (l:List Opd) (ex:List UInt8) (k:Nat):Int:=match l[k]? with | some o=>vL o (l.drop (k+1)) ex | none=>0
def kr (o:Opd):Int × Int:=(o.kind,o.reg)
def shF (s t:ByteArray) (l m:List Opd):Bool:=(s.toList==t.toList)&&decide (l.map kr=m.map kr)
end Go.Proofs.YtpigbggoiipmhaaGreatDoor
namespace Go.Proofs.YtpigbggoiipmhaaGreatDoor
set_option maxHeartbeats 400000
open Go.RowKit
theorem pO (p q:aB) (v1 v2:Value) (l1 l2:List Opd) (w:World) (h1:SlR aM w p v1 l1) (h2:SlR aM w q v2 l2):
  Calls Tryz.prog 147 #[v1,v2] w λe w'=>e=.returned (.bool (decide (l1=l2)))/\∃n,w'=w.drewN n:=by
 obtain ⟨a1,c1,rfl,hc1,hm1,g1⟩:=h1.opd;obtain ⟨a2,c2,rfl,hc2,hm2,g2⟩:=h2.opd;clear h1 h2;have hop:=nW;by_cases hl:l1.length=l2.length
 ·have HL:=aA hl;rw [<-hl] at hc2 ⊢;clear hl;go_enter Tryz.func147,Tryz.ntmps147;go_wp2;go_loopw [5,13] (λ_ i wr=>∃k n:Nat,k<=l1.length/\i=.int .i64 k/\wr=w.drewN n/\l1.take k=l2.take k) (λ_ i _=>l1.length - (intOf i).toNat);case atStart=>exact ⟨0,0,YD _,rfl,rfl,rfl⟩
  case round=>
   obtain ⟨k,n,hk,rfl,rfl,ht⟩:=hrel;have HT:=aA ht;clear ht;by_cases hlt:k < l1.length
   ·have hlt2:k < l2.length:=(by have:=HL.out;omega);obtain ⟨b1,o1,rfl,_,d1,d2,d3⟩:=g1 k l1[k] (zL hlt);obtain ⟨b2,o2,rfl,_,e1,e2,e3⟩:=g2 k l2[k] (zL hlt2);clear g1 g2;have HS:=aA (iV hlt hlt2 HT.out);have HN:Hid (l1[k]≠l2[k]->l1≠l2):=λh e=>h (by simp only [e]);generalize l1[k]=x at *;generalize l2[k]=y at *;by_cases hxy:aP x y=true
    ·go_wp2;exact tX59
    ·have hxy:aP x y=false:=(by simpa using hxy);go_wp2;go_quiet (fail);go_wp2;go_ret;exact ⟨aF (z0A (HN.out (kF.1 hxy))).symm,_,ER _ _ _⟩
   ·go_wp2;exact tX41
 ·go_enter Tryz.func147,Tryz.ntmps147;exact tX84
theorem lO (p q:aB) (x y:Ins) (v1 v2:Value) (w:World) (h1:SlR aM w p v1 x.args) (h2:SlR aM w q v2 y.args):
  Calls Tryz.prog 200 #[.agg #[.string x.op,v1],.agg #[.string y.op,v2]] w λe w'=>e=.returned (.bool (fG x y))/\Below w.heap.size w w':=by
 have HB:Below w.heap.size w ((w.alloc (.cells #[.string x.op,v1] 30)).alloc (.cells #[.string y.op,v2] 30)):=((zY _ _).alloc (zI _) _).alloc (by simp) _;have g1:=h1.below HB;have g2:=h2.below HB;have HY:Hid _:=@qS x y;have HN:Hid _:=@sR x y;clear h1 h2;obtain ⟨s,l⟩:=x;obtain ⟨t,m⟩:=y;by_cases hs:(s.toList==t.toList)=true
 ·go_enter Tryz.func200,Tryz.ntmps200;go_wp2_with (go_at_call 147;refine (pO _ _ _ _ _ _ _ g1 g2).mono ?_;rintro e w' ⟨rfl,n,rfl⟩);go_ret;exact ⟨aF (HY.out hs).symm,aY HB n⟩
 ·have hs:(s.toList==t.toList)=false:=by simpa using hs
  go_enter Tryz.func200,Tryz.ntmps200;go_wp2;go_ret;exact ⟨aF (HN.out hs).symm,HB⟩
def iP:List ByteArray:=[⟨#[66,73,84]⟩,⟨#[82,69,83]⟩,⟨#[83,69,84]⟩,⟨#[73,77]⟩,⟨#[82,83,84]⟩,⟨#[79,85,84]⟩]
def uA (l:List Opd):Bool:=match l with | a::_=>a.kind==3 | []=>false
def bW (x:Ins):Int:=if inL iP x.op then 0 else if (x.op.toList==[74,80]) || (x.op.toList==[67,65,76,76]) || ((x.op.toList==[76,68])&&uA x.args) then 2 else 1
theorem vE (l:List ByteArray) (s:ByteArray):Lib.containsS l s=inL l s:=by rw [z0C,Lib.containsS_iff,yM]
theorem oY (c:ByteArray) (L:List ByteArray) (s:ByteArray) (w:World) (hL:fL c=L) (hn:L.length<=1000) (hs:c.size < 4294967281) (ha:∀(j:Nat) b,c.data.toList[j]?=some b->b.toNat < 128) (hT:Spc w):
  Calls Tryz.prog 146 #[.string c,.string s] w λe w'=>e=.returned (.bool (inL L s))/\Below w.heap.size w w':=by
 have hf:=Tryz.strings_Fields c w hs ha hT;have hlen:(Lib.fields c.data.toList).length=L.length:=by rw [<-hL];simp [fL]
 have hcells:((Lib.fields c.data.toList).map λl=>Value.string ⟨l.toArray⟩)=L.map Value.string:=by rw [<-hL];simp [fL]
 rw [hlen,hcells] at hf;have HF:=aA hf;have HC:Hid (∀j,j < L.length->(w.alloc (.cells (L.map Value.string).toArray 9)).cell? ⟨w.heap.size,0+j,none⟩=some (.string (L.getD j ByteArray.empty))):=λj hj=>by rw [World.cell?_alloc_at _ _ _ _ rfl];simp [hj]
 have HT:Hid (L.length<=9223372036854775807):=aA (by omega);clear hf hlen hcells hL hs ha hT hn;go_enter Tryz.func146,Tryz.ntmps146;go_wp2_with fail;refine HF.out.mono ?_;rintro e w1 ⟨rfl,rfl⟩;go_wp2_with fail;refine (Tryz.slices_Contains_string _ 0 _ _ L s _ (zI _) HT.out HC.out).mono ?_;rintro e w1 ⟨rfl,rfl⟩;go_wp2;go_ret;exact ⟨aF (vE _ _),(zY _ _).alloc (zI _) _⟩
end Go.Proofs.YtpigbggoiipmhaaGreatDoor
