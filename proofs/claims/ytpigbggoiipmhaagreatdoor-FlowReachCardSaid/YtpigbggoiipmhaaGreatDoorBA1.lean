/-
  Go's data in memory, append, rows of bytes, strings and numbers. Conditions: sizes.
-/
import Derived.Test.YtpigbggoiipmhaaGreatDoorChecked
import Derived.WalkKit
import Derived.Lib.QuietBelow
import Derived.BigRegion
import Derived.Deep.RegionHeld3
import Derived.Deep.DeepCutAuto
import Derived.Laws.CopyOwn
import Derived.Laws.EntriesVeiled
import Derived.Lib.Strings
import Derived.WalkSpells
import Derived.WalkLawsBesides
import Derived.Lib.Hide
import Derived.Maps.AppendAt
import Derived.Deep.QuietTactic
import Derived.BigQuiet
import Derived.Laws.StructEq
import Derived.Lib.ConvBytes
import Derived.OwnWalkIn
import Derived.Deep.RegionLaw
import Derived.Test.YtpigbggoiipmhaaGreatDoorBT0
namespace Go.Proofs.YtpigbggoiipmhaaGreatDoor
open Go.RowKit
theorem aA {p:Prop} (h:p):Go.RowKit.Hid p:=h
theorem aF {a b:Bool} (h:a=b):Ending.returned (.bool a)=.returned (.bool b):=by rw [h]
theorem bK {k:IntKind} {a b:Int} (h:a=b):Ending.returned (.int k a)=.returned (.int k b):=by rw [h]
theorem ER (w:World) (a b:Nat):(w.drewN a).drewN b=w.drewN (a+b):=World.drewN_drewN w a b
theorem aY {B:Nat} {a w:World} (h:Below B a w) (n:Nat):Below B a (w.drewN n):=⟨h.os,h.tape,h.output,h.size,h.block⟩
def dR (w:World) (b o:Nat) (vs:List Value):Prop:=∀j v,vs[j]?=some v->w.cell? ⟨b,o+j,none⟩=some v
def Blk (w:World) (g:Nat) (t:TypeId) (cs:Array Value):Prop:=w.heap[g]?=some (.cells cs t (0,0))
theorem Blk.lt {w:World} {g:Nat} {t:TypeId} {cs:Array Value} (h:Blk w g t cs):g < w.heap.size:=(jN.1 h).1
theorem Blk.cell {w:World} {g:Nat} {t:TypeId} {cs:Array Value} (h:Blk w g t cs) (i:Nat):w.cell? ⟨g,i,none⟩=cs[i]?:=cell_of_row w g i cs t (0,0) h
theorem Blk.free {w:World} {g:Nat} {t:TypeId} {cs:Array Value} (h:Blk w g t cs) (i:Nat):w.frozen? ⟨g,i,none⟩=false:=frozen_of_row w g i cs t h
theorem Blk.new (w:World) (t:TypeId) (cs:Array Value):Blk (w.alloc (.cells cs t)) w.heap.size t cs:=heap_alloc_new w _
theorem Blk.alloc {w:World} {g:Nat} {t:TypeId} {cs:Array Value} (h:Blk w g t cs) (o:Obj):Blk (w.alloc o) g t cs:=(z1S w o g h.lt).trans h
theorem Blk.below {w w':World} {g:Nat} {t:TypeId} {cs:Array Value} {B:Nat} (h:Blk w g t cs) (hb:Below B w w') (hg:g < B):Blk w' g t cs:=(hb.block g hg).trans h
theorem Blk.grown {w w':World} {g:Nat} {t:TypeId} {cs:Array Value} {row:Option Nat} (h:Blk w g t cs) (hb:w.grownBy w' row) (hg:some g≠row):Blk w' g t cs:=(hb.block g h.lt hg).trans h
theorem Blk.set {w:World} {g:Nat} {t:TypeId} {cs:Array Value} (h:Blk w g t cs) (i:Nat) (u:Value):Blk (w.setCell ⟨g,i,none⟩ u) g t (cs.setIfInBounds i u):=by unfold Blk at h ⊢;simp [World.setCell,Array.getElem?_modify,h]
theorem Blk.far {w:World} {g:Nat} {t:TypeId} {cs:Array Value} (h:Blk w g t cs) {p:Addr} (hp:g≠p.block) (u:Value):Blk (w.setCell p u) g t cs:=(xV w p u g hp).trans h
theorem Blk.one {w:World} {g:Nat} {t:TypeId} {x:Value} (h:Blk w g t #[x]):w.cell? ⟨g,0,none⟩=some x/\w.frozen? ⟨g,0,none⟩=false:=⟨h.cell 0,h.free 0⟩
theorem Blk.two {w:World} {g:Nat} {t:TypeId} {x y:Value} (h:Blk w g t #[x,y]):w.cell? ⟨g,0,none⟩=some x/\w.cell? ⟨g,1,none⟩=some y/\w.frozen? ⟨g,0,none⟩=false/\w.frozen? ⟨g,1,none⟩=false:=⟨h.cell 0,h.cell 1,h.free 0,h.free 1⟩
theorem Blk.three {w:World} {g:Nat} {t:TypeId} {x y z:Value} (h:Blk w g t #[x,y,z]):w.cell? ⟨g,0,none⟩=some x/\w.cell? ⟨g,1,none⟩=some y/\w.cell? ⟨g,2,none⟩=some z/\w.frozen? ⟨g,0,none⟩=false/\w.frozen? ⟨g,1,none⟩=false/\w.frozen? ⟨g,2,none⟩=false:=⟨h.cell 0,h.cell 1,h.cell 2,h.free 0,h.free 1,h.free 2⟩
abbrev aB:=Nat->Prop
def aS (p:aB) (w w':World):Prop:=∀k,p k->w'.heap[k]?=w.heap[k]?
theorem aS.refl (p:aB) (w:World):aS p w w:=λ_ _=>rfl
theorem aS.trans {p:aB} {a b c:World} (h:aS p a b) (k:aS p b c):aS p a c:=λi hi=>(k i hi).trans (h i hi)
theorem aS.mono {p q:aB} {a b:World} (h:aS q a b) (hp:∀k,p k->q k):aS p a b:=λi hi=>h i (hp i hi)
theorem aS.of_below {B:Nat} {p:aB} {w w':World} (h:Below B w w') (hp:∀k,p k->k < B):aS p w w':=λk hk=>h.block k (hp k hk)
theorem aS.alloc {p:aB} {w:World} (hp:∀k,p k->k < w.heap.size) (o:Obj):aS p w (w.alloc o):=λk hk=>z1S _ _ _ (hp k hk)
theorem aS.grown {p:aB} {w w':World} {row:Option Nat} (h:w.grownBy w' row) (hp:∀k,p k->k < w.heap.size/\some k≠row):aS p w w':=λk hk=>h.block k (hp k hk).1 (hp k hk).2
theorem aS.setCell {p:aB} {w:World} {a:Addr} (hp:∀k,p k->k≠a.block) (u:Value):aS p w (w.setCell a u):=λk hk=>xV _ _ _ _ (hp k hk)
theorem aS.drew {p:aB} (w:World):aS p w w.drew:=λ_ _=>rfl
theorem dR.keep {w w':World} {b o:Nat} {vs:List Value} (h:dR w b o vs) (hk:w'.heap[b]?=w.heap[b]?):dR w' b o vs:=λj v hv=>(z0E (w:=w) hk).trans (h j v hv)
theorem dR.nil (w:World) (b o:Nat):dR w b o []:=λj v h=>by simp at h
theorem dR.append {w:World} {b o:Nat} {xs ys:List Value} (h1:dR w b o xs) (h2:dR w b (o+xs.length) ys):dR w b o (xs++ys):=by
 intro j v hv;by_cases hj:j < xs.length
 ·rw [z1F hj] at hv;exact h1 j v hv
 ·rw [z0G (by omega)] at hv;have:=h2 _ v hv;rwa [show o+xs.length+(j - xs.length)=o+j by omega] at this
theorem dR.left {w:World} {b o:Nat} {xs ys:List Value} (h:dR w b o (xs++ys)):dR w b o xs:=λj v hv=>h j v (by rw [z1F (ZV.1 hv).1];exact hv)
theorem dR.right {w:World} {b o:Nat} {xs ys:List Value} (h:dR w b o (xs++ys)):dR w b (o+xs.length) ys:=λj v hv=>by have:=h (xs.length+j) v (by rw [z0G (by omega)];simpa using hv);rwa [<-z2B] at this
theorem dR.one {w:World} {b o:Nat} {v:Value} (h:w.cell? ⟨b,o,none⟩=some v):dR w b o [v]:=λj u hu=>by
 cases j with
 | zero=>simp at hu;subst hu;exact h
 | succ j=>simp at hu
theorem dR.get {w:World} {b o:Nat} {vs:List Value} (h:dR w b o vs) (j:Nat) {v:Value} (hv:vs[j]?=some v):w.cell? ⟨b,o+j,none⟩=some v:=h j v hv
structure Rep (α:Type) where
 size:Nat
 rel:World->aB->List Value->α->Prop
 len:∀{w p cs x},rel w p cs x->cs.length=size
 keep:∀{w w' p cs x},aS p w w'->rel w p cs x->rel w' p cs x
 mono:∀{w p q cs x},(∀k,p k->q k)->rel w p cs x->rel w q cs x
 old:∀{w p cs x},rel w p cs x->rel w (λk=>p k/\k < w.heap.size) cs x
 one:∀{w p cs x},rel w p cs x->∀u∈cs,u.oneCell'=true
def Rep.flat {α:Type} (n:Nat) (enc:α->List Value) (h:∀x,(enc x).length=n) (h1:∀x,∀u∈enc x,u.oneCell'=true):Rep α where
 size:=n
 rel:=λ_ _ cs x=>cs=enc x
 len:=λe=>by subst e;exact h _
 keep:=λ_ e=>e
 mono:=λ_ e=>e
 old:=λe=>e
 one:=λe=>by subst e;exact h1 _
def SlR {α:Type} (R:Rep α) (w:World) (p:aB) (v:Value) (xs:List α):Prop:=
 ∃a cap,v=.slice a xs.length cap/\xs.length<=cap/\cap<=maxLen/\
  ∀i x,xs[i]?=some x->∃b o cs,a=some ⟨b,o,none⟩/\p b/\b < w.heap.size/\dR w b (o+i * R.size) cs/\R.rel w p cs x
theorem GS {w w':World} {k:Nat} (h:k < w.heap.size) (e:w'.heap[k]?=w.heap[k]?):k < w'.heap.size:=by rw [Array.getElem?_eq_getElem h] at e;exact (jN.1 e).1
theorem SlR.keep {α:Type} {R:Rep α} {w w':World} {p:aB} {v:Value} {xs:List α} (h:SlR R w p v xs) (hk:aS p w w'):SlR R w' p v xs:=by obtain ⟨a,cap,e,h1,h2,h3⟩:=h;refine ⟨a,cap,e,h1,h2,λi x hx=>?_⟩;obtain ⟨b,o,cs,ea,hb,hbs,hc,hr⟩:=h3 i x hx;exact ⟨b,o,cs,ea,hb,GS hbs (hk b hb),hc.keep (hk b hb),R.keep hk hr⟩
theorem SlR.mono {α:Type} {R:Rep α} {w:World} {p q:aB} {v:Value} {xs:List α} (h:SlR R w p v xs) (hp:∀k,p k->q k):SlR R w q v xs:=by obtain ⟨a,cap,e,h1,h2,h3⟩:=h;refine ⟨a,cap,e,h1,h2,λi x hx=>?_⟩;obtain ⟨b,o,cs,ea,hb,hbs,hc,hr⟩:=h3 i x hx;exact ⟨b,o,cs,ea,hp _ hb,hbs,hc,R.mono hp hr⟩
theorem SlR.old {α:Type} {R:Rep α} {w:World} {p:aB} {v:Value} {xs:List α} (h:SlR R w p v xs):SlR R w (λk=>p k/\k < w.heap.size) v xs:=by obtain ⟨a,cap,e,h1,h2,h3⟩:=h;refine ⟨a,cap,e,h1,h2,λi x hx=>?_⟩;obtain ⟨b,o,cs,ea,hb,hbs,hc,hr⟩:=h3 i x hx;exact ⟨b,o,cs,ea,⟨hb,hbs⟩,hbs,hc,R.old hr⟩
theorem SlR.below {α:Type} {R:Rep α} {w w':World} {p:aB} {v:Value} {xs:List α} (h:SlR R w p v xs) (hb:Below w.heap.size w w'):SlR R w' p v xs:=(h.old.keep (aS.of_below hb λ_ hk=>hk.2)).mono λ_ hk=>hk.1
theorem SlR.alloc {α:Type} {R:Rep α} {w:World} {p:aB} {v:Value} {xs:List α} (h:SlR R w p v xs) (o:Obj):SlR R (w.alloc o) p v xs:=h.below ((zY _ _).alloc (zI _) o)
theorem SlR.drewN {α:Type} {R:Rep α} {w:World} {p:aB} {v:Value} {xs:List α} (h:SlR R w p v xs) (n:Nat):SlR R (w.drewN n) p v xs:=h.keep λ_ _=>rfl
theorem SlR.drew {α:Type} {R:Rep α} {w:World} {p:aB} {v:Value} {xs:List α} (h:SlR R w p v xs):SlR R w.drew p v xs:=h.keep λ_ _=>rfl
theorem SlR.nil {α:Type} (R:Rep α) (w:World) (p:aB):SlR R w p (.slice none 0 0) []:=⟨none,0,rfl,zI _,YD _,λi x h=>by simp at h⟩
theorem SlR.len_le {α:Type} {R:Rep α} {w:World} {p:aB} {v:Value} {xs:List α} (h:SlR R w p v xs):xs.length<=9223372036854775807:=by obtain ⟨a,cap,e,h1,h2,h3⟩:=h;simp only [maxLen] at h2;omega
def Rep.slice {α:Type} (R:Rep α):Rep (List α) where
 size:=1
 rel:=λw p cs xs=>∃v,cs=[v]/\SlR R w p v xs
 len:=λ⟨_,e,_⟩=>by subst e;rfl
 keep:=λhk ⟨v,e,h⟩=>⟨v,e,h.keep hk⟩
 mono:=λhp ⟨v,e,h⟩=>⟨v,e,h.mono hp⟩
 old:=λ⟨v,e,h⟩=>⟨v,e,h.old⟩
 one:=λ⟨v,e,a,cap,hv,_⟩ u hu=>by subst e;subst hv;simp at hu;subst hu;rfl
def Rep.pair {α β:Type} (R:Rep α) (S:Rep β):Rep (α × β) where
 size:=R.size+S.size
 rel:=λw p cs x=>∃c1 c2,cs=c1++c2/\R.rel w p c1 x.1/\S.rel w p c2 x.2
 len:=λ⟨c1,c2,e,h1,h2⟩=>by subst e;rw [YL,R.len h1,S.len h2]
 keep:=λhk ⟨c1,c2,e,h1,h2⟩=>⟨c1,c2,e,R.keep hk h1,S.keep hk h2⟩
 mono:=λhp ⟨c1,c2,e,h1,h2⟩=>⟨c1,c2,e,R.mono hp h1,S.mono hp h2⟩
 old:=λ⟨c1,c2,e,h1,h2⟩=>⟨c1,c2,e,R.old h1,S.old h2⟩
 one:=λ⟨c1,c2,e,h1,h2⟩ u hu=>by
  subst e;rcases z2D.1 hu with h | h
  ·exact R.one h1 u h
  ·exact S.one h2 u h
def Els {α:Type} (R:Rep α) (w:World) (p:aB):List Value->List α->Prop
 | cs,[]=>cs=[]
 | cs,x::xs=>∃c1 c2,cs=c1++c2/\R.rel w p c1 x/\Els R w p c2 xs
theorem Els.keep {α:Type} {R:Rep α} {w w':World} {p:aB} (hk:aS p w w'):∀{xs:List α} {cs:List Value},Els R w p cs xs->Els R w' p cs xs
 | [],_,h=>h
 | _::_,_,⟨c1,c2,e,h1,h2⟩=>⟨c1,c2,e,R.keep hk h1,Els.keep hk h2⟩
theorem Els.mono {α:Type} {R:Rep α} {w:World} {p q:aB} (hp:∀k,p k->q k):∀{xs:List α} {cs:List Value},Els R w p cs xs->Els R w q cs xs
 | [],_,h=>h
 | _::_,_,⟨c1,c2,e,h1,h2⟩=>⟨c1,c2,e,R.mono hp h1,Els.mono hp h2⟩
theorem Els.append {α:Type} {R:Rep α} {w:World} {p:aB} {ys:List α} {ds:List Value} (hd:Els R w p ds ys):∀{xs:List α} {cs:List Value},Els R w p cs xs->Els R w p (cs++ds) (xs++ys)
 | [],_,h=>by simp only [Els] at h;subst h;simpa using hd
 | _::_,_,⟨c1,c2,e,h1,h2⟩=>⟨c1,c2++ds,by rw [e,JP],h1,Els.append hd h2⟩
theorem Els.len {α:Type} {R:Rep α} {w:World} {p:aB}:∀{xs:List α} {cs:List Value},Els R w p cs xs->cs.length=xs.length * R.size
 | [],_,h=>by simp only [Els] at h;subst h;simp
 | _::_,_,⟨c1,c2,e,h1,h2⟩=>by subst e;rw [YL,R.len h1,Els.len h2,VH,Nat.add_mul];omega
theorem Els.old {α:Type} {R:Rep α} {w:World} {p:aB}:∀{xs:List α} {cs:List Value},Els R w p cs xs->Els R w (λk=>p k/\k < w.heap.size) cs xs
 | [],_,h=>h
 | _::_,_,⟨c1,c2,e,h1,h2⟩=>⟨c1,c2,e,R.old h1,Els.old h2⟩
theorem Els.one {α:Type} {R:Rep α} {w:World} {p:aB}:∀{xs:List α} {cs:List Value},Els R w p cs xs->∀u∈cs,u.oneCell'=true
 | [],_,h,u,hu=>by simp only [Els] at h;subst h;simp at hu
 | _::_,_,⟨c1,c2,e,h1,h2⟩,u,hu=>by
  subst e;rcases z2D.1 hu with h | h
  ·exact R.one h1 u h
  ·exact Els.one h2 u h
theorem Els.get {α:Type} {R:Rep α} {w:World} {p:aB} {b o:Nat}:∀{xs:List α} {cs:List Value},Els R w p cs xs->dR w b o cs->∀i x,xs[i]?=some x->∃c,dR w b (o+i * R.size) c/\R.rel w p c x
 | [],_,_,_,i,x,hx=>by simp at hx
 | y::ys,_,⟨c1,c2,e,h1,h2⟩,hc,i,x,hx=>by
  subst e;cases i with
  | zero=>simp at hx;subst hx;exact ⟨c1,by simpa using hc.left,h1⟩
  | succ i=>have hr:=hc.right;rw [R.len h1] at hr;obtain ⟨c,hcc,hrel⟩:=Els.get h2 hr i x (by simpa using hx);refine ⟨c,?_,hrel⟩;rwa [show o+R.size+i * R.size=o+(i+1) * R.size by rw [Nat.add_mul];omega] at hcc
def Own {α:Type} (R:Rep α) (w:World) (B:Nat) (e:TypeId) (p:aB) (v:Value) (xs:List α):Prop:=∃cs,w.ownsRow B e R.size v xs.length cs/\Els R w p cs xs
theorem Own.nil {α:Type} (R:Rep α) (w:World) (B:Nat) (e:TypeId) (p:aB):Own R w B e p (.slice none 0 0) ([]:List α):=⟨[],World.ownsRow_nil _ _ _ _,rfl⟩
theorem Own.keep {α:Type} {R:Rep α} {w w':World} {B:Nat} {e:TypeId} {p:aB} {v:Value} {xs:List α} (h:Own R w B e p v xs) (hk:aS (λk=>p k\/v.ownBlock=some k) w w'):Own R w' B e p v xs:=by
 obtain ⟨cs,hrow,hels⟩:=h;refine ⟨cs,⟨hrow.1,?_⟩,hels.keep (hk.mono λk hp=>.inl hp)⟩;rcases hrow.2 with hn | ⟨g,cap,cur,rfl,hb,hg,rest⟩
 ·exact .inl hn
 ·exact .inr ⟨g,cap,cur,rfl,hb,(hk g (.inr rfl)).trans hg,rest⟩
theorem Own.base {α:Type} {R:Rep α} {w:World} {B B':Nat} {e:TypeId} {p:aB} {v:Value} {xs:List α} (h:Own R w B e p v xs) (hB:B'<=B):Own R w B' e p v xs:=by
 obtain ⟨cs,hrow,hels⟩:=h;refine ⟨cs,⟨hrow.1,?_⟩,hels⟩;rcases hrow.2 with hn | ⟨g,cap,cur,rfl,hb,rest⟩
 ·exact .inl hn
 ·exact .inr ⟨g,cap,cur,rfl,qJ hB hb,rest⟩
theorem Own.lt {α:Type} {R:Rep α} {w:World} {B:Nat} {e:TypeId} {p:aB} {v:Value} {xs:List α} (h:Own R w B e p v xs):∀k,v.ownBlock=some k->B<=k/\k < w.heap.size:=by obtain ⟨cs,hrow,_⟩:=h;exact hrow.lt
theorem Own.mono {α:Type} {R:Rep α} {w:World} {B:Nat} {e:TypeId} {p q:aB} {v:Value} {xs:List α} (h:Own R w B e p v xs) (hp:∀k,p k->q k):Own R w B e q v xs:=by obtain ⟨cs,hrow,hels⟩:=h;exact ⟨cs,hrow,hels.mono hp⟩
theorem Own.form {α:Type} {R:Rep α} {w:World} {B:Nat} {e:TypeId} {p:aB} {v:Value} {xs:List α} (h:Own R w B e p v xs):∃a cap,v=.slice a xs.length cap:=by
 obtain ⟨cs,hrow,hels⟩:=h;rcases hrow.2 with ⟨rfl,hn⟩ | ⟨g,cap,cur,rfl,_⟩
 ·exact ⟨none,0,by rw [hn]⟩
 ·exact ⟨_,cap,rfl⟩
theorem Own.slR {α:Type} {R:Rep α} {w:World} {B:Nat} {e:TypeId} {p q:aB} {v:Value} {xs:List α} (h:Own R w B e p v xs) (hq:∀k,p k->q k) (hB:∀k,B<=k->q k):SlR R w q v xs:=by
 obtain ⟨cs,hrow,hels⟩:=h;rcases hrow.2 with ⟨rfl,hn⟩ | ⟨g,cap,cur,rfl,hb,hg,hnc,hcm,hcs,htake⟩
 ·obtain rfl:xs=[]:=List.eq_nil_of_length_eq_zero hn;exact SlR.nil _ _ _
 ·have hcells:dR w g 0 cs:=λj u hu=>by have:=hrow.cells (g:=g) rfl j u hu;have hadd:(⟨g,0,none⟩:Addr).add j=⟨g,0+j,none⟩:=(by unfold Addr.add;split<;>simp_all);rwa [hadd] at this
  refine ⟨_,cap,rfl,hnc,hcm,λi x hx=>?_⟩;obtain ⟨c,hc,hr⟩:=hels.get hcells i x hx;exact ⟨g,0,c,rfl,hB _ hb,(jN.1 hg).1,hc,R.mono hq hr⟩
structure gT (w:World) (b:Nat) (l:List UInt8):Prop where
 cell:∀j x,l[j]?=some x->w.cell? ⟨b,j,none⟩=some (.int .u8 x.toNat)
 free:∀j,j < l.length->w.frozen? ⟨b,j,none⟩=false
theorem gT.set {w:World} {b:Nat} {l:List UInt8} (h:gT w b l) (k:Nat) (y:UInt8):gT (w.setCell ⟨b,k,none⟩ (.int .u8 y.toNat)) b (l.set k y):=by
 refine ⟨λj x hx=>?_,λj hj=>?_⟩
 ·by_cases hjk:k=j
  ·subst hjk;have hk:k < l.length:=(by have:=(ZV.1 hx).1;simpa using this);rw [z0M hk] at hx;obtain rfl:y=x:=(by simpa using hx);exact z1B _ _ _ (by rw [h.cell k l[k] (zL hk)];rfl)
  ·rw [z0F hjk] at hx;rw [z0D _ _ _ _ (by simp)];exact h.cell j x hx
 ·rw [World.frozen?_setCell];exact h.free j (by simpa using hj)
theorem gT.below {w w':World} {b B:Nat} {l:List UInt8} (h:gT w b l) (hb:Below B w w') (hB:b < B):gT w' b l:=⟨λj x hx=>(hb.cell (p:=⟨b,j,none⟩) hB).trans (h.cell j x hx),λj hj=>(hb.frozen (p:=⟨b,j,none⟩) hB).trans (h.free j hj)⟩
theorem LV (w:World) (s:ByteArray):∃cap w0,(convert 9 22 (.string s)).run Tryz.prog w=.ok (.slice (some ⟨w.heap.size,0,none⟩) s.size cap) w0/\
  s.size<=cap/\Below w.heap.size w w0/\w0.heap.size=w.heap.size+1/\gT w0 w.heap.size s.data.toList:=by
 refine ⟨_,_,Lib.run_convert_string_bytes w _ _ _ s Tryz.underlying9 Tryz.underlying22 Tryz.underlying5,grownCap_ge _ _ _ _,⟨rfl,rfl,rfl,?_,λk hk=>Lib.bytesWorld_at_old _ _ _ _ hk⟩,Lib.bytesWorld_size _ _ _,⟨λj x hx=>?_,λj hj=>?_⟩⟩
 ·rw [Lib.bytesWorld_size];omega
 ·have hj:=(ZV.1 hx).1;rw [Lib.bytesWorld_cell _ _ _ _ (by simpa using hj)];rw [JL,hx];rfl
 ·unfold World.frozen?;rw [show (Lib.bytesWorld w 5 s).heap[w.heap.size]?=_ from Lib.bytesWorld_at_new _ _ _];have:s.size<=(Lib.bytesCells w 5 s).size:=by simp [Lib.bytesCells]
  have hj':j < s.size:=by simpa using hj
  simp;omega
theorem kR (w:World) (b cap:Nat) (l:List UInt8) (h:gT w b l):(convert 22 9 (.slice (some ⟨b,0,none⟩) l.length cap)).run Tryz.prog w=.ok (.string ⟨l.toArray⟩) w:=
 run_convert_bytes_back w _ _ _ _ cap l Tryz.underlying22 Tryz.underlying5 Tryz.underlying9 (λj hj=>by
  have hadd:(⟨b,0,none⟩:Addr).add j=⟨b,j,none⟩:=by unfold Addr.add;split<;>simp_all
  rw [hadd];exact h.cell j l[j] (zL hj))
structure ElT (P:Program) (t e:TypeId) (size bytes:Nat):Prop where
 ht:P.underlying t=some (.slice e)
 info:∃i z,P.info? e=some i/\i.zero=some z/\i.size=size/\i.bytes=bytes/\z.cells.size=size
 pos:0 < size
theorem ElT.mk' {P:Program} {t e:TypeId} {z:Value} {size bytes:Nat} (ht:P.underlying t=some (.slice e)) (hi:(P.info? e).map (λi=>(i.zero,i.size,i.bytes))=some (some z,size,bytes)) (hz:z.cells.size=size) (hp:0 < size):ElT P t e size bytes:=by obtain ⟨i,h1,h2,h3,h4⟩:=info_parts hi;exact ⟨ht,⟨i,z,h1,h2,h3,h4,hz⟩,hp⟩
theorem Els.of_slR {α:Type} {R:Rep α} {w:World} {p:aB} {b o:Nat}:∀(xs:List α) (k:Nat),(∀i x,xs[i]?=some x->∃cs,dR w b (o+(k+i) * R.size) cs/\R.rel w p cs x)->
  ∃cs,Els R w p cs xs/\dR w b (o+k * R.size) cs
 | [],k,_=>⟨[],rfl,dR.nil _ _ _⟩
 | x::xs,k,h=>by obtain ⟨c1,hc1,hr1⟩:=h 0 x rfl;obtain ⟨c2,he,hc2⟩:=Els.of_slR xs (k+1) (λi y hy=>by obtain ⟨c,h1,h2⟩:=h (i+1) y (by simpa using hy);exact ⟨c,by rwa [show k+(i+1)=k+1+i by omega] at h1,h2⟩);refine ⟨c1++c2,⟨c1,c2,rfl,hr1,he⟩,dR.append (by simpa using hc1) ?_⟩;rw [R.len hr1];rwa [show (k+1) * R.size=k * R.size+R.size by rw [Nat.add_mul];omega,<-z2B] at hc2
theorem SlR.cells {α:Type} {R:Rep α} {w:World} {p:aB} {a:Option Addr} {n cap:Nat} {xs:List α} (h:SlR R w p (.slice a n cap) xs) (ad:Addr) (ha:a=some ad):
  n=xs.length/\∃cs,Els R w p cs xs/\∀j u,cs[j]?=some u->w.cell? (ad.add j)=some u:=by
 obtain ⟨a',cap',e,h1,h2,h3⟩:=h;injection e with e1 e2 e3;subst e1 e2 e3 ha;refine ⟨rfl,?_⟩;cases xs with
 | nil=>exact ⟨[],rfl,λj u hu=>by simp at hu⟩
 | cons x xs=>
  obtain ⟨b,o,cs0,ea,_⟩:=h3 0 x rfl;injection ea with ea;subst ea;obtain ⟨cs,he,hc⟩:=Els.of_slR (o:=o) (b:=b) (x::xs) 0 (λi y hy=>by obtain ⟨b',o',c,ea,_,_,hc,hr⟩:=h3 i y hy;injection ea with ea;injection ea with e1 e2;subst e1 e2;exact ⟨c,by simpa using hc,hr⟩);refine ⟨cs,he,λj u hu=>?_⟩;have:=hc j u hu;have hadd:(⟨b,o,none⟩:Addr).add j=⟨b,o+j,none⟩:=by unfold Addr.add;split<;>simp_all
  rw [hadd];simpa using this
theorem GR {α:Type} {R:Rep α} {w:World} {p:aB} {cs:List Value} {x:α} (h:R.rel w p cs x) (e:TypeId):SlR R (w.alloc (.cells cs.toArray e)) (λk=>p k\/k=w.heap.size) (.slice (some ⟨w.heap.size,0,none⟩) 1 1) [x]:=by
 refine ⟨_,1,rfl,zI _,by simp [maxLen],λi y hy=>?_⟩;cases i with
 | succ i=>simp at hy
 | zero=>simp at hy;subst hy;refine ⟨w.heap.size,0,cs,rfl,.inr rfl,by simp,λj u hu=>?_,R.mono (λk hk=>.inl hk.1) (R.keep (aS.alloc (λk hk=>hk.2) _) (R.old h))⟩;simp only [Nat.zero_mul,Nat.zero_add];rw [World.cell?_alloc_at _ _ _ _ rfl];simpa using hu
section
variable {P:Program} (w:World)
theorem nL (base:Nat) (t ty e:TypeId) (size bytes:Nat) (hE:ElT P t e size bytes) (v:Value) (n:Nat) (xs:List Value) (hown:w.ownsRow base e size v n xs) (c:Nat):
  (Builtin.append_ #[t,t] ty #[v,.slice none 0 c]).run P w=.ok v w:=by
 obtain ⟨i,z,hi,_⟩:=hE.info;rcases hown.2 with ⟨rfl,rfl⟩ | ⟨g,cap,cur,rfl,_,_,hnc,_⟩
 ·simp [Builtin.append_,run_underlying hE.ht,sizeOf,typeInfo,hi,Builtin.lenOf,Builtin.firstCells]
 ·simp [Builtin.append_,run_underlying hE.ht,sizeOf,typeInfo,hi,Builtin.lenOf,Builtin.firstCells,hnc,storeCells]
def oS {α:Type} (R:Rep α) (w:World) (B:Nat) (e:TypeId) (p:aB) (v:Value) (zs:List α) (v':Value) (w':World):Prop:=Own R w' B e p v' zs/\w.grownBy w' v.ownBlock/\(v'.ownBlock=v.ownBlock\/v'.ownBlock=some w.heap.size)
theorem fD {α:Type} {R:Rep α} (B:Nat) (t ty e:TypeId) (bytes:Nat) (hE:ElT P t e R.size bytes) {p q:aB} {v vx:Value} {xs ys:List α} (hown:Own R w B e p v xs) (hx:SlR R w q vx ys)
  (hp:∀k,p k->some k≠v.ownBlock) (hq:∀k,q k->some k≠v.ownBlock) (hbytes:(xs.length+ys.length) * bytes<=140737488355328) (hlen:xs.length+ys.length<=9223372036854775807) (hB:B<=w.heap.size):
  ∃v' w',(Builtin.append_ #[t,t] ty #[v,vx]).run P w=.ok v' w'/\oS R w B e (λk=>p k\/q k) v (xs++ys) v' w':=by
 obtain ⟨cs,hrow,hels⟩:=hown;have hx':=hx;obtain ⟨a,cap,rfl,h1,h2,h3⟩:=hx';have keepP:∀{w':World},w.grownBy w' v.ownBlock->∀{r:aB},(∀k,r k->some k≠v.ownBlock)->aS (λk=>r k/\k < w.heap.size) w w':=λhg r hr=>aS.grown hg (λk hk=>⟨hk.2,hr k hk.1⟩);cases a with
 | none=>
  obtain rfl:ys=[]:=by
   cases ys with
   | nil=>rfl
   | cons y ys=>obtain ⟨b,o,c,ea,_⟩:=h3 0 y rfl;cases ea
  exact ⟨v,w,nL w B t ty e R.size bytes hE v _ cs hrow cap,⟨cs,by simpa using hrow,by simpa using hels.mono (λk hk=>.inl hk)⟩,World.grownBy.refl w _,.inl rfl⟩
 | some ad=>
  obtain ⟨_,news,hn,hcells⟩:=hx.cells ad rfl;obtain ⟨i,z,hi,hz,hs,hb,hzs⟩:=hE.info;obtain ⟨v',w',hrun,h4,h5,_,h6⟩:=run_append_own_at (P:=P) w B t ty e i z R.size bytes hE.ht hi hz hs hb hzs hE.pos v xs.length cs hrow ad ys.length cap news hn.len hcells hn.one (by simp only [maxLen];omega) hbytes hB;refine ⟨v',w',hrun,⟨cs++news,by simpa using h4,?_⟩,h5,h6⟩;refine Els.append ?_ ?_
  ·exact (Els.keep (keepP h5 hq) (Els.old hn)).mono (λk hk=>.inr hk.1)
  ·exact (Els.keep (keepP h5 hp) (Els.old hels)).mono (λk hk=>.inl hk.1)
theorem rJ {α:Type} {R:Rep α} {o:Oper} {a:Act} {K:Act->World->Prop} {Q:Exit->Act->World->Prop} (s x:Operand) (t:TypeId)
  (ho:o.op=.call {callee:=.builtin .append,args:=#[s,x],argTypes:=#[t,t]})
  (B:Nat) (e:TypeId) (bytes:Nat) (hE:ElT P t e R.size bytes) (p q:aB) (v vx:Value) (xs ys:List α) (hs:a.eval s=v) (hxe:a.eval x=vx) (hown:Own R w B e p v xs) (hx:SlR R w q vx ys)
  (hp:∀k,p k->some k≠v.ownBlock) (hq:∀k,q k->some k≠v.ownBlock) (hbytes:(xs.length+ys.length) * bytes<=140737488355328) (hlen:xs.length+ys.length<=9223372036854775807) (hB:B<=w.heap.size)
  (h:∀v' w',oS R w B e (λk=>p k\/q k) v (xs++ys) v' w'->K (a.put o.dst v') w'):o.wp P a w K Q:=by
 obtain ⟨v',w',hrun,h2⟩:=fD (P:=P) w B t o.type e bytes hE hown hx hp hq hbytes hlen hB;unfold Oper.wp execOp;simp only [ho,resolve,invoke,builtin,Sem.run_bind,Sem.run_pure,Result.andThen_ok,List.map_toArray,List.map_cons,List.map_nil,hs,hxe,hrun];exact h v' w' h2
theorem dJ {α:Type} {R:Rep α} {ops:Array Oper} {rest:List Oper} {o:Oper} {a:Act} {Q:Exit->Act->World->Prop} (hgd:o.guard=none) (s x:Operand) (t:TypeId)
  (ho:o.op=.call {callee:=.builtin .append,args:=#[s,x],argTypes:=#[t,t]})
  (B:Nat) (e:TypeId) (bytes:Nat) (hE:ElT P t e R.size bytes) (p q:aB) (v vx:Value) (xs ys:List α) (hs:a.eval s=v) (hxe:a.eval x=vx) (hown:Own R w B e p v xs) (hx:SlR R w q vx ys)
  (hp:∀k,p k->some k≠v.ownBlock) (hq:∀k,q k->some k≠v.ownBlock) (hbytes:(xs.length+ys.length) * bytes<=140737488355328) (hlen:xs.length+ys.length<=9223372036854775807) (hB:B<=w.heap.size)
  (h:∀v' w',oS R w B e (λk=>p k\/q k) v (xs++ys) v' w'->wpList P ops Q rest (a.put o.dst v') w'):wpList P ops Q (o::rest) a w:=
 wpList_plain hgd λ_ hK=>rJ w s x t ho B e bytes hE p q v vx xs ys hs hxe hown hx hp hq hbytes hlen hB λv' w' h2=>hK _ _ (h v' w' h2)
end
abbrev NoB:aB:=λ_=>False
theorem Own.flat {α:Type} {n:Nat} {enc:α->List Value} {h:∀x,(enc x).length=n} {h1:∀x,∀u∈enc x,u.oneCell'=true} {w:World} {B:Nat} {e:TypeId} {p:aB} (q:aB) {v:Value} {xs:List α} (ho:Own (Rep.flat n enc h h1) w B e p v xs):Own (Rep.flat n enc h h1) w B e q v xs:=by
 obtain ⟨cs,hr,he⟩:=ho;refine ⟨cs,hr,?_⟩;clear hr;induction xs generalizing cs with
 | nil=>exact he
 | cons x xs ih=>obtain ⟨c1,c2,e1,h2,h3⟩:=he;exact ⟨c1,c2,e1,h2,ih _ h3⟩
theorem Own.made {α:Type} {R:Rep α} (w:World) (e:TypeId) (p:aB):Own R (w.alloc (.cells #[] e)) w.heap.size e p (.slice (some ⟨w.heap.size,0,none⟩) 0 0) ([]:List α):=⟨[],World.ownsRow_made w #[] 0 (zI _) (by simp [maxLen]) (by simp),rfl⟩
def eN:Rep ByteArray:=Rep.flat 1 (λs=>[.string s]) (λ_=>rfl) (λ_ u hu=>by simp at hu;subst hu;rfl)
theorem SlR.str {w:World} {p:aB} {v:Value} {l:List ByteArray} (h:SlR eN w p v l):∃a cap,v=.slice a l.length cap/\l.length<=cap/\cap<=9223372036854775807/\
  ∀i x,l[i]?=some x->∃b o,a=some ⟨b,o,none⟩/\p b/\w.cell? ⟨b,o+i,none⟩=some (.string x):=by
 obtain ⟨a,cap,e,h1,h2,h3⟩:=h;refine ⟨a,cap,e,h1,by simpa [maxLen] using h2,λi x hx=>?_⟩;obtain ⟨b,o,cs,ea,hb,hbs,hc,hr⟩:=h3 i x hx;have hr:cs=[.string x]:=hr;subst hr;have:=hc 0 _ rfl;exact ⟨b,o,ea,hb,by simpa [eN,Rep.flat] using this⟩
theorem gA {a b:ByteArray} (h:a.toList=b.toList):a=b:=by rw [Go.ByteArray.toList_eq,Go.ByteArray.toList_eq] at h;obtain ⟨⟨x⟩⟩:=a;obtain ⟨⟨y⟩⟩:=b;simp at h;rw [h]
theorem kB (w:World) (e:TypeId) (p:aB) (l:List ByteArray) (b:Nat) (hb:b=w.heap.size) (hp:p b) (hl:l.length<=maxLen):SlR eN (w.alloc (.cells (l.map Value.string).toArray e)) p (.slice (some ⟨b,0,none⟩) l.length l.length) l:=by
 subst hb;refine ⟨_,l.length,rfl,zI _,hl,λi x hx=>⟨_,_,[.string x],rfl,hp,by simp,λj u hu=>?_,rfl⟩⟩;cases j with
 | succ j=>simp at hu
 | zero=>simp at hu;subst hu;rw [World.cell?_alloc_at _ _ _ _ rfl];simp [eN,Rep.flat,hx]
def bs (l:List UInt8):ByteArray:=⟨l.toArray⟩
def oO:Rep Int:=Rep.flat 1 (λn=>[.int .i64 n]) (λ_=>rfl) (λ_ u hu=>by simp at hu;subst hu;rfl)
theorem elInt:ElT Tryz.prog 38 3 oO.size 8:=ElT.mk' (z:=.int .i64 0) Tryz.underlying38 (by kernel_rfl) rfl (by decide)
theorem SlR.int {w:World} {p:aB} {v:Value} {l:List Int} (h:SlR oO w p v l):∃a cap,v=.slice a l.length cap/\l.length<=cap/\cap<=9223372036854775807/\
  ∀i x,l[i]?=some x->∃b o,a=some ⟨b,o,none⟩/\p b/\w.cell? ⟨b,o+i,none⟩=some (.int .i64 x):=by
 obtain ⟨a,cap,e,h1,h2,h3⟩:=h;refine ⟨a,cap,e,h1,by simpa [maxLen] using h2,λi x hx=>?_⟩;obtain ⟨b,o,cs,ea,hb,hbs,hc,hr⟩:=h3 i x hx;have hr:cs=[.int .i64 x]:=hr;subst hr;have:=hc 0 _ rfl;rw [show oO.size=1 from rfl,Nat.mul_one,z0N] at this;exact ⟨b,o,ea,hb,this⟩
theorem fZ {w0 w1 w2:World} {row:Option Nat} (h1:w0.grownBy w1 row) (h2:w1.grownBy w2 row):w0.grownBy w2 row:=⟨h2.1.trans h1.1,h2.2.trans h1.2,h2.3.trans h1.3,qJ h1.4 h2.4,λk hk hne=>(h2.5 k (vB hk h1.4) hne).trans (h1.5 k hk hne)⟩
section
variable {P:Program} {α:Type} {n:Nat} {enc:α->List Value} {h0:∀x,(enc x).length=n} {h1:∀x,∀u∈enc x,u.oneCell'=true}
def DU (R:Rep α) (w:World) (B:Nat) (e:TypeId) (row:Option Nat) (zs:List α) (v':Value) (w':World):Prop:=Own R w' B e NoB v' zs/\w.grownBy w' row
theorem Own.pushed {w:World} {B bytes:Nat} {t ty e:TypeId} {v:Value} {xs:List α} {x:α} (hE:ElT P t e n bytes) (h:Own (Rep.flat n enc h0 h1) w B e NoB v xs) (cs:Array Value) (hcs:cs=(enc x).toArray)
  (hbytes:(xs.length+1) * bytes<=140737488355328) (hlen:xs.length+1<=9223372036854775807) (hB:B<=w.heap.size):
  ∃a c w',(Builtin.append_ #[t,t] ty #[v,.slice (some ⟨w.heap.size,0,none⟩) 1 1]).run P (w.alloc (.cells cs e))=.ok (.slice a (xs.length+1) c) w'/\DU (Rep.flat n enc h0 h1) w B e v.ownBlock (xs++[x]) (.slice a (xs.length+1) c) w':=by
 subst hcs;have hlt:=h.lt;obtain ⟨v',w',hrun,ho,hg,_⟩:=fD (P:=P) (R:=Rep.flat n enc h0 h1) (w:=w.alloc (.cells (enc x).toArray e)) B t ty e bytes hE (p:=NoB) (q:=λk=>NoB k\/k=w.heap.size) (v:=v)
  (vx:=.slice (some ⟨w.heap.size,0,none⟩) 1 1) (xs:=xs) (ys:=[x]) (h.keep (aS.of_below ((zY _ _).alloc (zI _) _) (λk hk=>by rcases hk with hk | hk;exact hk.elim;exact (hlt k hk).2))) (GR (R:=Rep.flat n enc h0 h1) (p:=NoB) rfl _) (λ_ hk=>hk.elim)
  (λk hk e=>by
   rcases hk with hk | rfl
   ·exact hk.elim
   ·exact absurd (hlt _ e.symm).2 (Nat.lt_irrefl _)) (by simpa using hbytes) (by simpa using hlen) (by simp;omega)
 obtain ⟨a,c,rfl⟩:=ho.form;have ho':=ho.flat NoB;rw [YL,List.length_singleton] at hrun ho';exact ⟨a,c,w',hrun,ho',fZ (World.grownBy_alloc w _ _) hg⟩
theorem wp_push {o:Oper} {a:Act} {w:World} {K:Act->World->Prop} {Q:Exit->Act->World->Prop} (s x:Operand) (t:TypeId)
  (ho:o.op=.call {callee:=.builtin .append,args:=#[s,x],argTypes:=#[t,t]})
  (B:Nat) (e:TypeId) (bytes:Nat) (hE:ElT P t e n bytes) (v:Value) (xs:List α) (y:α) (cs:Array Value) (hs:a.eval s=v) (hxe:a.eval x=.slice (some ⟨w.heap.size,0,none⟩) 1 1) (hown:Own (Rep.flat n enc h0 h1) w B e NoB v xs)
  (hcs:cs=(enc y).toArray) (hbytes:(xs.length+1) * bytes<=140737488355328) (hlen:xs.length+1<=9223372036854775807) (hB:B<=w.heap.size)
  (h:∀a' c' w',DU (Rep.flat n enc h0 h1) w B e v.ownBlock (xs++[y]) (.slice a' (xs.length+1) c') w'->K (a.put o.dst (.slice a' (xs.length+1) c')) w'):o.wp P a (w.alloc (.cells cs e)) K Q:=by
 obtain ⟨a',c',w',hrun,h2⟩:=hown.pushed (P:=P) (ty:=o.type) hE cs hcs hbytes hlen hB;unfold Oper.wp execOp;simp only [ho,resolve,invoke,builtin,Sem.run_bind,Sem.run_pure,Result.andThen_ok,List.map_toArray,List.map_cons,List.map_nil,hs,hxe,hrun];exact h a' c' w' h2
theorem cK {ops:Array Oper} {rest:List Oper} {o:Oper} {a:Act} {w:World} {Q:Exit->Act->World->Prop} (hgd:o.guard=none) (s x:Operand) (t:TypeId)
  (ho:o.op=.call {callee:=.builtin .append,args:=#[s,x],argTypes:=#[t,t]})
  (B:Nat) (e:TypeId) (bytes:Nat) (hE:ElT P t e n bytes) (v:Value) (xs:List α) (y:α) (cs:Array Value) (hs:a.eval s=v) (hxe:a.eval x=.slice (some ⟨w.heap.size,0,none⟩) 1 1) (hown:Own (Rep.flat n enc h0 h1) w B e NoB v xs)
  (hcs:cs=(enc y).toArray) (hbytes:(xs.length+1) * bytes<=140737488355328) (hlen:xs.length+1<=9223372036854775807) (hB:B<=w.heap.size)
  (h:∀a' c' w',DU (Rep.flat n enc h0 h1) w B e v.ownBlock (xs++[y]) (.slice a' (xs.length+1) c') w'->wpList P ops Q rest (a.put o.dst (.slice a' (xs.length+1) c')) w'):wpList P ops Q (o::rest) a (w.alloc (.cells cs e)):=
 wpList_plain hgd λ_ hK=>wp_push s x t ho B e bytes hE v xs y cs hs hxe hown hcs hbytes hlen hB λa' c' w' h2=>hK _ _ (h a' c' w' h2)
end
theorem Own.lit {α:Type} {n:Nat} {enc:α->List Value} {h0:∀x,(enc x).length=n} {h1:∀x,∀u∈enc x,u.oneCell'=true} (w:World) (e:TypeId) (l:List α) (cs:Array Value) (m:Nat) (hm:m=l.length) (hcs:cs.toList=l.flatMap enc) (hl:l.length<=1000000):
  Own (Rep.flat n enc h0 h1) (w.alloc (.cells cs e)) w.heap.size e NoB (.slice (some ⟨w.heap.size,0,none⟩) m m) l:=by
 subst hm;have hels:∀(l:List α) (p:aB) (w:World),Els (Rep.flat n enc h0 h1) w p (l.flatMap enc) l:=by
  intro l p w;induction l with
  | nil=>rfl
  | cons x l ih=>exact ⟨enc x,l.flatMap enc,rfl,rfl,ih⟩
 have hlen:cs.size=l.length * n:=by have:=(hels l (λ_=>True) w).len;rw [<-hcs] at this;simpa [Rep.flat] using this
 exact ⟨cs.toList,⟨by simpa [Rep.flat] using hlen,.inr ⟨w.heap.size,l.length,cs,rfl,zI _,heap_alloc_new w _,zI _,by unfold maxLen;omega,hlen,QD (by show cs.toList.length<=l.length * n;rw [<-hlen,Array.length_toList];exact zI _)⟩⟩,by rw [hcs];exact hels l _ _⟩
theorem fS {α:Type} {n:Nat} {enc:α->List Value} {h0:∀x,(enc x).length=n} {h1:∀x,∀u∈enc x,u.oneCell'=true} (w:World) (e:TypeId) (q:aB) (l:List α) (cs:Array Value) (m:Nat) (hm:m=l.length) (hcs:cs.toList=l.flatMap enc) (hl:l.length<=1000000) (hq:∀k,w.heap.size<=k->q k):
  SlR (Rep.flat n enc h0 h1) (w.alloc (.cells cs e)) q (.slice (some ⟨w.heap.size,0,none⟩) m m) l:=(Own.lit w e l cs m hm hcs hl).slR (λ_ h=>h.elim) hq
def aI:Rep UInt8:=Rep.flat 1 (λb=>[.int .u8 b.toNat]) (λ_=>rfl) (λ_ u hu=>by simp at hu;subst hu;rfl)
end Go.Proofs.YtpigbggoiipmhaaGreatDoor
