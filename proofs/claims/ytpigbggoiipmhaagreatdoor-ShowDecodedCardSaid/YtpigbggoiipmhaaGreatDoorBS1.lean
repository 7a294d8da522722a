/-
  Items by their bytes; breadboardref12.Same, decode.Same in general. Lists of items in memory; the rest of a row of bytes. Conditions: none.
-/
import Derived.Test.YtpigbggoiipmhaaGreatDoorBE3
import Derived.Test.YtpigbggoiipmhaaGreatDoorBC4
import Derived.Test.YtpigbggoiipmhaaGreatDoorBT0
namespace Go.Proofs.YtpigbggoiipmhaaGreatDoor
open Go.RowKit Go.Shelf Go.Sort
structure It where
 k:Int
 raw:List UInt8
 op:List UInt8
 args:List Opd
 al:Bool
def Itm.it (x:Itm) (l:List UInt8):It:=⟨x.k,l.take x.n,x.op,x.args,x.al⟩
def kY (x:It) (ra:Option Addr) (rc:Nat) (va:Option Addr) (vc:Nat):Array Value:=#[.int .i64 x.k,.slice ra x.raw.length rc,.string ⟨x.op.toArray⟩,.slice va x.args.length vc,.bool x.al]
def ItP (w:World) (p:aB) (x:It) (v:Value):Prop:=∃ra rc va vc,v=.agg (kY x ra rc va vc)/\SlR aI w p (.slice ra x.raw.length rc) x.raw/\SlR aM w p (.slice va x.args.length vc) x.args
theorem dW.it {w:World} {B:Nat} {x:Itm} {l:List UInt8} {v:Value} (h:dW w B x l v):ItP w (λb=>B<=b) (x.it l) v:=by obtain ⟨ra,rc,va,vc,rfl,h1,h2⟩:=h;exact ⟨ra,rc,va,vc,rfl,h1,h2⟩
def itR:Rep It where
 size:=5
 rel:=λw p cs x=>∃ra rc va vc,cs=(kY x ra rc va vc).toList/\SlR aI w p (.slice ra x.raw.length rc) x.raw/\SlR aM w p (.slice va x.args.length vc) x.args
 len:=λ⟨_,_,_,_,e,_⟩=>by subst e;rfl
 keep:=λhk ⟨ra,rc,va,vc,e,h1,h2⟩=>⟨ra,rc,va,vc,e,h1.keep hk,h2.keep hk⟩
 mono:=λhp ⟨ra,rc,va,vc,e,h1,h2⟩=>⟨ra,rc,va,vc,e,h1.mono hp,h2.mono hp⟩
 old:=λ⟨ra,rc,va,vc,e,h1,h2⟩=>⟨ra,rc,va,vc,e,h1.old,h2.old⟩
 one:=λ⟨ra,rc,va,vc,e,_⟩ u hu=>by subst e;simp [kY] at hu;rcases hu with rfl | rfl | rfl | rfl | rfl<;>rfl
theorem SlR.it {w:World} {p:aB} {v:Value} {l:List It} (h:SlR itR w p v l):∃a cap,v=.slice a l.length cap/\l.length<=cap/\cap<=9223372036854775807/\
  ∀i x,l[i]?=some x->∃b o ra rc va vc,a=some ⟨b,o,none⟩/\b < w.heap.size/\w.cell? ⟨b,o+i * 5,none⟩=some (.int .i64 x.k)/\w.cell? ⟨b,o+i * 5+1,none⟩=some (.slice ra x.raw.length rc)/\w.cell? ⟨b,o+i * 5+2,none⟩=some (.string ⟨x.op.toArray⟩)/\w.cell? ⟨b,o+i * 5+3,none⟩=some (.slice va x.args.length vc)/\w.cell? ⟨b,o+i * 5+4,none⟩=some (.bool x.al)/\
   SlR aI w p (.slice ra x.raw.length rc) x.raw/\SlR aM w p (.slice va x.args.length vc) x.args:=by
 obtain ⟨a,cap,e,h1,h2,h3⟩:=h;refine ⟨a,cap,e,h1,by simpa [maxLen] using h2,λi x hx=>?_⟩;obtain ⟨b,o,cs,ea,hb,hbs,hc,ra,rc,va,vc,hcs,hr1,hr2⟩:=h3 i x hx;subst hcs;exact ⟨b,o,ra,rc,va,vc,ea,hbs,hc 0 _ rfl,hc 1 _ rfl,hc 2 _ rfl,hc 3 _ rfl,hc 4 _ rfl,hr1,hr2⟩
end Go.Proofs.YtpigbggoiipmhaaGreatDoor
