/-
  Functions of the program and of the reference, walked; plain facts on what they compute. Conditions: sizes.
-/
import Derived.Test.YtpigbggoiipmhaaGreatDoorBA2
namespace Go.Proofs.YtpigbggoiipmhaaGreatDoor
open Go.RowKit
def rP:Rep Ins where
 size:=2
 rel:=λw p cs x=>∃v,cs=[.string x.op,v]/\SlR aM w p v x.args
 len:=λ⟨_,e,_⟩=>by subst e;rfl
 keep:=λhk ⟨v,e,h⟩=>⟨v,e,h.keep hk⟩
 mono:=λhp ⟨v,e,h⟩=>⟨v,e,h.mono hp⟩
 old:=λ⟨v,e,h⟩=>⟨v,e,h.old⟩
 one:=λ⟨v,e,a,cap,hv,_⟩ u hu=>by subst e;subst hv;simp at hu;rcases hu with rfl|rfl<;>rfl
theorem SlR.ins {w:World} {p:aB} {v:Value} {l:List Ins} (h:SlR rP w p v l):∃a cap,v=.slice a l.length cap/\l.length<=cap/\cap<=9223372036854775807/\
  ∀i x,l[i]?=some x->∃b o va,a=some ⟨b,o,none⟩/\p b/\w.cell? ⟨b,o+i*2,none⟩=some (.string x.op)/\w.cell? ⟨b,o+i*2+1,none⟩=some va/\SlR aM w p va x.args:=by
 obtain ⟨a,cap,e,h1,h2,h3⟩:=h;refine ⟨a,cap,e,h1,by simpa [maxLen] using h2,λi x hx=>?_⟩;obtain ⟨b,o,cs,ea,hb,hbs,hc,va,hcs,hr⟩:=h3 i x hx;subst hcs;exact ⟨b,o,va,ea,hb,hc 0 _ rfl,hc 1 _ rfl,hr⟩
end Go.Proofs.YtpigbggoiipmhaaGreatDoor
