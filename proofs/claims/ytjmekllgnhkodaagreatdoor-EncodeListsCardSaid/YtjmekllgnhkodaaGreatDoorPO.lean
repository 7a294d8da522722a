/-
  The plain laws of entries and numbers. Conditions: none.
-/
import Derived.Test.YtjmekllgnhkodaaGreatDoorPN
import Derived.Test.YtjmekllgnhkodaaGreatDoorPM
import Derived.Test.YtjmekllgnhkodaaGreatDoorPL
import Derived.Test.YtjmekllgnhkodaaGreatDoorPD
namespace Go.Proofs.YtjmekllgnhkodaaGreatDoor
open Go.RowKit Go.Shelf Go.Sort
structure VarS (ex:List UInt8) (l:List Opd) (D J:Option Nat) (L lo hi:Int):Prop where
 d1:∀i,D=some i→(hasF ex 100&&decide (0≤lastK [5] l l.length))=true∧lastK [5] l l.length=i∧i < l.length∧nAt l i=0
 d0:D=none→(hasF ex 100&&decide (0≤lastK [5] l l.length))=false
 j1:∀j,J=some j→numV ex l=((j:Int),lo,hi,true)∧j < l.length∧nAt l j=0
 j0:J=none→(numV ex l).2.2.2=false
 ne:∀i,D=some i→J≠some i
 wi:∀n,withinF L n=fitsB lo hi n
 ll:L=101∨L=110∨L=119
 le:∀k,k < l.length→letF l ex k=if D=some k then 100 else if J=some k then L else 0
theorem nAt_of {l:List Opd} {k:Nat} {x:Opd} (h:l[k]?=some x):nAt l k=x.n:=by unfold nAt;rw [h]
theorem takeF_at {i:Nat} {lo hi:Int} {op:ByteArray} {c:List Opd} {x:Opd} (hx:c[i]?=some x):takeF (i:Int) lo hi true op c=(x.n,(if fitsB lo hi x.n=true then op else ⟨#[]⟩),(if fitsB lo hi x.n=true then c.set i (z0 x) else c)):=by
 unfold takeF;rw [if_pos rfl,Int.toNat_natCast,hx];rfl
theorem takeF_off {idx lo hi:Int} {op:ByteArray} {c:List Opd}:takeF idx lo hi false op c=(0,op,c):=if_neg (by decide)
theorem putF_at {i:Nat} {lo hi n:Int} {c:List Opd} {x:Opd} (hx:c[i]?=some x):putF (i:Int) lo hi true n c=(fitsB lo hi n,c.set i {x with n:=n}):=by
 unfold putF;rw [if_pos rfl,Int.toNat_natCast,hx]
theorem putF_off {idx lo hi n:Int} {c:List Opd}:putF idx lo hi false n c=(n==0,c):=if_neg (by decide)
theorem zero_eq {l c m:List Opd} (P:Nat→Prop) [DecidablePred P] (hk:l.map kr=c.map kr) (hm:m.length=c.length) (h1:∀k,k < c.length→m[k]?=(c[k]?).map fun o=>if P k then z0 o else o) (h2:∀k,k < l.length→P k→nAt l k=0):
  m=l↔∀k,k < l.length→¬P k→nAt l k=nAt c k:=by
 have hl:l.length=c.length:=by have:=congrArg List.length hk;simpa using this
 have hkr:∀k (h:k < l.length) (h':k < c.length),l[k].kind=c[k].kind∧l[k].reg=c[k].reg:=fun k h h'=>by
  have e:(l.map kr)[k]?=(c.map kr)[k]?:=by rw [hk]
  rw [List.getElem?_map,List.getElem?_map,List.getElem?_eq_getElem h,List.getElem?_eq_getElem h'] at e
  simp only [Option.map_some,kr] at e
  injection e with e
  injection e with e1 e2
  exact ⟨e1,e2⟩
 constructor
 ·rintro rfl k hlt hP
  have:=h1 k (by omega)
  rw [List.getElem?_eq_getElem (show k < c.length by omega),Option.map_some,if_neg hP,←List.getElem?_eq_getElem (show k < c.length by omega)] at this
  unfold nAt
  rw [this]
 ·intro h
  refine List.ext_getElem? fun k=>?_
  by_cases hlt:k < l.length
  ·have hc:k < c.length:=by omega
   obtain ⟨e1,e2⟩:=hkr k hlt hc
   rw [h1 k hc,List.getElem?_eq_getElem hc,List.getElem?_eq_getElem hlt,Option.map_some]
   congr 1
   split
   ·rename_i hP
    have h3:=h2 k hlt hP
    rw [nAt_eq hlt] at h3
    rw [z0,←e1,←e2,←h3]
   ·rename_i hP
    have h3:=h k hlt hP
    rw [nAt_eq hlt,nAt_eq hc] at h3
    generalize l[k]=a at *
    generalize c[k]=b at *
    obtain ⟨a1,a2,a3⟩:=a
    obtain ⟨b1,b2,b3⟩:=b
    dsimp only at *
    subst e1 e2 h3
    rfl
  ·rw [List.getElem?_eq_none (by omega),List.getElem?_eq_none (by omega)]
theorem fitsC_iff {s t:ByteArray} {ex:List UInt8} {l c:List Opd} {D J:Option Nat} {L lo hi:Int} (V:VarS ex l D J L lo hi) (hs:shF s t l c=true):
  fitsC s t ex l c=true↔(∀i,D=some i→fitsB (-128) 127 (nAt c i)=true)∧(∀j,J=some j→fitsB lo hi (nAt c j)=true)∧∀k,k < l.length→¬(D=some k∨J=some k)→nAt l k=nAt c k:=by
 have hl:l.length=c.length:=shF_eq_len hs
 have hL0:L≠0:=by have:=V.ll;omega
 unfold fitsC
 rw [hs,Bool.true_and,List.all_eq_true]
 have hd:∀n,withinF 100 n=fitsB (-128) 127 n:=fun n=>by unfold withinF fitsB;rw [if_pos (Or.inl rfl)]
 constructor
 ·intro h
  refine ⟨fun i hi=>?_,fun j hj=>?_,fun k hk hP=>?_⟩
  ·have h3:=(V.d1 i hi).2.2.1
   have h4:=h i (List.mem_range.2 (by omega))
   unfold oneF at h4
   rw [V.le i h3,if_pos hi,if_neg (by decide),hd] at h4
   exact h4
  ·have h3:=(V.j1 j hj).2.1
   have h4:=h j (List.mem_range.2 (by omega))
   unfold oneF at h4
   rw [V.le j h3,if_neg (fun e=>V.ne j e hj),if_pos hj,if_neg hL0,V.wi] at h4
   exact h4
  ·have h4:=h k (List.mem_range.2 (by omega))
   unfold oneF at h4
   rw [V.le k hk,if_neg (fun e=>hP (Or.inl e)),if_neg (fun e=>hP (Or.inr e)),if_pos rfl] at h4
   exact eq_of_beq h4
 ·rintro ⟨h1,h2,h3⟩ k hk
  have hk2:=List.mem_range.1 hk
  unfold oneF
  rw [V.le k (by omega)]
  by_cases e1:D=some k
  ·rw [if_pos e1,if_neg (by decide),hd];exact h1 k e1
  by_cases e2:J=some k
  ·rw [if_neg e1,if_pos e2,if_neg hL0,V.wi];exact h2 k e2
  rw [if_neg e1,if_neg e2,if_pos rfl,h3 k (by omega) (by rintro (h | h);exact e1 h;exact e2 h)]
  exact beq_self_eq_true _
def dAt (c:List Opd):Option Nat→Int
 | some i=>nAt c i
 | none=>0
theorem valS_var {ex:List UInt8} {l c:List Opd} {D J:Option Nat} {L lo hi:Int} (V:VarS ex l D J L lo hi) (hl:l.length=c.length):
  valS ex l c c.length=(dAt c D,dAt c J):=by
 have hL:L=101∨L=110∨L=119:=V.ll
 have key:∀m,m≤l.length→valS ex l c m=((match D with | some i=>if i < m then nAt c i else 0 | none=>0),(match J with | some j=>if j < m then nAt c j else 0 | none=>0)):=by
  intro m
  induction m with
  | zero=>intro _;cases D<;>cases J<;>simp [valS]
  | succ m ih=>
   intro hm
   have ih:=ih (by omega)
   rw [valS,ih,V.le m (by omega)]
   by_cases e1:D=some m
   ·subst e1
    have e2:=V.ne m rfl
    rw [if_pos rfl]
    unfold valStep
    rw [if_pos rfl]
    refine Prod.ext ?_ ?_
    ·simp
    ·cases J with
     | none=>rfl
     | some j=>
      have:j≠m:=fun e=>e2 (by rw [e])
      show (if j < m then nAt c j else 0)=if j < m+1 then nAt c j else 0
      by_cases h:j < m
      ·rw [if_pos h,if_pos (by omega)]
      ·rw [if_neg h,if_neg (by omega)]
   by_cases e2:J=some m
   ·subst e2
    rw [if_neg e1,if_pos rfl]
    unfold valStep
    rw [if_neg (by omega),if_pos hL]
    refine Prod.ext ?_ ?_
    ·cases D with
     | none=>rfl
     | some i=>
      have:i≠m:=fun e=>e1 (by rw [e])
      show (if i < m then nAt c i else 0)=if i < m+1 then nAt c i else 0
      by_cases h:i < m
      ·rw [if_pos h,if_pos (by omega)]
      ·rw [if_neg h,if_neg (by omega)]
    ·simp
   rw [if_neg e1,if_neg e2]
   unfold valStep
   rw [if_neg (by decide),if_neg (by decide)]
   refine Prod.ext ?_ ?_
   ·cases D with
    | none=>rfl
    | some i=>
     have:i≠m:=fun e=>e1 (by rw [e])
     show (if i < m then nAt c i else 0)=if i < m+1 then nAt c i else 0
     by_cases h:i < m
     ·rw [if_pos h,if_pos (by omega)]
     ·rw [if_neg h,if_neg (by omega)]
   ·cases J with
    | none=>rfl
    | some j=>
     have:j≠m:=fun e=>e2 (by rw [e])
     show (if j < m then nAt c j else 0)=if j < m+1 then nAt c j else 0
     by_cases h:j < m
     ·rw [if_pos h,if_pos (by omega)]
     ·rw [if_neg h,if_neg (by omega)]
 rw [←hl,key _ (Nat.le_refl _)]
 refine Prod.ext ?_ ?_
 ·cases D with
  | none=>rfl
  | some i=>exact if_pos (V.d1 i rfl).2.2.1
 ·cases J with
  | none=>rfl
  | some j=>exact if_pos (V.j1 j rfl).2.1
end Go.Proofs.YtjmekllgnhkodaaGreatDoor
namespace Go.Proofs.YtjmekllgnhkodaaGreatDoor
open Go.RowKit Go.Shelf Go.Sort
theorem shF_parts {s t:ByteArray} {l c:List Opd} (h:shF s t l c=true):s=t∧l.map kr=c.map kr:=by
 unfold shF at h
 obtain ⟨h1,h2⟩:=Bool.and_eq_true_iff.1 h
 exact ⟨toList_inj (eq_of_beq h1),of_decide_eq_true h2⟩
theorem ins_bool {a s:ByteArray} {m l:List Opd} {b:Bool} (h:(a=s∧m=l)↔b=true):insEq ⟨a,m⟩ ⟨s,l⟩=b:=by
 unfold insEq
 rw [Bool.eq_iff_iff,decide_eq_true_iff]
 exact h
theorem fits_end {s t:ByteArray} {ex:List UInt8} {l c:List Opd} {x1 x2 d n:Int} {b:Bool} (hb:b=fitsC s t ex l c) (hv:valS ex l c c.length=(d,n)) (h1:x1=d) (h2:x2=n):
  (if b=true then (x1,x2,true) else (0,0,false))=((valF s t ex l c).1,(valF s t ex l c).2,fitsC s t ex l c):=by
 subst hb h1 h2
 unfold valF
 cases h:fitsC s t ex l c
 ·rfl
 ·rw [if_pos rfl,if_pos rfl,hv]
theorem fits_eq {s t:ByteArray} {ex:List UInt8} {l c:List Opd} {D J:Option Nat} {L lo hi:Int} (V:VarS ex l D J L lo hi) (hu:upper s=s) (hn:s≠⟨#[]⟩):
  fitsS s t ex l c=((valF s t ex l c).1,(valF s t ex l c).2,fitsC s t ex l c):=by
 cases hs:shF s t l c
 ·have h1:=fitsC_no hs (ex:=ex)
  unfold fitsS valF
  rw [hs,h1]
  rfl
 have hl:=shF_eq_len hs
 obtain ⟨hst,hk⟩:=shF_parts hs
 have hiff:=fitsC_iff V hs
 have hv:=valS_var V hl
 have hz:=fun m P [DecidablePred P]=>zero_eq (l:=l) (c:=c) (m:=m) P hk
 unfold fitsS
 rw [if_pos hs]
 subst hst
 rw [hu]
 cases hD:D with
 | none=>
  rw [V.d0 hD,takeF_off]
  dsimp only
  cases hJ:J with
  | none=>
   rw [V.j0 hJ,takeF_off]
   refine fits_end (ins_bool ?_) hv (by rw [hD];rfl) (by rw [hJ];rfl)
   rw [hiff,hD,hJ]
   rw [hz c (fun _=>False) rfl (fun k hk=>by simp) (fun _ _ h=>h.elim)]
   simp
  | some j=>
   obtain ⟨e1,e2,e3⟩:=V.j1 j hJ
   have hx:c[j]?=some c[j]:=List.getElem?_eq_getElem (by omega)
   have hy:nAt c j=c[j].n:=nAt_of hx
   rw [e1,takeF_at hx]
   refine fits_end (ins_bool ?_) hv (by rw [hD];rfl) (by rw [hJ];exact hy.symm)
   rw [hiff,hD,hJ]
   cases hf:fitsB lo hi c[j].n
   ·rw [if_neg (by decide)]
    exact ⟨fun h=>absurd h.1.symm hn,fun h=>absurd (h.2.1 j rfl) (by rw [hy,hf];decide)⟩
   ·rw [if_pos rfl,if_pos rfl]
    rw [hz (c.set j (z0 c[j])) (fun k=>j=k) (by rw [List.length_set]) (fun k hk=>by
     rw [List.getElem?_set]
     by_cases h:j=k
     ·subst h;rw [if_pos rfl,if_pos hk,hx,Option.map_some,if_pos rfl]
     ·rw [if_neg h];simp [h]) (fun k _ h=>by rw [←h];exact e3)]
    constructor
    ·rintro ⟨_,h⟩
     exact ⟨fun i hi=>(by cases hi),fun j' hj'=>by injection hj' with hj';subst hj';rw [hy];exact hf,fun k hk hP=>h k hk (fun e=>hP (Or.inr (by rw [e])))⟩
    ·rintro ⟨_,_,h⟩
     exact ⟨rfl,fun k hk hP=>h k hk (by rintro (h | h);cases h;injection h with h;exact hP h)⟩
 | some i=>
  obtain ⟨d1,d2,d3,d4⟩:=V.d1 i hD
  have hxi:c[i]?=some c[i]:=List.getElem?_eq_getElem (by omega)
  have hyi:nAt c i=c[i].n:=nAt_of hxi
  rw [d1,d2,takeF_at hxi]
  dsimp only
  cases hJ:J with
  | none=>
   rw [V.j0 hJ,takeF_off]
   refine fits_end (ins_bool ?_) hv (by rw [hD];exact hyi.symm) (by rw [hJ];rfl)
   rw [hiff,hD,hJ]
   cases hf:fitsB (-128) 127 c[i].n
   ·rw [if_neg (by decide)]
    exact ⟨fun h=>absurd h.1.symm hn,fun h=>absurd (h.1 i rfl) (by rw [hyi,hf];decide)⟩
   ·rw [if_pos rfl,if_pos rfl]
    rw [hz (c.set i (z0 c[i])) (fun k=>i=k) (by rw [List.length_set]) (fun k hk=>by
     rw [List.getElem?_set]
     by_cases h:i=k
     ·subst h;rw [if_pos rfl,if_pos hk,hxi,Option.map_some,if_pos rfl]
     ·rw [if_neg h];simp [h]) (fun k _ h=>by rw [←h];exact d4)]
    constructor
    ·rintro ⟨_,h⟩
     exact ⟨fun i' hi'=>by injection hi' with hi';subst hi';rw [hyi];exact hf,fun j hj=>(by cases hj),fun k hk hP=>h k hk (fun e=>hP (Or.inl (by rw [e])))⟩
    ·rintro ⟨_,_,h⟩
     exact ⟨rfl,fun k hk hP=>h k hk (by rintro (h | h);injection h with h;exact hP h;cases h)⟩
  | some j=>
   obtain ⟨e1,e2,e3⟩:=V.j1 j hJ
   have hij:i≠j:=fun e=>V.ne i hD (by rw [hJ,e])
   have hx:c[j]?=some c[j]:=List.getElem?_eq_getElem (by omega)
   have hy:nAt c j=c[j].n:=nAt_of hx
   rw [e1]
   cases hf1:fitsB (-128) 127 c[i].n
   ·simp only [Bool.false_eq_true,if_false]
    rw [takeF_at hx]
    refine fits_end (ins_bool ?_) hv (by rw [hD];exact hyi.symm) (by rw [hJ];exact hy.symm)
    rw [hiff,hD,hJ]
    exact ⟨fun h=>absurd (by have:=h.1;split at this<;>exact this.symm) hn,fun h=>absurd (h.1 i rfl) (by rw [hyi,hf1];decide)⟩
   ·simp only [if_true]
    rw [takeF_at (x:=c[j]) (by rw [List.getElem?_set_ne hij];exact hx)]
    refine fits_end (ins_bool ?_) hv (by rw [hD];exact hyi.symm) (by rw [hJ];exact hy.symm)
    rw [hiff,hD,hJ]
    cases hf:fitsB lo hi c[j].n
    ·rw [if_neg (by decide)]
     exact ⟨fun h=>absurd h.1.symm hn,fun h=>absurd (h.2.1 j rfl) (by rw [hy,hf];decide)⟩
    ·rw [if_pos rfl,if_pos rfl]
     rw [hz ((c.set i (z0 c[i])).set j (z0 c[j])) (fun k=>i=k∨j=k) (by rw [List.length_set,List.length_set]) (fun k hk=>by
      rw [List.getElem?_set,List.getElem?_set]
      by_cases h:j=k
      ·subst h;rw [if_pos rfl,if_pos (by rw [List.length_set];exact hk),hx,Option.map_some,if_pos (Or.inr rfl)]
      ·rw [if_neg h]
       by_cases h2:i=k
       ·subst h2;rw [if_pos rfl,if_pos hk,hxi,Option.map_some,if_pos (Or.inl rfl)]
       ·rw [if_neg h2];simp [h,h2]) (fun k _ h=>by rcases h with h | h;rw [←h];exact d4;rw [←h];exact e3)]
     constructor
     ·rintro ⟨_,h⟩
      exact ⟨fun i' hi'=>by injection hi' with hi';subst hi';rw [hyi];exact hf1,fun j' hj'=>by injection hj' with hj';subst hj';rw [hy];exact hf,fun k hk hP=>h k hk (fun e=>hP (by rcases e with e | e;exact Or.inl (by rw [e]);exact Or.inr (by rw [e])))⟩
     ·rintro ⟨_,_,h⟩
      exact ⟨rfl,fun k hk hP=>h k hk (by rintro (h | h);injection h with h;exact hP (Or.inl h);injection h with h;exact hP (Or.inr h))⟩
def okN (D:Option Nat) (lo hi n:Int):Bool:=match D with | some _=>fitsB lo hi n | none=>n==0
theorem okL_var {ex:List UInt8} {l:List Opd} {D J:Option Nat} {L lo hi d n:Int} (V:VarS ex l D J L lo hi):∀m,m≤l.length→(okL ex l d n m=true↔(∀i,D=some i→i < m→fitsB (-128) 127 d=true)∧(∀j,J=some j→j < m→fitsB lo hi n=true)):=by
 intro m
 induction m with
 | zero=>intro _;simp [okL]
 | succ m ih=>
  intro hm
  have ih:=ih (by omega)
  have hL:L=101∨L=110∨L=119:=V.ll
  have hL0:(L==0)=false:=by rw [beq_eq_false_iff_ne];omega
  have hd:withinF 100 d=fitsB (-128) 127 d:=by unfold withinF fitsB;rw [if_pos (Or.inl rfl)]
  rw [okL,Bool.and_eq_true_iff,ih,V.le m (by omega)]
  unfold filO filN
  dsimp only
  by_cases e1:D=some m
  ·rw [if_pos e1,if_pos rfl,show ((100:Int)==0)=false from rfl,Bool.false_or,hd]
   constructor
   ·rintro ⟨⟨h1,h2⟩,h3⟩
    refine ⟨fun i hi hlt=>h3,fun j hj hlt=>h2 j hj ?_⟩
    have:=V.ne m e1
    have:j≠m:=fun e=>this (by rw [hj,e])
    omega
   ·rintro ⟨h1,h2⟩
    exact ⟨⟨fun i hi hlt=>h1 i hi (by omega),fun j hj hlt=>h2 j hj (by omega)⟩,h1 m e1 (by omega)⟩
  rw [if_neg e1]
  by_cases e2:J=some m
  ·rw [if_pos e2,if_neg (by omega),if_pos hL,hL0,Bool.false_or,V.wi]
   constructor
   ·rintro ⟨⟨h1,h2⟩,h3⟩
    refine ⟨fun i hi hlt=>h1 i hi ?_,fun j hj hlt=>h3⟩
    have:i≠m:=fun e=>e1 (by rw [hi,e])
    omega
   ·rintro ⟨h1,h2⟩
    exact ⟨⟨fun i hi hlt=>h1 i hi (by omega),fun j hj hlt=>h2 j hj (by omega)⟩,h2 m e2 (by omega)⟩
  rw [if_neg e2]
  constructor
  ·rintro ⟨⟨h1,h2⟩,h3⟩
   refine ⟨fun i hi hlt=>h1 i hi ?_,fun j hj hlt=>h2 j hj ?_⟩
   ·have:i≠m:=fun e=>e1 (by rw [hi,e])
    omega
   ·have:j≠m:=fun e=>e2 (by rw [hj,e])
    omega
  ·rintro ⟨h1,h2⟩
   exact ⟨⟨fun i hi hlt=>h1 i hi (by omega),fun j hj hlt=>h2 j hj (by omega)⟩,rfl⟩
theorem usD_var {ex:List UInt8} {l:List Opd} {D J:Option Nat} {L lo hi d:Int} (V:VarS ex l D J L lo hi):∀m,m≤l.length→(usD ex l d m=true↔d=0∨∃i,D=some i∧i < m):=by
 intro m
 induction m with
 | zero=>intro _;simp [usD]
 | succ m ih=>
  intro hm
  have hL:L=101∨L=110∨L=119:=V.ll
  rw [usD,Bool.or_eq_true_iff,ih (by omega),V.le m (by omega),beq_iff_eq]
  by_cases e1:D=some m
  ·rw [if_pos e1]
   exact ⟨fun _=>Or.inr ⟨m,e1,by omega⟩,fun _=>Or.inr rfl⟩
  rw [if_neg e1]
  constructor
  ·rintro ((h | ⟨i,h1,h2⟩) | h)
   ·exact Or.inl h
   ·exact Or.inr ⟨i,h1,by omega⟩
   ·split at h<;>omega
  ·rintro (h | ⟨i,h1,h2⟩)
   ·exact Or.inl (Or.inl h)
   ·refine Or.inl (Or.inr ⟨i,h1,?_⟩)
    have:i≠m:=fun e=>e1 (by rw [h1,e])
    omega
theorem usN_var {ex:List UInt8} {l:List Opd} {D J:Option Nat} {L lo hi n:Int} (V:VarS ex l D J L lo hi):∀m,m≤l.length→(usN ex l n m=true↔n=0∨∃i,J=some i∧i < m):=by
 intro m
 induction m with
 | zero=>intro _;simp [usN]
 | succ m ih=>
  intro hm
  have hL:L=101∨L=110∨L=119:=V.ll
  rw [usN,Bool.or_eq_true_iff,ih (by omega),V.le m (by omega)]
  by_cases e1:D=some m
  ·rw [if_pos e1]
   have e2:=V.ne m e1
   constructor
   ·rintro ((h | ⟨i,h1,h2⟩) | h)
    ·exact Or.inl h
    ·exact Or.inr ⟨i,h1,by omega⟩
    ·exact absurd h (by decide)
   ·rintro (h | ⟨i,h1,h2⟩)
    ·exact Or.inl (Or.inl h)
    ·refine Or.inl (Or.inr ⟨i,h1,?_⟩)
     have:i≠m:=fun e=>e2 (by rw [h1,e])
     omega
  rw [if_neg e1]
  by_cases e2:J=some m
  ·rw [if_pos e2]
   refine ⟨fun _=>Or.inr ⟨m,e2,by omega⟩,fun _=>Or.inr ?_⟩
   rcases hL with rfl | rfl | rfl<;>rfl
  rw [if_neg e2]
  constructor
  ·rintro ((h | ⟨i,h1,h2⟩) | h)
   ·exact Or.inl h
   ·exact Or.inr ⟨i,h1,by omega⟩
   ·exact absurd h (by decide)
  ·rintro (h | ⟨i,h1,h2⟩)
   ·exact Or.inl (Or.inl h)
   ·refine Or.inl (Or.inr ⟨i,h1,?_⟩)
    have:i≠m:=fun e=>e2 (by rw [h1,e])
    omega
theorem filL_at (ex:List UInt8) (l:List Opd) (d n:Int):∀m k,k < m→(filL ex l d n m)[k]?=some (filO (letF l ex k) d n (oAt l k))
 | 0,k,h=>absurd h (Nat.not_lt_zero _)
 | m+1,k,h=>by
  rw [filL]
  by_cases e:k=m
  ·subst e
   rw [List.getElem?_append_right (by rw [filL_len];omega),filL_len]
   simp
  ·rw [List.getElem?_append_left (by rw [filL_len];omega)]
   exact filL_at ex l d n m k (by omega)
theorem fillF_var {ex:List UInt8} {l:List Opd} {D J:Option Nat} {L lo hi d n:Int} (V:VarS ex l D J L lo hi):
  fillF ex l d n=if (okN J lo hi n&&okN D (-128) 127 d)=true then some (filL ex l d n l.length) else none:=by
 have h1:=okL_var V (d:=d) (n:=n) l.length (Nat.le_refl _)
 have h2:=usD_var V (d:=d) l.length (Nat.le_refl _)
 have h3:=usN_var V (n:=n) l.length (Nat.le_refl _)
 have hD:okN D (-128) 127 d=true↔(∀i,D=some i→fitsB (-128) 127 d=true)∧(d=0∨∃i,D=some i):=by
  cases D with
  | none=>simp [okN]
  | some i=>simp [okN]
 have hJ:okN J lo hi n=true↔(∀i,J=some i→fitsB lo hi n=true)∧(n=0∨∃i,J=some i):=by
  cases J with
  | none=>simp [okN]
  | some i=>simp [okN]
 have hlD:∀i,D=some i→i < l.length:=fun i h=>(V.d1 i h).2.2.1
 have hlJ:∀j,J=some j→j < l.length:=fun j h=>(V.j1 j h).2.1
 by_cases h:(okN J lo hi n&&okN D (-128) 127 d)=true
 ·rw [if_pos h]
  obtain ⟨a,b⟩:=Bool.and_eq_true_iff.1 h
  obtain ⟨b1,b2⟩:=hD.1 b
  obtain ⟨a1,a2⟩:=hJ.1 a
  unfold fillF
  rw [if_pos (h1.2 ⟨fun i hi _=>b1 i hi,fun j hj _=>a1 j hj⟩),if_pos (h2.2 (b2.imp id (fun ⟨i,hi⟩=>⟨i,hi,hlD i hi⟩))),if_pos (h3.2 (a2.imp id (fun ⟨i,hi⟩=>⟨i,hi,hlJ i hi⟩)))]
 ·rw [if_neg h]
  unfold fillF
  by_cases e1:okL ex l d n l.length=true
  ·rw [if_pos e1]
   by_cases e2:usD ex l d l.length=true
   ·rw [if_pos e2]
    by_cases e3:usN ex l n l.length=true
    ·exfalso
     obtain ⟨b1,a1⟩:=h1.1 e1
     refine h (Bool.and_eq_true_iff.2 ⟨hJ.2 ⟨fun j hj=>a1 j hj (hlJ j hj),(h3.1 e3).imp id (fun ⟨i,hi,_⟩=>⟨i,hi⟩)⟩,hD.2 ⟨fun i hi=>b1 i hi (hlD i hi),(h2.1 e2).imp id (fun ⟨i,hi,_⟩=>⟨i,hi⟩)⟩⟩)
    ·rw [if_neg e3]
   ·rw [if_neg e2]
  ·rw [if_neg e1]
theorem oAt_eq {l:List Opd} {k:Nat} (h:k < l.length):oAt l k=l[k]:=by unfold oAt;rw [List.getElem?_eq_getElem h]
theorem fil_list {ex:List UInt8} {l:List Opd} {D J:Option Nat} {L lo hi d n:Int} (V:VarS ex l D J L lo hi) (m:List Opd) (hm:m.length=l.length) (h:∀k (hk:k < l.length),m[k]?=some (if D=some k then {l[k] with n:=d} else if J=some k then {l[k] with n:=n} else l[k])):filL ex l d n l.length=m:=by
 have hL:L=101∨L=110∨L=119:=V.ll
 refine List.ext_getElem? fun k=>?_
 by_cases hk:k < l.length
 ·rw [filL_at ex l d n _ k hk,h k hk,V.le k hk,oAt_eq hk]
  congr 1
  unfold filO filN
  by_cases e1:D=some k
  ·rw [if_pos e1,if_pos e1,if_pos rfl]
  rw [if_neg e1,if_neg e1]
  by_cases e2:J=some k
  ·rw [if_pos e2,if_pos e2,if_neg (by omega),if_pos hL]
  rw [if_neg e2,if_neg e2,if_neg (by decide),if_neg (by decide)]
 ·rw [List.getElem?_eq_none (by rw [filL_len];omega),List.getElem?_eq_none (by omega)]
theorem fill_eq {ex:List UInt8} {l:List Opd} {D J:Option Nat} {L lo hi d n:Int} (V:VarS ex l D J L lo hi):fillS ex l d n=fillF ex l d n:=by
 rw [fillF_var V]
 unfold fillS
 have fin:∀(a b:Bool) (m:List Opd),(a=true→b=true→m=filL ex l d n l.length)→(if a=true then (if b=true then some m else none) else none)=if (a&&b)=true then some (filL ex l d n l.length) else none:=by
  intro a b m h
  cases a<;>cases b<;>simp
  exact h rfl rfl
 cases hD:D with
 | none=>
  rw [V.d0 hD,putF_off]
  dsimp only
  cases hJ:J with
  | none=>
   rw [V.j0 hJ,putF_off]
   refine fin _ _ _ (fun _ _=>(fil_list V l rfl (fun k hk=>?_)).symm)
   rw [hD,hJ,List.getElem?_eq_getElem hk];simp
  | some j=>
   obtain ⟨e1,e2,e3⟩:=V.j1 j hJ
   rw [e1,putF_at (List.getElem?_eq_getElem e2)]
   refine fin _ _ _ (fun _ _=>(fil_list V _ (by rw [List.length_set]) (fun k hk=>?_)).symm)
   rw [hD,hJ,List.getElem?_set]
   by_cases h:j=k
   ·subst h;simp [hk]
   ·rw [if_neg h,List.getElem?_eq_getElem hk];simp [h]
 | some i=>
  obtain ⟨d1,d2,d3,d4⟩:=V.d1 i hD
  rw [d1,d2,putF_at (List.getElem?_eq_getElem d3)]
  dsimp only
  cases hJ:J with
  | none=>
   rw [V.j0 hJ,putF_off]
   refine fin _ _ _ (fun _ _=>(fil_list V _ (by rw [List.length_set]) (fun k hk=>?_)).symm)
   rw [hD,hJ,List.getElem?_set]
   by_cases h:i=k
   ·subst h;simp [hk]
   ·rw [if_neg h,List.getElem?_eq_getElem hk];simp [h]
  | some j=>
   obtain ⟨e1,e2,e3⟩:=V.j1 j hJ
   have hij:i≠j:=fun e=>V.ne i hD (by rw [hJ,e])
   rw [e1,putF_at (x:=l[j]) (by rw [List.getElem?_set_ne hij];exact List.getElem?_eq_getElem e2)]
   refine fin _ _ _ (fun _ _=>(fil_list V _ (by rw [List.length_set,List.length_set]) (fun k hk=>?_)).symm)
   rw [hD,hJ,List.getElem?_set,List.getElem?_set]
   by_cases h:j=k
   ·subst h
    have:¬i=j:=hij
    simp [hk,this]
   ·rw [if_neg h]
    by_cases h2:i=k
    ·subst h2;simp [hk]
    ·rw [if_neg h2,List.getElem?_eq_getElem hk];simp [h,h2]
end Go.Proofs.YtjmekllgnhkodaaGreatDoor
namespace Go.Proofs.YtjmekllgnhkodaaGreatDoor
open Go.RowKit Go.Shelf Go.Sort
def Dof (ex:List UInt8) (l:List Opd):Option Nat:=if (hasF ex 100&&decide (0≤lastK [5] l l.length))=true then some (lastK [5] l l.length).toNat else none
def Jof (ex:List UInt8) (l:List Opd):Option Nat:=if (numV ex l).2.2.2=true then some (numV ex l).1.toNat else none
def lL (ex:List UInt8):Int:=if hasF ex 101=true then 101 else if hasF ex 110=true then 110 else 119
def loF (ex:List UInt8):Int:=if hasF ex 101=true then -128 else 0
def hiF (ex:List UInt8):Int:=if hasF ex 101=true then 127 else if hasF ex 110=true then 255 else 65535
def chkV (ex:List UInt8) (l:List Opd):Bool:=
 (match Dof ex l with | some i=>(nAt l i==0)&&(decide (Jof ex l≠some i)&&(kAt l i==5)) | none=>true)&&((match Jof ex l with | some j=>(nAt l j==0)&&((kAt l j != 6) || decide (0≤loF ex)) | none=>true)&&
  ((List.range l.length).all fun k=>letF l ex k==if Dof ex l=some k then 100 else if Jof ex l=some k then lL ex else 0))
theorem numV_form {ex:List UInt8} {l:List Opd} (h:(numV ex l).2.2.2=true):numV ex l=((numV ex l).1,loF ex,hiF ex,true):=by
 unfold numV loF hiF at *
 split at h
 ·rename_i h1;simp only [h1,if_true] at *;rw [h]
 ·rename_i h1
  split at h
  ·rename_i h2;simp only [h1,h2,if_true] at *;rw [h];simp
  ·rename_i h2
   split at h
   ·rename_i h3;simp only [h1,h2,h3,if_true] at *;rw [h];simp
   ·cases h
theorem var_of {ex:List UInt8} {l:List Opd} (h:chkV ex l=true):VarS ex l (Dof ex l) (Jof ex l) (lL ex) (loF ex) (hiF ex):=by
 unfold chkV at h
 obtain ⟨h1,h⟩:=Bool.and_eq_true_iff.1 h
 obtain ⟨h2,h3⟩:=Bool.and_eq_true_iff.1 h
 have hD:∀i,Dof ex l=some i→(hasF ex 100&&decide (0≤lastK [5] l l.length))=true∧lastK [5] l l.length=i:=fun i hi=>by
  unfold Dof at hi
  split at hi
  ·rename_i hc
   injection hi with hi
   refine ⟨hc,?_⟩
   have:=of_decide_eq_true (Bool.and_eq_true_iff.1 hc).2
   omega
  ·cases hi
 have hJ:∀j,Jof ex l=some j→(numV ex l).2.2.2=true∧(numV ex l).1=j:=fun j hj=>by
  unfold Jof at hj
  split at hj
  ·rename_i hc
   injection hj with hj
   refine ⟨hc,?_⟩
   have:=(numV_lt hc).1
   omega
  ·cases hj
 refine ⟨fun i hi=>?_,fun hi=>?_,fun j hj=>?_,fun hj=>?_,fun i hi=>?_,fun n=>?_,?_,fun k hk=>?_⟩
 ·obtain ⟨a,b⟩:=hD i hi
  rw [hi] at h1
  refine ⟨a,b,?_,eq_of_beq (Bool.and_eq_true_iff.1 h1).1⟩
  have:=lastK_lt [5] l l.length
  omega
 ·unfold Dof at hi
  split at hi
  ·cases hi
  ·rename_i hc;simpa using hc
 ·obtain ⟨a,b⟩:=hJ j hj
  rw [hj] at h2
  refine ⟨by rw [numV_form a,b],?_,eq_of_beq (Bool.and_eq_true_iff.1 h2).1⟩
  have:=(numV_lt a).2
  omega
 ·unfold Jof at hj
  split at hj
  ·cases hj
  ·rename_i hc;simpa using hc
 ·rw [hi] at h1
  exact of_decide_eq_true (Bool.and_eq_true_iff.1 (Bool.and_eq_true_iff.1 h1).2).1
 ·unfold withinF fitsB lL loF hiF
  cases e1:hasF ex 101
  ·cases e2:hasF ex 110
   ·simp
   ·simp
  ·simp
 ·unfold lL
  split
  ·exact Or.inl rfl
  ·split
   ·exact Or.inr (Or.inl rfl)
   ·exact Or.inr (Or.inr rfl)
 ·exact eq_of_beq (List.all_eq_true.1 h3 k (List.mem_range.2 hk))
def chkC (s:ByteArray) (l:List Opd):Bool:=
 !(inL wSub s&&((l.length==2)&&decide ((l.map kr)[0]?=some (1,7))))&&(!(inL wAdd s&&(l.length==1))&&(!((s.toList==[69,88])&&decide (l.map kr=[(3,2),(3,1)]))&&l.all fun o=>(o.kind != 6) || decide (0≤o.n)))
def vAt (o:Opd) (lo hi:Int):Bool:=validOpd ⟨o.kind,o.reg,lo⟩&&validOpd ⟨o.kind,o.reg,hi⟩
def chkL (s:ByteArray) (ex:List UInt8) (l:List Opd):Bool:=
 inL opsL s&&(decide (l.length≤3)&&((List.range l.length).all fun k=>if Dof ex l=some k then vAt (oAt l k) (-128) 127 else if Jof ex l=some k then vAt (oAt l k) (loF ex) (hiF ex) else validOpd (oAt l k)))
def chkE (x:EntV):Bool:=chkV x.ex x.args&&(decide (x.iop.map up=x.iop)&&(decide (x.iop≠[])&&(chkC ⟨x.iop.toArray⟩ x.args&&chkL ⟨x.iop.toArray⟩ x.ex x.args)))
def chkO (p:Int) (x:Nat):Bool:=match (atF p x).1 with | some e=>chkE e | none=>true
theorem cko0:∀x:Fin 256,chkO 0 x.val=true:=by decide+kernel
theorem cko1:∀x:Fin 256,chkO 1 x.val=true:=by decide+kernel
theorem cko2:∀x:Fin 256,chkO 2 x.val=true:=by decide+kernel
theorem cko3:∀x:Fin 256,chkO 3 x.val=true:=by decide+kernel
theorem cko4:∀x:Fin 256,chkO 4 x.val=true:=by decide+kernel
theorem cko5:∀x:Fin 256,chkO 5 x.val=true:=by decide+kernel
theorem cko6:∀x:Fin 256,chkO 6 x.val=true:=by decide+kernel
theorem chk_all {p:Int} {x:Nat} (hx:x < 256) {e:EntV} (he:(atF p x).1=some e):chkE e=true:=by
 have key:chkO p x=true:=by
  by_cases h:0≤p∧p < 7
  ·have:p=0∨p=1∨p=2∨p=3∨p=4∨p=5∨p=6:=by omega
   rcases this with rfl | rfl | rfl | rfl | rfl | rfl | rfl
   ·exact cko0 ⟨x,hx⟩
   ·exact cko1 ⟨x,hx⟩
   ·exact cko2 ⟨x,hx⟩
   ·exact cko3 ⟨x,hx⟩
   ·exact cko4 ⟨x,hx⟩
   ·exact cko5 ⟨x,hx⟩
   ·exact cko6 ⟨x,hx⟩
  ·unfold chkO;rw [atF_out h]
 unfold chkO at key
 rw [he] at key
 exact key
structure EntOk (x:EntV):Prop where
 var:VarS x.ex x.args (Dof x.ex x.args) (Jof x.ex x.args) (lL x.ex) (loF x.ex) (hiF x.ex)
 up:upper ⟨x.iop.toArray⟩=⟨x.iop.toArray⟩
 ne:(⟨x.iop.toArray⟩:ByteArray)≠⟨#[]⟩
 v:chkV x.ex x.args=true
 c:chkC ⟨x.iop.toArray⟩ x.args=true
 l:chkL ⟨x.iop.toArray⟩ x.ex x.args=true
theorem ent_ok {x:EntV} (h:chkE x=true):EntOk x:=by
 unfold chkE at h
 obtain ⟨h1,h⟩:=Bool.and_eq_true_iff.1 h
 obtain ⟨h2,h⟩:=Bool.and_eq_true_iff.1 h
 obtain ⟨h3,h⟩:=Bool.and_eq_true_iff.1 h
 obtain ⟨h4,h5⟩:=Bool.and_eq_true_iff.1 h
 refine ⟨var_of h1,?_,?_,h1,h4,h5⟩
 ·have e:=of_decide_eq_true h2
  unfold upper
  simp only
  rw [e]
 ·intro e
  refine of_decide_eq_true h3 ?_
  have:=congrArg (fun s:ByteArray=>s.data.toList) e
  simpa using this
theorem ent_at {p:Int} {x:Nat} (hx:x < 256) {e:EntV} (he:(atF p x).1=some e):EntOk e:=ent_ok (chk_all hx he)
end Go.Proofs.YtjmekllgnhkodaaGreatDoor
namespace Go.Proofs.YtjmekllgnhkodaaGreatDoor
open Go.RowKit Go.Shelf Go.Sort
structure FilS (x:EntV) (d n:Int) (c:List Opd):Prop where
 k:c.map kr=x.args.map kr
 okd:okN (Dof x.ex x.args) (-128) 127 d=true
 okn:okN (Jof x.ex x.args) (loF x.ex) (hiF x.ex) n=true
 el:∀k (hk:k < x.args.length),c[k]?=some (if Dof x.ex x.args=some k then {x.args[k] with n:=d} else if Jof x.ex x.args=some k then {x.args[k] with n:=n} else x.args[k])
theorem FilS.len {x:EntV} {d n:Int} {c:List Opd} (h:FilS x d n c):c.length=x.args.length:=by have:=congrArg List.length h.k;simpa using this
theorem fill_some {x:EntV} (hx:EntOk x) {d n:Int} {c:List Opd}:fillF x.ex x.args d n=some c↔FilS x d n c:=by
 have hL:lL x.ex=101∨lL x.ex=110∨lL x.ex=119:=hx.var.ll
 have hel:∀k (hk:k < x.args.length),(filL x.ex x.args d n x.args.length)[k]?=some (if Dof x.ex x.args=some k then {x.args[k] with n:=d} else if Jof x.ex x.args=some k then {x.args[k] with n:=n} else x.args[k]):=fun k hk=>by
  rw [filL_at _ _ _ _ _ k hk,hx.var.le k hk,oAt_eq hk]
  congr 1
  unfold filO filN
  by_cases e1:Dof x.ex x.args=some k
  ·rw [if_pos e1,if_pos e1,if_pos rfl]
  rw [if_neg e1,if_neg e1]
  by_cases e2:Jof x.ex x.args=some k
  ·rw [if_pos e2,if_pos e2,if_neg (by omega),if_pos hL]
  rw [if_neg e2,if_neg e2,if_neg (by decide),if_neg (by decide)]
 rw [fillF_var hx.var]
 constructor
 ·intro h
  split at h
  ·rename_i hc
   injection h with h
   subst h
   obtain ⟨a,b⟩:=Bool.and_eq_true_iff.1 hc
   refine ⟨?_,b,a,hel⟩
   refine List.ext_getElem? fun k=>?_
   rw [List.getElem?_map,List.getElem?_map]
   by_cases hk:k < x.args.length
   ·rw [hel k hk,List.getElem?_eq_getElem hk,Option.map_some,Option.map_some]
    congr 1
    split
    ·rfl
    ·split<;>rfl
   ·rw [List.getElem?_eq_none (by rw [filL_len];omega),List.getElem?_eq_none (by omega)]
  ·cases h
 ·intro h
  rw [if_pos (Bool.and_eq_true_iff.2 ⟨h.okn,h.okd⟩)]
  congr 1
  refine List.ext_getElem? fun k=>?_
  by_cases hk:k < x.args.length
  ·rw [hel k hk,h.el k hk]
  ·have:=h.len
   rw [List.getElem?_eq_none (by rw [filL_len];omega),List.getElem?_eq_none (by omega)]
theorem fits_fill {x:EntV} (hx:EntOk x) {t:ByteArray} {c:List Opd}:fitsC ⟨x.iop.toArray⟩ t x.ex x.args c=true↔t=⟨x.iop.toArray⟩∧FilS x (dAt c (Dof x.ex x.args)) (dAt c (Jof x.ex x.args)) c:=by
 constructor
 ·intro h
  have hs:shF ⟨x.iop.toArray⟩ t x.args c=true:=(Bool.and_eq_true_iff.1 h).1
  obtain ⟨hst,hk⟩:=shF_parts hs
  have hl:=shF_eq_len hs
  obtain ⟨h1,h2,h3⟩:=(fitsC_iff hx.var hs).1 h
  refine ⟨hst.symm,⟨hk.symm,?_,?_,fun k hlt=>?_⟩⟩
  ·cases hD:Dof x.ex x.args with
   | none=>rfl
   | some i=>exact h1 i hD
  ·cases hJ:Jof x.ex x.args with
   | none=>rfl
   | some j=>exact h2 j hJ
  ·have hc:k < c.length:=by omega
   have e:(x.args.map kr)[k]?=(c.map kr)[k]?:=by rw [hk]
   rw [List.getElem?_map,List.getElem?_map,List.getElem?_eq_getElem hlt,List.getElem?_eq_getElem hc] at e
   simp only [Option.map_some,kr] at e
   injection e with e
   injection e with e1 e2
   rw [List.getElem?_eq_getElem hc]
   congr 1
   have hn:nAt c k=c[k].n:=nAt_eq hc
   by_cases g1:Dof x.ex x.args=some k
   ·rw [if_pos g1,g1]
    show c[k]=⟨x.args[k].kind,x.args[k].reg,nAt c k⟩
    rw [hn,e1,e2]
   rw [if_neg g1]
   by_cases g2:Jof x.ex x.args=some k
   ·rw [if_pos g2,g2]
    show c[k]=⟨x.args[k].kind,x.args[k].reg,nAt c k⟩
    rw [hn,e1,e2]
   rw [if_neg g2]
   have e3:=h3 k hlt (by rintro (h | h);exact g1 h;exact g2 h)
   rw [nAt_eq hlt,hn] at e3
   generalize x.args[k]=a at *
   generalize c[k]=b at *
   obtain ⟨a1,a2,a3⟩:=a
   obtain ⟨b1,b2,b3⟩:=b
   dsimp only at *
   subst e1 e2 e3
   rfl
 ·rintro ⟨rfl,h⟩
  have hs:shF ⟨x.iop.toArray⟩ ⟨x.iop.toArray⟩ x.args c=true:=by
   unfold shF
   rw [h.k]
   simp
  refine (fitsC_iff hx.var hs).2 ⟨fun i hi=>?_,fun j hj=>?_,fun k hk hP=>?_⟩
  ·have:=h.okd
   rw [hi] at this
   exact this
  ·have:=h.okn
   rw [hj] at this
   exact this
  ·have:=h.el k hk
   rw [if_neg (fun e=>hP (Or.inl e)),if_neg (fun e=>hP (Or.inr e))] at this
   rw [nAt_of this,nAt_eq hk]
theorem accum_kr {s:ByteArray} {l c:List Opd} (hk:c.map kr=l.map kr) (h:chkC s l=true):accum s c=c:=by
 unfold chkC at h
 obtain ⟨h1,h⟩:=Bool.and_eq_true_iff.1 h
 obtain ⟨h2,h⟩:=Bool.and_eq_true_iff.1 h
 have hl:l.length=c.length:=by have:=congrArg List.length hk;simpa using this.symm
 rw [←hk,hl] at h1
 rw [hl] at h2
 match c with
 | []=>rfl
 | [x]=>
  have:inL wAdd s=false:=by simpa using h2
  unfold accum
  rw [this];rfl
 | [x,y]=>
  have:(inL wSub s&&opdEq x regA)=false:=by
   cases e:inL wSub s
   ·rfl
   ·rw [Bool.true_and]
    rw [e] at h1
    cases e2:opdEq x regA
    ·rfl
    ·exfalso
     have e3:x=regA:=of_decide_eq_true e2
     rw [e3] at h1
     simp [kr,regA] at h1
  show (if (inL wSub s&&opdEq x regA)=true then [y] else [x,y])=[x,y]
  rw [this];rfl
 | _::_::_::_=>rfl
theorem exch_kr {s:ByteArray} {l c:List Opd} (hk:c.map kr=l.map kr) (h:chkC s l=true):exch s c=c:=by
 unfold chkC at h
 obtain ⟨h1,h⟩:=Bool.and_eq_true_iff.1 h
 obtain ⟨h2,h⟩:=Bool.and_eq_true_iff.1 h
 obtain ⟨h3,h⟩:=Bool.and_eq_true_iff.1 h
 rw [←hk] at h3
 unfold exch
 rw [if_neg]
 intro e
 obtain ⟨e1,e2⟩:=Bool.and_eq_true_iff.1 e
 rw [e1] at h3
 have e4:=of_decide_eq_true e2
 rw [e4] at h3
 revert h3
 decide
theorem numb_pos {sz:Int} {o:Opd} (h:o.kind=6→0≤o.n):numb sz o=o:=by
 unfold numb
 rw [if_neg]
 rintro ⟨h1,h2,_⟩
 have:=h h1
 omega
theorem kAt_eq {l:List Opd} {k:Nat} (h:k < l.length):kAt l k=l[k].kind:=by unfold kAt;rw [List.getElem?_eq_getElem h]
theorem FilS.canon {x:EntV} (hx:EntOk x) {d n:Int} {c:List Opd} (h:FilS x d n c):canonArgs ⟨x.iop.toArray⟩ c=c:=by
 unfold canonArgs
 rw [accum_kr h.k hx.c,exch_kr h.k hx.c]
 dsimp only
 have hC:=hx.c
 unfold chkC at hC
 obtain ⟨_,hC⟩:=Bool.and_eq_true_iff.1 hC
 obtain ⟨_,hC⟩:=Bool.and_eq_true_iff.1 hC
 obtain ⟨_,hC⟩:=Bool.and_eq_true_iff.1 hC
 have hV:=hx.v
 unfold chkV at hV
 obtain ⟨hV1,hV⟩:=Bool.and_eq_true_iff.1 hV
 obtain ⟨hV2,_⟩:=Bool.and_eq_true_iff.1 hV
 have key:∀o∈c,numb (sizeOfW (width ⟨⟨x.iop.toArray⟩,c⟩)) o=o:=by
  intro o ho
  refine numb_pos fun hk6=>?_
  obtain ⟨k,hk,rfl⟩:=List.mem_iff_getElem.1 ho
  have hlen:=h.len
  have hk2:k < x.args.length:=by omega
  have e:=h.el k hk2
  rw [List.getElem?_eq_getElem hk] at e
  injection e with e
  rw [e] at hk6 ⊢
  by_cases g1:Dof x.ex x.args=some k
  ·exfalso
   rw [if_pos g1] at hk6
   rw [g1] at hV1
   have:=eq_of_beq (Bool.and_eq_true_iff.1 (Bool.and_eq_true_iff.1 hV1).2).2
   rw [kAt_eq hk2] at this
   have hk7:x.args[k].kind=6:=hk6
   omega
  rw [if_neg g1] at hk6 ⊢
  by_cases g2:Jof x.ex x.args=some k
  ·rw [if_pos g2] at hk6 ⊢
   rw [g2] at hV2
   have:=(Bool.and_eq_true_iff.1 hV2).2
   rw [kAt_eq hk2] at this
   have hk7:x.args[k].kind=6:=hk6
   rw [hk7] at this
   have h0:0≤loF x.ex:=by simpa using this
   have hn:=h.okn
   rw [g2] at hn
   have h5:=of_decide_eq_true (Bool.and_eq_true_iff.1 (show fitsB (loF x.ex) (hiF x.ex) n=true from hn)).1
   show 0≤n
   omega
  rw [if_neg g2] at hk6 ⊢
  have:=List.all_eq_true.1 hC x.args[k] (List.getElem_mem hk2)
  rw [hk6] at this
  simpa using this
 have:c.map (numb (sizeOfW (width ⟨⟨x.iop.toArray⟩,c⟩)))=c.map id:=List.map_congr_left key
 rw [this,List.map_id]
theorem valid_mid {k r a b m:Int} (h1:validOpd ⟨k,r,a⟩=true) (h2:validOpd ⟨k,r,b⟩=true) (ha:a≤m) (hb:m≤b):validOpd ⟨k,r,m⟩=true:=by
 unfold validOpd at *
 dsimp only at *
 split
 ·rename_i h
  rw [if_pos h] at h1 h2
  simp only [Bool.and_eq_true,beq_iff_eq] at h1 h2 ⊢
  exact ⟨h1.1,by omega⟩
 rename_i g1
 rw [if_neg g1] at h1 h2
 split
 ·rename_i h
  rw [if_pos h] at h1 h2
  simp only [Bool.and_eq_true,decide_eq_true_eq] at h1 h2 ⊢
  exact ⟨⟨h1.1.1,by omega⟩,by omega⟩
 rename_i g2
 rw [if_neg g2] at h1 h2
 split
 ·rename_i h
  rw [if_pos h] at h1 h2
  simp only [Bool.and_eq_true,beq_iff_eq,decide_eq_true_eq] at h1 h2 ⊢
  exact ⟨⟨h1.1.1,by omega⟩,by omega⟩
 rename_i g3
 rw [if_neg g3] at h1 h2
 split
 ·rename_i h
  rw [if_pos h] at h1 h2
  simp only [Bool.and_eq_true,beq_iff_eq,decide_eq_true_eq] at h1 h2 ⊢
  exact ⟨⟨h1.1.1,by omega⟩,by omega⟩
 rename_i g4
 rw [if_neg g4] at h1 h2
 split
 ·rename_i h
  rw [if_pos h] at h1 h2
  simp only [Bool.and_eq_true,beq_iff_eq,decide_eq_true_eq] at h1 h2 ⊢
  exact ⟨⟨h1.1.1,by omega⟩,by omega⟩
 ·rename_i g5
  rw [if_neg g5] at h1
  exact h1
theorem FilS.check {x:EntV} (hx:EntOk x) {d n:Int} {c:List Opd} (h:FilS x d n c):check07 ⟨⟨x.iop.toArray⟩,c⟩=0:=by
 have hL:=hx.l
 unfold chkL at hL
 obtain ⟨h1,hL⟩:=Bool.and_eq_true_iff.1 hL
 obtain ⟨h2,h3⟩:=Bool.and_eq_true_iff.1 hL
 have h2:=of_decide_eq_true h2
 have hlen:=h.len
 unfold check07
 dsimp only
 rw [h1,if_neg (by decide),if_neg (by omega),if_pos]
 rw [List.all_eq_true]
 intro o ho
 obtain ⟨k,hk,rfl⟩:=List.mem_iff_getElem.1 ho
 have hk2:k < x.args.length:=by omega
 have h4:=List.all_eq_true.1 h3 k (List.mem_range.2 hk2)
 rw [oAt_eq hk2] at h4
 have e:=h.el k hk2
 rw [List.getElem?_eq_getElem hk] at e
 injection e with e
 rw [e]
 by_cases g1:Dof x.ex x.args=some k
 ·rw [if_pos g1] at h4 ⊢
  have hd:=h.okd
  rw [g1] at hd
  obtain ⟨a1,a2⟩:=Bool.and_eq_true_iff.1 (show fitsB (-128) 127 d=true from hd)
  obtain ⟨b1,b2⟩:=Bool.and_eq_true_iff.1 h4
  exact valid_mid b1 b2 (of_decide_eq_true a1) (of_decide_eq_true a2)
 rw [if_neg g1] at h4 ⊢
 by_cases g2:Jof x.ex x.args=some k
 ·rw [if_pos g2] at h4 ⊢
  have hd:=h.okn
  rw [g2] at hd
  obtain ⟨a1,a2⟩:=Bool.and_eq_true_iff.1 (show fitsB (loF x.ex) (hiF x.ex) n=true from hd)
  obtain ⟨b1,b2⟩:=Bool.and_eq_true_iff.1 h4
  exact valid_mid b1 b2 (of_decide_eq_true a1) (of_decide_eq_true a2)
 rw [if_neg g2] at h4 ⊢
 exact h4
end Go.Proofs.YtjmekllgnhkodaaGreatDoor
