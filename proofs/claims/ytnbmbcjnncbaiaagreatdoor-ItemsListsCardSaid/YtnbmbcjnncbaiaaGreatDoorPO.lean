/-
  The plain laws of entries and numbers. Conditions: none.
-/
import Derived.Test.YtnbmbcjnncbaiaaGreatDoorPA
import Derived.Test.YtnbmbcjnncbaiaaGreatDoorQK
import Derived.Test.YtnbmbcjnncbaiaaGreatDoorPN
import Derived.Test.YtnbmbcjnncbaiaaGreatDoorPM
import Derived.Test.YtnbmbcjnncbaiaaGreatDoorPD
import Derived.Test.YtnbmbcjnncbaiaaGreatDoorPF
import Derived.MapKept
import Derived.Laws.RangeString
import Derived.RangeFuncRecord
namespace Go.Proofs.YtnbmbcjnncbaiaaGreatDoor
open Go.RowKit Go.Shelf Go.Sort
end Go.Proofs.YtnbmbcjnncbaiaaGreatDoor
namespace Go.Proofs.YtnbmbcjnncbaiaaGreatDoor
open Go.RowKit Go.Shelf Go.Sort
end Go.Proofs.YtnbmbcjnncbaiaaGreatDoor
namespace Go.Proofs.YtnbmbcjnncbaiaaGreatDoor
open Go.RowKit Go.Shelf Go.Sort
theorem atF_out {p:Int} (h:¬(0≤p∧p < 7)) (op:Nat):atF p op=(none,0):=by
 unfold atF;rw [if_neg (by omega),if_neg (by omega),if_neg (by omega),if_neg (by omega),if_neg (by omega)]
end Go.Proofs.YtnbmbcjnncbaiaaGreatDoor
namespace Go.Proofs.YtnbmbcjnncbaiaaGreatDoor
open Go.RowKit Go.Shelf Go.Sort
structure VarS (ex:List UInt8) (l:List Opd) (D J:Option Nat) (L lo hi:Int):Prop where
 d1:∀i,D=some i→(hasF ex 100&&decide (0≤lastK [5] l l.length))=true∧lastK [5] l l.length=i∧i < l.length∧nAt l i=0
 d0:D=none→(hasF ex 100&&decide (0≤lastK [5] l l.length))=false
 j1:∀j,J=some j→numV ex l=((j:Int),lo,hi,true)∧j < l.length∧nAt l j=0
 j0:J=none→(numV ex l).2.2.2=false
 ne:∀i,D=some i→J≠some i
 wi:∀n,withinF L n=fitsB lo hi n
 ll:L=101∨L=110∨L=119
 le:∀k,k < l.length→letF l ex k=if D=some k then 100 else if J=some k then L else 0
theorem putF_at {i:Nat} {lo hi n:Int} {c:List Opd} {x:Opd} (hx:c[i]?=some x):putF (i:Int) lo hi true n c=(fitsB lo hi n,c.set i {x with n:=n}):=by
 unfold putF;rw [if_pos rfl,Int.toNat_natCast,hx]
theorem putF_off {idx lo hi n:Int} {c:List Opd}:putF idx lo hi false n c=(n==0,c):=if_neg (by decide)
end Go.Proofs.YtnbmbcjnncbaiaaGreatDoor
namespace Go.Proofs.YtnbmbcjnncbaiaaGreatDoor
open Go.RowKit Go.Shelf Go.Sort
def okN (D:Option Nat) (lo hi n:Int):Bool:=match D with | some _=>fitsB lo hi n | none=>n==0
theorem okL_var {ex:List UInt8} {l:List Opd} {D J:Option Nat} {L lo hi d n:Int} (V:VarS ex l D J L lo hi):∀m,m≤l.length→(okL ex l d n m=true↔(∀i,D=some i→i < m→fitsB (-128) 127 d=true)∧(∀j,J=some j→j < m→fitsB lo hi n=true)):=by
 intro m
 induction m with
 | zero=>intro _;simp [okL]
 | succ m ih=>
  intro hm
  have ih:=ih (by omega)
  have hL:L=101∨L=110∨L=119:=V.ll
  have hL0:(L==0)=false:=by rw [beq_eq_false_iff_ne];omega
  have hd:withinF 100 d=fitsB (-128) 127 d:=by unfold withinF fitsB;rw [if_pos (Or.inl rfl)]
  rw [okL,Bool.and_eq_true_iff,ih,V.le m (by omega)]
  unfold filO filN
  dsimp only
  by_cases e1:D=some m
  ·rw [if_pos e1,if_pos rfl,show ((100:Int)==0)=false from rfl,Bool.false_or,hd]
   constructor
   ·rintro ⟨⟨h1,h2⟩,h3⟩
    refine ⟨fun i hi hlt=>h3,fun j hj hlt=>h2 j hj ?_⟩
    have:=V.ne m e1
    have:j≠m:=fun e=>this (by rw [hj,e])
    omega
   ·rintro ⟨h1,h2⟩
    exact ⟨⟨fun i hi hlt=>h1 i hi (by omega),fun j hj hlt=>h2 j hj (by omega)⟩,h1 m e1 (by omega)⟩
  rw [if_neg e1]
  by_cases e2:J=some m
  ·rw [if_pos e2,if_neg (by omega),if_pos hL,hL0,Bool.false_or,V.wi]
   constructor
   ·rintro ⟨⟨h1,h2⟩,h3⟩
    refine ⟨fun i hi hlt=>h1 i hi ?_,fun j hj hlt=>h3⟩
    have:i≠m:=fun e=>e1 (by rw [hi,e])
    omega
   ·rintro ⟨h1,h2⟩
    exact ⟨⟨fun i hi hlt=>h1 i hi (by omega),fun j hj hlt=>h2 j hj (by omega)⟩,h2 m e2 (by omega)⟩
  rw [if_neg e2]
  constructor
  ·rintro ⟨⟨h1,h2⟩,h3⟩
   refine ⟨fun i hi hlt=>h1 i hi ?_,fun j hj hlt=>h2 j hj ?_⟩
   ·have:i≠m:=fun e=>e1 (by rw [hi,e])
    omega
   ·have:j≠m:=fun e=>e2 (by rw [hj,e])
    omega
  ·rintro ⟨h1,h2⟩
   exact ⟨⟨fun i hi hlt=>h1 i hi (by omega),fun j hj hlt=>h2 j hj (by omega)⟩,rfl⟩
theorem usD_var {ex:List UInt8} {l:List Opd} {D J:Option Nat} {L lo hi d:Int} (V:VarS ex l D J L lo hi):∀m,m≤l.length→(usD ex l d m=true↔d=0∨∃i,D=some i∧i < m):=by
 intro m
 induction m with
 | zero=>intro _;simp [usD]
 | succ m ih=>
  intro hm
  have hL:L=101∨L=110∨L=119:=V.ll
  rw [usD,Bool.or_eq_true_iff,ih (by omega),V.le m (by omega),beq_iff_eq]
  by_cases e1:D=some m
  ·rw [if_pos e1]
   exact ⟨fun _=>Or.inr ⟨m,e1,by omega⟩,fun _=>Or.inr rfl⟩
  rw [if_neg e1]
  constructor
  ·rintro ((h | ⟨i,h1,h2⟩) | h)
   ·exact Or.inl h
   ·exact Or.inr ⟨i,h1,by omega⟩
   ·split at h<;>omega
  ·rintro (h | ⟨i,h1,h2⟩)
   ·exact Or.inl (Or.inl h)
   ·refine Or.inl (Or.inr ⟨i,h1,?_⟩)
    have:i≠m:=fun e=>e1 (by rw [h1,e])
    omega
theorem usN_var {ex:List UInt8} {l:List Opd} {D J:Option Nat} {L lo hi n:Int} (V:VarS ex l D J L lo hi):∀m,m≤l.length→(usN ex l n m=true↔n=0∨∃i,J=some i∧i < m):=by
 intro m
 induction m with
 | zero=>intro _;simp [usN]
 | succ m ih=>
  intro hm
  have hL:L=101∨L=110∨L=119:=V.ll
  rw [usN,Bool.or_eq_true_iff,ih (by omega),V.le m (by omega)]
  by_cases e1:D=some m
  ·rw [if_pos e1]
   have e2:=V.ne m e1
   constructor
   ·rintro ((h | ⟨i,h1,h2⟩) | h)
    ·exact Or.inl h
    ·exact Or.inr ⟨i,h1,by omega⟩
    ·exact absurd h (by decide)
   ·rintro (h | ⟨i,h1,h2⟩)
    ·exact Or.inl (Or.inl h)
    ·refine Or.inl (Or.inr ⟨i,h1,?_⟩)
     have:i≠m:=fun e=>e2 (by rw [h1,e])
     omega
  rw [if_neg e1]
  by_cases e2:J=some m
  ·rw [if_pos e2]
   refine ⟨fun _=>Or.inr ⟨m,e2,by omega⟩,fun _=>Or.inr ?_⟩
   rcases hL with rfl | rfl | rfl<;>rfl
  rw [if_neg e2]
  constructor
  ·rintro ((h | ⟨i,h1,h2⟩) | h)
   ·exact Or.inl h
   ·exact Or.inr ⟨i,h1,by omega⟩
   ·exact absurd h (by decide)
  ·rintro (h | ⟨i,h1,h2⟩)
   ·exact Or.inl (Or.inl h)
   ·refine Or.inl (Or.inr ⟨i,h1,?_⟩)
    have:i≠m:=fun e=>e2 (by rw [h1,e])
    omega
theorem filL_at (ex:List UInt8) (l:List Opd) (d n:Int):∀m k,k < m→(filL ex l d n m)[k]?=some (filO (letF l ex k) d n (oAt l k))
 | 0,k,h=>absurd h (Nat.not_lt_zero _)
 | m+1,k,h=>by
  rw [filL]
  by_cases e:k=m
  ·subst e
   rw [List.getElem?_append_right (by rw [filL_len];omega),filL_len]
   simp
  ·rw [List.getElem?_append_left (by rw [filL_len];omega)]
   exact filL_at ex l d n m k (by omega)
theorem fillF_var {ex:List UInt8} {l:List Opd} {D J:Option Nat} {L lo hi d n:Int} (V:VarS ex l D J L lo hi):
  fillF ex l d n=if (okN J lo hi n&&okN D (-128) 127 d)=true then some (filL ex l d n l.length) else none:=by
 have h1:=okL_var V (d:=d) (n:=n) l.length (Nat.le_refl _)
 have h2:=usD_var V (d:=d) l.length (Nat.le_refl _)
 have h3:=usN_var V (n:=n) l.length (Nat.le_refl _)
 have hD:okN D (-128) 127 d=true↔(∀i,D=some i→fitsB (-128) 127 d=true)∧(d=0∨∃i,D=some i):=by
  cases D with
  | none=>simp [okN]
  | some i=>simp [okN]
 have hJ:okN J lo hi n=true↔(∀i,J=some i→fitsB lo hi n=true)∧(n=0∨∃i,J=some i):=by
  cases J with
  | none=>simp [okN]
  | some i=>simp [okN]
 have hlD:∀i,D=some i→i < l.length:=fun i h=>(V.d1 i h).2.2.1
 have hlJ:∀j,J=some j→j < l.length:=fun j h=>(V.j1 j h).2.1
 by_cases h:(okN J lo hi n&&okN D (-128) 127 d)=true
 ·rw [if_pos h]
  obtain ⟨a,b⟩:=Bool.and_eq_true_iff.1 h
  obtain ⟨b1,b2⟩:=hD.1 b
  obtain ⟨a1,a2⟩:=hJ.1 a
  unfold fillF
  rw [if_pos (h1.2 ⟨fun i hi _=>b1 i hi,fun j hj _=>a1 j hj⟩),if_pos (h2.2 (b2.imp id (fun ⟨i,hi⟩=>⟨i,hi,hlD i hi⟩))),if_pos (h3.2 (a2.imp id (fun ⟨i,hi⟩=>⟨i,hi,hlJ i hi⟩)))]
 ·rw [if_neg h]
  unfold fillF
  by_cases e1:okL ex l d n l.length=true
  ·rw [if_pos e1]
   by_cases e2:usD ex l d l.length=true
   ·rw [if_pos e2]
    by_cases e3:usN ex l n l.length=true
    ·exfalso
     obtain ⟨b1,a1⟩:=h1.1 e1
     refine h (Bool.and_eq_true_iff.2 ⟨hJ.2 ⟨fun j hj=>a1 j hj (hlJ j hj),(h3.1 e3).imp id (fun ⟨i,hi,_⟩=>⟨i,hi⟩)⟩,hD.2 ⟨fun i hi=>b1 i hi (hlD i hi),(h2.1 e2).imp id (fun ⟨i,hi,_⟩=>⟨i,hi⟩)⟩⟩)
    ·rw [if_neg e3]
   ·rw [if_neg e2]
  ·rw [if_neg e1]
theorem oAt_eq {l:List Opd} {k:Nat} (h:k < l.length):oAt l k=l[k]:=by unfold oAt;rw [List.getElem?_eq_getElem h]
theorem fil_list {ex:List UInt8} {l:List Opd} {D J:Option Nat} {L lo hi d n:Int} (V:VarS ex l D J L lo hi) (m:List Opd) (hm:m.length=l.length) (h:∀k (hk:k < l.length),m[k]?=some (if D=some k then {l[k] with n:=d} else if J=some k then {l[k] with n:=n} else l[k])):filL ex l d n l.length=m:=by
 have hL:L=101∨L=110∨L=119:=V.ll
 refine List.ext_getElem? fun k=>?_
 by_cases hk:k < l.length
 ·rw [filL_at ex l d n _ k hk,h k hk,V.le k hk,oAt_eq hk]
  congr 1
  unfold filO filN
  by_cases e1:D=some k
  ·rw [if_pos e1,if_pos e1,if_pos rfl]
  rw [if_neg e1,if_neg e1]
  by_cases e2:J=some k
  ·rw [if_pos e2,if_pos e2,if_neg (by omega),if_pos hL]
  rw [if_neg e2,if_neg e2,if_neg (by decide),if_neg (by decide)]
 ·rw [List.getElem?_eq_none (by rw [filL_len];omega),List.getElem?_eq_none (by omega)]
theorem fill_eq {ex:List UInt8} {l:List Opd} {D J:Option Nat} {L lo hi d n:Int} (V:VarS ex l D J L lo hi):fillS ex l d n=fillF ex l d n:=by
 rw [fillF_var V]
 unfold fillS
 have fin:∀(a b:Bool) (m:List Opd),(a=true→b=true→m=filL ex l d n l.length)→(if a=true then (if b=true then some m else none) else none)=if (a&&b)=true then some (filL ex l d n l.length) else none:=by
  intro a b m h
  cases a<;>cases b<;>simp
  exact h rfl rfl
 cases hD:D with
 | none=>
  rw [V.d0 hD,putF_off]
  dsimp only
  cases hJ:J with
  | none=>
   rw [V.j0 hJ,putF_off]
   refine fin _ _ _ (fun _ _=>(fil_list V l rfl (fun k hk=>?_)).symm)
   rw [hD,hJ,List.getElem?_eq_getElem hk];simp
  | some j=>
   obtain ⟨e1,e2,e3⟩:=V.j1 j hJ
   rw [e1,putF_at (List.getElem?_eq_getElem e2)]
   refine fin _ _ _ (fun _ _=>(fil_list V _ (by rw [List.length_set]) (fun k hk=>?_)).symm)
   rw [hD,hJ,List.getElem?_set]
   by_cases h:j=k
   ·subst h;simp [hk]
   ·rw [if_neg h,List.getElem?_eq_getElem hk];simp [h]
 | some i=>
  obtain ⟨d1,d2,d3,d4⟩:=V.d1 i hD
  rw [d1,d2,putF_at (List.getElem?_eq_getElem d3)]
  dsimp only
  cases hJ:J with
  | none=>
   rw [V.j0 hJ,putF_off]
   refine fin _ _ _ (fun _ _=>(fil_list V _ (by rw [List.length_set]) (fun k hk=>?_)).symm)
   rw [hD,hJ,List.getElem?_set]
   by_cases h:i=k
   ·subst h;simp [hk]
   ·rw [if_neg h,List.getElem?_eq_getElem hk];simp [h]
  | some j=>
   obtain ⟨e1,e2,e3⟩:=V.j1 j hJ
   have hij:i≠j:=fun e=>V.ne i hD (by rw [hJ,e])
   rw [e1,putF_at (x:=l[j]) (by rw [List.getElem?_set_ne hij];exact List.getElem?_eq_getElem e2)]
   refine fin _ _ _ (fun _ _=>(fil_list V _ (by rw [List.length_set,List.length_set]) (fun k hk=>?_)).symm)
   rw [hD,hJ,List.getElem?_set,List.getElem?_set]
   by_cases h:j=k
   ·subst h
    have:¬i=j:=hij
    simp [hk,this]
   ·rw [if_neg h]
    by_cases h2:i=k
    ·subst h2;simp [hk]
    ·rw [if_neg h2,List.getElem?_eq_getElem hk];simp [h,h2]
end Go.Proofs.YtnbmbcjnncbaiaaGreatDoor
namespace Go.Proofs.YtnbmbcjnncbaiaaGreatDoor
open Go.RowKit Go.Shelf Go.Sort
def Dof (ex:List UInt8) (l:List Opd):Option Nat:=if (hasF ex 100&&decide (0≤lastK [5] l l.length))=true then some (lastK [5] l l.length).toNat else none
def Jof (ex:List UInt8) (l:List Opd):Option Nat:=if (numV ex l).2.2.2=true then some (numV ex l).1.toNat else none
def lL (ex:List UInt8):Int:=if hasF ex 101=true then 101 else if hasF ex 110=true then 110 else 119
def loF (ex:List UInt8):Int:=if hasF ex 101=true then -128 else 0
def hiF (ex:List UInt8):Int:=if hasF ex 101=true then 127 else if hasF ex 110=true then 255 else 65535
def chkV (ex:List UInt8) (l:List Opd):Bool:=
 (match Dof ex l with | some i=>(nAt l i==0)&&(decide (Jof ex l≠some i)&&(kAt l i==5)) | none=>true)&&((match Jof ex l with | some j=>(nAt l j==0)&&((kAt l j != 6) || decide (0≤loF ex)) | none=>true)&&
  ((List.range l.length).all fun k=>letF l ex k==if Dof ex l=some k then 100 else if Jof ex l=some k then lL ex else 0))
theorem numV_form {ex:List UInt8} {l:List Opd} (h:(numV ex l).2.2.2=true):numV ex l=((numV ex l).1,loF ex,hiF ex,true):=by
 unfold numV loF hiF at *
 split at h
 ·rename_i h1;simp only [h1,if_true] at *;rw [h]
 ·rename_i h1
  split at h
  ·rename_i h2;simp only [h1,h2,if_true] at *;rw [h];simp
  ·rename_i h2
   split at h
   ·rename_i h3;simp only [h1,h2,h3,if_true] at *;rw [h];simp
   ·cases h
theorem var_of {ex:List UInt8} {l:List Opd} (h:chkV ex l=true):VarS ex l (Dof ex l) (Jof ex l) (lL ex) (loF ex) (hiF ex):=by
 unfold chkV at h
 obtain ⟨h1,h⟩:=Bool.and_eq_true_iff.1 h
 obtain ⟨h2,h3⟩:=Bool.and_eq_true_iff.1 h
 have hD:∀i,Dof ex l=some i→(hasF ex 100&&decide (0≤lastK [5] l l.length))=true∧lastK [5] l l.length=i:=fun i hi=>by
  unfold Dof at hi
  split at hi
  ·rename_i hc
   injection hi with hi
   refine ⟨hc,?_⟩
   have:=of_decide_eq_true (Bool.and_eq_true_iff.1 hc).2
   omega
  ·cases hi
 have hJ:∀j,Jof ex l=some j→(numV ex l).2.2.2=true∧(numV ex l).1=j:=fun j hj=>by
  unfold Jof at hj
  split at hj
  ·rename_i hc
   injection hj with hj
   refine ⟨hc,?_⟩
   have:=(numV_lt hc).1
   omega
  ·cases hj
 refine ⟨fun i hi=>?_,fun hi=>?_,fun j hj=>?_,fun hj=>?_,fun i hi=>?_,fun n=>?_,?_,fun k hk=>?_⟩
 ·obtain ⟨a,b⟩:=hD i hi
  rw [hi] at h1
  refine ⟨a,b,?_,eq_of_beq (Bool.and_eq_true_iff.1 h1).1⟩
  have:=lastK_lt [5] l l.length
  omega
 ·unfold Dof at hi
  split at hi
  ·cases hi
  ·rename_i hc;simpa using hc
 ·obtain ⟨a,b⟩:=hJ j hj
  rw [hj] at h2
  refine ⟨by rw [numV_form a,b],?_,eq_of_beq (Bool.and_eq_true_iff.1 h2).1⟩
  have:=(numV_lt a).2
  omega
 ·unfold Jof at hj
  split at hj
  ·cases hj
  ·rename_i hc;simpa using hc
 ·rw [hi] at h1
  exact of_decide_eq_true (Bool.and_eq_true_iff.1 (Bool.and_eq_true_iff.1 h1).2).1
 ·unfold withinF fitsB lL loF hiF
  cases e1:hasF ex 101
  ·cases e2:hasF ex 110
   ·simp
   ·simp
  ·simp
 ·unfold lL
  split
  ·exact Or.inl rfl
  ·split
   ·exact Or.inr (Or.inl rfl)
   ·exact Or.inr (Or.inr rfl)
 ·exact eq_of_beq (List.all_eq_true.1 h3 k (List.mem_range.2 hk))
def chkC (s:ByteArray) (l:List Opd):Bool:=
 !(inL wSub s&&((l.length==2)&&decide ((l.map kr)[0]?=some (1,7))))&&(!(inL wAdd s&&(l.length==1))&&(!((s.toList==[69,88])&&decide (l.map kr=[(3,2),(3,1)]))&&l.all fun o=>(o.kind != 6) || decide (0≤o.n)))
def vAt (o:Opd) (lo hi:Int):Bool:=validOpd ⟨o.kind,o.reg,lo⟩&&validOpd ⟨o.kind,o.reg,hi⟩
def chkL (s:ByteArray) (ex:List UInt8) (l:List Opd):Bool:=
 inL opsL s&&(decide (l.length≤3)&&((List.range l.length).all fun k=>if Dof ex l=some k then vAt (oAt l k) (-128) 127 else if Jof ex l=some k then vAt (oAt l k) (loF ex) (hiF ex) else validOpd (oAt l k)))
def chkE (x:EntV):Bool:=chkV x.ex x.args&&(decide (x.iop.map up=x.iop)&&(decide (x.iop≠[])&&(chkC ⟨x.iop.toArray⟩ x.args&&chkL ⟨x.iop.toArray⟩ x.ex x.args)))
def chkO (p:Int) (x:Nat):Bool:=match (atF p x).1 with | some e=>chkE e | none=>true
theorem cko0:∀x:Fin 256,chkO 0 x.val=true:=by decide+kernel
theorem cko1:∀x:Fin 256,chkO 1 x.val=true:=by decide+kernel
theorem cko2:∀x:Fin 256,chkO 2 x.val=true:=by decide+kernel
theorem cko3:∀x:Fin 256,chkO 3 x.val=true:=by decide+kernel
theorem cko4:∀x:Fin 256,chkO 4 x.val=true:=by decide+kernel
theorem cko5:∀x:Fin 256,chkO 5 x.val=true:=by decide+kernel
theorem cko6:∀x:Fin 256,chkO 6 x.val=true:=by decide+kernel
theorem chk_all {p:Int} {x:Nat} (hx:x < 256) {e:EntV} (he:(atF p x).1=some e):chkE e=true:=by
 have key:chkO p x=true:=by
  by_cases h:0≤p∧p < 7
  ·have:p=0∨p=1∨p=2∨p=3∨p=4∨p=5∨p=6:=by omega
   rcases this with rfl | rfl | rfl | rfl | rfl | rfl | rfl
   ·exact cko0 ⟨x,hx⟩
   ·exact cko1 ⟨x,hx⟩
   ·exact cko2 ⟨x,hx⟩
   ·exact cko3 ⟨x,hx⟩
   ·exact cko4 ⟨x,hx⟩
   ·exact cko5 ⟨x,hx⟩
   ·exact cko6 ⟨x,hx⟩
  ·unfold chkO;rw [atF_out h]
 unfold chkO at key
 rw [he] at key
 exact key
structure EntOk (x:EntV):Prop where
 var:VarS x.ex x.args (Dof x.ex x.args) (Jof x.ex x.args) (lL x.ex) (loF x.ex) (hiF x.ex)
 up:upper ⟨x.iop.toArray⟩=⟨x.iop.toArray⟩
 ne:(⟨x.iop.toArray⟩:ByteArray)≠⟨#[]⟩
 v:chkV x.ex x.args=true
 c:chkC ⟨x.iop.toArray⟩ x.args=true
 l:chkL ⟨x.iop.toArray⟩ x.ex x.args=true
theorem ent_ok {x:EntV} (h:chkE x=true):EntOk x:=by
 unfold chkE at h
 obtain ⟨h1,h⟩:=Bool.and_eq_true_iff.1 h
 obtain ⟨h2,h⟩:=Bool.and_eq_true_iff.1 h
 obtain ⟨h3,h⟩:=Bool.and_eq_true_iff.1 h
 obtain ⟨h4,h5⟩:=Bool.and_eq_true_iff.1 h
 refine ⟨var_of h1,?_,?_,h1,h4,h5⟩
 ·have e:=of_decide_eq_true h2
  unfold upper
  simp only
  rw [e]
 ·intro e
  refine of_decide_eq_true h3 ?_
  have:=congrArg (fun s:ByteArray=>s.data.toList) e
  simpa using this
theorem ent_at {p:Int} {x:Nat} (hx:x < 256) {e:EntV} (he:(atF p x).1=some e):EntOk e:=ent_ok (chk_all hx he)
end Go.Proofs.YtnbmbcjnncbaiaaGreatDoor
namespace Go.Proofs.YtnbmbcjnncbaiaaGreatDoor
open Go.RowKit Go.Shelf Go.Sort
structure FilS (x:EntV) (d n:Int) (c:List Opd):Prop where
 k:c.map kr=x.args.map kr
 okd:okN (Dof x.ex x.args) (-128) 127 d=true
 okn:okN (Jof x.ex x.args) (loF x.ex) (hiF x.ex) n=true
 el:∀k (hk:k < x.args.length),c[k]?=some (if Dof x.ex x.args=some k then {x.args[k] with n:=d} else if Jof x.ex x.args=some k then {x.args[k] with n:=n} else x.args[k])
theorem FilS.len {x:EntV} {d n:Int} {c:List Opd} (h:FilS x d n c):c.length=x.args.length:=by have:=congrArg List.length h.k;simpa using this
end Go.Proofs.YtnbmbcjnncbaiaaGreatDoor
namespace Go.Proofs.YtnbmbcjnncbaiaaGreatDoor
open Go.RowKit Go.Shelf Go.Sort
theorem run_next_at {W:World} {b:Nat} {s:ByteArray} {pos:Nat} (ty:TypeId) (hb:W.heap[b]?=some (.stringIter s pos)) (h:pos < s.size) (ha:(s[pos]'h).toNat < 128):
  (Instr.next (.pointer (some ⟨b,0,none⟩)) true ty).run Tryz.prog W=.ok (.tuple #[.bool true,.int .i64 pos,.int .i32 (s[pos]'h).toNat]) (W.putObj b (.stringIter s (pos+1))):=by
 simp only [Instr.next,getObj,setObj,Sem.run_bind,Sem.run,hb,Result.andThen,h,if_true,decode_ascii s pos h ha]
 simp [goInt,World.putObj]
theorem run_next_stop {W:World} {b:Nat} {s:ByteArray} {pos:Nat} (ty:TypeId) (hb:W.heap[b]?=some (.stringIter s pos)) (h:¬pos < s.size):
  (Instr.next (.pointer (some ⟨b,0,none⟩)) true ty).run Tryz.prog W=.ok (.tuple #[.bool false]) W:=by
 simp [Instr.next,getObj,Sem.run,hb,h]
def okLet (b:UInt8):Prop:=b=100∨b=101∨b=110∨b=119
def iterLeft (w:World) (b:Nat):Nat:=match w.heap[b]? with | some (.stringIter s k)=>s.size - k | _=>0
theorem iterLeft_eq {w:World} {b k:Nat} {s:ByteArray} (h:w.heap[b]?=some (.stringIter s k)):iterLeft w b=s.size - k:=by unfold iterLeft;rw [h]
theorem prefF_len9 (p:Int):(prefF p).length≤2:=by
 unfold prefF
 repeat' split
 all_goals simp
theorem opsL_size:∀s∈opsL,s.size≤10:=by
 have h:opsL.all (fun s=>decide (s.size≤10))=true:=by decide+kernel
 intro s hs
 exact of_decide_eq_true (List.all_eq_true.1 h s hs)
theorem EntOk.size {x:EntV} (h:EntOk x):(⟨x.iop.toArray⟩:ByteArray).size≤10∧x.args.length≤3:=by
 have hl:=h.l
 unfold chkL at hl
 obtain ⟨h1,hl⟩:=Bool.and_eq_true_iff.1 hl
 exact ⟨opsL_size _ (inL_iff.1 h1),of_decide_eq_true (Bool.and_eq_true_iff.1 hl).1⟩
def chkW (p:Int) (x:Nat):Bool:=match (atF p x).1 with
 | some e=>(e.pg==p)&&(decide (e.op=x)&&(e.ex.all (fun b=>b==100 || (b==101 || (b==110 || b==119)))&&(decide (e.ex.length≤10)&&(decide (p < 5) || e.ex==[100]))))
 | none=>true
theorem ckw:∀p:Fin 7,∀x:Fin 256,chkW p.val x.val=true:=by decide+kernel
structure EntW (x:EntV):Prop where
 op:x.op < 256
 lets:∀b∈x.ex,okLet b
 hi:5≤x.pg→x.ex=[100]
 len:x.ex.length≤10
theorem entW_at {p x:Nat} (hp:p < 7) (hx:x < 256) {e:EntV} (he:(atF p x).1=some e):EntW e∧e.pg=p∧e.op=x:=by
 have h:=ckw ⟨p,hp⟩ ⟨x,hx⟩
 unfold chkW at h
 dsimp only at h
 rw [he] at h
 obtain ⟨h1,h⟩:=Bool.and_eq_true_iff.1 h
 obtain ⟨h2,h⟩:=Bool.and_eq_true_iff.1 h
 obtain ⟨h3,h⟩:=Bool.and_eq_true_iff.1 h
 obtain ⟨h4,h5⟩:=Bool.and_eq_true_iff.1 h
 have h1:=eq_of_beq h1
 have h2:=of_decide_eq_true h2
 refine ⟨⟨by omega,fun b hb=>?_,fun h6=>?_,of_decide_eq_true h4⟩,h1,h2⟩
 ·have:=List.all_eq_true.1 h3 b hb
  rcases Bool.or_eq_true_iff.1 this with e | e
  ·exact .inl (eq_of_beq e)
  ·rcases Bool.or_eq_true_iff.1 e with e | e
   ·exact .inr (.inl (eq_of_beq e))
   ·rcases Bool.or_eq_true_iff.1 e with e | e
    ·exact .inr (.inr (.inl (eq_of_beq e)))
    ·exact .inr (.inr (.inr (eq_of_beq e)))
 ·rcases Bool.or_eq_true_iff.1 h5 with e | e
  ·have:=of_decide_eq_true e;omega
  ·exact eq_of_beq e
end Go.Proofs.YtnbmbcjnncbaiaaGreatDoor
