/-
  Arguments opened. Conditions: none.
-/
import Derived.Test.YtmpmciccgempeaaGreatDoorBD2
namespace Go.Proofs.YtmpmciccgempeaaGreatDoor
set_option maxRecDepth 100000
open Go.RowKit Go.ChangeShapes Go.WideShapes Go.ChangeAt Go.Deep Go.Joins
theorem own_knobQ:ownKnob Tryz.prog.godebug=none:=by kernel_rfl
theorem gDeb:Tryz.prog.globalNamed "math/bits.deBruijn64tab" =some 1:=by kernel_rfl
def YC {H:Type}:DataW H:=Lib.tabData .u8 (Lib.deBruijn64tab.map fun (n:Nat)=>(n:Int))
theorem deb_of_reads {w:World} (h:Lib.VarReads Tryz.prog w "math/bits.deBruijn64tab" YC):Deb w:=by
 obtain ⟨g,t,cs,fuel,p,hg,ht,hv,hd⟩:=h
 obtain rfl:=Option.some.inj (gDeb.symm.trans hg)
 obtain rfl:=Option.some.inj ((show (Tryz.prog.globals[1]?).map (·.type)=some 286 by kernel_rfl).symm.trans ht)
 have hcs:=Lib.cells_of_tab Tryz.underlying286 Tryz.underlying5 (by kernel_rfl) (by kernel_rfl) hd
 intro j hj
 rw [World.var?_cell hg hv j,←Array.getElem?_toList,hcs]
 rw [List.map_map,List.getElem?_map,List.getElem?_eq_getElem hj,List.getD_eq_getElem?_getD,List.getElem?_eq_getElem hj]
 rfl
theorem JQ (b o n:Nat):(⟨b,o,none⟩:Addr).add n=⟨b,o+n,none⟩:=by
 unfold Addr.add;split<;>simp_all
theorem list2Q' {α:Type} {l:List α} (h:l.length=2):∃a b,l=[a,b]:=by
 match l,h with
 | [a,b],_=>exact ⟨a,b,rfl⟩
theorem c_intQ:Tryz.prog.cellsOf 3=1:=by kernel_rfl
theorem a0B:Tryz.prog.cellsOf 5=1:=by kernel_rfl
theorem c_bytes:Tryz.prog.cellsOf 32=1:=by kernel_rfl
theorem c_run:Tryz.prog.cellsOf 120=2:=by kernel_rfl
variable {H:Type} {enc:TypeId × Value→H} {W:World}
theorem DC {α:Type} {f:α→Value} {h1:∀x,∀u∈[f x],u.oneCell'=true} {Q:α→Prop} {t e:TypeId} {fuel:Nat} {cs:List Value} {y:DataW H × List MemPlace} (ht:Tryz.prog.underlying t=some (.slice e)) (hc:Tryz.prog.cellsOf e=1)
  (hel:∀(n:Nat) (v:Value) (y:DataW H × List MemPlace),DataW.trod enc Tryz.prog W 0 (fun _=>true) true n e [v]=some y→∃x,v=f x∧Q x) (h:DataW.trod enc Tryz.prog W 0 (fun _=>true) true fuel t cs=some y):
  ∃v l,cs=[v]∧SlR (Rep.flat 1 (fun x=>[f x]) (fun _=>rfl) h1) W (fun _=>True) v l∧∀x∈l,Q x:=by
 rcases open_slice1 ht hc h with ⟨rfl,_⟩ | ⟨a,len,cap,m,n,V,D,Pl,rfl,_,hl,hm,hmm,_,hi⟩
 ·exact ⟨_,[],rfl,SlR.nil _ _ _,by simp⟩
 ·have key:∀i,i < len→∃x:α,W.cell? (a.add i)=some (f x)∧Q x:=fun i hil=>by
   obtain ⟨hcell,ht'⟩:=hi i (by rw [hmm,if_pos rfl];omega)
   obtain ⟨x,hv,hq⟩:=hel _ _ _ ht'
   exact ⟨x,by rw [hcell,hv],hq⟩
  by_cases h0:0 < len
  ·obtain ⟨x0,_⟩:=key 0 h0
   have key2:∀i,∃x:α,i < len→W.cell? (a.add i)=some (f x)∧Q x:=fun i=>by
    by_cases hil:i < len
    ·obtain ⟨x,hx⟩:=key i hil
     exact ⟨x,fun _=>hx⟩
    ·exact ⟨x0,fun h=>absurd h hil⟩
   have hg:=fun i=>(key2 i).choose_spec
   generalize hF:(fun i=>(key2 i).choose)=F at hg
   have hF':∀i,(key2 i).choose=F i:=fun i=>congrFun hF i
   simp only [hF'] at hg
   have hat:∀i x,((List.range len).map F)[i]?=some x→i < len∧F i=x:=fun i x hx=>by
    rw [List.getElem?_map,Option.map_eq_some_iff] at hx
    obtain ⟨j,hj,rfl⟩:=hx
    obtain ⟨h1,h2⟩:=List.getElem?_eq_some_iff.1 hj
    simp at h1 h2
    subst h2
    exact ⟨h1,rfl⟩
   refine ⟨_,(List.range len).map F,rfl,⟨some a,cap,by simp,by simpa using hl,hm,fun i x hx=>?_⟩,fun x hx=>?_⟩
   ·obtain ⟨hil,rfl⟩:=hat i x hx
    have hcell:=(hg i hil).1
    obtain ⟨b,o,spot⟩:=a
    have hspot:spot=none:=by
     have:=(hg 0 h0).1
     simpa [Addr.add] using World.cell?_spot this
    subst hspot
    rw [JQ] at hcell
    refine ⟨b,o,[f (F i)],rfl,trivial,World.block_lt_of_cell? W _ hcell,fun j u hu=>?_,rfl⟩
    match j,hu with
    | 0,hu=>simp at hu;subst hu;simpa [Rep.flat] using hcell
   ·obtain ⟨i,hi',rfl⟩:=List.mem_map.1 hx
    exact (hg i (by simpa using hi')).2
  ·obtain rfl:len=0:=by omega
   exact ⟨_,[],rfl,⟨some a,cap,rfl,Nat.zero_le _,hm,fun i x h=>by simp at h⟩,by simp⟩
theorem cells_sliceQ {a:Option Addr} {n c:Nat}:(Value.slice a n c).cells.toList=[.slice a n c]:=rfl
theorem FI {fuel:Nat} {v:Value} {y:DataW H × List MemPlace} (h:DataW.trod enc Tryz.prog W 0 (fun _=>true) true fuel 32 [v]=some y):∃l,SlR aI W (fun _=>True) v l:=by
 obtain ⟨v',l,e,hs,_⟩:=DC (α:=UInt8) (f:=fun n=>.int .u8 n.toNat) (h1:=fun x u hu=>by simp at hu;subst hu;rfl) (Q:=fun _=>True) Tryz.underlying32 a0B (fun n v y ht=>by
  obtain ⟨k,q,_,wf⟩:=DataW.trod_int Tryz.underlying5 ht
  obtain rfl:=List.cons.inj q |>.1
  have hb:=bounds_u8 wf
  refine ⟨UInt8.ofNat k.toNat,?_,trivial⟩
  have e:((UInt8.ofNat k.toNat).toNat:Int)=k:=by
   rw [UInt8.toNat_ofNat']
   omega
  rw [e]) h
 obtain rfl:=List.cons.inj e |>.1
 exact ⟨l,hs⟩
def JE (x:Int × List UInt8):Prop:=-9223372036854775808≤x.1∧x.1≤9223372036854775807
theorem XK {b0:Nat} {v:Value} {d:DataW H} {p:List MemPlace} (hv:Value.okWide Tryz.prog W .any b0 50 v) (h:DataW.Trod enc Tryz.prog W 0 (fun _=>true) true 50 v d p):
  ∃l,SlR CC W (fun _=>True) v l∧∀x∈l,JE x:=by
 have hcl:v.cells.toList=[v]:=by
  obtain ⟨a,n,c,rfl⟩:=okWide_slice Tryz.underlying50 hv
  rfl
 obtain ⟨fuel,hf⟩:=h
 rw [hcl] at hf
 rcases open_slice Tryz.underlying50 hf with ⟨hv,_⟩ | ⟨a,len,cap,m,n,D,Pl,hv,_,hl,hm,hmm,_,hi⟩
 ·obtain rfl:=List.cons.inj hv |>.1
  exact ⟨[],SlR.nil _ _ _,by simp⟩
 ·obtain rfl:=List.cons.inj hv |>.1
  have key:∀i,i < len→∃x:Int × List UInt8,(∃va,W.cell? (a.add (i * 2))=some (.int .i64 x.1)∧W.cell? (a.add (i * 2+1))=some va∧SlR aI W (fun _=>True) va x.2)∧JE x:=fun i hil=>by
   obtain ⟨cs,hc,ht⟩:=hi i (by rw [hmm,if_pos rfl];omega)
   rw [c_run] at hc
   obtain ⟨_,hlen,hat⟩:=World.cells?_some hc
   obtain ⟨y0,y1,n',_,_,h0,h1⟩:=trod_struct2 Tryz.underlying120 ht
   obtain ⟨c0,c1,rfl⟩:=list2Q' hlen
   have e0:=hat 0 (by omega)
   have e1:=hat 1 (by omega)
   rw [add_add] at e0 e1
   dsimp only at h0 h1
   rw [c_intQ] at h0
   rw [c_bytes] at h1
   obtain ⟨s,q0,_,hs⟩:=DataW.trod_int Tryz.underlying3 (fuel:=n') (cs:=[c0]) h0
   obtain rfl:=List.cons.inj q0 |>.1
   obtain ⟨l,hl⟩:=FI (fuel:=n') (v:=c1) h1
   exact ⟨⟨s,l⟩,⟨c1,e0,e1,hl⟩,(bounds_i64 hs).1,(bounds_i64 hs).2⟩
  obtain ⟨f,hf⟩:=choose_lt key
  have hg:∀i x,((List.range len).map f)[i]?=some x→i < len∧f i=x:=fun i x hx=>by
   rw [List.getElem?_map,Option.map_eq_some_iff] at hx
   obtain ⟨j,hj,rfl⟩:=hx
   obtain ⟨h1,h2⟩:=List.getElem?_eq_some_iff.1 hj
   simp at h1 h2
   subst h2
   exact ⟨h1,rfl⟩
  refine ⟨(List.range len).map f,⟨some a,cap,by simp,by simpa using hl,hm,fun i x hx=>?_⟩,fun x hx=>?_⟩
  ·obtain ⟨hil,rfl⟩:=hg i x hx
   obtain ⟨⟨va,h0,h1,h2⟩,_⟩:=hf i hil
   obtain ⟨b,o,spot⟩:=a
   have hspot:spot=none:=by
    obtain ⟨⟨_,h00,_⟩,_⟩:=hf 0 (by omega)
    simpa [Addr.add] using World.cell?_spot h00
   subst hspot
   rw [JQ] at h0 h1
   refine ⟨b,o,[.int .i64 (f i).1,va],rfl,trivial,World.block_lt_of_cell? W _ h0,fun j u hu=>?_,[.int .i64 (f i).1],[va],rfl,rfl,va,rfl,h2⟩
   show W.cell? ⟨b,o+i * 2+j,none⟩=_
   rw [Nat.add_assoc]
   match j,hu with
   | 0,hu=>simp at hu;subst hu;exact h0
   | 1,hu=>simp at hu;subst hu;exact h1
  ·obtain ⟨i,hi,rfl⟩:=List.mem_map.1 hx
   exact (hf i (by simpa using hi)).2
end Go.Proofs.YtmpmciccgempeaaGreatDoor
