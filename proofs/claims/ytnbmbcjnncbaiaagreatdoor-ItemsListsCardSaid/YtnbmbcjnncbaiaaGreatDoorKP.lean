/-
  Arguments opened.
-/
import Derived.Test.YtnbmbcjnncbaiaaGreatDoorPB
import Derived.Test.YtnbmbcjnncbaiaaGreatDoorCards
import Derived.Test.YtnbmbcjnncbaiaaGreatDoorTie
import Derived.WalkKit
import Derived.ProofKit
import Derived.OpenShut
import Derived.LaidMore
import Derived.LaidOnce
import Derived.Deep.DeepHandedRow
import Derived.Deep.DeepWitnessRowRef
import Derived.Deep.Slices
import Derived.Lib.LaidTab
import Derived.Lib.LaidU8
import Derived.Lib.SmallJoins
import Derived.Test.YtnbmbcjnncbaiaaGreatDoorPD
namespace Go.Proofs.YtnbmbcjnncbaiaaGreatDoor
set_option maxRecDepth 100000
open Go.RowKit Go.ChangeShapes Go.WideShapes Go.ChangeAt Go.Deep Go.Joins
theorem own_knob:ownKnob Tryz.prog.godebug=none:=by kernel_rfl
theorem gSpc:Tryz.prog.globalNamed "strings.asciiSpace" =some 1:=by kernel_rfl
theorem spc_of_reads {w:World} (h:Lib.VarReads Tryz.prog w "strings.asciiSpace" (Lib.tabData .u8 Lib.asciiSpaceTab)):Spc w:=by
 obtain ⟨g,t,cs,fuel,p,hg,ht,hv,hd⟩:=h
 obtain rfl:=Option.some.inj (gSpc.symm.trans hg)
 obtain rfl:=Option.some.inj ((show (Tryz.prog.globals[1]?).map (·.type)=some 241 by kernel_rfl).symm.trans ht)
 unfold Spc Lib.TabIs
 rw [hv,←Lib.cells_of_tab Tryz.underlying241 Tryz.underlying5 (by kernel_rfl) (by kernel_rfl) hd]
theorem c_int:Tryz.prog.cellsOf 3=1:=by kernel_rfl
theorem c_ins:Tryz.prog.cellsOf 27=2:=by kernel_rfl
theorem c_string:Tryz.prog.cellsOf 9=1:=by kernel_rfl
theorem c_opds:Tryz.prog.cellsOf 25=1:=by kernel_rfl
theorem add_at (b o n:Nat):(⟨b,o,none⟩:Addr).add n=⟨b,o+n,none⟩:=by
 unfold Addr.add;split<;>simp_all
theorem list3 {α:Type} {l:List α} (h:l.length=3):∃a b c,l=[a,b,c]:=by
 match l,h with
 | [a,b,c],_=>exact ⟨a,b,c,rfl⟩
variable {H:Type} {enc:TypeId × Value→H} {W:World}
theorem open_opds {fuel:Nat} {v:Value} {y:DataW H × List MemPlace} (h:DataW.trod enc Tryz.prog W 0 (fun _=>true) true fuel 25 [v]=some y):
  ∃l,SlR opdR W (fun _=>True) v l∧∀x∈l,fits64 x.n:=by
 rcases open_slice Tryz.underlying25 h with ⟨hv,_⟩ | ⟨a,len,cap,m,n,D,Pl,hv,_,hl,hm,hmm,_,hi⟩
 ·obtain rfl:=List.cons.inj hv |>.1
  exact ⟨[],SlR.nil _ _ _,by simp⟩
 ·obtain rfl:=List.cons.inj hv |>.1
  have key:∀i,i < len→∃x:Opd,W.cell? (a.add (i * 3))=some (.int .i64 x.kind)∧W.cell? (a.add (i * 3+1))=some (.int .i64 x.reg)∧W.cell? (a.add (i * 3+2))=some (.int .i64 x.n)∧fits64 x.n:=fun i hil=>by
   obtain ⟨cs,hc,ht⟩:=hi i (by rw [hmm,if_pos rfl];omega)
   rw [show Tryz.prog.cellsOf 93=3 by kernel_rfl] at hc
   obtain ⟨_,hlen,hat⟩:=World.cells?_some hc
   obtain ⟨y0,y1,y2,n',_,_,h0,h1,h2⟩:=trod_struct3 Tryz.underlying93 ht
   obtain ⟨c0,c1,c2,rfl⟩:=list3 hlen
   have e0:=hat 0 (by omega)
   have e1:=hat 1 (by omega)
   have e2:=hat 2 (by omega)
   rw [add_add] at e0 e1 e2
   dsimp only at h0 h1 h2
   rw [c_int] at h0 h1 h2
   obtain ⟨k0,q0,_,_⟩:=DataW.trod_int Tryz.underlying3 (fuel:=n') (cs:=[c0]) h0
   obtain ⟨k1,q1,_,_⟩:=DataW.trod_int Tryz.underlying3 (fuel:=n') (cs:=[c1]) h1
   obtain ⟨k2,q2,_,wf⟩:=DataW.trod_int Tryz.underlying3 (fuel:=n') (cs:=[c2]) h2
   obtain rfl:=List.cons.inj q0 |>.1
   obtain rfl:=List.cons.inj q1 |>.1
   obtain rfl:=List.cons.inj q2 |>.1
   exact ⟨⟨k0,k1,k2⟩,e0,e1,e2,bounds_i64 wf⟩
  obtain ⟨f,hf⟩:=choose_lt key
  have hg:∀i x,((List.range len).map f)[i]?=some x→i < len∧f i=x:=fun i x hx=>by
   rw [List.getElem?_map,Option.map_eq_some_iff] at hx
   obtain ⟨j,hj,rfl⟩:=hx
   obtain ⟨h1,h2⟩:=List.getElem?_eq_some_iff.1 hj
   simp at h1 h2
   subst h2
   exact ⟨h1,rfl⟩
  refine ⟨(List.range len).map f,⟨some a,cap,by simp,by simpa using hl,hm,fun i x hx=>?_⟩,fun x hx=>?_⟩
  ·obtain ⟨hil,rfl⟩:=hg i x hx
   obtain ⟨h0,h1,h2,_⟩:=hf i hil
   obtain ⟨b,o,spot⟩:=a
   have hspot:spot=none:=by simpa [Addr.add] using World.cell?_spot (hf 0 (by omega)).1
   subst hspot
   rw [add_at] at h0 h1 h2
   refine ⟨b,o,(f i).cells,rfl,trivial,World.block_lt_of_cell? W _ h0,fun j u hu=>?_,rfl⟩
   rw [opdR_size,Nat.add_assoc]
   match j,hu with
   | 0,hu=>simp [Opd.cells] at hu;subst hu;exact h0
   | 1,hu=>simp [Opd.cells] at hu;subst hu;exact h1
   | 2,hu=>simp [Opd.cells] at hu;subst hu;exact h2
  ·obtain ⟨i,hi,rfl⟩:=List.mem_map.1 hx
   exact (hf i (by simpa using hi)).2.2.2
theorem open_ins {b0:Nat} {v:Value} {d:DataW H} {p:List MemPlace} (hv:Value.okWide Tryz.prog W .any b0 27 v) (h:DataW.Trod enc Tryz.prog W 0 (fun _=>true) true 27 v d p):
  ∃(x:Ins) (v1:Value),v=.agg #[.string x.op,v1]∧SlR opdR W (fun _=>True) v1 x.args∧(∀y∈x.args,fits64 y.n)∧x.op.size≤maxLen:=by
 obtain ⟨c0,c1,y0,y1,m,rfl,_,_,h0,h1⟩:=open_agg2 Tryz.underlying27 (by kernel_rfl) c_ins hv h
 dsimp only at h0 h1
 obtain ⟨s,q0,_,hs⟩:=DataW.trod_string Tryz.underlying9 h0
 obtain rfl:=List.cons.inj q0 |>.1
 obtain ⟨l,hl,hf⟩:=open_opds h1
 exact ⟨⟨s,l⟩,c1,rfl,hl,hf,hs⟩
end Go.Proofs.YtnbmbcjnncbaiaaGreatDoor
namespace Go.Proofs.YtnbmbcjnncbaiaaGreatDoor
set_option maxRecDepth 100000
open Go.RowKit Go.ChangeShapes Go.WideShapes Go.ChangeAt Go.Deep Go.Joins
end Go.Proofs.YtnbmbcjnncbaiaaGreatDoor
namespace Go.Proofs.YtnbmbcjnncbaiaaGreatDoor
set_option maxRecDepth 100000
open Go.RowKit Go.ChangeShapes Go.WideShapes Go.ChangeAt Go.Deep Go.Joins
variable {H:Type} {enc:TypeId × Value→H} {W:World}
theorem open_ones {α:Type} {f:α→Value} {h1:∀x,∀u∈[f x],u.oneCell'=true} {Q:α→Prop} {t e:TypeId} {fuel:Nat} {cs:List Value} {y:DataW H × List MemPlace} (ht:Tryz.prog.underlying t=some (.slice e)) (hc:Tryz.prog.cellsOf e=1)
  (hel:∀(n:Nat) (v:Value) (y:DataW H × List MemPlace),DataW.trod enc Tryz.prog W 0 (fun _=>true) true n e [v]=some y→∃x,v=f x∧Q x) (h:DataW.trod enc Tryz.prog W 0 (fun _=>true) true fuel t cs=some y):
  ∃v l,cs=[v]∧SlR (Rep.flat 1 (fun x=>[f x]) (fun _=>rfl) h1) W (fun _=>True) v l∧∀x∈l,Q x:=by
 rcases open_slice1 ht hc h with ⟨rfl,_⟩ | ⟨a,len,cap,m,n,V,D,Pl,rfl,_,hl,hm,hmm,_,hi⟩
 ·exact ⟨_,[],rfl,SlR.nil _ _ _,by simp⟩
 ·have key:∀i,i < len→∃x:α,W.cell? (a.add i)=some (f x)∧Q x:=fun i hil=>by
   obtain ⟨hcell,ht'⟩:=hi i (by rw [hmm,if_pos rfl];omega)
   obtain ⟨x,hv,hq⟩:=hel _ _ _ ht'
   exact ⟨x,by rw [hcell,hv],hq⟩
  by_cases h0:0 < len
  ·obtain ⟨x0,_⟩:=key 0 h0
   have key2:∀i,∃x:α,i < len→W.cell? (a.add i)=some (f x)∧Q x:=fun i=>by
    by_cases hil:i < len
    ·obtain ⟨x,hx⟩:=key i hil
     exact ⟨x,fun _=>hx⟩
    ·exact ⟨x0,fun h=>absurd h hil⟩
   have hg:=fun i=>(key2 i).choose_spec
   generalize hF:(fun i=>(key2 i).choose)=F at hg
   have hF':∀i,(key2 i).choose=F i:=fun i=>congrFun hF i
   simp only [hF'] at hg
   have hat:∀i x,((List.range len).map F)[i]?=some x→i < len∧F i=x:=fun i x hx=>by
    rw [List.getElem?_map,Option.map_eq_some_iff] at hx
    obtain ⟨j,hj,rfl⟩:=hx
    obtain ⟨h1,h2⟩:=List.getElem?_eq_some_iff.1 hj
    simp at h1 h2
    subst h2
    exact ⟨h1,rfl⟩
   refine ⟨_,(List.range len).map F,rfl,⟨some a,cap,by simp,by simpa using hl,hm,fun i x hx=>?_⟩,fun x hx=>?_⟩
   ·obtain ⟨hil,rfl⟩:=hat i x hx
    have hcell:=(hg i hil).1
    obtain ⟨b,o,spot⟩:=a
    have hspot:spot=none:=by
     have:=(hg 0 h0).1
     simpa [Addr.add] using World.cell?_spot this
    subst hspot
    rw [add_at] at hcell
    refine ⟨b,o,[f (F i)],rfl,trivial,World.block_lt_of_cell? W _ hcell,fun j u hu=>?_,rfl⟩
    match j,hu with
    | 0,hu=>simp at hu;subst hu;simpa [Rep.flat] using hcell
   ·obtain ⟨i,hi',rfl⟩:=List.mem_map.1 hx
    exact (hg i (by simpa using hi')).2
  ·obtain rfl:len=0:=by omega
   exact ⟨_,[],rfl,⟨some a,cap,rfl,Nat.zero_le _,hm,fun i x h=>by simp at h⟩,by simp⟩
theorem cells_slice {a:Option Addr} {n c:Nat}:(Value.slice a n c).cells.toList=[.slice a n c]:=rfl
theorem c_byte:Tryz.prog.cellsOf 5=1:=by kernel_rfl
theorem open_ints_arg {b0:Nat} {v:Value} {d:DataW H} {p:List MemPlace} (hv:Value.okWide Tryz.prog W .any b0 56 v) (h:DataW.Trod enc Tryz.prog W 0 (fun _=>true) true 56 v d p):
  ∃l,SlR intR W (fun _=>True) v l∧∀n∈l,fits64 n:=by
 obtain ⟨a,n,c,rfl⟩:=okWide_slice Tryz.underlying56 hv
 obtain ⟨fuel,hf⟩:=h
 obtain ⟨v,l,e,hs,hq⟩:=open_ones (α:=Int) (f:=fun n=>.int .i64 n) (h1:=fun x u hu=>by simp at hu;subst hu;rfl) (Q:=fits64) Tryz.underlying56 c_int (fun n v y ht=>by
  obtain ⟨k,q,_,wf⟩:=DataW.trod_int Tryz.underlying3 ht
  obtain rfl:=List.cons.inj q |>.1
  exact ⟨k,rfl,bounds_i64 wf⟩) hf
 rw [cells_slice] at e
 obtain rfl:=List.cons.inj e |>.1
 exact ⟨l,hs,hq⟩
theorem open_strs_arg {b0:Nat} {v:Value} {d:DataW H} {p:List MemPlace} (hv:Value.okWide Tryz.prog W .any b0 42 v) (h:DataW.Trod enc Tryz.prog W 0 (fun _=>true) true 42 v d p):
  ∃l,SlR strR W (fun _=>True) v l∧∀s∈l,s.size≤maxLen:=by
 obtain ⟨a,n,c,rfl⟩:=okWide_slice Tryz.underlying42 hv
 obtain ⟨fuel,hf⟩:=h
 obtain ⟨v,l,e,hs,hq⟩:=open_ones (α:=ByteArray) (f:=fun n=>.string n) (h1:=fun x u hu=>by simp at hu;subst hu;rfl) (Q:=fun s=>s.size≤maxLen) Tryz.underlying42 c_string (fun n v y ht=>by
  obtain ⟨k,q,_,wf⟩:=DataW.trod_string Tryz.underlying9 ht
  obtain rfl:=List.cons.inj q |>.1
  exact ⟨k,rfl,wf⟩) hf
 rw [cells_slice] at e
 obtain rfl:=List.cons.inj e |>.1
 exact ⟨l,hs,hq⟩
theorem open_opds_arg {b0:Nat} {v:Value} {d:DataW H} {p:List MemPlace} (hv:Value.okWide Tryz.prog W .any b0 25 v) (h:DataW.Trod enc Tryz.prog W 0 (fun _=>true) true 25 v d p):
  ∃l,SlR opdR W (fun _=>True) v l∧∀x∈l,fits64 x.n:=by
 obtain ⟨a,n,c,rfl⟩:=okWide_slice Tryz.underlying25 hv
 obtain ⟨fuel,hf⟩:=h
 rw [cells_slice] at hf
 exact open_opds hf
end Go.Proofs.YtnbmbcjnncbaiaaGreatDoor
namespace Go.Proofs.YtnbmbcjnncbaiaaGreatDoor
set_option maxRecDepth 100000
open Go.RowKit Go.ChangeShapes Go.WideShapes Go.ChangeAt Go.Deep Go.Joins
variable {H:Type} {enc:TypeId × Value→H} {W:World}
theorem bounds_i8 {n:Int} (h:(Lit.int .i8 n).wf=true):-128≤n∧n≤127:=by
 unfold Lit.wf at h
 simp only [Bool.and_eq_true,decide_eq_true_eq] at h
 exact h
theorem c_byteD:Tryz.prog.cellsOf 5=1:=by kernel_rfl
theorem open_bytes_arg {b0:Nat} {v:Value} {d:DataW H} {p:List MemPlace} (hv:Value.okWide Tryz.prog W .any b0 22 v) (h:DataW.Trod enc Tryz.prog W 0 (fun _=>true) true 22 v d p):
  ∃l,SlR byteR W (fun _=>True) v l∧True:=by
 obtain ⟨a,n,c,rfl⟩:=okWide_slice Tryz.underlying22 hv
 obtain ⟨fuel,hf⟩:=h
 obtain ⟨v,l,e,hs,_⟩:=open_ones (α:=UInt8) (f:=fun n=>.int .u8 n.toNat) (h1:=fun x u hu=>by simp at hu;subst hu;rfl) (Q:=fun _=>True) Tryz.underlying22 c_byteD (fun n v y ht=>by
  obtain ⟨k,q,_,wf⟩:=DataW.trod_int Tryz.underlying5 ht
  obtain rfl:=List.cons.inj q |>.1
  have hb:=bounds_u8 wf
  refine ⟨UInt8.ofNat k.toNat,?_,trivial⟩
  have e:((UInt8.ofNat k.toNat).toNat:Int)=k:=by
   rw [UInt8.toNat_ofNat']
   omega
  rw [e]) hf
 rw [cells_slice] at e
 obtain rfl:=List.cons.inj e |>.1
 exact ⟨l,hs,trivial⟩
end Go.Proofs.YtnbmbcjnncbaiaaGreatDoor
namespace Go.Proofs.YtnbmbcjnncbaiaaGreatDoor
set_option maxRecDepth 100000
open Go.RowKit Go.ChangeShapes Go.WideShapes Go.ChangeAt Go.Deep Go.Joins
variable {H:Type} {enc:TypeId × Value→H} {W:World}
theorem open_arr2 {k e:TypeId} {q:IntKind} {b0:Nat} {v:Value} {d:DataW H} {p:List MemPlace} (hu:Tryz.prog.underlying k=some (.array 2 e)) (he:Tryz.prog.underlying e=some (.int q)) (hs:Tryz.prog.cellsOf k=2) (h1:Tryz.prog.cellsOf e=1)
  (hv:Value.okWide Tryz.prog W .any b0 k v) (h:DataW.Trod enc Tryz.prog W 0 (fun _=>true) true k v d p):
  ∃a b:Int,v=.agg #[.int q a,.int q b]∧(Lit.int q a).wf=true∧(Lit.int q b).wf=true:=by
 simp only [Value.okWide,hu] at hv
 obtain ⟨cs,rfl,hn,_⟩:=hv
 rw [hs] at hn
 obtain ⟨l⟩:=cs
 obtain ⟨x0,x1,rfl⟩:∃x0 x1,l=[x0,x1]:=by
  match l,hn with
  | [a,b],_=>exact ⟨a,b,rfl⟩
 obtain ⟨fuel,hf⟩:=h
 cases fuel with
 | zero=>simp [DataW.trod] at hf
 | succ m=>
  rw [DataW.trod_step] at hf
  unfold DataW.trodStep at hf
  simp only [hu,Value.cells] at hf
  rw [if_pos (by rw [hs];rfl),h1] at hf
  simp only [Option.map_eq_some_iff] at hf
  obtain ⟨ys,hy,_⟩:=hf
  rw [show List.range 2=[0,1] from rfl] at hy
  simp only [List.mapM_cons,List.mapM_nil,bind,Option.bind_eq_some_iff,pure,Option.some.injEq] at hy
  obtain ⟨y0,h0,ys',⟨y1,h2,_⟩,_⟩:=hy
  obtain ⟨a,ea,_,wa⟩:=DataW.trod_int he h0
  obtain ⟨b,eb,_,wb⟩:=DataW.trod_int he h2
  simp at ea eb
  subst ea eb
  exact ⟨a,b,rfl,wa,wb⟩
end Go.Proofs.YtnbmbcjnncbaiaaGreatDoor
