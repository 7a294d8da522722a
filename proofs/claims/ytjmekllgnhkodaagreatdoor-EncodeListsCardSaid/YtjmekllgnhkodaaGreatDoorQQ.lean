/-
  The reference's Find. Conditions: the library's table as its initialiser lays it.
-/
import Derived.Test.YtjmekllgnhkodaaGreatDoorPO
import Derived.Test.YtjmekllgnhkodaaGreatDoorPP
import Derived.Test.YtjmekllgnhkodaaGreatDoorPM
import Derived.Test.YtjmekllgnhkodaaGreatDoorPK
import Derived.Lib.QuietBelow
import Derived.Test.YtjmekllgnhkodaaGreatDoorPB
namespace Go.Proofs.YtjmekllgnhkodaaGreatDoor
set_option maxHeartbeats 8000000
set_option maxRecDepth 100000
open Go.RowKit Go.Shelf Go.Sort
theorem fits_val {x:EntV} (hx:EntOk x) {t:ByteArray} {c:List Opd} (h:fitsC ⟨x.iop.toArray⟩ t x.ex x.args c=true):fitsS ⟨x.iop.toArray⟩ t x.ex x.args c=(dAt c (Dof x.ex x.args),dAt c (Jof x.ex x.args),true):=by
 rw [fits_eq hx.var hx.up hx.ne]
 unfold valF
 rw [if_pos h,valS_var hx.var (fitsC_len h),h]
theorem fits_ok {x:EntV} (hx:EntOk x) {t:ByteArray} {c:List Opd}:(fitsS ⟨x.iop.toArray⟩ t x.ex x.args c).2.2=fitsC ⟨x.iop.toArray⟩ t x.ex x.args c:=by rw [fits_eq hx.var hx.up hx.ne]
theorem back_plain {x:Ins} {e:EntV} {k:Int} (h:findR x=(some e,k)):EntOk e∧k=0∧x.op=⟨e.iop.toArray⟩∧canonArgs x.op (canonOf x).args=(canonOf x).args∧findR (canonOf x)=(some e,0)∧∃d n,fitsS ⟨e.iop.toArray⟩ x.op e.ex e.args (canonOf x).args=(d,n,true)∧fillS e.ex e.args d n=some (canonOf x).args:=by
 obtain ⟨_,h2,rfl,h4⟩:=findR_mem h
 have hx:=findR_ok h
 unfold hitE at h2
 obtain ⟨_,h3⟩:=Bool.and_eq_true_iff.1 h2
 rw [fits_ok hx] at h3
 have hv:=fits_val hx h3
 obtain ⟨ht,hS⟩:=(fits_fill hx).1 h3
 have hc:canonArgs x.op (canonOf x).args=(canonOf x).args:=by rw [ht];exact hS.canon hx
 have hcc:canonOf (canonOf x)=canonOf x:=by
  show (⟨x.op,canonArgs x.op (canonOf x).args⟩:Ins)=_
  rw [hc];rfl
 refine ⟨hx,rfl,ht,hc,?_,_,_,hv,?_⟩
 ·have hk:check07 (canonOf x)=0:=by
   have:=hS.check hx
   rw [←ht] at this
   exact this
  unfold findR at h ⊢
  rw [if_pos h4] at h
  rw [if_pos hk,hcc]
  exact h
 ·rw [fill_eq hx.var]
  exact (fill_some hx).2 hS
theorem pgsF_kr:∀{l c:List Opd},l.map kr=c.map kr→pgsF l=pgsF c
 | [],[],_=>rfl
 | [],_::_,h=>by cases h
 | _::_,[],h=>by cases h
 | a::l,b::c,h=>by
  rw [List.map_cons,List.map_cons] at h
  injection h with h1 h2
  unfold kr at h1
  injection h1 with h3 h4
  unfold pgsF z0
  rw [h3,h4,pgsF_kr h2]
theorem ixO_kr:∀{l c:List Opd},l.map kr=c.map kr→l.any ixO=c.any ixO
 | [],[],_=>rfl
 | [],_::_,h=>by cases h
 | _::_,[],h=>by cases h
 | a::l,b::c,h=>by
  rw [List.map_cons,List.map_cons] at h
  injection h with h1 h2
  unfold kr at h1
  injection h1 with h3 h4
  rw [List.any_cons,List.any_cons,ixO_kr h2]
  unfold ixO
  rw [h3,h4]
def pg9 (l:List Opd):List Int:=if l.any ixO=true then [3,4,5,6] else [0,1,2]
def chkP (p:Int) (x:Nat):Bool:=match atF p x with
 | (some e,k)=>(k==1)&&(decide (e.ex.length≤10)&&((pg9 e.args).contains p&&(pgsF e.args).contains p))
 | (none,k)=>!(k==1)
theorem chp:∀p:Fin 7,∀x:Fin 256,chkP p.val x.val=true:=by decide+kernel
theorem chp_at {p:Nat} {x:Nat} (hp:p < 7) (hx:x < 256):chkP p x=true:=chp ⟨p,hp⟩ ⟨x,hx⟩
theorem exs_at {p:Nat} {x:Nat} (hp:p < 7) (hx:x < 256) {e:EntV} (he:(atF p x).1=some e):(⟨e.ex.toArray⟩:ByteArray).size≤10:=by
 have h:=chp_at hp hx
 unfold chkP at h
 generalize atF (p:Int) x=r at *
 obtain ⟨o,k⟩:=r
 dsimp only at he
 subst he
 obtain ⟨_,h⟩:=Bool.and_eq_true_iff.1 h
 have:=of_decide_eq_true (Bool.and_eq_true_iff.1 h).1
 show e.ex.toArray.size≤_
 rw [List.size_toArray];exact this
theorem find_near {f g:EntV→Bool} (h:∀e,f e=true→g e=true) (L:List EntV):(L.filter g).find? f=L.find? f:=by
 induction L with
 | nil=>rfl
 | cons a L ih=>
  cases hg:g a
  ·rw [List.filter_cons_of_neg (by rw [hg];decide),ih,List.find?_cons]
   cases hf:f a
   ·rfl
   ·have:=h a hf;rw [hg] at this;cases this
  ·rw [List.filter_cons_of_pos hg,List.find?_cons,List.find?_cons,ih]
theorem any_near {g:EntV→Bool} (L:List EntV):(L.filter g).any g=L.any g:=by
 rw [List.any_filter];congr 1;funext e;cases g e<;>rfl
def all9 (l:List Opd):List EntV:=(pg9 l).flatMap entsF
theorem mem_ents {p:Int} {e:EntV} (h:e∈entsF p):∃k,k < 256∧(atF p k).1=some e:=by
 unfold entsF entsK at h
 obtain ⟨k,hk,h2⟩:=List.mem_filterMap.1 h
 exact ⟨k,List.mem_range.1 hk,h2⟩
theorem near_parts {t:ByteArray} {c:List Opd} {e:EntV} (h:nearE t c e=true):e.iop=t.data.toList∧e.args.map kr=c.map kr:=by
 unfold nearE at h
 obtain ⟨h1,h2⟩:=shF_parts (Bool.and_eq_true_iff.1 h).2
 exact ⟨by rw [←h1],h2⟩
theorem near_pages {t:ByteArray} {c:List Opd} {p:Nat} (hp:p < 7) {e:EntV} (he:e∈entsF p) (h:nearE t c e=true):(pg9 c).contains (p:Int)=true∧(pgsF c).contains (p:Int)=true:=by
 obtain ⟨k,hk,h2⟩:=mem_ents he
 have hc:=chp_at hp hk
 obtain ⟨_,hkr⟩:=near_parts h
 unfold chkP at hc
 generalize atF (p:Int) k=r at *
 obtain ⟨o,m⟩:=r
 dsimp only at h2
 subst h2
 obtain ⟨_,hc⟩:=Bool.and_eq_true_iff.1 hc
 obtain ⟨_,hc⟩:=Bool.and_eq_true_iff.1 hc
 have e1:pg9 e.args=pg9 c:=by unfold pg9;rw [ixO_kr hkr]
 rw [e1,pgsF_kr hkr] at hc
 exact Bool.and_eq_true_iff.1 hc
theorem near_of {t:ByteArray} {c:List Opd} (P:List Int) (Q:List Nat) (hQ:∀q∈Q,q < 7) (hP:P=(Q.map fun (q:Nat)=>(q:Int)).filter fun p=>P.contains p) (hin:∀q∈Q,∀e∈entsF (q:Int),nearE t c e=true→P.contains (q:Int)=true):
  (P.flatMap entsF).filter (nearE t c)=((Q.map fun (q:Nat)=>(q:Int)).flatMap entsF).filter (nearE t c):=by
 rw [hP]
 clear hP
 induction Q with
 | nil=>rfl
 | cons q Q ih=>
  have ih:=ih (fun a h=>hQ a (List.mem_cons_of_mem _ h)) (fun a h=>hin a (List.mem_cons_of_mem _ h))
  rw [List.map_cons,List.flatMap_cons,List.filter_append,←ih]
  cases hq:P.contains (q:Int)
  ·rw [List.filter_cons_of_neg (by rw [hq];decide)]
   have:(entsF (q:Int)).filter (nearE t c)=[]:=by
    rw [List.filter_eq_nil_iff]
    intro e he hn
    have:=hin q (List.mem_cons_self) e he hn
    rw [hq] at this;cases this
   rw [this,List.nil_append]
  ·rw [List.filter_cons_of_pos hq,List.flatMap_cons,List.filter_append]
theorem pgsF_cases (c:List Opd):pgsF c=[0,1,2]∨pgsF c=[3,5]∨pgsF c=[4,6]:=by
 induction c with
 | nil=>exact .inl rfl
 | cons o r ih=>
  unfold pgsF
  split
  ·exact .inr (.inl rfl)
  ·split
   ·exact .inr (.inr rfl)
   ·exact ih
theorem cand_near {t:ByteArray} {c:List Opd}:(candF t.data.toList c).filter (nearE t c)=(all9 c).filter (nearE t c):=by
 have h1:(candF t.data.toList c).filter (nearE t c)=((pgsF c).flatMap entsF).filter (nearE t c):=by
  unfold candF
  have e:pagesF (pgsF c)=pgsF c:=by
   unfold pagesF;rw [if_neg]
   rcases pgsF_cases c with h | h | h<;>rw [h]<;>decide
  rw [e]
  induction pgsF c with
  | nil=>rfl
  | cons p P ih=>
   rw [List.flatMap_cons,List.flatMap_cons,List.filter_append,List.filter_append,ih,namF_eq,List.filter_filter]
   congr 1
   refine List.filter_congr fun e _=>?_
   cases h:nearE t c e
   ·rfl
   ·rw [Bool.true_and,(near_parts h).1];exact beq_self_eq_true _
 have hq:∀q∈List.range 7,q < 7:=fun q h=>List.mem_range.1 h
 rw [h1,near_of (pgsF c) (List.range 7) hq (by rcases pgsF_cases c with h | h | h<;>rw [h]<;>decide) (fun q h e he hn=>(near_pages (hq q h) he hn).2)]
 unfold all9
 exact (near_of (pg9 c) (List.range 7) hq (by unfold pg9;split<;>decide) (fun q h e he hn=>(near_pages (hq q h) he hn).1)).symm
def find9 (x:Ins):Option EntV × Int:=
 if check07 x=0 then (match (all9 (canonOf x).args).find? (hitE x.op (canonOf x).args) with
  | some e=>(some e,0)
  | none=>(none,codeE x.op (canonOf x).args (all9 (canonOf x).args))) else (none,check07 x)
theorem find9_eq (x:Ins):find9 x=findR x:=by
 have hn:∀e,hitE x.op (canonOf x).args e=true→nearE x.op (canonOf x).args e=true:=fun e h=>(Bool.and_eq_true_iff.1 h).1
 unfold find9 findR codeE
 rw [←find_near hn (all9 _),←cand_near,find_near hn,←any_near (all9 _),←cand_near,any_near]
 rfl
theorem findR_none {x:Ins} {k:Int} (h:findR x=(none,k)):k≠0:=by
 unfold findR codeE at h
 split at h
 ·split at h
  ·cases h
  ·injection h with _ h
   subst h
   split<;>decide
 ·rename_i hc
  injection h with _ h
  subst h
  exact hc
end Go.Proofs.YtjmekllgnhkodaaGreatDoor
namespace Go.Proofs.YtjmekllgnhkodaaGreatDoor
set_option maxHeartbeats 8000000
set_option maxRecDepth 100000
open Go.RowKit Go.Shelf Go.Sort
theorem canon_len10 (x:Ins):(canonOf x).args.length≤x.args.length+1:=by
 obtain ⟨s,l⟩:=x
 show (canonArgs s l).length≤l.length+1
 unfold canonArgs
 have h1:∀l:List Opd,(exch s l).length=l.length:=by
  intro l;unfold exch;split
  ·rename_i h;rw [of_decide_eq_true (Bool.and_eq_true_iff.1 h).2];rfl
  ·rfl
 dsimp only
 rw [List.length_map,h1]
 unfold accum
 split
 ·split<;>simp
 ·split<;>simp
 ·exact Nat.le_succ _
theorem short10 {x:Ins} (h:short8 x=true):x.op.size≤100∧x.args.length≤20:=by
 obtain ⟨h1,h2⟩:=Bool.and_eq_true_iff.1 h
 exact ⟨of_decide_eq_true h1,of_decide_eq_true h2⟩
theorem Blk.six {w:World} {b:Nat} {t:TypeId} {x0 x1 x2 x3 x4 x5:Value} (h:Blk w b t #[x0,x1,x2,x3,x4,x5]):
  w.cell? ⟨b,0,none⟩=some x0∧w.cell? ⟨b,1,none⟩=some x1∧w.cell? ⟨b,2,none⟩=some x2∧w.cell? ⟨b,3,none⟩=some x3∧w.cell? ⟨b,4,none⟩=some x4∧w.cell? ⟨b,5,none⟩=some x5:=⟨h.cell 0,h.cell 1,h.cell 2,h.cell 3,h.cell 4,h.cell 5⟩
end Go.Proofs.YtjmekllgnhkodaaGreatDoor
namespace Go.Proofs.YtjmekllgnhkodaaGreatDoor
set_option maxHeartbeats 8000000
set_option maxRecDepth 100000
open Go.RowKit Go.Shelf Go.Sort
theorem Blk.pair {w:World} {b:Nat} {t:TypeId} {x0 x1:Value} (h:Blk w b t #[x0,x1]):w.cell? ⟨b,0,none⟩=some x0∧w.cell? ⟨b,1,none⟩=some x1:=⟨h.cell 0,h.cell 1⟩
end Go.Proofs.YtjmekllgnhkodaaGreatDoor
namespace Go.Proofs.YtjmekllgnhkodaaGreatDoor
set_option maxHeartbeats 8000000
set_option maxRecDepth 100000
open Go.RowKit Go.Shelf Go.Sort
theorem Blk.free6 {w:World} {b:Nat} {t:TypeId} {x0 x1 x2 x3 x4 x5:Value} (h:Blk w b t #[x0,x1,x2,x3,x4,x5]):
  w.frozen? ⟨b,0,none⟩=false∧w.frozen? ⟨b,1,none⟩=false∧w.frozen? ⟨b,2,none⟩=false∧w.frozen? ⟨b,3,none⟩=false∧w.frozen? ⟨b,4,none⟩=false∧w.frozen? ⟨b,5,none⟩=false:=⟨h.free 0,h.free 1,h.free 2,h.free 3,h.free 4,h.free 5⟩
theorem Fr.set6 {w0 W:World} {L:List (Nat × TypeId × Array Value)} {b:Nat} {t:TypeId} {x0 x1 x2 x3 x4 x5:Value} (h:Fr w0 ((b,t,#[x0,x1,x2,x3,x4,x5])::L) W) (hb:w0.heap.size≤b) (hn:∀x∈L,x.1≠b) (a0 a1 a2 a3 a4 a5:Value):
  Fr w0 ((b,t,#[a0,a1,a2,a3,a4,a5])::L) ((((((W.setCell ⟨b,0,none⟩ a0).setCell ⟨b,1,none⟩ a1).setCell ⟨b,2,none⟩ a2).setCell ⟨b,3,none⟩ a3).setCell ⟨b,4,none⟩ a4).setCell ⟨b,5,none⟩ a5):=
 (((((h.set hb hn 0 a0).set hb hn 1 a1).set hb hn 2 a2).set hb hn 3 a3).set hb hn 4 a4).set hb hn 5 a5
def pre9 (c:List Opd) (j k:Nat):List EntV:=((pg9 c).take j).flatMap entsF++entsK (firstF c+j) k
theorem pg9_len (c:List Opd):lastF c=firstF c+(pg9 c).length - 1∧(pg9 c).length≤4∧0≤firstF c∧firstF c≤3:=by
 unfold lastF firstF pg9
 cases c.any ixO<;>decide
theorem pg9_at (c:List Opd) (j:Nat) (h:j < (pg9 c).length):(pg9 c)[j]=firstF c+j:=by
 revert h
 unfold firstF pg9
 cases c.any ixO
 ·intro h
  have:j=0∨j=1∨j=2:=by have:j < 3:=h;omega
  rcases this with rfl | rfl | rfl<;>rfl
 ·intro h
  have:j=0∨j=1∨j=2∨j=3:=by have:j < 4:=h;omega
  rcases this with rfl | rfl | rfl | rfl<;>rfl
theorem flat_take9 (L:List Int) (k:Nat) (h:k < L.length):(L.take (k+1)).flatMap entsF=(L.take k).flatMap entsF++entsF L[k]:=by
 rw [List.take_succ_eq_append_getElem h,List.flatMap_append];simp
theorem pre9_next (c:List Opd) (j:Nat) (h:j < (pg9 c).length):pre9 c j 256=pre9 c (j+1) 0:=by
 unfold pre9
 rw [flat_take9 _ _ h,pg9_at c j h]
 show _=_++[]
 rw [List.append_nil];rfl
theorem pre9_end (c:List Opd):pre9 c (pg9 c).length 0=all9 c:=by
 unfold pre9 all9
 rw [List.take_length]
 exact List.append_nil _
theorem pre9_no {c:List Opd} {j k:Nat} (h:(atF (firstF c+j) k).1=none):pre9 c j (k+1)=pre9 c j k:=by unfold pre9;rw [entsK_no h]
theorem pre9_yes {c:List Opd} {j k:Nat} {x:EntV} (h:(atF (firstF c+j) k).1=some x):pre9 c j (k+1)=pre9 c j k++[x]:=by unfold pre9;rw [entsK_yes h,List.append_assoc]
theorem entsK_pre (p:Int) {m k:Nat} (h:k≤m):entsK p k <+: entsK p m:=by
 induction m with
 | zero=>
  have:k=0:=by omega
  subst this;exact List.prefix_rfl
 | succ m ih=>
  by_cases e:k=m+1
  ·subst e;exact List.prefix_rfl
  ·refine List.IsPrefix.trans (ih (by omega)) ?_
   unfold entsK
   rw [List.range_succ,List.filterMap_append]
   exact List.prefix_append _ _
theorem pre9_pre (c:List Opd) {j k:Nat} (hj:j < (pg9 c).length) (hk:k≤256):pre9 c j k <+: all9 c:=by
 unfold pre9 all9
 refine List.IsPrefix.trans (l₂:=((pg9 c).take (j+1)).flatMap entsF) ?_ ?_
 ·rw [flat_take9 _ _ hj,pg9_at c j hj]
  exact List.prefix_append_right_inj _ |>.2 (entsK_pre _ hk)
 ·have:=List.take_append_drop (j+1) (pg9 c)
  refine ⟨((pg9 c).drop (j+1)).flatMap entsF,?_⟩
  rw [←List.flatMap_append,this]
theorem ent9_at {c:List Opd} {j k:Nat} {x:EntV} (hj:j < (pg9 c).length) (hk:k < 256) (h:(atF (firstF c+j) k).1=some x):EntOk x∧(⟨x.ex.toArray⟩:ByteArray).size≤10:=by
 obtain ⟨p,hp,e⟩:∃p:Nat,p < 7∧firstF c+(j:Int)=p:=⟨(firstF c+j).toNat,by have:=pg9_len c;omega,by have:=pg9_len c;omega⟩
 rw [e] at h
 exact ⟨ent_at hk h,exs_at hp hk h⟩
theorem OpdOwn.far6 {w:World} {q:Blocks} {v:Value} {l:List Opd} (h:OpdOwn w q v l) {b:Nat} (hq:∀k,q k→k≠b) (a0 a1 a2 a3 a4 a5:Value):
  OpdOwn ((((((w.setCell ⟨b,0,none⟩ a0).setCell ⟨b,1,none⟩ a1).setCell ⟨b,2,none⟩ a2).setCell ⟨b,3,none⟩ a3).setCell ⟨b,4,none⟩ a4).setCell ⟨b,5,none⟩ a5) q v l:=
 (((((h.far hq a0).far hq a1).far hq a2).far hq a3).far hq a4).far hq a5
def Trd (t:ByteArray) (c:List Opd) (L:List EntV) (u:Value):Prop:=(∀z∈L,hitE t c z=false)∧u=.int .i64 (codeE t c L)
theorem Trd.none {t:ByteArray} {c:List Opd} {j k:Nat} {u:Value} (h:Trd t c (pre9 c j k) u) (hx:(atF (firstF c+j) k).1=none):Trd t c (pre9 c j (k+1)) u:=by rw [pre9_no hx];exact h
theorem Trd.far {t:ByteArray} {c:List Opd} {j k:Nat} {u:Value} {x:EntV} (h:Trd t c (pre9 c j k) u) (hx:(atF (firstF c+j) k).1=some x) (hn:nearE t c x=false):Trd t c (pre9 c j (k+1)) u:=by
 have hh:hitE t c x=false:=by unfold hitE;rw [hn];rfl
 rw [pre9_yes hx]
 exact ⟨no_snoc h.1 hh,by rw [codeE_snoc,hn];exact h.2⟩
theorem Trd.near {t:ByteArray} {c:List Opd} {j k:Nat} {u:Value} {x:EntV} (h:Trd t c (pre9 c j k) u) (hx:(atF (firstF c+j) k).1=some x) (hn:nearE t c x=true) (hh:hitE t c x=false):Trd t c (pre9 c j (k+1)) (.int .i64 2):=by
 rw [pre9_yes hx]
 exact ⟨no_snoc h.1 hh,by rw [codeE_snoc,hn];rfl⟩
theorem Find9_any (p:Blocks) (x:Ins) (v:Value) (w:World) (h:SlR opdR w p v x.args) (hn:x.args.length≤1000000) (hf:∀y∈x.args,fits64 y.n):
  Calls Tryz.prog 126 #[.agg #[.string x.op,v]] w (FindQ w (findR x)):=by
 have HCH:=Lib.hid (fun W (hb:RowKit.Below w.heap.size w W)=>check07_any p x v W (h.below hb))
 have HOf:=Lib.hid (fun W (hb:RowKit.Below w.heap.size w W)=>ref08Of_any p x v W (h.below hb) hn hf)
 have HFT:=Lib.hid (fun s ex al l p2 v2 W (hb:RowKit.Below w.heap.size w W) h2 hex pg op=>Fits10_any pg op s ex al l x p2 p v2 v W h2 (h.below hb) hn hf hex)
 have HNO:Hid (¬check07 x=0→findR x=(none,check07 x)):=Lib.hid (fun h=>by rw [←find9_eq];exact if_neg h)
 have HHIT:Hid (check07 x=0→∀pre e,pre++[e] <+: all9 (canonOf x).args→(∀z∈pre,hitE x.op (canonOf x).args z=false)→hitE x.op (canonOf x).args e=true→findR x=(some e,0)):=Lib.hid (fun h pre e h1 h2 h3=>by
  rw [←find9_eq];unfold find9;rw [if_pos h,find_stop h1 h2 h3])
 have HEND:Hid (check07 x=0→(∀z∈all9 (canonOf x).args,hitE x.op (canonOf x).args z=false)→findR x=(none,codeE x.op (canonOf x).args (all9 (canonOf x).args))):=Lib.hid (fun h h1=>by
  rw [←find9_eq];unfold find9;rw [if_pos h,List.find?_eq_none.2 (fun z hz=>by rw [h1 z hz];decide)])
 have HS:=Lib.hid h
 obtain ⟨va,vc,rfl⟩:∃a c,v=.slice a x.args.length c:=by obtain ⟨a,c,e,_⟩:=h;exact ⟨a,c,e⟩
 clear h hn hf
 obtain ⟨t,m⟩:=x
 dsimp only at *
 generalize (canonOf ⟨t,m⟩).args=cn at *
 generalize check07 ⟨t,m⟩=ck at *
 generalize findR ⟨t,m⟩=R at *
 have HF:=Lib.hid (((Fr.start w).new 27 #[.string t,.slice va m.length vc]).new' 53 #[.int .i64 0,.int .u8 0,.string ⟨#[]⟩,.slice none 0 0,.string ⟨#[]⟩,.bool false] (World.size_alloc _ _))
 obtain ⟨W0,hW0⟩:∃W0:World,W0=((w.alloc (.cells #[.string t,.slice va m.length vc] 27)).alloc (.cells #[.int .i64 0,.int .u8 0,.string ⟨#[]⟩,.slice none 0 0,.string ⟨#[]⟩,.bool false] 53)):=⟨_,rfl⟩
 rw [←hW0] at HF
 go_enter Tryz.func126,Tryz.ntmps126
 go_upto_region 1 with fail
 rw [←hW0]
 clear hW0
 have a0:=(HF.out.blk 1 rfl).cell 0
 have a1:=(HF.out.blk 1 rfl).cell 1
 have HC1:=Lib.hid (HCH.out _ HF.out.below)
 by_cases hck:ck=0
 rotate_left
 ·have HR:=Lib.hid (HNO.out hck)
  have bck2:(ck != 0)=true:=by rw [bne_iff_ne];exact hck
  clear HNO HHIT HEND
  go_upto_region 3 with (go_at_call 168;refine HC1.out.mono ?_;rintro e w1 ⟨rfl,hb1⟩;have HF1:=Lib.hid (HF.out.next hb1);obtain ⟨r0,r1,r2,r3,r4,r5⟩:=(HF1.out.blk 0 rfl).six;obtain ⟨s0,s1,s2,s3,s4,s5⟩:=(HF1.out.blk 0 rfl).free6;clear a0 a1 hb1)
  have HE:=Lib.hid ((HF1.out.set6 (Nat.le_succ _) (fun x hx=>by simp only [List.mem_singleton] at hx;subst hx;exact Nat.ne_of_lt (Nat.lt_succ_self _)) (.int .i64 0) (.int .u8 0) (.string ⟨#[]⟩) (.slice none 0 0) (.string ⟨#[]⟩) (.bool false)))
  go_wp2
  exact bodyPost_ret (at9_end rfl rfl (HE.out.blk 0 rfl)) rfl (by rw [HR.out];exact ⟨rfl,HE.out.below⟩)
 ·have HHT:=Lib.hid (HHIT.out hck)
  have HEN:=Lib.hid (HEND.out hck)
  subst hck
  clear HNO HHIT HEND
  go_upto_region 4 with (go_at_call 168;refine HC1.out.mono ?_;rintro e w1 ⟨rfl,hb1⟩;have HF1:=Lib.hid (HF.out.next hb1);obtain ⟨a0,a1⟩:=(HF1.out.blk 1 rfl).pair;clear hb1)
  have HO1:=Lib.hid (HOf.out _ HF1.out.below)
  clear HCH HC1 HOf
  go_upto_region 6 with (go_at_call 30;refine HO1.out.mono ?_;rintro e w2 ⟨v2,rfl,ho2,hb2⟩;obtain ⟨va2,vc2,rfl⟩:=ho2.form;have HF2:=Lib.hid ((HF1.out.next hb2).new 27 #[.string t,.slice va2 cn.length vc2]);have HS2:=Lib.hid (ho2.slR.alloc (.cells #[.string t,.slice va2 cn.length vc2] 27));clear hb2 ho2)
  clear HO1 HF HF1 a0 a1
  generalize hg2:w2.heap.size=g2 at *
  obtain ⟨W2,hW2⟩:∃W:World,W=w2.alloc (.cells #[.string t,.slice va2 cn.length vc2] 27):=⟨_,rfl⟩
  rw [←hW2] at HF2 HS2 ⊢
  clear hW2 hg2
  have hgl:=(HF2.out.blk 0 rfl).lt
  have HFS:=Lib.hid (fun W (hb:RowKit.Below W2.heap.size W2 W)=>first_any t cn _ _ W (HS2.out.below hb))
  have HLS:=Lib.hid (fun W (hb:RowKit.Below W2.heap.size W2 W)=>last_any t cn _ _ W (HS2.out.below hb))
  have HPL:=Lib.hid (pg9_len cn)
  obtain ⟨d0,d1⟩:=(HF2.out.blk 0 rfl).pair
  go_upto_region 7 with (go_at_call 123;refine (HFS.out _ (Below.refl _ _)).mono ?_;rintro e w3 ⟨rfl,hb3⟩;have HB3:=Lib.hid hb3;clear hb3 d0 d1)
  go_loopw [6,7] (fun c i wr=>∃j:Nat,j≤(pg9 cn).length∧i=.int .i64 (firstF cn+j)∧Trd t cn (pre9 cn j 0) c∧Below W2.heap.size W2 wr) (fun _ i _=>(lastF cn+1 - intOf i).toNat)
  case atStart=>exact ⟨0,Nat.zero_le _,by rw [Int.ofNat_zero,Int.add_zero],⟨show ∀z∈([]:List EntV),hitE t cn z=false from (by simp),rfl⟩,HB3.out⟩
  case round=>
   obtain ⟨j,hj,rfl,htr,hb⟩:=hrel
   have HTR:=Lib.hid htr
   have HB:=Lib.hid hb
   have hcc:=htr.2
   subst hcc
   clear HB3 htr hb
   obtain ⟨d0,d1⟩:=((HF2.out.next HB.out).blk 0 rfl).pair
   by_cases hlt:j < (pg9 cn).length
   ·have hle:firstF cn+(j:Int)≤lastF cn:=by have:=HPL.out;omega
    have HLT:=Lib.hid hlt
    go_wp2_with (go_at_call 124;refine (HLS.out _ HB.out).mono ?_;rintro e w4 ⟨rfl,hb4⟩;have HB4:=Lib.hid (HB.out.trans (hb4.mono HB.out.size));clear hb4 d0 d1)
    go_loopw [6,8] (fun c i wr=>∃k:Nat,k≤256∧i=.int .i64 k∧Trd t cn (pre9 cn j k) c∧Below W2.heap.size W2 wr) (fun _ i _=>(256 - intOf i).toNat)
    case atStart=>exact ⟨0,Nat.zero_le _,rfl,HTR.out,HB4.out⟩
    case round=>
     obtain ⟨k,hk,rfl,htr,hb⟩:=hrel
     clear HTR HB4 HB
     have HTR:=Lib.hid htr
     have HB:=Lib.hid hb
     have hcc:=htr.2
     subst hcc
     clear htr hb
     by_cases hlk:k < 256
     ·have hcv:IntKind.u8.wrap (k:Int)=k:=IntWalk.u8_in _ (by omega)
      have HA:=Lib.hid (fun W=>AtRef_any (firstF cn+j) k hlk W)
      have HKD:=Lib.hid (atF_kind (firstF cn+j) k)
      have HY0:=Lib.hid (fun h=>HTR.out.none h)
      have HYF:=Lib.hid (fun x h hn=>HTR.out.far (x:=x) h hn)
      have HYN:=Lib.hid (fun x h hn hh=>HTR.out.near (x:=x) h hn hh)
      have HYH:=Lib.hid (fun x h hh=>HHT.out (pre9 cn j k) x (by rw [←pre9_yes h];exact pre9_pre cn HLT.out hlk) HTR.out.1 hh)
      have HEX:=Lib.hid (fun x h=>ent9_at (x:=x) HLT.out hlk h)
      generalize atF (firstF cn+j) k=r at *
      obtain ⟨x,kk⟩:=r
      dsimp only at *
      rcases x with _ | x
      ·have hk1:¬kk=1:=by rcases HKD.out.2 rfl with h | h | h<;>omega
       have HY:=Lib.hid (HY0.out rfl)
       clear HKD HY0 HYF HYN HTR HYH HEX
       go_wp2_with fail
       refine (HA.out _).mono ?_
       rintro e w5 ⟨he,hb5⟩
       subst he
       have HB5:=Lib.hid ((HB.out.trans (hb5.mono HB.out.size)).alloc (by have:=hb5.size;have:=HB.out.size;omega) (.cells #[.int .i64 0,.int .u8 0,.string ⟨#[]⟩,.slice none 0 0,.string ⟨#[]⟩,.bool false] 53))
       clear hb5
       unfold ent0
       go_wp2
       go_round
       case rel=>exact ⟨k+1,hlk,by go_num,HY.out,HB5.out⟩
       case measure=>simp [intOf];omega
      ·obtain rfl:kk=1:=HKD.out.1 _ rfl
       obtain ⟨hok,hx1⟩:=HEX.out x rfl
       have hfo:=fits_ok hok (t:=t) (c:=cn)
       obtain ⟨p1,o1,i1,l1,s1,f1⟩:=x
       dsimp only at hx1 hfo
       have HYX:Hid (f1=true∨shF ⟨i1.toArray⟩ t l1 cn=false→Trd t cn (pre9 cn j (k+1)) (.int .i64 (codeE t cn (pre9 cn j k)))):=Lib.hid (fun h=>HYF.out _ rfl (by
        unfold nearE
        rcases h with h | h<;>dsimp only<;>rw [h]
        ·rfl
        ·exact Bool.and_false _))
       have hne:f1=false→shF ⟨i1.toArray⟩ t l1 cn=true→nearE t cn ⟨p1,o1,i1,l1,s1,f1⟩=true:=fun h1 h2=>by unfold nearE;dsimp only;rw [h1,h2];rfl
       have HYW:Hid (f1=false→shF ⟨i1.toArray⟩ t l1 cn=true→fitsC ⟨i1.toArray⟩ t s1 l1 cn=false→Trd t cn (pre9 cn j (k+1)) (.int .i64 2)):=Lib.hid (fun h1 h2 h3=>HYN.out _ rfl (hne h1 h2) (by unfold hitE;rw [hne h1 h2,hfo,h3];rfl))
       have HYZ:Hid (f1=false→shF ⟨i1.toArray⟩ t l1 cn=true→fitsC ⟨i1.toArray⟩ t s1 l1 cn=true→R=(some ⟨p1,o1,i1,l1,s1,f1⟩,0)):=Lib.hid (fun h1 h2 h3=>HYH.out _ rfl (by unfold hitE;rw [hne h1 h2,hfo,h3];rfl))
       have hx1:(⟨s1.toArray⟩:ByteArray).size≤9223372036854775807:=Nat.le_trans hx1 (by decide)
       obtain ⟨S,hS⟩:∃S:ByteArray,S=⟨i1.toArray⟩:=⟨_,rfl⟩
       rw [←hS] at HYX HYW HYZ
       have HSS:=Lib.hid hS
       clear HKD HY0 HYF HYN HTR HYH HEX hok hne hfo hS
       go_wp2_with fail
       refine (HA.out _).mono ?_
       rintro e w5 ⟨⟨v5,rfl,ho5⟩,hb5⟩
       obtain ⟨va,vc,rfl⟩:=ho5.form
       unfold entVal
       dsimp only at *
       rw [←HSS.out]
       have hsz:=HB.out.size
       have H5:=Lib.hid (((Fr.start W2).next (HB.out.trans (hb5.mono HB.out.size))).new 53 #[.int .i64 p1,.int .u8 o1,.string S,.slice va l1.length vc,.string ⟨s1.toArray⟩,.bool f1])
       have HS5:=Lib.hid (ho5.below ((Below.refl _ _).alloc (Nat.le_refl _) (.cells #[.int .i64 p1,.int .u8 o1,.string S,.slice va l1.length vc,.string ⟨s1.toArray⟩,.bool f1] 53)))
       clear hb5 ho5
       go_upto_region 13 with fail
       generalize hg5:w5.heap.size=g5 at *
       obtain ⟨W5,hW5⟩:∃W:World,W=w5.alloc (.cells #[.int .i64 p1,.int .u8 o1,.string S,.slice va l1.length vc,.string ⟨s1.toArray⟩,.bool f1] 53):=⟨_,rfl⟩
       rw [←hW5] at H5 HS5 ⊢
       clear hW5 hg5
       obtain ⟨c0,c1,c2,c3,c4,c5⟩:=(H5.out.blk 0 rfl).six
       obtain ⟨d0,d1⟩:=((HF2.out.next H5.out.below).blk 0 rfl).pair
       obtain ⟨e0,e1⟩:=((HF2.out.next H5.out.below).blk 2 rfl).pair
       cases f1
       rotate_left
       ·have HY:=Lib.hid (HYX.out (.inl rfl))
        clear HYX HYW HYZ
        go_wp2
        go_round
        case rel=>exact ⟨k+1,hlk,by go_num,HY.out,H5.out.below⟩
        case measure=>simp [intOf];omega
       cases hq:(S.toList==t.toList)
       ·have HY:=Lib.hid (HYX.out (.inr (shF_op hq)))
        clear HYX HYW HYZ
        go_wp2
        go_round
        case rel=>exact ⟨k+1,hlk,by go_num,HY.out,H5.out.below⟩
        case measure=>simp [intOf];omega
       cases hsh:shF S t l1 cn
       ·have HY:=Lib.hid (HYX.out (.inr hsh))
        clear HYX HYW HYZ
        go_wp2_with (go_at_call 167;refine (shaped9_any p1 o1 S ⟨s1.toArray⟩ t false l1 cn _ _ _ _ _ HS5.out.slR (HS2.out.below H5.out.below)).mono ?_;rintro e w6 ⟨rfl,hb⟩;rw [hsh];have H6:=Lib.hid (H5.out.next hb);have HS6:=Lib.hid (HS5.out.below hb);obtain ⟨c0,c1,c2,c3,c4,c5⟩:=(H6.out.blk 0 rfl).six;obtain ⟨e0,e1⟩:=((HF2.out.next H6.out.below).blk 2 rfl).pair;clear hb)
        go_round
        case rel=>exact ⟨k+1,hlk,by go_num,HY.out,H6.out.below⟩
        case measure=>simp [intOf];omega
       cases hfc:fitsC S t s1 l1 cn
       ·have HY:=Lib.hid (HYW.out rfl hsh hfc)
        clear HYX HYW HYZ
        go_wp2_with (first | (go_at_call 167;refine (shaped9_any p1 o1 S ⟨s1.toArray⟩ t false l1 cn _ _ _ _ _ HS5.out.slR (HS2.out.below H5.out.below)).mono ?_;rintro e w6 ⟨rfl,hb⟩;rw [hsh];have H6:=Lib.hid (H5.out.next hb);have HS6:=Lib.hid (HS5.out.below hb);obtain ⟨c0,c1,c2,c3,c4,c5⟩:=(H6.out.blk 0 rfl).six;obtain ⟨e0,e1⟩:=((HF2.out.next H6.out.below).blk 2 rfl).pair;clear hb) | (go_at_call 125;refine (HFT.out S ⟨s1.toArray⟩ false l1 _ _ _ (HF2.out.next H6.out.below).below HS6.out.slR hx1 p1 o1).mono ?_;rintro e w7 ⟨rfl,hb⟩;rw [show (⟨s1.toArray⟩:ByteArray).data.toList=s1 from rfl,hfc];have H7:=Lib.hid (H6.out.next hb);have HS7:=Lib.hid (HS6.out.below hb);obtain ⟨c0,c1,c2,c3,c4,c5⟩:=(H7.out.blk 0 rfl).six;obtain ⟨r0,r1,r2,r3,r4,r5⟩:=((HF2.out.next H7.out.below).blk 1 rfl).six;obtain ⟨s0,s1',s2,s3,s4,s5⟩:=((HF2.out.next H7.out.below).blk 1 rfl).free6;clear hb))
        go_round
        case rel=>exact ⟨k+1,hlk,by go_num,HY.out,H7.out.below⟩
        case measure=>simp [intOf];omega
       ·have HY:=Lib.hid (HYZ.out rfl hsh hfc)
        clear HYX HYW HYZ
        go_wp2_with (first | (go_at_call 167;refine (shaped9_any p1 o1 S ⟨s1.toArray⟩ t false l1 cn _ _ _ _ _ HS5.out.slR (HS2.out.below H5.out.below)).mono ?_;rintro e w6 ⟨rfl,hb⟩;rw [hsh];have H6:=Lib.hid (H5.out.next hb);have HS6:=Lib.hid (HS5.out.below hb);obtain ⟨c0,c1,c2,c3,c4,c5⟩:=(H6.out.blk 0 rfl).six;obtain ⟨e0,e1⟩:=((HF2.out.next H6.out.below).blk 2 rfl).pair;clear hb) | (go_at_call 125;refine (HFT.out S ⟨s1.toArray⟩ false l1 _ _ _ (HF2.out.next H6.out.below).below HS6.out.slR hx1 p1 o1).mono ?_;rintro e w7 ⟨rfl,hb⟩;rw [show (⟨s1.toArray⟩:ByteArray).data.toList=s1 from rfl,hfc];have H7:=Lib.hid (H6.out.next hb);have HS7:=Lib.hid (HS6.out.below hb);obtain ⟨c0,c1,c2,c3,c4,c5⟩:=(H7.out.blk 0 rfl).six;obtain ⟨r0,r1,r2,r3,r4,r5⟩:=((HF2.out.next H7.out.below).blk 1 rfl).six;obtain ⟨s0,s1',s2,s3,s4,s5⟩:=((HF2.out.next H7.out.below).blk 1 rfl).free6;clear hb))
        have HE:=Lib.hid (((HF2.out.next H7.out.below).sub (M:=[(w.heap.size+1,53,#[.int .i64 0,.int .u8 0,.string ⟨#[]⟩,.slice none 0 0,.string ⟨#[]⟩,.bool false])]) (by simp)).set6 (Nat.le_succ _) (fun x hx=>by cases hx) (.int .i64 p1) (.int .u8 o1) (.string S) (.slice va l1.length vc) (.string ⟨s1.toArray⟩) (.bool false))
        have hlt1:=(HF2.out.blk 1 rfl).lt
        exact bodyPost_ret (at9_end rfl rfl (HE.out.blk 0 rfl)) rfl (by rw [HY.out];exact ⟨⟨_,_,by rw [HSS.out];rfl,(HS7.out.far6 (fun k hk=>by omega) _ _ _ _ _ _).slR⟩,HE.out.below⟩)
     ·obtain rfl:k=256:=by omega
      have hw:wrap64 (firstF cn+(j:Int)+1)=firstF cn+((j+1:Nat):Int):=by have:=HPL.out;have:=HLT.out;rw [Int.natCast_add];unfold wrap64;omega
      go_wp2
      go_round
      case rel=>exact ⟨j+1,HLT.out,by rw [hw],by rw [←pre9_next cn j HLT.out];exact HTR.out,HB.out⟩
      case measure=>simp only [intOf];rw [hw];omega
   ·obtain rfl:j=(pg9 cn).length:=by omega
    have hle:¬firstF cn+((pg9 cn).length:Int)≤lastF cn:=by have:=HPL.out;omega
    go_wp2_with (go_at_call 124;refine (HLS.out _ HB.out).mono ?_;rintro e w4 ⟨rfl,hb4⟩;have HF4:=Lib.hid ((HF2.out.next (HB.out.trans (hb4.mono HB.out.size))).sub (M:=[(w.heap.size+1,53,#[.int .i64 0,.int .u8 0,.string ⟨#[]⟩,.slice none 0 0,.string ⟨#[]⟩,.bool false])]) (by simp));obtain ⟨r0,r1,r2,r3,r4,r5⟩:=(HF4.out.blk 0 rfl).six;obtain ⟨s0,s1,s2,s3,s4,s5⟩:=(HF4.out.blk 0 rfl).free6;clear hb4 d0 d1)
    have HE:=Lib.hid (HF4.out.set6 (Nat.le_succ _) (fun x hx=>by cases hx) (.int .i64 0) (.int .u8 0) (.string ⟨#[]⟩) (.slice none 0 0) (.string ⟨#[]⟩) (.bool false))
    exact bodyPost_ret (at9_end rfl rfl (HE.out.blk 0 rfl)) rfl (by rw [HEN.out (by rw [←pre9_end];exact HTR.out.1),←pre9_end];exact ⟨rfl,HE.out.below⟩)
end Go.Proofs.YtjmekllgnhkodaaGreatDoor
namespace Go.Proofs.YtjmekllgnhkodaaGreatDoor
set_option maxHeartbeats 8000000
set_option maxRecDepth 100000
open Go.RowKit Go.Shelf Go.Sort
structure Mild (x:Ins):Prop where
 op:x.op.size≤100
 n:x.args.length≤20
 f:∀y∈x.args,fits64 y.n
theorem Mild.find {x:Ins} (m:Mild x) (p:Blocks) (v:Value) (w:World) (h:SlR opdR w p v x.args) (hT:Spc w):Calls Tryz.prog 57 #[.agg #[.string x.op,v]] w (FindQ w (findR x)):=
 Find_any p x v w h hT (by have:=m.op;omega) (by have:=m.n;omega) (by have:=m.n;have:=canon_len10 x;omega) m.f
end Go.Proofs.YtjmekllgnhkodaaGreatDoor
namespace Go.Proofs.YtjmekllgnhkodaaGreatDoor
set_option maxHeartbeats 8000000
set_option maxRecDepth 100000
open Go.RowKit Go.Shelf Go.Sort
theorem mild_of {x:Ins} (h:short8 x=true) (hf:∀y∈x.args,fits64 y.n):Mild x:=⟨(short10 h).1,(short10 h).2,hf⟩
end Go.Proofs.YtjmekllgnhkodaaGreatDoor
namespace Go.Proofs.YtjmekllgnhkodaaGreatDoor
set_option maxHeartbeats 8000000
set_option maxRecDepth 100000
open Go.RowKit Go.Shelf Go.Sort
end Go.Proofs.YtjmekllgnhkodaaGreatDoor
