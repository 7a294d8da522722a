/-
  The four laws of chapter 10. Conditions: the library's table as its initialiser lays it.
-/
import Derived.Test.YtaolnefplefjnaaGreatDoorPO
import Derived.Test.YtaolnefplefjnaaGreatDoorPP
import Derived.Test.YtaolnefplefjnaaGreatDoorPM
import Derived.Test.YtaolnefplefjnaaGreatDoorPK
import Derived.Lib.QuietBelow
import Derived.Test.YtaolnefplefjnaaGreatDoorPB
namespace Go.Proofs.YtaolnefplefjnaaGreatDoor
set_option maxHeartbeats 8000000
set_option maxRecDepth 100000
open Go.RowKit Go.Shelf Go.Sort
theorem fits_val {x:EntV} (hx:EntOk x) {t:ByteArray} {c:List Opd} (h:fitsC ⟨x.iop.toArray⟩ t x.ex x.args c=true):fitsS ⟨x.iop.toArray⟩ t x.ex x.args c=(dAt c (Dof x.ex x.args),dAt c (Jof x.ex x.args),true):=by
 rw [fits_eq hx.var hx.up hx.ne]
 unfold valF
 rw [if_pos h,valS_var hx.var (fitsC_len h),h]
theorem fits_ok {x:EntV} (hx:EntOk x) {t:ByteArray} {c:List Opd}:(fitsS ⟨x.iop.toArray⟩ t x.ex x.args c).2.2=fitsC ⟨x.iop.toArray⟩ t x.ex x.args c:=by rw [fits_eq hx.var hx.up hx.ne]
theorem fills_plain {x:EntV} (hx:EntOk x) {d n:Int} {c:List Opd} (h:fillS x.ex x.args d n=some c):canonArgs ⟨x.iop.toArray⟩ c=c∧fitsS ⟨x.iop.toArray⟩ ⟨x.iop.toArray⟩ x.ex x.args c=(d,n,true):=by
 rw [fill_eq hx.var] at h
 have hS:=(fill_some hx).1 h
 obtain ⟨h1,h2⟩:=hS.nums hx
 refine ⟨hS.canon hx,?_⟩
 have hS2:=hS
 rw [←h1,←h2] at hS2
 rw [fits_val hx ((fits_fill hx).2 ⟨rfl,hS2⟩),h1,h2]
theorem back_plain {x:Ins} {e:EntV} {k:Int} (h:findR x=(some e,k)):EntOk e∧k=0∧x.op=⟨e.iop.toArray⟩∧canonArgs x.op (canonOf x).args=(canonOf x).args∧findR (canonOf x)=(some e,0)∧∃d n,fitsS ⟨e.iop.toArray⟩ x.op e.ex e.args (canonOf x).args=(d,n,true)∧fillS e.ex e.args d n=some (canonOf x).args:=by
 obtain ⟨_,h2,rfl,h4⟩:=findR_mem h
 have hx:=findR_ok h
 unfold hitE at h2
 obtain ⟨_,h3⟩:=Bool.and_eq_true_iff.1 h2
 rw [fits_ok hx] at h3
 have hv:=fits_val hx h3
 obtain ⟨ht,hS⟩:=(fits_fill hx).1 h3
 have hc:canonArgs x.op (canonOf x).args=(canonOf x).args:=by rw [ht];exact hS.canon hx
 have hcc:canonOf (canonOf x)=canonOf x:=by
  show (⟨x.op,canonArgs x.op (canonOf x).args⟩:Ins)=_
  rw [hc];rfl
 refine ⟨hx,rfl,ht,hc,?_,_,_,hv,?_⟩
 ·have hk:check07 (canonOf x)=0:=by
   have:=hS.check hx
   rw [←ht] at this
   exact this
  unfold findR at h ⊢
  rw [if_pos h4] at h
  rw [if_pos hk,hcc]
  exact h
 ·rw [fill_eq hx.var]
  exact (fill_some hx).2 hS
theorem pgsF_kr:∀{l c:List Opd},l.map kr=c.map kr→pgsF l=pgsF c
 | [],[],_=>rfl
 | [],_::_,h=>by cases h
 | _::_,[],h=>by cases h
 | a::l,b::c,h=>by
  rw [List.map_cons,List.map_cons] at h
  injection h with h1 h2
  unfold kr at h1
  injection h1 with h3 h4
  unfold pgsF z0
  rw [h3,h4,pgsF_kr h2]
theorem ixO_kr:∀{l c:List Opd},l.map kr=c.map kr→l.any ixO=c.any ixO
 | [],[],_=>rfl
 | [],_::_,h=>by cases h
 | _::_,[],h=>by cases h
 | a::l,b::c,h=>by
  rw [List.map_cons,List.map_cons] at h
  injection h with h1 h2
  unfold kr at h1
  injection h1 with h3 h4
  rw [List.any_cons,List.any_cons,ixO_kr h2]
  unfold ixO
  rw [h3,h4]
def pg9 (l:List Opd):List Int:=if l.any ixO=true then [3,4,5,6] else [0,1,2]
def chkP (p:Int) (x:Nat):Bool:=match atF p x with
 | (some e,k)=>(k==1)&&(decide (e.ex.length≤10)&&((pg9 e.args).contains p&&(pgsF e.args).contains p))
 | (none,k)=>!(k==1)
theorem chp:∀p:Fin 7,∀x:Fin 256,chkP p.val x.val=true:=by decide+kernel
theorem chp_at {p:Nat} {x:Nat} (hp:p < 7) (hx:x < 256):chkP p x=true:=chp ⟨p,hp⟩ ⟨x,hx⟩
theorem kindT_at {p:Nat} {x:Nat} (hp:p < 7) (hx:x < 256):(atF p x).2=1↔(atF p x).1.isSome=true:=by
 have h:=chp_at hp hx
 unfold chkP at h
 generalize atF (p:Int) x=r at *
 obtain ⟨o,k⟩:=r
 cases o with
 | none=>simp at h ⊢;exact h
 | some e=>obtain ⟨h,_⟩:=Bool.and_eq_true_iff.1 h;simp at h ⊢;exact h
theorem exs_at {p:Nat} {x:Nat} (hp:p < 7) (hx:x < 256) {e:EntV} (he:(atF p x).1=some e):(⟨e.ex.toArray⟩:ByteArray).size≤10:=by
 have h:=chp_at hp hx
 unfold chkP at h
 generalize atF (p:Int) x=r at *
 obtain ⟨o,k⟩:=r
 dsimp only at he
 subst he
 obtain ⟨_,h⟩:=Bool.and_eq_true_iff.1 h
 have:=of_decide_eq_true (Bool.and_eq_true_iff.1 h).1
 show e.ex.toArray.size≤_
 rw [List.size_toArray];exact this
theorem find_near {f g:EntV→Bool} (h:∀e,f e=true→g e=true) (L:List EntV):(L.filter g).find? f=L.find? f:=by
 induction L with
 | nil=>rfl
 | cons a L ih=>
  cases hg:g a
  ·rw [List.filter_cons_of_neg (by rw [hg];decide),ih,List.find?_cons]
   cases hf:f a
   ·rfl
   ·have:=h a hf;rw [hg] at this;cases this
  ·rw [List.filter_cons_of_pos hg,List.find?_cons,List.find?_cons,ih]
theorem any_near {g:EntV→Bool} (L:List EntV):(L.filter g).any g=L.any g:=by
 rw [List.any_filter];congr 1;funext e;cases g e<;>rfl
def all9 (l:List Opd):List EntV:=(pg9 l).flatMap entsF
theorem mem_ents {p:Int} {e:EntV} (h:e∈entsF p):∃k,k < 256∧(atF p k).1=some e:=by
 unfold entsF entsK at h
 obtain ⟨k,hk,h2⟩:=List.mem_filterMap.1 h
 exact ⟨k,List.mem_range.1 hk,h2⟩
theorem near_parts {t:ByteArray} {c:List Opd} {e:EntV} (h:nearE t c e=true):e.iop=t.data.toList∧e.args.map kr=c.map kr:=by
 unfold nearE at h
 obtain ⟨h1,h2⟩:=shF_parts (Bool.and_eq_true_iff.1 h).2
 exact ⟨by rw [←h1],h2⟩
theorem near_pages {t:ByteArray} {c:List Opd} {p:Nat} (hp:p < 7) {e:EntV} (he:e∈entsF p) (h:nearE t c e=true):(pg9 c).contains (p:Int)=true∧(pgsF c).contains (p:Int)=true:=by
 obtain ⟨k,hk,h2⟩:=mem_ents he
 have hc:=chp_at hp hk
 obtain ⟨_,hkr⟩:=near_parts h
 unfold chkP at hc
 generalize atF (p:Int) k=r at *
 obtain ⟨o,m⟩:=r
 dsimp only at h2
 subst h2
 obtain ⟨_,hc⟩:=Bool.and_eq_true_iff.1 hc
 obtain ⟨_,hc⟩:=Bool.and_eq_true_iff.1 hc
 have e1:pg9 e.args=pg9 c:=by unfold pg9;rw [ixO_kr hkr]
 rw [e1,pgsF_kr hkr] at hc
 exact Bool.and_eq_true_iff.1 hc
theorem near_of {t:ByteArray} {c:List Opd} (P:List Int) (Q:List Nat) (hQ:∀q∈Q,q < 7) (hP:P=(Q.map fun (q:Nat)=>(q:Int)).filter fun p=>P.contains p) (hin:∀q∈Q,∀e∈entsF (q:Int),nearE t c e=true→P.contains (q:Int)=true):
  (P.flatMap entsF).filter (nearE t c)=((Q.map fun (q:Nat)=>(q:Int)).flatMap entsF).filter (nearE t c):=by
 rw [hP]
 clear hP
 induction Q with
 | nil=>rfl
 | cons q Q ih=>
  have ih:=ih (fun a h=>hQ a (List.mem_cons_of_mem _ h)) (fun a h=>hin a (List.mem_cons_of_mem _ h))
  rw [List.map_cons,List.flatMap_cons,List.filter_append,←ih]
  cases hq:P.contains (q:Int)
  ·rw [List.filter_cons_of_neg (by rw [hq];decide)]
   have:(entsF (q:Int)).filter (nearE t c)=[]:=by
    rw [List.filter_eq_nil_iff]
    intro e he hn
    have:=hin q (List.mem_cons_self) e he hn
    rw [hq] at this;cases this
   rw [this,List.nil_append]
  ·rw [List.filter_cons_of_pos hq,List.flatMap_cons,List.filter_append]
theorem pgsF_cases (c:List Opd):pgsF c=[0,1,2]∨pgsF c=[3,5]∨pgsF c=[4,6]:=by
 induction c with
 | nil=>exact .inl rfl
 | cons o r ih=>
  unfold pgsF
  split
  ·exact .inr (.inl rfl)
  ·split
   ·exact .inr (.inr rfl)
   ·exact ih
theorem cand_near {t:ByteArray} {c:List Opd}:(candF t.data.toList c).filter (nearE t c)=(all9 c).filter (nearE t c):=by
 have h1:(candF t.data.toList c).filter (nearE t c)=((pgsF c).flatMap entsF).filter (nearE t c):=by
  unfold candF
  have e:pagesF (pgsF c)=pgsF c:=by
   unfold pagesF;rw [if_neg]
   rcases pgsF_cases c with h | h | h<;>rw [h]<;>decide
  rw [e]
  induction pgsF c with
  | nil=>rfl
  | cons p P ih=>
   rw [List.flatMap_cons,List.flatMap_cons,List.filter_append,List.filter_append,ih,namF_eq,List.filter_filter]
   congr 1
   refine List.filter_congr fun e _=>?_
   cases h:nearE t c e
   ·rfl
   ·rw [Bool.true_and,(near_parts h).1];exact beq_self_eq_true _
 have hq:∀q∈List.range 7,q < 7:=fun q h=>List.mem_range.1 h
 rw [h1,near_of (pgsF c) (List.range 7) hq (by rcases pgsF_cases c with h | h | h<;>rw [h]<;>decide) (fun q h e he hn=>(near_pages (hq q h) he hn).2)]
 unfold all9
 exact (near_of (pg9 c) (List.range 7) hq (by unfold pg9;split<;>decide) (fun q h e he hn=>(near_pages (hq q h) he hn).1)).symm
def find9 (x:Ins):Option EntV × Int:=
 if check07 x=0 then (match (all9 (canonOf x).args).find? (hitE x.op (canonOf x).args) with
  | some e=>(some e,0)
  | none=>(none,codeE x.op (canonOf x).args (all9 (canonOf x).args))) else (none,check07 x)
theorem find9_eq (x:Ins):find9 x=findR x:=by
 have hn:∀e,hitE x.op (canonOf x).args e=true→nearE x.op (canonOf x).args e=true:=fun e h=>(Bool.and_eq_true_iff.1 h).1
 unfold find9 findR codeE
 rw [←find_near hn (all9 _),←cand_near,find_near hn,←any_near (all9 _),←cand_near,any_near]
 rfl
theorem findR_none {x:Ins} {k:Int} (h:findR x=(none,k)):k≠0:=by
 unfold findR codeE at h
 split at h
 ·split at h
  ·cases h
  ·injection h with _ h
   subst h
   split<;>decide
 ·rename_i hc
  injection h with _ h
  subst h
  exact hc
theorem findR_code {x:Ins}:(findR x).2=0↔(findR x).1.isSome=true:=by
 generalize h:findR x=r
 obtain ⟨o,k⟩:=r
 cases o with
 | none=>have:=findR_none h;simp;exact this
 | some e=>have:=(back_plain h).2.1;simp;exact this
end Go.Proofs.YtaolnefplefjnaaGreatDoor
namespace Go.Proofs.YtaolnefplefjnaaGreatDoor
set_option maxHeartbeats 8000000
set_option maxRecDepth 100000
open Go.RowKit Go.Shelf Go.Sort
theorem canon_len10 (x:Ins):(canonOf x).args.length≤x.args.length+1:=by
 obtain ⟨s,l⟩:=x
 show (canonArgs s l).length≤l.length+1
 unfold canonArgs
 have h1:∀l:List Opd,(exch s l).length=l.length:=by
  intro l;unfold exch;split
  ·rename_i h;rw [of_decide_eq_true (Bool.and_eq_true_iff.1 h).2];rfl
  ·rfl
 dsimp only
 rw [List.length_map,h1]
 unfold accum
 split
 ·split<;>simp
 ·split<;>simp
 ·exact Nat.le_succ _
theorem short10 {x:Ins} (h:short8 x=true):x.op.size≤100∧x.args.length≤20:=by
 obtain ⟨h1,h2⟩:=Bool.and_eq_true_iff.1 h
 exact ⟨of_decide_eq_true h1,of_decide_eq_true h2⟩
theorem sixF {α β:Sort _} {A B C D E F:α→β→Prop} (h:∀a b,A a b∧B a b∧C a b∧D a b∧E a b∧F a b):(∀a b,A a b)∧(∀a b,B a b)∧(∀a b,C a b)∧(∀a b,D a b)∧(∀a b,E a b)∧(∀a b,F a b):=⟨fun a b=>(h a b).1,fun a b=>(h a b).2.1,fun a b=>(h a b).2.2.1,fun a b=>(h a b).2.2.2.1,fun a b=>(h a b).2.2.2.2.1,fun a b=>(h a b).2.2.2.2.2⟩
theorem Blk.six {w:World} {b:Nat} {t:TypeId} {x0 x1 x2 x3 x4 x5:Value} (h:Blk w b t #[x0,x1,x2,x3,x4,x5]):
  w.cell? ⟨b,0,none⟩=some x0∧w.cell? ⟨b,1,none⟩=some x1∧w.cell? ⟨b,2,none⟩=some x2∧w.cell? ⟨b,3,none⟩=some x3∧w.cell? ⟨b,4,none⟩=some x4∧w.cell? ⟨b,5,none⟩=some x5:=⟨h.cell 0,h.cell 1,h.cell 2,h.cell 3,h.cell 4,h.cell 5⟩
theorem page7 {pg:Int} (h:0≤pg∧pg≤255):∃m:Nat,m < 7∧Int.tmod pg 7=m:=by
 rw [Int.tmod_eq_emod_of_nonneg h.1]
 exact ⟨(pg % 7).toNat,by omega,by omega⟩
theorem SearchFits_law (pg:Int) (hpg:0≤pg∧pg≤255) (op:Nat) (hop:op < 256) (y:Ins) (q:Blocks) (u:Value) (w:World) (hy:SlR opdR w q u y.args) (hT:Spc w) (hf:∀z∈y.args,fits64 z.n):
  Calls Tryz.prog 3 #[.int .u8 pg,.int .u8 op,.agg #[.string y.op,u]] w fun e w'=>e=.returned (.bool true)∧Below w.heap.size w w':=by
 have hcv:IntKind.i64.wrap pg=pg:=IntWalk.i64_in _ (by omega)
 obtain ⟨m,hm7,hm⟩:=page7 hpg
 have HA1:=Lib.hid (fun W hT=>At_any m op hop W hT)
 have HA2:=Lib.hid (fun W=>AtRef_any m op hop W)
 have HAL:=Lib.hid (fun W hT=>alive10_any W hT)
 have HSH:=Lib.hid (fun W (hb:RowKit.Below w.heap.size w W)=>short10_any q y u W (hy.below hb))
 have HK:=Lib.hid (atF_kind m op)
 have HOK:=Lib.hid (fun x he=>And.intro (ent_at (p:=(m:Int)) hop (e:=x) he) (exs_at hm7 hop he))
 have HT:=Lib.hid hT
 have HY:=Lib.hid hy
 obtain ⟨ua,uc,rfl⟩:∃a c,u=.slice a y.args.length c:=by obtain ⟨a,c,e,_⟩:=hy;exact ⟨a,c,e⟩
 clear hT hpg hy
 generalize atF m op=r at *
 obtain ⟨x,k⟩:=r
 dsimp only at *
 have HI:=Lib.hid ((Fr.start w).new 24 #[.string y.op,.slice ua y.args.length uc])
 rcases x with _ | x
 ·have hk1:¬k=1:=by rcases HK.out.2 rfl with h | h | h<;>omega
  clear HK HOK HY
  go_enter Tryz.func3,Tryz.ntmps3
  go_wp2_with fail
  refine (HA1.out _ (HT.out.below HI.out.below)).mono ?_
  rintro e w1 ⟨he,hb1⟩
  subst he
  have H1:=Lib.hid ((HI.out.next hb1).new 26 #[.int .i64 0,.int .u8 0,.string ⟨#[]⟩,.slice none 0 0,.string ⟨#[]⟩,.bool false])
  clear hb1
  unfold ent0
  go_wp2_with fail
  refine (HA2.out _).mono ?_
  rintro e w2 ⟨he,hb2⟩
  subst he
  have H2:=Lib.hid ((H1.out.next hb2).new 29 #[.int .i64 0,.int .u8 0,.string ⟨#[]⟩,.slice none 0 0,.string ⟨#[]⟩,.bool false])
  clear hb2
  unfold ent0
  have a0:=(H2.out.blk 2 rfl).cell 0
  have a1:=(H2.out.blk 2 rfl).cell 1
  cases hsh:short8 y
  all_goals
   go_wp2_with (first
    | (go_at_call 14;refine (HSH.out _ H2.out.below).mono ?_;rintro e w3 ⟨rfl,hb⟩;rw [hsh];have H3:=Lib.hid (H2.out.next hb);clear hb)
    | (go_at_call 15;refine (HAL.out _ (HT.out.below H3.out.below)).mono ?_;rintro e w4 ⟨rfl,hb⟩;have H4:=Lib.hid (H3.out.next hb);clear hb))
   go_ret
   exact ⟨rfl,H4.out.below⟩
 ·obtain rfl:k=1:=HK.out.1 _ rfl
  obtain ⟨hok,hx1⟩:=HOK.out x rfl
  have hz:=hok.size
  obtain ⟨p1,o1,i1,l1,s1,f1⟩:=x
  dsimp only at hz
  have hl1:l1.length≤1000000:=by have:=hz.2;omega
  have hi1:(⟨i1.toArray⟩:ByteArray).size≤9223372036854775807:=by have:=hz.1;omega
  have hx1:(⟨s1.toArray⟩:ByteArray).size≤9223372036854775807:=Nat.le_trans hx1 (by decide)
  have HVA:=Lib.hid (fun (hs:short8 y=true) p v W (hb:RowKit.Below w.heap.size w W) h=>ValuesS_any p1 o1 ⟨i1.toArray⟩ ⟨s1.toArray⟩ f1 l1 y p q v (.slice ua y.args.length uc) W h (HY.out.below hb) (HT.out.below hb) hl1 (by have:=short10 hs;omega) (by have:=short10 hs;have:=canon_len10 y;omega) hf hi1 (by have:=short10 hs;omega))
  have HFA:=Lib.hid (fun (hs:short8 y=true) p v W (hb:RowKit.Below w.heap.size w W) h=>FitsS_any p1 o1 ⟨i1.toArray⟩ ⟨s1.toArray⟩ f1 l1 y p q v (.slice ua y.args.length uc) W h (HY.out.below hb) (HT.out.below hb) hl1 (by have:=short10 hs;omega) (by have:=short10 hs;have:=canon_len10 y;omega) hf hi1 (by have:=short10 hs;omega))
  have HV9:=Lib.hid (fun (hs:short8 y=true) p v W (hb:RowKit.Below w.heap.size w W) h=>Values10_any p1 o1 ⟨i1.toArray⟩ ⟨s1.toArray⟩ f1 l1 y p q v (.slice ua y.args.length uc) W h (HY.out.below hb) (by have:=short10 hs;omega) hf hx1)
  have HF9:=Lib.hid (fun (hs:short8 y=true) p v W (hb:RowKit.Below w.heap.size w W) h=>Fits10_any p1 o1 ⟨i1.toArray⟩ ⟨s1.toArray⟩ f1 l1 y p q v (.slice ua y.args.length uc) W h (HY.out.below hb) (by have:=short10 hs;omega) hf hx1)
  have hEQ:=fits_eq hok.var hok.up hok.ne (t:=y.op) (c:=(canonOf y).args)
  dsimp only at hEQ
  rw [show (⟨s1.toArray⟩:ByteArray).data.toList=s1 from rfl] at HVA HFA HV9 HF9
  rw [hEQ] at HVA HFA
  dsimp only at HVA HFA
  clear hEQ hok hz hl1 hi1 hx1 HK HOK hf
  generalize valF (⟨i1.toArray⟩:ByteArray) y.op s1 l1 (canonOf y).args=D at *
  generalize fitsC (⟨i1.toArray⟩:ByteArray) y.op s1 l1 (canonOf y).args=B at *
  go_enter Tryz.func3,Tryz.ntmps3
  go_wp2_with fail
  refine (HA1.out _ (HT.out.below HI.out.below)).mono ?_
  rintro e w1 ⟨⟨v1,rfl,ho1⟩,hb1⟩
  obtain ⟨va1,vc1,rfl⟩:=ho1.form
  have H1:=Lib.hid ((HI.out.next hb1).new 26 #[.int .i64 p1,.int .u8 o1,.string ⟨i1.toArray⟩,.slice va1 l1.length vc1,.string ⟨s1.toArray⟩,.bool f1])
  have HS1:=Lib.hid (ho1.slR.alloc (.cells #[.int .i64 p1,.int .u8 o1,.string ⟨i1.toArray⟩,.slice va1 l1.length vc1,.string ⟨s1.toArray⟩,.bool f1] 26))
  clear hb1 ho1
  unfold entVal
  dsimp only
  go_wp2_with fail
  refine (HA2.out _).mono ?_
  rintro e w2 ⟨⟨v2,rfl,ho2⟩,hb2⟩
  obtain ⟨va2,vc2,rfl⟩:=ho2.form
  have H2:=Lib.hid ((H1.out.next hb2).new 29 #[.int .i64 p1,.int .u8 o1,.string ⟨i1.toArray⟩,.slice va2 l1.length vc2,.string ⟨s1.toArray⟩,.bool f1])
  have HS2:=Lib.hid (ho2.slR.alloc (.cells #[.int .i64 p1,.int .u8 o1,.string ⟨i1.toArray⟩,.slice va2 l1.length vc2,.string ⟨s1.toArray⟩,.bool f1] 29))
  have HS12:=Lib.hid ((HS1.out.below hb2).alloc (.cells #[.int .i64 p1,.int .u8 o1,.string ⟨i1.toArray⟩,.slice va2 l1.length vc2,.string ⟨s1.toArray⟩,.bool f1] 29))
  have hl:=((H1.out.next hb2).blk 0 rfl).lt
  clear hb2 ho2 HS1
  unfold entVal
  dsimp only
  go_upto_region 3 with fail
  generalize hg1:w1.heap.size=g1 at *
  generalize hg2:w2.heap.size=g2 at *
  clear hg1 hg2
  obtain ⟨W2,hW2⟩:∃W:World,W=w2.alloc (.cells #[.int .i64 p1,.int .u8 o1,.string ⟨i1.toArray⟩,.slice va2 l1.length vc2,.string ⟨s1.toArray⟩,.bool f1] 29):=⟨_,rfl⟩
  rw [←hW2] at H2 HS2 HS12 ⊢
  clear hW2
  have a0:=(H2.out.blk 2 rfl).cell 0
  have a1:=(H2.out.blk 2 rfl).cell 1
  cases hsh:short8 y
  ·clear HVA HFA HV9 HF9
   go_wp2_with (first
    | (go_at_call 14;refine (HSH.out _ H2.out.below).mono ?_;rintro e w3 ⟨rfl,hb⟩;rw [hsh];have H3:=Lib.hid (H2.out.next hb);clear hb)
    | (go_at_call 15;refine (HAL.out _ (HT.out.below H3.out.below)).mono ?_;rintro e w4 ⟨rfl,hb⟩;have H4:=Lib.hid (H3.out.next hb);clear hb))
   go_ret
   exact ⟨rfl,H4.out.below⟩
  ·have VA:=Lib.hid (HVA.out hsh)
   have FA:=Lib.hid (HFA.out hsh)
   have V9:=Lib.hid (HV9.out hsh)
   have F9:=Lib.hid (HF9.out hsh)
   clear HVA HFA HV9 HF9
   go_upto_region 5 with (go_at_call 14;refine (HSH.out _ H2.out.below).mono ?_;rintro e w3 ⟨rfl,hb⟩;rw [hsh];have H3:=Lib.hid (H2.out.next hb);have HS3:=Lib.hid (HS2.out.below hb);have HS13:=Lib.hid (HS12.out.below hb);clear hb a0 a1)
   obtain ⟨c0,c1,c2,c3,c4,c5⟩:=(H3.out.blk 1 rfl).six
   have d0:=(H3.out.blk 2 rfl).cell 0
   have d1:=(H3.out.blk 2 rfl).cell 1
   go_upto_region 6 with (go_at_call 16;refine (VA.out _ _ _ H3.out.below HS13.out).mono ?_;rintro e w4 ⟨rfl,hb⟩;have H4:=Lib.hid (H3.out.next hb);have HS4:=Lib.hid (HS3.out.below hb);have HS14:=Lib.hid (HS13.out.below hb);clear hb c0 c1 c2 c3 c4 c5 d0 d1)
   obtain ⟨c0,c1,c2,c3,c4,c5⟩:=(H4.out.blk 0 rfl).six
   have d0:=(H4.out.blk 2 rfl).cell 0
   have d1:=(H4.out.blk 2 rfl).cell 1
   go_upto_region 7 with (go_at_call 17;refine (V9.out _ _ _ H4.out.below HS4.out).mono ?_;rintro e w5 ⟨rfl,hb⟩;have H5:=Lib.hid (H4.out.next hb);have HS5:=Lib.hid (HS4.out.below hb);have HS15:=Lib.hid (HS14.out.below hb);clear hb c0 c1 c2 c3 c4 c5 d0 d1)
   have HB5:Hid (∀d os,Below w5.heap.size w5 (grow (redrawn w5 d) os)):=fun d os=>below_regrown w5 d os
   have HE:Hid (∀d os,_):=fun d os=>(((H5.out.next (HB5.out d os)).blk 1 rfl).six)
   have HE9:Hid (∀d os,_):=fun d os=>(((H5.out.next (HB5.out d os)).blk 0 rfl).six)
   obtain ⟨E0,E1,E2,E3,E4,E5⟩:=sixF HE.out
   obtain ⟨F0,F1,F2,F3,F4,F5⟩:=sixF HE9.out
   have G0:=fun d os=>((H5.out.next (HB5.out d os)).blk 2 rfl).cell 0
   have G1:=fun d os=>((H5.out.next (HB5.out d os)).blk 2 rfl).cell 1
   have KAL:=Lib.hid (fun d os=>HAL.out _ (HT.out.below (H5.out.next (HB5.out d os)).below))
   have KF:=Lib.hid (fun d os=>FA.out _ _ _ (H5.out.next (HB5.out d os)).below (HS15.out.below (HB5.out d os)))
   have KF9:=Lib.hid (fun d os=>F9.out _ _ _ (H5.out.next (HB5.out d os)).below (HS5.out.below (HB5.out d os)))
   clear HA1 HA2 HAL HI H1 H2 H3 H4 HS2 HS12 HS3 HS13 HS4 HS14 HE HE9 VA V9
   obtain ⟨D1,D2⟩:=D
   dsimp only
   cases B
   all_goals
    refine wp_region_quiet_below (by kernel_rfl) (by kernel_rfl) ?_
    repeat (go_big_quiet_step (first | exact Calls.regrown_of (KAL.out _ _) | exact Calls.regrown_of (KF.out _ _) | exact Calls.regrown_of (KF9.out _ _)))
    refine wpQuiet_nil ?_
    intro _ hw'
    obtain ⟨⟨dq,osq⟩,hw''⟩:=hw'
    subst hw''
    have HFB:=Lib.hid (H5.out.next (HB5.out dq osq)).below
    clear E0 E1 E2 E3 E4 E5 F0 F1 F2 F3 F4 F5 G0 G1
    show Exit.then _ _ Exit.normal _ (grow (redrawn w5 dq) osq)
    generalize grow (redrawn w5 dq) osq=W5 at *
    go_wp2
    go_ret
    exact ⟨rfl,HFB.out⟩
end Go.Proofs.YtaolnefplefjnaaGreatDoor
namespace Go.Proofs.YtaolnefplefjnaaGreatDoor
set_option maxHeartbeats 8000000
set_option maxRecDepth 100000
open Go.RowKit Go.Shelf Go.Sort
theorem valid_fits {o:Opd} (h:validOpd o=true):fits64 o.n:=by
 unfold validOpd at h
 unfold fits64
 split at h
 ·have:=eq_of_beq (Bool.and_eq_true_iff.1 h).2;omega
 ·split at h
  ·have h1:=of_decide_eq_true (Bool.and_eq_true_iff.1 h).2;have h2:=of_decide_eq_true (Bool.and_eq_true_iff.1 (Bool.and_eq_true_iff.1 h).1).2;omega
  ·split at h
   ·have h1:=of_decide_eq_true (Bool.and_eq_true_iff.1 h).2;have h2:=of_decide_eq_true (Bool.and_eq_true_iff.1 (Bool.and_eq_true_iff.1 h).1).2;omega
   ·split at h
    ·have h1:=of_decide_eq_true (Bool.and_eq_true_iff.1 h).2;have h2:=of_decide_eq_true (Bool.and_eq_true_iff.1 (Bool.and_eq_true_iff.1 h).1).2;omega
    ·split at h
     ·have h1:=of_decide_eq_true (Bool.and_eq_true_iff.1 h).2;have h2:=of_decide_eq_true (Bool.and_eq_true_iff.1 (Bool.and_eq_true_iff.1 h).1).2;omega
     ·cases h
theorem check_fits {x:Ins} (h:check07 x=0):∀y∈x.args,fits64 y.n:=by
 unfold check07 at h
 split at h
 ·cases h
 ·split at h
  ·cases h
  ·split at h
   ·rename_i h2
    exact fun y hy=>valid_fits (List.all_eq_true.1 h2 y hy)
   ·cases h
theorem fills_more {x:EntV} (hx:EntOk x) {d n:Int} {c:List Opd} (h:fillS x.ex x.args d n=some c):(∀y∈c,fits64 y.n)∧c.length=x.args.length:=by
 rw [fill_eq hx.var] at h
 have hS:=(fill_some hx).1 h
 exact ⟨check_fits (hS.check hx),hS.len⟩
theorem Blk.pair {w:World} {b:Nat} {t:TypeId} {x0 x1:Value} (h:Blk w b t #[x0,x1]):w.cell? ⟨b,0,none⟩=some x0∧w.cell? ⟨b,1,none⟩=some x1:=⟨h.cell 0,h.cell 1⟩
theorem SearchFills_law (pg:Int) (hpg:0≤pg∧pg≤255) (op:Nat) (hop:op < 256) (d n:Int) (w:World) (hT:Spc w):
  Calls Tryz.prog 5 #[.int .u8 pg,.int .u8 op,.agg #[.int .i64 d,.int .i64 n]] w fun e w'=>e=.returned (.bool true)∧Below w.heap.size w w':=by
 have hcv:IntKind.i64.wrap pg=pg:=IntWalk.i64_in _ (by omega)
 obtain ⟨m,hm7,hm⟩:=page7 hpg
 have HA1:=Lib.hid (fun W hT=>At_any m op hop W hT)
 have HA2:=Lib.hid (fun W=>AtRef_any m op hop W)
 have HAL:=Lib.hid (fun W hT=>alive10_any W hT)
 have HK:=Lib.hid (atF_kind m op)
 have HOK:=Lib.hid (fun x he=>And.intro (ent_at (p:=(m:Int)) hop (e:=x) he) (exs_at hm7 hop he))
 have HT:=Lib.hid hT
 clear hT hpg
 generalize atF m op=r at *
 obtain ⟨x,k⟩:=r
 dsimp only at *
 have HI:=Lib.hid ((Fr.start w).new 44 #[.int .i64 d,.int .i64 n])
 rcases x with _ | x
 ·have hk1:¬k=1:=by rcases HK.out.2 rfl with h | h | h<;>omega
  clear HK HOK
  go_enter Tryz.func5,Tryz.ntmps5
  go_wp2_with fail
  refine (HA1.out _ (HT.out.below HI.out.below)).mono ?_
  rintro e w1 ⟨he,hb1⟩
  subst he
  have H1:=Lib.hid ((HI.out.next hb1).new 26 #[.int .i64 0,.int .u8 0,.string ⟨#[]⟩,.slice none 0 0,.string ⟨#[]⟩,.bool false])
  clear hb1
  unfold ent0
  go_wp2_with fail
  refine (HA2.out _).mono ?_
  rintro e w2 ⟨he,hb2⟩
  subst he
  have H2:=Lib.hid ((H1.out.next hb2).new 29 #[.int .i64 0,.int .u8 0,.string ⟨#[]⟩,.slice none 0 0,.string ⟨#[]⟩,.bool false])
  clear hb2
  unfold ent0
  go_wp2_with (go_at_call 15;refine (HAL.out _ (HT.out.below H2.out.below)).mono ?_;rintro e w4 ⟨rfl,hb⟩;have H4:=Lib.hid (H2.out.next hb);clear hb)
  go_ret
  exact ⟨rfl,H4.out.below⟩
 ·obtain rfl:k=1:=HK.out.1 _ rfl
  obtain ⟨hok,hx1⟩:=HOK.out x rfl
  have hz:=hok.size
  have hfp:=fun c (hc:fillS x.ex x.args d n=some c)=>And.intro (fills_plain hok hc) (fills_more hok hc)
  have hup:=hok.up
  have hfe:fillS x.ex x.args d n=fillF x.ex x.args d n:=fill_eq hok.var
  obtain ⟨p1,o1,i1,l1,s1,f1⟩:=x
  dsimp only at hz hfp hup hfe
  have hl1:l1.length≤1000000:=by have:=hz.2;omega
  have hi1:(⟨i1.toArray⟩:ByteArray).size≤9223372036854775807:=by have:=hz.1;omega
  have hx1:(⟨s1.toArray⟩:ByteArray).size≤9223372036854775807:=Nat.le_trans hx1 (by decide)
  have HFS:=Lib.hid (fun p v W h=>FillS_any p1 o1 d n ⟨i1.toArray⟩ ⟨s1.toArray⟩ f1 l1 p v W h hl1 hi1)
  have HF9:=Lib.hid (fun p v W h=>Fill10_any p1 o1 d n ⟨i1.toArray⟩ ⟨s1.toArray⟩ f1 l1 p v W h hl1 hx1)
  rw [show (⟨s1.toArray⟩:ByteArray).data.toList=s1 from rfl] at HFS HF9
  rw [hup] at HFS
  rw [←hfe] at HF9
  clear hfe hup HOK HK
  go_enter Tryz.func5,Tryz.ntmps5
  go_wp2_with fail
  refine (HA1.out _ (HT.out.below HI.out.below)).mono ?_
  rintro e w1 ⟨⟨v1,rfl,ho1⟩,hb1⟩
  obtain ⟨va1,vc1,rfl⟩:=ho1.form
  have H1:=Lib.hid ((HI.out.next hb1).new 26 #[.int .i64 p1,.int .u8 o1,.string ⟨i1.toArray⟩,.slice va1 l1.length vc1,.string ⟨s1.toArray⟩,.bool f1])
  have HS1:=Lib.hid (ho1.slR.alloc (.cells #[.int .i64 p1,.int .u8 o1,.string ⟨i1.toArray⟩,.slice va1 l1.length vc1,.string ⟨s1.toArray⟩,.bool f1] 26))
  clear hb1 ho1
  unfold entVal
  dsimp only
  go_wp2_with fail
  refine (HA2.out _).mono ?_
  rintro e w2 ⟨⟨v2,rfl,ho2⟩,hb2⟩
  obtain ⟨va2,vc2,rfl⟩:=ho2.form
  have H2:=Lib.hid ((H1.out.next hb2).new 29 #[.int .i64 p1,.int .u8 o1,.string ⟨i1.toArray⟩,.slice va2 l1.length vc2,.string ⟨s1.toArray⟩,.bool f1])
  have HS2:=Lib.hid (ho2.slR.alloc (.cells #[.int .i64 p1,.int .u8 o1,.string ⟨i1.toArray⟩,.slice va2 l1.length vc2,.string ⟨s1.toArray⟩,.bool f1] 29))
  have HS12:=Lib.hid ((HS1.out.below hb2).alloc (.cells #[.int .i64 p1,.int .u8 o1,.string ⟨i1.toArray⟩,.slice va2 l1.length vc2,.string ⟨s1.toArray⟩,.bool f1] 29))
  have hl:=((H1.out.next hb2).blk 0 rfl).lt
  clear hb2 ho2 HS1
  unfold entVal
  dsimp only
  go_upto_region 3 with fail
  generalize hg1:w1.heap.size=g1 at *
  generalize hg2:w2.heap.size=g2 at *
  clear hg1 hg2
  obtain ⟨W2,hW2⟩:∃W:World,W=w2.alloc (.cells #[.int .i64 p1,.int .u8 o1,.string ⟨i1.toArray⟩,.slice va2 l1.length vc2,.string ⟨s1.toArray⟩,.bool f1] 29):=⟨_,rfl⟩
  rw [←hW2] at H2 HS2 HS12 ⊢
  clear hW2 HI H1
  obtain ⟨c0,c1,c2,c3,c4,c5⟩:=(H2.out.blk 1 rfl).six
  obtain ⟨d0,d1⟩:=(H2.out.blk 2 rfl).pair
  have HSM:=Lib.hid (fun p q x y v1 v2 W h1 h2=>ref07Same_any p q x y v1 v2 W h1 h2)
  cases hfc:fillS s1 l1 d n with
  | none=>
   rw [hfc] at HFS HF9
   clear hfp
   go_upto_region 6 with (go_at_call 22;refine (HFS.out _ _ _ HS12.out).mono ?_;rintro e w3 ⟨rfl,hb⟩;have H3:=Lib.hid ((H2.out.next hb).new 24 #[.string ⟨#[]⟩,.slice none 0 0]);have HS3:=Lib.hid ((HS2.out.below hb).alloc (.cells #[.string ⟨#[]⟩,.slice none 0 0] 24));clear hb c0 c1 c2 c3 c4 c5 d0 d1)
   obtain ⟨c0,c1,c2,c3,c4,c5⟩:=(H3.out.blk 1 rfl).six
   obtain ⟨d0,d1⟩:=(H3.out.blk 3 rfl).pair
   go_upto_region 7 with (go_at_call 23;refine (HF9.out _ _ _ HS3.out).mono ?_;rintro e w4 ⟨rfl,hb⟩;have H4:=Lib.hid ((H3.out.next hb).new 24 #[.string ⟨#[]⟩,.slice none 0 0]);clear hb c0 c1 c2 c3 c4 c5 d0 d1)
   obtain ⟨c0,c1⟩:=(H4.out.blk 0 rfl).pair
   obtain ⟨d0,d1⟩:=(H4.out.blk 1 rfl).pair
   have hsm:insEq ⟨⟨#[]⟩,[]⟩ ⟨⟨#[]⟩,[]⟩=true:=by decide
   go_wp2_with (first
    | (go_at_call 24;refine (HSM.out NoB NoB ⟨⟨#[]⟩,[]⟩ ⟨⟨#[]⟩,[]⟩ _ _ _ (SlR.nil _ _ _) (SlR.nil _ _ _)).mono ?_;rintro e w5 ⟨rfl,hb⟩;rw [hsm];have H5:=Lib.hid (H4.out.next hb);clear hb c0 c1 d0 d1)
    | (go_at_call 15;refine (HAL.out _ (HT.out.below H5.out.below)).mono ?_;rintro e w6 ⟨rfl,hb⟩;have H6:=Lib.hid (H5.out.next hb);clear hb))
   go_ret
   exact ⟨rfl,H6.out.below⟩
  | some c=>
   rw [hfc] at HFS HF9
   obtain ⟨⟨h1,h2⟩,h3,h4⟩:=hfp c hfc
   clear hfp
   have hcn:(canonOf ⟨⟨i1.toArray⟩,c⟩).args=c:=h1
   have hcl:c.length≤1000000:=by rw [h4];exact hl1
   have HVA:=Lib.hid (fun p q v u W h g hT=>ValuesS_any p1 o1 ⟨i1.toArray⟩ ⟨s1.toArray⟩ f1 l1 ⟨⟨i1.toArray⟩,c⟩ p q v u W h g hT hl1 hcl (by rw [hcn];exact hcl) h3 hi1 hi1)
   have HFA:=Lib.hid (fun p q v u W h g hT=>FitsS_any p1 o1 ⟨i1.toArray⟩ ⟨s1.toArray⟩ f1 l1 ⟨⟨i1.toArray⟩,c⟩ p q v u W h g hT hl1 hcl (by rw [hcn];exact hcl) h3 hi1 hi1)
   rw [show (⟨s1.toArray⟩:ByteArray).data.toList=s1 from rfl,hcn,h2] at HVA HFA
   dsimp only at HVA HFA
   have hsm:insEq ⟨⟨i1.toArray⟩,c⟩ ⟨⟨i1.toArray⟩,c⟩=true:=by simp [insEq]
   clear h1 h2 h3 h4 hfc hcn hcl hl1 hi1 hx1 hz hok
   go_upto_region 6 with (go_at_call 22;refine (HFS.out _ _ _ HS12.out).mono ?_;rintro e w3 ⟨⟨v3,rfl,ho3⟩,hb⟩;obtain ⟨va3,vc3,rfl⟩:=ho3.form;have H3:=Lib.hid ((H2.out.next hb).new 24 #[.string ⟨i1.toArray⟩,.slice va3 c.length vc3]);have HS3:=Lib.hid ((HS2.out.below hb).alloc (.cells #[.string ⟨i1.toArray⟩,.slice va3 c.length vc3] 24));have HS13:=Lib.hid ((HS12.out.below hb).alloc (.cells #[.string ⟨i1.toArray⟩,.slice va3 c.length vc3] 24));have HC3:=Lib.hid (ho3.slR.alloc (.cells #[.string ⟨i1.toArray⟩,.slice va3 c.length vc3] 24));clear hb ho3 c0 c1 c2 c3 c4 c5 d0 d1)
   generalize hg3:w3.heap.size=g3 at *
   obtain ⟨W3,hW3⟩:∃W:World,W=w3.alloc (.cells #[.string ⟨i1.toArray⟩,.slice va3 c.length vc3] 24):=⟨_,rfl⟩
   rw [←hW3] at H3 HS3 HS13 HC3 ⊢
   clear hW3 hg3 HFS H2 HS2 HS12
   obtain ⟨c0,c1,c2,c3,c4,c5⟩:=(H3.out.blk 1 rfl).six
   obtain ⟨d0,d1⟩:=(H3.out.blk 3 rfl).pair
   go_upto_region 7 with (go_at_call 23;refine (HF9.out _ _ _ HS3.out).mono ?_;rintro e w4 ⟨⟨v4,rfl,ho4⟩,hb⟩;obtain ⟨va4,vc4,rfl⟩:=ho4.form;have H4:=Lib.hid ((H3.out.next hb).new 24 #[.string ⟨i1.toArray⟩,.slice va4 c.length vc4]);have HS14:=Lib.hid ((HS13.out.below hb).alloc (.cells #[.string ⟨i1.toArray⟩,.slice va4 c.length vc4] 24));have HC4:=Lib.hid ((HC3.out.below hb).alloc (.cells #[.string ⟨i1.toArray⟩,.slice va4 c.length vc4] 24));have HD4:=Lib.hid ((Own.slR (q:=fun _=>True) ho4 (fun _ h=>h.elim) (fun _ _=>trivial)).alloc (.cells #[.string ⟨i1.toArray⟩,.slice va4 c.length vc4] 24));clear hb ho4 c0 c1 c2 c3 c4 c5 d0 d1)
   generalize hg4:w4.heap.size=g4 at *
   obtain ⟨W4,hW4⟩:∃W:World,W=w4.alloc (.cells #[.string ⟨i1.toArray⟩,.slice va4 c.length vc4] 24):=⟨_,rfl⟩
   rw [←hW4] at H4 HS14 HC4 HD4 ⊢
   clear hW4 hg4 HF9 H3 HS3 HS13 HC3
   obtain ⟨c0,c1⟩:=(H4.out.blk 0 rfl).pair
   obtain ⟨d0,d1⟩:=(H4.out.blk 1 rfl).pair
   go_upto_region 11 with (go_at_call 24;refine (HSM.out _ _ ⟨⟨i1.toArray⟩,c⟩ ⟨⟨i1.toArray⟩,c⟩ _ _ _ HC4.out HD4.out).mono ?_;rintro e w5 ⟨rfl,hb⟩;rw [hsm];have H5:=Lib.hid (H4.out.next hb);have HS15:=Lib.hid (HS14.out.below hb);have HC5:=Lib.hid (HC4.out.below hb);clear hb c0 c1 d0 d1)
   obtain ⟨c0,c1,c2,c3,c4,c5⟩:=(H5.out.blk 3 rfl).six
   obtain ⟨d0,d1⟩:=(H5.out.blk 1 rfl).pair
   go_upto_region 12 with (go_at_call 16;refine (HVA.out _ _ _ _ _ HS15.out HC5.out (HT.out.below H5.out.below)).mono ?_;rintro e w6 ⟨rfl,hb⟩;have H6:=Lib.hid (H5.out.next hb);have HS16:=Lib.hid (HS15.out.below hb);have HC6:=Lib.hid (HC5.out.below hb);clear hb c0 c1 c2 c3 c4 c5 d0 d1)
   go_wp2_with (first
    | (go_at_call 15;refine (HAL.out _ (HT.out.below H6.out.below)).mono ?_;rintro e w7 ⟨rfl,hb⟩;have H7:=Lib.hid (H6.out.next hb);have HS17:=Lib.hid (HS16.out.below hb);have HC7:=Lib.hid (HC6.out.below hb);obtain ⟨c0,c1,c2,c3,c4,c5⟩:=(H7.out.blk 3 rfl).six;obtain ⟨d0,d1⟩:=(H7.out.blk 1 rfl).pair;clear hb)
    | (go_at_call 18;refine (HFA.out _ _ _ _ _ HS17.out HC7.out (HT.out.below H7.out.below)).mono ?_;rintro e w8 ⟨rfl,hb⟩;have H8:=Lib.hid (H7.out.next hb);obtain ⟨b0,b1⟩:=(H8.out.blk 4 rfl).pair;clear hb))
   go_ret
   exact ⟨rfl,H8.out.below⟩
end Go.Proofs.YtaolnefplefjnaaGreatDoor
namespace Go.Proofs.YtaolnefplefjnaaGreatDoor
set_option maxHeartbeats 8000000
set_option maxRecDepth 100000
open Go.RowKit Go.Shelf Go.Sort
theorem Blk.free6 {w:World} {b:Nat} {t:TypeId} {x0 x1 x2 x3 x4 x5:Value} (h:Blk w b t #[x0,x1,x2,x3,x4,x5]):
  w.frozen? ⟨b,0,none⟩=false∧w.frozen? ⟨b,1,none⟩=false∧w.frozen? ⟨b,2,none⟩=false∧w.frozen? ⟨b,3,none⟩=false∧w.frozen? ⟨b,4,none⟩=false∧w.frozen? ⟨b,5,none⟩=false:=⟨h.free 0,h.free 1,h.free 2,h.free 3,h.free 4,h.free 5⟩
theorem Fr.set6 {w0 W:World} {L:List (Nat × TypeId × Array Value)} {b:Nat} {t:TypeId} {x0 x1 x2 x3 x4 x5:Value} (h:Fr w0 ((b,t,#[x0,x1,x2,x3,x4,x5])::L) W) (hb:w0.heap.size≤b) (hn:∀x∈L,x.1≠b) (a0 a1 a2 a3 a4 a5:Value):
  Fr w0 ((b,t,#[a0,a1,a2,a3,a4,a5])::L) ((((((W.setCell ⟨b,0,none⟩ a0).setCell ⟨b,1,none⟩ a1).setCell ⟨b,2,none⟩ a2).setCell ⟨b,3,none⟩ a3).setCell ⟨b,4,none⟩ a4).setCell ⟨b,5,none⟩ a5):=
 (((((h.set hb hn 0 a0).set hb hn 1 a1).set hb hn 2 a2).set hb hn 3 a3).set hb hn 4 a4).set hb hn 5 a5
def pre9 (c:List Opd) (j k:Nat):List EntV:=((pg9 c).take j).flatMap entsF++entsK (firstF c+j) k
theorem pg9_len (c:List Opd):lastF c=firstF c+(pg9 c).length - 1∧(pg9 c).length≤4∧0≤firstF c∧firstF c≤3:=by
 unfold lastF firstF pg9
 cases c.any ixO<;>decide
theorem pg9_at (c:List Opd) (j:Nat) (h:j < (pg9 c).length):(pg9 c)[j]=firstF c+j:=by
 revert h
 unfold firstF pg9
 cases c.any ixO
 ·intro h
  have:j=0∨j=1∨j=2:=by have:j < 3:=h;omega
  rcases this with rfl | rfl | rfl<;>rfl
 ·intro h
  have:j=0∨j=1∨j=2∨j=3:=by have:j < 4:=h;omega
  rcases this with rfl | rfl | rfl | rfl<;>rfl
theorem flat_take9 (L:List Int) (k:Nat) (h:k < L.length):(L.take (k+1)).flatMap entsF=(L.take k).flatMap entsF++entsF L[k]:=by
 rw [List.take_succ_eq_append_getElem h,List.flatMap_append];simp
theorem pre9_next (c:List Opd) (j:Nat) (h:j < (pg9 c).length):pre9 c j 256=pre9 c (j+1) 0:=by
 unfold pre9
 rw [flat_take9 _ _ h,pg9_at c j h]
 show _=_++[]
 rw [List.append_nil];rfl
theorem pre9_end (c:List Opd):pre9 c (pg9 c).length 0=all9 c:=by
 unfold pre9 all9
 rw [List.take_length]
 exact List.append_nil _
theorem pre9_no {c:List Opd} {j k:Nat} (h:(atF (firstF c+j) k).1=none):pre9 c j (k+1)=pre9 c j k:=by unfold pre9;rw [entsK_no h]
theorem pre9_yes {c:List Opd} {j k:Nat} {x:EntV} (h:(atF (firstF c+j) k).1=some x):pre9 c j (k+1)=pre9 c j k++[x]:=by unfold pre9;rw [entsK_yes h,List.append_assoc]
theorem entsK_pre (p:Int) {m k:Nat} (h:k≤m):entsK p k <+: entsK p m:=by
 induction m with
 | zero=>
  have:k=0:=by omega
  subst this;exact List.prefix_rfl
 | succ m ih=>
  by_cases e:k=m+1
  ·subst e;exact List.prefix_rfl
  ·refine List.IsPrefix.trans (ih (by omega)) ?_
   unfold entsK
   rw [List.range_succ,List.filterMap_append]
   exact List.prefix_append _ _
theorem pre9_pre (c:List Opd) {j k:Nat} (hj:j < (pg9 c).length) (hk:k≤256):pre9 c j k <+: all9 c:=by
 unfold pre9 all9
 refine List.IsPrefix.trans (l₂:=((pg9 c).take (j+1)).flatMap entsF) ?_ ?_
 ·rw [flat_take9 _ _ hj,pg9_at c j hj]
  exact List.prefix_append_right_inj _ |>.2 (entsK_pre _ hk)
 ·have:=List.take_append_drop (j+1) (pg9 c)
  refine ⟨((pg9 c).drop (j+1)).flatMap entsF,?_⟩
  rw [←List.flatMap_append,this]
theorem ent9_at {c:List Opd} {j k:Nat} {x:EntV} (hj:j < (pg9 c).length) (hk:k < 256) (h:(atF (firstF c+j) k).1=some x):EntOk x∧(⟨x.ex.toArray⟩:ByteArray).size≤10:=by
 obtain ⟨p,hp,e⟩:∃p:Nat,p < 7∧firstF c+(j:Int)=p:=⟨(firstF c+j).toNat,by have:=pg9_len c;omega,by have:=pg9_len c;omega⟩
 rw [e] at h
 exact ⟨ent_at hk h,exs_at hp hk h⟩
theorem OpdOwn.far6 {w:World} {q:Blocks} {v:Value} {l:List Opd} (h:OpdOwn w q v l) {b:Nat} (hq:∀k,q k→k≠b) (a0 a1 a2 a3 a4 a5:Value):
  OpdOwn ((((((w.setCell ⟨b,0,none⟩ a0).setCell ⟨b,1,none⟩ a1).setCell ⟨b,2,none⟩ a2).setCell ⟨b,3,none⟩ a3).setCell ⟨b,4,none⟩ a4).setCell ⟨b,5,none⟩ a5) q v l:=
 (((((h.far hq a0).far hq a1).far hq a2).far hq a3).far hq a4).far hq a5
def Trd (t:ByteArray) (c:List Opd) (L:List EntV) (u:Value):Prop:=(∀z∈L,hitE t c z=false)∧u=.int .i64 (codeE t c L)
theorem Trd.none {t:ByteArray} {c:List Opd} {j k:Nat} {u:Value} (h:Trd t c (pre9 c j k) u) (hx:(atF (firstF c+j) k).1=none):Trd t c (pre9 c j (k+1)) u:=by rw [pre9_no hx];exact h
theorem Trd.far {t:ByteArray} {c:List Opd} {j k:Nat} {u:Value} {x:EntV} (h:Trd t c (pre9 c j k) u) (hx:(atF (firstF c+j) k).1=some x) (hn:nearE t c x=false):Trd t c (pre9 c j (k+1)) u:=by
 have hh:hitE t c x=false:=by unfold hitE;rw [hn];rfl
 rw [pre9_yes hx]
 exact ⟨no_snoc h.1 hh,by rw [codeE_snoc,hn];exact h.2⟩
theorem Trd.near {t:ByteArray} {c:List Opd} {j k:Nat} {u:Value} {x:EntV} (h:Trd t c (pre9 c j k) u) (hx:(atF (firstF c+j) k).1=some x) (hn:nearE t c x=true) (hh:hitE t c x=false):Trd t c (pre9 c j (k+1)) (.int .i64 2):=by
 rw [pre9_yes hx]
 exact ⟨no_snoc h.1 hh,by rw [codeE_snoc,hn];rfl⟩
theorem Find9_any (p:Blocks) (x:Ins) (v:Value) (w:World) (h:SlR opdR w p v x.args) (hn:x.args.length≤1000000) (hf:∀y∈x.args,fits64 y.n):
  Calls Tryz.prog 20 #[.agg #[.string x.op,v]] w (FindQ w (findR x)):=by
 have HCH:=Lib.hid (fun W (hb:RowKit.Below w.heap.size w W)=>check07_any p x v W (h.below hb))
 have HOf:=Lib.hid (fun W (hb:RowKit.Below w.heap.size w W)=>ref08Of_any p x v W (h.below hb) hn hf)
 have HFT:=Lib.hid (fun s ex al l p2 v2 W (hb:RowKit.Below w.heap.size w W) h2 hex pg op=>Fits10_any pg op s ex al l x p2 p v2 v W h2 (h.below hb) hn hf hex)
 have HNO:Hid (¬check07 x=0→findR x=(none,check07 x)):=Lib.hid (fun h=>by rw [←find9_eq];exact if_neg h)
 have HHIT:Hid (check07 x=0→∀pre e,pre++[e] <+: all9 (canonOf x).args→(∀z∈pre,hitE x.op (canonOf x).args z=false)→hitE x.op (canonOf x).args e=true→findR x=(some e,0)):=Lib.hid (fun h pre e h1 h2 h3=>by
  rw [←find9_eq];unfold find9;rw [if_pos h,find_stop h1 h2 h3])
 have HEND:Hid (check07 x=0→(∀z∈all9 (canonOf x).args,hitE x.op (canonOf x).args z=false)→findR x=(none,codeE x.op (canonOf x).args (all9 (canonOf x).args))):=Lib.hid (fun h h1=>by
  rw [←find9_eq];unfold find9;rw [if_pos h,List.find?_eq_none.2 (fun z hz=>by rw [h1 z hz];decide)])
 have HS:=Lib.hid h
 obtain ⟨va,vc,rfl⟩:∃a c,v=.slice a x.args.length c:=by obtain ⟨a,c,e,_⟩:=h;exact ⟨a,c,e⟩
 clear h hn hf
 obtain ⟨t,m⟩:=x
 dsimp only at *
 generalize (canonOf ⟨t,m⟩).args=cn at *
 generalize check07 ⟨t,m⟩=ck at *
 generalize findR ⟨t,m⟩=R at *
 have HF:=Lib.hid (((Fr.start w).new 24 #[.string t,.slice va m.length vc]).new' 29 #[.int .i64 0,.int .u8 0,.string ⟨#[]⟩,.slice none 0 0,.string ⟨#[]⟩,.bool false] (World.size_alloc _ _))
 obtain ⟨W0,hW0⟩:∃W0:World,W0=((w.alloc (.cells #[.string t,.slice va m.length vc] 24)).alloc (.cells #[.int .i64 0,.int .u8 0,.string ⟨#[]⟩,.slice none 0 0,.string ⟨#[]⟩,.bool false] 29)):=⟨_,rfl⟩
 rw [←hW0] at HF
 go_enter Tryz.func20,Tryz.ntmps20
 go_upto_region 1 with fail
 rw [←hW0]
 clear hW0
 have a0:=(HF.out.blk 1 rfl).cell 0
 have a1:=(HF.out.blk 1 rfl).cell 1
 have HC1:=Lib.hid (HCH.out _ HF.out.below)
 by_cases hck:ck=0
 rotate_left
 ·have HR:=Lib.hid (HNO.out hck)
  have bck2:(ck != 0)=true:=by rw [bne_iff_ne];exact hck
  clear HNO HHIT HEND
  go_upto_region 3 with (go_at_call 60;refine HC1.out.mono ?_;rintro e w1 ⟨rfl,hb1⟩;have HF1:=Lib.hid (HF.out.next hb1);obtain ⟨r0,r1,r2,r3,r4,r5⟩:=(HF1.out.blk 0 rfl).six;obtain ⟨s0,s1,s2,s3,s4,s5⟩:=(HF1.out.blk 0 rfl).free6;clear a0 a1 hb1)
  have HE:=Lib.hid ((HF1.out.set6 (Nat.le_succ _) (fun x hx=>by simp only [List.mem_singleton] at hx;subst hx;exact Nat.ne_of_lt (Nat.lt_succ_self _)) (.int .i64 0) (.int .u8 0) (.string ⟨#[]⟩) (.slice none 0 0) (.string ⟨#[]⟩) (.bool false)))
  go_wp2
  exact bodyPost_ret (at9_end rfl rfl (HE.out.blk 0 rfl)) rfl (by rw [HR.out];exact ⟨rfl,HE.out.below⟩)
 ·have HHT:=Lib.hid (HHIT.out hck)
  have HEN:=Lib.hid (HEND.out hck)
  subst hck
  clear HNO HHIT HEND
  go_upto_region 4 with (go_at_call 60;refine HC1.out.mono ?_;rintro e w1 ⟨rfl,hb1⟩;have HF1:=Lib.hid (HF.out.next hb1);obtain ⟨a0,a1⟩:=(HF1.out.blk 1 rfl).pair;clear hb1)
  have HO1:=Lib.hid (HOf.out _ HF1.out.below)
  clear HCH HC1 HOf
  go_upto_region 6 with (go_at_call 26;refine HO1.out.mono ?_;rintro e w2 ⟨v2,rfl,ho2,hb2⟩;obtain ⟨va2,vc2,rfl⟩:=ho2.form;have HF2:=Lib.hid ((HF1.out.next hb2).new 24 #[.string t,.slice va2 cn.length vc2]);have HS2:=Lib.hid (ho2.slR.alloc (.cells #[.string t,.slice va2 cn.length vc2] 24));clear hb2 ho2)
  clear HO1 HF HF1 a0 a1
  generalize hg2:w2.heap.size=g2 at *
  obtain ⟨W2,hW2⟩:∃W:World,W=w2.alloc (.cells #[.string t,.slice va2 cn.length vc2] 24):=⟨_,rfl⟩
  rw [←hW2] at HF2 HS2 ⊢
  clear hW2 hg2
  have hgl:=(HF2.out.blk 0 rfl).lt
  have HFS:=Lib.hid (fun W (hb:RowKit.Below W2.heap.size W2 W)=>first_any t cn _ _ W (HS2.out.below hb))
  have HLS:=Lib.hid (fun W (hb:RowKit.Below W2.heap.size W2 W)=>last_any t cn _ _ W (HS2.out.below hb))
  have HPL:=Lib.hid (pg9_len cn)
  obtain ⟨d0,d1⟩:=(HF2.out.blk 0 rfl).pair
  go_upto_region 7 with (go_at_call 61;refine (HFS.out _ (Below.refl _ _)).mono ?_;rintro e w3 ⟨rfl,hb3⟩;have HB3:=Lib.hid hb3;clear hb3 d0 d1)
  go_loopw [6,7] (fun c i wr=>∃j:Nat,j≤(pg9 cn).length∧i=.int .i64 (firstF cn+j)∧Trd t cn (pre9 cn j 0) c∧Below W2.heap.size W2 wr) (fun _ i _=>(lastF cn+1 - intOf i).toNat)
  case atStart=>exact ⟨0,Nat.zero_le _,by rw [Int.ofNat_zero,Int.add_zero],⟨show ∀z∈([]:List EntV),hitE t cn z=false from (by simp),rfl⟩,HB3.out⟩
  case round=>
   obtain ⟨j,hj,rfl,htr,hb⟩:=hrel
   have HTR:=Lib.hid htr
   have HB:=Lib.hid hb
   have hcc:=htr.2
   subst hcc
   clear HB3 htr hb
   obtain ⟨d0,d1⟩:=((HF2.out.next HB.out).blk 0 rfl).pair
   by_cases hlt:j < (pg9 cn).length
   ·have hle:firstF cn+(j:Int)≤lastF cn:=by have:=HPL.out;omega
    have HLT:=Lib.hid hlt
    go_wp2_with (go_at_call 62;refine (HLS.out _ HB.out).mono ?_;rintro e w4 ⟨rfl,hb4⟩;have HB4:=Lib.hid (HB.out.trans (hb4.mono HB.out.size));clear hb4 d0 d1)
    go_loopw [6,8] (fun c i wr=>∃k:Nat,k≤256∧i=.int .i64 k∧Trd t cn (pre9 cn j k) c∧Below W2.heap.size W2 wr) (fun _ i _=>(256 - intOf i).toNat)
    case atStart=>exact ⟨0,Nat.zero_le _,rfl,HTR.out,HB4.out⟩
    case round=>
     obtain ⟨k,hk,rfl,htr,hb⟩:=hrel
     clear HTR HB4 HB
     have HTR:=Lib.hid htr
     have HB:=Lib.hid hb
     have hcc:=htr.2
     subst hcc
     clear htr hb
     by_cases hlk:k < 256
     ·have hcv:IntKind.u8.wrap (k:Int)=k:=IntWalk.u8_in _ (by omega)
      have HA:=Lib.hid (fun W=>AtRef_any (firstF cn+j) k hlk W)
      have HKD:=Lib.hid (atF_kind (firstF cn+j) k)
      have HY0:=Lib.hid (fun h=>HTR.out.none h)
      have HYF:=Lib.hid (fun x h hn=>HTR.out.far (x:=x) h hn)
      have HYN:=Lib.hid (fun x h hn hh=>HTR.out.near (x:=x) h hn hh)
      have HYH:=Lib.hid (fun x h hh=>HHT.out (pre9 cn j k) x (by rw [←pre9_yes h];exact pre9_pre cn HLT.out hlk) HTR.out.1 hh)
      have HEX:=Lib.hid (fun x h=>ent9_at (x:=x) HLT.out hlk h)
      generalize atF (firstF cn+j) k=r at *
      obtain ⟨x,kk⟩:=r
      dsimp only at *
      rcases x with _ | x
      ·have hk1:¬kk=1:=by rcases HKD.out.2 rfl with h | h | h<;>omega
       have HY:=Lib.hid (HY0.out rfl)
       clear HKD HY0 HYF HYN HTR HYH HEX
       go_wp2_with fail
       refine (HA.out _).mono ?_
       rintro e w5 ⟨he,hb5⟩
       subst he
       have HB5:=Lib.hid ((HB.out.trans (hb5.mono HB.out.size)).alloc (by have:=hb5.size;have:=HB.out.size;omega) (.cells #[.int .i64 0,.int .u8 0,.string ⟨#[]⟩,.slice none 0 0,.string ⟨#[]⟩,.bool false] 29))
       clear hb5
       unfold ent0
       go_wp2
       go_round
       case rel=>exact ⟨k+1,hlk,by go_num,HY.out,HB5.out⟩
       case measure=>simp [intOf];omega
      ·obtain rfl:kk=1:=HKD.out.1 _ rfl
       obtain ⟨hok,hx1⟩:=HEX.out x rfl
       have hfo:=fits_ok hok (t:=t) (c:=cn)
       obtain ⟨p1,o1,i1,l1,s1,f1⟩:=x
       dsimp only at hx1 hfo
       have HYX:Hid (f1=true∨shF ⟨i1.toArray⟩ t l1 cn=false→Trd t cn (pre9 cn j (k+1)) (.int .i64 (codeE t cn (pre9 cn j k)))):=Lib.hid (fun h=>HYF.out _ rfl (by
        unfold nearE
        rcases h with h | h<;>dsimp only<;>rw [h]
        ·rfl
        ·exact Bool.and_false _))
       have hne:f1=false→shF ⟨i1.toArray⟩ t l1 cn=true→nearE t cn ⟨p1,o1,i1,l1,s1,f1⟩=true:=fun h1 h2=>by unfold nearE;dsimp only;rw [h1,h2];rfl
       have HYW:Hid (f1=false→shF ⟨i1.toArray⟩ t l1 cn=true→fitsC ⟨i1.toArray⟩ t s1 l1 cn=false→Trd t cn (pre9 cn j (k+1)) (.int .i64 2)):=Lib.hid (fun h1 h2 h3=>HYN.out _ rfl (hne h1 h2) (by unfold hitE;rw [hne h1 h2,hfo,h3];rfl))
       have HYZ:Hid (f1=false→shF ⟨i1.toArray⟩ t l1 cn=true→fitsC ⟨i1.toArray⟩ t s1 l1 cn=true→R=(some ⟨p1,o1,i1,l1,s1,f1⟩,0)):=Lib.hid (fun h1 h2 h3=>HYH.out _ rfl (by unfold hitE;rw [hne h1 h2,hfo,h3];rfl))
       have hx1:(⟨s1.toArray⟩:ByteArray).size≤9223372036854775807:=Nat.le_trans hx1 (by decide)
       obtain ⟨S,hS⟩:∃S:ByteArray,S=⟨i1.toArray⟩:=⟨_,rfl⟩
       rw [←hS] at HYX HYW HYZ
       have HSS:=Lib.hid hS
       clear HKD HY0 HYF HYN HTR HYH HEX hok hne hfo hS
       go_wp2_with fail
       refine (HA.out _).mono ?_
       rintro e w5 ⟨⟨v5,rfl,ho5⟩,hb5⟩
       obtain ⟨va,vc,rfl⟩:=ho5.form
       unfold entVal
       dsimp only at *
       rw [←HSS.out]
       have hsz:=HB.out.size
       have H5:=Lib.hid (((Fr.start W2).next (HB.out.trans (hb5.mono HB.out.size))).new 29 #[.int .i64 p1,.int .u8 o1,.string S,.slice va l1.length vc,.string ⟨s1.toArray⟩,.bool f1])
       have HS5:=Lib.hid (ho5.below ((Below.refl _ _).alloc (Nat.le_refl _) (.cells #[.int .i64 p1,.int .u8 o1,.string S,.slice va l1.length vc,.string ⟨s1.toArray⟩,.bool f1] 29)))
       clear hb5 ho5
       go_upto_region 13 with fail
       generalize hg5:w5.heap.size=g5 at *
       obtain ⟨W5,hW5⟩:∃W:World,W=w5.alloc (.cells #[.int .i64 p1,.int .u8 o1,.string S,.slice va l1.length vc,.string ⟨s1.toArray⟩,.bool f1] 29):=⟨_,rfl⟩
       rw [←hW5] at H5 HS5 ⊢
       clear hW5 hg5
       obtain ⟨c0,c1,c2,c3,c4,c5⟩:=(H5.out.blk 0 rfl).six
       obtain ⟨d0,d1⟩:=((HF2.out.next H5.out.below).blk 0 rfl).pair
       obtain ⟨e0,e1⟩:=((HF2.out.next H5.out.below).blk 2 rfl).pair
       cases f1
       rotate_left
       ·have HY:=Lib.hid (HYX.out (.inl rfl))
        clear HYX HYW HYZ
        go_wp2
        go_round
        case rel=>exact ⟨k+1,hlk,by go_num,HY.out,H5.out.below⟩
        case measure=>simp [intOf];omega
       cases hq:(S.toList==t.toList)
       ·have HY:=Lib.hid (HYX.out (.inr (shF_op hq)))
        clear HYX HYW HYZ
        go_wp2
        go_round
        case rel=>exact ⟨k+1,hlk,by go_num,HY.out,H5.out.below⟩
        case measure=>simp [intOf];omega
       cases hsh:shF S t l1 cn
       ·have HY:=Lib.hid (HYX.out (.inr hsh))
        clear HYX HYW HYZ
        go_wp2_with (go_at_call 58;refine (shaped9_any p1 o1 S ⟨s1.toArray⟩ t false l1 cn _ _ _ _ _ HS5.out.slR (HS2.out.below H5.out.below)).mono ?_;rintro e w6 ⟨rfl,hb⟩;rw [hsh];have H6:=Lib.hid (H5.out.next hb);have HS6:=Lib.hid (HS5.out.below hb);obtain ⟨c0,c1,c2,c3,c4,c5⟩:=(H6.out.blk 0 rfl).six;obtain ⟨e0,e1⟩:=((HF2.out.next H6.out.below).blk 2 rfl).pair;clear hb)
        go_round
        case rel=>exact ⟨k+1,hlk,by go_num,HY.out,H6.out.below⟩
        case measure=>simp [intOf];omega
       cases hfc:fitsC S t s1 l1 cn
       ·have HY:=Lib.hid (HYW.out rfl hsh hfc)
        clear HYX HYW HYZ
        go_wp2_with (first | (go_at_call 58;refine (shaped9_any p1 o1 S ⟨s1.toArray⟩ t false l1 cn _ _ _ _ _ HS5.out.slR (HS2.out.below H5.out.below)).mono ?_;rintro e w6 ⟨rfl,hb⟩;rw [hsh];have H6:=Lib.hid (H5.out.next hb);have HS6:=Lib.hid (HS5.out.below hb);obtain ⟨c0,c1,c2,c3,c4,c5⟩:=(H6.out.blk 0 rfl).six;obtain ⟨e0,e1⟩:=((HF2.out.next H6.out.below).blk 2 rfl).pair;clear hb) | (go_at_call 19;refine (HFT.out S ⟨s1.toArray⟩ false l1 _ _ _ (HF2.out.next H6.out.below).below HS6.out.slR hx1 p1 o1).mono ?_;rintro e w7 ⟨rfl,hb⟩;rw [show (⟨s1.toArray⟩:ByteArray).data.toList=s1 from rfl,hfc];have H7:=Lib.hid (H6.out.next hb);have HS7:=Lib.hid (HS6.out.below hb);obtain ⟨c0,c1,c2,c3,c4,c5⟩:=(H7.out.blk 0 rfl).six;obtain ⟨r0,r1,r2,r3,r4,r5⟩:=((HF2.out.next H7.out.below).blk 1 rfl).six;obtain ⟨s0,s1',s2,s3,s4,s5⟩:=((HF2.out.next H7.out.below).blk 1 rfl).free6;clear hb))
        go_round
        case rel=>exact ⟨k+1,hlk,by go_num,HY.out,H7.out.below⟩
        case measure=>simp [intOf];omega
       ·have HY:=Lib.hid (HYZ.out rfl hsh hfc)
        clear HYX HYW HYZ
        go_wp2_with (first | (go_at_call 58;refine (shaped9_any p1 o1 S ⟨s1.toArray⟩ t false l1 cn _ _ _ _ _ HS5.out.slR (HS2.out.below H5.out.below)).mono ?_;rintro e w6 ⟨rfl,hb⟩;rw [hsh];have H6:=Lib.hid (H5.out.next hb);have HS6:=Lib.hid (HS5.out.below hb);obtain ⟨c0,c1,c2,c3,c4,c5⟩:=(H6.out.blk 0 rfl).six;obtain ⟨e0,e1⟩:=((HF2.out.next H6.out.below).blk 2 rfl).pair;clear hb) | (go_at_call 19;refine (HFT.out S ⟨s1.toArray⟩ false l1 _ _ _ (HF2.out.next H6.out.below).below HS6.out.slR hx1 p1 o1).mono ?_;rintro e w7 ⟨rfl,hb⟩;rw [show (⟨s1.toArray⟩:ByteArray).data.toList=s1 from rfl,hfc];have H7:=Lib.hid (H6.out.next hb);have HS7:=Lib.hid (HS6.out.below hb);obtain ⟨c0,c1,c2,c3,c4,c5⟩:=(H7.out.blk 0 rfl).six;obtain ⟨r0,r1,r2,r3,r4,r5⟩:=((HF2.out.next H7.out.below).blk 1 rfl).six;obtain ⟨s0,s1',s2,s3,s4,s5⟩:=((HF2.out.next H7.out.below).blk 1 rfl).free6;clear hb))
        have HE:=Lib.hid (((HF2.out.next H7.out.below).sub (M:=[(w.heap.size+1,29,#[.int .i64 0,.int .u8 0,.string ⟨#[]⟩,.slice none 0 0,.string ⟨#[]⟩,.bool false])]) (by simp)).set6 (Nat.le_succ _) (fun x hx=>by cases hx) (.int .i64 p1) (.int .u8 o1) (.string S) (.slice va l1.length vc) (.string ⟨s1.toArray⟩) (.bool false))
        have hlt1:=(HF2.out.blk 1 rfl).lt
        exact bodyPost_ret (at9_end rfl rfl (HE.out.blk 0 rfl)) rfl (by rw [HY.out];exact ⟨⟨_,_,by rw [HSS.out];rfl,(HS7.out.far6 (fun k hk=>by omega) _ _ _ _ _ _).slR⟩,HE.out.below⟩)
     ·obtain rfl:k=256:=by omega
      have hw:wrap64 (firstF cn+(j:Int)+1)=firstF cn+((j+1:Nat):Int):=by have:=HPL.out;have:=HLT.out;rw [Int.natCast_add];unfold wrap64;omega
      go_wp2
      go_round
      case rel=>exact ⟨j+1,HLT.out,by rw [hw],by rw [←pre9_next cn j HLT.out];exact HTR.out,HB.out⟩
      case measure=>simp only [intOf];rw [hw];omega
   ·obtain rfl:j=(pg9 cn).length:=by omega
    have hle:¬firstF cn+((pg9 cn).length:Int)≤lastF cn:=by have:=HPL.out;omega
    go_wp2_with (go_at_call 62;refine (HLS.out _ HB.out).mono ?_;rintro e w4 ⟨rfl,hb4⟩;have HF4:=Lib.hid ((HF2.out.next (HB.out.trans (hb4.mono HB.out.size))).sub (M:=[(w.heap.size+1,29,#[.int .i64 0,.int .u8 0,.string ⟨#[]⟩,.slice none 0 0,.string ⟨#[]⟩,.bool false])]) (by simp));obtain ⟨r0,r1,r2,r3,r4,r5⟩:=(HF4.out.blk 0 rfl).six;obtain ⟨s0,s1,s2,s3,s4,s5⟩:=(HF4.out.blk 0 rfl).free6;clear hb4 d0 d1)
    have HE:=Lib.hid (HF4.out.set6 (Nat.le_succ _) (fun x hx=>by cases hx) (.int .i64 0) (.int .u8 0) (.string ⟨#[]⟩) (.slice none 0 0) (.string ⟨#[]⟩) (.bool false))
    exact bodyPost_ret (at9_end rfl rfl (HE.out.blk 0 rfl)) rfl (by rw [HEN.out (by rw [←pre9_end];exact HTR.out.1),←pre9_end];exact ⟨rfl,HE.out.below⟩)
end Go.Proofs.YtaolnefplefjnaaGreatDoor
namespace Go.Proofs.YtaolnefplefjnaaGreatDoor
set_option maxHeartbeats 8000000
set_option maxRecDepth 100000
open Go.RowKit Go.Shelf Go.Sort
structure Mild (x:Ins):Prop where
 op:x.op.size≤100
 n:x.args.length≤20
 f:∀y∈x.args,fits64 y.n
theorem Mild.find {x:Ins} (m:Mild x) (p:Blocks) (v:Value) (w:World) (h:SlR opdR w p v x.args) (hT:Spc w):Calls Tryz.prog 25 #[.agg #[.string x.op,v]] w (FindQ w (findR x)):=
 Find_any p x v w h hT (by have:=m.op;omega) (by have:=m.n;omega) (by have:=m.n;have:=canon_len10 x;omega) m.f
def legB (x:Ins):Bool:=(findR x).2==0
theorem leg1_any (x:Ins) (m:Mild x) (p:Blocks) (v:Value) (w:World) (h:SlR opdR w p v x.args) (hT:Spc w):
  Calls Tryz.prog 64 #[.agg #[.string x.op,v]] w fun e w'=>e=.returned (.bool (!legB x))∧Below w.heap.size w w':=by
 have HX:=Lib.hid (fun W (hb:RowKit.Below w.heap.size w W)=>m.find p v W (h.below hb) (hT.below hb))
 have HL:Hid (legB x=((findR x).2==0)):=Lib.hid rfl
 generalize legB x=L at *
 generalize findR x=R at *
 obtain ⟨va,vc,rfl⟩:∃a c,v=.slice a x.args.length c:=by obtain ⟨a,c,e,_⟩:=h;exact ⟨a,c,e⟩
 obtain ⟨t,l⟩:=x
 clear h hT m
 dsimp only at *
 obtain ⟨o,k⟩:=R
 dsimp only at HL
 have HF:=Lib.hid ((Fr.start w).new 24 #[.string t,.slice va l.length vc])
 cases o
 ·go_enter Tryz.func64,Tryz.ntmps64
  go_wp2_with (go_at_call 25;refine (HX.out _ HF.out.below).mono ?_;rintro e w1 ⟨rfl,hb⟩;have H1:=Lib.hid ((HF.out.next hb).alloc (.cells #[.int .i64 0,.int .u8 0,.string ⟨#[]⟩,.slice none 0 0,.string ⟨#[]⟩,.bool false] 26));clear hb;unfold ent0)
  go_ret
  exact ⟨ret_bool (by rw [HL.out];rfl),H1.out.below⟩
 ·rename_i x
  obtain ⟨p1,o1,i1,l1,s1,f1⟩:=x
  go_enter Tryz.func64,Tryz.ntmps64
  go_wp2_with (go_at_call 25;refine (HX.out _ HF.out.below).mono ?_;rintro e w1 ⟨⟨v1,q1,rfl,hs⟩,hb⟩;have H1:=Lib.hid ((HF.out.next hb).alloc (.cells #[.int .i64 p1,.int .u8 o1,.string ⟨i1.toArray⟩,v1,.string ⟨s1.toArray⟩,.bool f1] 26));obtain ⟨va1,vc1,rfl⟩:∃a c,v1=.slice a l1.length c:=(by obtain ⟨a,c,e,_⟩:=hs;exact ⟨a,c,e⟩);clear hb hs;unfold entVal;dsimp only)
  go_ret
  exact ⟨ret_bool (by rw [HL.out];rfl),H1.out.below⟩
theorem idxL_any (p:Blocks) (v:Value) (l:List Ins) (w:World) (h:SlR insSR w p v l) (hT:Spc w) (hm:∀x∈l,Mild x):
  Calls Tryz.prog 108 #[v,.func (.func 64) #[] #[]] w fun e w'=>(∃r:Int,e=.returned (.int .i64 r)∧decide (0≤r)=l.any fun x=>!legB x)∧Below w.heap.size w w':=by
 have HL:=Lib.hid (fun x hx W (hb:RowKit.Below w.heap.size w W) p v h=>leg1_any x (hm x hx) p v W h (hT.below hb))
 have hl:=h.len_le
 have HS:=Lib.hid h
 obtain ⟨a,c,rfl,_,_,_⟩:=h.ins
 clear h hm hT
 go_enter Tryz.func108,Tryz.ntmps108
 go_wp2
 go_loopw [8] (fun i wr=>∃k:Nat,k≤l.length∧i=.int .i64 k∧(l.any fun x=>!legB x)=((l.drop k).any fun x=>!legB x)∧Below w.heap.size w wr) (fun i _=>l.length - (intOf i).toNat)
 case atStart=>exact ⟨0,Nat.zero_le _,rfl,rfl,Below.refl _ _⟩
 case round=>
  obtain ⟨k,hk,rfl,ht,hb⟩:=hrel
  have HT:=Lib.hid ht
  have HB:=Lib.hid hb
  clear ht hb
  by_cases hlt:k < l.length
  ·obtain ⟨a2,c2,e2,_,_,hg⟩:=(HS.out.below HB.out).ins
   injection e2 with e2 e3 e4
   clear e3
   subst e2 e4
   obtain ⟨b1,o1,va,rfl,_,d0,d1,hso⟩:=hg k l[k] (List.getElem?_eq_getElem hlt)
   have HD:=Lib.hid (List.drop_eq_getElem_cons hlt)
   have HVA:=Lib.hid (HL.out l[k] (List.getElem_mem hlt) _ HB.out _ _ hso)
   obtain ⟨ea,ec,rfl⟩:∃a c,va=.slice a l[k].args.length c:=by obtain ⟨a,c,e,_⟩:=hso;exact ⟨a,c,e⟩
   clear hg hso
   generalize l[k]=x at *
   obtain ⟨t,m⟩:=x
   dsimp only at *
   cases hvx:legB ⟨t,m⟩
   all_goals
    rw [hvx] at HVA
    have HVX:=Lib.hid hvx
    clear hvx
   ·go_wp2_with (go_at_call 64;refine HVA.out.mono ?_;rintro e w2 ⟨rfl,hb⟩;have HB2:=Lib.hid (HB.out.trans (hb.mono HB.out.size));clear hb)
    go_ret
    exact ⟨⟨k,rfl,by rw [HT.out,HD.out,List.any_cons,HVX.out];simp⟩,HB2.out⟩
   ·go_wp2_with (go_at_call 64;refine HVA.out.mono ?_;rintro e w2 ⟨rfl,hb⟩;have HB2:=Lib.hid (HB.out.trans (hb.mono HB.out.size));clear hb)
    go_round
    case rel=>exact ⟨k+1,by omega,by go_num,by rw [HT.out,HD.out,List.any_cons,HVX.out];rfl,HB2.out⟩
    case measure=>simp [intOf];omega
  ·go_wp2
   go_ret
   exact ⟨⟨-1,rfl,by rw [HT.out,List.drop_of_length_le (by omega)];rfl⟩,HB.out⟩
theorem Legal_any (p:Blocks) (v:Value) (l:List Ins) (w:World) (h:SlR insSR w p v l) (hT:Spc w) (hm:∀x∈l,Mild x):
  Calls Tryz.prog 21 #[v] w fun e w'=>e=.returned (.bool (l.all legB))∧Below w.heap.size w w':=by
 have HI:=Lib.hid (idxL_any p v l w h hT hm)
 have hcnt:Calls Tryz.prog 63 #[v,.func (.func 64) #[] #[]] w fun e w'=>e=.returned (.bool (l.any fun x=>!legB x))∧Below w.heap.size w w':=by
  obtain ⟨a,c,rfl,_,_,_⟩:=h.ins
  clear h hm hT
  go_enter Tryz.func63,Tryz.ntmps63
  go_wp2_with (go_at_call 108;refine HI.out.mono ?_;rintro e w1 ⟨⟨r,rfl,hr⟩,hb⟩;have HR:=Lib.hid hr;have HB:=Lib.hid hb;clear hr hb)
  go_ret
  exact ⟨ret_bool HR.out,HB.out⟩
 have HC:=Lib.hid hcnt
 have hE:(!(l.any fun x=>!legB x))=l.all legB:=by rw [List.any_eq_not_all_not,Bool.not_not];congr 1;funext x;rw [Bool.not_not]
 have HE:=Lib.hid hE
 obtain ⟨a,c,rfl,_,_,_⟩:=h.ins
 clear hcnt HI hE h hm hT
 go_enter Tryz.func21,Tryz.ntmps21
 go_wp2_with (go_at_call 63;refine HC.out.mono ?_;rintro e w1 ⟨rfl,hb⟩;have HB:=Lib.hid hb;clear hb)
 go_ret
 exact ⟨ret_bool HE.out,HB.out⟩
end Go.Proofs.YtaolnefplefjnaaGreatDoor
namespace Go.Proofs.YtaolnefplefjnaaGreatDoor
set_option maxHeartbeats 8000000
set_option maxRecDepth 100000
open Go.RowKit Go.Shelf Go.Sort
theorem slR_ins1 {w:World} {b:Nat} {v:Value} {q:Blocks} {x:Ins} {t:TypeId} (hB:Blk w b t #[.string x.op,v]) (h:SlR opdR w q v x.args):SlR insSR w (fun _=>True) (.slice (some ⟨b,0,none⟩) 1 1) [x]:=by
 refine ⟨_,1,rfl,Nat.le_refl _,by decide,fun i y hy=>?_⟩
 match i,hy with
 | 0,hy=>
  obtain rfl:=Option.some.inj hy
  refine ⟨b,0,[.string x.op,v],rfl,trivial,hB.lt,fun j u hu=>?_,v,rfl,h.mono fun _ _=>trivial⟩
  match j,hu with
  | 0,hu=>obtain rfl:=Option.some.inj hu;exact hB.cell 0
  | 1,hu=>obtain rfl:=Option.some.inj hu;exact hB.cell 1
 | i+1,hy=>cases hy
theorem mild_of {x:Ins} (h:short8 x=true) (hf:∀y∈x.args,fits64 y.n):Mild x:=⟨(short10 h).1,(short10 h).2,hf⟩
theorem SearchBack_law (y:Ins) (q:Blocks) (u:Value) (w:World) (hy:SlR opdR w q u y.args) (hT:Spc w) (hf:∀z∈y.args,fits64 z.n):
  Calls Tryz.prog 6 #[.agg #[.string y.op,u]] w fun e w'=>e=.returned (.bool true)∧Below w.heap.size w w':=by
 have HAL:=Lib.hid (fun W (hb:RowKit.Below w.heap.size w W)=>alive10_any W (hT.below hb))
 have HSH:=Lib.hid (fun W (hb:RowKit.Below w.heap.size w W)=>short10_any q y u W (hy.below hb))
 obtain ⟨ua,uc,rfl⟩:∃a c,u=.slice a y.args.length c:=by obtain ⟨a,c,e,_⟩:=hy;exact ⟨a,c,e⟩
 have HI:=Lib.hid ((Fr.start w).new 24 #[.string y.op,.slice ua y.args.length uc])
 obtain ⟨W0,hW0⟩:∃W:World,W=w.alloc (.cells #[.string y.op,.slice ua y.args.length uc] 24):=⟨_,rfl⟩
 rw [←hW0] at HI
 cases hsh:short8 y
 ·clear hy hT hf
  go_enter Tryz.func6,Tryz.ntmps6
  go_upto_region 1 with fail
  rw [←hW0]
  clear hW0
  obtain ⟨a0,a1⟩:=(HI.out.blk 0 rfl).pair
  go_wp2_with (first
   | (go_at_call 14;refine (HSH.out _ HI.out.below).mono ?_;rintro e w3 ⟨rfl,hb⟩;rw [hsh];have H3:=Lib.hid (HI.out.next hb);clear hb)
   | (go_at_call 15;refine (HAL.out _ H3.out.below).mono ?_;rintro e w4 ⟨rfl,hb⟩;have H4:=Lib.hid (H3.out.next hb);clear hb))
  go_ret
  exact ⟨rfl,H4.out.below⟩
 ·have m:=mild_of hsh hf
  have HX:=Lib.hid (fun W (hb:RowKit.Below w.heap.size w W)=>m.find q (.slice ua y.args.length uc) W (hy.below hb) (hT.below hb))
  have HY:=Lib.hid hy
  have HT:=Lib.hid hT
  clear hy hT
  cases hR:findR y with
  | mk o k=>
  rw [hR] at HX
  cases o with
  | none=>
   have hk:¬k=0:=findR_none hR
   have HLG:=Lib.hid (fun W (hb:RowKit.Below w.heap.size w W) b t (hB:Blk W b t #[.string y.op,.slice ua y.args.length uc])=>Legal_any _ _ [y] W (slR_ins1 hB (HY.out.below hb)) (HT.out.below hb) (fun x hx=>by rw [List.mem_singleton] at hx;subst hx;exact m))
   have hlb:[y].all legB=false:=by rw [List.all_cons,List.all_nil,Bool.and_true];unfold legB;rw [hR];exact beq_eq_false_iff_ne.2 hk
   rw [hlb] at HLG
   clear hlb hf m hR
   go_enter Tryz.func6,Tryz.ntmps6
   go_upto_region 1 with fail
   rw [←hW0]
   clear hW0
   obtain ⟨a0,a1⟩:=(HI.out.blk 0 rfl).pair
   go_upto_region 4 with (first
    | (go_at_call 14;refine (HSH.out _ HI.out.below).mono ?_;rintro e w3 ⟨rfl,hb⟩;rw [hsh];have H3:=Lib.hid (HI.out.next hb);clear hb a0 a1;obtain ⟨a0,a1⟩:=(H3.out.blk 0 rfl).pair)
    | (go_at_call 25;refine (HX.out _ H3.out.below).mono ?_;rintro e w4 ⟨rfl,hb⟩;have H4:=Lib.hid ((H3.out.next hb).alloc (.cells #[.int .i64 0,.int .u8 0,.string ⟨#[]⟩,.slice none 0 0,.string ⟨#[]⟩,.bool false] 26));clear hb a0 a1;unfold ent0))
   obtain ⟨W4,hW4⟩:∃W:World,W=w4.alloc (.cells #[.int .i64 0,.int .u8 0,.string ⟨#[]⟩,.slice none 0 0,.string ⟨#[]⟩,.bool false] 26):=⟨_,rfl⟩
   rw [←hW4] at H4 ⊢
   clear hW4 H3
   go_wp2_with (first
    | (go_at_call 15;refine (HAL.out _ H4.out.below).mono ?_;rintro e w5 ⟨rfl,hb⟩;have H5:=Lib.hid (H4.out.next hb);have H6:=Lib.hid (H5.out.new 24 #[.string y.op,.slice ua y.args.length uc]);clear hb;obtain ⟨a0,a1⟩:=(H5.out.blk 0 rfl).pair)
    | (go_at_call 21;refine (HLG.out _ H6.out.below _ _ (H6.out.blk 0 rfl)).mono ?_;rintro e w7 ⟨rfl,hb⟩;have H7:=Lib.hid (H6.out.next hb);clear hb))
   go_ret
   exact ⟨rfl,H7.out.below⟩
  | some x=>
   obtain ⟨hok,rfl,hop,hcc,hag,d,n,hfs,hfl⟩:=back_plain hR
   have hz:=hok.size
   have hup:=hok.up
   have hmo:=fills_more hok hfl
   have m2:Mild (canonOf y):=⟨m.op,by have:=hz.2;rw [hmo.2];omega,hmo.1⟩
   have HXC:=Lib.hid (fun p v W (h:SlR opdR W p v (canonOf y).args) hT=>m2.find p v W h hT)
   rw [hag] at HXC
   have HOF:=Lib.hid (fun W (hb:RowKit.Below w.heap.size w W)=>ref08Of_any q y (.slice ua y.args.length uc) W (HY.out.below hb) (by have:=m.n;omega) hf)
   have hcl:(canonOf y).args.length≤1000000:=by have:=m2.n;omega
   have hyl:y.args.length≤1000000:=by have:=m.n;omega
   have hyo:y.op.size≤9223372036854775807:=by have:=m.op;omega
   obtain ⟨p1,o1,i1,l1,s1,f1⟩:=x
   dsimp only at hop hz hup hfs hfl hmo
   have hl1:l1.length≤1000000:=by have:=hz.2;omega
   have hi1:(⟨i1.toArray⟩:ByteArray).size≤9223372036854775807:=by have:=hz.1;omega
   have HVA:=Lib.hid (fun p v W h (hb:RowKit.Below w.heap.size w W)=>ValuesS_any p1 o1 ⟨i1.toArray⟩ ⟨s1.toArray⟩ f1 l1 y p q v (.slice ua y.args.length uc) W h (HY.out.below hb) (HT.out.below hb) hl1 hyl hcl hf hi1 hyo)
   have HFI:=Lib.hid (fun p v W h=>FillS_any p1 o1 d n ⟨i1.toArray⟩ ⟨s1.toArray⟩ f1 l1 p v W h hl1 hi1)
   rw [show (⟨s1.toArray⟩:ByteArray).data.toList=s1 from rfl] at HVA HFI
   rw [hfs] at HVA
   rw [hfl,hup] at HFI
   have HSM:=Lib.hid (fun p q v1 v2 W h1 h2=>ref07Same_any p q (canonOf y) (canonOf y) v1 v2 W h1 h2)
   have hsm:insEq (canonOf y) (canonOf y)=true:=by simp [insEq]
   rw [hsm] at HSM
   dsimp only at HVA
   rw [show (canonOf y).op=y.op from rfl] at HXC HSM
   clear hok hz hup hmo m m2 hag hcc hfs hfl hsm hR hf hcl hyl hyo hl1 hi1
   obtain ⟨t,l⟩:=y
   dsimp only at hop
   subst hop
   generalize (canonOf ⟨⟨i1.toArray⟩,l⟩).args=cn at *
   dsimp only at *
   go_enter Tryz.func6,Tryz.ntmps6
   go_upto_region 1 with fail
   rw [←hW0]
   clear hW0
   obtain ⟨a0,a1⟩:=(HI.out.blk 0 rfl).pair
   go_upto_region 4 with (first
    | (go_at_call 14;refine (HSH.out _ HI.out.below).mono ?_;rintro e w3 ⟨rfl,hb⟩;rw [hsh];have H3:=Lib.hid (HI.out.next hb);clear hb a0 a1;obtain ⟨a0,a1⟩:=(H3.out.blk 0 rfl).pair)
    | (go_at_call 25;refine (HX.out _ H3.out.below).mono ?_;rintro e w4 ⟨⟨v4,q4,rfl,hs⟩,hb⟩;obtain ⟨va4,vc4,rfl⟩:∃a c,v4=.slice a l1.length c:=(by obtain ⟨a,c,e,_⟩:=hs;exact ⟨a,c,e⟩);have H4:=Lib.hid ((H3.out.next hb).new 26 #[.int .i64 p1,.int .u8 o1,.string ⟨i1.toArray⟩,.slice va4 l1.length vc4,.string ⟨s1.toArray⟩,.bool f1]);have HS4:=Lib.hid (hs.alloc (.cells #[.int .i64 p1,.int .u8 o1,.string ⟨i1.toArray⟩,.slice va4 l1.length vc4,.string ⟨s1.toArray⟩,.bool f1] 26));clear hb hs a0 a1;dsimp only [entVal]))
   generalize hg4:w4.heap.size=g4 at *
   obtain ⟨W4,hW4⟩:∃W:World,W=w4.alloc (.cells #[.int .i64 p1,.int .u8 o1,.string ⟨i1.toArray⟩,.slice va4 l1.length vc4,.string ⟨s1.toArray⟩,.bool f1] 26):=⟨_,rfl⟩
   rw [←hW4] at H4 HS4 ⊢
   clear hW4 hg4 H3 HI HSH HX
   obtain ⟨c0,c1,c2,c3,c4,c5⟩:=(H4.out.blk 0 rfl).six
   obtain ⟨a0,a1⟩:=(H4.out.blk 1 rfl).pair
   go_upto_region 7 with (go_at_call 16;refine (HVA.out _ _ _ HS4.out H4.out.below).mono ?_;rintro e w5 ⟨rfl,hb⟩;have H5:=Lib.hid (H4.out.next hb);have HS5:=Lib.hid (HS4.out.below hb);clear hb c0 c1 c2 c3 c4 c5 a0 a1)
   obtain ⟨a0,a1⟩:=(H5.out.blk 1 rfl).pair
   go_upto_region 8 with (go_at_call 26;refine (HOF.out _ H5.out.below).mono ?_;rintro e w6 ⟨v6,rfl,ho,hb⟩;obtain ⟨va6,vc6,rfl⟩:=ho.form;have H6:=Lib.hid ((H5.out.next hb).new 24 #[.string ⟨i1.toArray⟩,.slice va6 cn.length vc6]);have HS6:=Lib.hid ((HS5.out.below hb).alloc (.cells #[.string ⟨i1.toArray⟩,.slice va6 cn.length vc6] 24));have HC6:=Lib.hid (ho.slR.alloc (.cells #[.string ⟨i1.toArray⟩,.slice va6 cn.length vc6] 24));clear hb ho a0 a1)
   generalize hg6:w6.heap.size=g6 at *
   obtain ⟨W6,hW6⟩:∃W:World,W=w6.alloc (.cells #[.string ⟨i1.toArray⟩,.slice va6 cn.length vc6] 24):=⟨_,rfl⟩
   rw [←hW6] at H6 HS6 HC6 ⊢
   clear hW6 hg6 H4 HS4 H5 HS5 HVA HOF
   obtain ⟨c0,c1,c2,c3,c4,c5⟩:=(H6.out.blk 1 rfl).six
   go_upto_region 9 with (go_at_call 22;refine (HFI.out _ _ _ HS6.out).mono ?_;rintro e w7 ⟨⟨v7,rfl,ho⟩,hb⟩;obtain ⟨va7,vc7,rfl⟩:=ho.form;have H7:=Lib.hid ((H6.out.next hb).new 24 #[.string ⟨i1.toArray⟩,.slice va7 cn.length vc7]);have HC7:=Lib.hid ((HC6.out.below hb).alloc (.cells #[.string ⟨i1.toArray⟩,.slice va7 cn.length vc7] 24));have HD7:=Lib.hid (ho.slR.alloc (.cells #[.string ⟨i1.toArray⟩,.slice va7 cn.length vc7] 24));clear hb ho c0 c1 c2 c3 c4 c5)
   generalize hg7:w7.heap.size=g7 at *
   obtain ⟨W7,hW7⟩:∃W:World,W=w7.alloc (.cells #[.string ⟨i1.toArray⟩,.slice va7 cn.length vc7] 24):=⟨_,rfl⟩
   rw [←hW7] at H7 HC7 HD7 ⊢
   clear hW7 hg7 H6 HS6 HC6 HFI
   obtain ⟨a0,a1⟩:=(H7.out.blk 1 rfl).pair
   go_upto_region 10 with (go_at_call 25;refine (HXC.out _ _ _ HC7.out (HT.out.below H7.out.below)).mono ?_;rintro e w8 ⟨⟨v8,q8,rfl,hs⟩,hb⟩;obtain ⟨va8,vc8,rfl⟩:∃a c,v8=.slice a l1.length c:=(by obtain ⟨a,c,e,_⟩:=hs;exact ⟨a,c,e⟩);have H8:=Lib.hid ((H7.out.next hb).new 26 #[.int .i64 p1,.int .u8 o1,.string ⟨i1.toArray⟩,.slice va8 l1.length vc8,.string ⟨s1.toArray⟩,.bool f1]);have HC8:=Lib.hid ((HC7.out.below hb).alloc (.cells #[.int .i64 p1,.int .u8 o1,.string ⟨i1.toArray⟩,.slice va8 l1.length vc8,.string ⟨s1.toArray⟩,.bool f1] 26));have HD8:=Lib.hid ((HD7.out.below hb).alloc (.cells #[.int .i64 p1,.int .u8 o1,.string ⟨i1.toArray⟩,.slice va8 l1.length vc8,.string ⟨s1.toArray⟩,.bool f1] 26));clear hb hs a0 a1;dsimp only [entVal])
   generalize hg8:w8.heap.size=g8 at *
   obtain ⟨W8,hW8⟩:∃W:World,W=w8.alloc (.cells #[.int .i64 p1,.int .u8 o1,.string ⟨i1.toArray⟩,.slice va8 l1.length vc8,.string ⟨s1.toArray⟩,.bool f1] 26):=⟨_,rfl⟩
   rw [←hW8] at H8 HC8 HD8 ⊢
   clear hW8 hg8 H7 HC7 HD7 HXC
   go_wp2_with (first
    | (go_at_call 15;refine (HAL.out _ H8.out.below).mono ?_;rintro e w9 ⟨rfl,hb⟩;have H9:=Lib.hid (H8.out.next hb);have HC9:=Lib.hid (HC8.out.below hb);have HD9:=Lib.hid (HD8.out.below hb);clear hb;obtain ⟨a0,a1⟩:=(H9.out.blk 1 rfl).pair;obtain ⟨b0,b1⟩:=(H9.out.blk 2 rfl).pair)
    | (go_at_call 24;refine (HSM.out _ _ _ _ _ HD9.out HC9.out).mono ?_;rintro e w10 ⟨rfl,hb⟩;have H10:=Lib.hid (H9.out.next hb);clear hb a0 a1 b0 b1;obtain ⟨c0,c1,c2,c3,c4,c5⟩:=(H10.out.blk 0 rfl).six;obtain ⟨d0,d1,d2,d3,d4,d5⟩:=(H10.out.blk 3 rfl).six))
   go_ret
   exact ⟨rfl,H10.out.below⟩
end Go.Proofs.YtaolnefplefjnaaGreatDoor
namespace Go.Proofs.YtaolnefplefjnaaGreatDoor
set_option maxHeartbeats 8000000
set_option maxRecDepth 100000
open Go.RowKit Go.Shelf Go.Sort
theorem code9_any (x:Ins) (m:Mild x) (p:Blocks) (v:Value) (w:World) (h:SlR opdR w p v x.args):
  Calls Tryz.prog 20 #[.agg #[.string x.op,v]] w fun e w'=>(∃a b c da dn dc s f,e=.returned (.tuple #[.agg #[.int .i64 a,.int .u8 b,.string c,.slice da dn dc,.string s,.bool f],.int .i64 (findR x).2]))∧Below w.heap.size w w':=
 (Find9_any p x v w h (by have:=m.n;omega) m.f).mono fun e w' h=>by
  generalize findR x=r at h ⊢
  obtain ⟨o,k⟩:=r
  obtain ⟨h,hb⟩:=h
  cases o with
  | none=>exact ⟨⟨_,_,_,_,_,_,_,_,h⟩,hb⟩
  | some x=>
   obtain ⟨v,q,h,a,c,hv,_⟩:=h
   subst hv
   exact ⟨⟨_,_,_,_,_,_,_,_,h⟩,hb⟩
theorem SearchLists_law (l:List Ins) (p:Blocks) (v:Value) (w:World) (h:SlR insSR w p v l) (hT:Spc w) (hf:∀x∈l,∀z∈x.args,fits64 z.n):
  Calls Tryz.prog 4 #[v] w fun e w'=>e=.returned (.bool true)∧Below w.heap.size w w':=by
 have HAL:=Lib.hid (fun W (hb:RowKit.Below w.heap.size w W)=>alive10_any W (hT.below hb))
 have HLG:=Lib.hid (fun W (hb:RowKit.Below w.heap.size w W) (hm:∀x∈l,Mild x)=>Legal_any p v l W (h.below hb) (hT.below hb) hm)
 have HS:=Lib.hid h
 have hl:=h.len_le
 obtain ⟨a,c,rfl,_,_,_⟩:=h.ins
 clear h hT
 by_cases h10:l.length≤10
 ·have hc10:¬(l.length:Int) > 10:=by omega
  go_enter Tryz.func4,Tryz.ntmps4
  go_wp2
  go_loopw [3,14] (fun u i wr=>∃k:Nat,k≤l.length∧i=.int .i64 k∧u=.bool ((l.take k).all legB)∧(∀x∈l.take k,Mild x)∧Below w.heap.size w wr) (fun _ i _=>l.length - (intOf i).toNat)
  case atStart=>exact ⟨0,Nat.zero_le _,rfl,rfl,(fun x hx=>by simp at hx),Below.refl _ _⟩
  case round=>
   obtain ⟨k,hk,rfl,rfl,hm,hb⟩:=hrel
   have HM:=Lib.hid hm
   have HB:=Lib.hid hb
   clear hm hb
   by_cases hlt:k < l.length
   ·obtain ⟨a2,c2,e2,_,_,hg⟩:=(HS.out.below HB.out).ins
    injection e2 with e2 e3 e4
    clear e3
    subst e2 e4
    obtain ⟨b1,o1,va,rfl,_,d0,d1,hso⟩:=hg k l[k] (List.getElem?_eq_getElem hlt)
    have HD:=Lib.hid (List.take_succ_eq_append_getElem hlt)
    have hfx:=hf l[k] (List.getElem_mem hlt)
    have HSO:=Lib.hid hso
    obtain ⟨ea,ec,rfl⟩:∃a c,va=.slice a l[k].args.length c:=by obtain ⟨a,c,e,_⟩:=hso;exact ⟨a,c,e⟩
    clear hg hso
    generalize l[k]=x at *
    have HSH:=Lib.hid (fun W (hb:RowKit.Below wr.heap.size wr W)=>short10_any _ x _ W (HSO.out.below hb))
    have HCX:=Lib.hid (fun W (hb:RowKit.Below wr.heap.size wr W) (m:Mild x)=>code9_any x m _ _ W (HSO.out.below hb))
    have HLB:Hid (((findR x).2==0)=legB x):=Lib.hid rfl
    have HMX:=Lib.hid (fun (hs:short8 x=true)=>mild_of hs hfx)
    generalize hLx:legB x=L at *
    have HLB2:=Lib.hid hLx
    clear hLx
    generalize (findR x).2=K at *
    generalize short8 x=B at *
    obtain ⟨t,m⟩:=x
    dsimp only at *
    have HI:=Lib.hid ((Fr.start wr).new 24 #[.string t,.slice ea m.length ec])
    generalize hA:(l.take k).all legB=A at *
    have HAA:=Lib.hid hA
    clear hA
    go_upto_region 7 with fail
    generalize hg:wr.heap.size=g at *
    obtain ⟨W0,hW0⟩:∃W:World,W=wr.alloc (.cells #[.string t,.slice ea m.length ec] 24):=⟨_,rfl⟩
    rw [←hW0] at HI ⊢
    clear hW0
    obtain ⟨a0,a1⟩:=(HI.out.blk 0 rfl).pair
    cases B
    ·go_wp2_with (first
      | (go_at_call 14;refine (HSH.out _ (hg ▸ HI.out.below)).mono ?_;rintro e w3 ⟨rfl,hb⟩;have H3:=Lib.hid (HI.out.next hb);clear hb)
      | (go_at_call 15;refine (HAL.out _ (HB.out.trans (H3.out.below.mono HB.out.size))).mono ?_;rintro e w4 ⟨rfl,hb⟩;have H4:=Lib.hid (H3.out.next hb);clear hb))
     go_ret
     exact ⟨rfl,HB.out.trans (H4.out.below.mono HB.out.size)⟩
    ·have HMM:=Lib.hid (HMX.out rfl)
     have HC2:=Lib.hid (fun W hb=>HCX.out W hb HMM.out)
     have hL:=HLB.out
     clear HMX HCX
     cases L
     all_goals
      cases A
     all_goals
      go_wp2_with (first
       | (go_at_call 14;refine (HSH.out _ (hg ▸ HI.out.below)).mono ?_;rintro e w3 ⟨rfl,hb⟩;have H3:=Lib.hid (HI.out.next hb);clear hb a0 a1;obtain ⟨a0,a1⟩:=(H3.out.blk 0 rfl).pair)
       | (go_at_call 20;refine (HC2.out _ (hg ▸ H3.out.below)).mono ?_;rintro e w4 ⟨⟨z0,z1,z2,z3,z4,z5,z6,z7,rfl⟩,hb⟩;have H4:=Lib.hid ((H3.out.next hb).alloc (.cells #[.int .i64 z0,.int .u8 z1,.string z2,.slice z3 z4 z5,.string z6,.bool z7] 29));clear hb))
      go_round
      case rel=>exact ⟨k+1,hlt,by go_num,by rw [HD.out,List.all_append,HAA.out,List.all_cons,List.all_nil,Bool.and_true,HLB2.out];rfl,(fun y hy=>by rw [HD.out] at hy;rcases List.mem_append.1 hy with hy | hy;exact HM.out y hy;rw [List.mem_singleton] at hy;subst hy;exact HMM.out),HB.out.trans (H4.out.below.mono HB.out.size)⟩
      case measure=>simp [intOf];omega
   ·obtain rfl:k=l.length:=by omega
    have hall:(∀x∈l,Mild x):=fun x hx=>HM.out x (by rw [List.take_length];exact hx)
    have hta:l.take l.length=l:=List.take_length
    have HLX:=Lib.hid (fun W hb=>HLG.out W hb hall)
    rw [hta]
    generalize l.all legB=A at *
    cases A
    all_goals
     go_wp2_with (first
      | (go_at_call 15;refine (HAL.out _ HB.out).mono ?_;rintro e w4 ⟨rfl,hb⟩;have H4:=Lib.hid (HB.out.trans (hb.mono HB.out.size));clear hb)
      | (go_at_call 21;refine (HLX.out _ H4.out).mono ?_;rintro e w5 ⟨rfl,hb⟩;have H5:=Lib.hid (H4.out.trans (hb.mono H4.out.size));clear hb))
     go_ret
     exact ⟨rfl,H5.out⟩
 ·have hc10:(l.length:Int) > 10:=by omega
  go_enter Tryz.func4,Tryz.ntmps4
  go_wp2_with (go_at_call 15;refine (HAL.out _ (Below.refl _ _)).mono ?_;rintro e w4 ⟨rfl,hb⟩;have H4:=Lib.hid hb;clear hb)
  go_ret
  exact ⟨rfl,H4.out⟩
end Go.Proofs.YtaolnefplefjnaaGreatDoor
