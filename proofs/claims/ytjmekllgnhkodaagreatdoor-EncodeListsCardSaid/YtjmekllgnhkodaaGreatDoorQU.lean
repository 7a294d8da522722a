/-
  The forms of an instruction; EncodeForms. Conditions: the library's table as its initialiser lays it.
-/
import Derived.Test.YtjmekllgnhkodaaGreatDoorQS
import Derived.Test.YtjmekllgnhkodaaGreatDoorQQ
namespace Go.Proofs.YtjmekllgnhkodaaGreatDoor
set_option maxHeartbeats 8000000
set_option maxRecDepth 100000
open Go.RowKit Go.Shelf Go.Sort
def shpE (t:ByteArray) (c:List Opd) (e:EntV):Bool:=shF ⟨e.iop.toArray⟩ t e.args c
def fitE (t:ByteArray) (c:List Opd) (e:EntV):Bool:=(fitsS ⟨e.iop.toArray⟩ t e.ex e.args c).2.2
theorem shp_parts {t:ByteArray} {c:List Opd} {e:EntV} (h:shpE t c e=true):e.iop=t.data.toList∧e.args.map kr=c.map kr:=by
  unfold shpE at h
  obtain ⟨h1,h2⟩:=shF_parts h
  exact ⟨by rw [←h1],h2⟩
theorem shp_pages {t:ByteArray} {c:List Opd} {p:Nat} (hp:p < 7) {e:EntV} (he:e∈entsF p) (h:shpE t c e=true):(pg9 c).contains (p:Int)=true∧(pgsF c).contains (p:Int)=true:=by
  obtain ⟨k,hk,h2⟩:=mem_ents he
  have hc:=chp_at hp hk
  obtain ⟨_,hkr⟩:=shp_parts h
  unfold chkP at hc
  generalize atF (p:Int) k=r at *
  obtain ⟨o,m⟩:=r
  dsimp only at h2
  subst h2
  obtain ⟨_,hc⟩:=Bool.and_eq_true_iff.1 hc
  obtain ⟨_,hc⟩:=Bool.and_eq_true_iff.1 hc
  have e1:pg9 e.args=pg9 c:=by unfold pg9;rw [ixO_kr hkr]
  rw [e1,pgsF_kr hkr] at hc
  exact Bool.and_eq_true_iff.1 hc
theorem shp_of {t:ByteArray} {c:List Opd} (P:List Int) (Q:List Nat) (hP:P=(Q.map fun (q:Nat)=>(q:Int)).filter fun p=>P.contains p) (hin:∀q∈Q,∀e∈entsF (q:Int),shpE t c e=true→P.contains (q:Int)=true):
    (P.flatMap entsF).filter (shpE t c)=((Q.map fun (q:Nat)=>(q:Int)).flatMap entsF).filter (shpE t c):=by
  rw [hP]
  clear hP
  induction Q with
  | nil=>rfl
  | cons q Q ih=>
    have ih:=ih (fun a h=>hin a (List.mem_cons_of_mem _ h))
    rw [List.map_cons,List.flatMap_cons,List.filter_append,←ih]
    cases hq:P.contains (q:Int)
    · rw [List.filter_cons_of_neg (by rw [hq];decide)]
      have:(entsF (q:Int)).filter (shpE t c)=[]:=by
        rw [List.filter_eq_nil_iff]
        intro e he hn
        have:=hin q (List.mem_cons_self) e he hn
        rw [hq] at this;cases this
      rw [this,List.nil_append]
    · rw [List.filter_cons_of_pos hq,List.flatMap_cons,List.filter_append]
theorem cand_shp {t:ByteArray} {c:List Opd}:(candF t.data.toList c).filter (shpE t c)=(all9 c).filter (shpE t c):=by
  have h1:(candF t.data.toList c).filter (shpE t c)=((pgsF c).flatMap entsF).filter (shpE t c):=by
    unfold candF
    have e:pagesF (pgsF c)=pgsF c:=by
      unfold pagesF;rw [if_neg]
      rcases pgsF_cases c with h | h | h<;>rw [h]<;>decide
    rw [e]
    induction pgsF c with
    | nil=>rfl
    | cons p P ih=>
      rw [List.flatMap_cons,List.flatMap_cons,List.filter_append,List.filter_append,ih,namF_eq,List.filter_filter]
      congr 1
      refine List.filter_congr fun e _=>?_
      cases h:shpE t c e
      · rfl
      · rw [Bool.true_and,(shp_parts h).1];exact beq_self_eq_true _
  have hq:∀q∈List.range 7,q < 7:=fun q h=>List.mem_range.1 h
  rw [h1,shp_of (pgsF c) (List.range 7) (by rcases pgsF_cases c with h | h | h<;>rw [h]<;>decide) (fun q h e he hn=>(shp_pages (hq q h) he hn).2)]
  unfold all9
  exact (shp_of (pg9 c) (List.range 7) (by unfold pg9;split<;>decide) (fun q h e he hn=>(shp_pages (hq q h) he hn).1)).symm
theorem filt_of {f g:EntV→Bool} {L:List EntV} (h:∀e∈L,f e=true→g e=true):L.filter f=(L.filter g).filter f:=by
  rw [List.filter_filter]
  refine List.filter_congr fun e he=>?_
  cases hf:f e
  · rfl
  · rw [h e he hf];rfl
theorem fit_shp {t:ByteArray} {c:List Opd} {e:EntV} (he:EntOk e) (h:fitE t c e=true):shpE t c e=true:=by
  unfold fitE at h
  rw [fits_ok he] at h
  unfold fitsC at h
  exact (Bool.and_eq_true_iff.1 h).1
theorem all9_ok {c:List Opd} {e:EntV} (h:e∈all9 c):EntOk e:=by
  unfold all9 at h
  obtain ⟨p,hp,hx⟩:=List.mem_flatMap.1 h
  obtain ⟨k,hk,h2⟩:=mem_ents hx
  exact ent_at hk h2
theorem cand_ok {t:List UInt8} {c:List Opd} {e:EntV} (h:e∈candF t c):EntOk e:=by
  obtain ⟨p,k,hk,hx⟩:=cand_mem h
  exact ent_at hk hx
def allR (x:Ins):List EntV:=(candF x.op.data.toList (canonOf x).args).filter (fitE x.op (canonOf x).args)
theorem allR_eq (x:Ins):allR x=(all9 (canonOf x).args).filter (fitE x.op (canonOf x).args):=by
  unfold allR
  rw [filt_of (g:=shpE x.op (canonOf x).args) (fun e he h=>fit_shp (cand_ok he) h),cand_shp,←filt_of (fun e he h=>fit_shp (all9_ok he) h)]
theorem allR_mem {x:Ins} {e:EntV} (h:e∈allR x):EntOk e∧EntW e∧fitE x.op (canonOf x).args e=true:=by
  unfold allR at h
  obtain ⟨h1,h2⟩:=List.mem_filter.1 h
  refine ⟨cand_ok h1,?_,h2⟩
  obtain ⟨p,k,hk,hx⟩:=cand_mem h1
  obtain ⟨q,hq,rfl⟩:=page_of hx
  exact (entW_at hq hk hx).1
def forB (x:Ins) (e:EntV):List UInt8:=encF e (numD e (canonOf x).args) (numN e (canonOf x).args)
def formsR (x:Ins):List (List UInt8):=(allR x).map (forB x)
theorem for_num {x:Ins} {e:EntV} (h:e∈allR x):fitsS ⟨e.iop.toArray⟩ x.op e.ex e.args (canonOf x).args=(numD e (canonOf x).args,numN e (canonOf x).args,true)∧bytF e (numD e (canonOf x).args) (numN e (canonOf x).args)=some (forB x e):=by
  obtain ⟨hx,_,h2⟩:=allR_mem h
  unfold fitE at h2
  rw [fits_ok hx] at h2
  have hv:=fits_val hx h2
  refine ⟨hv,?_⟩
  obtain ⟨_,hS⟩:=(fits_fill hx).1 h2
  unfold bytF
  rw [if_pos]
  · rfl
  · exact Option.isSome_iff_exists.2 ⟨_,(fill_some hx).2 hS⟩
theorem enc_form {x:Ins} {b:List UInt8} {k:Int} (h:encR x=(some b,k)):b∈formsR x:=by
  unfold encR at h
  generalize hf:findR x=r at *
  obtain ⟨o,m⟩:=r
  cases o with
  | none=>cases h
  | some e=>
    injection h with h1 h2
    injection h1 with h1
    subst h1
    obtain ⟨h1,h2,_,_⟩:=findR_mem hf
    unfold formsR
    refine List.mem_map.2 ⟨e,List.mem_filter.2 ⟨h1,?_⟩,rfl⟩
    exact (Bool.and_eq_true_iff.1 h2).2
end Go.Proofs.YtjmekllgnhkodaaGreatDoor
namespace Go.Proofs.YtjmekllgnhkodaaGreatDoor
set_option maxHeartbeats 8000000
set_option maxRecDepth 100000
open Go.RowKit Go.Shelf Go.Sort
attribute [local go_sem] Oper.semAt_some
theorem cand_seqG (T:World→World→Prop) (G:World→Nat→Prop) (bc:Nat) (t:ByteArray) (l:List Opd) (u:Value) (q:Blocks) (w:World) (hB:Blk w bc 27 #[.string t,u]) (hs:SlR opdR w q u l) (hT:Spc w)
    (hTk:∀A C,T A C→Tk (fun k=>w.heap.size≤k∧G A k) A C∧∀k,k < A.heap.size→G A k→G C k) (hGB:∀A C k,Below A.heap.size A C→k < A.heap.size→G A k→G C k) (hG0:∀A k,Below w.heap.size w A→G A k):
    MemSeqX Fence.wide 8 Tryz.prog 136 #[.pointer (some ⟨bc,0,none⟩)] encE T (fun pre x W=>(∃q:Blocks,SlR opdR W q x.2 x.1.args∧∀k,q k→w.heap.size≤k∧k < W.heap.size∧G W k)∧(pre.map (·.1)++[x.1]) <+: candF t.data.toList l) (fun xs=>xs.map (·.1)=candF t.data.toList l) (fun pre=>pre.map (·.1) <+: candF t.data.toList l) w:=by
  intro b J Jx W hW hJ hJx hY h0
  have hPG:=fun W2 (hb:Below W.heap.size W W2)=>pages_any t l q u W2 ((hs.below hW).below hb)
  have hNM:=fun p v W2 (hb:Below W.heap.size W W2) h=>Named_tab_any t p v (pgsF l) W2 h (Nat.le_trans (pgsF_len l) (by decide)) ((hT.below hW).below hb)
  have hCL:=candF_len t.data.toList l
  unfold candF at *
  generalize (pagesF (pgsF l)).flatMap (namF t.data.toList)=L at *
  have HTK:=Lib.hid hTk
  have HGB:=Lib.hid hGB
  have HG0:=Lib.hid (fun A k (h:Below W.heap.size W A)=>hG0 A k (hW.trans (h.mono hW.size)))
  clear hTk hGB hG0
  have HB:=Lib.hid (hB.below hW hB.lt)
  have HPG:=Lib.hid hPG
  have HNM:=Lib.hid hNM
  have HJ:=Lib.hid hJ
  have HJx:=Lib.hid hJx
  have HY:=Lib.hid hY
  have H0:=Lib.hid h0
  have HWS:=Lib.hid hW.size
  obtain ⟨ua,uc,rfl⟩:∃a c,u=.slice a l.length c:=by obtain ⟨a,c,e,_⟩:=hs;exact ⟨a,c,e⟩
  clear hB hW hJ hJx hY h0 hs hT hPG hNM
  refine callsIn_of_wp Tryz.func136 rfl trivial ?_ rfl
  simp only [Tryz.ntmps136,List.size_toArray,List.length_cons,List.length_nil,Nat.reduceAdd,Nat.reduceSub,Array.replicate_succ,Array.replicate_zero,List.push_toArray,List.append_toArray,List.nil_append,List.cons_append]
  gi_wp2
  refine wpIn_wide.2 ?_
  have d0:=HB.out.cell 0
  have d1:=HB.out.cell 1
  have hbl:=HB.out.lt
  have HDB:Hid (Below W.heap.size W W.drew):=Lib.hid (Below.refl _ _).drew
  go_region_held3 (fun w'=>w'.cell? ⟨bc,0,none⟩=some (.string t)∧w'.cell? ⟨bc,1,none⟩=some (.slice ua l.length uc)) (go_keep)
    (first
      | (go_at_call 138;refine (HPG.out _ HDB.out).mono ?_;rintro e w1 ⟨v1,rfl,hs1,hb1⟩;obtain ⟨pa,pc,rfl⟩:∃a c,v1=.slice a (pgsF l).length c:=(by obtain ⟨a,c,e,_⟩:=hs1;exact ⟨a,c,e⟩);have HB1:=Lib.hid (HDB.out.trans hb1);have HS1:=Lib.hid hs1;have d0:=(hb1.cell (p:=⟨bc,0,none⟩) hbl).trans d0;have d1:=(hb1.cell (p:=⟨bc,1,none⟩) hbl).trans d1;clear hb1 hs1)
      | (go_at_call 137;refine (HNM.out _ _ _ HB1.out HS1.out).mono ?_;rintro e w2 ⟨v2,rfl,ha2,hb2⟩;obtain ⟨na,nc,rfl⟩:=ha2.form;have HA2:=Lib.hid ha2;have HB2:=Lib.hid (HB1.out.trans (hb2.mono HB1.out.size));have hb1l:=Nat.lt_of_lt_of_le hbl HB1.out.size;have d0:=(hb2.cell (p:=⟨bc,0,none⟩) hb1l).trans d0;have d1:=(hb2.cell (p:=⟨bc,1,none⟩) hb1l).trans d1;clear hb2 ha2))
  have HSL:=Lib.hid (show ∃p:Blocks,SlR entR _ p (.slice na L.length nc) L∧∀k,p k→w.heap.size≤k∧G _ k from ⟨_,HA2.out.slR,fun k hk=>⟨by have h1:=hk.1;have:=HWS.out;have:=HB1.out.size;omega,HG0.out _ k HB2.out⟩⟩)
  have HJ2:=Lib.hid (HJ.out _ _ _ H0.out HB2.out)
  clear HA2 HB1 HB2 HS1 d0 d1 hbl HDB hb1l HPG HNM H0 HB
  gi_wp2
  gi_loopw [11] (fun i wr=>∃(pre:List (EntV × Value)),pre.map (·.1)=L.take pre.length∧pre.length≤L.length∧i=.int .i64 (pre.length:Nat)∧(∃p:Blocks,SlR entR wr p (.slice na L.length nc) L∧∀k,p k→w.heap.size≤k∧G wr k)∧J pre wr) (fun i _=>L.length - (intOf i).toNat)
  case atStart=>exact ⟨[],rfl,Nat.zero_le _,rfl,HSL.out,HJ2.out⟩
  case round=>
    obtain ⟨pre,hpre,hk,rfl,⟨pp,hsl,hpp⟩,hj⟩:=hrel
    clear HSL HJ2
    have HPR:=Lib.hid hpre
    have HS:=Lib.hid hsl.old
    have HPP:=Lib.hid (fun k (h:pp k∧k < wr.heap.size)=>(show w.heap.size≤k∧G wr k∧k < wr.heap.size from ⟨(hpp k h.1).1,(hpp k h.1).2,h.2⟩))
    clear hpp
    have HJW:=Lib.hid hj
    have hl9:(L.length:Int)≤1792:=by omega
    clear hpre hsl hj
    by_cases hlt:pre.length < L.length
    · obtain ⟨a9,c9,e9,_,g9⟩:=HS.out.ent6
      injection e9 with e9 e10 e11
      clear e10
      subst e9 e11
      obtain ⟨bb,oo,va,vc,rfl,hbb,x0,x1,x2,x3,x4,x5,hxs⟩:=g9 pre.length L[pre.length] (List.getElem?_eq_getElem hlt)
      have hpx:pre.map (·.1)++[L[pre.length]]=L.take (pre.length+1):=by rw [HPR.out,List.take_succ_eq_append_getElem hlt]
      have HPX:=Lib.hid hpx
      have HXS:=Lib.hid hxs
      clear g9 hpx hxs
      generalize L[pre.length]=x at *
      obtain ⟨p1,o1,i1,l1,s1,f1⟩:=x
      dsimp only at *
      have HBN:Hid (Below wr.heap.size wr (wr.alloc (.cells #[.int .i64 p1,.int .u8 o1,.string ⟨i1.toArray⟩,.slice va l1.length vc,.string ⟨s1.toArray⟩,.bool f1] 50))):=Lib.hid ((Below.refl _ _).alloc (Nat.le_refl _) _)
      have HYY:=Lib.hid (HY.out pre (⟨p1,o1,i1,l1,s1,f1⟩,.slice va l1.length vc) _ (HJ.out _ _ _ HJW.out HBN.out) ⟨⟨_,HXS.out.below HBN.out,fun k hk=>⟨(HPP.out k hk).1,Nat.lt_of_lt_of_le (HPP.out k hk).2.2 HBN.out.size,HGB.out _ _ k HBN.out (HPP.out k hk).2.2 (HPP.out k hk).2.1⟩⟩,by rw [HPX.out];exact List.take_prefix _ _⟩)
      have HPN:=Lib.hid (fun k hk=>(show w.heap.size≤k∧G _ k∧k < _ from ⟨(HPP.out k hk).1,HGB.out _ _ k HBN.out (HPP.out k hk).2.2 (HPP.out k hk).2.1,Nat.lt_of_lt_of_le (HPP.out k hk).2.2 HBN.out.size⟩))
      have HS2:=Lib.hid (HS.out.below HBN.out)
      have HNE:=Lib.hid (Blk.new wr 50 #[.int .i64 p1,.int .u8 o1,.string ⟨i1.toArray⟩,.slice va l1.length vc,.string ⟨s1.toArray⟩,.bool f1])
      obtain ⟨fn,tmps,assign,body,hy,hR⟩:=HYY.out
      dsimp only [encE,entVal] at hy
      have HR:=Lib.hid hR
      clear hR HYY
      gi_wp2
      refine HR.out.mono ?_
      rintro e W' (⟨rfl,hj3,hT⟩ | ⟨rfl,hjx⟩)
      · have HJ3:=Lib.hid hj3
        have HS3:=Lib.hid (HS2.out.tkE (HTK.out _ _ hT).1 (fun k h=>⟨(HPN.out k h).1,(HPN.out k h).2.1⟩))
        have HPM:=Lib.hid (fun k hk=>(show w.heap.size≤k∧G _ k from ⟨(HPN.out k hk).1,(HTK.out _ _ hT).2 k (HPN.out k hk).2.2 (HPN.out k hk).2.1⟩))
        clear hj3 hT hy x0 x1 x2 x3 x4 x5
        gi_wp2
        go_roundw
        case rel=>exact ⟨pre++[(⟨p1,o1,i1,l1,s1,f1⟩,.slice va l1.length vc)],by rw [List.map_append,List.length_append];exact HPX.out,by rw [List.length_append];exact hlt,by rw [List.length_append];go_num,⟨_,HS3.out,HPM.out⟩,HJ3.out⟩
        case measure=>simp [intOf];omega
      · have HJ3:=Lib.hid hjx
        clear hjx hy x0 x1 x2 x3 x4 x5
        gi_wp2
        refine bodyPost_ret (results_none rfl _ _ _) rfl ?_
        exact ⟨⟨_,rfl⟩,.inr ⟨_,by rw [List.map_append];show pre.map (·.1)++[(⟨p1,o1,i1,l1,s1,f1⟩:EntV)] <+: L;rw [HPX.out];exact List.take_prefix _ _,HJ3.out⟩⟩
    · have hkl:pre.length=L.length:=by omega
      have HE:Hid (pre.map (·.1)=L):=Lib.hid (by rw [HPR.out,hkl,List.take_length])
      gi_wp2
      go_end0
      exact ⟨⟨_,rfl⟩,.inl ⟨pre,HE.out,HJW.out⟩⟩
end Go.Proofs.YtjmekllgnhkodaaGreatDoor
namespace Go.Proofs.YtjmekllgnhkodaaGreatDoor
set_option maxHeartbeats 8000000
set_option maxRecDepth 100000
open Go.RowKit Go.Shelf Go.Sort
theorem Els.tkE {w w':World} {p:Blocks} (ht:Tk p w w'):∀{xs:List EntV} {cs:List Value},Els entR w p cs xs→Els entR w' p cs xs
  | [],_,h=>h
  | _::_,_,⟨c1,c2,e,⟨v,e2,hs⟩,h2⟩=>⟨c1,c2,e,⟨v,e2,hs.tk ht (fun _ h=>h)⟩,Els.tkE ht h2⟩
theorem Acc.tkE {w w':World} {B:Nat} {e:TypeId} {v:Value} {xs:List EntV} (h:Acc entR w B e v xs) (ht:Tk (fun _=>True) w w') (hs:w.heap.size≤w'.heap.size):Acc entR w' B e v xs:=by
  obtain ⟨p,⟨cs,hrow,hels⟩,hp⟩:=h
  refine ⟨p,⟨cs,⟨hrow.1,?_⟩,hels.tkE (fun k o _ hk hc=>ht k o trivial hk hc)⟩,fun k hk=>⟨(hp k hk).1,Nat.lt_of_lt_of_le (hp k hk).2.1 hs,(hp k hk).2.2⟩⟩
  rcases hrow.2 with hn | ⟨g,cap,cur,rfl,hb,hg,rest⟩
  · exact .inl hn
  · exact .inr ⟨g,cap,cur,rfl,hb,ht _ _ trivial hg rfl,rest⟩
structure TkA (bo B:Nat) (A C:World):Prop where
  size:A.heap.size≤C.heap.size
  own:∀u,A.cell? ⟨bo,0,none⟩=some u→(∃u',C.cell? ⟨bo,0,none⟩=some u'∧∀k,u'.ownBlock=some k→u.ownBlock=some k∨A.heap.size≤k)∧
    ∀k o,B≤k→u.ownBlock≠some k→A.heap[k]?=some o→o.isCells=true→C.heap[k]?=some o
def GkA (bo:Nat) (A:World) (k:Nat):Prop:=∃u,A.cell? ⟨bo,0,none⟩=some u∧u.ownBlock≠some k
theorem TkA.safe {bo B:Nat} {A C:World} (h:TkA bo B A C):Tk (fun k=>B≤k∧GkA bo A k) A C∧∀k,k < A.heap.size→GkA bo A k→GkA bo C k:=by
  refine ⟨fun k o ⟨hB,u,hu,hk⟩ hko hc=>(h.own u hu).2 k o hB hk hko hc,fun k hk ⟨u,hu,hn⟩=>?_⟩
  obtain ⟨u',hu',ho⟩:=(h.own u hu).1
  refine ⟨u',hu',fun e=>?_⟩
  rcases ho k e with e2 | e2
  · exact hn e2
  · omega
theorem TkA.trans {bo B:Nat} {A C D:World} (h:TkA bo B A C) (g:TkA bo B C D):TkA bo B A D:=by
  refine ⟨Nat.le_trans h.size g.size,fun u hu=>?_⟩
  obtain ⟨⟨u1,hu1,h1⟩,h2⟩:=h.own u hu
  obtain ⟨⟨u2,hu2,g1⟩,g2⟩:=g.own u1 hu1
  refine ⟨⟨u2,hu2,fun k hk=>?_⟩,fun k o hB hn hk hc=>?_⟩
  · rcases g1 k hk with e | e
    · exact h1 k e
    · exact .inr (Nat.le_trans h.size e)
  · refine g2 k o hB (fun e=>?_) (h2 k o hB hn hk hc) hc
    have hlt:=(Array.getElem?_eq_some_iff.1 hk).1
    rcases h1 k e with e2 | e2
    · exact hn e2
    · omega
theorem cell_lt {w:World} {b j:Nat} {v:Value} (h:w.cell? ⟨b,j,none⟩=some v):b < w.heap.size:=by
  obtain ⟨o,ho,_⟩:=cell_block h
  exact (Array.getElem?_eq_some_iff.1 ho).1
theorem TkA.below {bo B:Nat} {A C:World} (h:Below A.heap.size A C):TkA bo B A C:=
  ⟨h.size,fun u hu=>⟨⟨u,(h.cell (p:=⟨bo,0,none⟩) (cell_lt hu)).trans hu,fun _ hk=>.inl hk⟩,fun k _ _ _ hk _=>(h.block k (Array.getElem?_eq_some_iff.1 hk).1).trans hk⟩⟩
theorem TkA.put {bo B:Nat} (W:World) (l:Nat) (o o':Obj) (hl:W.heap[l]?=some o) (ho:o.isCells=false):TkA bo B W (W.putObj l o'):=by
  have ht:Tk (fun _=>True) W (W.putObj l o'):=Tk.put W l o o' hl ho
  refine ⟨(put_grown (W:=W) (l:=l) o').size,fun u hu=>?_⟩
  obtain ⟨q,hq,hqc⟩:=cell_block hu
  have h2:=ht bo q trivial hq hqc
  exact ⟨⟨u,(World.cell?_of_block (h2.trans hq.symm)).trans hu,fun _ hk=>.inl hk⟩,fun k r _ _ hk hc=>ht k r trivial hk hc⟩
theorem GkA.below {bo:Nat} {A C:World} {k:Nat} (h:Below A.heap.size A C) (g:GkA bo A k):GkA bo C k:=by
  obtain ⟨u,hu,hn⟩:=g
  exact ⟨u,(h.cell (p:=⟨bo,0,none⟩) (cell_lt hu)).trans hu,hn⟩
structure AllI (w wS:World) (bo:Nat) (L:List EntV) (W:World):Prop where
  tk:Tk (fun k=>k≠bo∧k < wS.heap.size) wS W
  acc:∃v,Blk W bo 119 #[v]∧Acc entR W wS.heap.size 50 v L
  below:Below w.heap.size w W
  size:wS.heap.size≤W.heap.size
theorem AllI.own {w wS W W':World} {bo:Nat} {L:List EntV} {row:Option Nat} (hB:w.heap.size≤wS.heap.size) (h:AllI w wS bo L W) (hg:W.grownBy W' row) (hr:∀r,row=some r→wS.heap.size≤r∧∃o:Obj,W.heap[r]?=some o∧o.isCells=false):AllI w wS bo L W':=by
  obtain ⟨v,h1,h2⟩:=h.acc
  exact ⟨h.tk.trans (Tk.own hg hr),⟨v,blk_own h1 hg hr,h2.tkE (Tk.own hg hr) hg.size⟩,h.below.grown hg h.below.size (fun k hk=>Nat.le_trans hB (hr k hk).1),Nat.le_trans h.size hg.size⟩
theorem AllI.stay {w wS W W':World} {bo:Nat} {L:List EntV} (h:AllI w wS bo L W) (hb:Below W.heap.size W W'):AllI w wS bo L W':=by
  obtain ⟨v,h1,h2⟩:=h.acc
  exact ⟨h.tk.trans (Tk.below hb),⟨v,h1.below hb h1.lt,h2.stay hb⟩,h.below.trans (hb.mono h.below.size),Nat.le_trans h.size hb.size⟩
theorem AllI.app {w wS W:World} {bo:Nat} {L:List EntV} {oa:Option Addr} {oc:Nat} (x:EntV) (va:Value) (q:Blocks) (h:AllI w wS bo L W) (hw:w.heap.size≤bo) (hbo:bo < wS.heap.size) (h1:Blk W bo 119 #[.slice oa L.length oc]) (hL:L.length≤100000)
    (hx:SlR opdR W q va x.args) (hq:∀k,q k→wS.heap.size≤k∧k < W.heap.size∧GkA bo W k):
    ∃a5 c5 w3,(Builtin.append_ #[119,119] 119 #[.slice oa L.length oc,.slice (some ⟨W.heap.size,0,none⟩) 1 1]).run Tryz.prog (W.alloc (.cells (entCs x va) 50))=.ok (.slice a5 (L.length+1) c5) w3∧
      Blk w3 bo 119 #[.slice oa L.length oc]∧Recs wS.heap.size W (w3.setCell ⟨bo,0,none⟩ (.slice a5 (L.length+1) c5))∧TkA bo wS.heap.size W (w3.setCell ⟨bo,0,none⟩ (.slice a5 (L.length+1) c5))∧AllI w wS bo (L++[x]) (w3.setCell ⟨bo,0,none⟩ (.slice a5 (L.length+1) c5)):=by
  obtain ⟨v,hv1,hacc⟩:=h.acc
  obtain rfl:v=.slice oa L.length oc:=by
    have e:=hv1.symm.trans h1
    injection e with e
    injection e with e
    injection e with e
    injection e with e
  have hc:=h1.cell 0
  have hown:∀k,q k→wS.heap.size≤k∧Value.ownBlock (.slice oa L.length oc)≠some k:=fun k hk=>by
    obtain ⟨h1,_,u,hu,hn⟩:=hq k hk
    have e:=hu.symm.trans hc
    injection e with e
    subst e
    exact ⟨h1,hn⟩
  have hlt:=hacc.lt
  have hcells:∀k,Value.ownBlock (.slice oa L.length oc)=some k→∃cs t fz,W.heap[k]?=some (.cells cs t fz):=by
    obtain ⟨p,⟨cs,hrow,_⟩,_⟩:=hacc
    intro k hk
    rcases hrow.2 with ⟨e,_⟩ | ⟨g,cap,cur,e,hb,hg2,_⟩
    · rw [e] at hk;cases hk
    · rw [e] at hk;injection hk with hk;subst hk;exact ⟨_,_,_,hg2⟩
  obtain ⟨a5,c5,w3,hrun,ho,hg,hn⟩:=Acc.pushed (P:=Tryz.prog) (t:=119) (ty:=119) (x:=x) elET hacc (entCs x va) ⟨va,rfl,hx⟩ hown (by omega) (by omega) h.size
  have hkeep:∀k o,W.heap[k]?=some o→Value.ownBlock (.slice oa L.length oc)≠some k→w3.heap[k]?=some o:=fun k o hk hne=>(hg.block k (Array.getElem?_eq_some_iff.1 hk).1 (fun e=>hne e.symm)).trans hk
  have hnot:∀k,k < wS.heap.size→Value.ownBlock (.slice oa L.length oc)≠some k:=fun k hk e=>by have:=(hlt k e).1;omega
  have hb3:Blk w3 bo 119 #[.slice oa L.length oc]:=hkeep _ _ h1 (hnot _ hbo)
  have hsz:W.heap.size≤w3.heap.size:=hg.size
  have hne:∀k,k≠bo→∀u,(w3.setCell ⟨bo,0,none⟩ u).heap[k]?=w3.heap[k]?:=fun k hk u=>Below.heap_setCell _ _ _ _ hk
  refine ⟨a5,c5,w3,hrun,hb3,⟨by rw [World.size_setCell];exact hsz,fun k o hk hko hc=>?_⟩,⟨by rw [World.size_setCell];exact hsz,fun u hu=>?_⟩,⟨?_,⟨_,hb3.set 0 _,?_⟩,?_,by rw [World.size_setCell];exact Nat.le_trans h.size hsz⟩⟩
  · refine (hne k (by omega) _).trans (hkeep _ _ hko (fun e=>?_))
    obtain ⟨cs,t,fz,h2⟩:=hcells k e
    rw [h2] at hko
    injection hko with hko
    subst hko
    cases hc
  · have e:=hu.symm.trans hc
    injection e with e
    subst e
    refine ⟨⟨_,(hb3.set 0 _).cell 0,fun k hk=>?_⟩,fun k o hB hn hk _=>(hne k (by omega) _).trans (hkeep _ _ hk hn)⟩
    rcases hn with e | ⟨j,e,hj⟩
    · exact .inl (e.symm.trans hk)
    · have:=e.symm.trans hk
      injection this with this
      subst this
      exact .inr hj
  · exact fun k o hk hko hc=>(hne k hk.1 _).trans (hkeep _ _ (h.tk k o hk hko hc) (hnot _ hk.2))
  · exact ho.keep (fun k hk=>hne k (by omega) _) (by rw [World.size_setCell];exact Nat.le_refl _)
  · refine Below.setCell ?_ hw _
    exact h.below.grown hg h.below.size (fun k hk=>by have:=(hlt k hk).1;omega)
end Go.Proofs.YtjmekllgnhkodaaGreatDoor
namespace Go.Proofs.YtjmekllgnhkodaaGreatDoor
set_option maxHeartbeats 8000000
set_option maxRecDepth 100000
open Go.RowKit Go.Shelf Go.Sort
attribute [local go_sem] Oper.semAt_some
theorem filt_snoc (f:EntV→Bool) (L:List EntV) (x:EntV):(L++[x]).filter f=if f x=true then L.filter f++[x] else L.filter f:=by
  rw [List.filter_append]
  cases h:f x<;>simp [h]
theorem All_any (p:Blocks) (x:Ins) (v:Value) (w:World) (h:SlR opdR w p v x.args) (hT:Spc w) (hs:x.op.size≤1000000) (hn:x.args.length≤1000000) (hc:(canonOf x).args.length≤1000000) (hf:∀y∈x.args,fits64 y.n):
    Calls Tryz.prog 78 #[.agg #[.string x.op,v]] w (EntsP 50 w (allR x)):=by
  have HEP:Hid (EntsP 50 w (allR x)=fun e w'=>∃v,e=.returned v∧Acc entR w' w.heap.size 50 v (allR x)∧Below w.heap.size w w'):=Lib.hid rfl
  have HOf:=Lib.hid (fun W (hb:RowKit.Below w.heap.size w W)=>Of_any p x v W (h.below hb) (hT.below hb) hn hf)
  have HT:=Lib.hid hT
  have HR:Hid (allR x=(candF x.op.data.toList (canonOf x).args).filter (fitE x.op (canonOf x).args)):=Lib.hid rfl
  obtain ⟨va,vc,rfl⟩:∃a c,v=.slice a x.args.length c:=by obtain ⟨a,c,e,_⟩:=h;exact ⟨a,c,e⟩
  have HOK:=Lib.hid (fun e (he:e∈candF x.op.data.toList (canonOf x).args)=>(cand_ok he).size)
  have HLN:=Lib.hid (candF_len x.op.data.toList (canonOf x).args)
  have HCN:=Lib.hid hc
  have HSZ:=Lib.hid hs
  clear h hT hs hn hf
  obtain ⟨t,m⟩:=x
  dsimp only at *
  generalize (canonOf ⟨t,m⟩).args=cn at *
  generalize allR ⟨t,m⟩=R at *
  rw [HEP.out]
  clear HEP
  have HF:=Lib.hid ((Fr.start w).new 27 #[.string t,.slice va m.length vc])
  refine (callsIn_wide (n:=9)).1 ?_
  refine callsIn_of_wp_marks Tryz.func78 rfl trivial ?_ rfl
  simp only [Tryz.ntmps78,List.size_toArray,List.length_cons,List.length_nil,Nat.reduceAdd,Nat.reduceSub,Array.replicate_succ,Array.replicate_zero,List.push_toArray,List.append_toArray,List.nil_append,List.cons_append]
  refine wpIn_wide.2 ?_
  go_upto_region 1 with fail
  obtain ⟨W0,hW0⟩:∃W0:World,W0=w.alloc (.cells #[.string t,.slice va m.length vc] 27):=⟨_,rfl⟩
  rw [←hW0] at HF ⊢
  clear hW0
  have a0:=(HF.out.blk 0 rfl).cell 0
  have a1:=(HF.out.blk 0 rfl).cell 1
  have HO1:=Lib.hid (HOf.out _ HF.out.below)
  clear HOf
  go_upto_region 3 with (go_at_call 62;refine HO1.out.mono ?_;rintro e w2 ⟨u1,rfl,ho1,hb2⟩;obtain ⟨ca,cc,rfl⟩:=ho1.form;have HF2:=Lib.hid (HF.out.next hb2);have HO2:=Lib.hid ho1.slR.old;clear ho1 hb2 a0 a1)
  have HF4:=Lib.hid ((HF2.out.new 27 #[.string t,.slice ca cn.length cc]).new' 119 #[.slice none 0 0] (World.size_alloc _ _))
  have HO4:=Lib.hid ((HO2.out.alloc (.cells #[.string t,.slice ca cn.length cc] 27)).alloc (.cells #[.slice none 0 0] 119))
  have HG5:=Lib.hid (HF2.out.blk 0 rfl).lt
  have HWW:=Lib.hid HF2.out.below.size
  obtain ⟨bo,hbo⟩:∃b,w2.heap.size+1=b:=⟨_,rfl⟩
  have H56:Hid (w2.heap.size < bo):=Lib.hid (by omega)
  rw [hbo] at HF4 ⊢
  obtain ⟨b5,hb5⟩:∃b,w2.heap.size=b:=⟨_,rfl⟩
  rw [hb5] at HF4 HG5 H56 HO4 HWW ⊢
  obtain ⟨W4,hW4⟩:∃W:World,W=((w2.alloc (.cells #[.string t,.slice ca cn.length cc] 27)).alloc (.cells #[.slice none 0 0] 119)):=⟨_,rfl⟩
  rw [←hW4] at HF4 HO4 ⊢
  clear hW4 hb5 hbo HF2 HF HO2 HO1
  have c0:=(HF4.out.blk 1 rfl).cell 0
  have c1:=(HF4.out.blk 1 rfl).cell 1
  have HG6:=Lib.hid (HF4.out.blk 0 rfl).lt
  go_wp2_with (go_at_call 92;refine (candidates_any _ _ _).mono ?_;rintro e w5 ⟨rfl,rfl⟩)
  have HF5:=Lib.hid (HF4.out.new 27 #[.string t,.slice ca cn.length cc])
  have HO5:=Lib.hid (HO4.out.alloc (.cells #[.string t,.slice ca cn.length cc] 27))
  obtain ⟨bc,hbc⟩:∃b,W4.heap.size=b:=⟨_,rfl⟩
  rw [hbc] at HF5 HG6 ⊢
  obtain ⟨wS,hwS⟩:∃W:World,W=W4.alloc (.cells #[.string t,.slice ca cn.length cc] 27):=⟨_,rfl⟩
  rw [←hwS] at HF5 HO5 ⊢
  clear hwS hbc HF4 HO4 c0 c1
  have HGC:=Lib.hid (HF5.out.blk 0 rfl).lt
  have HSEQ:=Lib.hid (cand_seqG (TkA bo wS.heap.size) (GkA bo) bc t cn (.slice ca cn.length cc) _ wS (HF5.out.blk 0 rfl) HO5.out (HT.out.below HF5.out.below)
    (fun A C h=>h.safe) (fun A C k h _ g=>g.below h) (fun A k h=>⟨_,((HF5.out.blk 1 rfl).below h (HF5.out.blk 1 rfl).lt).cell 0,by intro e;cases e⟩))
  have HFT:=Lib.hid (fun (x:EntV) (p q:Blocks) (v u:Value) (W:World) (h:x∈candF t.data.toList cn) hp hq=>fits_walk x.pg x.op ⟨x.iop.toArray⟩ ⟨x.ex.toArray⟩ t x.al x.args cn p q v u W hp hq (by have:=(HOK.out x h).2;omega) HCN.out (by have:=(HOK.out x h).1;omega) (by have:=HSZ.out;omega))
  have HI0:Hid (AllI w wS bo [] wS):=Lib.hid ⟨Tk.refl,⟨_,HF5.out.blk 1 rfl,Acc.nil _ _ _⟩,HF5.out.below,Nat.le_refl _⟩
  have HWS:=Lib.hid HF5.out.below.size
  generalize candF t.data.toList cn=L at *
  refine (wpIn_wide (n:=9)).1 ?_
  refine wpIn_range_memx rfl (by omega) (gf:=136) (lb:=#[.pointer (some ⟨bc,0,none⟩)]) rfl trivial (enters_of Tryz.func136 (by kernel_rfl) rfl)
    (encs:=encE) (fun _=>rfl) HSEQ.out (fun h k=>h.trans k) (fun W l o o' h1 h2=>TkA.put W l o o' h1 h2)
    (fun (pre:List (EntV × Value)) W=>AllI w wS bo ((pre.map (fun z:EntV × Value=>z.1)).filter (fitE t cn)) W)
    (fun _ _ _=>False)
    (fun pre W W' row hi hg hr=>AllI.own HWS.out (show AllI w wS bo ((pre.map (fun z:EntV × Value=>z.1)).filter (fitE t cn)) W from hi) hg hr)
    (fun c pre W W' row hi hg hr=>hi.elim)
    HI0.out
    (fun pre x a' W=>∃(g:Nat) (u0 u1 u2 u6 u7 u8 u9 u10 u11 u12 u13 u14 u15 u16 u17 u18 u19 u20 u21 u22 u23 u24 u25 u26:Value),wS.heap.size≤g∧Blk W g 50 (entCs x.1 x.2)∧(∃q:Blocks,SlR opdR W q x.2 x.1.args∧∀k,q k→wS.heap.size≤k∧k < W.heap.size∧GkA bo W k)∧(pre.map (·.1)++[x.1]) <+: L∧a'={tmps:=#[u0,u1,u2,.pointer (some ⟨b5,0,none⟩),.pointer (some ⟨bo,0,none⟩),.pointer (some ⟨g,0,none⟩),u6,u7,u8,u9,u10,u11,u12,u13,u14,u15,u16,u17,u18,u19,u20,u21,u22,u23,u24,u25,u26],defers:=[]})
    ?ax ?assign ?body ?done ?stop
  case ax=>
    rintro pre x a' W l o o' ⟨g,u0,u1,u2,u6,u7,u8,u9,u10,u11,u12,u13,u14,u15,u16,u17,u18,u19,u20,u21,u22,u23,u24,u25,u26,hg,hb,⟨q,hs,hq⟩,hpre,rfl⟩ hl ho hc
    have hgr:=(put_grown (W:=W) (l:=l) o').size
    refine ⟨g,u0,u1,u2,u6,u7,u8,u9,u10,u11,u12,u13,u14,u15,u16,u17,u18,u19,u20,u21,u22,u23,u24,u25,u26,hg,blk_own (B:=0) hb (put_grown o') (fun r e=>by injection e with e;subst e;exact ⟨Nat.zero_le _,o,ho,hc⟩),⟨q,hs.tk (Tk.put (p:=fun _=>True) W l o o' ho hc) (fun _ _=>trivial),fun k hk=>⟨(hq k hk).1,Nat.lt_of_lt_of_le (hq k hk).2.1 hgr,(TkA.put (bo:=bo) (B:=0) W l o o' ho hc).safe.2 k (hq k hk).2.1 (hq k hk).2.2⟩⟩,hpre,rfl⟩
  case assign=>
    rintro l pre ⟨⟨p1,o1,i1,l1,s1,f1⟩,v1⟩ W K hi ⟨⟨q,hs,hq⟩,hpre⟩ hK
    obtain ⟨xa,xc,rfl⟩:∃a c,v1=.slice a l1.length c:=by obtain ⟨a,c,e,_⟩:=hs;exact ⟨a,c,e⟩
    have HK:=Lib.hid hK
    have HI:=Lib.hid hi
    have HS:=Lib.hid hs
    have HQ:=Lib.hid hq
    have HP:=Lib.hid hpre
    have HBN:Hid (Below W.heap.size W (W.alloc (.cells #[.int .i64 p1,.int .u8 o1,.string ⟨i1.toArray⟩,.slice xa l1.length xc,.string ⟨s1.toArray⟩,.bool f1] 50))):=Lib.hid ((Below.refl _ _).alloc (Nat.le_refl _) _)
    clear hK hi hs hpre hq
    dsimp only [encE,entVal]
    gi_wp2
    exact HK.out _ _ (Recs.below HBN.out) (TkA.below HBN.out) (HI.out.stay HBN.out) ⟨W.heap.size,_,_,_,_,_,_,_,_,_,_,_,_,_,_,_,_,_,_,_,_,_,_,_,_,HI.out.size,Blk.new W _ _,⟨q,HS.out.below HBN.out,fun k hk=>⟨(HQ.out k hk).1,Nat.lt_of_lt_of_le (HQ.out k hk).2.1 HBN.out.size,(HQ.out k hk).2.2.below HBN.out⟩⟩,HP.out,rfl⟩
  case body=>
    rintro l pre ⟨⟨p1,o1,i1,l1,s1,f1⟩,v1⟩ a' W hl hi ⟨g,u0,u1,u2,u6,u7,u8,u9,u10,u11,u12,u13,u14,u15,u16,u17,u18,u19,u20,u21,u22,u23,u24,u25,u26,hg,hb,⟨q,hs,hq⟩,hpre,rfl⟩
    dsimp only [entCs] at hb hs hpre
    obtain ⟨xa,xc,rfl⟩:∃a c,v1=.slice a l1.length c:=by obtain ⟨a,c,e,_⟩:=hs;exact ⟨a,c,e⟩
    have hmem:(⟨p1,o1,i1,l1,s1,f1⟩:EntV)∈L:=hpre.subset (by simp)
    have hln:((pre.map (·.1)).filter (fitE t cn)).length≤100000:=by
      have h1:=hpre.length_le
      have h2:=HLN.out
      have h3:=List.length_filter_le (fitE t cn) (pre.map (·.1))
      rw [List.length_append] at h1
      omega
    have HLE:=Lib.hid hln
    have HI:=Lib.hid hi
    have HS:=Lib.hid hs
    have HQ:=Lib.hid hq
    have HB:=Lib.hid hb
    have HC:=Lib.hid (HI.out.tk.blk (HF5.out.blk 2 rfl) (by have:=H56.out;have:=HG6.out;have:=HGC.out;omega))
    have HCS:=Lib.hid (HO5.out.tk (p:=_) HI.out.tk (fun k hk=>by have:=hk.2;have:=H56.out;have:=HG6.out;have:=HGC.out;omega))
    have HFTX:=Lib.hid (HFT.out _ _ _ _ _ W hmem HS.out HCS.out)
    have hme:(pre++[((⟨p1,o1,i1,l1,s1,f1⟩:EntV),Value.slice xa l1.length xc)]).map (·.1)=pre.map (·.1)++[(⟨p1,o1,i1,l1,s1,f1⟩:EntV)]:=by rw [List.map_append];rfl
    have HME:=Lib.hid ((congrArg (List.filter (fitE t cn)) hme).trans (filt_snoc _ _ _))
    have HHI:Hid (fitE t cn ⟨p1,o1,i1,l1,s1,f1⟩=(fitsS ⟨i1.toArray⟩ t s1 l1 cn).2.2):=Lib.hid rfl
    have y0:=HB.out.cell 0
    have y1:=HB.out.cell 1
    have y2:=HB.out.cell 2
    have y3:=HB.out.cell 3
    have y4:=HB.out.cell 4
    have y5:=HB.out.cell 5
    have c0:=HC.out.cell 0
    have c1:=HC.out.cell 1
    clear hi hs hb hq hmem hpre hme hln HSEQ HFT
    dsimp only at HFTX
    generalize hfs:fitsS ⟨i1.toArray⟩ t s1 l1 cn=fs at *
    obtain ⟨fd,fn,fk⟩:=fs
    clear hfs
    dsimp only at HFTX HHI
    rw [HHI.out] at HME
    clear HHI
    generalize List.filter (fitE t cn) (pre.map (·.1))=F at *
    cases fk
    · gi_wp2_with (refine ⟨trivial,?_⟩;gi_at_call 94;refine (CallsIn.inRound l (callsIn_wide.2 HFTX.out)).mono ?_;rintro e w7 ⟨rfl,hb7⟩;have HB7:=Lib.hid hb7;clear hb7)
      exact ⟨Recs.below HB7.out,TkA.below HB7.out,by show AllI w wS bo (List.filter _ (List.map (fun z:EntV × Value=>z.1) _)) _;rw [HME.out];exact HI.out.stay HB7.out⟩
    · gi_wp2_with (first
        | (refine ⟨trivial,?_⟩;gi_at_call 94;refine (CallsIn.inRound l (callsIn_wide.2 HFTX.out)).mono ?_;rintro e w7 ⟨rfl,hb7⟩;have HB7:=Lib.hid hb7;have HI7:=Lib.hid (HI.out.stay hb7);have HG7:=Lib.hid (HB.out.below hb7 HB.out.lt);obtain ⟨vo,hvo,hao⟩:=HI7.out.acc;obtain ⟨oa,oc,rfl⟩:=hao.form;obtain ⟨a5,c5,w3,hrun,hb3,hre,hta,hall⟩:=AllI.app ⟨p1,o1,i1,l1,s1,f1⟩ (.slice xa l1.length xc) q HI7.out (by have:=H56.out;have:=HWW.out;omega) (by have:=HG6.out;have:=HGC.out;omega) hvo HLE.out (HS.out.below hb7) (fun k hk=>⟨(HQ.out k hk).1,Nat.lt_of_lt_of_le (HQ.out k hk).2.1 hb7.size,(HQ.out k hk).2.2.below hb7⟩);have HRN:=Lib.hid hrun;have HRE:=Lib.hid hre;have HTA:=Lib.hid hta;have HAL:=Lib.hid hall;have y0:=HG7.out.cell 0;have y1:=HG7.out.cell 1;have y2:=HG7.out.cell 2;have y3:=HG7.out.cell 3;have y4:=HG7.out.cell 4;have y5:=HG7.out.cell 5;have k0:=hvo.cell 0;have k3:=hb3.cell 0;have k4:=hb3.free 0;clear hb7 hvo hao hrun hre hta hall)
        | (gi_at_builtin;refine wpListIn_append_run rfl (.tmp 22) (.tmp 24) 119 rfl rfl rfl HRN.out ?_))
      exact ⟨(Recs.below HB7.out).trans HRE.out,(TkA.below HB7.out).trans HTA.out,by show AllI w wS bo (List.filter _ (List.map (fun z:EntV × Value=>z.1) _)) _;rw [HME.out];exact HAL.out⟩
  case done=>
    rintro D xs W hD hall hk hK
    have HKD:=Lib.hid hK
    have hk2:=hk.own HWS.out (put_grown (W:=W) (l:=D) (.deferred none)) (fun r e=>by injection e with e;subst e;exact ⟨hD,_,hK,rfl⟩)
    rw [hall] at hk hk2
    obtain ⟨v,hb1,hov⟩:=hk.acc
    obtain ⟨v2,hb2,hov2⟩:=hk2.acc
    obtain rfl:v2=v:=by
      have hne:bo≠D:=by have:=HG6.out;have:=HGC.out;omega
      have e1:(W.putObj D (.deferred none)).heap[bo]?=W.heap[bo]?:=World.putObj_heap_other hne
      have e2:_=some _:=hb1
      have e3:_=some _:=hb2
      rw [e1,e2] at e3
      injection e3 with e3
      injection e3 with e3
      injection e3 with e3
      injection e3 with e3
      exact e3.symm
    have HOV:=Lib.hid (hov2.base (B':=w.heap.size) HWS.out)
    have HBW:=Lib.hid hk2.below
    have d1:=hb1.cell 0
    rw [←HR.out] at HOV
    clear hk hk2 hb1 hb2 hov hov2 hK
    go_wp2
    refine ⟨by simp,.inl ⟨_,_,rfl,run_takeDeferred HKD.out,?_⟩⟩
    refine ⟨v2,?_,?_⟩
    · simp [results,Tryz.results78,go_sem]
    · exact ⟨_,rfl,HOV.out,HBW.out⟩
  case stop=>
    rintro D c pre W hD hpre h hK
    exact h.elim
end Go.Proofs.YtjmekllgnhkodaaGreatDoor
namespace Go.Proofs.YtjmekllgnhkodaaGreatDoor
set_option maxHeartbeats 8000000
set_option maxRecDepth 100000
open Go.RowKit Go.Shelf Go.Sort
theorem flat_ents_len:∀L:List Int,(L.flatMap entsF).length≤L.length * 256
  | []=>Nat.le_refl _
  | p::L=>by
    rw [List.flatMap_cons,List.length_append,List.length_cons]
    have h1:=flat_ents_len L
    have h2:(entsF p).length≤256:=entsK_len p 256
    omega
theorem all9_len (c:List Opd):(all9 c).length≤1024:=by
  have h1:=flat_ents_len (pg9 c)
  have h2:=(pg9_len c).2.1
  unfold all9
  omega
theorem fitC_sh {s t:ByteArray} {ex:List UInt8} {l c:List Opd} (h:shF s t l c=false):fitsC s t ex l c=false:=by
  unfold fitsC
  rw [h];rfl
theorem All9_any (p:Blocks) (x:Ins) (v:Value) (w:World) (h:SlR opdR w p v x.args) (hn:x.args.length≤1000000) (hf:∀y∈x.args,fits64 y.n):
    Calls Tryz.prog 79 #[.agg #[.string x.op,v]] w (EntsP 53 w (allR x)):=by
  have HEP:Hid (EntsP 53 w (allR x)=fun e w'=>∃v,e=.returned v∧Acc entR w' w.heap.size 53 v (allR x)∧Below w.heap.size w w'):=Lib.hid rfl
  have HOf:=Lib.hid (fun W (hb:RowKit.Below w.heap.size w W)=>ref08Of_any p x v W (h.below hb) hn hf)
  have HFT:=Lib.hid (fun s ex al l p2 v2 W (hb:RowKit.Below w.heap.size w W) h2 hex pg op=>Fits10_any pg op s ex al l x p2 p v2 v W h2 (h.below hb) hn hf hex)
  have HAL:=Lib.hid (allR_eq x)
  obtain ⟨va,vc,rfl⟩:∃a c,v=.slice a x.args.length c:=by obtain ⟨a,c,e,_⟩:=h;exact ⟨a,c,e⟩
  clear h hn hf
  obtain ⟨t,m⟩:=x
  dsimp only at *
  generalize (canonOf ⟨t,m⟩).args=cn at *
  generalize allR ⟨t,m⟩=R at *
  rw [HEP.out]
  clear HEP
  have HF:=Lib.hid ((Fr.start w).new 27 #[.string t,.slice va m.length vc])
  obtain ⟨W0,hW0⟩:∃W0:World,W0=w.alloc (.cells #[.string t,.slice va m.length vc] 27):=⟨_,rfl⟩
  rw [←hW0] at HF
  go_enter Tryz.func79,Tryz.ntmps79
  go_upto_region 1 with fail
  rw [←hW0]
  clear hW0
  obtain ⟨a0,a1⟩:=(HF.out.blk 0 rfl).pair
  have HO1:=Lib.hid (HOf.out _ HF.out.below)
  clear HOf
  go_upto_region 3 with (go_at_call 30;refine HO1.out.mono ?_;rintro e w2 ⟨v2,rfl,ho2,hb2⟩;obtain ⟨va2,vc2,rfl⟩:=ho2.form;have HF2:=Lib.hid ((HF.out.next hb2).new 27 #[.string t,.slice va2 cn.length vc2]);have HS2:=Lib.hid (ho2.slR.alloc (.cells #[.string t,.slice va2 cn.length vc2] 27));clear hb2 ho2)
  clear HO1 HF a0 a1
  generalize hg2:w2.heap.size=g2 at *
  obtain ⟨W2,hW2⟩:∃W:World,W=w2.alloc (.cells #[.string t,.slice va2 cn.length vc2] 27):=⟨_,rfl⟩
  rw [←hW2] at HF2 HS2 ⊢
  clear hW2 hg2
  have hgl:=(HF2.out.blk 0 rfl).lt
  have HWW:=Lib.hid HF2.out.below.size
  have HFS:=Lib.hid (fun W (hb:RowKit.Below W2.heap.size W2 W)=>first_any t cn _ _ W (HS2.out.below hb))
  have HLS:=Lib.hid (fun W (hb:RowKit.Below W2.heap.size W2 W)=>last_any t cn _ _ W (HS2.out.below hb))
  have HPL:=Lib.hid (pg9_len cn)
  obtain ⟨d0,d1⟩:=(HF2.out.blk 0 rfl).pair
  go_upto_region 4 with (go_at_call 123;refine (HFS.out _ (Below.refl _ _)).mono ?_;rintro e w3 ⟨rfl,hb3⟩;have HB3:=Lib.hid hb3;clear hb3 d0 d1)
  go_loopw [3,5] (fun c i wr=>∃j:Nat,j≤(pg9 cn).length∧i=.int .i64 (firstF cn+j)∧Acc entR wr W2.heap.size 53 c ((pre9 cn j 0).filter (fitE t cn))∧Below W2.heap.size W2 wr) (fun _ i _=>(lastF cn+1 - intOf i).toNat)
  case atStart=>exact ⟨0,Nat.zero_le _,by rw [Int.ofNat_zero,Int.add_zero],Acc.nil _ _ _,HB3.out⟩
  case round=>
    obtain ⟨j,hj,rfl,htr,hb⟩:=hrel
    have HTR:=Lib.hid htr
    have HB:=Lib.hid hb
    obtain ⟨a3,c3,rfl⟩:=htr.form
    clear HB3 htr hb
    obtain ⟨d0,d1⟩:=((HF2.out.next HB.out).blk 0 rfl).pair
    by_cases hlt:j < (pg9 cn).length
    · have hle:firstF cn+(j:Int)≤lastF cn:=by have:=HPL.out;omega
      have HLT:=Lib.hid hlt
      go_wp2_with (go_at_call 124;refine (HLS.out _ HB.out).mono ?_;rintro e w4 ⟨rfl,hb4⟩;have HB4:=Lib.hid (HB.out.trans (hb4.mono HB.out.size));have HT4:=Lib.hid (HTR.out.stay hb4);clear hb4 d0 d1)
      go_loopw [3,6] (fun c i wr=>∃k:Nat,k≤256∧i=.int .i64 k∧Acc entR wr W2.heap.size 53 c ((pre9 cn j k).filter (fitE t cn))∧Below W2.heap.size W2 wr) (fun _ i _=>(256 - intOf i).toNat)
      case atStart=>exact ⟨0,Nat.zero_le _,rfl,HT4.out,HB4.out⟩
      case round=>
        obtain ⟨k,hk,rfl,htr,hb⟩:=hrel
        clear HTR HB4 HB HT4
        have HTR:=Lib.hid htr
        have HB:=Lib.hid hb
        obtain ⟨a4,k4,rfl⟩:=htr.form
        clear htr hb
        by_cases hlk:k < 256
        · have hcv:IntKind.u8.wrap (k:Int)=k:=IntWalk.u8_in _ (by omega)
          have HA:=Lib.hid (fun W=>AtRef_any (firstF cn+j) k hlk W)
          have HKD:=Lib.hid (atF_kind (firstF cn+j) k)
          have HY0:=Lib.hid (fun h=>congrArg (List.filter (fitE t cn)) (pre9_no (c:=cn) (j:=j) (k:=k) h))
          have HYS:=Lib.hid (fun x h=>(congrArg (List.filter (fitE t cn)) (pre9_yes (c:=cn) (j:=j) (k:=k) (x:=x) h)).trans (filt_snoc _ _ _))
          have HLE:Hid ((List.filter (fitE t cn) (pre9 cn j k)).length≤1024):=Lib.hid (Nat.le_trans (List.length_filter_le _ _) (Nat.le_trans (pre9_pre cn HLT.out hk).length_le (all9_len cn)))
          have HEX:=Lib.hid (fun x h=>ent9_at (x:=x) HLT.out hlk h)
          generalize atF (firstF cn+j) k=r at *
          generalize List.filter (fitE t cn) (pre9 cn j k)=F at *
          obtain ⟨x,kk⟩:=r
          dsimp only at *
          rcases x with _ | x
          · have hk1:¬kk=1:=by rcases HKD.out.2 rfl with h | h | h<;>omega
            have HY:=Lib.hid (HY0.out rfl)
            clear HKD HY0 HYS HEX
            go_wp2_with fail
            refine (HA.out _).mono ?_
            rintro e w5 ⟨he,hb5⟩
            subst he
            have HB6:=Lib.hid (hb5.alloc hb5.size (.cells #[.int .i64 0,.int .u8 0,.string ⟨#[]⟩,.slice none 0 0,.string ⟨#[]⟩,.bool false] 53))
            clear hb5
            unfold ent0
            go_wp2
            go_round
            case rel=>exact ⟨k+1,hlk,by go_num,by rw [HY.out];exact HTR.out.stay HB6.out,HB.out.trans (HB6.out.mono HB.out.size)⟩
            case measure=>simp [intOf];omega
          · obtain rfl:kk=1:=HKD.out.1 _ rfl
            obtain ⟨hok,hx1⟩:=HEX.out x rfl
            have hfo:=fits_ok hok (t:=t) (c:=cn)
            have hys:=HYS.out x rfl
            have hfe:fitE t cn x=fitsC ⟨x.iop.toArray⟩ t x.ex x.args cn:=hfo
            rw [hfe] at hys
            obtain ⟨p1,o1,i1,l1,s1,f1⟩:=x
            dsimp only at hx1 hys
            have hx1:(⟨s1.toArray⟩:ByteArray).size≤9223372036854775807:=Nat.le_trans hx1 (by decide)
            obtain ⟨S,hS⟩:∃S:ByteArray,S=⟨i1.toArray⟩:=⟨_,rfl⟩
            rw [←hS] at hys
            have HYS2:=Lib.hid hys
            have HSS:=Lib.hid hS
            clear HKD HY0 HYS HEX hok hfo hfe hS hys
            go_wp2_with fail
            refine (HA.out _).mono ?_
            rintro e w5 ⟨⟨v5,rfl,ho5⟩,hb5⟩
            obtain ⟨va,vc,rfl⟩:=ho5.form
            unfold entVal
            dsimp only at *
            rw [←HSS.out]
            have hsz:=HB.out.size
            have HB6:=Lib.hid (hb5.alloc hb5.size (.cells #[.int .i64 p1,.int .u8 o1,.string S,.slice va l1.length vc,.string ⟨s1.toArray⟩,.bool f1] 53))
            have H5:=Lib.hid (((Fr.start W2).next (HB.out.trans (hb5.mono HB.out.size))).new 53 #[.int .i64 p1,.int .u8 o1,.string S,.slice va l1.length vc,.string ⟨s1.toArray⟩,.bool f1])
            have HS5:=Lib.hid (ho5.below ((Below.refl _ _).alloc (Nat.le_refl _) (.cells #[.int .i64 p1,.int .u8 o1,.string S,.slice va l1.length vc,.string ⟨s1.toArray⟩,.bool f1] 53)))
            clear hb5 ho5
            go_upto_region 10 with fail
            generalize hg5:w5.heap.size=g5 at *
            obtain ⟨W5,hW5⟩:∃W:World,W=w5.alloc (.cells #[.int .i64 p1,.int .u8 o1,.string S,.slice va l1.length vc,.string ⟨s1.toArray⟩,.bool f1] 53):=⟨_,rfl⟩
            rw [←hW5] at H5 HS5 HB6 ⊢
            clear hW5 hg5
            obtain ⟨c0,c1,c2,c3,c4,c5⟩:=(H5.out.blk 0 rfl).six
            obtain ⟨e0,e1⟩:=((HF2.out.next H5.out.below).blk 1 rfl).pair
            have HT5:=Lib.hid (HTR.out.stay HB6.out)
            cases hq:(S.toList==t.toList)
            · have HY:=Lib.hid (HYS2.out.trans (if_neg (by rw [fitC_sh (shF_op hq)];decide)))
              clear HYS2
              go_wp2
              go_round
              case rel=>exact ⟨k+1,hlk,by go_num,by rw [HY.out];exact HT5.out,H5.out.below⟩
              case measure=>simp [intOf];omega
            cases hfc:fitsC S t s1 l1 cn
            · have HY:=Lib.hid (HYS2.out.trans (if_neg (by rw [hfc];decide)))
              clear HYS2
              go_wp2_with (go_at_call 125;refine (HFT.out S ⟨s1.toArray⟩ f1 l1 _ _ _ (HF2.out.next H5.out.below).below HS5.out.slR hx1 p1 o1).mono ?_;rintro e w7 ⟨rfl,hb⟩;rw [show (⟨s1.toArray⟩:ByteArray).data.toList=s1 from rfl,hfc];have H7:=Lib.hid (H5.out.next hb);have HT7:=Lib.hid (HT5.out.stay hb);clear hb)
              go_round
              case rel=>exact ⟨k+1,hlk,by go_num,by rw [HY.out];exact HT7.out,H7.out.below⟩
              case measure=>simp [intOf];omega
            · have HY:=Lib.hid (HYS2.out.trans (if_pos hfc))
              clear HYS2
              have HQ:Hid (∀k,wr.heap.size≤k→W2.heap.size≤k∧Value.ownBlock (.slice a4 F.length k4)≠some k):=Lib.hid (fun k hk=>⟨Nat.le_trans HB.out.size hk,fun e=>absurd (HTR.out.lt k e).2 (Nat.not_lt.2 hk)⟩)
              have HLB:Hid ((F.length+1) * 80≤140737488355328):=Lib.hid (by have:=HLE.out;omega)
              have HLL:Hid (F.length+1≤9223372036854775807):=Lib.hid (by have:=HLE.out;omega)
              go_wp2_with (first
                | (go_at_call 125;refine (HFT.out S ⟨s1.toArray⟩ f1 l1 _ _ _ (HF2.out.next H5.out.below).below HS5.out.slR hx1 p1 o1).mono ?_;rintro e w7 ⟨rfl,hb⟩;rw [show (⟨s1.toArray⟩:ByteArray).data.toList=s1 from rfl,hfc];have H7:=Lib.hid (H5.out.next hb);have HT7:=Lib.hid (HT5.out.stay hb);have HS7:=Lib.hid (HS5.out.below hb);obtain ⟨c0,c1,c2,c3,c4,c5⟩:=(H7.out.blk 0 rfl).six;have HSZ:=Lib.hid H7.out.below.size;have HRL:=Lib.hid (entR_rel (x:=⟨p1,o1,i1,l1,s1,f1⟩) HS7.out);rw [←HSS.out] at HRL;clear hb)
                | (at_builtin;refine wpList_push_A rfl (.tmp 45) (.tmp 47) 121 rfl W2.heap.size 53 80 elE9 _ F ⟨p1,o1,i1,l1,s1,f1⟩ _ (fun b=>wr.heap.size≤b) rfl rfl HT7.out HRL.out HQ.out HLB.out HLL.out HSZ.out ?_;intro a' c' w' hp;have HP:=Lib.hid hp;clear hp))
              go_round
              case rel=>exact ⟨k+1,hlk,by go_num,by rw [HY.out];have:=HP.out.1;simpa using this,H7.out.below.trans (AccP.below HP.out HT7.out HSZ.out)⟩
              case measure=>simp [intOf];omega
        · obtain rfl:k=256:=by omega
          have hw:wrap64 (firstF cn+(j:Int)+1)=firstF cn+((j+1:Nat):Int):=by have:=HPL.out;have:=HLT.out;rw [Int.natCast_add];unfold wrap64;omega
          go_wp2
          go_round
          case rel=>exact ⟨j+1,HLT.out,by rw [hw],by rw [←pre9_next cn j HLT.out];exact HTR.out,HB.out⟩
          case measure=>simp only [intOf];rw [hw];omega
    · obtain rfl:j=(pg9 cn).length:=by omega
      have hle:¬firstF cn+((pg9 cn).length:Int)≤lastF cn:=by have:=HPL.out;omega
      have hRR:List.filter (fitE t cn) (pre9 cn (pg9 cn).length 0)=R:=by rw [pre9_end,HAL.out]
      rw [hRR] at HTR ⊢
      clear hRR
      go_wp2_with (go_at_call 124;refine (HLS.out _ HB.out).mono ?_;rintro e w4 ⟨rfl,hb4⟩;have HB4:=Lib.hid (HB.out.trans (hb4.mono HB.out.size));have HT4:=Lib.hid (HTR.out.stay hb4);clear hb4 d0 d1)
      go_ret
      exact ⟨_,rfl,HT4.out.base HWW.out,HF2.out.below.trans (HB4.out.mono HWW.out)⟩
end Go.Proofs.YtjmekllgnhkodaaGreatDoor
namespace Go.Proofs.YtjmekllgnhkodaaGreatDoor
set_option maxHeartbeats 8000000
set_option maxRecDepth 100000
open Go.RowKit Go.Shelf Go.Sort
def rowR:Rep (List UInt8) where
  size:=1
  rel:=fun w p cs x=>∃v,cs=[v]∧SlR byteR w p v x
  len:=fun ⟨_,e,_⟩=>by subst e;rfl
  keep:=fun hk ⟨v,e,h⟩=>⟨v,e,h.keep hk⟩
  mono:=fun hp ⟨v,e,h⟩=>⟨v,e,h.mono hp⟩
  old:=fun ⟨v,e,h⟩=>⟨v,e,h.old⟩
  one:=fun ⟨v,e,a,cap,hv,_⟩ u hu=>by subst e;subst hv;simp at hu;subst hu;rfl
theorem elRow:ElT Tryz.prog 64 22 rowR.size 24:=ElT.mk' (z:=.slice none 0 0) Tryz.underlying64 (by kernel_rfl) rfl (by decide)
def RowsP (w:World) (l:List (List UInt8)) (e:Ending) (w':World):Prop:=∃v,e=.returned v∧Acc rowR w' w.heap.size 22 v l∧Below w.heap.size w w'
end Go.Proofs.YtjmekllgnhkodaaGreatDoor
namespace Go.Proofs.YtjmekllgnhkodaaGreatDoor
set_option maxHeartbeats 8000000
set_option maxRecDepth 100000
open Go.RowKit Go.Shelf Go.Sort
theorem allR_len (x:Ins):(allR x).length≤1792:=Nat.le_trans (List.length_filter_le _ _) (candF_len _ _)
theorem Forms_any (x:Ins) (m:Mild x) (p:Blocks) (v:Value) (w:World) (h:SlR opdR w p v x.args) (hT:Spc w):
    Calls Tryz.prog 40 #[.agg #[.string x.op,v]] w (RowsP w (formsR x)):=by
  have hcl:(canonOf x).args.length≤1000000:=by have:=m.n;have:=canon_len10 x;omega
  have HA:=Lib.hid (fun W (hb:RowKit.Below w.heap.size w W)=>All_any p x v W (h.below hb) (hT.below hb) (by have:=m.op;omega) (by have:=m.n;omega) hcl m.f)
  have HBY:=Lib.hid (fun e (he:e∈allR x) p v W h=>Bytes_any e (allR_mem he).1 (allR_mem he).2.1 (numD e (canonOf x).args) (numN e (canonOf x).args) p v W h)
  have HVA:=Lib.hid (fun e (he:e∈allR x) p2 v2 W h2 (hb:RowKit.Below w.heap.size w W)=>ValuesS_any e.pg e.op ⟨e.iop.toArray⟩ ⟨e.ex.toArray⟩ e.al e.args x p2 p v2 v W h2 (h.below hb) (hT.below hb) (by have:=(allR_mem he).1.size.2;omega) (by have:=m.n;omega) hcl m.f (by have:=(allR_mem he).1.size.1;omega) (by have:=m.op;omega))
  have HNM:=Lib.hid (fun e (he:e∈allR x)=>for_num he)
  have HLN:=Lib.hid (allR_len x)
  have HFR:Hid (formsR x=(allR x).map (forB x)):=Lib.hid rfl
  have HEP:Hid (RowsP w (formsR x)=fun e w'=>∃v,e=.returned v∧Acc rowR w' w.heap.size 22 v (formsR x)∧Below w.heap.size w w'):=Lib.hid rfl
  rw [HEP.out]
  clear HEP
  obtain ⟨va,vc,rfl⟩:∃a c,v=.slice a x.args.length c:=by obtain ⟨a,c,e,_⟩:=h;exact ⟨a,c,e⟩
  clear h hT m hcl
  generalize formsR x=R at *
  generalize hFB:forB x=FB at *
  clear hFB
  generalize allR x=L at *
  have HF:=Lib.hid ((Fr.start w).new 27 #[.string x.op,.slice va x.args.length vc])
  obtain ⟨W0,hW0⟩:∃W0:World,W0=w.alloc (.cells #[.string x.op,.slice va x.args.length vc] 27):=⟨_,rfl⟩
  rw [←hW0] at HF
  go_enter Tryz.func40,Tryz.ntmps40
  go_upto_region 1 with fail
  rw [←hW0]
  clear hW0
  obtain ⟨a0,a1⟩:=(HF.out.blk 0 rfl).pair
  have HA1:=Lib.hid (HA.out _ HF.out.below)
  clear HA
  go_wp2_with (go_at_call 78;refine HA1.out.mono ?_;rintro e w1 ⟨v1,rfl,ho1,hb1⟩;obtain ⟨la,lc,rfl⟩:=ho1.form;have HF1:=Lib.hid (HF.out.next hb1);have HS1:=Lib.hid ho1.slR.old;clear hb1 ho1 a0 a1)
  clear HF HA1
  have HWW:=Lib.hid HF1.out.below.size
  have hgl:=(HF1.out.blk 0 rfl).lt
  go_loopw [3,13] (fun c i wr=>∃k:Nat,k≤L.length∧i=.int .i64 k∧Acc rowR wr w1.heap.size 22 c ((L.take k).map FB)∧Below w1.heap.size w1 wr) (fun _ i _=>L.length - (intOf i).toNat)
  case atStart=>exact ⟨0,Nat.zero_le _,rfl,Acc.nil _ _ _,Below.refl _ _⟩
  case round=>
    obtain ⟨k,hk,rfl,htr,hb⟩:=hrel
    have HTR:=Lib.hid htr
    have HB:=Lib.hid hb
    obtain ⟨a4,k4,rfl⟩:=htr.form
    have hlk:((L.take k).map FB).length=k:=by rw [List.length_map,List.length_take,Nat.min_eq_left hk]
    have HLK:=Lib.hid hlk
    clear htr hb hlk
    have hl9:(L.length:Int)≤1792:=by have:=HLN.out;omega
    by_cases hlt:k < L.length
    · obtain ⟨a9,c9,e9,_,g9⟩:=(HS1.out.below HB.out).ent6
      injection e9 with e9 e10 e11
      clear e10
      subst e9 e11
      obtain ⟨bb,oo,xa,xc,rfl,hbb,x0,x1,x2,x3,x4,x5,hxs⟩:=g9 k L[k] (List.getElem?_eq_getElem hlt)
      have HXS:=Lib.hid hxs
      have hmem:L[k]∈L:=List.getElem_mem hlt
      have htk:(L.take (k+1)).map FB=(L.take k).map FB++[FB L[k]]:=by rw [List.take_succ_eq_append_getElem hlt,List.map_append];rfl
      have HTK:=Lib.hid htk
      have HV1:=Lib.hid (HVA.out _ hmem)
      have HB1:=Lib.hid (HBY.out _ hmem)
      obtain ⟨hn1,hn2⟩:=HNM.out _ hmem
      rw [hn1] at HV1
      rw [hn2] at HB1
      clear g9 hxs hmem htk hn1 hn2 HVA HBY HNM
      generalize L[k]=y at *
      generalize FB y=fb at *
      generalize numD y _=nd at *
      generalize numN y _=nn at *
      generalize (L.take k).map FB=F at *
      obtain ⟨p1,o1,i1,l1,s1,f1⟩:=y
      dsimp only at *
      unfold entVal at HB1
      dsimp only at HB1
      obtain ⟨d0,d1⟩:=((HF1.out.next HB.out).blk 0 rfl).pair
      have HBN:Hid (Below wr.heap.size wr (wr.alloc (.cells #[.int .i64 p1,.int .u8 o1,.string ⟨i1.toArray⟩,.slice xa l1.length xc,.string ⟨s1.toArray⟩,.bool f1] 50))):=Lib.hid ((Below.refl _ _).alloc (Nat.le_refl _) _)
      have HG:=Lib.hid ((HF1.out.next HB.out).new 50 #[.int .i64 p1,.int .u8 o1,.string ⟨i1.toArray⟩,.slice xa l1.length xc,.string ⟨s1.toArray⟩,.bool f1])
      have HXN:=Lib.hid (HXS.out.below HBN.out)
      have HTN:=Lib.hid (HTR.out.stay HBN.out)
      have HQ:Hid (∀j,wr.heap.size≤j→w1.heap.size≤j∧Value.ownBlock (.slice a4 F.length k4)≠some j):=Lib.hid (fun j hj=>⟨Nat.le_trans HB.out.size hj,fun e=>absurd (HTR.out.lt j e).2 (Nat.not_lt.2 hj)⟩)
      have HLB:Hid ((F.length+1) * 24≤140737488355328):=Lib.hid (by have:=HLK.out;omega)
      have HLL:Hid (F.length+1≤9223372036854775807):=Lib.hid (by have:=HLK.out;omega)
      go_upto_region 5 with fail
      generalize hg5:wr.heap.size=g5 at *
      obtain ⟨W5,hW5⟩:∃W:World,W=wr.alloc (.cells #[.int .i64 p1,.int .u8 o1,.string ⟨i1.toArray⟩,.slice xa l1.length xc,.string ⟨s1.toArray⟩,.bool f1] 50):=⟨_,rfl⟩
      rw [←hW5] at HG HXN HTN HBN ⊢
      clear hW5 x0 x1 x2 x3 x4 x5 d0 d1
      obtain ⟨c0,c1,c2,c3,c4,c5⟩:=(HG.out.blk 0 rfl).six
      obtain ⟨d0,d1⟩:=(HG.out.blk 1 rfl).pair
      go_wp2_with (first
        | (go_at_call 58;refine (HV1.out _ _ _ HXN.out HG.out.below).mono ?_;rintro e w6 ⟨rfl,hb⟩;have HG6:=Lib.hid (HG.out.next hb);have HB6:=Lib.hid hb;have HX6:=Lib.hid (HXN.out.below hb);have HT6:=Lib.hid (HTN.out.stay hb);obtain ⟨c0,c1,c2,c3,c4,c5⟩:=(HG6.out.blk 0 rfl).six;clear hb)
        | (go_at_call 35;refine (HB1.out _ _ _ HX6.out).mono ?_;rintro e w7 ⟨⟨v7,rfl,ho7⟩,hb⟩;obtain ⟨ba,bc,rfl⟩:=ho7.form;have HG7:=Lib.hid (HG6.out.next hb);have HB67:=Lib.hid (HB6.out.trans (hb.mono HB6.out.size));have HT7:=Lib.hid (HT6.out.stay hb);have HR7:=Lib.hid (show rowR.rel w7 (fun j=>g5≤j) [.slice ba fb.length bc] fb from ⟨_,rfl,Own.slR (q:=fun j=>g5≤j) ho7 (fun _ h=>h.elim) (fun j h=>by have:=HG6.out.blk 0 rfl;have:=this.lt;omega)⟩);have HSZ:=Lib.hid (show w1.heap.size≤w7.heap.size by have:=HB.out.size;have:=(HG7.out.blk 0 rfl).lt;omega);clear hb ho7)
        | (at_builtin;refine wpList_push_A rfl (.tmp 30) (.tmp 32) 64 rfl w1.heap.size 22 24 elRow _ F fb _ (fun j=>g5≤j) rfl rfl HT7.out HR7.out HQ.out HLB.out HLL.out HSZ.out ?_;intro a' c' w' hp;have HP:=Lib.hid hp;clear hp))
      go_round
      case rel=>exact ⟨k+1,hlt,by go_num,by rw [HTK.out];have:=HP.out.1;simpa using this,(HB.out.trans ((HBN.out.trans (HB67.out.mono (by have:=HBN.out.size;omega))).mono (by have:=HB.out.size;omega))).trans (AccP.below HP.out HT7.out HSZ.out)⟩
      case measure=>simp [intOf];omega
    · obtain rfl:k=L.length:=by omega
      have hRR:(L.take L.length).map FB=R:=by rw [List.take_length,HFR.out]
      rw [hRR] at HTR ⊢
      clear hRR
      go_wp2
      go_ret
      exact ⟨_,rfl,HTR.out.base HWW.out,HF1.out.below.trans (HB.out.mono HWW.out)⟩
end Go.Proofs.YtjmekllgnhkodaaGreatDoor
namespace Go.Proofs.YtjmekllgnhkodaaGreatDoor
set_option maxHeartbeats 8000000
set_option maxRecDepth 100000
open Go.RowKit Go.Shelf Go.Sort
theorem for_val {x:Ins} {e:EntV} (h:e∈allR x):valF ⟨e.iop.toArray⟩ x.op e.ex e.args (canonOf x).args=(numD e (canonOf x).args,numN e (canonOf x).args):=by
  obtain ⟨hx,_,h2⟩:=allR_mem h
  have h3:=(for_num h).1
  rw [fits_eq hx.var hx.up hx.ne] at h3
  injection h3 with h4 h5
  injection h5 with h5 _
  exact Prod.ext h4 h5
theorem allR_ex {x:Ins} {e:EntV} (h:e∈allR x):(⟨e.ex.toArray⟩:ByteArray).size≤9223372036854775807:=by
  obtain ⟨p,k,hk,hx⟩:=cand_mem (List.mem_filter.1 h).1
  obtain ⟨q,hq,rfl⟩:=page_of hx
  exact Nat.le_trans (exs_at hq hk hx) (by decide)
theorem Forms11_any (x:Ins) (m:Mild x) (p:Blocks) (v:Value) (w:World) (h:SlR opdR w p v x.args):
    Calls Tryz.prog 42 #[.agg #[.string x.op,v]] w (RowsP w (formsR x)):=by
  have hcl:(canonOf x).args.length≤1000000:=by have:=m.n;have:=canon_len10 x;omega
  have HA:=Lib.hid (fun W (hb:RowKit.Below w.heap.size w W)=>All9_any p x v W (h.below hb) (by have:=m.n;omega) m.f)
  have HBY:=Lib.hid (fun e (he:e∈allR x) p v W h=>Bytes11_any e (allR_mem he).1 (allR_mem he).2.1 (numD e (canonOf x).args) (numN e (canonOf x).args) p v W h)
  have HVA:=Lib.hid (fun e (he:e∈allR x) p2 v2 W h2 (hb:RowKit.Below w.heap.size w W)=>Values10_any e.pg e.op ⟨e.iop.toArray⟩ ⟨e.ex.toArray⟩ e.al e.args x p2 p v2 v W h2 (h.below hb) (by have:=m.n;omega) m.f (allR_ex he))
  have HNM:=Lib.hid (fun e (he:e∈allR x)=>And.intro (for_val he) (for_num he).2)
  have HLN:=Lib.hid (allR_len x)
  have HFR:Hid (formsR x=(allR x).map (forB x)):=Lib.hid rfl
  have HEP:Hid (RowsP w (formsR x)=fun e w'=>∃v,e=.returned v∧Acc rowR w' w.heap.size 22 v (formsR x)∧Below w.heap.size w w'):=Lib.hid rfl
  rw [HEP.out]
  clear HEP
  obtain ⟨va,vc,rfl⟩:∃a c,v=.slice a x.args.length c:=by obtain ⟨a,c,e,_⟩:=h;exact ⟨a,c,e⟩
  clear h m hcl
  generalize formsR x=R at *
  generalize hFB:forB x=FB at *
  clear hFB
  generalize allR x=L at *
  have HF:=Lib.hid ((Fr.start w).new 27 #[.string x.op,.slice va x.args.length vc])
  obtain ⟨W0,hW0⟩:∃W0:World,W0=w.alloc (.cells #[.string x.op,.slice va x.args.length vc] 27):=⟨_,rfl⟩
  rw [←hW0] at HF
  go_enter Tryz.func42,Tryz.ntmps42
  go_upto_region 1 with fail
  rw [←hW0]
  clear hW0
  obtain ⟨a0,a1⟩:=(HF.out.blk 0 rfl).pair
  have HA1:=Lib.hid (HA.out _ HF.out.below)
  clear HA
  go_upto_region 4 with (go_at_call 79;refine HA1.out.mono ?_;rintro e w1 ⟨v1,rfl,ho1,hb1⟩;obtain ⟨la,lc,rfl⟩:=ho1.form;have HF1:=Lib.hid (HF.out.next hb1);have HS1:=Lib.hid ho1.slR.old;clear hb1 ho1 a0 a1)
  clear HF HA1
  have HWW:=Lib.hid HF1.out.below.size
  have hgl:=(HF1.out.blk 0 rfl).lt
  go_loopw [3,5] (fun c i wr=>∃k:Nat,k≤L.length∧i=.int .i64 k∧Acc rowR wr w1.heap.size 22 c ((L.take k).map FB)∧Below w1.heap.size w1 wr) (fun _ i _=>L.length - (intOf i).toNat)
  case atStart=>exact ⟨0,Nat.zero_le _,rfl,Acc.nil _ _ _,Below.refl _ _⟩
  case round=>
    obtain ⟨k,hk,rfl,htr,hb⟩:=hrel
    have HTR:=Lib.hid htr
    have HB:=Lib.hid hb
    obtain ⟨a4,k4,rfl⟩:=htr.form
    have hlk:((L.take k).map FB).length=k:=by rw [List.length_map,List.length_take,Nat.min_eq_left hk]
    have HLK:=Lib.hid hlk
    clear htr hb hlk
    have hl9:(L.length:Int)≤1792:=by have:=HLN.out;omega
    by_cases hlt:k < L.length
    · obtain ⟨a9,c9,e9,_,g9⟩:=(HS1.out.below HB.out).ent6
      injection e9 with e9 e10 e11
      clear e10
      subst e9 e11
      obtain ⟨bb,oo,xa,xc,rfl,hbb,x0,x1,x2,x3,x4,x5,hxs⟩:=g9 k L[k] (List.getElem?_eq_getElem hlt)
      have HXS:=Lib.hid hxs
      have hmem:L[k]∈L:=List.getElem_mem hlt
      have htk:(L.take (k+1)).map FB=(L.take k).map FB++[FB L[k]]:=by rw [List.take_succ_eq_append_getElem hlt,List.map_append];rfl
      have HTK:=Lib.hid htk
      have HV1:=Lib.hid (HVA.out _ hmem)
      have HB1:=Lib.hid (HBY.out _ hmem)
      obtain ⟨hn1,hn2⟩:=HNM.out _ hmem
      rw [hn1] at HV1
      rw [hn2] at HB1
      clear g9 hxs hmem htk hn1 hn2 HVA HBY HNM
      generalize L[k]=y at *
      generalize FB y=fb at *
      generalize numD y _=nd at *
      generalize numN y _=nn at *
      generalize (L.take k).map FB=F at *
      obtain ⟨p1,o1,i1,l1,s1,f1⟩:=y
      dsimp only at *
      unfold entVal at HB1
      dsimp only at HB1
      obtain ⟨d0,d1⟩:=((HF1.out.next HB.out).blk 0 rfl).pair
      have HQ:Hid (∀j,wr.heap.size≤j→w1.heap.size≤j∧Value.ownBlock (.slice a4 F.length k4)≠some j):=Lib.hid (fun j hj=>⟨Nat.le_trans HB.out.size hj,fun e=>absurd (HTR.out.lt j e).2 (Nat.not_lt.2 hj)⟩)
      have HLB:Hid ((F.length+1) * 24≤140737488355328):=Lib.hid (by have:=HLK.out;omega)
      have HLL:Hid (F.length+1≤9223372036854775807):=Lib.hid (by have:=HLK.out;omega)
      have HD:Hid (Below wr.heap.size wr wr.drew):=Lib.hid (Below.refl _ _).drew
      have HG:=Lib.hid ((HF1.out.next HB.out).next HD.out)
      have hdl:w.heap.size < wr.heap.size:=by have:=HB.out.size;omega
      have HXD:=Lib.hid (HXS.out.below HD.out)
      have HTD:=Lib.hid (HTR.out.stay HD.out)
      have HSL:=Lib.hid (HS1.out.below HB.out)
      go_wp2_with fail
      go_region_held3 (fun w'=>w'.cell? ⟨w.heap.size,0,none⟩=some (.string x.op)∧w'.cell? ⟨w.heap.size,1,none⟩=some (.slice va x.args.length vc)∧w'.cell? ⟨bb,oo+k * 6,none⟩=some (.int .i64 p1)∧w'.cell? ⟨bb,oo+k * 6+1,none⟩=some (.int .u8 o1)∧w'.cell? ⟨bb,oo+k * 6+2,none⟩=some (.string ⟨i1.toArray⟩)∧w'.cell? ⟨bb,oo+k * 6+3,none⟩=some (.slice xa l1.length xc)∧w'.cell? ⟨bb,oo+k * 6+4,none⟩=some (.string ⟨s1.toArray⟩)∧w'.cell? ⟨bb,oo+k * 6+5,none⟩=some (.bool f1)) (go_keep)
        (first | (go_at_call 80;refine (HV1.out _ _ _ HXD.out HG.out.below).mono ?_;rintro e w6 ⟨rfl,hb⟩;have HG6:=Lib.hid (HG.out.next hb);have HB6:=Lib.hid (HD.out.trans hb);have HX6:=Lib.hid (HXD.out.below hb);have HT6:=Lib.hid (HTD.out.stay hb);have d0:=(hb.cell (p:=⟨w.heap.size,0,none⟩) hdl).trans d0;have d1:=(hb.cell (p:=⟨w.heap.size,1,none⟩) hdl).trans d1;have x0:=(hb.cell (p:=⟨bb,oo+k * 6,none⟩) hbb).trans x0;have x1:=(hb.cell (p:=⟨bb,oo+k * 6+1,none⟩) hbb).trans x1;have x2:=(hb.cell (p:=⟨bb,oo+k * 6+2,none⟩) hbb).trans x2;have x3:=(hb.cell (p:=⟨bb,oo+k * 6+3,none⟩) hbb).trans x3;have x4:=(hb.cell (p:=⟨bb,oo+k * 6+4,none⟩) hbb).trans x4;have x5:=(hb.cell (p:=⟨bb,oo+k * 6+5,none⟩) hbb).trans x5;clear hb))
      go_wp2_with (first
        | (go_at_call 36;refine (HB1.out _ _ _ HX6.out).mono ?_;rintro e w7 ⟨⟨v7,rfl,ho7⟩,hb⟩;obtain ⟨ba,bc,rfl⟩:=ho7.form;have HG7:=Lib.hid (HG6.out.next hb);have HB67:=Lib.hid (HB6.out.trans (hb.mono HB6.out.size));have HT7:=Lib.hid (HT6.out.stay hb);have HR7:=Lib.hid (show rowR.rel w7 (fun j=>wr.heap.size≤j) [.slice ba fb.length bc] fb from ⟨_,rfl,Own.slR (q:=fun j=>wr.heap.size≤j) ho7 (fun _ h=>h.elim) (fun j h=>by have:=HB6.out.size;omega)⟩);have HSZ:=Lib.hid (show w1.heap.size≤w7.heap.size by have:=HB.out.size;have:=HB67.out.size;omega);clear hb ho7)
        | (at_builtin;refine wpList_push_A rfl (.tmp 37) (.tmp 39) 64 rfl w1.heap.size 22 24 elRow _ F fb _ (fun j=>wr.heap.size≤j) rfl rfl HT7.out HR7.out HQ.out HLB.out HLL.out HSZ.out ?_;intro a' c' w' hp;have HP:=Lib.hid hp;clear hp))
      go_round
      case rel=>exact ⟨k+1,hlt,by go_num,by rw [HTK.out];have:=HP.out.1;simpa using this,(HB.out.trans (HB67.out.mono HB.out.size)).trans (AccP.below HP.out HT7.out HSZ.out)⟩
      case measure=>simp [intOf];omega
    · obtain rfl:k=L.length:=by omega
      have hRR:(L.take L.length).map FB=R:=by rw [List.take_length,HFR.out]
      rw [hRR] at HTR ⊢
      clear hRR
      go_wp2
      go_ret
      exact ⟨_,rfl,HTR.out.base HWW.out,HF1.out.below.trans (HB.out.mono HWW.out)⟩
end Go.Proofs.YtjmekllgnhkodaaGreatDoor
namespace Go.Proofs.YtjmekllgnhkodaaGreatDoor
set_option maxHeartbeats 8000000
set_option maxRecDepth 100000
open Go.RowKit Go.Shelf Go.Sort
theorem form1_any (b:Nat) (p q:Blocks) (v u:Value) (l1 l2:List UInt8) (w:World) (h1:SlR byteR w p v l1) (h2:SlR byteR w q u l2) (hb:Blk w b 22 #[u]):
    Calls Tryz.prog 44 #[v,.pointer (some ⟨b,0,none⟩)] w fun e w'=>e=.returned (.bool (decide (l1=l2)))∧Below w.heap.size w w':=by
  have HQ:=Lib.hid (fun p q v1 v2 l1 l2 W h1 h2=>EqualByte_any p q v1 v2 l1 l2 W h1 h2)
  have d0:=hb.cell 0
  have HBB:Hid (Below w.heap.size w w):=Lib.hid (Below.refl _ _)
  clear hb
  obtain ⟨a1,c1,rfl⟩:∃a c,v=.slice a l1.length c:=by obtain ⟨a,c,e,_⟩:=h1;exact ⟨a,c,e⟩
  obtain ⟨a2,c2,rfl⟩:∃a c,u=.slice a l2.length c:=by obtain ⟨a,c,e,_⟩:=h2;exact ⟨a,c,e⟩
  have HX:=Lib.hid (HQ.out _ _ _ _ l1 l2 _ h1 h2)
  go_enter Tryz.func44,Tryz.ntmps44
  go_wp2_with (go_at_call 31;refine HX.out.mono ?_;rintro e w' ⟨rfl,n,rfl⟩;have H9:=Lib.hid (below_dN HBB.out n))
  go_ret
  exact ⟨rfl,H9.out⟩
end Go.Proofs.YtjmekllgnhkodaaGreatDoor
namespace Go.Proofs.YtjmekllgnhkodaaGreatDoor
set_option maxHeartbeats 8000000
set_option maxRecDepth 100000
open Go.RowKit Go.Shelf Go.Sort
theorem SlR.row {w:World} {p:Blocks} {v:Value} {l:List (List UInt8)} (h:SlR rowR w p v l):∃a cap,v=.slice a l.length cap∧l.length≤cap∧cap≤9223372036854775807∧
    ∀i x,l[i]?=some x→∃b o va vc,a=some ⟨b,o,none⟩∧b < w.heap.size∧w.cell? ⟨b,o+i,none⟩=some (.slice va x.length vc)∧SlR byteR w p (.slice va x.length vc) x:=by
  obtain ⟨a,cap,e,h1,h2,h3⟩:=h
  refine ⟨a,cap,e,h1,h2,fun i x hx=>?_⟩
  obtain ⟨b,o,cs,ea,_,hb,hc,v2,hr,hs⟩:=h3 i x hx
  subst hr
  obtain ⟨va,vc,rfl⟩:∃a c,v2=.slice a x.length c:=by obtain ⟨a,c,e,_⟩:=hs;exact ⟨a,c,e⟩
  have:=hc 0 _ rfl
  rw [show o+i * rowR.size+0=o+i from by show o+i * 1+0=_;omega] at this
  exact ⟨b,o,va,vc,ea,hb,this,hs⟩
theorem idxW_any (b:Nat) (p q:Blocks) (v u:Value) (l:List (List UInt8)) (z:List UInt8) (w:World) (h:SlR rowR w p v l) (hz:SlR byteR w q u z) (hb:Blk w b 22 #[u]):
    Calls Tryz.prog 81 #[v,.func (.func 44) #[] #[.pointer (some ⟨b,0,none⟩)]] w fun e w'=>(∃r:Int,e=.returned (.int .i64 r)∧decide (0≤r)=l.any fun x=>decide (x=z))∧Below w.heap.size w w':=by
  have HL:=Lib.hid (fun x p v W (hb2:RowKit.Below w.heap.size w W) h=>form1_any b p q v u x z W h (hz.below hb2) (hb.below hb2 hb.lt))
  have hl:=h.len_le
  have HS:=Lib.hid h
  obtain ⟨a,c,rfl,_,_,_⟩:=h.row
  clear h hz hb
  go_enter Tryz.func81,Tryz.ntmps81
  go_wp2
  go_loopw [8] (fun i wr=>∃k:Nat,k≤l.length∧i=.int .i64 k∧(l.any fun x=>decide (x=z))=((l.drop k).any fun x=>decide (x=z))∧Below w.heap.size w wr) (fun i _=>l.length - (intOf i).toNat)
  case atStart=>exact ⟨0,Nat.zero_le _,rfl,rfl,Below.refl _ _⟩
  case round=>
    obtain ⟨k,hk,rfl,ht,hb⟩:=hrel
    have HT:=Lib.hid ht
    have HB:=Lib.hid hb
    clear ht hb
    by_cases hlt:k < l.length
    · obtain ⟨a2,c2,e2,_,_,hg⟩:=(HS.out.below HB.out).row
      injection e2 with e2 e3 e4
      clear e3
      subst e2 e4
      obtain ⟨b1,o1,va,vc,rfl,_,d0,hso⟩:=hg k l[k] (List.getElem?_eq_getElem hlt)
      have HD:=Lib.hid (List.drop_eq_getElem_cons hlt)
      have HVA:=Lib.hid (HL.out l[k] _ _ _ HB.out hso)
      clear hg hso
      generalize l[k]=x at *
      cases hvx:decide (x=z)
      all_goals
        rw [hvx] at HVA
        have HVX:=Lib.hid hvx
        clear hvx
      rotate_left
      · go_wp2_with (go_at_call 44;refine HVA.out.mono ?_;rintro e w2 ⟨rfl,hb⟩;have HB2:=Lib.hid (HB.out.trans (hb.mono HB.out.size));clear hb)
        go_ret
        exact ⟨⟨k,rfl,by rw [HT.out,HD.out,List.any_cons,HVX.out];simp⟩,HB2.out⟩
      · go_wp2_with (go_at_call 44;refine HVA.out.mono ?_;rintro e w2 ⟨rfl,hb⟩;have HB2:=Lib.hid (HB.out.trans (hb.mono HB.out.size));clear hb)
        go_round
        case rel=>exact ⟨k+1,by omega,by go_num,by rw [HT.out,HD.out,List.any_cons,HVX.out];rfl,HB2.out⟩
        case measure=>simp [intOf];omega
    · go_wp2
      go_ret
      exact ⟨⟨-1,rfl,by rw [HT.out,List.drop_of_length_le (by omega)];rfl⟩,HB.out⟩
theorem cntW_any (b:Nat) (p q:Blocks) (v u:Value) (l:List (List UInt8)) (z:List UInt8) (w:World) (h:SlR rowR w p v l) (hz:SlR byteR w q u z) (hb:Blk w b 22 #[u]):
    Calls Tryz.prog 43 #[v,.func (.func 44) #[] #[.pointer (some ⟨b,0,none⟩)]] w fun e w'=>e=.returned (.bool (l.any fun x=>decide (x=z)))∧Below w.heap.size w w':=by
  have HI:=Lib.hid (idxW_any b p q v u l z w h hz hb)
  obtain ⟨a,c,rfl,_,_,_⟩:=h.row
  clear h hz hb
  go_enter Tryz.func43,Tryz.ntmps43
  go_wp2_with (go_at_call 81;refine HI.out.mono ?_;rintro e w1 ⟨⟨r,rfl,hr⟩,hb⟩;have HR:=Lib.hid hr;have HB:=Lib.hid hb;clear hr hb)
  go_ret
  exact ⟨ret_bool HR.out,HB.out⟩
end Go.Proofs.YtjmekllgnhkodaaGreatDoor
namespace Go.Proofs.YtjmekllgnhkodaaGreatDoor
set_option maxHeartbeats 8000000
set_option maxRecDepth 100000
open Go.RowKit Go.Shelf Go.Sort
theorem Same_any (p q:Blocks) (v u:Value) (l m:List (List UInt8)) (w:World) (h:SlR rowR w p v l) (g:SlR rowR w q u m):
    Calls Tryz.prog 41 #[v,u] w fun e w'=>e=.returned (.bool (decide (l=m)))∧Below w.heap.size w w':=by
  have hl:=h.len_le
  have hm:=g.len_le
  have HS:=Lib.hid h
  have HG:=Lib.hid g
  obtain ⟨a,c,rfl,_,_,_⟩:=h.row
  obtain ⟨a',c',rfl,_,_,_⟩:=g.row
  clear h g
  by_cases hne:l.length=m.length
  rotate_left
  · have HN:Hid (decide (l=m)=false):=Lib.hid (decide_eq_false (fun e=>hne (by rw [e])))
    have hn2:¬(l.length:Int)=(m.length:Int):=by omega
    have hn3:((l.length:Int)==(m.length:Int))=false:=by rw [beq_eq_false_iff_ne];exact hn2
    go_enter Tryz.func41,Tryz.ntmps41
    go_wp2
    go_ret
    exact ⟨ret_bool HN.out.symm,Below.refl _ _⟩
  · have HN:=Lib.hid hne
    have hn3:((l.length:Int)==(m.length:Int))=true:=by rw [beq_iff_eq];omega
    go_enter Tryz.func41,Tryz.ntmps41
    go_wp2
    go_loopw [5] (fun i wr=>∃k:Nat,k≤l.length∧i=.int .i64 k∧l.take k=m.take k∧Below w.heap.size w wr) (fun i _=>l.length - (intOf i).toNat)
    case atStart=>exact ⟨0,Nat.zero_le _,rfl,rfl,Below.refl _ _⟩
    case round=>
      obtain ⟨k,hk,rfl,ht,hb⟩:=hrel
      have HT:=Lib.hid ht
      have HB:=Lib.hid hb
      clear ht hb
      by_cases hlt:k < l.length
      · have hlm:k < m.length:=by omega
        have hD:Hid (Below wr.heap.size wr wr.drew):=Lib.hid (Below.refl _ _).drew
        obtain ⟨a2,c2,e2,_,_,hg⟩:=(HS.out.below HB.out).row
        injection e2 with e2 e3 e4
        clear e3
        subst e2 e4
        obtain ⟨b1,o1,va,vc,rfl,_,d0,hso⟩:=hg k l[k] (List.getElem?_eq_getElem hlt)
        obtain ⟨a2,c2,e2,_,_,hg2⟩:=(HG.out.below HB.out).row
        injection e2 with e2 e3 e4
        clear e3
        subst e2 e4
        obtain ⟨b2,o2,ua,uc,rfl,_,f0,hsu⟩:=hg2 k m[k] (List.getElem?_eq_getElem hlm)
        have r1:=run_string_sl wr.drew _ _ _ (hso.below hD.out)
        have r2:=run_string_sl wr.drew _ _ _ (hsu.below hD.out)
        have h1:=List.take_succ_eq_append_getElem hlt
        have h2:=List.take_succ_eq_append_getElem hlm
        have HE:=Lib.hid (fun (e:l[k]=m[k])=>(show l.take (k+1)=m.take (k+1) from by rw [h1,h2,HT.out,e]))
        have HF:=Lib.hid (fun (e:¬l[k]=m[k])=>(show decide (l=m)=false from decide_eq_false (fun e2=>e (by subst e2;rfl))))
        have HBD:=Lib.hid (HB.out.trans (hD.out.mono HB.out.size))
        clear hg hg2 hso hsu h1 h2
        generalize l[k]=x at *
        generalize m[k]=y at *
        have hss:(x==y)=decide (x=y):=by rw [Bool.eq_iff_iff];simp
        cases hxy:decide (x=y)
        all_goals
          rw [hxy] at hss
          go_wp2
          go_region_held3 (fun w'=>w'.cell? ⟨b1,o1+k,none⟩=some (.slice va x.length vc)∧w'.cell? ⟨b2,o2+k,none⟩=some (.slice ua y.length uc)∧(convert 22 9 (.slice va x.length vc)).run Tryz.prog w'=.ok (.string ⟨x.toArray⟩) w'∧(convert 22 9 (.slice ua y.length uc)).run Tryz.prog w'=.ok (.string ⟨y.toArray⟩) w') (go_keep) (fail)
          go_wp2
        all_goals first
          | (go_ret
             exact ⟨ret_bool (HF.out (of_decide_eq_false hxy)).symm,HBD.out⟩)
          | (go_round
             case rel=>exact ⟨k+1,hlt,by go_num,HE.out (of_decide_eq_true hxy),HBD.out⟩
             case measure=>simp [intOf];omega)
      · obtain rfl:k=l.length:=by omega
        have HR:Hid (decide (l=m)=true):=Lib.hid (decide_eq_true (by have:=HT.out;rw [List.take_length,HN.out,List.take_length] at this;exact this))
        go_wp2
        go_ret
        exact ⟨ret_bool HR.out.symm,HB.out⟩
end Go.Proofs.YtjmekllgnhkodaaGreatDoor
namespace Go.Proofs.YtjmekllgnhkodaaGreatDoor
set_option maxHeartbeats 8000000
set_option maxRecDepth 100000
open Go.RowKit Go.Shelf Go.Sort
theorem EncodeForms_law (x:Ins) (p:Blocks) (v:Value) (w:World) (h:SlR opdR w p v x.args) (hT:Spc w) (fx:∀z∈x.args,fits64 z.n):
    Calls Tryz.prog 10 #[.agg #[.string x.op,v]] w fun e w'=>e=.returned (.bool true)∧Below w.heap.size w w':=by
  have HT:=Lib.hid hT
  have HAL:=Lib.hid (fun W hT=>alive11_any W hT)
  have HSX:=Lib.hid (fun W (hb:RowKit.Below w.heap.size w W)=>short11_any p x v W (h.below hb))
  have HEX0:=Lib.hid (fun (mx:Mild x) W (hb:RowKit.Below w.heap.size w W)=>Encode_any x mx p v W (h.below hb) (hT.below hb))
  have HFA0:=Lib.hid (fun (mx:Mild x) W (hb:RowKit.Below w.heap.size w W)=>Forms_any x mx p v W (h.below hb) (hT.below hb))
  have HFB0:=Lib.hid (fun (mx:Mild x) W (hb:RowKit.Below w.heap.size w W)=>Forms11_any x mx p v W (h.below hb))
  have HMX:=Lib.hid (fun hs=>mild_of (x:=x) hs fx)
  have HNX:=Lib.hid (fun k hk=>encR_none (x:=x) (k:=k) hk)
  have HKX:=Lib.hid (fun A k hk=>encR_some (x:=x) (A:=A) (k:=k) hk)
  have HEF:=Lib.hid (fun A k hk=>enc_form (x:=x) (b:=A) (k:=k) hk)
  have HSM:=Lib.hid (fun p q v u l W h g=>(show Calls Tryz.prog 41 #[v,u] W fun e w'=>e=.returned (.bool true)∧Below W.heap.size W w' from by have:=Same_any p q v u l l W h g;rwa [decide_eq_true (rfl:l=l)] at this))
  have HCN:=Lib.hid (fun b p q v u l z W h hz hb=>cntW_any b p q v u l z W h hz hb)
  obtain ⟨xa,xc,rfl⟩:∃a c,v=.slice a x.args.length c:=by obtain ⟨a,c,e,_⟩:=h;exact ⟨a,c,e⟩
  have HC:=Lib.hid ((Fr.start w).new 27 #[.string x.op,.slice xa x.args.length xc])
  clear h hT fx
  generalize encR x=RX at *
  generalize formsR x=FX at *
  generalize short8 x=BX at *
  obtain ⟨W0,hW0⟩:∃W:World,W=w.alloc (.cells #[.string x.op,.slice xa x.args.length xc] 27):=⟨_,rfl⟩
  rw [←hW0] at HC
  cases BX
  · clear HEX0 HFA0 HFB0 HMX HNX HKX HEF HSM HCN
    go_enter Tryz.func10,Tryz.ntmps10
    go_upto_region 1 with fail
    rw [←hW0]
    clear hW0
    obtain ⟨e0,e1⟩:=(HC.out.blk 0 rfl).pair
    go_wp2_with (first
      | (go_at_call 26;(with_reducible refine (HSX.out _ HC.out.below).mono ?_);rintro e w1 ⟨rfl,hb⟩;have H1:=Lib.hid (HC.out.next hb);clear hb)
      | (go_at_call 27;refine (HAL.out _ (HT.out.below H1.out.below)).mono ?_;rintro e w9 ⟨rfl,hb⟩;have H9:=Lib.hid (H1.out.next hb);clear hb))
    go_ret
    exact ⟨rfl,H9.out.below⟩
  have HEX:=Lib.hid (HEX0.out (HMX.out rfl))
  have HFA:=Lib.hid (HFA0.out (HMX.out rfl))
  have HFB:=Lib.hid (HFB0.out (HMX.out rfl))
  clear HEX0 HFA0 HFB0 HMX
  obtain ⟨ox,kx⟩:=RX
  cases ox with
  | none=>
    have hkx:=HNX.out _ rfl
    have hk2:(kx != 0)=true:=by rw [bne_iff_ne];exact hkx
    clear HNX HKX HEF HCN
    go_enter Tryz.func10,Tryz.ntmps10
    go_upto_region 1 with fail
    rw [←hW0]
    clear hW0
    obtain ⟨e0,e1⟩:=(HC.out.blk 0 rfl).pair
    go_upto_region 5 with (first
      | (go_at_call 26;(with_reducible refine (HSX.out _ HC.out.below).mono ?_);rintro e w1 ⟨rfl,hb⟩;have H1:=Lib.hid (HC.out.next hb);clear hb e0 e1;obtain ⟨e0,e1⟩:=(H1.out.blk 0 rfl).pair)
      | (go_at_call 40;(with_reducible refine (HFA.out _ H1.out.below).mono ?_);rintro e w2 ⟨v2,rfl,ho,hb⟩;obtain ⟨fa,fc,rfl⟩:=ho.form;have S2:=Lib.hid ho.slR;have H2:=Lib.hid (H1.out.next hb);clear hb ho e0 e1;obtain ⟨e0,e1⟩:=(H2.out.blk 0 rfl).pair)
      | (go_at_call 28;(with_reducible refine (HEX.out _ H2.out.below).mono ?_);rintro e w3 ⟨he,hb⟩;have he2:e=.returned (.tuple #[.slice none 0 0,.int .i64 kx]):=he;clear he;subst he2;have H3:=Lib.hid ((H2.out.next hb).new 22 #[.slice none 0 0]);have S3:=Lib.hid ((S2.out.below hb).alloc (.cells #[.slice none 0 0] 22));clear hb e0 e1))
    clear HSX HFA HEX
    obtain ⟨W3,hW3⟩:∃W:World,W=w3.alloc (.cells #[.slice none 0 0] 22):=⟨_,rfl⟩
    rw [←hW3] at H3 S3 ⊢
    clear hW3
    obtain ⟨e0,e1⟩:=(H3.out.blk 1 rfl).pair
    go_wp2_with (first
      | (go_at_call 27;refine (HAL.out _ (HT.out.below H3.out.below)).mono ?_;rintro e w4 ⟨rfl,hb⟩;have H4:=Lib.hid (H3.out.next hb);have S4:=Lib.hid (S3.out.below hb);clear hb e0 e1;obtain ⟨e0,e1⟩:=(H4.out.blk 1 rfl).pair)
      | (go_at_call 42;(with_reducible refine (HFB.out _ H4.out.below).mono ?_);rintro e w5 ⟨v5,rfl,ho,hb⟩;obtain ⟨ga,gc,rfl⟩:=ho.form;have T5:=Lib.hid ho.slR;have H5:=Lib.hid (H4.out.next hb);have S5:=Lib.hid (S4.out.below hb);clear hb ho)
      | (go_at_call 41;refine (HSM.out _ _ _ _ _ _ S5.out T5.out).mono ?_;rintro e w6 ⟨rfl,hb⟩;have H6:=Lib.hid (H5.out.next hb);clear hb))
    go_ret
    exact ⟨rfl,H6.out.below⟩
  | some A=>
    obtain rfl:=HKX.out _ _ rfl
    have hA:=HEF.out _ _ rfl
    have HANY:Hid ((FX.any fun y=>decide (y=A))=true):=Lib.hid (List.any_eq_true.2 ⟨A,hA,decide_eq_true rfl⟩)
    clear HNX HKX HEF hA
    go_enter Tryz.func10,Tryz.ntmps10
    go_upto_region 1 with fail
    rw [←hW0]
    clear hW0
    obtain ⟨e0,e1⟩:=(HC.out.blk 0 rfl).pair
    go_upto_region 5 with (first
      | (go_at_call 26;(with_reducible refine (HSX.out _ HC.out.below).mono ?_);rintro e w1 ⟨rfl,hb⟩;have H1:=Lib.hid (HC.out.next hb);clear hb e0 e1;obtain ⟨e0,e1⟩:=(H1.out.blk 0 rfl).pair)
      | (go_at_call 40;(with_reducible refine (HFA.out _ H1.out.below).mono ?_);rintro e w2 ⟨v2,rfl,ho,hb⟩;obtain ⟨fa,fc,rfl⟩:=ho.form;have S2:=Lib.hid ho.slR;have H2:=Lib.hid (H1.out.next hb);clear hb ho e0 e1;obtain ⟨e0,e1⟩:=(H2.out.blk 0 rfl).pair)
      | (go_at_call 28;(with_reducible refine (HEX.out _ H2.out.below).mono ?_);rintro e w3 ⟨⟨va,rfl,hoa⟩,hb⟩;obtain ⟨ba,bc,rfl⟩:=hoa.form;have SA:=Lib.hid ((Own.slR (q:=fun _=>True) hoa (fun _ h=>h.elim) (fun _ _=>trivial)).alloc (.cells #[.slice ba A.length bc] 22));have H3:=Lib.hid ((H2.out.next hb).new 22 #[.slice ba A.length bc]);have S3:=Lib.hid ((S2.out.below hb).alloc (.cells #[.slice ba A.length bc] 22));clear hb hoa e0 e1))
    clear HSX HFA HEX
    generalize hg3:w3.heap.size=g3 at *
    obtain ⟨W3,hW3⟩:∃W:World,W=w3.alloc (.cells #[.slice ba A.length bc] 22):=⟨_,rfl⟩
    rw [←hW3] at H3 S3 SA ⊢
    clear hW3
    obtain ⟨e0,e1⟩:=(H3.out.blk 1 rfl).pair
    go_wp2_with (first
      | (go_at_call 27;refine (HAL.out _ (HT.out.below H3.out.below)).mono ?_;rintro e w4 ⟨rfl,hb⟩;have H4:=Lib.hid (H3.out.next hb);have S4:=Lib.hid (S3.out.below hb);have SA4:=Lib.hid (SA.out.below hb);clear hb e0 e1;obtain ⟨e0,e1⟩:=(H4.out.blk 1 rfl).pair)
      | (go_at_call 42;(with_reducible refine (HFB.out _ H4.out.below).mono ?_);rintro e w5 ⟨v5,rfl,ho,hb⟩;obtain ⟨ga,gc,rfl⟩:=ho.form;have T5:=Lib.hid ho.slR;have H5:=Lib.hid (H4.out.next hb);have S5:=Lib.hid (S4.out.below hb);have SA5:=Lib.hid (SA4.out.below hb);clear hb ho)
      | (go_at_call 41;refine (HSM.out _ _ _ _ _ _ S5.out T5.out).mono ?_;rintro e w6 ⟨rfl,hb⟩;have H6:=Lib.hid (H5.out.next hb);have S6:=Lib.hid (S5.out.below hb);have SA6:=Lib.hid (SA5.out.below hb);clear hb)
      | (go_at_call 43;refine (HCN.out _ _ _ _ _ FX A _ S6.out SA6.out (H6.out.blk 0 rfl)).mono ?_;rw [HANY.out];rintro e w7 ⟨rfl,hb⟩;have H7:=Lib.hid (H6.out.next hb);clear hb))
    go_ret
    exact ⟨rfl,H7.out.below⟩
end Go.Proofs.YtjmekllgnhkodaaGreatDoor
