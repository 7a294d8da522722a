/-
  The canonical form: canon.Of and what it computes. ref10.Values. The entries of a page, the reference's list. All entries of an instruction: the program's list and the reference's are the same. What a loop fR the candidates holds that collects entries. search.All. breadboardref10.All. breadboardref11.Bytes. Conditions: sizes; at most a million operands; numbers in int's range; the new length's bytes; the library's table as its initialiser lays it; an entry of the table.
-/
import Derived.Test.YtmpmciccgempeaaGreatDoorBM1
import Derived.Test.YtmpmciccgempeaaGreatDoorBH1
import Derived.Test.YtmpmciccgempeaaGreatDoorBF1
namespace Go.Proofs.YtmpmciccgempeaaGreatDoor
set_option maxHeartbeats 2000000
open Go.RowKit Go.Sort
end Go.Proofs.YtmpmciccgempeaaGreatDoor
namespace Go.Proofs.YtmpmciccgempeaaGreatDoor
set_option maxHeartbeats 2000000
open Go.RowKit
end Go.Proofs.YtmpmciccgempeaaGreatDoor
namespace Go.Proofs.YtmpmciccgempeaaGreatDoor
set_option maxHeartbeats 2000000
open Go.RowKit Go.Sort
end Go.Proofs.YtmpmciccgempeaaGreatDoor
namespace Go.Proofs.YtmpmciccgempeaaGreatDoor
set_option maxHeartbeats 2000000
open Go.RowKit
end Go.Proofs.YtmpmciccgempeaaGreatDoor
namespace Go.Proofs.YtmpmciccgempeaaGreatDoor
set_option maxHeartbeats 8000000
set_option maxRecDepth 100000
open Go.RowKit Go.Shelf Go.Sort
theorem GZ {a b c d:Int} (h:(a,b)=(c,d)):Ending.returned (.tuple #[.int .i64 a,.int .i64 b])=.returned (.tuple #[.int .i64 c,.int .i64 d]):=by
 injection h with h1 h2
 rw [h1,h2]
theorem zY (pg op:Int) (s ex:ByteArray) (al:Bool) (l:List Opd) (x:Ins) (p q:aB) (v u:Value) (w:World) (h:SlR aM w p v l) (g:SlR aM w q u x.args) (hn:x.args.length≤1000000) (hf:∀y∈x.args,cN y.n) (hex:ex.size≤9223372036854775807):
  Calls Tryz.prog 82 #[.agg #[.int .i64 pg,.int .u8 op,.string s,v,.string ex,.bool al],.agg #[.string x.op,u]] w fun e w'=>e=.returned (.tuple #[.int .i64 (qV s x.op ex.data.toList l (aE x).args).1,.int .i64 (qV s x.op ex.data.toList l (aE x).args).2])∧Below w.heap.size w w':=by
 obtain ⟨va,vc,rfl⟩:∃a c,v=.slice a l.length c:=by obtain ⟨a,c,e,_⟩:=h;exact ⟨a,c,e⟩
 obtain ⟨ua,uc,rfl⟩:∃a c,u=.slice a x.args.length c:=by obtain ⟨a,c,e,_⟩:=g;exact ⟨a,c,e⟩
 have HOf:=aA (fun p v W h=>jS p x v W h hn hf)
 have HFt:=aA (fun p q v u W h g=>oH pg op s ex al l x p q v u W h g hn hf hex)
 obtain ⟨t,m⟩:=x
 dsimp only at *
 have HF:=aA (((Fr.start w).new 72 #[.int .i64 pg,.int .u8 op,.string s,.slice va l.length vc,.string ex,.bool al]).new 24 #[.string t,.slice ua m.length uc])
 have HS1:=aA ((h.alloc (.cells #[.int .i64 pg,.int .u8 op,.string s,.slice va l.length vc,.string ex,.bool al] 72)).alloc (.cells #[.string t,.slice ua m.length uc] 24))
 have HS2:=aA ((g.alloc (.cells #[.int .i64 pg,.int .u8 op,.string s,.slice va l.length vc,.string ex,.bool al] 72)).alloc (.cells #[.string t,.slice ua m.length uc] 24))
 have hsz:(w.alloc (.cells #[.int .i64 pg,.int .u8 op,.string s,.slice va l.length vc,.string ex,.bool al] 72)).heap.size=w.heap.size+1:=World.size_alloc _ _
 rw [hsz] at HF
 clear h g hsz hn hf
 generalize (aE ⟨t,m⟩).args=cn at *
 obtain ⟨W0,hW0⟩:∃W0:World,W0=((w.alloc (.cells #[.int .i64 pg,.int .u8 op,.string s,.slice va l.length vc,.string ex,.bool al] 72)).alloc (.cells #[.string t,.slice ua m.length uc] 24)):=⟨_,rfl⟩
 rw [←hW0] at HF HS1 HS2
 have HNO:=aA (show dB s t ex.data.toList l cn=false→qV s t ex.data.toList l cn=(0,0) from fun h=>if_neg (by rw [h];decide))
 have HYE:=aA (show dB s t ex.data.toList l cn=true→qV s t ex.data.toList l cn=qB ex.data.toList l cn cn.length from fun h=>if_pos h)
 have HLE:=aA (fun h=>xO (s:=s) (t:=t) (ex:=ex.data.toList) (l:=l) (c:=cn) h)
 have HFT:=aA (HFt.out _ _ _ _ _ HS1.out HS2.out)
 clear HFt
 generalize qV s t ex.data.toList l cn=R at *
 generalize dB s t ex.data.toList l cn=ft at *
 go_enter Tryz.func82,Tryz.ntmps82
 go_upto_region 1 with fail
 rw [←hW0]
 clear hW0
 have e0:=(HF.out.blk 1 rfl).cell 0
 have e1:=(HF.out.blk 1 rfl).cell 1
 have e2:=(HF.out.blk 1 rfl).cell 2
 have e3:=(HF.out.blk 1 rfl).cell 3
 have e4:=(HF.out.blk 1 rfl).cell 4
 have e5:=(HF.out.blk 1 rfl).cell 5
 have c0:=(HF.out.blk 0 rfl).cell 0
 have c1:=(HF.out.blk 0 rfl).cell 1
 cases ft
 ·have HR:=aA (HNO.out rfl)
  clear HNO HYE HLE
  go_wp2_with (go_at_call 106;refine HFT.out.mono ?_;rintro e w1 ⟨rfl,hb1⟩;have HF1:=aA (HF.out.next hb1);clear hb1)
  go_ret2
  exact ⟨GZ HR.out.symm,HF1.out.below⟩
 have HR:=aA (HYE.out rfl)
 have HLN:=aA (HLE.out rfl)
 clear HNO HYE HLE
 go_upto_region 3 with (go_at_call 106;refine HFT.out.mono ?_;rintro e w1 ⟨rfl,hb1⟩;have HF1:=aA (HF.out.next hb1);have HSl1:=aA (HS1.out.below hb1);have HSc1:=aA (HS2.out.below hb1);clear hb1 e0 e1 e2 e3 e4 e5 c0 c1)
 clear HFT HS1 HS2 HF
 have c0:=(HF1.out.blk 0 rfl).cell 0
 have c1:=(HF1.out.blk 0 rfl).cell 1
 go_upto_region 4 with (go_at_call 31;refine (HOf.out _ _ _ HSc1.out).mono ?_;rintro e w2 ⟨u1,rfl,ho,hb2⟩;obtain ⟨ca,cc,rfl⟩:=ho.form;have HF2:=aA (HF1.out.next hb2);have HSl2:=aA (HSl1.out.below hb2);have HSc2:=aA ho.slR;clear ho hb2 c0 c1)
 clear HF1 HSl1 HSc1
 have HF3:=aA (HF2.out.new 24 #[.string t,.slice ca cn.length cc])
 have HSl3:=aA (HSl2.out.alloc (.cells #[.string t,.slice ca cn.length cc] 24))
 have HSc3:=aA (HSc2.out.alloc (.cells #[.string t,.slice ca cn.length cc] 24))
 obtain ⟨b5,hb5⟩:∃b,w2.heap.size=b:=⟨_,rfl⟩
 rw [hb5] at HF3 ⊢
 obtain ⟨W3,hW3⟩:∃W:World,W=(w2.alloc (.cells #[.string t,.slice ca cn.length cc] 24)):=⟨_,rfl⟩
 rw [←hW3] at HF3 HSl3 HSc3 ⊢
 clear hW3 hb5 HF2 HSl2 HSc2
 have hl1:=HSl3.out.len_le
 have hl2:=HSc3.out.len_le
 go_wp2
 go_loopw [7,8,9] (fun dx nx i wx=>∃(k:Nat) (dv nv:Int),k≤cn.length∧dx=.int .i64 dv∧nx=.int .i64 nv∧i=.int .i64 k∧qB ex.data.toList l cn k=(dv,nv)∧RowKit.Below W3.heap.size W3 wx) (fun _ _ i _=>cn.length - (intOf i).toNat)
 case atStart=>exact ⟨0,0,0,Nat.zero_le _,rfl,rfl,rfl,rfl,Below.refl _ _⟩
 case round=>
  obtain ⟨k,dv,nv,hk,rfl,rfl,rfl,ht,hbx⟩:=hrel
  have HT:=aA ht
  have HBX:=aA hbx
  have HX:=aA (HF3.out.next hbx)
  have HSlX:=aA (HSl3.out.below hbx)
  have HScX:=aA (HSc3.out.below hbx)
  clear ht hbx
  have e0:=(HX.out.blk 2 rfl).cell 0
  have e1:=(HX.out.blk 2 rfl).cell 1
  have e2:=(HX.out.blk 2 rfl).cell 2
  have e3:=(HX.out.blk 2 rfl).cell 3
  have e4:=(HX.out.blk 2 rfl).cell 4
  have e5:=(HX.out.blk 2 rfl).cell 5
  have c0:=(HX.out.blk 0 rfl).cell 0
  have c1:=(HX.out.blk 0 rfl).cell 1
  by_cases hlt:k < cn.length
  ·have hltl:k < l.length:=by have:=HLN.out;omega
   have HV:=aA (show qB ex.data.toList l cn (k+1)=oL (eQ l ex.data.toList k) cn[k].n (dv,nv) from by rw [qB,HT.out,nR hlt])
   have HLt:=aA (oJ pg op s ex al l _ _ k hltl _ HSlX.out hex)
   clear HT
   generalize eQ l ex.data.toList k=L at *
   go_upto_region 10 with (go_at_call 137;refine HLt.out.mono ?_;rintro e w4 ⟨rfl,hb4⟩;have HY:=aA (HX.out.next hb4);have HScY:=aA (HScX.out.below hb4);have HBY:=aA (RowKit.Below.trans HBX.out (hb4.mono HBX.out.size));clear hb4 e0 e1 e2 e3 e4 e5 c0 c1)
   clear HLt HX HSlX HScX HBX
   have c1:=(HY.out.blk 0 rfl).cell 1
   obtain ⟨a2,d2,e7,_,_,g2⟩:=HScY.out.opd
   injection e7 with e7 e10 e11
   clear e10
   subst e7 e11
   obtain ⟨b2,o2,rfl,_,_,_,y2⟩:=g2 k cn[k] (List.getElem?_eq_getElem hlt)
   clear g2 HScY
   generalize cn[k]=y at *
   obtain ⟨yk,yr,yn⟩:=y
   dsimp only at *
   have HVV:Hid (qB ex.data.toList l cn (k+1)=if L=100 then (yn,nv) else if L=101∨L=110∨L=119 then (dv,yn) else (dv,nv)):=HV.out
   clear HV
   by_cases h1:L=100
   ·subst h1
    have HR2:Hid (qB ex.data.toList l cn (k+1)=(yn,nv)):=HVV.out
    clear HVV
    go_wp2
    go_roundw
    case rel=>exact ⟨k+1,yn,nv,by omega,rfl,rfl,by go_num,HR2.out,HBY.out⟩
    case measure=>simp [intOf];omega
   rw [if_neg h1] at HVV
   have b1:(L==100)=false:=by rw [beq_eq_false_iff_ne];exact h1
   clear h1
   by_cases h2:L=101∨L=110∨L=119
   ·rw [if_pos h2] at HVV
    rcases h2 with rfl | rfl | rfl
    all_goals
     clear b1
     go_wp2
     go_roundw
     case rel=>exact ⟨k+1,dv,yn,by omega,rfl,rfl,by go_num,HVV.out,HBY.out⟩
     case measure=>simp [intOf];omega
   rw [if_neg h2] at HVV
   have b2:(L==101)=false:=by rw [beq_eq_false_iff_ne];omega
   have b3:(L==110)=false:=by rw [beq_eq_false_iff_ne];omega
   have b4:(L==119)=false:=by rw [beq_eq_false_iff_ne];omega
   clear h2
   go_wp2
   go_roundw
   case rel=>exact ⟨k+1,dv,nv,by omega,rfl,rfl,by go_num,HVV.out,HBY.out⟩
   case measure=>simp [intOf];omega
  ·obtain rfl:k=cn.length:=by omega
   have HR2:=aA (HR.out.trans HT.out)
   clear HT HR
   go_wp2
   go_ret2
   exact ⟨GZ HR2.out.symm,HX.out.below⟩
theorem elE9:ElT Tryz.prog 113 72 oG.size 80:=ElT.mk' (z:=.agg #[.int .i64 0,.int .u8 0,.string ⟨#[]⟩,.slice none 0 0,.string ⟨#[]⟩,.bool false]) Tryz.underlying113 (by kernel_rfl) rfl (by decide)
def pE (t:ByteArray) (c:List Opd) (e:aL):Bool:=shF ⟨e.iop.toArray⟩ t e.args c
def pG (t:ByteArray) (c:List Opd) (e:aL):Bool:=(fQ ⟨e.iop.toArray⟩ t e.ex e.args c).2.2
theorem wY {t:ByteArray} {c:List Opd} {e:aL} (h:pE t c e=true):e.iop=t.data.toList∧e.args.map kr=c.map kr:=by
 unfold pE at h
 obtain ⟨h1,h2⟩:=mI h
 exact ⟨by rw [←h1],h2⟩
theorem wQ {t:ByteArray} {c:List Opd} {p:Nat} (hp:p < 7) {e:aL} (he:e∈eJ p) (h:pE t c e=true):(pg9 c).contains (p:Int)=true∧(eI c).contains (p:Int)=true:=by
 obtain ⟨k,hk,h2⟩:=uX he
 have hc:=EQ hp hk
 obtain ⟨_,hkr⟩:=wY h
 unfold WY at hc
 generalize atF (p:Int) k=r at *
 obtain ⟨o,m⟩:=r
 dsimp only at h2
 subst h2
 obtain ⟨_,hc⟩:=Bool.and_eq_true_iff.1 hc
 obtain ⟨_,hc⟩:=Bool.and_eq_true_iff.1 hc
 have e1:pg9 e.args=pg9 c:=by unfold pg9;rw [FH hkr]
 rw [e1,yE hkr] at hc
 exact Bool.and_eq_true_iff.1 hc
theorem VM {t:ByteArray} {c:List Opd} (P:List Int) (Q:List Nat) (hP:P=(Q.map fun (q:Nat)=>(q:Int)).filter fun p=>P.contains p) (hin:∀q∈Q,∀e∈eJ (q:Int),pE t c e=true→P.contains (q:Int)=true):
  (P.flatMap eJ).filter (pE t c)=((Q.map fun (q:Nat)=>(q:Int)).flatMap eJ).filter (pE t c):=by
 rw [hP]
 clear hP
 induction Q with
 | nil=>rfl
 | cons q Q ih=>
  have ih:=ih (fun a h=>hin a (List.mem_cons_of_mem _ h))
  rw [List.map_cons,List.flatMap_cons,List.filter_append,←ih]
  cases hq:P.contains (q:Int)
  ·rw [List.filter_cons_of_neg (by rw [hq];decide)]
   have:(eJ (q:Int)).filter (pE t c)=[]:=by
    rw [List.filter_eq_nil_iff]
    intro e he hn
    have:=hin q (List.mem_cons_self) e he hn
    rw [hq] at this;cases this
   rw [this,List.nil_append]
  ·rw [List.filter_cons_of_pos hq,List.flatMap_cons,List.filter_append]
theorem QI {t:ByteArray} {c:List Opd}:(eC t.data.toList c).filter (pE t c)=(kG c).filter (pE t c):=by
 have h1:(eC t.data.toList c).filter (pE t c)=((eI c).flatMap eJ).filter (pE t c):=by
  unfold eC
  have e:fJ (eI c)=eI c:=by
   unfold fJ;rw [if_neg]
   rcases kS c with h | h | h<;>rw [h]<;>decide
  rw [e]
  induction eI c with
  | nil=>rfl
  | cons p P ih=>
   rw [List.flatMap_cons,List.flatMap_cons,List.filter_append,List.filter_append,ih,yZ,List.filter_filter]
   congr 1
   refine List.filter_congr fun e _=>?_
   cases h:pE t c e
   ·rfl
   ·rw [Bool.true_and,(wY h).1];exact beq_self_eq_true _
 have hq:∀q∈List.range 7,q < 7:=fun q h=>List.mem_range.1 h
 rw [h1,VM (eI c) (List.range 7) (by rcases kS c with h | h | h<;>rw [h]<;>decide) (fun q h e he hn=>(wQ (hq q h) he hn).2)]
 unfold kG
 exact (VM (pg9 c) (List.range 7) (by unfold pg9;split<;>decide) (fun q h e he hn=>(wQ (hq q h) he hn).1)).symm
theorem GW {f g:aL→Bool} {L:List aL} (h:∀e∈L,f e=true→g e=true):L.filter f=(L.filter g).filter f:=by
 rw [List.filter_filter]
 refine List.filter_congr fun e he=>?_
 cases hf:f e
 ·rfl
 ·rw [h e he hf];rfl
theorem JL {t:ByteArray} {c:List Opd} {e:aL} (he:fA e) (h:pG t c e=true):pE t c e=true:=by
 unfold pG at h
 rw [kP he] at h
 unfold dB at h
 exact (Bool.and_eq_true_iff.1 h).1
theorem XN {c:List Opd} {e:aL} (h:e∈kG c):fA e:=by
 unfold kG at h
 obtain ⟨p,hp,hx⟩:=List.mem_flatMap.1 h
 obtain ⟨k,hk,h2⟩:=uX hx
 exact mG hk h2
theorem GG {t:List UInt8} {c:List Opd} {e:aL} (h:e∈eC t c):fA e:=by
 obtain ⟨p,k,hk,hx⟩:=jG h
 exact mG hk hx
def lI (x:Ins):List aL:=(eC x.op.data.toList (aE x).args).filter (pG x.op (aE x).args)
theorem allR_eq (x:Ins):lI x=(kG (aE x).args).filter (pG x.op (aE x).args):=by
 unfold lI
 rw [GW (g:=pE x.op (aE x).args) (fun e he h=>JL (GG he) h),QI,←GW (fun e he h=>JL (XN he) h)]
theorem pM {x:Ins} {e:aL} (h:e∈lI x):fA e∧zD e∧pG x.op (aE x).args e=true:=by
 unfold lI at h
 obtain ⟨h1,h2⟩:=List.mem_filter.1 h
 refine ⟨GG h1,?_,h2⟩
 obtain ⟨p,k,hk,hx⟩:=jG h1
 obtain ⟨q,hq,rfl⟩:=sG hx
 exact (kZ hq hk hx).1
def forB (x:Ins) (e:aL):List UInt8:=kI e (mF e (aE x).args) (lM e (aE x).args)
def nV (x:Ins):List (List UInt8):=(lI x).map (forB x)
theorem KH {x:Ins} {e:aL} (h:e∈lI x):fQ ⟨e.iop.toArray⟩ x.op e.ex e.args (aE x).args=(mF e (aE x).args,lM e (aE x).args,true)∧zW e (mF e (aE x).args) (lM e (aE x).args)=some (forB x e):=by
 obtain ⟨hx,_,h2⟩:=pM h
 unfold pG at h2
 rw [kP hx] at h2
 have hv:=tK hx h2
 refine ⟨hv,?_⟩
 obtain ⟨_,hS⟩:=(qM hx).1 h2
 unfold zW
 rw [if_pos]
 ·rfl
 ·exact Option.isSome_iff_exists.2 ⟨_,(xK hx).2 hS⟩
theorem enc_form {x:Ins} {b:List UInt8} {k:Int} (h:jM x=(some b,k)):b∈nV x:=by
 unfold jM at h
 generalize hf:cQ x=r at *
 obtain ⟨o,m⟩:=r
 cases o with
 | none=>cases h
 | some e=>
  injection h with h1 h2
  injection h1 with h1
  subst h1
  obtain ⟨h1,h2,_,_⟩:=kJ hf
  unfold nV
  refine List.mem_map.2 ⟨e,List.mem_filter.2 ⟨h1,?_⟩,rfl⟩
  exact (Bool.and_eq_true_iff.1 h2).2
structure TkA (bo B:Nat) (A C:World):Prop where
 size:A.heap.size≤C.heap.size
 own:∀u,A.cell? ⟨bo,0,none⟩=some u→(∃u',C.cell? ⟨bo,0,none⟩=some u'∧∀k,u'.ownBlock=some k→u.ownBlock=some k∨A.heap.size≤k)∧
  ∀k o,B≤k→u.ownBlock≠some k→A.heap[k]?=some o→o.isCells=true→C.heap[k]?=some o
def GkA (bo:Nat) (A:World) (k:Nat):Prop:=∃u,A.cell? ⟨bo,0,none⟩=some u∧u.ownBlock≠some k
theorem TkA.trans {bo B:Nat} {A C D:World} (h:TkA bo B A C) (g:TkA bo B C D):TkA bo B A D:=by
 refine ⟨Nat.le_trans h.size g.size,fun u hu=>?_⟩
 obtain ⟨⟨u1,hu1,h1⟩,h2⟩:=h.own u hu
 obtain ⟨⟨u2,hu2,g1⟩,g2⟩:=g.own u1 hu1
 refine ⟨⟨u2,hu2,fun k hk=>?_⟩,fun k o hB hn hk hc=>?_⟩
 ·rcases g1 k hk with e | e
  ·exact h1 k e
  ·exact .inr (Nat.le_trans h.size e)
 ·refine g2 k o hB (fun e=>?_) (h2 k o hB hn hk hc) hc
  have hlt:=(Array.getElem?_eq_some_iff.1 hk).1
  rcases h1 k e with e2 | e2
  ·exact hn e2
  ·omega
theorem JS {w:World} {b j:Nat} {v:Value} (h:w.cell? ⟨b,j,none⟩=some v):b < w.heap.size:=by
 obtain ⟨o,ho,_⟩:=nU h
 exact (Array.getElem?_eq_some_iff.1 ho).1
theorem TkA.below {bo B:Nat} {A C:World} (h:Below A.heap.size A C):TkA bo B A C:=
 ⟨h.size,fun u hu=>⟨⟨u,(h.cell (p:=⟨bo,0,none⟩) (JS hu)).trans hu,fun _ hk=>.inl hk⟩,fun k _ _ _ hk _=>(h.block k (Array.getElem?_eq_some_iff.1 hk).1).trans hk⟩⟩
theorem GkA.below {bo:Nat} {A C:World} {k:Nat} (h:Below A.heap.size A C) (g:GkA bo A k):GkA bo C k:=by
 obtain ⟨u,hu,hn⟩:=g
 exact ⟨u,(h.cell (p:=⟨bo,0,none⟩) (JS hu)).trans hu,hn⟩
structure AllI (w wS:World) (bo:Nat) (L:List aL) (W:World):Prop where
 tk:Tk (fun k=>k≠bo∧k < wS.heap.size) wS W
 acc:∃v,Blk W bo 244 #[v]∧Acc oG W wS.heap.size 107 v L
 below:Below w.heap.size w W
 size:wS.heap.size≤W.heap.size
theorem AllI.stay {w wS W W':World} {bo:Nat} {L:List aL} (h:AllI w wS bo L W) (hb:Below W.heap.size W W'):AllI w wS bo L W':=by
 obtain ⟨v,h1,h2⟩:=h.acc
 exact ⟨h.tk.trans (Tk.below hb),⟨v,h1.below hb h1.lt,h2.stay hb⟩,h.below.trans (hb.mono h.below.size),Nat.le_trans h.size hb.size⟩
attribute [local go_sem] Oper.semAt_some
theorem NI (f:aL→Bool) (L:List aL) (x:aL):(L++[x]).filter f=if f x=true then L.filter f++[x] else L.filter f:=by
 rw [List.filter_append]
 cases h:f x<;>simp [h]
theorem nA:∀L:List Int,(L.flatMap eJ).length≤L.length * 256
 | []=>Nat.le_refl _
 | p::L=>by
  rw [List.flatMap_cons,List.length_append,List.length_cons]
  have h1:=nA L
  have h2:(eJ p).length≤256:=wN p 256
  omega
theorem RP (c:List Opd):(kG c).length≤1024:=by
 have h1:=nA (pg9 c)
 have h2:=(oU c).2.1
 unfold kG
 omega
theorem fitC_sh {s t:ByteArray} {ex:List UInt8} {l c:List Opd} (h:shF s t l c=false):dB s t ex l c=false:=by
 unfold dB
 rw [h];rfl
theorem RO (p:aB) (x:Ins) (v:Value) (w:World) (h:SlR aM w p v x.args) (hn:x.args.length≤1000000) (hf:∀y∈x.args,cN y.n):
  Calls Tryz.prog 81 #[.agg #[.string x.op,v]] w (JA 72 w (lI x)):=by
 have HEP:Hid (JA 72 w (lI x)=fun e w'=>∃v,e=.returned v∧Acc oG w' w.heap.size 72 v (lI x)∧Below w.heap.size w w'):=aA rfl
 have HOf:=aA (fun W (hb:RowKit.Below w.heap.size w W)=>jS p x v W (h.below hb) hn hf)
 have HFT:=aA (fun s ex al l p2 v2 W (hb:RowKit.Below w.heap.size w W) h2 hex pg op=>oH pg op s ex al l x p2 p v2 v W h2 (h.below hb) hn hf hex)
 have HAL:=aA (allR_eq x)
 obtain ⟨va,vc,rfl⟩:∃a c,v=.slice a x.args.length c:=by obtain ⟨a,c,e,_⟩:=h;exact ⟨a,c,e⟩
 clear h hn hf
 obtain ⟨t,m⟩:=x
 dsimp only at *
 generalize (aE ⟨t,m⟩).args=cn at *
 generalize lI ⟨t,m⟩=R at *
 rw [HEP.out]
 clear HEP
 have HF:=aA ((Fr.start w).new 24 #[.string t,.slice va m.length vc])
 obtain ⟨W0,hW0⟩:∃W0:World,W0=w.alloc (.cells #[.string t,.slice va m.length vc] 24):=⟨_,rfl⟩
 rw [←hW0] at HF
 go_enter Tryz.func81,Tryz.ntmps81
 go_upto_region 1 with fail
 rw [←hW0]
 clear hW0
 obtain ⟨a0,a1⟩:=(HF.out.blk 0 rfl).pair
 have HO1:=aA (HOf.out _ HF.out.below)
 clear HOf
 go_upto_region 3 with (go_at_call 31;refine HO1.out.mono ?_;rintro e w2 ⟨v2,rfl,ho2,hb2⟩;obtain ⟨va2,vc2,rfl⟩:=ho2.form;have HF2:=aA ((HF.out.next hb2).new 24 #[.string t,.slice va2 cn.length vc2]);have HS2:=aA (ho2.slR.alloc (.cells #[.string t,.slice va2 cn.length vc2] 24));clear hb2 ho2)
 clear HO1 HF a0 a1
 generalize hg2:w2.heap.size=g2 at *
 obtain ⟨W2,hW2⟩:∃W:World,W=w2.alloc (.cells #[.string t,.slice va2 cn.length vc2] 24):=⟨_,rfl⟩
 rw [←hW2] at HF2 HS2 ⊢
 clear hW2 hg2
 have hgl:=(HF2.out.blk 0 rfl).lt
 have HWW:=aA HF2.out.below.size
 have HFS:=aA (fun W (hb:RowKit.Below W2.heap.size W2 W)=>qO t cn _ _ W (HS2.out.below hb))
 have HLS:=aA (fun W (hb:RowKit.Below W2.heap.size W2 W)=>BV t cn _ _ W (HS2.out.below hb))
 have HPL:=aA (oU cn)
 obtain ⟨d0,d1⟩:=(HF2.out.blk 0 rfl).pair
 go_upto_region 4 with (go_at_call 103;refine (HFS.out _ (Below.refl _ _)).mono ?_;rintro e w3 ⟨rfl,hb3⟩;have HB3:=aA hb3;clear hb3 d0 d1)
 go_loopw [3,5] (fun c i wr=>∃j:Nat,j≤(pg9 cn).length∧i=.int .i64 (bL cn+j)∧Acc oG wr W2.heap.size 72 c ((gJ cn j 0).filter (pG t cn))∧Below W2.heap.size W2 wr) (fun _ i _=>(lP cn+1 - intOf i).toNat)
 case atStart=>exact ⟨0,Nat.zero_le _,by rw [Int.ofNat_zero,Int.add_zero],Acc.nil _ _ _,HB3.out⟩
 case round=>
  obtain ⟨j,hj,rfl,htr,hb⟩:=hrel
  have HTR:=aA htr
  have HB:=aA hb
  obtain ⟨a3,c3,rfl⟩:=htr.form
  clear HB3 htr hb
  obtain ⟨d0,d1⟩:=((HF2.out.next HB.out).blk 0 rfl).pair
  by_cases hlt:j < (pg9 cn).length
  ·have hle:bL cn+(j:Int)≤lP cn:=by have:=HPL.out;omega
   have HLT:=aA hlt
   go_wp2_with (go_at_call 104;refine (HLS.out _ HB.out).mono ?_;rintro e w4 ⟨rfl,hb4⟩;have HB4:=aA (HB.out.trans (hb4.mono HB.out.size));have HT4:=aA (HTR.out.stay hb4);clear hb4 d0 d1)
   go_loopw [3,6] (fun c i wr=>∃k:Nat,k≤256∧i=.int .i64 k∧Acc oG wr W2.heap.size 72 c ((gJ cn j k).filter (pG t cn))∧Below W2.heap.size W2 wr) (fun _ i _=>(256 - intOf i).toNat)
   case atStart=>exact ⟨0,Nat.zero_le _,rfl,HT4.out,HB4.out⟩
   case round=>
    obtain ⟨k,hk,rfl,htr,hb⟩:=hrel
    clear HTR HB4 HB HT4
    have HTR:=aA htr
    have HB:=aA hb
    obtain ⟨a4,k4,rfl⟩:=htr.form
    clear htr hb
    by_cases hlk:k < 256
    ·have hcv:IntKind.u8.wrap (k:Int)=k:=IntWalk.u8_in _ (by omega)
     have HA:=aA (fun W=>pY (bL cn+j) k hlk W)
     have HKD:=aA (uB (bL cn+j) k)
     have HY0:=aA (fun h=>congrArg (List.filter (pG t cn)) (JT (c:=cn) (j:=j) (k:=k) h))
     have HYS:=aA (fun x h=>(congrArg (List.filter (pG t cn)) (pJ (c:=cn) (j:=j) (k:=k) (x:=x) h)).trans (NI _ _ _))
     have HLE:Hid ((List.filter (pG t cn) (gJ cn j k)).length≤1024):=aA (Nat.le_trans (List.length_filter_le _ _) (Nat.le_trans (BD cn HLT.out hk).length_le (RP cn)))
     have HEX:=aA (fun x h=>GF (x:=x) HLT.out hlk h)
     generalize atF (bL cn+j) k=r at *
     generalize List.filter (pG t cn) (gJ cn j k)=F at *
     obtain ⟨x,kk⟩:=r
     dsimp only at *
     rcases x with _ | x
     ·have hk1:¬kk=1:=by rcases HKD.out.2 rfl with h | h | h<;>omega
      have HY:=aA (HY0.out rfl)
      clear HKD HY0 HYS HEX
      go_wp2_with fail
      refine (HA.out _).mono ?_
      rintro e w5 ⟨he,hb5⟩
      subst he
      have HB6:=aA (hb5.alloc hb5.size (.cells #[.int .i64 0,.int .u8 0,.string ⟨#[]⟩,.slice none 0 0,.string ⟨#[]⟩,.bool false] 72))
      clear hb5
      unfold mX
      go_wp2
      go_round
      case rel=>exact ⟨k+1,hlk,by go_num,by rw [HY.out];exact HTR.out.stay HB6.out,HB.out.trans (HB6.out.mono HB.out.size)⟩
      case measure=>simp [intOf];omega
     ·obtain rfl:kk=1:=HKD.out.1 _ rfl
      obtain ⟨hok,hx1⟩:=HEX.out x rfl
      have hfo:=kP hok (t:=t) (c:=cn)
      have hys:=HYS.out x rfl
      have hfe:pG t cn x=dB ⟨x.iop.toArray⟩ t x.ex x.args cn:=hfo
      rw [hfe] at hys
      obtain ⟨p1,o1,i1,l1,s1,f1⟩:=x
      dsimp only at hx1 hys
      have hx1:(⟨s1.toArray⟩:ByteArray).size≤9223372036854775807:=Nat.le_trans hx1 (by decide)
      obtain ⟨S,hS⟩:∃S:ByteArray,S=⟨i1.toArray⟩:=⟨_,rfl⟩
      rw [←hS] at hys
      have HYS2:=aA hys
      have HSS:=aA hS
      clear HKD HY0 HYS HEX hok hfo hfe hS hys
      go_wp2_with fail
      refine (HA.out _).mono ?_
      rintro e w5 ⟨⟨v5,rfl,ho5⟩,hb5⟩
      obtain ⟨va,vc,rfl⟩:=ho5.form
      unfold bQ
      dsimp only at *
      rw [←HSS.out]
      have hsz:=HB.out.size
      have HB6:=aA (hb5.alloc hb5.size (.cells #[.int .i64 p1,.int .u8 o1,.string S,.slice va l1.length vc,.string ⟨s1.toArray⟩,.bool f1] 72))
      have H5:=aA (((Fr.start W2).next (HB.out.trans (hb5.mono HB.out.size))).new 72 #[.int .i64 p1,.int .u8 o1,.string S,.slice va l1.length vc,.string ⟨s1.toArray⟩,.bool f1])
      have HS5:=aA (ho5.below ((Below.refl _ _).alloc (Nat.le_refl _) (.cells #[.int .i64 p1,.int .u8 o1,.string S,.slice va l1.length vc,.string ⟨s1.toArray⟩,.bool f1] 72)))
      clear hb5 ho5
      go_upto_region 10 with fail
      generalize hg5:w5.heap.size=g5 at *
      obtain ⟨W5,hW5⟩:∃W:World,W=w5.alloc (.cells #[.int .i64 p1,.int .u8 o1,.string S,.slice va l1.length vc,.string ⟨s1.toArray⟩,.bool f1] 72):=⟨_,rfl⟩
      rw [←hW5] at H5 HS5 HB6 ⊢
      clear hW5 hg5
      obtain ⟨c0,c1,c2,c3,c4,c5⟩:=(H5.out.blk 0 rfl).six
      obtain ⟨e0,e1⟩:=((HF2.out.next H5.out.below).blk 1 rfl).pair
      have HT5:=aA (HTR.out.stay HB6.out)
      cases hq:(S.toList==t.toList)
      ·have HY:=aA (HYS2.out.trans (if_neg (by rw [fitC_sh (EA hq)];decide)))
       clear HYS2
       go_wp2
       go_round
       case rel=>exact ⟨k+1,hlk,by go_num,by rw [HY.out];exact HT5.out,H5.out.below⟩
       case measure=>simp [intOf];omega
      cases hfc:dB S t s1 l1 cn
      ·have HY:=aA (HYS2.out.trans (if_neg (by rw [hfc];decide)))
       clear HYS2
       go_wp2_with (go_at_call 106;refine (HFT.out S ⟨s1.toArray⟩ f1 l1 _ _ _ (HF2.out.next H5.out.below).below HS5.out.slR hx1 p1 o1).mono ?_;rintro e w7 ⟨rfl,hb⟩;rw [show (⟨s1.toArray⟩:ByteArray).data.toList=s1 from rfl,hfc];have H7:=aA (H5.out.next hb);have HT7:=aA (HT5.out.stay hb);clear hb)
       go_round
       case rel=>exact ⟨k+1,hlk,by go_num,by rw [HY.out];exact HT7.out,H7.out.below⟩
       case measure=>simp [intOf];omega
      ·have HY:=aA (HYS2.out.trans (if_pos hfc))
       clear HYS2
       have HQ:Hid (∀k,wr.heap.size≤k→W2.heap.size≤k∧Value.ownBlock (.slice a4 F.length k4)≠some k):=aA (fun k hk=>⟨Nat.le_trans HB.out.size hk,fun e=>absurd (HTR.out.lt k e).2 (Nat.not_lt.2 hk)⟩)
       have HLB:Hid ((F.length+1) * 80≤140737488355328):=aA (by have:=HLE.out;omega)
       have HLL:Hid (F.length+1≤9223372036854775807):=aA (by have:=HLE.out;omega)
       go_wp2_with (first
        | (go_at_call 106;refine (HFT.out S ⟨s1.toArray⟩ f1 l1 _ _ _ (HF2.out.next H5.out.below).below HS5.out.slR hx1 p1 o1).mono ?_;rintro e w7 ⟨rfl,hb⟩;rw [show (⟨s1.toArray⟩:ByteArray).data.toList=s1 from rfl,hfc];have H7:=aA (H5.out.next hb);have HT7:=aA (HT5.out.stay hb);have HS7:=aA (HS5.out.below hb);obtain ⟨c0,c1,c2,c3,c4,c5⟩:=(H7.out.blk 0 rfl).six;have HSZ:=aA H7.out.below.size;have HRL:=aA (AL (x:=⟨p1,o1,i1,l1,s1,f1⟩) HS7.out);rw [←HSS.out] at HRL;clear hb)
        | (at_builtin;refine eM rfl (.tmp 45) (.tmp 47) 113 rfl W2.heap.size 72 80 elE9 _ F ⟨p1,o1,i1,l1,s1,f1⟩ _ (fun b=>wr.heap.size≤b) rfl rfl HT7.out HRL.out HQ.out HLB.out HLL.out HSZ.out ?_;intro a' c' w' hp;have HP:=aA hp;clear hp))
       go_round
       case rel=>exact ⟨k+1,hlk,by go_num,by rw [HY.out];have:=HP.out.1;simpa using this,H7.out.below.trans (vM.below HP.out HT7.out HSZ.out)⟩
       case measure=>simp [intOf];omega
    ·obtain rfl:k=256:=by omega
     have hw:wrap64 (bL cn+(j:Int)+1)=bL cn+((j+1:Nat):Int):=by have:=HPL.out;have:=HLT.out;rw [Int.natCast_add];unfold wrap64;omega
     go_wp2
     go_round
     case rel=>exact ⟨j+1,HLT.out,by rw [hw],by rw [←wO cn j HLT.out];exact HTR.out,HB.out⟩
     case measure=>simp only [intOf];rw [hw];omega
  ·obtain rfl:j=(pg9 cn).length:=by omega
   have hle:¬bL cn+((pg9 cn).length:Int)≤lP cn:=by have:=HPL.out;omega
   have hRR:List.filter (pG t cn) (gJ cn (pg9 cn).length 0)=R:=by rw [sS,HAL.out]
   rw [hRR] at HTR ⊢
   clear hRR
   go_wp2_with (go_at_call 104;refine (HLS.out _ HB.out).mono ?_;rintro e w4 ⟨rfl,hb4⟩;have HB4:=aA (HB.out.trans (hb4.mono HB.out.size));have HT4:=aA (HTR.out.stay hb4);clear hb4 d0 d1)
   go_ret
   exact ⟨_,rfl,HT4.out.base HWW.out,HF2.out.below.trans (HB4.out.mono HWW.out)⟩
set_option maxHeartbeats 16000000
theorem lC (n:Int):bits .and .i64 n 255=n % 256:=by
 have h255:(BitVec.ofInt 64 255).toNat=2 ^ 8 - 1:=by decide
 have key:(BitVec.ofInt 64 n&&& BitVec.ofInt 64 255).toNat=(n % ((2 ^ 64:Nat):Int)).toNat % 2 ^ 8:=by
  rw [BitVec.toNat_and,BitVec.toNat_ofInt,h255,Nat.and_two_pow_sub_one_eq_mod]
 show IntKind.i64.wrap ((BitVec.ofInt 64 n&&& BitVec.ofInt 64 255).toNat:Nat)=n % 256
 rw [key,IntKind.wrap_i64]
 omega
theorem bX {P:Program} {ops:Array Oper} {rest:List Oper} {o:Oper} {a:Act} {w:World} {Q:Exit→Act→World→Prop} (hgd:o.guard=none) (s x:Operand) (t:TypeId)
  (ho:o.op=.call {callee:=.builtin .append,args:=#[s,x],argTypes:=#[t,t]}) {v vx r:Value} {w':World} (hs:a.eval s=v) (hxe:a.eval x=vx) (hrun:(Builtin.append_ #[t,t] o.type #[v,vx]).run P w=.ok r w')
  (h:wpList P ops Q rest (a.put o.dst r) w'):wpList P ops Q (o::rest) a w:=
 wpList_plain hgd fun _ hK=>by
  unfold Oper.wp execOp
  simp only [ho,resolve,invoke,builtin,Sem.run_bind,Sem.run_pure,Result.andThen_ok,List.map_toArray,List.map_cons,List.map_nil,hs,hxe,hrun]
  exact hK _ _ h
theorem jQ {B:Nat} {vo vx:Value} {L M:List UInt8} {w W:World} {q:aB} (ho:Own aI w B 5 NoB vo L) (hb:Below w.heap.size w W) (hx:SlR aI W q vx M) (hq:∀k,q k→w.heap.size≤k) (hB:B≤w.heap.size) (hL:L.length≤1000000) (hM:M.length≤1000000):
  ∃qa qm qc w3,(Builtin.append_ #[32,32] 32 #[vo,vx]).run Tryz.prog W=.ok (.slice qa qm qc) w3∧Own aI w3 B 5 NoB (.slice qa qm qc) (L++M)∧Below B w w3∧W.heap.size≤w3.heap.size:=by
 have hs:=hb.size
 obtain ⟨v3,w3,hrun,ho3,hg3,hv3⟩:=fD (P:=Tryz.prog) (R:=aI) (w:=W) B 32 32 5 1 mH (p:=NoB) (q:=q) (ho.stay hb) hx (fun _ hk=>hk.elim) (fun k hk e=>by have:=(ho.lt k e.symm).2;have:=hq k hk;omega) (by omega) (by omega) (by omega)
 obtain ⟨qa,qc,rfl⟩:=(ho3.flat NoB).form
 exact ⟨qa,_,qc,w3,hrun,ho3.flat NoB,(hb.mono hB).grown hg3 (by omega) (fun k e=>(ho.lt k e).1),hg3.size⟩
theorem mK (w:World) (l:List UInt8) (cs:Array Value) (m:Nat) (hm:m=l.length) (hcs:cs.toList=l.flatMap fun b=>[.int .u8 b.toNat]) (hl:l.length≤1000000):SlR aI (w.alloc (.cells cs 5)) (fun k=>w.heap.size≤k) (.slice (some ⟨w.heap.size,0,none⟩) m m) l:=fS w _ _ l cs m hm hcs hl (fun _ h=>h)
theorem AP (p1:Int) (ob:UInt8) (s1:ByteArray) (a:Option Addr) (m c:Nat) (s2:ByteArray) (f:Bool) (d n:Int) (R:Option (List Opd)) (w:World) (hp:¬p1 ≥ 5) (hs:s2.size≤1000) (hl:∀k (h:k < s2.size),rN s2[k])
  (hF:∀W,RowKit.Below w.heap.size w W→Calls Tryz.prog 77 #[.agg #[.int .i64 p1,.int .u8 ob.toNat,.string s1,.slice a m c,.string s2,.bool f],.int .i64 d,.int .i64 n] W (SJ W s1 R)):
  Calls Tryz.prog 83 #[.agg #[.int .i64 p1,.int .u8 ob.toNat,.string s1,.slice a m c,.string s2,.bool f],.int .i64 d,.int .i64 n] w (ZP w (if R.isSome=true then some (aR p1++[ob]++s2.data.toList.flatMap (jN d n)) else none)):=by
 have A1:=lC d
 have A2:=lC n
 have A3:=lC (n / 256)
 have HF:=aA hF
 have HLT:=aA hl
 have HSZ:=aA hs
 have HP:=aA (fun W=>fU p1 W)
 clear hF hl hs
 have HI:=aA ((Fr.start w).new 72 #[.int .i64 p1,.int .u8 ob.toNat,.string s1,.slice a m c,.string s2,.bool f])
 obtain ⟨W0,hW0⟩:∃W:World,W=w.alloc (.cells #[.int .i64 p1,.int .u8 ob.toNat,.string s1,.slice a m c,.string s2,.bool f] 72):=⟨_,rfl⟩
 rw [←hW0] at HI
 go_enter Tryz.func83,Tryz.ntmps83
 go_upto_region 1 with fail
 rw [←hW0]
 clear hW0
 obtain ⟨c0,c1,c2,c3,c4,c5⟩:=(HI.out.blk 0 rfl).six
 cases R with
 | none=>
  go_wp2_with (go_at_call 77;refine (HF.out _ HI.out.below).mono ?_;rintro e w3 ⟨rfl,hb⟩;have H3:=aA ((HI.out.next hb).alloc (.cells #[.string ⟨#[]⟩,.slice none 0 0] 24));clear hb)
  go_ret2
  exact ⟨rfl,H3.out.below⟩
 | some cn=>
  go_upto_region 4 with (go_at_call 77;refine (HF.out _ HI.out.below).mono ?_;rintro e w3 ⟨⟨v3,rfl,ho3⟩,hb⟩;obtain ⟨va3,vc3,rfl⟩:=ho3.form;have H3:=aA ((HI.out.next hb).alloc (.cells #[.string s1,.slice va3 cn.length vc3] 24));clear hb ho3 c0 c1 c2 c3 c4 c5)
  generalize w3.alloc (.cells #[.string s1,.slice va3 cn.length vc3] 24)=W3 at *
  have HW3:=aA H3.out.size
  have hl3:=(H3.out.blk 0 rfl).lt
  obtain ⟨c0,c1,c2,c3,c4,c5⟩:=((H3.out.alloc (.cells #[] 5)).blk 0 rfl).six
  have HM:=aA (Own.made (R:=aI) W3 5 NoB)
  go_upto_region 5 with (first
   | (go_at_call 136;refine (HP.out _).mono ?_;rintro e w4 ⟨v4,rfl,ho4,hb4⟩;obtain ⟨qa,qm,qc,w5,hrun,ho5,hb5,hs5⟩:=jQ HM.out hb4 (ho4.slR (fun _ h=>h.elim) (fun k h=>h)) (fun _ h=>h) (by rw [World.size_alloc];omega) (by simp) (by have:=cW p1;omega);have HRUN:=aA hrun;have HO5:=aA ho5;have HB5:=aA (((Below.refl W3.heap.size W3).alloc (Nat.le_refl _) _).trans hb5);clear hrun ho5 hb5 hs5 ho4 hb4 c0 c1 c2 c3 c4 c5)
   | (at_builtin;refine bX rfl (.tmp 21) (.tmp 24) 32 rfl rfl rfl HRUN.out ?_))
  have H5:=aA (H3.out.next HB5.out)
  obtain ⟨c0,c1,c2,c3,c4,c5⟩:=(H5.out.blk 0 rfl).six
  obtain ⟨ra,rm,rc,w6,hrun6,ho6,hb6,_⟩:=jQ HO5.out ((Below.refl w5.heap.size w5).alloc (Nat.le_refl _) _) (mK w5 [ob] #[.int .u8 ob.toNat] 1 rfl rfl (by simp)) (fun _ h=>h) HB5.out.size (by have:=cW p1;rw [List.nil_append];omega) (by simp)
  have HRUN6:=aA hrun6
  have HO6:=aA ho6
  have HB6:=aA (HB5.out.trans hb6)
  clear hrun6 ho6 hb6 HRUN
  have HH3:=aA H3.out
  go_wp2_with (at_builtin;refine bX rfl (.tmp 37) (.tmp 40) 32 rfl rfl rfl HRUN6.out ?_)
  clear c0 c1 c2 c3 c4 c5 H5 HB5 HO5 HRUN6
  go_loopw [10,11] (fun u i wr=>∃k:Nat,k≤s2.size∧i=.int .i64 k∧Own aI wr W3.heap.size 5 NoB u (aR p1++[ob]++(s2.data.toList.take k).flatMap (jN d n))∧Below W3.heap.size W3 wr) (fun _ i _=>s2.size - (intOf i).toNat)
  case atStart=>exact ⟨0,Nat.zero_le _,rfl,by rw [List.take_zero,List.flatMap_nil,List.append_nil];exact HO6.out,HB6.out⟩
  case round=>
   obtain ⟨k,hk,rfl,ho,hb⟩:=hrel
   clear HO6 HB6
   obtain ⟨oa,om,oc,rfl⟩:∃a n c,u10=.slice a n c:=by obtain ⟨qa,qc,e⟩:=ho.form;exact ⟨_,_,_,e⟩
   have HO:=aA ho
   have HBW:=aA hb
   clear ho hb
   have HK:=aA (HH3.out.next HBW.out)
   obtain ⟨c0,c1,c2,c3,c4,c5⟩:=(HK.out.blk 0 rfl).six
   by_cases hlt:k < s2.size
   ·have hlet:=HLT.out k hlt
    have hle:(s2.data.toList.take k).length≤1000:=by have:=HSZ.out;rw [List.length_take];omega
    have HL9:Hid ((aR p1++[ob]++(s2.data.toList.take k).flatMap (jN d n)).length≤1000000):=aA (by
     have:=cW p1
     have:=oT d n (s2.data.toList.take k)
     rw [List.length_append,List.length_append,List.length_singleton];omega)
    clear hle
    rcases hlet with hlet | hlet | hlet | hlet
    ·have b100:((s2[k].toNat:Int)==100)=true:=by rw [hlet];decide
     have b119:((s2[k].toNat:Int)==119)=false:=by rw [hlet];decide
     have HLE:Hid (jN d n s2[k]=[eW d]):=aA (by rw [hlet];rfl)
     obtain ⟨qa,qm,qc,w8,hrun,ho8,hb8,_⟩:=jQ HO.out ((Below.refl wr.heap.size wr).alloc (Nat.le_refl _) _) (mK wr [eW d] #[.int .u8 (d % 256)] 1 rfl (by simp [mP]) (by simp)) (fun _ h=>h) HBW.out.size HL9.out (by simp)
     have HRUN:=aA hrun
     have HO8:=aA ho8
     have HB8:=aA (HBW.out.trans hb8)
     clear hrun ho8 hb8 hlet
     have hsz:=HSZ.out
     go_wp2_with (at_builtin;refine bX rfl (.tmp 61) (.tmp 65) 32 rfl rfl rfl HRUN.out ?_)
     go_round
     case rel=>exact ⟨k+1,hlt,by go_num,by rw [jU _ _ _ hlt,HLE.out,←List.append_assoc];exact HO8.out,HB8.out⟩
     case measure=>simp [intOf];omega
    ·have b100:((s2[k].toNat:Int)==100)=false:=by rw [hlet];decide
     have b119:((s2[k].toNat:Int)==119)=false:=by rw [hlet];decide
     have HLE:Hid (jN d n s2[k]=[eW n]):=aA (by rw [hlet];rfl)
     obtain ⟨qa,qm,qc,w8,hrun,ho8,hb8,_⟩:=jQ HO.out ((Below.refl wr.heap.size wr).alloc (Nat.le_refl _) _) (mK wr [eW n] #[.int .u8 (n % 256)] 1 rfl (by simp [mP]) (by simp)) (fun _ h=>h) HBW.out.size HL9.out (by simp)
     have HRUN:=aA hrun
     have HO8:=aA ho8
     have HB8:=aA (HBW.out.trans hb8)
     clear hrun ho8 hb8 hlet
     have hsz:=HSZ.out
     go_wp2_with (at_builtin;refine bX rfl (.tmp 53) (.tmp 57) 32 rfl rfl rfl HRUN.out ?_)
     go_round
     case rel=>exact ⟨k+1,hlt,by go_num,by rw [jU _ _ _ hlt,HLE.out,←List.append_assoc];exact HO8.out,HB8.out⟩
     case measure=>simp [intOf];omega
    ·have b100:((s2[k].toNat:Int)==100)=false:=by rw [hlet];decide
     have b119:((s2[k].toNat:Int)==119)=false:=by rw [hlet];decide
     have HLE:Hid (jN d n s2[k]=[eW n]):=aA (by rw [hlet];rfl)
     obtain ⟨qa,qm,qc,w8,hrun,ho8,hb8,_⟩:=jQ HO.out ((Below.refl wr.heap.size wr).alloc (Nat.le_refl _) _) (mK wr [eW n] #[.int .u8 (n % 256)] 1 rfl (by simp [mP]) (by simp)) (fun _ h=>h) HBW.out.size HL9.out (by simp)
     have HRUN:=aA hrun
     have HO8:=aA ho8
     have HB8:=aA (HBW.out.trans hb8)
     clear hrun ho8 hb8 hlet
     have hsz:=HSZ.out
     go_wp2_with (at_builtin;refine bX rfl (.tmp 53) (.tmp 57) 32 rfl rfl rfl HRUN.out ?_)
     go_round
     case rel=>exact ⟨k+1,hlt,by go_num,by rw [jU _ _ _ hlt,HLE.out,←List.append_assoc];exact HO8.out,HB8.out⟩
     case measure=>simp [intOf];omega
    ·have b100:((s2[k].toNat:Int)==100)=false:=by rw [hlet];decide
     have b119:((s2[k].toNat:Int)==119)=true:=by rw [hlet];decide
     have HLE:Hid (jN d n s2[k]=[eW n,eW (n / 256)]):=aA (by rw [hlet];rfl)
     obtain ⟨qa,qm,qc,w8,hrun,ho8,hb8,_⟩:=jQ HO.out ((Below.refl wr.heap.size wr).alloc (Nat.le_refl _) _) (mK wr [eW n,eW (n / 256)] #[.int .u8 (n % 256),.int .u8 (n / 256 % 256)] 2 rfl (by simp [mP]) (by simp)) (fun _ h=>h) HBW.out.size HL9.out (by simp)
     have HRUN:=aA hrun
     have HO8:=aA ho8
     have HB8:=aA (HBW.out.trans hb8)
     clear hrun ho8 hb8 hlet
     have hsz:=HSZ.out
     go_wp2_with (at_builtin;refine bX rfl (.tmp 69) (.tmp 77) 32 rfl rfl rfl HRUN.out ?_)
     go_round
     case rel=>exact ⟨k+1,hlt,by go_num,by rw [jU _ _ _ hlt,HLE.out,←List.append_assoc];exact HO8.out,HB8.out⟩
     case measure=>simp [intOf];omega
   ·obtain rfl:k=s2.size:=by omega
    have HTK:Hid (s2.data.toList.take s2.size=s2.data.toList):=aA (List.take_of_length_le (by simp))
    go_wp2
    go_ret2
    exact ⟨⟨_,rfl,by have h9:=Own.base HO.out HW3.out;rw [List.append_assoc,HTK.out] at h9;exact h9⟩,HK.out.below⟩
end Go.Proofs.YtmpmciccgempeaaGreatDoor
