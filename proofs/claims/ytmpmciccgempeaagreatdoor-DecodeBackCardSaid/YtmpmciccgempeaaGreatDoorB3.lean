/-
  The plain law of DecodeBack. Conditions: none.
-/
import Derived.Test.YtmpmciccgempeaaGreatDoorB2
import Derived.Test.YtmpmciccgempeaaGreatDoorB5
namespace Go.Proofs.YtmpmciccgempeaaGreatDoor
open Go.RowKit Go.Shelf Go.Sort
def isFx (s:List UInt8):Bool:=s==[66,73,84] || (s==[82,69,83] || (s==[83,69,84] || (s==[82,83,84] || (s==[73,77] || s==[79,85,84]))))
def letK (s:List UInt8) (k:Int):Bool:=k==5 || (k==7 || (k==10 || (k==6&&!isFx s)))
def oBh (e:aL) (i:Nat):Bool:=decide (Dof e.ex e.args=some i) || decide (Jof e.ex e.args=some i)
def oBi (p op:Nat):Nat × Nat:=
  if p=5∨p=6 then (p,op / 8 * 8+6) else if op=99 then (0,34) else if op=107 then (0,42) else if op % 8=4 then (2,68) else if op % 8=5 then (2,69) else if op=118 then (2,86) else if op=126 then (2,94) else (2,70)
def oBb (p op:Nat):Bool:=match (atF p op).1 with
  | some e=>((List.range e.args.length).all fun i=>match e.args[i]? with | some o=>(oBh e i==letK e.iop o.kind)&&(!oBh e i || o.n==0) | none=>true)&&
      (decide (e.iop.length≤10)&&(decide (e.args.length≤10)&&(!e.al || (decide ((oBi p op).1 < 7)&&(decide ((oBi p op).2 < 256)&&(match (atF (oBi p op).1 (oBi p op).2).1 with | some x=>!x.al&&(decide (x.iop=e.iop)&&(decide (x.args=e.args)&&decide (x.ex=e.ex))) | none=>false))))))
  | none=>true
theorem ckb0:∀x:Fin 256,oBb 0 x.val=true:=by decide+kernel
theorem ckb1:∀x:Fin 256,oBb 1 x.val=true:=by decide+kernel
theorem ckb2:∀x:Fin 256,oBb 2 x.val=true:=by decide+kernel
theorem ckb3:∀x:Fin 256,oBb 3 x.val=true:=by decide+kernel
theorem ckb4:∀x:Fin 256,oBb 4 x.val=true:=by decide+kernel
theorem ckb5:∀x:Fin 256,oBb 5 x.val=true:=by decide+kernel
theorem ckb6:∀x:Fin 256,oBb 6 x.val=true:=by decide+kernel
structure EntB (e:aL) (p k:Nat):Prop where
  lt:∀i (h:i < e.args.length),oBh e i=letK e.iop e.args[i].kind∧(oBh e i=true→e.args[i].n=0)
  op:e.iop.length≤10
  ar:e.args.length≤10
  al:e.al=true→∃x q j,q < 7∧j < 256∧(atF (q:Nat) j).1=some x∧x.al=false∧x.iop=e.iop∧x.args=e.args∧x.ex=e.ex
theorem oAh {p k:Nat} (hp:p < 7) (hk:k < 256) {e:aL} (he:(atF p k).1=some e):EntB e p k:=by
  have hw:oBb p k=true:=by
    have:p=0∨p=1∨p=2∨p=3∨p=4∨p=5∨p=6:=by omega
    rcases this with rfl | rfl | rfl | rfl | rfl | rfl | rfl
    · exact ckb0 ⟨k,hk⟩
    · exact ckb1 ⟨k,hk⟩
    · exact ckb2 ⟨k,hk⟩
    · exact ckb3 ⟨k,hk⟩
    · exact ckb4 ⟨k,hk⟩
    · exact ckb5 ⟨k,hk⟩
    · exact ckb6 ⟨k,hk⟩
  unfold oBb at hw
  rw [he] at hw
  dsimp only at hw
  obtain ⟨h1,hw⟩:=Bool.and_eq_true_iff.1 hw
  obtain ⟨h2,hw⟩:=Bool.and_eq_true_iff.1 hw
  obtain ⟨h3,hw⟩:=Bool.and_eq_true_iff.1 hw
  refine ⟨fun i hi=>?_,of_decide_eq_true h2,of_decide_eq_true h3,fun ha=>?_⟩
  · have h4:=List.all_eq_true.1 h1 i (List.mem_range.2 hi)
    rw [List.getElem?_eq_getElem hi] at h4
    dsimp only at h4
    obtain ⟨h5,h6⟩:=Bool.and_eq_true_iff.1 h4
    refine ⟨eq_of_beq h5,fun hl=>?_⟩
    rw [hl] at h6
    exact eq_of_beq h6
  · rw [ha] at hw
    obtain ⟨g1,hw⟩:=Bool.and_eq_true_iff.1 (show (decide ((oBi p k).1 < 7)&&_)=true from hw)
    obtain ⟨g2,hw⟩:=Bool.and_eq_true_iff.1 hw
    cases hx:(atF (oBi p k).1 (oBi p k).2).1 with
    | none=>rw [hx] at hw;cases hw
    | some x=>
      rw [hx] at hw
      dsimp only at hw
      obtain ⟨a,hw⟩:=Bool.and_eq_true_iff.1 hw
      obtain ⟨b,hw⟩:=Bool.and_eq_true_iff.1 hw
      obtain ⟨c,f⟩:=Bool.and_eq_true_iff.1 hw
      exact ⟨x,_,_,of_decide_eq_true g1,of_decide_eq_true g2,hx,by simpa using a,of_decide_eq_true b,of_decide_eq_true c,of_decide_eq_true f⟩
theorem oAw {e f:aL} {p k q j:Nat} (hE:EntB e p k) (hF:EntB f q j) (hi:e.iop=f.iop) {d n d' n':Int} {c:List Opd} (h:yC e d n c) (g:yC f d' n' c):e.args=f.args:=by
  have hl:e.args.length=f.args.length:=by rw [←h.len,←g.len]
  refine List.ext_getElem hl fun i h1 h2=>?_
  have hk:kr e.args[i]=kr f.args[i]:=by
    have h3:=congrArg (fun l:List (Int × Int)=>l[i]?) (h.k.symm.trans g.k)
    simp only [List.getElem?_map,List.getElem?_eq_getElem h1,List.getElem?_eq_getElem h2,Option.map_some] at h3
    exact Option.some.inj h3
  have hk1:e.args[i].kind=f.args[i].kind:=congrArg Prod.fst hk
  have hk2:e.args[i].reg=f.args[i].reg:=congrArg Prod.snd hk
  obtain ⟨l1,z1⟩:=hE.lt i h1
  obtain ⟨l2,z2⟩:=hF.lt i h2
  have hL:oBh e i=oBh f i:=by rw [l1,l2,hi,hk1]
  have hn:e.args[i].n=f.args[i].n:=by
    cases hA:oBh e i
    · have hB:=hL ▸ hA
      unfold oBh at hA hB
      obtain ⟨a1,a2⟩:=Bool.or_eq_false_iff.1 hA
      obtain ⟨b1,b2⟩:=Bool.or_eq_false_iff.1 hB
      have c1:=h.el i h1
      have c2:=g.el i h2
      rw [if_neg (of_decide_eq_false a1),if_neg (of_decide_eq_false a2)] at c1
      rw [if_neg (of_decide_eq_false b1),if_neg (of_decide_eq_false b2),c1] at c2
      rw [Option.some.inj c2]
    · rw [z1 hA,z2 (hL ▸ hA)]
  generalize e.args[i]=a at *
  generalize f.args[i]=b at *
  obtain ⟨a1,a2,a3⟩:=a
  obtain ⟨b1,b2,b3⟩:=b
  dsimp only at hk1 hk2 hn
  rw [hk1,hk2,hn]
theorem yC.like {e f:aL} (ha:f.args=e.args) (hx:f.ex=e.ex) {d n:Int} {c:List Opd} (h:yC e d n c):yC f d n c:=by
  obtain ⟨a,b,g,l⟩:=h
  constructor
  · rw [ha];exact a
  · rw [ha,hx];exact b
  · rw [ha,hx];exact g
  · rw [ha,hx];exact l
def oAs (e:aL) (c:List Opd):Ins:=⟨⟨e.iop.toArray⟩,c⟩
theorem oAf {e:aL} (ok:fA e) {d n:Int} {c:List Opd} (h:yC e d n c):aE (oAs e c)=oAs e c:=by
  show (⟨_,eB ⟨e.iop.toArray⟩ c⟩:Ins)=_
  rw [h.canon ok];rfl
theorem oAa {e:aL} (ok:fA e) {d n:Int} {c:List Opd} (h:yC e d n c):(aE (oAs e c)).args=c:=by rw [oAf ok h];rfl
theorem yC.nums {x:aL} (hx:fA x) {d n:Int} {c:List Opd} (h:yC x d n c):dAt c (Dof x.ex x.args)=d∧dAt c (Jof x.ex x.args)=n:=by
  constructor
  · cases hD:Dof x.ex x.args with
    | none=>
      have:=h.okd
      rw [hD] at this
      exact (eq_of_beq this).symm
    | some i=>
      have hi:=(hx.var.d1 i hD).2.2.1
      have:=h.el i hi
      rw [if_pos hD] at this
      exact zF this
  · cases hJ:Jof x.ex x.args with
    | none=>
      have:=h.okn
      rw [hJ] at this
      exact (eq_of_beq this).symm
    | some j=>
      have hj:=(hx.var.j1 j hJ).2.1
      have:=h.el j hj
      rw [if_neg (fun e=>hx.var.ne j e hJ),if_pos hJ] at this
      exact zF this
theorem oAz {e:aL} (ok:fA e) {d n:Int} {c:List Opd} (h:yC e d n c):pG ⟨e.iop.toArray⟩ c e=true:=by
  unfold pG
  rw [kP ok]
  obtain ⟨h1,h2⟩:=h.nums ok
  exact (qM ok).2 ⟨rfl,by rw [h1,h2];exact h⟩
theorem oAk {p k:Nat} (hk:k < 256) {e:aL} (h:(atF p k).1=some e):e∈eJ (p:Int):=List.mem_filterMap.2 ⟨k,List.mem_range.2 hk,h⟩
theorem oAy {e f:aL} {p k:Nat} (E:oAj e p k) (hi:f.iop=e.iop) {d n:Int} {c:List Opd} (h:yC e d n c) (okf:fA f) {d' n':Int} (g:yC f d' n' c):e∈lI (oAs f c):=by
  rw [allR_eq,oAa okf g]
  have hf:=oAz E.ok h
  rw [←hi] at hf
  refine List.mem_filter.2 ⟨?_,hf⟩
  have h1:=(wQ E.hp (oAk E.hk E.at') (JL E.ok hf)).1
  unfold kG
  exact List.mem_flatMap.2 ⟨p,List.contains_iff_mem.1 h1,oAk E.hk E.at'⟩
theorem oAv {e f:aL} {p k:Nat} (E:oAj e p k) (ha:e.al=false) (hi:f.iop=e.iop) {d n:Int} {c:List Opd} (h:yC e d n c) (okf:fA f) {d' n':Int} (g:yC f d' n' c):cQ (oAs f c)=(some e,0):=by
  have hm:=oAy E hi h okf g
  unfold lI at hm
  obtain ⟨hm1,hm2⟩:=List.mem_filter.1 hm
  rw [oAa okf g] at hm1 hm2
  have hh:iA (oAs f c).op c e=true:=by
    unfold iA dL
    rw [ha]
    have:=JL E.ok hm2
    unfold pE at this
    unfold pG at hm2
    rw [this,hm2];rfl
  have hc:bH (oAs f c)=0:=g.check okf
  have hs:(cQ (oAs f c)).1.isSome=true:=by
    unfold cQ
    rw [if_pos hc,oAa okf g]
    cases hF:(eC (oAs f c).op.data.toList c).find? (iA (oAs f c).op c) with
    | none=>exact absurd hh (by have:=List.find?_eq_none.1 hF e hm1;simpa using this)
    | some x=>rfl
  cases hR:cQ (oAs f c) with
  | mk o j=>
    rw [hR] at hs
    cases o with
    | none=>cases hs
    | some x=>
      obtain ⟨q,i,F⟩:=fnd11 hR
      have hj:j=0:=(kJ hR).2.2.1
      have hxl:x.al=false:=by
        have h2:=(kJ hR).2.1
        unfold iA at h2
        have h3:=(Bool.and_eq_true_iff.1 h2).1
        unfold dL at h3
        have h4:=(Bool.and_eq_true_iff.1 h3).1
        cases hb:x.al
        · rfl
        · rw [hb] at h4;cases h4
      have hio:x.iop=e.iop:=by
        have h5:(oAs f c).op=⟨x.iop.toArray⟩:=F.iop
        have h6:=congrArg (fun b:ByteArray=>b.data.toList) h5
        have h7:f.iop=x.iop:=h6
        rw [←h7,hi]
      have hfil:=F.fil
      rw [oAa okf g] at hfil
      have har:=oAw (oAh F.hp F.hk F.at') (oAh E.hp E.hk E.at') hio hfil h
      have hL:=once_law q p i k ⟨by omega,by have:=F.hp;omega⟩ ⟨by omega,by have:=E.hp;omega⟩ F.hk E.hk x e F.at' E.at' hxl ha
      rw [hio,har] at hL
      have hself:fG ⟨⟨e.iop.toArray⟩,e.args⟩ ⟨⟨e.iop.toArray⟩,e.args⟩=true:=by simp [fG]
      rw [hself] at hL
      obtain ⟨h7,h8⟩:=Bool.and_eq_true_iff.1 hL.symm
      have h7:=eq_of_beq h7
      have h8:=eq_of_beq h8
      obtain rfl:q=p:=by omega
      obtain rfl:i=k:=by omega
      have:=F.at'.symm.trans E.at'
      rw [Option.some.inj this,hj]
structure oBl (l:List UInt8) (x:Ins):Prop where
  canon:aE x=x
  mild:x.op.size≤100∧x.args.length≤20∧bH x=0
  enc:∃b,jM x=(some b,0)∧decide (b=l.take (itF l).n)=!(itF l).al
  form:∀f∈nV x,0 < f.length∧f.length≤1000∧∃al,itF f=⟨1,f.length,x.op.data.toList,x.args,al⟩
theorem oBa {l:List UInt8} (hk:(itF l).k=1):oBl l ⟨⟨(itF l).op.toArray⟩,(itF l).args⟩:=by
  obtain ⟨e,p,k,d,n,c,B⟩:=oBr hk
  rw [B.it]
  dsimp only
  have hB:=oAh B.E.hp B.E.hk B.E.at'
  have hcn:=oAf B.E.ok B.fil
  refine ⟨hcn,⟨by show e.iop.length≤100;have:=hB.op;omega,by show c.length≤20;have h1:=B.fil.len;have:=hB.ar;omega,B.fil.check B.E.ok⟩,?_,?_⟩
  · obtain ⟨f,q,j,F,hfl,hfi,hfa,hfx,hsame⟩:∃f q j,oAj f q j∧f.al=false∧f.iop=e.iop∧f.args=e.args∧f.ex=e.ex∧(e.al=false→f=e):=by
      cases ha:e.al
      · exact ⟨e,p,k,B.E,ha,rfl,rfl,rfl,fun _=>rfl⟩
      · obtain ⟨x,q,j,g1,g2,g3,g4,g5,g6,g7⟩:=hB.al ha
        exact ⟨x,q,j,oAl g1 g2 g3,g4,g5,g6,g7,fun h=>(by cases h)⟩
    have hfil:=B.fil.like hfa hfx
    have hfind:=oAv F hfl hfi.symm hfil B.E.ok B.fil
    obtain ⟨n1,n2⟩:=hfil.nums F.ok
    have hen:jM (oAs e c)=(some (kI f d n),0):=by
      unfold jM
      rw [hfind,oAa B.E.ok B.fil]
      dsimp only
      unfold mF lM
      rw [n1,n2]
    refine ⟨kI f d n,hen,?_⟩
    rw [B.it]
    dsimp only
    cases ha:e.al
    · rw [hsame ha,B.enc];simp
    · rw [←B.enc]
      refine decide_eq_false fun hc=>?_
      obtain ⟨_,i1⟩:=oAu F hfil
      obtain ⟨_,i2⟩:=oAu B.E B.fil
      rw [hc,i2] at i1
      injection i1 with _ _ _ _ i3
      rw [ha,hfl] at i3
      cases i3
  · intro b hb
    obtain ⟨f,hf,rfl⟩:=List.mem_map.1 hb
    obtain ⟨hok,_,hfit⟩:=pM hf
    have hio:=(wY (JL hok hfit)).1
    have hmem:=(List.mem_filter.1 (allR_eq _ ▸ hf)).1
    unfold kG at hmem
    obtain ⟨P,hP,hfe⟩:=List.mem_flatMap.1 hmem
    obtain ⟨j,hj,hat⟩:=uX hfe
    obtain ⟨q,hq,rfl⟩:=sG hat
    have F:=oAl hq hj hat
    have hfit2:pG ⟨e.iop.toArray⟩ c f=true:=by
      have h1:=hfit
      rw [show (aE (⟨⟨e.iop.toArray⟩,c⟩:Ins)).args=c from oAa B.E.ok B.fil] at h1
      exact h1
    unfold pG at hfit2
    rw [kP hok] at hfit2
    have hfil:=((qM hok).1 hfit2).2
    have hfor:forB ⟨⟨e.iop.toArray⟩,c⟩ f=kI f (dAt c (Dof f.ex f.args)) (dAt c (Jof f.ex f.args)):=by
      unfold forB
      rw [show (aE (⟨⟨e.iop.toArray⟩,c⟩:Ins)).args=c from oAa B.E.ok B.fil]
      rfl
    rw [hfor]
    obtain ⟨hl,hit⟩:=oAu F hfil
    have hfb:=(oAh hq hj hat).op
    have hrd:rdN f.ex≤20:=by
      have h1:=LA f.ex
      have h2:=F.W.len
      have h3:Lib.countByte f.ex 119≤f.ex.length:=List.count_le_length
      omega
    have hpl:(aR f.pg).length≤2:=by
      unfold aR
      split
      · decide
      split
      · decide
      split
      · decide
      split
      · decide
      split
      · decide
      split<;>decide
    refine ⟨by rw [hl];unfold gX;omega,by rw [hl];unfold gX;omega,f.al,?_⟩
    rw [hit,hl]
    congr 1
end Go.Proofs.YtmpmciccgempeaaGreatDoor
