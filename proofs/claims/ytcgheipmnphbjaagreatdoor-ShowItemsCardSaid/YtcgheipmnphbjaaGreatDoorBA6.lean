/-
  search.shaped. search.fits$1 (take). search.fits$1 (take), both ways in one. search.fits. search.Fill: both ways of its closure in one, and its plain form. WHICH OPERANDS ARE VALID: operand.of at a register number. Conditions: at most a million operands.
-/
import Derived.Test.YtcgheipmnphbjaaGreatDoorBA5
namespace Go.Proofs.YtcgheipmnphbjaaGreatDoor
set_option maxHeartbeats 4000000
set_option maxRecDepth 100000
open Go.RowKit Go.Shelf Go.Sort
theorem z0_kr (l m:List Opd):l.map z0=m.map z0↔l.map kr=m.map kr:=by
 have h1:∀l:List Opd,l.map z0=(l.map kr).map (fun p=>(⟨p.1,p.2,0⟩:Opd)):=fun l=>by rw [List.map_map];rfl
 have h2:∀l:List Opd,l.map kr=(l.map z0).map kr:=fun l=>by rw [List.map_map];rfl
 constructor
 ·intro h;rw [h2 l,h2 m,h]
 ·intro h;rw [h1 l,h1 m,h]
theorem shF_ins (s t:ByteArray) (l m:List Opd):fG ⟨s,l.map z0⟩ ⟨t,m.map z0⟩=shF s t l m:=by
 unfold shF
 cases hst:(s.toList==t.toList)
 ·rw [sR hst];rfl
 ·rw [qS hst,Bool.true_and,Bool.eq_iff_iff,decide_eq_true_iff,decide_eq_true_iff]
  exact z0_kr l m
theorem rW (pg op:Int) (s ex t:ByteArray) (al:Bool) (l m:List Opd) (p q:aB) (v u:Value) (w:World) (h:SlR aM w p v l) (g:SlR aM w q u m) (hl:l.length≤1000000) (hm:m.length≤1000000) (hs:s.size≤9223372036854775807) (ht:t.size≤9223372036854775807):
  Calls Tryz.prog 102 #[.agg #[.int .i64 pg,.int .u8 op,.string s,v,.string ex,.bool al],.agg #[.string t,u]] w fun e w'=>e=.returned (.bool (shF s t l m))∧Below w.heap.size w w':=by
 rw [←shF_ins]
 have HF:=aA (((Fr.start w).new 95 #[.int .i64 pg,.int .u8 op,.string s,v,.string ex,.bool al]).new' 24 #[.string t,u] (World.size_alloc _ _))
 have HP1:=aA (fun W hb=>uL s l p v W (h.below hb) hl hs)
 have HP2:=aA (fun W hb=>uL t m q u W (g.below hb) hm ht)
 obtain ⟨va,vc,rfl⟩:∃a c,v=.slice a l.length c:=by obtain ⟨a,c,e,_⟩:=h;exact ⟨a,c,e⟩
 obtain ⟨ua,uc,rfl⟩:∃a c,u=.slice a m.length c:=by obtain ⟨a,c,e,_⟩:=g;exact ⟨a,c,e⟩
 clear h g hl hm hs ht
 have HIS:=aA (fun p q v1 v2 W h1 h2=>lO p q ⟨s,l.map z0⟩ ⟨t,m.map z0⟩ v1 v2 W h1 h2)
 generalize fG ⟨s,l.map z0⟩ ⟨t,m.map z0⟩=R at *
 dsimp only at HIS
 generalize l.map z0=lz at *
 generalize m.map z0=mz at *
 obtain ⟨W0,hW0⟩:∃W0:World,W0=((w.alloc (.cells #[.int .i64 pg,.int .u8 op,.string s,.slice va l.length vc,.string ex,.bool al] 95)).alloc (.cells #[.string t,.slice ua m.length uc] 24)):=⟨_,rfl⟩
 rw [←hW0] at HF
 go_enter Tryz.func102,Tryz.ntmps102
 go_upto_region 1 with fail
 rw [←hW0]
 clear hW0
 have e2:=(HF.out.blk 1 rfl).cell 2
 have e3:=(HF.out.blk 1 rfl).cell 3
 have c0:=(HF.out.blk 0 rfl).cell 0
 have c1:=(HF.out.blk 0 rfl).cell 1
 have HD:=aA HF.out.drew
 go_region_held3 (fun w'=>w'.cell? ⟨w.heap.size,2,none⟩=some (.string s)∧w'.cell? ⟨w.heap.size,3,none⟩=some (.slice va l.length vc)∧w'.cell? ⟨w.heap.size+1,0,none⟩=some (.string t)∧w'.cell? ⟨w.heap.size+1,1,none⟩=some (.slice ua m.length uc)) (go_keep)
  (first
   | (go_at_call 139;with_reducible refine (HP1.out _ HD.out.below).mono ?_;rintro e w1 ⟨v1,rfl,ho1,hb1⟩;have HO1:=aA ho1.slR;have HF1:=aA (HD.out.next hb1);have e2:=(HF1.out.blk 1 rfl).cell 2;have e3:=(HF1.out.blk 1 rfl).cell 3;have c0:=(HF1.out.blk 0 rfl).cell 0;have c1:=(HF1.out.blk 0 rfl).cell 1;clear ho1 hb1)
   | (go_at_call 139;with_reducible refine (HP2.out _ HF1.out.below).mono ?_;rintro e w2 ⟨v2,rfl,ho2,hb2⟩;have HO1b:=aA (HO1.out.below hb2);have HO2:=aA ho2.slR;have HF2:=aA (HF1.out.next hb2);have e2:=(HF2.out.blk 1 rfl).cell 2;have e3:=(HF2.out.blk 1 rfl).cell 3;have c0:=(HF2.out.blk 0 rfl).cell 0;have c1:=(HF2.out.blk 0 rfl).cell 1;clear ho2 hb2)
   | (go_at_call 138;refine (HIS.out _ _ _ _ _ HO1b.out HO2.out).mono ?_;rintro e w3 ⟨rfl,hb3⟩;have HF3:=aA (HF2.out.next hb3);have e2:=(HF3.out.blk 1 rfl).cell 2;have e3:=(HF3.out.blk 1 rfl).cell 3;have c0:=(HF3.out.blk 0 rfl).cell 0;have c1:=(HF3.out.blk 0 rfl).cell 1;clear hb3))
 go_wp2
 go_ret
 exact ⟨rfl,HF3.out.below⟩
theorem take_no (idx:Int) (f:Value) (br:Nat) (w:World):
  Calls Tryz.prog 140 #[.agg #[.int .i64 idx,f],.bool false,.pointer (some ⟨br,0,none⟩)] w fun e w'=>e=.returned (.int .i64 0)∧Below w.heap.size w w':=by
 have HF:=aA ((Fr.start w).new 180 #[.int .i64 idx,f])
 go_enter Tryz.func140,Tryz.ntmps140
 go_wp2
 go_ret
 exact ⟨rfl,HF.out.below⟩
theorem QJ (k:Nat) (lo hi:Int) (a b br B:Nat) (t:ByteArray) (l:List Opd) (v:Value) (q:aB) (w:World) (x:Opd) (hx:l[k]?=some x) (hr:Blk w br 24 #[.string t,v]) (ho:aD w q v l)
  (h1:w.cell? ⟨a,0,none⟩=some (.int .i64 lo)) (h2:w.cell? ⟨b,0,none⟩=some (.int .i64 hi)) (ha:a < w.heap.size) (hb:b < w.heap.size) (hB:B≤br) (hq:∀k,q k→B≤k∧k≠br) (_hlen:l.length≤9223372036854775807):
  Calls Tryz.prog 140 #[.agg #[.int .i64 k,(.func (.func 193) #[] #[.pointer (some ⟨a,0,none⟩),.pointer (some ⟨b,0,none⟩)])],.bool true,.pointer (some ⟨br,0,none⟩)] w fun e w'=>e=.returned (.int .i64 x.n)∧
   aD w' q v (if bG lo hi x.n=true then l.set k {x with n:=0} else l)∧Blk w' br 24 #[.string (if bG lo hi x.n=true then t else ⟨#[]⟩),v]∧Below B w w':=by
 obtain ⟨va,vc,rfl⟩:=ho.form
 have hk:k < l.length:=(List.getElem?_eq_some_iff.1 hx).1
 have hb1:RowKit.Below w.heap.size w (w.alloc (.cells #[.int .i64 k,(.func (.func 193) #[] #[.pointer (some ⟨a,0,none⟩),.pointer (some ⟨b,0,none⟩)])] 180)):=(Below.refl _ _).alloc (Nat.le_refl _) _
 have hfn:=Blk.new w 180 #[.int .i64 k,(.func (.func 193) #[] #[.pointer (some ⟨a,0,none⟩),.pointer (some ⟨b,0,none⟩)])]
 have HIN:=aA (fun n=>GU lo hi n a b _ ((hb1.cell (p:=⟨a,0,none⟩) ha).trans h1) ((hb1.cell (p:=⟨b,0,none⟩) hb).trans h2))
 have HR:=aA (hr.below hb1 hr.lt)
 have HO:=aA (ho.below hb1)
 have HBW:=aA hb1
 have HFN:=aA hfn
 have HQ:=aA hq
 have HLT:=aA hr.lt
 obtain ⟨W1,hW1⟩:∃W:World,W=w.alloc (.cells #[.int .i64 k,(.func (.func 193) #[] #[.pointer (some ⟨a,0,none⟩),.pointer (some ⟨b,0,none⟩)])] 180):=⟨_,rfl⟩
 rw [←hW1] at HIN HR HO HBW HFN
 clear hr ho h1 h2 hb1 hfn hq ha hb
 obtain ⟨a1,c1,e1,hc1,hc2,g1⟩:=HO.out
 injection e1 with e1 e2 e3
 obtain ⟨ob,oo,rfl,hqb,hbl,x0,x1,x2,hfz⟩:=g1 k x hx
 clear e2 hc1 hc2 g1
 subst e1 e3
 have HON:=aA (fun W (h:aD W q (.slice (some ⟨ob,oo,none⟩) l.length vc) l)=>h.setN (m:=0) hx)
 have HIN2:=aA (HIN.out x.n)
 have HQB:=aA hqb
 have HFZ:=aA hfz
 have HBL:=aA hbl
 clear HIN x0 x1 hqb hfz hbl
 obtain ⟨xk,xr,xn⟩:=x
 dsimp only at *
 cases hf:bG lo hi xn
 ·rw [hf] at HIN2
  go_enter Tryz.func140,Tryz.ntmps140
  go_upto_region 3 with fail
  rw [←hW1]
  clear hW1
  have r1:=HR.out.cell 1
  have v0:=HFN.out.cell 0
  have v1:=HFN.out.cell 1
  go_upto_region 6 with (go_at_call 193;refine HIN2.out.mono ?_;rintro e w2 ⟨rfl,hb2⟩;have HR2:=aA (HR.out.below hb2 HR.out.lt);have HO2:=aA (HO.out.below hb2);have HB2:=aA (HBW.out.trans (hb2.mono HBW.out.size));clear hb2 r1 v0 v1 x2)
  have r0:=HR2.out.cell 0
  have rf:=HR2.out.free 0
  go_wp2
  go_ret
  refine ⟨rfl,?_,?_,?_⟩
  exact HO2.out.far (p:=⟨br,0,none⟩) (fun k hk=>(HQ.out k hk).2) _
  exact HR2.out.set 0 _
  exact (HB2.out.mono (Nat.le_of_lt (Nat.lt_of_le_of_lt hB HLT.out))).setCell (p:=⟨br,0,none⟩) hB _
 ·rw [hf] at HIN2
  go_enter Tryz.func140,Tryz.ntmps140
  go_upto_region 3 with fail
  rw [←hW1]
  clear hW1
  have r1:=HR.out.cell 1
  have v0:=HFN.out.cell 0
  have v1:=HFN.out.cell 1
  go_upto_region 5 with (go_at_call 193;refine HIN2.out.mono ?_;rintro e w2 ⟨rfl,hb2⟩;have HR2:=aA (HR.out.below hb2 HR.out.lt);have HO2:=aA (HO.out.below hb2);have HB2:=aA (HBW.out.trans (hb2.mono HBW.out.size));have x2:=(hb2.cell (p:=⟨ob,oo+k * 3+2,none⟩) HBL.out).trans x2;have V0:=aA (HFN.out.below hb2 HFN.out.lt);have f2:=(hb2.frozen (p:=⟨ob,oo+k * 3+2,none⟩) HBL.out).trans (HFZ.out _);clear hb2 r1 v0 v1)
  have r1:=HR2.out.cell 1
  have v0:=V0.out.cell 0
  go_wp2
  go_ret
  refine ⟨rfl,?_,?_,?_⟩
  exact HON.out _ HO2.out
  exact HR2.out.far (by have:=(HQ.out ob HQB.out).2;dsimp only;omega) _
  exact (HB2.out.mono (Nat.le_of_lt (Nat.lt_of_le_of_lt hB HLT.out))).setCell (p:=⟨ob,oo+k * 3+2,none⟩) (HQ.out ob HQB.out).1 _
def jT (idx lo hi:Int) (there:Bool) (op:ByteArray) (l:List Opd):Int × ByteArray × List Opd:=
 if there=true then
  (match l[idx.toNat]? with
  | some x=>(x.n,(if bG lo hi x.n=true then op else ⟨#[]⟩),(if bG lo hi x.n=true then l.set idx.toNat {x with n:=0} else l))
  | none=>(0,op,l))
 else (0,op,l)
theorem AR (idx lo hi:Int) (there:Bool) (f:Value) (br B:Nat) (t:ByteArray) (l:List Opd) (v:Value) (q:aB) (w:World) (hr:Blk w br 24 #[.string t,v]) (ho:aD w q v l)
  (hf:there=true→∃a b,f=funV a b∧a < w.heap.size∧b < w.heap.size∧w.cell? ⟨a,0,none⟩=some (.int .i64 lo)∧w.cell? ⟨b,0,none⟩=some (.int .i64 hi)) (hi2:there=true→0≤idx∧idx < l.length)
  (hB:B≤br) (hq:∀k,q k→B≤k∧k≠br) (hlen:l.length≤9223372036854775807):
  Calls Tryz.prog 140 #[.agg #[.int .i64 idx,f],.bool there,.pointer (some ⟨br,0,none⟩)] w fun e w'=>e=.returned (.int .i64 (jT idx lo hi there t l).1)∧
   aD w' q v (jT idx lo hi there t l).2.2∧Blk w' br 24 #[.string (jT idx lo hi there t l).2.1,v]∧Below B w w':=by
 cases there
 ·refine (take_no idx f br w).mono ?_
  rintro e w' ⟨rfl,hb⟩
  exact ⟨rfl,ho.below hb,hr.below hb hr.lt,hb.mono (Nat.le_trans hB (Nat.le_of_lt hr.lt))⟩
 ·obtain ⟨a,b,rfl,ha,hb,h1,h2⟩:=hf rfl
  obtain ⟨h0,hlt⟩:=hi2 rfl
  obtain ⟨k,rfl⟩:=Int.eq_ofNat_of_zero_le h0
  have hk:k < l.length:=by omega
  have hx:l[k]?=some l[k]:=List.getElem?_eq_getElem hk
  have ht:jT (k:Int) lo hi true t l=(l[k].n,(if bG lo hi l[k].n=true then t else ⟨#[]⟩),(if bG lo hi l[k].n=true then l.set k {l[k] with n:=0} else l)):=by
   unfold jT
   rw [if_pos rfl,Int.toNat_natCast,hx]
  rw [ht]
  exact QJ k lo hi a b br B t l v q w l[k] hx hr ho h1 h2 ha hb hB hq hlen
set_option maxHeartbeats 8000000
theorem kK (ks:List Int) (l:List Opd):∀n:Nat,bU ks l n < n
  | 0=>by unfold bU;decide
  | n+1=>by
    have:=kK ks l n
    unfold bU
    split<;>omega
theorem sE {ex:List UInt8} {l:List Opd} (h:(cX ex l).2.2.2=true):0≤(cX ex l).1∧(cX ex l).1 < l.length:=by
  have h1:=kK [10] l l.length
  have h2:=kK [6,7] l l.length
  unfold cX at h ⊢
  split at h
  · rw [if_pos (by assumption)];exact ⟨of_decide_eq_true h,h1⟩
  · rw [if_neg (by assumption)]
    split at h
    · rw [if_pos (by assumption)];exact ⟨of_decide_eq_true h,h2⟩
    · rw [if_neg (by assumption)]
      split at h
      · rw [if_pos (by assumption)];exact ⟨of_decide_eq_true h,h2⟩
      · exact absurd h Bool.false_ne_true
theorem NT (idx lo hi:Int) (there:Bool) (op:ByteArray) (l:List Opd):(jT idx lo hi there op l).2.2.length=l.length:=by
  unfold jT
  split
  · split
    · dsimp only;split
      · rw [List.length_set]
      · rfl
    · rfl
  · rfl
def fQ (s t:ByteArray) (ex:List UInt8) (l m:List Opd):Int × Int × Bool:=
  if shF s t l m=true then
    (let r1:=jT (bU [5] l l.length) (-128) 127 (cO ex 100&&decide (0≤bU [5] l l.length)) (dG t) m
     let r2:=jT (cX ex l).1 (cX ex l).2.1 (cX ex l).2.2.1 (cX ex l).2.2.2 r1.2.1 r1.2.2
     if fG ⟨r2.2.1,r2.2.2⟩ ⟨s,l⟩=true then (r1.1,r2.1,true) else (0,0,false))
  else (0,0,false)
theorem Fr.nextB {w0 W w':World} {L:List (Nat × TypeId × Array Value)} {B:Nat} (h:Fr w0 L W) (hb:RowKit.Below B W w') (hB:w0.heap.size≤B) (hL:∀x∈L,x.1 < B):Fr w0 L w':=
  ⟨h.below.trans (hb.mono hB),fun x hx=>(h.at' x hx).below hb (hL x hx)⟩
theorem CM {s t:ByteArray} {l m:List Opd} (h:shF s t l m=true):l.length=m.length:=by
  unfold shF at h
  have:=congrArg List.length (of_decide_eq_true (Bool.and_eq_true_iff.1 h).2)
  simpa using this
theorem wM (pg op:Int) (s ex t:ByteArray) (al:Bool) (l m:List Opd) (p q:aB) (v u:Value) (w:World) (h:SlR aM w p v l) (g:SlR aM w q u m) (hl:l.length≤1000000) (hm:m.length≤1000000) (hs:s.size≤9223372036854775807) (ht:t.size≤9223372036854775807):
    Calls Tryz.prog 103 #[.agg #[.int .i64 pg,.int .u8 op,.string s,v,.string ex,.bool al],.agg #[.string t,u]] w fun e w'=>
      e=.returned (.tuple #[.int .i64 (fQ s t ex.data.toList l m).1,.int .i64 (fQ s t ex.data.toList l m).2.1,.bool (fQ s t ex.data.toList l m).2.2])∧Below w.heap.size w w':=by
  have HS1:=aA (fun W hb=>h.below (w':=W) hb)
  have HSH:=aA (fun W hb=>rW pg op s ex t al l m p q v u W (h.below hb) (g.below hb) hl hm hs ht)
  have HMK:=aA (fun W hb=>mC q t u m W (g.below hb) hm ht)
  have HDI:=aA (fun W hb=>nJ pg op s ex al l p v W (h.below hb))
  have HNU:=aA (fun W hb=>pW pg op s ex al l p v W (h.below hb))
  have HL:=aA hl
  have HM:=aA hm
  have HF:=aA (((Fr.start w).new 95 #[.int .i64 pg,.int .u8 op,.string s,v,.string ex,.bool al]).new' 24 #[.string t,u] (World.size_alloc _ _))
  obtain ⟨va,vc,rfl⟩:∃a c,v=.slice a l.length c:=by obtain ⟨a,c,e,_⟩:=h;exact ⟨a,c,e⟩
  obtain ⟨ua,uc,rfl⟩:∃a c,u=.slice a m.length c:=by obtain ⟨a,c,e,_⟩:=g;exact ⟨a,c,e⟩
  clear h g hl hm hs ht
  obtain ⟨W0,hW0⟩:∃W0:World,W0=((w.alloc (.cells #[.int .i64 pg,.int .u8 op,.string s,.slice va l.length vc,.string ex,.bool al] 95)).alloc (.cells #[.string t,.slice ua m.length uc] 24)):=⟨_,rfl⟩
  rw [←hW0] at HF
  have HSH2:=aA (HSH.out _ HF.out.below)
  have HNO:=aA (show shF s t l m=false→fQ s t ex.data.toList l m=(0,0,false) from fun h=>if_neg (by rw [h];decide))
  obtain ⟨r1,hr1⟩:∃r1,jT (bU [5] l l.length) (-128) 127 (cO ex.data.toList 100&&decide (0≤bU [5] l l.length)) (dG t) m=r1:=⟨_,rfl⟩
  obtain ⟨r2,hr2⟩:∃r2,jT (cX ex.data.toList l).1 (cX ex.data.toList l).2.1 (cX ex.data.toList l).2.2.1 (cX ex.data.toList l).2.2.2 r1.2.1 r1.2.2=r2:=⟨_,rfl⟩
  have HYE:=aA (show shF s t l m=true→fQ s t ex.data.toList l m=(if fG ⟨r2.2.1,r2.2.2⟩ ⟨s,l⟩=true then (r1.1,r2.1,true) else (0,0,false)) from fun h=>by subst hr2 hr1;exact if_pos h)
  have HR1:=aA hr1
  have HR2:=aA hr2
  have HLR1:=aA (show r1.2.2.length=m.length from by rw [←hr1];exact NT _ _ _ _ _ _)
  have HNL:=aA (sE (ex:=ex.data.toList) (l:=l))
  have HDL:=aA (kK [5] l l.length)
  clear hr1 hr2
  have HLN:=aA (fun h=>CM h (s:=s) (t:=t) (l:=l) (m:=m))
  generalize fQ s t ex.data.toList l m=R at *
  generalize shF s t l m=sh at *
  go_enter Tryz.func103,Tryz.ntmps103
  go_upto_region 1 with fail
  rw [←hW0]
  clear hW0 HSH
  have e0:=(HF.out.blk 1 rfl).cell 0
  have e1:=(HF.out.blk 1 rfl).cell 1
  have e2:=(HF.out.blk 1 rfl).cell 2
  have e3:=(HF.out.blk 1 rfl).cell 3
  have e4:=(HF.out.blk 1 rfl).cell 4
  have e5:=(HF.out.blk 1 rfl).cell 5
  have c0:=(HF.out.blk 0 rfl).cell 0
  have c1:=(HF.out.blk 0 rfl).cell 1
  cases sh
  · have HR:=aA (HNO.out rfl)
    go_wp2_with (go_at_call 102;refine HSH2.out.mono ?_;rintro e w1 ⟨rfl,hb1⟩;have HF1:=aA (HF.out.next hb1);clear hb1)
    go_ret3
    rw [HR.out]
    exact ⟨rfl,HF1.out.below⟩
  go_upto_region 3 with (go_at_call 102;refine HSH2.out.mono ?_;rintro e w1 ⟨rfl,hb1⟩;have HF1:=aA (HF.out.next hb1);have e0:=(HF1.out.blk 1 rfl).cell 0;have e1:=(HF1.out.blk 1 rfl).cell 1;have e2:=(HF1.out.blk 1 rfl).cell 2;have e3:=(HF1.out.blk 1 rfl).cell 3;have e4:=(HF1.out.blk 1 rfl).cell 4;have e5:=(HF1.out.blk 1 rfl).cell 5;have c0:=(HF1.out.blk 0 rfl).cell 0;have c1:=(HF1.out.blk 0 rfl).cell 1;clear hb1)
  have HMK2:=aA (HMK.out _ HF1.out.below)
  go_upto_region 5 with (go_at_call 21;refine HMK2.out.mono ?_;rintro e w2 ⟨u2,rfl,ho,hb2⟩;obtain ⟨ca,cc,rfl⟩:=ho.form;have HF2:=aA (HF1.out.next hb2);have HO:=aA ho;have HB12:=aA hb2;clear ho hb2 HSH2)
  have HY:=aA (HYE.out (by trivial))
  have HLM:=aA (HLN.out (by trivial))
  clear HYE HNO HLN HMK HMK2
  have HF3:=aA (HF2.out.new 24 #[.string (dG t),.slice ca m.length cc])
  have HGE:=aA (Nat.lt_of_lt_of_le (HF1.out.blk 0 rfl).lt (show w1.heap.size≤w2.heap.size from by have:=HF2.out.size;have h9:=(Own.lt HO.out);exact HB12.out.size))
  have HO3:=aA ((Own.opdOwn (q:=fun k=>w.heap.size+1+1≤k∧k≠w2.heap.size) HO.out (fun k hk=>by have h8:=(HO.out.lt k hk).1;have h9:=(HO.out.lt k hk).2;have:=(HF1.out.blk 0 rfl).lt;omega)).below ((Below.refl _ _).alloc (Nat.le_refl _) (.cells #[.string (dG t),.slice ca m.length cc] 24)))
  obtain ⟨br,hbr⟩:∃br,w2.heap.size=br:=⟨_,rfl⟩
  rw [hbr] at HF3 HO3 HGE ⊢
  obtain ⟨W3,hW3⟩:∃W:World,W=w2.alloc (.cells #[.string (dG t),.slice ca m.length cc] 24):=⟨_,rfl⟩
  rw [←hW3] at HF3 HO3 ⊢
  clear hW3 hbr HO HF2 HF1 HF HB12 e0 e1 e2 e3 e4 e5 c0 c1
  have e0:=(HF3.out.blk 2 rfl).cell 0
  have e1:=(HF3.out.blk 2 rfl).cell 1
  have e2:=(HF3.out.blk 2 rfl).cell 2
  have e3:=(HF3.out.blk 2 rfl).cell 3
  have e4:=(HF3.out.blk 2 rfl).cell 4
  have e5:=(HF3.out.blk 2 rfl).cell 5
  have HD2:=aA (HDI.out _ HF3.out.below)
  go_upto_region 6 with (first
    | (go_at_call 141;refine HD2.out.mono ?_;rintro e w4 ⟨f4,rfl,hf4,hb4,_⟩;have HF4:=aA (HF3.out.next hb4);have HO4:=aA (HO3.out.below hb4);have HT4:=aA (AR (bU [5] l l.length) (-128) 127 (cO ex.data.toList 100&&decide (0≤bU [5] l l.length)) f4 br (w.heap.size+1+1) (dG t) m _ _ w4 (HF4.out.blk 0 rfl) HO4.out (fun h=>by obtain ⟨a,b,h1,_,_,h2,h3,h4,h5⟩:=hf4 h;exact ⟨a,b,h1,h2,h3,h4,h5⟩) (fun h=>⟨of_decide_eq_true (Bool.and_eq_true_iff.1 h).2,by have:=HDL.out;have:=HLM.out;omega⟩) (by have:=HGE.out;omega) (fun k hk=>hk) (by have:=HM.out;omega));clear hf4 hb4 e0 e1 e2 e3 e4 e5)
    | (go_at_call 140;refine HT4.out.mono ?_;rw [HR1.out];rintro e w5 ⟨rfl,ho5,hk5,hb5⟩;have HO5:=aA ho5;have HK5:=aA hk5;have HF5:=aA (HF4.out.drop.nextB hb5 (by omega) (by intro y hy;simp only [List.mem_cons,List.not_mem_nil,or_false] at hy;rcases hy with rfl | rfl<;>dsimp only<;>omega));clear ho5 hk5 hb5))
  clear HT4 HD2 HF3 HO3 HF4 HO4 HDI
  have e0:=(HF5.out.blk 1 rfl).cell 0
  have e1:=(HF5.out.blk 1 rfl).cell 1
  have e2:=(HF5.out.blk 1 rfl).cell 2
  have e3:=(HF5.out.blk 1 rfl).cell 3
  have e4:=(HF5.out.blk 1 rfl).cell 4
  have e5:=(HF5.out.blk 1 rfl).cell 5
  have HN2:=aA (HNU.out _ HF5.out.below)
  go_upto_region 7 with (first
    | (go_at_call 142;refine HN2.out.mono ?_;rintro e w6 ⟨f6,rfl,hf6,hb6,_⟩;have HF6:=aA (HF5.out.next hb6);have HO6:=aA (HO5.out.below hb6);have HK6:=aA (HK5.out.below hb6 HK5.out.lt);have HT6:=aA (AR (cX ex.data.toList l).1 (cX ex.data.toList l).2.1 (cX ex.data.toList l).2.2.1 (cX ex.data.toList l).2.2.2 f6 br (w.heap.size+1+1) r1.2.1 r1.2.2 _ _ w6 HK6.out HO6.out (fun h=>by obtain ⟨a,b,h1,_,_,h2,h3,h4,h5⟩:=hf6 h;exact ⟨a,b,h1,h2,h3,h4,h5⟩) (fun h=>⟨(HNL.out h).1,by have h1:=(HNL.out h).2;have:=HLM.out;have:=HLR1.out;omega⟩) (by have:=HGE.out;omega) (fun k hk=>hk) (by have:=HM.out;have:=HLR1.out;omega));clear hf6 hb6 e0 e1 e2 e3 e4 e5)
    | (go_at_call 140;refine HT6.out.mono ?_;rw [HR2.out];rintro e w7 ⟨rfl,ho7,hk7,hb7⟩;have HO7:=aA ho7;have HK7:=aA hk7;have HF7:=aA (HF6.out.nextB hb7 (by omega) (by intro y hy;simp only [List.mem_cons,List.not_mem_nil,or_false] at hy;rcases hy with rfl | rfl<;>dsimp only<;>omega));clear ho7 hk7 hb7))
  clear HT6 HN2 HF5 HO5 HK5 HF6 HO6 HK6 HNU
  have e2:=(HF7.out.blk 1 rfl).cell 2
  have e3:=(HF7.out.blk 1 rfl).cell 3
  have k0:=HK7.out.cell 0
  have k1:=HK7.out.cell 1
  have HSM:=aA (lO _ _ ⟨r2.2.1,r2.2.2⟩ ⟨s,l⟩ _ _ w7 HO7.out.slR (HS1.out _ HF7.out.below))
  generalize fG ⟨r2.2.1,r2.2.2⟩ ⟨s,l⟩=eq at *
  dsimp only at HSM
  cases eq
  · rw [if_neg Bool.false_ne_true] at HY
    go_wp2_with (go_at_call 138;refine HSM.out.mono ?_;rintro e w8 ⟨rfl,hb8⟩;have HF8:=aA (HF7.out.next hb8);clear hb8)
    go_ret3
    rw [HY.out]
    exact ⟨rfl,HF8.out.below⟩
  · rw [if_pos rfl] at HY
    go_wp2_with (go_at_call 138;refine HSM.out.mono ?_;rintro e w8 ⟨rfl,hb8⟩;have HF8:=aA (HF7.out.next hb8);clear hb8)
    go_ret3
    rw [HY.out]
    exact ⟨rfl,HF8.out.below⟩
def qK (idx lo hi:Int) (there:Bool) (n:Int) (l:List Opd):Bool × List Opd:=
 if there=true then (match l[idx.toNat]? with | some x=>(bG lo hi n,l.set idx.toNat {x with n:=n}) | none=>(false,l)) else (n==0,l)
def tH (ex:List UInt8) (l:List Opd) (d n:Int):Option (List Opd):=
 let r1:=qK (bU [5] l l.length) (-128) 127 (cO ex 100&&decide (0≤bU [5] l l.length)) d l
 let r2:=qK (cX ex l).1 (cX ex l).2.1 (cX ex l).2.2.1 (cX ex l).2.2.2 n r1.2
 if r2.1=true then (if r1.1=true then some r2.2 else none) else none
end Go.Proofs.YtcgheipmnphbjaaGreatDoor
namespace Go.Proofs.YtcgheipmnphbjaaGreatDoor
set_option maxHeartbeats 4000000
open Go.RowKit
theorem zG (k:Int) (r:Nat) (hr:r < 9):(#[.string ((aG k).nm 0),.string ((aG k).nm 1),.string ((aG k).nm 2),.string ((aG k).nm 3),.string ((aG k).nm 4),.string ((aG k).nm 5),.string ((aG k).nm 6),.string ((aG k).nm 7),.string ((aG k).nm 8),.int .i64 (aG k).lo,.int .i64 (aG k).hi,.func (.func (aG k).form) #[] #[]]:Array Value)[r]?=some (.string ((aG k).nm r)):=by
 have:r=0∨r=1∨r=2∨r=3∨r=4∨r=5∨r=6∨r=7∨r=8:=by omega
 rcases this with rfl | rfl | rfl | rfl | rfl | rfl | rfl | rfl | rfl<;>rfl
theorem wT {P:Prop} (h:P:=by
  have HK:Hid (Blk (w.alloc (.cells #[.int .i64 k,.int .i64 (r:Int),.int .i64 n] 49)) w.heap.size 49 #[.int .i64 k,.int .i64 (r:Int),.int .i64 n]):=Blk.new w _ _
  obtain ⟨W,hW⟩:∃W:World,W=(w.alloc (.cells #[.int .i64 k,.int .i64 (r:Int),.int .i64 n] 49)).alloc (.cells #[.string ⟨#[]⟩,.string ⟨#[]⟩,.string ⟨#[]⟩,.string ⟨#[]⟩,.string ⟨#[]⟩,.string ⟨#[]⟩,.string ⟨#[]⟩,.string ⟨#[]⟩,.string ⟨#[]⟩,.int .i64 0,.int .i64 0,.nilFunc] 147):=⟨_,rfl⟩
  have HBW:Hid (Below w.heap.size w W):=hW ▸ ((Below.refl _ _).alloc (Nat.le_refl _) _).alloc (by simp) _
  have HKW:Hid (Blk W w.heap.size 49 #[.int .i64 k,.int .i64 (r:Int),.int .i64 n]):=hW ▸ HK.out.alloc _
  have HZW:Hid (Blk W (w.heap.size+1) 147 #[.string ⟨#[]⟩,.string ⟨#[]⟩,.string ⟨#[]⟩,.string ⟨#[]⟩,.string ⟨#[]⟩,.string ⟨#[]⟩,.string ⟨#[]⟩,.string ⟨#[]⟩,.string ⟨#[]⟩,.int .i64 0,.int .i64 0,.nilFunc]):=aA (by rw [hW];exact (by simpa using Blk.new (w.alloc (.cells #[.int .i64 k,.int .i64 (r:Int),.int .i64 n] 49)) 147 #[.string ⟨#[]⟩,.string ⟨#[]⟩,.string ⟨#[]⟩,.string ⟨#[]⟩,.string ⟨#[]⟩,.string ⟨#[]⟩,.string ⟨#[]⟩,.string ⟨#[]⟩,.string ⟨#[]⟩,.int .i64 0,.int .i64 0,.nilFunc]))
  have HFI:=aA (sD k hk W)
  simp only [fP.val] at HFI
  have HC:Hid (∀(wx:World) (b:Nat),b=wx.heap.size→(wx.alloc (.cells #[.int .i64 n] 3)).cell? ⟨b,0,none⟩=some (.int .i64 n)):=fun wx b hb=>by rw [hb];exact (Blk.new wx _ _).cell 0
  go_enter Tryz.func109,Tryz.ntmps109
  go_wp2_with fail
  rw [←hW]
  clear hW HK
  refine HFI.out.mono ?_
  rintro e w1 ⟨rfl,hb⟩
  have HB:=aA hb
  have b0:w1.cell? ⟨w.heap.size,0,none⟩=some (.int .i64 k):=(hb.cell (p:=⟨w.heap.size,0,none⟩) HKW.out.lt).trans (HKW.out.cell 0)
  have b1:w1.cell? ⟨w.heap.size,1,none⟩=some (.int .i64 (r:Int)):=(hb.cell (p:=⟨w.heap.size,1,none⟩) HKW.out.lt).trans (HKW.out.cell 1)
  have b2:w1.cell? ⟨w.heap.size,2,none⟩=some (.int .i64 n):=(hb.cell (p:=⟨w.heap.size,2,none⟩) HKW.out.lt).trans (HKW.out.cell 2)
  have HZ:=aA (HZW.out.below hb HZW.out.lt)
  have hlt1:w.heap.size < w1.heap.size:=Nat.lt_of_lt_of_le HKW.out.lt hb.size
  have hlt2:w.heap.size+1 < w1.heap.size:=Nat.lt_of_lt_of_le HZW.out.lt hb.size
  clear hb
  have hcr:(w1.alloc (.cells #[.string ((aG k).nm 0),.string ((aG k).nm 1),.string ((aG k).nm 2),.string ((aG k).nm 3),.string ((aG k).nm 4),.string ((aG k).nm 5),.string ((aG k).nm 6),.string ((aG k).nm 7),.string ((aG k).nm 8),.int .i64 (aG k).lo,.int .i64 (aG k).hi,.func (.func (aG k).form) #[] #[]] 147)).cell? ⟨w1.heap.size,r,none⟩=some (.string ((aG k).nm r)):=((Blk.new w1 _ _).cell r).trans (zG k r hr)
  have hr0:(0:Int)≤r:=by omega
  have hr9:(r:Int) < 9:=by omega
  first
   | ((have _:=Ma0);(go_upto_region 3 with fail);(go_wp2_with (refine wpList_store_row rfl 147 _ _ rfl (w.heap.size+1) #[.string ⟨#[]⟩,.string ⟨#[]⟩,.string ⟨#[]⟩,.string ⟨#[]⟩,.string ⟨#[]⟩,.string ⟨#[]⟩,.string ⟨#[]⟩,.string ⟨#[]⟩,.string ⟨#[]⟩,.int .i64 0,.int .i64 0,.nilFunc] rfl rfl 147 _ (HZ.out.alloc _) (by kernel_rfl) rfl (by kernel_rfl) ?_));(refine bodyPost_ret (dD rfl _ _ (w.heap.size+1) 147 #[.string ⟨#[]⟩,.string ⟨#[]⟩,.string ⟨#[]⟩,.string ⟨#[]⟩,.string ⟨#[]⟩,.string ⟨#[]⟩,.string ⟨#[]⟩,.string ⟨#[]⟩,.string ⟨#[]⟩,.int .i64 0,.int .i64 0,.nilFunc] (0,0) _ rfl (setRow_heap _ _ _ _ _ _ (HZ.out.alloc _)) Tryz.underlying147 rfl (by kernel_rfl)) rfl ⟨rfl,?_⟩);(exact below_setRow ((HBW.out.trans (HB.out.mono HBW.out.size)).alloc (Nat.le_trans HBW.out.size HB.out.size) _) (by omega) _))
   | ((go_upto_region 3 with (go_at_call 38;refine (sV _ _ _ _ _ (HC.out _ _ (by simp))).mono ?_;rw [hfit];rintro e w2 ⟨rfl,rfl⟩));(go_wp2_with (refine wpList_store_row rfl 147 _ _ rfl (w.heap.size+1) #[.string ⟨#[]⟩,.string ⟨#[]⟩,.string ⟨#[]⟩,.string ⟨#[]⟩,.string ⟨#[]⟩,.string ⟨#[]⟩,.string ⟨#[]⟩,.string ⟨#[]⟩,.string ⟨#[]⟩,.int .i64 0,.int .i64 0,.nilFunc] rfl rfl 147 _ ((HZ.out.alloc _).alloc _) (by kernel_rfl) rfl (by kernel_rfl) ?_));(refine bodyPost_ret (dD rfl _ _ (w.heap.size+1) 147 #[.string ⟨#[]⟩,.string ⟨#[]⟩,.string ⟨#[]⟩,.string ⟨#[]⟩,.string ⟨#[]⟩,.string ⟨#[]⟩,.string ⟨#[]⟩,.string ⟨#[]⟩,.string ⟨#[]⟩,.int .i64 0,.int .i64 0,.nilFunc] (0,0) _ rfl (setRow_heap _ _ _ _ _ _ ((HZ.out.alloc _).alloc _)) Tryz.underlying147 rfl (by kernel_rfl)) rfl ⟨rfl,?_⟩);(exact below_setRow (((HBW.out.trans (HB.out.mono HBW.out.size)).alloc (Nat.le_trans HBW.out.size HB.out.size) _).alloc (by simp;have:=HBW.out.size;have:=HB.out.size;omega) _) (by omega) _))):P:=h
theorem WP (k n:Int) (r:Nat) (hr:r < 9) (hk:cR k=true) (hn:(((aG k).nm r).toList==[])=true) (w:World):Calls Tryz.prog 109 #[.agg #[.int .i64 k,.int .i64 (r:Int),.int .i64 n]] w fun e w'=>e=.returned (.tuple #[gU,.string ⟨#[]⟩,.bool false])∧Below w.heap.size w w':=by
 have Ma0:=trivial
 exact wT
theorem WU (k n:Int) (r:Nat) (hr:r < 9) (hk:cR k=true) (hn:(((aG k).nm r).toList==[])=false) (hfit:bG (aG k).lo (aG k).hi n=false) (w:World):Calls Tryz.prog 109 #[.agg #[.int .i64 k,.int .i64 (r:Int),.int .i64 n]] w fun e w'=>e=.returned (.tuple #[gU,.string ⟨#[]⟩,.bool false])∧Below w.heap.size w w':=wT
theorem of_ok (k n:Int) (r:Nat) (hr:r < 9) (hk:cR k=true) (hn:(((aG k).nm r).toList==[])=false) (hfit:bG (aG k).lo (aG k).hi n=true) (w:World):Calls Tryz.prog 109 #[.agg #[.int .i64 k,.int .i64 (r:Int),.int .i64 n]] w fun e w'=>e=.returned (.tuple #[(aG k).val,.string ((aG k).nm r),.bool true])∧Below w.heap.size w w':=by
 have HK:Hid (Blk (w.alloc (.cells #[.int .i64 k,.int .i64 (r:Int),.int .i64 n] 49)) w.heap.size 49 #[.int .i64 k,.int .i64 (r:Int),.int .i64 n]):=Blk.new w _ _
 obtain ⟨W,hW⟩:∃W:World,W=(w.alloc (.cells #[.int .i64 k,.int .i64 (r:Int),.int .i64 n] 49)).alloc (.cells #[.string ⟨#[]⟩,.string ⟨#[]⟩,.string ⟨#[]⟩,.string ⟨#[]⟩,.string ⟨#[]⟩,.string ⟨#[]⟩,.string ⟨#[]⟩,.string ⟨#[]⟩,.string ⟨#[]⟩,.int .i64 0,.int .i64 0,.nilFunc] 147):=⟨_,rfl⟩
 have HBW:Hid (Below w.heap.size w W):=hW ▸ ((Below.refl _ _).alloc (Nat.le_refl _) _).alloc (by simp) _
 have HKW:Hid (Blk W w.heap.size 49 #[.int .i64 k,.int .i64 (r:Int),.int .i64 n]):=hW ▸ HK.out.alloc _
 have HZW:Hid (Blk W (w.heap.size+1) 147 #[.string ⟨#[]⟩,.string ⟨#[]⟩,.string ⟨#[]⟩,.string ⟨#[]⟩,.string ⟨#[]⟩,.string ⟨#[]⟩,.string ⟨#[]⟩,.string ⟨#[]⟩,.string ⟨#[]⟩,.int .i64 0,.int .i64 0,.nilFunc]):=aA (by rw [hW];exact (by simpa using Blk.new (w.alloc (.cells #[.int .i64 k,.int .i64 (r:Int),.int .i64 n] 49)) 147 #[.string ⟨#[]⟩,.string ⟨#[]⟩,.string ⟨#[]⟩,.string ⟨#[]⟩,.string ⟨#[]⟩,.string ⟨#[]⟩,.string ⟨#[]⟩,.string ⟨#[]⟩,.string ⟨#[]⟩,.int .i64 0,.int .i64 0,.nilFunc]))
 have HFI:=aA (sD k hk W)
 simp only [fP.val] at HFI
 have HC:Hid (∀(wx:World) (b:Nat),b=wx.heap.size→(wx.alloc (.cells #[.int .i64 n] 3)).cell? ⟨b,0,none⟩=some (.int .i64 n)):=fun wx b hb=>by rw [hb];exact (Blk.new wx _ _).cell 0
 go_enter Tryz.func109,Tryz.ntmps109
 go_wp2_with fail
 rw [←hW]
 clear hW HK
 refine HFI.out.mono ?_
 rintro e w1 ⟨rfl,hb⟩
 have HB:=aA hb
 have b0:w1.cell? ⟨w.heap.size,0,none⟩=some (.int .i64 k):=(hb.cell (p:=⟨w.heap.size,0,none⟩) HKW.out.lt).trans (HKW.out.cell 0)
 have b1:w1.cell? ⟨w.heap.size,1,none⟩=some (.int .i64 (r:Int)):=(hb.cell (p:=⟨w.heap.size,1,none⟩) HKW.out.lt).trans (HKW.out.cell 1)
 have b2:w1.cell? ⟨w.heap.size,2,none⟩=some (.int .i64 n):=(hb.cell (p:=⟨w.heap.size,2,none⟩) HKW.out.lt).trans (HKW.out.cell 2)
 have HZ:=aA (HZW.out.below hb HZW.out.lt)
 have hlt1:w.heap.size < w1.heap.size:=Nat.lt_of_lt_of_le HKW.out.lt hb.size
 have hlt2:w.heap.size+1 < w1.heap.size:=Nat.lt_of_lt_of_le HZW.out.lt hb.size
 clear hb
 have hcr:(w1.alloc (.cells #[.string ((aG k).nm 0),.string ((aG k).nm 1),.string ((aG k).nm 2),.string ((aG k).nm 3),.string ((aG k).nm 4),.string ((aG k).nm 5),.string ((aG k).nm 6),.string ((aG k).nm 7),.string ((aG k).nm 8),.int .i64 (aG k).lo,.int .i64 (aG k).hi,.func (.func (aG k).form) #[] #[]] 147)).cell? ⟨w1.heap.size,r,none⟩=some (.string ((aG k).nm r)):=((Blk.new w1 _ _).cell r).trans (zG k r hr)
 have hr0:(0:Int)≤r:=by omega
 have hr9:(r:Int) < 9:=by omega
 go_upto_region 4 with (go_at_call 38;refine (sV _ _ _ _ _ (HC.out _ _ (by simp))).mono ?_;rw [hfit];rintro e w2 ⟨rfl,rfl⟩)
 obtain ⟨W4,hW4⟩:∃W:World,W=(w1.alloc (.cells #[.string ((aG k).nm 0),.string ((aG k).nm 1),.string ((aG k).nm 2),.string ((aG k).nm 3),.string ((aG k).nm 4),.string ((aG k).nm 5),.string ((aG k).nm 6),.string ((aG k).nm 7),.string ((aG k).nm 8),.int .i64 (aG k).lo,.int .i64 (aG k).hi,.func (.func (aG k).form) #[] #[]] 147)).alloc (.cells #[.int .i64 n] 3):=⟨_,rfl⟩
 have hb4:Below w1.heap.size w1 W4:=hW4 ▸ ((Below.refl _ _).alloc (Nat.le_refl _) _).alloc (by simp) _
 have hk4:Blk W4 w1.heap.size 147 #[.string ((aG k).nm 0),.string ((aG k).nm 1),.string ((aG k).nm 2),.string ((aG k).nm 3),.string ((aG k).nm 4),.string ((aG k).nm 5),.string ((aG k).nm 6),.string ((aG k).nm 7),.string ((aG k).nm 8),.int .i64 (aG k).lo,.int .i64 (aG k).hi,.func (.func (aG k).form) #[] #[]]:=hW4 ▸ (Blk.new w1 _ _).alloc _
 have hz4:=HZ.out.below hb4 hlt2
 have d1:W4.cell? ⟨w.heap.size,1,none⟩=some (.int .i64 (r:Int)):=(hb4.cell (p:=⟨w.heap.size,1,none⟩) hlt1).trans b1
 rw [←hW4]
 clear hW4 b0 b1 b2
 have HB4:=aA hb4
 have HZ4:=aA hz4
 have er:=(hk4.cell r).trans (zG k r hr)
 have e0:=hk4.cell 0
 have e1:=hk4.cell 1
 have e2:=hk4.cell 2
 have e3:=hk4.cell 3
 have e4:=hk4.cell 4
 have e5:=hk4.cell 5
 have e6:=hk4.cell 6
 have e7:=hk4.cell 7
 have e8:=hk4.cell 8
 have e9:=hk4.cell 9
 have e10:=hk4.cell 10
 have e11:=hk4.cell 11
 have z0:=hz4.cell 0
 have f0:=hz4.free 0
 have z1:=hz4.cell 1
 have f1:=hz4.free 1
 have z2:=hz4.cell 2
 have f2:=hz4.free 2
 have z3:=hz4.cell 3
 have f3:=hz4.free 3
 have z4:=hz4.cell 4
 have f4:=hz4.free 4
 have z5:=hz4.cell 5
 have f5:=hz4.free 5
 have z6:=hz4.cell 6
 have f6:=hz4.free 6
 have z7:=hz4.cell 7
 have f7:=hz4.free 7
 have z8:=hz4.cell 8
 have f8:=hz4.free 8
 have z9:=hz4.cell 9
 have f9:=hz4.free 9
 have z10:=hz4.cell 10
 have f10:=hz4.free 10
 have z11:=hz4.cell 11
 have f11:=hz4.free 11
 clear hk4 hz4 hb4
 go_region
 go_wp2
 have HRES:=aA (Blk.set12 HZ4.out (.string ((aG k).nm 0)) (.string ((aG k).nm 1)) (.string ((aG k).nm 2)) (.string ((aG k).nm 3)) (.string ((aG k).nm 4)) (.string ((aG k).nm 5)) (.string ((aG k).nm 6)) (.string ((aG k).nm 7)) (.string ((aG k).nm 8)) (.int .i64 (aG k).lo) (.int .i64 (aG k).hi) (.func (.func (aG k).form) #[] #[]))
 refine bodyPost_ret (dD rfl _ _ (w.heap.size+1) 147 #[.string ((aG k).nm 0),.string ((aG k).nm 1),.string ((aG k).nm 2),.string ((aG k).nm 3),.string ((aG k).nm 4),.string ((aG k).nm 5),.string ((aG k).nm 6),.string ((aG k).nm 7),.string ((aG k).nm 8),.int .i64 (aG k).lo,.int .i64 (aG k).hi,.func (.func (aG k).form) #[] #[]] (0,0) _ rfl HRES.out Tryz.underlying147 rfl (by kernel_rfl)) rfl ⟨rfl,?_⟩
 exact AH ((HBW.out.trans (HB.out.mono HBW.out.size)).trans (HB4.out.mono (Nat.le_trans HBW.out.size HB.out.size))) (by omega) _ _ _ _ _ _ _ _ _ _ _ _
end Go.Proofs.YtcgheipmnphbjaaGreatDoor
