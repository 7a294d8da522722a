/-
  show.Items; the law ShowItems. Conditions: the library's tables as their initialisers lay them; sizes.
-/
import Derived.Test.YtcgheipmnphbjaaGreatDoorOF
namespace Go.Proofs.YtcgheipmnphbjaaGreatDoor
set_option maxHeartbeats 16000000
set_option maxRecDepth 100000
open Go.RowKit Go.Shelf Go.Sort
def oGq (x:It):ByteArray:=⟨(oCk x).toArray⟩
theorem oGt (ls:List It) (hm:∀x∈ls,oCq x) (hl:ls.length≤60) (p:aB) (v:Value) (w:World) (h:SlR itR w p v ls) (hT:Spc w) (hD:Deb w):
    Calls Tryz.prog 13 #[v] w fun e w'=>(∃v',e=.returned v'∧Own eN w' w.heap.size 9 NoB v' (ls.map oGq))∧RowKit.Below w.heap.size w w':=by
  have HIO:=aA (fun x (hx:x∈ls) q v W h (hb:RowKit.Below w.heap.size w W)=>oDw x (hm x hx) q v W h (hT.below hb) (hD.below hb))
  have HLL:=aA hl
  have HS:=aA h
  obtain ⟨a,c,rfl,_,_,_⟩:=h.it
  have hlm:(ls.length:Int)≤60:=by omega
  clear h hT hD hm hl
  go_enter Tryz.func13,Tryz.ntmps13
  go_wp2
  go_loopw [3,8] (fun y i wr=>∃k:Nat,k≤ls.length∧i=.int .i64 k∧Own eN wr w.heap.size 9 NoB y ((ls.take k).map oGq)∧RowKit.Below w.heap.size w wr) (fun _ i _=>ls.length - (intOf i).toNat)
  case atStart=>exact ⟨0,Nat.zero_le _,rfl,Own.nil _ _ _ _ _,Below.refl _ _⟩
  case round=>
    obtain ⟨k,hk,rfl,ho,hb⟩:=hrel
    have HB:=aA hb
    by_cases hlt:k < ls.length
    · have hlm2:((ls.take k).map oGq).length=k:=by simp;omega
      have HXS:Hid ((ls.take (k+1)).map oGq=(ls.take k).map oGq++[oGq ls[k]]):=aA (by rw [List.take_succ_eq_append_getElem hlt,List.map_append];rfl)
      obtain ⟨a2,c2,e2,_,_,hg⟩:=(HS.out.below HB.out).it
      injection e2 with e2 e3 e4
      clear e3
      subst e2 e4
      obtain ⟨b1,o1,ra,rc,va,vc,rfl,_,x0,x1,x2,x3,x4,s1,a1⟩:=hg k ls[k] (List.getElem?_eq_getElem hlt)
      generalize (ls.take k).map oGq=xs at *
      have HLM:=aA hlm2
      have HO:=aA ho
      obtain ⟨oa,oc,rfl⟩:=ho.form
      have HC1:Hid ((xs.length+1) * 16≤140737488355328):=by have:=HLM.out;have:=HLL.out;show _≤_;omega
      have HC2:Hid (xs.length+1≤9223372036854775807):=by have:=HLM.out;have:=HLL.out;show _≤_;omega
      have HRX:=aA (fun W (h:SlR aI W (fun _=>True) (.slice ra ls[k].raw.length rc) ls[k].raw∧SlR aM W (fun _=>True) (.slice va ls[k].args.length vc) ls[k].args) hb=>HIO.out ls[k] (List.getElem_mem hlt) (fun _=>True) _ W ⟨ra,rc,va,vc,rfl,h.1,h.2⟩ hb)
      have HY:Hid (⟨(oCk ls[k]).toArray⟩=oGq ls[k]):=aA rfl
      have s2:=s1.mono (q:=fun _=>True) (fun _ _=>trivial)
      have a3:=a1.mono (q:=fun _=>True) (fun _ _=>trivial)
      clear hlm2 ho hb hg s1 a1
      unfold kY at HRX
      generalize oGq ls[k]=y at *
      rw [HY.out] at HRX
      clear HY
      generalize ls[k]=x at *
      obtain ⟨k0,R,op,args,al⟩:=x
      dsimp only at *
      obtain ⟨O,hO⟩:∃S:ByteArray,S=⟨op.toArray⟩:=⟨_,rfl⟩
      rw [←hO] at HRX x2
      have HB1:=aA (HB.out.alloc HB.out.size (.cells #[.int .i64 k0,.slice ra R.length rc,.string O,.slice va args.length vc,.bool al] 40))
      have HSB:=aA (s2.alloc (.cells #[.int .i64 k0,.slice ra R.length rc,.string O,.slice va args.length vc,.bool al] 40))
      have HAB:=aA (a3.alloc (.cells #[.int .i64 k0,.slice ra R.length rc,.string O,.slice va args.length vc,.bool al] 40))
      clear s2 a3 hO
      go_wp2_with (first
        | (go_at_call 15;(with_reducible refine (HRX.out _ ⟨HSB.out,HAB.out⟩ HB1.out).mono ?_);rintro e w2 ⟨rfl,hb⟩;have HB2:=aA (HB1.out.trans (hb.mono HB1.out.size));have HO2:=aA ((HO.out.stay ((Below.refl _ _).alloc (Nat.le_refl _) _)).stay hb);clear hb)
        | (at_builtin;refine cK rfl (.tmp 12) (.tmp 15) 36 rfl w.heap.size 9 16 elStr _ xs y _ rfl rfl HO2.out rfl HC1.out HC2.out HB2.out.size ?_;intro a' c' w' hp;have HP:=aA hp;clear hp))
      go_roundw
      case rel=>exact ⟨k+1,by omega,by go_num,by rw [HXS.out];exact HP.out.1,HB2.out.grown HP.out.2 HB2.out.size (fun j hj=>(HO2.out.lt j hj).1)⟩
      case measure=>simp [intOf];omega
    · obtain rfl:k=ls.length:=by omega
      rw [List.take_length] at ho
      have HO:=aA ho
      obtain ⟨oa,oc,rfl⟩:=ho.form
      clear ho hb
      go_wp2
      go_ret
      exact ⟨⟨_,rfl,HO.out⟩,HB.out⟩
theorem ShowItems_law (z:Int) (ls:List It) (p:aB) (v:Value) (w:World) (h:SlR itR w p v ls) (hf:∀x∈ls,QD x) (hT:Spc w) (hD:Deb w):
    Calls Tryz.prog 4 #[.int .i64 z,v] w fun e w'=>e=.returned (.bool true)∧RowKit.Below w.heap.size w w':=by
  have HAL:=aA (fun W (hb:RowKit.Below w.heap.size w W)=>oAv W (hT.below hb) (hD.below hb))
  have HFW:=aA (Few_any p v ls w h)
  have HIO:=aA (fun hF=>oGt ls (oGb hF hf).1 (oGb hF hf).2 p v w h hT hD)
  have HM:=aA (fun hF=>(oGb (ls:=ls) hF hf))
  have HT:=aA hT
  have HD:=aA hD
  have HS:=aA h
  obtain ⟨a,c,rfl,hc1,hc2,_⟩:=h.it
  have hlm:(ls.length:Int)≤9223372036854775807:=by omega
  generalize LT ls=F at *
  clear h hT hD hf hc1 hc2
  cases F
  · clear HIO HM
    go_enter Tryz.func4,Tryz.ntmps4
    go_wp2_with (first
      | (go_at_call 12;refine HFW.out.mono ?_;rintro e w1 ⟨rfl,hw1⟩;have hw1:=hw1.symm;subst hw1)
      | (go_at_call 7;(with_reducible refine (HAL.out _ (Below.refl _ _)).mono ?_);rintro e w2 ⟨rfl,hb⟩;have H2:=aA hb;clear hb))
    go_ret
    exact ⟨rfl,H2.out⟩
  have HIO2:=aA (HIO.out rfl)
  have HM2:=aA (HM.out rfl)
  clear HIO HM
  go_enter Tryz.func4,Tryz.ntmps4
  go_wp2_with (first
    | (go_at_call 12;refine HFW.out.mono ?_;rintro e w1 ⟨rfl,hw1⟩;have hw1:=hw1.symm;subst hw1)
    | (go_at_call 13;(with_reducible refine HIO2.out.mono ?_);rintro e w2 ⟨⟨v2,rfl,ho⟩,hb⟩;obtain ⟨sa,sc,rfl⟩:=ho.form;rw [List.length_map] at ho ⊢;have HO2:=aA (ho.slR (q:=fun _=>True) (fun _ h=>h.elim) (fun _ _=>trivial));have H2:=aA hb;clear hb ho))
  go_loopw [21] (fun i wr=>∃k:Nat,k≤ls.length∧i=.int .i64 k∧RowKit.Below w2.heap.size w2 wr) (fun i _=>ls.length - (intOf i).toNat)
  case atStart=>exact ⟨0,Nat.zero_le _,rfl,Below.refl _ _⟩
  case round=>
    obtain ⟨k,hk,rfl,hb⟩:=hrel
    have HB2:=aA hb
    have HB:=aA (H2.out.trans (hb.mono H2.out.size))
    clear hb
    by_cases hlt:k < ls.length
    · obtain ⟨a2,c2,e2,_,_,hg⟩:=(HS.out.below HB.out).it
      injection e2 with e2 e3 e4
      clear e3
      subst e2 e4
      obtain ⟨b1,o1,ra,rc,va,vc,rfl,_,x0,x1,x2,x3,x4,s1,a1⟩:=hg k ls[k] (List.getElem?_eq_getElem hlt)
      obtain ⟨a5,c5,e5,_,_,hg5⟩:=(HO2.out.below HB2.out).str
      injection e5 with e5 e6 e7
      clear e6
      subst e5 e7
      obtain ⟨sb,so,rfl,_,d0⟩:=hg5 k (oGq ls[k]) (by rw [List.getElem?_map,List.getElem?_eq_getElem hlt];rfl)
      have hmx:=HM2.out.1 ls[k] (List.getElem_mem hlt)
      have HSB:=aA ((s1.mono (q:=fun _=>True) (fun _ _=>trivial)).alloc (.cells (kY ls[k] ra rc va vc) 40))
      have HAB:=aA ((a1.mono (q:=fun _=>True) (fun _ _=>trivial)).alloc (.cells (kY ls[k] ra rc va vc) 40))
      have HFR:=aA ((Fr.start wr).new 40 (kY ls[k] ra rc va vc))
      have d0:(wr.alloc (.cells (kY ls[k] ra rc va vc) 40)).cell? ⟨sb,so+k,none⟩=some (.string (oGq ls[k])):=by rw [World.cell?_alloc_lt _ _ _ (World.block_lt_of_cell? _ _ d0)];exact d0
      obtain ⟨W8,hW8⟩:∃W:World,W=wr.alloc (.cells (kY ls[k] ra rc va vc) 40):=⟨_,rfl⟩
      rw [←hW8] at HSB HAB HFR d0
      have HTB:Hid (RowKit.Below w.heap.size w W8):=aA (HB.out.trans (HFR.out.below.mono HB.out.size))
      have HUB:Hid (RowKit.Below w2.heap.size w2 W8):=aA (HB2.out.trans (HFR.out.below.mono HB2.out.size))
      have HIT:=aA (fun W (hb:RowKit.Below W8.heap.size W8 W)=>oDw ls[k] hmx (fun _=>True) _ W ⟨ra,rc,va,vc,rfl,HSB.out.below hb,HAB.out.below hb⟩ ((HT.out.below HTB.out).below hb) ((HD.out.below HTB.out).below hb))
      have HIR:=aA (fun W (hb:RowKit.Below W8.heap.size W8 W)=>oFj ls[k] hmx (fun _=>True) _ W ⟨ra,rc,va,vc,rfl,HSB.out.below hb,HAB.out.below hb⟩)
      have HRT:=aA (fun W (hb:RowKit.Below W8.heap.size W8 W)=>oFd z ls[k] hmx (fun _=>True) _ W ⟨ra,rc,va,vc,rfl,HSB.out.below hb,HAB.out.below hb⟩ ((HT.out.below HTB.out).below hb) ((HD.out.below HTB.out).below hb))
      have HRR:=aA (fun W (hb:RowKit.Below W8.heap.size W8 W)=>oGj z ls[k] hmx (fun _=>True) _ W ⟨ra,rc,va,vc,rfl,HSB.out.below hb,HAB.out.below hb⟩)
      have HQ:=aA (show Fr W8 [(wr.heap.size,40,kY ls[k] ra rc va vc)] W8 from ⟨Below.refl _ _,HFR.out.at'⟩)
      rw [show (⟨(oCk ls[k]).toArray⟩:ByteArray)=oGq ls[k] from rfl] at HIT HIR
      generalize (⟨(oDg z ls[k]).toArray⟩:ByteArray)=TR at *
      generalize oGq ls[k]=TI at *
      unfold kY at *
      clear hg hg5 s1 a1 hmx HSB HAB HFR
      generalize ls[k]=x at *
      obtain ⟨k0,R,op,args,al⟩:=x
      dsimp only at *
      obtain ⟨O,hO⟩:∃S:ByteArray,S=⟨op.toArray⟩:=⟨_,rfl⟩
      rw [←hO] at HIT HIR HRT HRR HQ x2 hW8
      clear hO
      go_upto_region 9 with fail
      rw [←hW8]
      have HQ1:=aA HQ.out.drew
      have d0:=(oBc W8).cell (p:=⟨sb,so+k,none⟩) (World.block_lt_of_cell? _ _ d0) |>.trans d0
      clear HQ hW8 x0 x1 x2 x3 x4
      have HQ:=HQ1
      clear HQ1
      generalize wr.heap.size=g at *
      obtain ⟨⟨c0,c1,c2,c3,c4⟩,_⟩:=(HQ.out.blk 0 rfl).five
      go_region_held3 (fun w'=>w'.cell? ⟨sb,so+k,none⟩=some (.string TI)∧w'.cell? ⟨g,0,none⟩=some (.int .i64 k0)∧w'.cell? ⟨g,1,none⟩=some (.slice ra R.length rc)∧w'.cell? ⟨g,2,none⟩=some (.string O)∧w'.cell? ⟨g,3,none⟩=some (.slice va args.length vc)∧w'.cell? ⟨g,4,none⟩=some (.bool al)) (go_keep)
        (first
          | (go_at_call 15;(with_reducible refine (HIT.out _ HQ.out.below).mono ?_);rintro e w1 ⟨rfl,hb⟩;have Hn:=aA (HQ.out.next hb);have dn:=(hb.cell (p:=⟨sb,so+k,none⟩) (World.block_lt_of_cell? _ _ d0)).trans d0;clear HQ hb d0 c0 c1 c2 c3 c4;have HQ:=Hn;have d0:=dn;clear Hn dn;obtain ⟨⟨c0,c1,c2,c3,c4⟩,_⟩:=(HQ.out.blk 0 rfl).five)
          | (go_at_call 14;(with_reducible refine (HIR.out _ HQ.out.below).mono ?_);rintro e w1 ⟨rfl,hb⟩;have Hn:=aA (HQ.out.next hb);have dn:=(hb.cell (p:=⟨sb,so+k,none⟩) (World.block_lt_of_cell? _ _ d0)).trans d0;clear HQ hb d0 c0 c1 c2 c3 c4;have HQ:=Hn;have d0:=dn;clear Hn dn;obtain ⟨⟨c0,c1,c2,c3,c4⟩,_⟩:=(HQ.out.blk 0 rfl).five)
          | (go_at_call 16;(with_reducible refine (HRT.out _ HQ.out.below).mono ?_);rintro e w1 ⟨rfl,hb⟩;have Hn:=aA (HQ.out.next hb);have dn:=(hb.cell (p:=⟨sb,so+k,none⟩) (World.block_lt_of_cell? _ _ d0)).trans d0;clear HQ hb d0 c0 c1 c2 c3 c4;have HQ:=Hn;have d0:=dn;clear Hn dn;obtain ⟨⟨c0,c1,c2,c3,c4⟩,_⟩:=(HQ.out.blk 0 rfl).five)
          | (go_at_call 17;(with_reducible refine (HRR.out _ HQ.out.below).mono ?_);rintro e w1 ⟨rfl,hb⟩;have Hn:=aA (HQ.out.next hb);have dn:=(hb.cell (p:=⟨sb,so+k,none⟩) (World.block_lt_of_cell? _ _ d0)).trans d0;clear HQ hb d0 c0 c1 c2 c3 c4;have HQ:=Hn;have d0:=dn;clear Hn dn;obtain ⟨⟨c0,c1,c2,c3,c4⟩,_⟩:=(HQ.out.blk 0 rfl).five))
      have HB9:=aA (HUB.out.trans (HQ.out.below.mono HUB.out.size))
      go_wp2
      go_roundw
      case rel=>exact ⟨k+1,by omega,by go_num,HB9.out⟩
      case measure=>simp [intOf];omega
    · go_wp2_with (go_at_call 7;(with_reducible refine (HAL.out _ HB.out).mono ?_);rintro e w3 ⟨rfl,hb⟩;have H3:=aA (HB.out.trans (hb.mono HB.out.size));clear hb)
      go_ret
      exact ⟨rfl,H3.out⟩
end Go.Proofs.YtcgheipmnphbjaaGreatDoor
