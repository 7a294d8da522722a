/-
  operand.List and breadboardref06.List; breadboardref06.Text. Conditions: the library's table as its initialiser lays it; few operands. show.Data and breadboardref15.Data. Conditions: the library's table as its initialiser lays it; few bytes. breadboardref06.List, show.Instr and breadboardref15.Instr. Conditions: the library's tables as their initialisers lay them; a short instruction. breadboardref15.Instr and Data. Conditions: a short instruction; few bytes. show.Item and breadboardref15.Item. Conditions: the library's tables as their initialisers lay them (the program alone); a short item. show.raw and show.Row. Conditions: the library's tables as their initialisers lay them; a short item.
-/
import Derived.Test.YtpigbggoiipmhaaGreatDoorOA
namespace Go.Proofs.YtpigbggoiipmhaaGreatDoor
set_option maxHeartbeats 2000000
set_option maxRecDepth 100000
open Go.RowKit Go.Shelf Go.Sort
theorem oBc (w:World):RowKit.Below w.heap.size w w.drew:=⟨rfl,rfl,rfl,Nat.le_refl _,fun _ _=>rfl⟩
def opB (o:Opd):ByteArray:=⟨(opT o).toArray⟩
theorem oFv (l:List Opd):WV (l.map opB) ⟨#[44]⟩=oBp l:=by
  unfold WV oBp
  rw [List.map_map]
  rfl
theorem oBn (xs:List (List UInt8)) (y:List UInt8) (s:List UInt8):Lib.join (xs++[y]) s=if xs=[] then y else Lib.join xs s++s++y:=by
  cases xs with
  | nil=>rw [if_pos rfl];exact Lib.join_one _ _
  | cons x r=>
    rw [if_neg (List.cons_ne_nil _ _),List.cons_append,Lib.join_cons,Lib.join_cons]
    unfold Lib.joinTail
    rw [List.map_append,List.flatten_append,List.append_assoc,List.append_assoc]
    simp
theorem oBg {m:Nat} (s:List UInt8):∀l:List (List UInt8),(∀x∈l,x.length≤m)→(Lib.join l s).length≤(m+s.length) * l.length
  | [],_=>Nat.zero_le _
  | x::r,h=>by
    rw [Lib.join_cons,List.length_append,List.length_cons]
    have hx:=h x List.mem_cons_self
    have hr:∀r:List (List UInt8),(∀x∈r,x.length≤m)→(Lib.joinTail s r).length≤(m+s.length) * r.length:=by
      intro r
      induction r with
      | nil=>intro _;exact Nat.zero_le _
      | cons y t ih=>
        intro h
        have:=ih (fun z hz=>h z (List.mem_cons_of_mem _ hz))
        have hy:=h y List.mem_cons_self
        show ((s++y)++Lib.joinTail s t).length≤_
        rw [List.length_append,List.length_append,List.length_cons,Nat.mul_add,Nat.mul_one]
        omega
    have:=hr r (fun z hz=>h z (List.mem_cons_of_mem _ hz))
    rw [Nat.mul_add,Nat.mul_one]
    omega
theorem oAm (l:List Opd):(oBp l).length≤101 * l.length:=by
  have:=oBg (m:=100) [44] (l.map opT) (fun x hx=>by obtain ⟨o,_,rfl⟩:=List.mem_map.1 hx;exact oDj o)
  rw [List.length_map] at this
  exact this
theorem oCu (l:List Opd) (p:aB) (v:Value) (w:World) (h:SlR aM w p v l) (hT:Deb w) (hl:l.length≤1000):
    Calls Tryz.prog 56 #[v] w fun e w'=>e=.returned (.string ⟨(oBp l).toArray⟩)∧RowKit.Below w.heap.size w w':=by
  have HX:=aA (fun o W (hb:RowKit.Below w.heap.size w W)=>oCl o W (hT.below hb))
  have HS:=aA (fun W (hb:RowKit.Below w.heap.size w W)=>h.below hb)
  have HN:=aA hl
  obtain ⟨a,c,rfl,hl1,hl2,_⟩:=h.opd
  have hlm:(l.length:Int)≤1000:=by omega
  clear h hT hl hl1 hl2
  go_enter Tryz.func56,Tryz.ntmps56
  go_wp2
  go_loopw [3,8] (fun x i wr=>∃k:Nat,k≤l.length∧i=.int .i64 k∧Own eN wr w.heap.size 9 NoB x ((l.take k).map opB)∧RowKit.Below w.heap.size w wr) (fun _ i _=>l.length - (intOf i).toNat)
  case atStart=>exact ⟨0,Nat.zero_le _,rfl,Own.nil _ _ _ _ _,Below.refl _ _⟩
  case round=>
    obtain ⟨k,hk,rfl,ho,hb⟩:=hrel
    have HB:=aA hb
    by_cases hlt:k < l.length
    · have HT:Hid (l.take (k+1)=l.take k++[l[k]]):=List.take_succ_eq_append_getElem hlt
      obtain ⟨a2,c2,e2,_,_,hg⟩:=(HS.out _ HB.out).opd
      injection e2 with e2 e3 e4
      clear e3
      subst e2 e4
      obtain ⟨b1,o1,rfl,_,d0,d1,d2⟩:=hg k l[k] (List.getElem?_eq_getElem hlt)
      have hlm2:((l.take k).map opB).length=k:=by simp;omega
      have HXS:Hid ((l.take (k+1)).map opB=(l.take k).map opB++[opB l[k]]):=aA (by rw [HT.out,List.map_append];rfl)
      generalize (l.take k).map opB=xs at *
      have HLM:=aA hlm2
      have HO:=aA ho
      obtain ⟨oa,oc,rfl⟩:=ho.form
      have HC1:Hid ((xs.length+1) * 16≤140737488355328):=by have:=HLM.out;have:=HN.out;show _≤_;omega
      have HC2:Hid (xs.length+1≤9223372036854775807):=by have:=HLM.out;have:=HN.out;show _≤_;omega
      have HXK:=aA (HX.out l[k])
      have HY:Hid (⟨(opT l[k]).toArray⟩=opB l[k]):=aA rfl
      clear hlm2 ho hb hg HT
      generalize opB l[k]=y at *
      rw [HY.out] at HXK
      clear HY
      generalize l[k]=o at *
      have HB1:=aA (HB.out.alloc HB.out.size (.cells #[.int .i64 o.kind,.int .i64 o.reg,.int .i64 o.n] 52))
      go_wp2_with (first
        | (go_at_call 105;refine (HXK.out _ HB1.out).mono ?_;rintro e w2 ⟨rfl,hb⟩;have HB2:=aA (HB1.out.trans (hb.mono HB1.out.size));have HO2:=aA ((HO.out.stay ((Below.refl _ _).alloc (Nat.le_refl _) _)).stay hb);clear hb)
        | (at_builtin;refine cK rfl (.tmp 12) (.tmp 15) 24 rfl w.heap.size 9 16 elStr _ xs y _ rfl rfl HO2.out rfl HC1.out HC2.out HB2.out.size ?_;intro a' c' w' hp;have HP:=aA hp;clear hp))
      go_roundw
      case rel=>exact ⟨k+1,by omega,by go_num,by rw [HXS.out];exact HP.out.1,HB2.out.grown HP.out.2 HB2.out.size (fun j hj=>(HO2.out.lt j hj).1)⟩
      case measure=>simp [intOf];omega
    · obtain rfl:k=l.length:=by omega
      rw [List.take_length] at ho
      have HO:=aA (ho.slR (q:=fun _=>True) (fun _ h=>h.elim) (fun _ _=>trivial))
      have HJ:=aA (join_any _ _ _ ⟨#[44]⟩ _ HO.out (by rw [List.length_map];have:=HN.out;omega) (by rw [oFv];have:=oAm l;have:=HN.out;omega))
      rw [oFv] at HJ
      obtain ⟨oa,oc,rfl⟩:=ho.form
      simp only [List.length_map] at HJ
      clear ho hb
      go_wp2_with (go_at_call 106;refine HJ.out.mono ?_;rintro e w2 ⟨⟨j,rfl,hj⟩,hb⟩;have HB2:=aA (HB.out.trans (hb.mono HB.out.size));have HJ2:=aA hj;clear hb hj)
      go_ret
      exact ⟨oAs (oAd HJ2.out),HB2.out⟩
theorem oEk (r n:Int) (h:aC ⟨5,r,n⟩=true) (hr:r=5∨r=6) (h0:-128≤n) (h1:n≤127) (w:World):Calls Tryz.prog 133 #[.agg #[.int .i64 5,.int .i64 r,.int .i64 n]] w fun e w'=>e=.returned (.string ⟨(opT ⟨5,r,n⟩).toArray⟩)∧RowKit.Below w.heap.size w w':=by
  rw [oFn h hr]
  have HF0:=aA ((Fr.start w).new 52 #[.int .i64 5,.int .i64 r,.int .i64 n])
  have hva:=fun wz=>rI ⟨5,r,n⟩ wz
  rw [h] at hva
  have HVA:=aA hva
  have HSG:=aA (fun W=>oAy n (by omega) (by omega) W)
  have HNM:=aA (fun W=>sY 5 r W)
  have hs2:(aQ 5 r).size≤10:=by rcases hr with rfl | rfl<;>decide
  have hs1:=oAn (oAj n)
  have HE:Hid ((⟨#[40]⟩++aQ 5 r++⟨(oAg n).toArray⟩++⟨#[41]⟩:ByteArray)=⟨(40::((aQ 5 r).data.toList++(oAg n++[41]))).toArray⟩):=aA (oAd (by simp))
  generalize (40::((aQ 5 r).data.toList++(oAg n++[41])))=R at *
  generalize (⟨(oAg n).toArray⟩:ByteArray)=S at *
  generalize aQ 5 r=s at *
  have hz1:¬(9223372036854775807 < 1+s.size):=by omega
  have hz2:¬(9223372036854775807 < 1+s.size+S.size):=by omega
  have hz3:¬(9223372036854775807 < 1+s.size+S.size+1):=by omega
  obtain ⟨W0,hW0⟩:∃W:World,W=w.alloc (.cells #[.int .i64 5,.int .i64 r,.int .i64 n] 52):=⟨_,rfl⟩
  rw [←hW0] at HF0
  clear h hva hr h0 h1
  go_enter Tryz.func133,Tryz.ntmps133
  go_upto_region 1 with fail
  rw [←hW0]
  clear hW0
  obtain ⟨c0,c1,c2,y0,y1,y2⟩:=(HF0.out.blk 0 rfl).three
  go_upto_region 5 with (go_at_call 179;refine (HVA.out _).mono ?_;rintro e w1 ⟨rfl,hb⟩;have HF1:=aA (HF0.out.next hb);clear hb c0 c1 c2 y0 y1 y2;obtain ⟨c0,c1,c2,y0,y1,y2⟩:=(HF1.out.blk 0 rfl).three)
  have HBD:=aA HF1.out.drew.below
  go_region_held3 (fun w'=>w'.cell? ⟨w.heap.size,1,none⟩=some (.int .i64 r)∧w'.cell? ⟨w.heap.size,2,none⟩=some (.int .i64 n)) (go_keep)
    (first | (go_at_call 180;(with_reducible refine (HNM.out _).mono ?_);rintro e w2 ⟨rfl,hb⟩;have HB2:=aA (HBD.out.trans (hb.mono HBD.out.size));have c1:=(hb.cell (p:=⟨w.heap.size,1,none⟩) (World.block_lt_of_cell? _ _ c1)).trans c1;have c2:=(hb.cell (p:=⟨w.heap.size,2,none⟩) (World.block_lt_of_cell? _ _ c2)).trans c2;clear hb)
           | (go_at_call 181;(with_reducible refine (HSG.out _).mono ?_);rintro e w3 ⟨rfl,hw3⟩;subst hw3))
  all_goals
    go_wp2
    go_ret
    exact ⟨oAs HE.out,HB2.out⟩
theorem oCp (o:Opd) (w:World):Calls Tryz.prog 133 #[.agg #[.int .i64 o.kind,.int .i64 o.reg,.int .i64 o.n]] w fun e w'=>e=.returned (.string ⟨(opT o).toArray⟩)∧RowKit.Below w.heap.size w w':=by
  cases hn:mA o
  · cases h:aC o
    · rw [oDn h]
      have:=text06_reg o hn w
      rw [show bY o=⟨#[]⟩ by unfold bY;rw [if_neg (by rw [h];decide)]] at this
      exact this
    · rw [oDh h hn]
      have:=text06_reg o hn w
      rw [show bY o=aQ o.kind o.reg by unfold bY;rw [if_pos h]] at this
      exact this
  · have HB0:Hid (RowKit.Below w.heap.size w (w.alloc (.cells #[.int .i64 o.kind,.int .i64 o.reg,.int .i64 o.n] 52))):=(Below.refl _ _).alloc (Nat.le_refl _) _
    have HF0:=aA ((Fr.start w).new 52 #[.int .i64 o.kind,.int .i64 o.reg,.int .i64 o.n])
    have hva:=fun wz=>rI o wz
    cases h:aC o
    · rw [oDn h]
      rw [h] at hva
      have HVA:=aA hva
      clear hva hn h
      go_enter Tryz.func133,Tryz.ntmps133
      go_wp2_with (go_at_call 179;refine (HVA.out _).mono ?_;rintro e w1 ⟨rfl,hb⟩;have HB:=aA (HB0.out.trans (hb.mono HB0.out.size));clear hb)
      go_ret
      exact ⟨rfl,HB.out⟩
    · rw [h] at hva
      have HVA:=aA hva
      have HC:=oBo h hn
      obtain ⟨k,r,n⟩:=o
      dsimp only at *
      clear hva hn
      rcases HC with ⟨rfl,hr,h0,h1⟩ | ⟨rfl,rfl,h0,h1⟩ | ⟨rfl,rfl,h0,h1⟩ | ⟨rfl,rfl,h0,h1⟩
      · exact oEk r n h hr h0 h1 w
      · rw [oFw h]
        clear h
        by_cases hn0:n < 0
        · rw [if_pos hn0]
          have HSG:=aA (fun W=>oAy n (by omega) (by omega) W)
          go_enter Tryz.func133,Tryz.ntmps133
          go_wp2_with (first
            | (go_at_call 179;refine (HVA.out _).mono ?_;rintro e w1 ⟨rfl,hb⟩;have HB:=aA (HB0.out.trans (hb.mono HB0.out.size));obtain ⟨c0,c1,c2,y0,y1,y2⟩:=((HF0.out.next hb).blk 0 rfl).three;clear hb)
            | (go_at_call 181;refine (HSG.out _).mono ?_;rintro e w3 ⟨rfl,rfl⟩))
          go_ret
          exact ⟨rfl,HB.out⟩
        · rw [if_neg hn0]
          have HTX:=aA (fun W=>oAh n W)
          go_enter Tryz.func133,Tryz.ntmps133
          go_wp2_with (first
            | (go_at_call 179;refine (HVA.out _).mono ?_;rintro e w1 ⟨rfl,hb⟩;have HB:=aA (HB0.out.trans (hb.mono HB0.out.size));obtain ⟨c0,c1,c2,y0,y1,y2⟩:=((HF0.out.next hb).blk 0 rfl).three;clear hb)
            | (go_at_call 81;refine (HTX.out _).mono ?_;rintro e w3 ⟨rfl,rfl⟩))
          go_ret
          exact ⟨rfl,HB.out⟩
      · rw [oFm h]
        clear h
        have HTX:=aA (fun W=>oAh n W)
        have hs1:=oAn (oAa n)
        have HE:Hid ((⟨#[40]⟩++⟨(oAc n).toArray⟩++⟨#[41]⟩:ByteArray)=⟨(40::(oAc n++[41])).toArray⟩):=aA (oAd (by simp))
        generalize (40::(oAc n++[41]))=R at *
        generalize (⟨(oAc n).toArray⟩:ByteArray)=S at *
        go_enter Tryz.func133,Tryz.ntmps133
        go_wp2_with (first
          | (go_at_call 179;refine (HVA.out _).mono ?_;rintro e w1 ⟨rfl,hb⟩;have HB:=aA (HB0.out.trans (hb.mono HB0.out.size));obtain ⟨c0,c1,c2,y0,y1,y2⟩:=((HF0.out.next hb).blk 0 rfl).three;clear hb)
          | (go_at_call 81;refine (HTX.out _).mono ?_;rintro e w3 ⟨rfl,rfl⟩))
        go_ret
        exact ⟨oAs HE.out,HB.out⟩
      · rw [oEp h]
        clear h
        have HSG:=aA (fun W=>oAy (n+2) (by omega) (by omega) W)
        have hs1:=oAn (oAj (n+2))
        have HE:Hid ((⟨#[36]⟩++⟨(oAg (n+2)).toArray⟩:ByteArray)=⟨(36::oAg (n+2)).toArray⟩):=aA (oAd (by simp))
        generalize (36::oAg (n+2))=R at *
        generalize (⟨(oAg (n+2)).toArray⟩:ByteArray)=S at *
        go_enter Tryz.func133,Tryz.ntmps133
        go_wp2_with (first
          | (go_at_call 179;refine (HVA.out _).mono ?_;rintro e w1 ⟨rfl,hb⟩;have HB:=aA (HB0.out.trans (hb.mono HB0.out.size));obtain ⟨c0,c1,c2,y0,y1,y2⟩:=((HF0.out.next hb).blk 0 rfl).three;clear hb)
          | (go_at_call 181;refine (HSG.out _).mono ?_;rintro e w3 ⟨rfl,rfl⟩))
        go_ret
        exact ⟨oAs HE.out,HB.out⟩
end Go.Proofs.YtpigbggoiipmhaaGreatDoor
namespace Go.Proofs.YtpigbggoiipmhaaGreatDoor
set_option maxHeartbeats 2000000
set_option maxRecDepth 100000
open Go.RowKit Go.Shelf Go.Sort
def nuB (c:UInt8):ByteArray:=⟨(oAc (c.toNat:Int)).toArray⟩
theorem oFl (l:List UInt8):WV (l.map nuB) ⟨#[44]⟩=Lib.join (l.map fun c=>oAc (c.toNat:Int)) [44]:=by
  unfold WV
  rw [List.map_map]
  rfl
theorem oBj (l:List UInt8):(Lib.join (l.map fun c=>oAc (c.toNat:Int)) [44]).length≤7 * l.length:=by
  have:=oBg (m:=6) [44] (l.map fun c=>oAc (c.toNat:Int)) (fun x hx=>by obtain ⟨o,_,rfl⟩:=List.mem_map.1 hx;exact oAa _)
  rw [List.length_map] at this
  exact this
theorem oDy (b B0:Nat) (v:Value) (ms:List ByteArray) (y:ByteArray) (W:World) (hk:Blk W b 24 #[v]) (ho:Own eN W (b+1) 9 NoB v ms) (h0:B0≤b) (hl:ms.length≤1000):
    Calls Tryz.prog 115 #[.slice (some ⟨W.heap.size,0,none⟩) 1 1,.pointer (some ⟨b,0,none⟩)] (W.alloc (.cells #[.string y] 9)) fun e w'=>e=.returned (.tuple #[])∧(∃v',Blk w' b 24 #[v']∧Own eN w' (b+1) 9 NoB v' (ms++[y]))∧RowKit.Below B0 W w':=by
  obtain ⟨oa,oc,rfl⟩:=ho.form
  have HK:=aA hk
  have HO:=aA ho
  have HL:=aA hl
  have hbm:b < W.heap.size:=hk.lt
  have HSZ:=aA hbm
  obtain ⟨p0,p1⟩:=(HK.out.alloc (.cells #[.string y] 9)).one
  clear hk ho
  go_enter Tryz.func115,Tryz.ntmps115
  go_wp2_with (at_builtin;refine dJ _ rfl (.tmp 3) (.tmp 4) 24 rfl (b+1) 9 16 elStr NoB (fun j=>NoB j∨j=W.heap.size) _ _ ms [y] rfl rfl (HO.out.stay ((Below.refl _ _).alloc (Nat.le_refl _) _)) (GR (R:=eN) (p:=NoB) rfl _) (fun _ h=>False.elim h) (fun j hj e=>by rcases hj with hj | rfl;exact hj.elim;exact absurd (HO.out.lt _ e.symm).2 (Nat.lt_irrefl _)) (by have:=HL.out;simp;omega) (by have:=HL.out;simp;omega) (by have:=HSZ.out;simp;omega) ?_;intro v' w' hap;have HAP:=aA hap;obtain ⟨oa',oc',rfl⟩:=hap.1.form;have hkb:=HK.out;have hkn:Blk w' b 24 #[.slice oa ms.length oc]:=(hkb.alloc _).grown hap.2.1 (fun e=>by have:=(HO.out.lt b e.symm).1;omega);obtain ⟨q0,q1⟩:=hkn.one;clear hap)
  go_end0
  obtain ⟨ho2,hg,_⟩:=HAP.out
  have ho3:Own eN w' (b+1) 9 NoB (.slice oa' (ms++[y]).length oc') (ms++[y]):=ho2.flat NoB
  have hlt3:=ho3.lt
  rw [List.length_append] at ho3 hlt3
  refine ⟨rfl,⟨_,hkn.set 0 _,ho3.keep (aS.setCell (fun k hk=>?_) _)⟩,?_⟩
  · rcases hk with hk | hk
    · exact hk.elim
    · have:=(hlt3 k hk).1
      show k≠b
      omega
  · exact ((((Below.refl B0 W).alloc (Nat.le_trans h0 (Nat.le_of_lt hbm)) _).grown hg (by simp;omega) (fun j hj=>by have:=(HO.out.lt j hj).1;omega))).setCell (p:=⟨b,0,none⟩) h0 _
theorem oCe (l:List UInt8) (p:aB) (v:Value) (w:World) (h:SlR aI w p v l) (hT:Deb w) (hl:l.length≤900):
    Calls Tryz.prog 68 #[v] w fun e w'=>e=.returned (.string ⟨(oAq l).toArray⟩)∧RowKit.Below w.heap.size w w':=by
  by_cases h0:l=[]
  · subst h0
    obtain ⟨a,c,rfl,_,_,_⟩:=h.byte
    rw [show oAq []=[] from if_pos rfl]
    clear h hT hl
    go_enter Tryz.func68,Tryz.ntmps68
    go_wp2
    go_ret
    exact ⟨rfl,Below.refl _ _⟩
  have HX:=aA (fun n W (hb:RowKit.Below w.heap.size w W)=>oAp n W (hT.below hb))
  have HS:=aA (fun W (hb:RowKit.Below w.heap.size w W)=>h.below hb)
  have HN:=aA hl
  have HR:Hid (oAq l=[68,69,70,66,32]++Lib.join (l.map fun c=>oAc (c.toNat:Int)) [44]):=aA (if_neg h0)
  obtain ⟨a,c,rfl,hl1,hl2,_⟩:=h.byte
  have hlm:(l.length:Int)≤1000:=by omega
  have hlp:¬(l.length:Int)=0:=fun e=>h0 (List.length_eq_zero_iff.1 (by omega))
  have hlq:((l.length:Int)==0)=false:=by rw [beq_eq_false_iff_ne];exact hlp
  have hmf:∀(fn:Fn) (first cap:Array Value) (w:World),(Instr.makeFunc fn first cap).run Tryz.prog w=.ok (.func fn first cap) w:=fun _ _ _ _=>rfl
  have HFB:=aA (Blk.new w 24 #[.slice none 0 0])
  have HB0:Hid (RowKit.Below w.heap.size w (w.alloc (.cells #[.slice none 0 0] 24))):=(Below.refl _ _).alloc (Nat.le_refl _) _
  clear h hT hl h0 hl1 hl2
  go_enter Tryz.func68,Tryz.ntmps68
  go_wp2
  try rw [hlq]
  go_loopw [13] (fun i wr=>∃(k:Nat) (x:Value),k≤l.length∧i=.int .i64 k∧Blk wr w.heap.size 24 #[x]∧Own eN wr (w.heap.size+1) 9 NoB x ((l.take k).map nuB)∧RowKit.Below w.heap.size w wr) (fun i _=>l.length - (intOf i).toNat)
  case atStart=>exact ⟨0,_,Nat.zero_le _,rfl,HFB.out,Own.nil _ _ _ _ _,HB0.out⟩
  case round=>
    obtain ⟨k,x,hk,rfl,hkb,ho,hb⟩:=hrel
    have HB:=aA hb
    have HK:=aA hkb
    by_cases hlt:k < l.length
    · have HT:Hid (l.take (k+1)=l.take k++[l[k]]):=List.take_succ_eq_append_getElem hlt
      obtain ⟨a2,c2,e2,_,_,hg⟩:=(HS.out _ HB.out).byte
      injection e2 with e2 e3 e4
      clear e3
      subst e2 e4
      obtain ⟨b1,o1,rfl,_,d0⟩:=hg k l[k] (List.getElem?_eq_getElem hlt)
      have HLM:Hid (((l.take k).map nuB).length≤1000):=by have:=HN.out;show _≤_;simp;omega
      have HXS:Hid ((l.take (k+1)).map nuB=(l.take k).map nuB++[nuB l[k]]):=aA (by rw [HT.out,List.map_append];rfl)
      generalize (l.take k).map nuB=xs at *
      have HO:=aA ho
      have HXK:=aA (HX.out (l[k].toNat:Int))
      have HY:Hid (⟨(oAc (l[k].toNat:Int)).toArray⟩=nuB l[k]):=aA rfl
      have hu9:IntKind.i64.wrap (l[k].toNat:Int)=(l[k].toNat:Int):=by have:=l[k].toNat_lt;rw [IntKind.wrap_i64];omega
      clear ho hb hg HT hkb
      generalize nuB l[k]=y at *
      rw [HY.out] at HXK
      clear HY
      generalize l[k].toNat=u at *
      go_wp2_with (first
        | (go_at_call 116;refine (HXK.out _ HB.out).mono ?_;rintro e w2 ⟨rfl,hb⟩;have HB2:=aA (HB.out.trans (hb.mono HB.out.size));have HO2:=aA (HO.out.stay hb);have HK2:=aA (HK.out.below hb HK.out.lt);clear hb)
        | (go_at_call 115;refine (oDy w.heap.size w.heap.size x xs y w2 HK2.out HO2.out (Nat.le_refl _) HLM.out).mono ?_;rintro e w3 ⟨rfl,⟨x3,hk3,ho3⟩,hb⟩;have HB3:=aA (HB2.out.trans (hb.mono (Nat.le_refl _)));have HK3:=aA hk3;have HO3:=aA ho3;clear hb hk3 ho3))
      go_roundw
      case rel=>
        exact ⟨k+1,x3,by omega,by go_num,HK3.out,by rw [HXS.out];exact HO3.out,HB3.out⟩
      case measure=>simp [intOf];omega
    · obtain rfl:k=l.length:=by omega
      rw [List.take_length] at ho
      have HO:=aA (ho.slR (q:=fun _=>True) (fun _ h=>h.elim) (fun _ _=>trivial))
      have HLE:=aA (oBj l)
      have HJ:=aA (join_any _ _ _ ⟨#[44]⟩ _ HO.out (by rw [List.length_map];have:=HN.out;omega) (by rw [oFl];have:=HLE.out;have:=HN.out;omega))
      rw [oFl] at HJ
      obtain ⟨oa,oc,rfl⟩:=ho.form
      obtain ⟨p0,p1⟩:=HK.out.one
      simp only [List.length_map] at HJ p0
      clear ho hb hkb
      go_wp2_with (go_at_call 106;refine HJ.out.mono ?_;rintro e w2 ⟨⟨j,rfl,hj⟩,hb⟩;have HB2:=aA (HB.out.trans (hb.mono HB.out.size));have HJ2:=aA hj;have hjs:j.size≤100000:=(by have h1:=congrArg List.length hj;have h2:=HLE.out;have h3:=HN.out;simp at h1;omega);clear hb hj)
      go_ret
      exact ⟨oAs (by rw [HR.out];exact oAd (by rw [oAb,HJ2.out])),HB2.out⟩
end Go.Proofs.YtpigbggoiipmhaaGreatDoor
namespace Go.Proofs.YtpigbggoiipmhaaGreatDoor
set_option maxHeartbeats 4000000
set_option maxRecDepth 100000
open Go.RowKit Go.Shelf Go.Sort
theorem oCm (l:List Opd) (p:aB) (v:Value) (w:World) (h:SlR aM w p v l) (hl:l.length≤1000):
    Calls Tryz.prog 80 #[v] w fun e w'=>e=.returned (.string ⟨(oBp l).toArray⟩)∧RowKit.Below w.heap.size w w':=by
  have HX:=aA (fun o W=>oCp o W)
  have HS:=aA (fun W (hb:RowKit.Below w.heap.size w W)=>h.below hb)
  have HN:=aA hl
  obtain ⟨a,c,rfl,hl1,hl2,_⟩:=h.opd
  have hlm:(l.length:Int)≤1000:=by omega
  clear h hl hl1 hl2
  go_enter Tryz.func80,Tryz.ntmps80
  go_wp2
  go_loopw [3,4] (fun x i wr=>∃(k:Nat) (s:ByteArray),k≤l.length∧x=.string s∧i=.int .i64 k∧s.data.toList=oBp (l.take k)∧RowKit.Below w.heap.size w wr) (fun _ i _=>l.length - (intOf i).toNat)
  case atStart=>exact ⟨0,⟨#[]⟩,Nat.zero_le _,rfl,rfl,rfl,Below.refl _ _⟩
  case round=>
    obtain ⟨k,s,hk,rfl,rfl,hs,hb⟩:=hrel
    have HB:=aA hb
    have HSS:=aA hs
    by_cases hlt:k < l.length
    · have hsz:s.size≤200000:=by
        have h1:=congrArg List.length hs
        have h2:=oAm (l.take k)
        rw [List.length_take] at h2
        have h3:=HN.out
        simp at h1
        omega
      have HT:Hid (l.take (k+1)=l.take k++[l[k]]):=List.take_succ_eq_append_getElem hlt
      obtain ⟨a2,c2,e2,_,_,hg⟩:=(HS.out _ HB.out).opd
      injection e2 with e2 e3 e4
      clear e3
      subst e2 e4
      obtain ⟨b1,o1,rfl,_,d0,d1,d2⟩:=hg k l[k] (List.getElem?_eq_getElem hlt)
      have HSN:Hid (oBp (l.take (k+1))=if k=0 then opT l[k] else oBp (l.take k)++[44]++opT l[k]):=aA (by
        unfold oBp
        rw [HT.out,List.map_append,List.map_cons,List.map_nil,oBn]
        by_cases h0:k=0
        · subst h0;rfl
        · rw [if_neg h0,if_neg (by intro e;have h9:=congrArg List.length e;rw [List.length_map,List.length_take,List.length_nil] at h9;omega)])
      have HXK:=aA (HX.out l[k])
      have hys:=oAn (oDj l[k])
      clear hs hb hg HT
      generalize hT0:opT l[k]=T at *
      clear hT0
      obtain ⟨Y,hY⟩:∃Y:ByteArray,Y=⟨T.toArray⟩:=⟨_,rfl⟩
      have HYD:Hid (Y.data.toList=T):=aA (by rw [hY])
      rw [←hY] at HXK hys
      clear hY
      generalize l[k]=o at *
      by_cases h0:k=0
      · subst h0
        rw [Nat.zero_mul,Nat.add_zero] at d0 d1 d2
        go_wp2_with (go_at_call 133;refine (HXK.out _).mono ?_;rintro e w2 ⟨rfl,hb⟩;have HB2:=aA (HB.out.trans (hb.mono HB.out.size));clear hb)
        go_roundw
        case rel=>exact ⟨1,_,by omega,rfl,rfl,by rw [HSN.out,if_pos (by trivial),oAb,HYD.out,HSS.out];rfl,HB2.out⟩
        case measure=>simp [intOf];omega
      · have hk0:(0:Int) < (k:Int):=by omega
        go_wp2_with (go_at_call 133;refine (HXK.out _).mono ?_;rintro e w2 ⟨rfl,hb⟩;have HB2:=aA (HB.out.trans (hb.mono HB.out.size));clear hb)
        go_roundw
        case rel=>exact ⟨k+1,_,by omega,rfl,by go_num,by rw [HSN.out,if_neg h0,oAb,oAb,HYD.out,HSS.out],HB2.out⟩
        case measure=>simp [intOf];omega
    · obtain rfl:k=l.length:=by omega
      rw [List.take_length] at HSS
      go_wp2
      go_ret
      exact ⟨oAs (oAd HSS.out),HB.out⟩
theorem oEs {w:World} {b:Nat} {v:Value} {q:aB} {x:Ins} {t:TypeId} (hB:Blk w b t #[.string x.op,v]) (h:SlR aM w q v x.args):SlR rP w (fun _=>True) (.slice (some ⟨b,0,none⟩) 1 1) [x]:=by
  refine ⟨_,1,rfl,Nat.le_refl _,by decide,fun i y hy=>?_⟩
  match i,hy with
  | 0,hy=>
    obtain rfl:=Option.some.inj hy
    refine ⟨b,0,[.string x.op,v],rfl,trivial,hB.lt,fun j u hu=>?_,v,rfl,h.mono fun _ _=>trivial⟩
    match j,hu with
    | 0,hu=>obtain rfl:=Option.some.inj hu;exact hB.cell 0
    | 1,hu=>obtain rfl:=Option.some.inj hu;exact hB.cell 1
  | i+1,hy=>cases hy
theorem oAe (x:Ins) (m:CV x) (p:aB) (v:Value) (w:World) (h:SlR aM w p v x.args) (hT:Spc w) (hD:Deb w):
    Calls Tryz.prog 22 #[.agg #[.string x.op,v]] w fun e w'=>e=.returned (.string ⟨(oBa x).toArray⟩)∧RowKit.Below w.heap.size w w':=by
  have HL:=aA (fun q v W h (hb:RowKit.Below w.heap.size w W)=>Legal_any q v [x] W h (hT.below hb) (fun y hy=>by rw [List.mem_singleton.1 hy];exact m))
  have HO:=aA (fun W (hb:RowKit.Below w.heap.size w W)=>EB p x v W (h.below hb) (hT.below hb) (by have:=m.n;omega) m.f)
  have hls:[x].all tI=tI x:=by simp
  rw [hls] at HL
  have HNO:=aA (oBu (x:=x))
  have HYE:=aA (oEa (x:=x))
  have hcl:(aE x).args.length≤1000:=by have:=mB x;have:=m.n;omega
  have HLS:=aA (fun q v W h (hb:RowKit.Below w.heap.size w W)=>oCu (aE x).args q v W h (hD.below hb) hcl)
  have HLL:=aA (oAm (aE x).args)
  have hop:x.op.size≤100:=m.op
  obtain ⟨a,c,rfl⟩:∃a c,v=.slice a x.args.length c:=by obtain ⟨a,c,e,_⟩:=h;exact ⟨a,c,e⟩
  have HF0:=aA ((Fr.start w).new 30 #[.string x.op,.slice a x.args.length c])
  have HS:=aA (fun W (hb:RowKit.Below w.heap.size w W)=>h.below hb)
  generalize (aE x).args=C at *
  generalize oBa x=T at *
  generalize tI x=B at *
  obtain ⟨W0,hW0⟩:∃W:World,W=w.alloc (.cells #[.string x.op,.slice a x.args.length c] 30):=⟨_,rfl⟩
  rw [←hW0] at HF0
  clear h hT hD m hls
  go_enter Tryz.func22,Tryz.ntmps22
  go_upto_region 1 with fail
  rw [←hW0]
  clear hW0
  obtain ⟨e0,e1⟩:=(HF0.out.blk 0 rfl).pair
  cases B
  · obtain rfl:=HNO.out rfl
    go_wp2_with (go_at_call 53;refine (HL.out _ _ _ (oEs (Blk.new W0 30 _) ((HS.out _ HF0.out.below).alloc _)) (HF0.out.alloc _).below).mono ?_;rintro e w1 ⟨rfl,hb⟩;have HF1:=aA ((HF0.out.alloc (.cells #[.string x.op,.slice a x.args.length c] 30)).next hb);clear hb)
    go_ret
    exact ⟨rfl,HF1.out.below⟩
  · have HY2:=aA (HYE.out rfl)
    clear HNO HYE
    go_upto_region 4 with (first
      | (go_at_call 53;refine (HL.out _ _ _ (oEs (Blk.new W0 30 _) ((HS.out _ HF0.out.below).alloc _)) (HF0.out.alloc _).below).mono ?_;rintro e w1 ⟨rfl,hb⟩;have HF1:=aA ((HF0.out.alloc (.cells #[.string x.op,.slice a x.args.length c] 30)).next hb);clear hb e0 e1;obtain ⟨e0,e1⟩:=(HF1.out.blk 0 rfl).pair)
      | (go_at_call 54;(with_reducible refine (HO.out _ HF1.out.below).mono ?_);rintro e w2 ⟨v2,rfl,ho,hb⟩;obtain ⟨va,vc,rfl⟩:=ho.form;have HO2:=aA ((ho.slR.mono (q:=fun _=>True) (fun _ _=>trivial)).alloc (.cells #[.string x.op,.slice va C.length vc] 30));have HF2:=aA ((HF1.out.next hb).new' 30 #[.string x.op,.slice va C.length vc] (b:=w2.heap.size) rfl);clear hb ho e0 e1))
    obtain ⟨W2,hW2⟩:∃W:World,W=w2.alloc (.cells #[.string x.op,.slice va C.length vc] 30):=⟨_,rfl⟩
    rw [←hW2] at HF2 HO2 ⊢
    clear hW2
    generalize w2.heap.size=b2 at *
    obtain ⟨e0,e1⟩:=(HF2.out.blk 0 rfl).pair
    have HOD:=aA (HO2.out.below (oBc W2))
    have HBD:=aA HF2.out.drew.below
    have hcat:=fun wz=>run_string_add_sum (P:=Tryz.prog) wz x.op ⟨#[32]⟩ (by show x.op.size+1≤_;omega)
    go_region_held3 (fun w'=>w'.cell? ⟨b2,0,none⟩=some (.string x.op)∧w'.cell? ⟨b2,1,none⟩=some (.slice va C.length vc)) (go_keep)
      (first | (go_at_call 56;(with_reducible refine (HLS.out _ _ _ HOD.out HBD.out).mono ?_);rintro e w3 ⟨rfl,hb⟩;have HB3:=aA (HBD.out.trans (hb.mono HBD.out.size));have e0:=(hb.cell (p:=⟨b2,0,none⟩) (World.block_lt_of_cell? _ _ e0)).trans e0;have e1:=(hb.cell (p:=⟨b2,1,none⟩) (World.block_lt_of_cell? _ _ e1)).trans e1;have hls:=oAn HLL.out;have hcat2:=(fun wz=>run_string_add_sum (P:=Tryz.prog) wz (x.op++⟨#[32]⟩) ⟨(oBp C).toArray⟩ (by rw [ByteArray.size_append];show x.op.size+1+_≤_;omega));clear hb)
             | (go_at_call 55;refine (Tryz.strings_TrimSuffix _ _ _ (by rw [ByteArray.size_append,ByteArray.size_append];show x.op.size+1+_≤_;omega)).mono ?_;rintro e w4 ⟨rfl,rfl⟩))
    go_wp2
    go_ret
    refine ⟨oAs (oAd ?_),HB3.out⟩
    rw [←HY2.out]
    show Lib.trimSuffix _ _=_
    simp
end Go.Proofs.YtpigbggoiipmhaaGreatDoor
namespace Go.Proofs.YtpigbggoiipmhaaGreatDoor
set_option maxHeartbeats 4000000
set_option maxRecDepth 100000
open Go.RowKit Go.Shelf Go.Sort
theorem oCr (x:Ins) (m:CV x) (p:aB) (v:Value) (w:World) (h:SlR aM w p v x.args):
    Calls Tryz.prog 78 #[.agg #[.string x.op,v]] w fun e w'=>(∃a b c da dn dc s f,e=.returned (.tuple #[.agg #[.int .i64 a,.int .u8 b,.string c,.slice da dn dc,.string s,.bool f],.int .i64 (cQ x).2]))∧RowKit.Below w.heap.size w w':=
  (Find9_any p x v w h (by have:=m.n;omega) m.f).mono fun e w' h=>by
    generalize cQ x=r at h ⊢
    obtain ⟨o,k⟩:=r
    obtain ⟨h,hb⟩:=h
    cases o with
    | none=>exact ⟨⟨_,_,_,_,_,_,_,_,h⟩,hb⟩
    | some x=>
      obtain ⟨v,q,h,a,c,hv,_⟩:=h
      subst hv
      exact ⟨⟨_,_,_,_,_,_,_,_,h⟩,hb⟩
theorem oDf (x:Ins) (m:CV x) (p:aB) (v:Value) (w:World) (h:SlR aM w p v x.args):
    Calls Tryz.prog 30 #[.agg #[.string x.op,v]] w fun e w'=>e=.returned (.string ⟨(oBa x).toArray⟩)∧RowKit.Below w.heap.size w w':=by
  have HCD:=aA (fun W (hb:RowKit.Below w.heap.size w W)=>oCr x m p v W (h.below hb))
  have HO:=aA (fun W (hb:RowKit.Below w.heap.size w W)=>jS p x v W (h.below hb) (by have:=m.n;omega) m.f)
  have hcl:(aE x).args.length≤1000:=by have:=mB x;have:=m.n;omega
  have HLS:=aA (fun q v W h=>oCm (aE x).args q v W h hcl)
  have HLL:=aA (oAm (aE x).args)
  have hop:x.op.size≤100:=m.op
  have HNO:=aA (oBu (x:=x))
  have HYE:=aA (oAr (x:=x))
  have HLG:Hid (tI x=((cQ x).2==0)):=aA rfl
  obtain ⟨a,c,rfl⟩:∃a c,v=.slice a x.args.length c:=by obtain ⟨a,c,e,_⟩:=h;exact ⟨a,c,e⟩
  have HF0:=aA ((Fr.start w).new 30 #[.string x.op,.slice a x.args.length c])
  generalize (cQ x).2=cd at *
  generalize (aE x).args=C at *
  generalize oBa x=T at *
  generalize tI x=B at *
  obtain ⟨W0,hW0⟩:∃W:World,W=w.alloc (.cells #[.string x.op,.slice a x.args.length c] 30):=⟨_,rfl⟩
  rw [←hW0] at HF0
  clear h m
  by_cases h0:cd=0
  · subst h0
    have hB:B=true:=HLG.out
    subst hB
    have hY:=HYE.out rfl
    unfold oEr at hY
    clear HNO HYE HLG
    cases hq:((C.length:Int)==0)
    · have hC:C≠[]:=by intro e;subst e;cases hq
      have HY2:Hid (T=x.op.data.toList++[32]++oBp C):=aA (by rw [hY,if_neg hC];simp)
      have hlp:¬(C.length:Int)=0:=by rw [beq_eq_false_iff_ne] at hq;exact hq
      clear hY hC
      go_enter Tryz.func30,Tryz.ntmps30
      go_upto_region 1 with fail
      rw [←hW0]
      clear hW0
      obtain ⟨e0,e1⟩:=(HF0.out.blk 0 rfl).pair
      go_upto_region 5 with (first
        | (go_at_call 78;(with_reducible refine (HCD.out _ HF0.out.below).mono ?_);rintro e w1 ⟨⟨z0,z1,z2,z3,z4,z5,z6,z7,rfl⟩,hb⟩;have HF1:=aA ((HF0.out.next hb).alloc (.cells #[.int .i64 z0,.int .u8 z1,.string z2,.slice z3 z4 z5,.string z6,.bool z7] 122));clear hb e0 e1;obtain ⟨e0,e1⟩:=(HF1.out.blk 0 rfl).pair)
        | (go_at_call 79;(with_reducible refine (HO.out _ HF1.out.below).mono ?_);rintro e w2 ⟨v2,rfl,ho,hb⟩;obtain ⟨va,vc,rfl⟩:=ho.form;have HO2:=aA ((ho.slR.mono (q:=fun _=>True) (fun _ _=>trivial)).alloc (.cells #[.string x.op,.slice va C.length vc] 30));have HF2:=aA ((HF1.out.next hb).new' 30 #[.string x.op,.slice va C.length vc] (b:=w2.heap.size) rfl);clear hb ho e0 e1))
      obtain ⟨W2,hW2⟩:∃W:World,W=w2.alloc (.cells #[.string x.op,.slice va C.length vc] 30):=⟨_,rfl⟩
      rw [←hW2] at HF2 HO2 ⊢
      clear hW2
      generalize w2.heap.size=b2 at *
      obtain ⟨e0,e1⟩:=(HF2.out.blk 0 rfl).pair
      go_upto_region 7 with fail
      try rw [hq]
      have HOD:=aA (HO2.out.below (oBc W2))
      have HBD:=aA HF2.out.drew.below
      have hcat:=fun wz=>run_string_add_sum (P:=Tryz.prog) wz x.op ⟨#[32]⟩ (by show x.op.size+1≤_;omega)
      go_region_held3 (fun w'=>w'.cell? ⟨b2,0,none⟩=some (.string x.op)∧w'.cell? ⟨b2,1,none⟩=some (.slice va C.length vc)) (go_keep)
        ((go_at_call 80;(with_reducible refine (HLS.out _ _ _ HOD.out).mono ?_);rintro e w3 ⟨rfl,hb⟩;have HB3:=aA (HBD.out.trans (hb.mono HBD.out.size));have e0:=(hb.cell (p:=⟨b2,0,none⟩) (World.block_lt_of_cell? _ _ e0)).trans e0;have e1:=(hb.cell (p:=⟨b2,1,none⟩) (World.block_lt_of_cell? _ _ e1)).trans e1;have hls:=oAn HLL.out;have hcat2:=(fun wz=>run_string_add_sum (P:=Tryz.prog) wz (x.op++⟨#[32]⟩) ⟨(oBp C).toArray⟩ (by rw [ByteArray.size_append];show x.op.size+1+_≤_;omega));clear hb))
      go_wp2
      go_ret
      exact ⟨oAs (oAd (by rw [HY2.out];simp)),HB3.out⟩
    · have hC:C=[]:=by rw [beq_iff_eq] at hq;exact List.length_eq_zero_iff.1 (by omega)
      have HY2:Hid (T=x.op.data.toList):=aA (by rw [hY,if_pos hC])
      have hlp:(C.length:Int)=0:=by rw [hC];rfl
      have HLP:=aA hlp
      clear hY hC hlp
      go_enter Tryz.func30,Tryz.ntmps30
      go_upto_region 1 with fail
      rw [←hW0]
      clear hW0
      obtain ⟨e0,e1⟩:=(HF0.out.blk 0 rfl).pair
      go_upto_region 5 with (first
        | (go_at_call 78;(with_reducible refine (HCD.out _ HF0.out.below).mono ?_);rintro e w1 ⟨⟨z0,z1,z2,z3,z4,z5,z6,z7,rfl⟩,hb⟩;have HF1:=aA ((HF0.out.next hb).alloc (.cells #[.int .i64 z0,.int .u8 z1,.string z2,.slice z3 z4 z5,.string z6,.bool z7] 122));clear hb e0 e1;obtain ⟨e0,e1⟩:=(HF1.out.blk 0 rfl).pair)
        | (go_at_call 79;(with_reducible refine (HO.out _ HF1.out.below).mono ?_);rintro e w2 ⟨v2,rfl,ho,hb⟩;obtain ⟨va,vc,rfl⟩:=ho.form;have HF2:=aA ((HF1.out.next hb).new' 30 #[.string x.op,.slice va C.length vc] (b:=w2.heap.size) rfl);clear hb ho e0 e1))
      obtain ⟨W2,hW2⟩:∃W:World,W=w2.alloc (.cells #[.string x.op,.slice va C.length vc] 30):=⟨_,rfl⟩
      rw [←hW2] at HF2 ⊢
      clear hW2
      generalize w2.heap.size=b2 at *
      obtain ⟨e0,e1⟩:=(HF2.out.blk 0 rfl).pair
      have hlp:=HLP.out
      go_wp2
      go_ret
      exact ⟨oAs (oAd HY2.out.symm),HF2.out.below⟩
  · have hB:B=false:=by rw [HLG.out];exact beq_eq_false_iff_ne.2 h0
    subst hB
    obtain rfl:=HNO.out rfl
    clear HNO HYE HLG HO HLS HLL
    go_enter Tryz.func30,Tryz.ntmps30
    go_upto_region 1 with fail
    rw [←hW0]
    clear hW0
    obtain ⟨e0,e1⟩:=(HF0.out.blk 0 rfl).pair
    go_wp2_with (go_at_call 78;(with_reducible refine (HCD.out _ HF0.out.below).mono ?_);rintro e w1 ⟨⟨z0,z1,z2,z3,z4,z5,z6,z7,rfl⟩,hb⟩;have HF1:=aA ((HF0.out.next hb).alloc (.cells #[.int .i64 z0,.int .u8 z1,.string z2,.slice z3 z4 z5,.string z6,.bool z7] 122));clear hb e0 e1;obtain ⟨e0,e1⟩:=(HF1.out.blk 0 rfl).pair)
    go_ret
    exact ⟨rfl,HF1.out.below⟩
theorem oCj (b:List UInt8):(oAq b).length≤5+7 * b.length:=by
  unfold oAq
  split
  · exact Nat.zero_le _
  · rw [List.length_append]
    have:=oBj b
    show 5+_≤_
    omega
theorem oDr (l:List UInt8) (c:UInt8):oAq (l++[c])=(if l.length=0 then [68,69,70,66,32] else oAq l++[44])++oAc (c.toNat:Int):=by
  unfold oAq
  rw [if_neg (by simp),List.map_append,List.map_cons,List.map_nil,oBn]
  cases l with
  | nil=>rfl
  | cons d r=>
    rw [if_neg (by simp),if_neg (by simp),if_neg (List.cons_ne_nil _ _)]
    simp
theorem oCz (l:List UInt8) (p:aB) (v:Value) (w:World) (h:SlR aI w p v l) (hl:l.length≤900):
    Calls Tryz.prog 31 #[v] w fun e w'=>e=.returned (.string ⟨(oAq l).toArray⟩)∧RowKit.Below w.heap.size w w':=by
  have HX:=aA (fun n W=>oAh n W)
  have HS:=aA h
  have HN:=aA hl
  obtain ⟨a,c,rfl,hl1,hl2,_⟩:=h.byte
  have hlm:(l.length:Int)≤1000:=by omega
  clear h hl hl1 hl2
  go_enter Tryz.func31,Tryz.ntmps31
  go_wp2
  go_loopw [3,4] (fun x i wr=>∃(k:Nat) (s:ByteArray),k≤l.length∧x=.string s∧i=.int .i64 k∧s.data.toList=oAq (l.take k)∧wr=w) (fun _ i _=>l.length - (intOf i).toNat)
  case atStart=>exact ⟨0,⟨#[]⟩,Nat.zero_le _,rfl,rfl,rfl,rfl⟩
  case round=>
    obtain ⟨k,s,hk,rfl,rfl,hs,rfl⟩:=hrel
    have HSS:=aA hs
    by_cases hlt:k < l.length
    · have hsz:s.size≤10000:=by
        have h1:=congrArg List.length hs
        have h2:=oCj (l.take k)
        rw [List.length_take] at h2
        have h3:=HN.out
        simp at h1
        omega
      have HT:Hid (oAq (l.take (k+1))=(if k=0 then [68,69,70,66,32] else oAq (l.take k)++[44])++oAc (l[k].toNat:Int)):=aA (by
        rw [List.take_succ_eq_append_getElem hlt,oDr,List.length_take,Nat.min_eq_left hk])
      obtain ⟨a2,c2,e2,_,_,hg⟩:=HS.out.byte
      injection e2 with e2 e3 e4
      clear e3
      subst e2 e4
      obtain ⟨b1,o1,rfl,_,d0⟩:=hg k l[k] (List.getElem?_eq_getElem hlt)
      have HXK:=aA (HX.out (l[k].toNat:Int))
      have hys:=oAn (oAa (l[k].toNat:Int))
      have hu9:IntKind.i64.wrap (l[k].toNat:Int)=(l[k].toNat:Int):=by have:=l[k].toNat_lt;rw [IntKind.wrap_i64];omega
      clear hs hg
      generalize hT0:oAc (l[k].toNat:Int)=T at *
      clear hT0
      obtain ⟨Y,hY⟩:∃Y:ByteArray,Y=⟨T.toArray⟩:=⟨_,rfl⟩
      have HYD:Hid (Y.data.toList=T):=aA (by rw [hY])
      rw [←hY] at HXK hys
      clear hY
      generalize l[k].toNat=u at *
      by_cases h0:k=0
      · subst h0
        rw [Nat.add_zero] at d0
        go_wp2_with (go_at_call 81;refine (HXK.out _).mono ?_;rintro e w2 ⟨rfl,hw2⟩;subst hw2)
        go_roundw
        case rel=>exact ⟨1,_,by omega,rfl,rfl,by rw [HT.out,if_pos (by trivial),oAb,HYD.out],trivial⟩
        case measure=>simp [intOf];omega
      · have hk0:((k:Int)==0)=false:=by rw [beq_eq_false_iff_ne];omega
        have hk1:¬(k:Int)=0:=by omega
        go_wp2_with (go_at_call 81;refine (HXK.out _).mono ?_;rintro e w2 ⟨rfl,hw2⟩;subst hw2)
        go_roundw
        case rel=>exact ⟨k+1,_,by omega,rfl,by go_num,by rw [HT.out,if_neg h0,oAb,oAb,HYD.out,HSS.out],trivial⟩
        case measure=>simp [intOf];omega
    · obtain rfl:k=l.length:=by omega
      rw [List.take_length] at HSS
      go_wp2
      go_ret
      exact ⟨oAs (oAd HSS.out),Below.refl _ _⟩
end Go.Proofs.YtpigbggoiipmhaaGreatDoor
namespace Go.Proofs.YtpigbggoiipmhaaGreatDoor
set_option maxHeartbeats 4000000
set_option maxRecDepth 100000
open Go.RowKit Go.Shelf Go.Sort
structure oCq (x:It):Prop where
  m:CV ⟨⟨x.op.toArray⟩,x.args⟩
  r:x.raw.length≤900
theorem oCi {x:It} (hk:x.k=1) (ha:x.al=false):oCk x=oBa ⟨⟨x.op.toArray⟩,x.args⟩:=if_pos ⟨hk,ha⟩
theorem oDd {x:It} (h:¬x.k=1∨x.al=true):oCk x=oAq x.raw:=if_neg (fun e=>h.elim (fun g=>g e.1) (fun g=>by rw [e.2] at g;cases g))
theorem oDw (x:It) (m:oCq x) (p:aB) (v:Value) (w:World) (h:ItP w p x v) (hT:Spc w) (hD:Deb w):
    Calls Tryz.prog 26 #[v] w fun e w'=>e=.returned (.string ⟨(oCk x).toArray⟩)∧RowKit.Below w.heap.size w w':=by
  obtain ⟨ra,rc,va,vc,rfl,s1,a1⟩:=h
  have HDA:=aA (fun W (hb:RowKit.Below w.heap.size w W)=>oCe x.raw p _ W (s1.below hb) (hD.below hb) m.r)
  have HIN:=aA (fun W (hb:RowKit.Below w.heap.size w W)=>oAe ⟨⟨x.op.toArray⟩,x.args⟩ m.m p _ W (a1.below hb) (hT.below hb) (hD.below hb))
  have HY:=aA (fun hk ha=>oCi (x:=x) hk ha)
  have HN:=aA (fun hk=>oDd (x:=x) hk)
  generalize oCk x=TT at *
  generalize oBa ⟨⟨x.op.toArray⟩,x.args⟩=TI at *
  generalize oAq x.raw=TD at *
  obtain ⟨k,R,op,args,al⟩:=x
  unfold kY
  dsimp only at *
  have HF:=aA ((Fr.start w).new' 32 #[.int .i64 k,.slice ra R.length rc,.string ⟨op.toArray⟩,.slice va args.length vc,.bool al] (b:=w.heap.size) rfl)
  obtain ⟨O,hO⟩:∃S:ByteArray,S=⟨op.toArray⟩:=⟨_,rfl⟩
  rw [←hO] at HIN HF ⊢
  clear hO s1 a1 m
  obtain ⟨W,hW⟩:∃W:World,W=w.alloc (.cells #[.int .i64 k,.slice ra R.length rc,.string O,.slice va args.length vc,.bool al] 32):=⟨_,rfl⟩
  rw [←hW] at HF
  obtain ⟨⟨c0,c1,c2,c3,c4⟩,_⟩:=(HF.out.blk 0 rfl).five
  cases al
  · by_cases hk:k=1
    · obtain rfl:=HY.out hk rfl
      subst hk
      clear HY HN HDA
      go_enter Tryz.func26,Tryz.ntmps26
      go_upto_region 1 with fail
      rw [←hW]
      clear hW
      go_wp2_with (go_at_call 22;(with_reducible refine (HIN.out _ HF.out.below).mono ?_);rintro e w1 ⟨rfl,hb⟩;have H1:=aA (HF.out.next hb);clear hb)
      go_ret
      exact ⟨rfl,H1.out.below⟩
    · obtain rfl:=HN.out (.inl hk)
      have hk1:(k != 1)=true:=by rw [bne_iff_ne];exact hk
      have hk2:(k==1)=false:=by rw [beq_eq_false_iff_ne];exact hk
      clear HY HN HIN
      go_enter Tryz.func26,Tryz.ntmps26
      go_upto_region 1 with fail
      rw [←hW]
      clear hW
      go_wp2_with (go_at_call 68;(with_reducible refine (HDA.out _ HF.out.below).mono ?_);rintro e w1 ⟨rfl,hb⟩;have H1:=aA (HF.out.next hb);clear hb)
      go_ret
      exact ⟨rfl,H1.out.below⟩
  · obtain rfl:=HN.out (.inr rfl)
    clear HY HN HIN
    cases hk1:(k != 1)
    · obtain rfl:k=1:=by simpa using hk1
      go_enter Tryz.func26,Tryz.ntmps26
      go_upto_region 1 with fail
      rw [←hW]
      clear hW
      go_wp2_with (go_at_call 68;(with_reducible refine (HDA.out _ HF.out.below).mono ?_);rintro e w1 ⟨rfl,hb⟩;have H1:=aA (HF.out.next hb);clear hb)
      go_ret
      exact ⟨rfl,H1.out.below⟩
    · have hk:¬k=1:=by simpa using hk1
      have hk2:(k==1)=false:=by rw [beq_eq_false_iff_ne];exact hk
      go_enter Tryz.func26,Tryz.ntmps26
      go_upto_region 1 with fail
      rw [←hW]
      clear hW
      go_wp2_with (go_at_call 68;(with_reducible refine (HDA.out _ HF.out.below).mono ?_);rintro e w1 ⟨rfl,hb⟩;have H1:=aA (HF.out.next hb);clear hb)
      go_ret
      exact ⟨rfl,H1.out.below⟩
theorem oFj (x:It) (m:oCq x) (p:aB) (v:Value) (w:World) (h:ItP w p x v):
    Calls Tryz.prog 10 #[v] w fun e w'=>e=.returned (.string ⟨(oCk x).toArray⟩)∧RowKit.Below w.heap.size w w':=by
  obtain ⟨ra,rc,va,vc,rfl,s1,a1⟩:=h
  have HDA:=aA (fun W (hb:RowKit.Below w.heap.size w W)=>oCz x.raw p _ W (s1.below hb) m.r)
  have HIN:=aA (fun W (hb:RowKit.Below w.heap.size w W)=>oDf ⟨⟨x.op.toArray⟩,x.args⟩ m.m p _ W (a1.below hb))
  have HY:=aA (fun hk ha=>oCi (x:=x) hk ha)
  have HN:=aA (fun hk=>oDd (x:=x) hk)
  generalize oCk x=TT at *
  generalize oBa ⟨⟨x.op.toArray⟩,x.args⟩=TI at *
  generalize oAq x.raw=TD at *
  obtain ⟨k,R,op,args,al⟩:=x
  unfold kY
  dsimp only at *
  have HF:=aA ((Fr.start w).new' 32 #[.int .i64 k,.slice ra R.length rc,.string ⟨op.toArray⟩,.slice va args.length vc,.bool al] (b:=w.heap.size) rfl)
  obtain ⟨O,hO⟩:∃S:ByteArray,S=⟨op.toArray⟩:=⟨_,rfl⟩
  rw [←hO] at HIN HF ⊢
  clear hO s1 a1 m
  obtain ⟨W,hW⟩:∃W:World,W=w.alloc (.cells #[.int .i64 k,.slice ra R.length rc,.string O,.slice va args.length vc,.bool al] 32):=⟨_,rfl⟩
  rw [←hW] at HF
  obtain ⟨⟨c0,c1,c2,c3,c4⟩,_⟩:=(HF.out.blk 0 rfl).five
  cases al
  · by_cases hk:k=1
    · obtain rfl:=HY.out hk rfl
      subst hk
      clear HY HN HDA
      go_enter Tryz.func10,Tryz.ntmps10
      go_upto_region 1 with fail
      rw [←hW]
      clear hW
      go_wp2_with (go_at_call 30;(with_reducible refine (HIN.out _ HF.out.below).mono ?_);rintro e w1 ⟨rfl,hb⟩;have H1:=aA (HF.out.next hb);clear hb)
      go_ret
      exact ⟨rfl,H1.out.below⟩
    · obtain rfl:=HN.out (.inl hk)
      have hk1:(k != 1)=true:=by rw [bne_iff_ne];exact hk
      have hk2:(k==1)=false:=by rw [beq_eq_false_iff_ne];exact hk
      clear HY HN HIN
      go_enter Tryz.func10,Tryz.ntmps10
      go_upto_region 1 with fail
      rw [←hW]
      clear hW
      go_wp2_with (go_at_call 31;(with_reducible refine (HDA.out _ HF.out.below).mono ?_);rintro e w1 ⟨rfl,hb⟩;have H1:=aA (HF.out.next hb);clear hb)
      go_ret
      exact ⟨rfl,H1.out.below⟩
  · obtain rfl:=HN.out (.inr rfl)
    clear HY HN HIN
    cases hk1:(k != 1)
    · obtain rfl:k=1:=by simpa using hk1
      go_enter Tryz.func10,Tryz.ntmps10
      go_upto_region 1 with fail
      rw [←hW]
      clear hW
      go_wp2_with (go_at_call 31;(with_reducible refine (HDA.out _ HF.out.below).mono ?_);rintro e w1 ⟨rfl,hb⟩;have H1:=aA (HF.out.next hb);clear hb)
      go_ret
      exact ⟨rfl,H1.out.below⟩
    · have hk:¬k=1:=by simpa using hk1
      have hk2:(k==1)=false:=by rw [beq_eq_false_iff_ne];exact hk
      go_enter Tryz.func10,Tryz.ntmps10
      go_upto_region 1 with fail
      rw [←hW]
      clear hW
      go_wp2_with (go_at_call 31;(with_reducible refine (HDA.out _ HF.out.below).mono ?_);rintro e w1 ⟨rfl,hb⟩;have H1:=aA (HF.out.next hb);clear hb)
      go_ret
      exact ⟨rfl,H1.out.below⟩
theorem ItP.belowS {w w':World} {p:aB} {x:It} {v:Value} (h:ItP w p x v) (hb:RowKit.Below w.heap.size w w'):ItP w' p x v:=by
  obtain ⟨ra,rc,va,vc,e,h1,h2⟩:=h
  exact ⟨ra,rc,va,vc,e,h1.below hb,h2.below hb⟩
end Go.Proofs.YtpigbggoiipmhaaGreatDoor
namespace Go.Proofs.YtpigbggoiipmhaaGreatDoor
set_option maxHeartbeats 2000000
set_option maxRecDepth 100000
open Go.RowKit Go.Shelf Go.Sort
theorem Bld.ltS {w:World} {B b:Nat} {v:Value} {l:List UInt8} (h:Bld w B b v l):b < w.heap.size:=by
  obtain ⟨_,⟨p,_,hk⟩,_⟩:=h
  exact hk.lt
theorem Bld.belowS {w w':World} {B b:Nat} {v:Value} {l:List UInt8} (h:Bld w B b v l) (hb:Below w.heap.size w w'):Bld w' B b v l:=by
  obtain ⟨hB,⟨p,hp,hk⟩,ho,hne⟩:=h
  exact ⟨hB,⟨p,hp,hk.below hb hk.lt⟩,ho.kept (row:=none) ⟨hb.os,hb.tape,hb.output,hb.size,fun k hk _=>hb.block k hk⟩ (by cases v.ownBlock<;>simp),hne⟩
theorem Bld.newS (w:World):Bld (w.alloc (.cells #[.pointer none,.slice none 0 0] 103)) w.heap.size w.heap.size (.slice none 0 0) []:=
  ⟨Nat.le_refl _,⟨_,.inl rfl,Blk.new _ _ _⟩,World.ownsRow_nil _ _ _ _,by simp [Value.ownBlock]⟩
structure oBb (w:World) (L:List (Nat × TypeId × Array Value)) (b:Nat) (v:Value) (l:List UInt8) (W:World):Prop where
  bld:Bld W b b v l
  fr:Fr w L W
  le:w.heap.size≤b
  lt:∀x∈L,x.1 < b
theorem oBb.next {w:World} {L:List (Nat × TypeId × Array Value)} {b:Nat} {v:Value} {l:List UInt8} {W w1:World} (h:oBb w L b v l W) (hb:Below W.heap.size W w1):oBb w L b v l w1:=⟨h.bld.belowS hb,h.fr.next hb,h.le,h.lt⟩
theorem oBb.alloc {w:World} {L:List (Nat × TypeId × Array Value)} {b:Nat} {v:Value} {l:List UInt8} {W:World} (h:oBb w L b v l W) (o:Obj):oBb w L b v l (W.alloc o):=h.next ((Below.refl _ _).alloc (Nat.le_refl _) o)
theorem oBb.size {w:World} {L:List (Nat × TypeId × Array Value)} {b:Nat} {v:Value} {l:List UInt8} {W:World} (h:oBb w L b v l W):b≤W.heap.size:=Nat.le_of_lt h.bld.ltS
theorem oBb.own {w:World} {L:List (Nat × TypeId × Array Value)} {b:Nat} {v:Value} {l:List UInt8} {W:World} (h:oBb w L b v l W):∀k,v.ownBlock=some k→b≤k∧k < W.heap.size:=fun k hk=>h.bld.2.2.1.lt k hk
theorem oBb.fresh {w:World} {L:List (Nat × TypeId × Array Value)} {b:Nat} {v:Value} {l:List UInt8} {W:World} (h:oBb w L b v l W):W.heap.size≠b∧v.ownBlock≠some W.heap.size:=
  ⟨fun e=>by have:=h.bld.ltS;omega,fun e=>Nat.lt_irrefl _ (h.own _ e).2⟩
theorem oBb.write {w:World} {L:List (Nat × TypeId × Array Value)} {b:Nat} {v:Value} {l:List UInt8} {W:World} (h:oBb w L b v l W) (s:ByteArray) (hn:l.length+s.size≤140737488355328):
    Calls Tryz.prog 64 #[.pointer (some ⟨b,0,none⟩),.string s] W fun e w'=>e=.returned (.tuple #[.int .i64 s.size,.nilIface])∧(∃v',oBb w L b v' (l++s.data.toList) w')∧∀g t cs,Blk W g t cs→g≠b→v.ownBlock≠some g→Blk w' g t cs:=
  (PX b b v l s W h.bld hn h.size).mono (by
    rintro e w' ⟨he,v',hbl,hwr⟩
    have keep:∀g t cs,Blk W g t cs→g≠b→v.ownBlock≠some g→Blk w' g t cs:=fun g t cs hk h1 h2=>(hwr.keep g hk.lt h1 h2).trans hk
    refine ⟨he,⟨v',hbl,⟨h.fr.below.trans (hwr.below.mono h.le),fun x hx=>?_⟩,h.le,h.lt⟩,keep⟩
    have hx1:=h.lt x hx
    exact keep _ _ _ (h.fr.at' x hx) (Nat.ne_of_lt hx1) (fun e=>absurd (h.own _ e).1 (Nat.not_le_of_lt hx1)))
theorem oBb.text {w:World} {L:List (Nat × TypeId × Array Value)} {b:Nat} {v:Value} {l:List UInt8} {W:World} (h:oBb w L b v l W):
    Calls Tryz.prog 66 #[.pointer (some ⟨b,0,none⟩)] W fun e w'=>e=.returned (.string ⟨l.toArray⟩)∧RowKit.Below w.heap.size w w':=
  (String_any b b v l W h.bld h.size).mono fun _ _ ⟨he,hb⟩=>⟨he,h.fr.below.trans (hb.mono h.le)⟩
theorem oBb.start {w W:World} {L:List (Nat × TypeId × Array Value)} (h:Fr w L W) (hl:∀x∈L,x.1 < W.heap.size):oBb w L W.heap.size (.slice none 0 0) [] (W.alloc (.cells #[.pointer none,.slice none 0 0] 103)):=⟨Bld.newS W,h.alloc _,h.below.size,hl⟩
def oEh (c:UInt8):ByteArray:=⟨(qG c.toNat 2).toArray⟩
theorem oFp (l:List UInt8):WV (l.map oEh) ⟨#[32]⟩=oEf l:=by
  unfold WV
  rw [List.map_map]
  rfl
theorem oCc (l:List UInt8):(oEf l).length≤3 * l.length:=by
  have:=oBg (m:=2) [32] (l.map fun c=>qG c.toNat 2) (fun x hx=>by obtain ⟨o,_,rfl⟩:=List.mem_map.1 hx;rw [oAk];exact Nat.le_refl _)
  rw [List.length_map] at this
  exact this
theorem oEl (z:Int) (x:It) (hl:x.raw.length≤900) (p:aB) (v:Value) (w:World) (h:ItP w p x v):
    Calls Tryz.prog 62 #[.int .i64 z,v] w fun e w'=>e=.returned (.string ⟨(oEf x.raw).toArray⟩)∧RowKit.Below w.heap.size w w':=by
  obtain ⟨ra,rc,va,vc,rfl,s1,a1⟩:=h
  obtain ⟨k,l,op,args,al⟩:=x
  unfold kY
  dsimp only at *
  have HF:=aA ((Fr.start w).new' 32 #[.int .i64 k,.slice ra l.length rc,.string ⟨op.toArray⟩,.slice va args.length vc,.bool al] (b:=w.heap.size) rfl)
  have HX:=aA (fun (c:UInt8) W=>Hex_any c.toNat 2 W (by have:=c.toNat_lt;omega) (by omega))
  have HS:=aA (fun W (hb:RowKit.Below w.heap.size w W)=>s1.below hb)
  have HN:=aA hl
  have hlm:(l.length:Int)≤1000:=by omega
  obtain ⟨W,hW⟩:∃W:World,W=w.alloc (.cells #[.int .i64 k,.slice ra l.length rc,.string ⟨op.toArray⟩,.slice va args.length vc,.bool al] 32):=⟨_,rfl⟩
  rw [←hW] at HF
  obtain ⟨⟨c0,c1,c2,c3,c4⟩,_⟩:=(HF.out.blk 0 rfl).five
  clear a1 s1 hl
  go_enter Tryz.func62,Tryz.ntmps62
  go_upto_region 1 with fail
  rw [←hW]
  clear hW
  go_wp2
  go_loopw [5,11] (fun x i wr=>∃k:Nat,k≤l.length∧i=.int .i64 k∧Own eN wr w.heap.size 9 NoB x ((l.take k).map oEh)∧RowKit.Below w.heap.size w wr) (fun _ i _=>l.length - (intOf i).toNat)
  case atStart=>exact ⟨0,Nat.zero_le _,rfl,Own.nil _ _ _ _ _,HF.out.below⟩
  case round=>
    obtain ⟨k,hk,rfl,ho,hb⟩:=hrel
    have HB:=aA hb
    by_cases hlt:k < l.length
    · have HT:Hid (l.take (k+1)=l.take k++[l[k]]):=List.take_succ_eq_append_getElem hlt
      obtain ⟨a2,c2,e2,_,_,hg⟩:=(HS.out _ HB.out).byte
      injection e2 with e2 e3 e4
      clear e3
      subst e2 e4
      obtain ⟨b1,o1,rfl,_,d0⟩:=hg k l[k] (List.getElem?_eq_getElem hlt)
      have hlm2:((l.take k).map oEh).length=k:=by simp;omega
      have HXS:Hid ((l.take (k+1)).map oEh=(l.take k).map oEh++[oEh l[k]]):=aA (by rw [HT.out,List.map_append];rfl)
      generalize (l.take k).map oEh=xs at *
      have HLM:=aA hlm2
      have HO:=aA ho
      obtain ⟨oa,oc,rfl⟩:=ho.form
      have HC1:Hid ((xs.length+1) * 16≤140737488355328):=by have:=HLM.out;have:=HN.out;show _≤_;omega
      have HC2:Hid (xs.length+1≤9223372036854775807):=by have:=HLM.out;have:=HN.out;show _≤_;omega
      have HXK:=aA (HX.out l[k])
      have HY:Hid (⟨(qG l[k].toNat 2).toArray⟩=oEh l[k]):=aA rfl
      have hu9:IntKind.i64.wrap (l[k].toNat:Int)=(l[k].toNat:Int):=by have:=l[k].toNat_lt;rw [IntKind.wrap_i64];omega
      clear hlm2 ho hb hg HT c0 c1 c2 c3 c4
      generalize oEh l[k]=y at *
      rw [HY.out] at HXK
      clear HY
      generalize l[k].toNat=u at *
      go_wp2_with (first
        | (go_at_call 61;refine (HXK.out _).mono ?_;rintro e w2 ⟨rfl,hb⟩;have HB2:=aA (HB.out.trans (hb.mono HB.out.size));have HO2:=aA (HO.out.stay hb);clear hb)
        | (at_builtin;refine cK rfl (.tmp 15) (.tmp 19) 24 rfl w.heap.size 9 16 elStr _ xs y _ rfl rfl HO2.out rfl HC1.out HC2.out HB2.out.size ?_;intro a' c' w' hp;have HP:=aA hp;clear hp))
      go_roundw
      case rel=>exact ⟨k+1,by omega,by go_num,by rw [HXS.out];exact HP.out.1,HB2.out.grown HP.out.2 HB2.out.size (fun j hj=>(HO2.out.lt j hj).1)⟩
      case measure=>simp [intOf];omega
    · obtain rfl:k=l.length:=by omega
      rw [List.take_length] at ho
      have HO:=aA (ho.slR (q:=fun _=>True) (fun _ h=>h.elim) (fun _ _=>trivial))
      have HJ:=aA (join_any _ _ _ ⟨#[32]⟩ _ HO.out (by rw [List.length_map];have:=HN.out;omega) (by rw [oFp];have:=oCc l;have:=HN.out;omega))
      rw [oFp] at HJ
      obtain ⟨oa,oc,rfl⟩:=ho.form
      simp only [List.length_map] at HJ
      clear ho hb
      go_wp2_with (go_at_call 106;refine HJ.out.mono ?_;rintro e w2 ⟨⟨j,rfl,hj⟩,hb⟩;have HB2:=aA (HB.out.trans (hb.mono HB.out.size));have HJ2:=aA hj;clear hb hj)
      go_ret
      exact ⟨oAs (oAd HJ2.out),HB2.out⟩
theorem oEg (n:Nat) (hn:n≤65535) (v0 v1 v2 v3 v4:Value) (w:World):
    Calls Tryz.prog 60 #[.int .i64 n,.agg #[v0,v1,v2,v3,v4]] w fun e w'=>e=.returned (.string ⟨(qG n 4).toArray⟩)∧RowKit.Below w.heap.size w w':=by
  have HX:=aA (fun W=>Hex_any n 4 W (by omega) (by omega))
  have HB0:Hid (RowKit.Below w.heap.size w (w.alloc (.cells #[v0,v1,v2,v3,v4] 32))):=(Below.refl _ _).alloc (Nat.le_refl _) _
  clear hn
  go_enter Tryz.func60,Tryz.ntmps60
  go_wp2_with (go_at_call 61;refine (HX.out _).mono ?_;rintro e w2 ⟨rfl,hb⟩;have HB2:=aA (HB0.out.trans (hb.mono HB0.out.size));clear hb)
  go_ret
  exact ⟨rfl,HB2.out⟩
theorem oEo (z:Int) (x:It) (m:oCq x) (p:aB) (v:Value) (w:World) (h:ItP w p x v) (hT:Spc w) (hD:Deb w):
    Calls Tryz.prog 63 #[.int .i64 z,v] w fun e w'=>e=.returned (.string ⟨(oCk x).toArray⟩)∧RowKit.Below w.heap.size w w':=by
  have HI:=aA (fun W (hb:RowKit.Below w.heap.size w W)=>oDw x m p v W (h.belowS hb) (hT.below hb) (hD.below hb))
  obtain ⟨ra,rc,va,vc,rfl,s1,a1⟩:=h
  unfold kY at *
  have HF:=aA ((Fr.start w).new' 32 #[.int .i64 x.k,.slice ra x.raw.length rc,.string ⟨x.op.toArray⟩,.slice va x.args.length vc,.bool x.al] (b:=w.heap.size) rfl)
  obtain ⟨O,hO⟩:∃S:ByteArray,S=⟨x.op.toArray⟩:=⟨_,rfl⟩
  rw [←hO] at HI HF ⊢
  clear hO s1 a1 m hT hD
  obtain ⟨W,hW⟩:∃W:World,W=w.alloc (.cells #[.int .i64 x.k,.slice ra x.raw.length rc,.string O,.slice va x.args.length vc,.bool x.al] 32):=⟨_,rfl⟩
  rw [←hW] at HF
  obtain ⟨⟨c0,c1,c2,c3,c4⟩,_⟩:=(HF.out.blk 0 rfl).five
  go_enter Tryz.func63,Tryz.ntmps63
  go_upto_region 1 with fail
  rw [←hW]
  clear hW
  go_wp2_with (go_at_call 26;(with_reducible refine (HI.out _ HF.out.below).mono ?_);rintro e w1 ⟨rfl,hb⟩;have H1:=aA (HF.out.next hb);clear hb)
  go_ret
  exact ⟨rfl,H1.out.below⟩
end Go.Proofs.YtpigbggoiipmhaaGreatDoor
