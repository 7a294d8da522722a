/-
  show.Row. Conditions: the library's tables as their initialisers lay them; a short item. breadboardlaw15.short, alive. Conditions: the library's tables as their initialisers lay them. The table of math/bits as a row lists it; bounds of an argument. Conditions: none. Arguments opened: bytes; the bounds of an int8.
-/
import Derived.Test.YtcgheipmnphbjaaGreatDoorOD
namespace Go.Proofs.YtcgheipmnphbjaaGreatDoor
set_option maxHeartbeats 8000000
set_option maxRecDepth 100000
open Go.RowKit Go.Shelf Go.Sort
theorem oDt (c:Nat) (hc:c≤100) (w:World):Calls Tryz.prog 44 #[.string ⟨#[32]⟩,.int .i64 c] w fun e w'=>e=.returned (.string ⟨(List.replicate c 32).toArray⟩)∧RowKit.Below w.heap.size w w':=
  (Tryz.strings_Repeat ⟨#[32]⟩ c w (by omega) (by show 1 * c≤_;omega)).mono fun e w' ⟨h1,h2⟩=>⟨by rw [h1];have:=Lib.repeatL_replicate 32 1 c;rw [Nat.mul_one] at this;exact oAs (congrArg (fun l:List UInt8=>(⟨l.toArray⟩:ByteArray)) this),h2⟩
theorem oEz (a:Int) (n c:Nat) (h:max (a - (n:Int)) 2=(c:Int)) (hc:c≤100) (w:World):Calls Tryz.prog 44 #[.string ⟨#[32]⟩,.int .i64 (max (a - (n:Int)) 2)] w fun e w'=>e=.returned (.string ⟨(List.replicate c 32).toArray⟩)∧RowKit.Below w.heap.size w w':=by
  rw [h];exact oDt c hc w
theorem oCf (x:Ins) (m:CV x):(oBa x).length≤10000:=by
  have h1:x.op.data.toList.length≤100:=m.op
  have h2:=oAm (aE x).args
  have h3:=mB x
  have h4:=m.n
  unfold oBa
  split
  · unfold oEr
    split
    · omega
    · rw [List.length_append,List.length_cons];omega
  · exact Nat.zero_le _
theorem oDx (x:It) (m:oCq x):(oCk x).length≤10000:=by
  have h1:=oCf _ m.m
  have h2:=oCj x.raw
  have h3:=m.r
  unfold oCk
  split
  · exact h1
  · omega
def oDv (a r i:List UInt8) (k:Nat):List UInt8:=if k=0 then [] else if k=1 then a++List.replicate 2 32 else if k=2 then a++List.replicate 2 32++r++List.replicate (oEm r.length) 32 else a++List.replicate 2 32++r++List.replicate (oEm r.length) 32++i
theorem oFh {n:Nat} (hn:n≤65535) (x:It):oDg (n:Int) x=oDv (qG n 4) (oEf x.raw) (oCk x) 3++(if x.al=true then [32,32,59,32]++oBa ⟨⟨x.op.toArray⟩,x.args⟩ else []):=by
  unfold oDg
  rw [if_neg (by omega)]
  rfl
theorem oFy (w:World):(Instr.index 64 (.agg #[.func (.func 39) #[] #[],.int .i64 6,.func (.func 41) #[] #[],.int .i64 12,.func (.func 42) #[] #[],.int .i64 0]) (.int .i64 0)).run Tryz.prog w=.ok (.agg #[.func (.func 39) #[] #[],.int .i64 6]) w:=by kernel_rfl
theorem oFs (w:World):(Instr.index 64 (.agg #[.func (.func 39) #[] #[],.int .i64 6,.func (.func 41) #[] #[],.int .i64 12,.func (.func 42) #[] #[],.int .i64 0]) (.int .i64 1)).run Tryz.prog w=.ok (.agg #[.func (.func 41) #[] #[],.int .i64 12]) w:=by kernel_rfl
theorem oFr (w:World):(Instr.index 64 (.agg #[.func (.func 39) #[] #[],.int .i64 6,.func (.func 41) #[] #[],.int .i64 12,.func (.func 42) #[] #[],.int .i64 0]) (.int .i64 2)).run Tryz.prog w=.ok (.agg #[.func (.func 42) #[] #[],.int .i64 0]) w:=by kernel_rfl
theorem oFd (z:Int) (x:It) (m:oCq x) (p:aB) (v:Value) (w:World) (h:ItP w p x v) (hT:Spc w) (hD:Deb w):
    Calls Tryz.prog 16 #[.int .i64 z,v] w fun e w'=>e=.returned (.string ⟨(oDg z x).toArray⟩)∧RowKit.Below w.heap.size w w':=by
  have HIT:=aA (fun W (hb:RowKit.Below w.heap.size w W)=>oEo z x m p v W (h.belowS hb) (hT.below hb) (hD.below hb))
  have HRA:=aA (fun W (hb:RowKit.Below w.heap.size w W)=>oEl z x m.r p v W (h.belowS hb))
  have HFI:=aA (fun b W h=>sV 0 65535 z b W h)
  obtain ⟨ra,rc,va,vc,rfl,s1,a1⟩:=h
  have HIN:=aA (fun W (hb:RowKit.Below w.heap.size w W)=>oAe ⟨⟨x.op.toArray⟩,x.args⟩ m.m p _ W (a1.below hb) (hT.below hb) (hD.below hb))
  unfold kY at *
  have HF:=aA ((Fr.start w).new' 40 #[.int .i64 x.k,.slice ra x.raw.length rc,.string ⟨x.op.toArray⟩,.slice va x.args.length vc,.bool x.al] (b:=w.heap.size) rfl)
  by_cases hz:z < 0∨65535 < z
  · rw [show oDg z x=[] from if_pos hz]
    have hf:bG 0 65535 z=false:=by unfold bG;rcases hz with h | h<;>simp<;>omega
    rw [hf] at HFI
    clear HIT HRA HIN s1 a1 hz m
    obtain ⟨W,hW⟩:∃W:World,W=w.alloc (.cells #[.int .i64 x.k,.slice ra x.raw.length rc,.string ⟨x.op.toArray⟩,.slice va x.args.length vc,.bool x.al] 40):=⟨_,rfl⟩
    rw [←hW] at HF
    go_enter Tryz.func16,Tryz.ntmps16
    go_upto_region 1 with fail
    rw [←hW]
    clear hW
    go_wp2_with (go_at_call 38;refine (HFI.out _ _ (Blk.cell (Blk.new W _ _) 0)).mono ?_;rintro e w2 ⟨rfl,hw2⟩;have HF2:=aA (HF.out.alloc (.cells #[.int .i64 z] 3));subst hw2)
    go_ret
    exact ⟨rfl,HF2.out.below⟩
  obtain ⟨n,rfl⟩:∃n:Nat,z=n:=⟨z.toNat,by omega⟩
  have hn:n≤65535:=by omega
  have hf:bG 0 65535 (n:Int)=true:=by unfold bG;simp;omega
  rw [hf] at HFI
  have HC1:=aA (fun W=>oEg n hn (.int .i64 x.k) (.slice ra x.raw.length rc) (.string ⟨x.op.toArray⟩) (.slice va x.args.length vc) (.bool x.al) W)
  have HT:Hid _:=oFh hn x
  have hl1:(qG n 4).length=4:=oAk 4 n
  have hl2:(oEf x.raw).length≤2700:=by have:=oCc x.raw;have:=m.r;omega
  have hl3:=oDx x m
  have hl4:=oCf _ m.m
  generalize oDg (n:Int) x=TT at *
  generalize oBa ⟨⟨x.op.toArray⟩,x.args⟩=TN at *
  generalize oCk x=TI at *
  generalize oEf x.raw=TR at *
  generalize qG n 4=TA at *
  obtain ⟨SA,hSA⟩:∃S:ByteArray,S=⟨TA.toArray⟩:=⟨_,rfl⟩
  obtain ⟨SR,hSR⟩:∃S:ByteArray,S=⟨TR.toArray⟩:=⟨_,rfl⟩
  obtain ⟨SI,hSI⟩:∃S:ByteArray,S=⟨TI.toArray⟩:=⟨_,rfl⟩
  obtain ⟨SN,hSN⟩:∃S:ByteArray,S=⟨TN.toArray⟩:=⟨_,rfl⟩
  have HDA:Hid (SA.data.toList=TA):=aA (by rw [hSA])
  have HDR:Hid (SR.data.toList=TR):=aA (by rw [hSR])
  have HDI:Hid (SI.data.toList=TI):=aA (by rw [hSI])
  have HDN:Hid (SN.data.toList=TN):=aA (by rw [hSN])
  have hs1:SA.size=4:=by rw [hSA];exact hl1
  have hs2:SR.size=TR.length:=by rw [hSR];rfl
  have hs3:SI.size=TI.length:=by rw [hSI];rfl
  have hs4:SN.size=TN.length:=by rw [hSN];rfl
  have hb2:SR.size≤2700:=by omega
  have hb3:SI.size≤10000:=by omega
  have hb4:SN.size≤10000:=by omega
  rw [←hSA] at HC1
  rw [←hSR] at HRA
  rw [←hSI] at HIT
  rw [←hSN] at HIN
  have hpd:oEm TR.length≤12:=by unfold oEm;split<;>omega
  have HP1:Hid (∀W:World,Calls Tryz.prog 44 #[.string ⟨#[32]⟩,.int .i64 2] W fun e w'=>e=.returned (.string ⟨#[32,32]⟩)∧RowKit.Below W.heap.size W w'):=aA (fun W=>oDt 2 (by decide) W)
  have HP2:=aA (fun W=>oEz 12 SR.size (oEm TR.length) (by unfold oEm;split<;>omega) (by omega) W)
  have HLN:Hid (∀k,k≤3→(oDv TA TR TI k).length≤100000):=aA (fun k _=>by
    unfold oDv
    split
    · exact Nat.zero_le _
    split
    · simp;omega
    split
    · simp;omega
    · simp;omega)
  have HN1:Hid (oDv TA TR TI 1=([]++SA.data.toList)++List.replicate 2 32):=aA (by rw [HDA.out];rfl)
  have HN2:Hid (oDv TA TR TI 2=(oDv TA TR TI 1++SR.data.toList)++List.replicate (oEm TR.length) 32):=aA (by rw [HDR.out];rfl)
  have HN3:Hid (oDv TA TR TI 3=oDv TA TR TI 2++SI.data.toList):=aA (by rw [HDI.out];rfl)
  have HN0:Hid (oDv TA TR TI 0=[]):=aA rfl
  generalize oDv TA TR TI=PR at *
  generalize oEm TR.length=pn at *
  have HPS:Hid ((⟨(List.replicate pn 32).toArray⟩:ByteArray).size=pn):=aA (by show (List.replicate pn 32).length=pn;simp)
  obtain ⟨k0,R,op,args,al⟩:=x
  dsimp only at *
  obtain ⟨O,hO⟩:∃S:ByteArray,S=⟨op.toArray⟩:=⟨_,rfl⟩
  rw [←hO] at HC1 HRA HIT HIN HF ⊢
  clear hO hSA hSR hSI hSN hl1 hl2 hl3 hl4 hs2 hs3 hs4 s1 a1 m hn hf hz
  obtain ⟨W,hW⟩:∃W:World,W=w.alloc (.cells #[.int .i64 k0,.slice ra R.length rc,.string O,.slice va args.length vc,.bool al] 40):=⟨_,rfl⟩
  rw [←hW] at HF
  obtain ⟨⟨c0,c1,c2,c3,c4⟩,_⟩:=(HF.out.blk 0 rfl).five
  go_enter Tryz.func16,Tryz.ntmps16
  go_upto_region 1 with fail
  rw [←hW]
  clear hW
  go_upto_region 4 with (go_at_call 38;refine (HFI.out _ _ (Blk.cell (Blk.new W _ _) 0)).mono ?_;rintro e w2 ⟨rfl,hw2⟩;have HF2:=aA ((HF.out.alloc (.cells #[.int .i64 (n:Int)] 3)));rw [←hw2] at HF2;clear hw2)
  have HF3:=aA (HF2.out.alloc (.cells #[.func (.func 39) #[] #[],.int .i64 6,.func (.func 41) #[] #[],.int .i64 12,.func (.func 42) #[] #[],.int .i64 0] 64))
  have HA3:=aA (Blk.new w2 64 #[.func (.func 39) #[] #[],.int .i64 6,.func (.func 41) #[] #[],.int .i64 12,.func (.func 42) #[] #[],.int .i64 0])
  obtain ⟨W3,hW3⟩:∃W:World,W=w2.alloc (.cells #[.func (.func 39) #[] #[],.int .i64 6,.func (.func 41) #[] #[],.int .i64 12,.func (.func 42) #[] #[],.int .i64 0] 64):=⟨_,rfl⟩
  rw [←hW3] at HF3 HA3 ⊢
  clear hW3
  have HLT:Hid (w.heap.size < W3.heap.size):=(HF3.out.blk 0 rfl).lt
  have HR0:=aA (oBb.start HF3.out (fun x hx=>by obtain rfl:=List.mem_singleton.1 hx;exact HLT.out))
  have HA4:=aA (HA3.out.below ((Below.refl W3.heap.size W3).alloc (Nat.le_refl _) (.cells #[.pointer none,.slice none 0 0] 67)) HA3.out.lt)
  generalize w2.heap.size=ba at *
  have hal:=HA4.out.lt
  obtain ⟨W4,hW4⟩:∃W:World,W=W3.alloc (.cells #[.pointer none,.slice none 0 0] 67):=⟨_,rfl⟩
  rw [←hW4] at HR0 HA4 hal
  have q0:=HA4.out.cell 0
  have q1:=HA4.out.cell 1
  have q2:=HA4.out.cell 2
  have q3:=HA4.out.cell 3
  have q4:=HA4.out.cell 4
  have q5:=HA4.out.cell 5
  go_upto_region 5 with fail
  rw [←hW4]
  clear hW4
  generalize W3.heap.size=bb at *
  go_wp2
  go_loopw [19] (fun i wr=>∃(k:Nat) (vb:Value),k≤3∧i=.int .i64 k∧oBb w [(w.heap.size,40,#[.int .i64 k0,.slice ra R.length rc,.string O,.slice va args.length vc,.bool al])] bb vb (PR k) wr) (fun i _=>3 - (intOf i).toNat)
  case atStart=>exact ⟨0,_,by decide,rfl,by rw [HN0.out];exact HR0.out⟩
  case round=>
    obtain ⟨k,vb,hk,rfl,hr⟩:=hrel
    have HR:=aA hr
    clear hr
    have hk4:k=0∨k=1∨k=2∨k=3:=by omega
    rcases hk4 with rfl | rfl | rfl | rfl
    · skip
      have HCK:=aA ((Blk.new wr 63 #[.func (.func 39) #[] #[],.int .i64 6]))
      have HR1:=aA (HR.out.alloc (.cells #[.func (.func 39) #[] #[],.int .i64 6] 63))
      have hix:=fun wz=>oFy wz
      go_upto_region 8 with fail
      clear hix
      obtain ⟨W1,hW1⟩:∃W:World,W=wr.alloc (.cells #[.func (.func 39) #[] #[],.int .i64 6] 63):=⟨_,rfl⟩
      rw [←hW1] at HCK HR1 ⊢
      clear hW1
      have HFG:=aA HR.out.fresh
      generalize wr.heap.size=g8 at *
      obtain ⟨u0,u1⟩:=HCK.out.pair
      obtain ⟨⟨c0,c1,c2,c3,c4⟩,_⟩:=(HR1.out.fr.blk 0 rfl).five
      go_upto_region 10 with (first
        | (go_at_call 39;(with_reducible refine (HC1.out _).mono ?_);rintro e w4 ⟨rfl,hb⟩;have HR2:=aA (HR1.out.next hb);have HK2:=aA (HCK.out.below hb HCK.out.lt);clear hb u0 u1 c0 c1 c2 c3 c4)
        | (go_at_call 43;refine (HR2.out.write SA (by have:=HLN.out 0 (by decide);omega)).mono ?_;rintro e w5 ⟨rfl,⟨v5,hr5⟩,hkp⟩;have HR5:=aA hr5;obtain ⟨u0,u1⟩:=(hkp _ _ _ HK2.out HFG.out.1 HFG.out.2).pair;clear hr5 hkp))
      go_wp2_with (first
        | (go_at_call 44;(with_reducible refine (HP1.out _).mono ?_);rintro e w6 ⟨rfl,hb⟩;have HR6:=aA (HR5.out.next hb);clear hb)
        | (go_at_call 43;refine (HR6.out.write ⟨#[32,32]⟩ (by rw [List.length_append];have:=HLN.out 0 (by decide);show _+SA.size+2≤_;omega)).mono ?_;rintro e w7 ⟨rfl,⟨v7,hr7⟩,_⟩;have HR7:=aA hr7;clear hr7))
      go_roundw
      case rel=>exact ⟨1,v7,by decide,rfl,by rw [HN1.out];have:=HR7.out;rw [HN0.out] at this;exact this⟩
      case measure=>simp [intOf]
    · skip
      have HCK:=aA ((Blk.new wr 63 #[.func (.func 41) #[] #[],.int .i64 12]))
      have HR1:=aA (HR.out.alloc (.cells #[.func (.func 41) #[] #[],.int .i64 12] 63))
      have hix:=fun wz=>oFs wz
      go_upto_region 8 with fail
      clear hix
      obtain ⟨W1,hW1⟩:∃W:World,W=wr.alloc (.cells #[.func (.func 41) #[] #[],.int .i64 12] 63):=⟨_,rfl⟩
      rw [←hW1] at HCK HR1 ⊢
      clear hW1
      have HFG:=aA HR.out.fresh
      generalize wr.heap.size=g8 at *
      obtain ⟨u0,u1⟩:=HCK.out.pair
      obtain ⟨⟨c0,c1,c2,c3,c4⟩,_⟩:=(HR1.out.fr.blk 0 rfl).five
      go_upto_region 10 with (first
        | (go_at_call 41;(with_reducible refine (HRA.out _ HR1.out.fr.below).mono ?_);rintro e w4 ⟨rfl,hb⟩;have HR2:=aA (HR1.out.next hb);have HK2:=aA (HCK.out.below hb HCK.out.lt);clear hb u0 u1 c0 c1 c2 c3 c4)
        | (go_at_call 43;refine (HR2.out.write SR (by have:=HLN.out 1 (by decide);omega)).mono ?_;rintro e w5 ⟨rfl,⟨v5,hr5⟩,hkp⟩;have HR5:=aA hr5;obtain ⟨u0,u1⟩:=(hkp _ _ _ HK2.out HFG.out.1 HFG.out.2).pair;clear hr5 hkp))
      go_wp2_with (first
        | (go_at_call 44;(with_reducible refine (HP2.out _).mono ?_);rintro e w6 ⟨rfl,hb⟩;have HR6:=aA (HR5.out.next hb);clear hb)
        | (go_at_call 43;refine (HR6.out.write ⟨(List.replicate pn 32).toArray⟩ (by rw [List.length_append];have:=HLN.out 1 (by decide);rw [HPS.out];show _+SR.size+pn≤_;omega)).mono ?_;rintro e w7 ⟨rfl,⟨v7,hr7⟩,_⟩;have HR7:=aA hr7;clear hr7))
      go_roundw
      case rel=>exact ⟨2,v7,by decide,rfl,by rw [HN2.out];exact HR7.out⟩
      case measure=>simp [intOf]
    · skip
      have HCK:=aA ((Blk.new wr 63 #[.func (.func 42) #[] #[],.int .i64 0]))
      have HR1:=aA (HR.out.alloc (.cells #[.func (.func 42) #[] #[],.int .i64 0] 63))
      have hix:=fun wz=>oFr wz
      go_upto_region 8 with fail
      clear hix
      obtain ⟨W1,hW1⟩:∃W:World,W=wr.alloc (.cells #[.func (.func 42) #[] #[],.int .i64 0] 63):=⟨_,rfl⟩
      rw [←hW1] at HCK HR1 ⊢
      clear hW1
      have HFG:=aA HR.out.fresh
      generalize wr.heap.size=g8 at *
      obtain ⟨u0,u1⟩:=HCK.out.pair
      obtain ⟨⟨c0,c1,c2,c3,c4⟩,_⟩:=(HR1.out.fr.blk 0 rfl).five
      go_upto_region 10 with (first
        | (go_at_call 42;(with_reducible refine (HIT.out _ HR1.out.fr.below).mono ?_);rintro e w4 ⟨rfl,hb⟩;have HR2:=aA (HR1.out.next hb);have HK2:=aA (HCK.out.below hb HCK.out.lt);clear hb u0 u1 c0 c1 c2 c3 c4)
        | (go_at_call 43;refine (HR2.out.write SI (by have:=HLN.out 2 (by decide);omega)).mono ?_;rintro e w5 ⟨rfl,⟨v5,hr5⟩,hkp⟩;have HR5:=aA hr5;obtain ⟨u0,u1⟩:=(hkp _ _ _ HK2.out HFG.out.1 HFG.out.2).pair;clear hr5 hkp))
      go_wp2
      go_roundw
      case rel=>exact ⟨3,v5,by decide,rfl,by rw [HN3.out];exact HR5.out⟩
      case measure=>simp [intOf]
    · obtain ⟨⟨c0,c1,c2,c3,c4⟩,_⟩:=(HR.out.fr.blk 0 rfl).five
      cases al
      · go_wp2_with (go_at_call 45;refine HR.out.text.mono ?_;rintro e w8 ⟨rfl,hb⟩;have HB8:=aA hb;clear hb)
        go_ret
        exact ⟨by rw [HT.out];simp,HB8.out⟩
      · have hcat:=fun wz=>run_string_add_sum (P:=Tryz.prog) wz ⟨#[32,32,59,32]⟩ SN (by show 4+SN.size≤_;omega)
        have HSC:Hid ((⟨#[32,32,59,32]⟩++SN:ByteArray).data.toList=[32,32,59,32]++TN):=aA (by rw [oAb,HDN.out])
        have HSD:Hid ((⟨#[32,32,59,32]⟩++SN:ByteArray).size≤20000):=aA (by rw [ByteArray.size_append];show 4+SN.size≤_;omega)
        have HWR:=aA (fun (W:World) (v:Value) (h:oBb w [(w.heap.size,40,#[.int .i64 k0,.slice ra R.length rc,.string O,.slice va args.length vc,.bool true])] bb v (PR 3) W)=>h.write (⟨#[32,32,59,32]⟩++SN:ByteArray) (by have:=HLN.out 3 (by decide);have:=HSD.out;omega))
        rw [HSC.out] at HWR
        go_wp2_with (first
          | (go_at_call 9;(with_reducible refine (HIN.out _ HR.out.fr.below).mono ?_);rintro e w8 ⟨rfl,hb⟩;have HR8:=aA (HR.out.next hb);clear hb)
          | (go_at_call 43;(with_reducible refine (HWR.out _ _ HR8.out).mono ?_);rintro e w9 ⟨rfl,⟨v9,hr9⟩,_⟩;have HR9:=aA hr9;clear hr9)
          | (go_at_call 45;refine HR9.out.text.mono ?_;rintro e w10 ⟨rfl,hb⟩;have HB10:=aA hb;clear hb))
        go_ret
        exact ⟨by rw [HT.out];simp,HB10.out⟩
end Go.Proofs.YtcgheipmnphbjaaGreatDoor
namespace Go.Proofs.YtcgheipmnphbjaaGreatDoor
set_option maxHeartbeats 8000000
set_option maxRecDepth 100000
open Go.RowKit Go.Shelf Go.Sort
def shC (x:Ins):Bool:=decide (x.op.size≤100)&&decide (x.args.length≤20)
theorem oBv (p:aB) (x:Ins) (v:Value) (w:World) (h:SlR aM w p v x.args):
    Calls Tryz.prog 6 #[.agg #[.string x.op,v]] w fun e w'=>e=.returned (.bool (shC x))∧RowKit.Below w.heap.size w w':=by
  obtain ⟨s,l⟩:=x
  dsimp only at *
  obtain ⟨a,c,rfl,_⟩:=h.opd
  clear h
  have HB:Hid (RowKit.Below w.heap.size w (w.alloc (.cells #[.string s,.slice a l.length c] 24))):=(Below.refl _ _).alloc (Nat.le_refl _) _
  have HL0:Hid (decide ((s.size:Int)≤100)=false→shC ⟨s,l⟩=false):=fun h1=>by
    have h1:=of_decide_eq_false h1;simp [shC];omega
  have HL1:Hid (∀b,decide ((s.size:Int)≤100)=true→decide ((l.length:Int)≤20)=b→shC ⟨s,l⟩=b):=fun b h1 h2=>by
    subst h2;have h1:=of_decide_eq_true h1;simp [shC];rw [decide_eq_true (show s.size≤100 by omega)];simp;omega
  cases h1:decide ((s.size:Int)≤100)
  · go_enter Tryz.func6,Tryz.ntmps6
    go_wp2
    go_ret
    exact ⟨aF (HL0.out h1).symm,HB.out⟩
  · cases h2:decide ((l.length:Int)≤20)
    all_goals
      go_enter Tryz.func6,Tryz.ntmps6
      go_wp2
      go_ret
      exact ⟨aF (HL1.out _ h1 h2).symm,HB.out⟩
def insA:Ins:=⟨⟨#[65,68,68]⟩,[⟨6,0,-1⟩]⟩
theorem mildA:CV insA:=⟨by decide,by decide,by intro y hy;simp [insA] at hy;rcases hy with rfl;exact ⟨by decide,by decide⟩⟩
theorem oFx:dG ⟨#[65,68,68]⟩=⟨#[65,68,68]⟩:=by decide+kernel
theorem oDs:oBa insA=[65,68,68,32,65,44,48,70,70,72]:=by decide+kernel
def exA:List UInt8:=[33,52,18]
theorem oEt:oDg 256 ((itF exA).it exA)=[48,49,48,48,32,32,50,49,32,51,52,32,49,50,32,32,32,32,76,68,32,72,76,44,49,50,51,52,72]:=by decide+kernel
theorem oFo:(decide ((itF exA).op.length≤100)&&(decide ((itF exA).args.length≤20)&&(itF exA).args.all fun o=>decide (-100000≤o.n)&&decide (o.n≤100000)))=true:=by decide+kernel
theorem oEn:oCq ((itF exA).it exA):=by
  obtain ⟨h1,h2⟩:=Bool.and_eq_true_iff.1 oFo
  obtain ⟨h2,h3⟩:=Bool.and_eq_true_iff.1 h2
  refine ⟨⟨of_decide_eq_true h1,of_decide_eq_true h2,fun y hy=>?_⟩,?_⟩
  · obtain ⟨a,b⟩:=Bool.and_eq_true_iff.1 (List.all_eq_true.1 h3 y hy)
    have:=of_decide_eq_true a
    have:=of_decide_eq_true b
    unfold cN
    omega
  · show (exA.take _).length≤900
    rw [List.length_take]
    show min _ 3≤900
    omega
theorem oDz (w:World) (q:aB) (l:List Opd) (cs:Array Value) (m:Nat) (hm:m=l.length) (hcs:cs.toList=l.flatMap Opd.cells) (hl:l.length≤1000000) (hq:∀k,w.heap.size≤k→q k):
    SlR aM (w.alloc (.cells cs 49)) q (.slice (some ⟨w.heap.size,0,none⟩) m m) l:=fS w _ q l cs m hm hcs hl hq
theorem oEe (w:World) (q:aB) (l:List UInt8) (cs:Array Value) (m:Nat) (hm:m=l.length) (hcs:cs.toList=l.flatMap fun (x:UInt8)=>[.int .u8 x.toNat]) (hl:l.length≤1000000) (hq:∀k,w.heap.size≤k→q k):
    SlR aI (w.alloc (.cells cs 5)) q (.slice (some ⟨w.heap.size,0,none⟩) m m) l:=fS w _ q l cs m hm hcs hl hq
theorem litS1 (w:World):SlR aM (w.alloc (.cells #[.int .i64 6,.int .i64 0,.int .i64 (-1)] 49)) (fun _=>True) (.slice (some ⟨w.heap.size,0,none⟩) 1 1) [⟨6,0,-1⟩]:=oDz w _ [⟨6,0,-1⟩] _ 1 rfl rfl (by decide) (fun _ _=>trivial)
theorem litS2 (w:World):SlR aI (w.alloc (.cells #[.int .u8 33,.int .u8 52,.int .u8 18] 5)) (fun _=>True) (.slice (some ⟨w.heap.size,0,none⟩) 3 3) exA:=oEe w _ [33,52,18] _ 3 rfl rfl (by decide) (fun _ _=>trivial)
theorem oAv (w:World) (hT:Spc w) (hD:Deb w):Calls Tryz.prog 7 #[] w fun e w'=>e=.returned (.bool true)∧RowKit.Below w.heap.size w w':=by
  have HM:=aA (fun p v W h=>mC p ⟨#[65,68,68]⟩ v [⟨6,0,-1⟩] W h (by decide) (by decide))
  rw [oFx] at HM
  have HX1:=aA (HM.out _ _ _ (litS1 w))
  have HA:=aA ((Fr.start w).alloc (.cells #[.int .i64 6,.int .i64 0,.int .i64 (-1)] 49))
  have HI:=aA (fun p v W h (hb:RowKit.Below w.heap.size w W)=>oAe insA mildA p v W h (hT.below hb) (hD.below hb))
  have HFI:=aA (fun W (hb:RowKit.Below w.heap.size w (W.alloc (.cells #[.int .u8 33,.int .u8 52,.int .u8 18] 5)))=>kE _ _ _ exA _ (hT.below hb) (litS2 W) (by decide) (by decide))
  have HRO:=aA (fun p v W h (hb:RowKit.Below w.heap.size w W)=>oFd 256 _ oEn p v W h (hT.below hb) (hD.below hb))
  rw [oDs] at HI
  rw [oEt] at HRO
  clear hT hD HM
  go_enter Tryz.func7,Tryz.ntmps7
  go_wp2_with (first
    | (go_at_call 21;refine HX1.out.mono ?_;rintro e w1 ⟨v1,rfl,ho1,hb1⟩;have HO1:=aA (Own.slR (q:=fun _=>True) ho1 (fun _ h=>h.elim) (fun _ _=>trivial));have HF1:=aA (HA.out.next hb1);clear hb1 ho1)
    | (go_at_call 9;refine (HI.out _ _ _ HO1.out HF1.out.below).mono ?_;rintro e w2 ⟨rfl,hb⟩;have HF2:=aA ((HF1.out.next hb).alloc (.cells #[.int .u8 33,.int .u8 52,.int .u8 18] 5));clear hb)
    | (go_at_call 22;refine (HFI.out _ HF2.out.below).mono ?_;rintro e w3 ⟨⟨v3,rfl,hv⟩,hb⟩;have HV3:=aA hv.it;have HF3:=aA (HF2.out.next hb);clear hb hv)
    | (go_at_call 16;refine (HRO.out _ _ _ HV3.out HF3.out.below).mono ?_;rintro e w4 ⟨rfl,hb⟩;have HF4:=aA (HF3.out.next hb);clear hb))
  go_ret
  exact ⟨rfl,HF4.out.below⟩
end Go.Proofs.YtcgheipmnphbjaaGreatDoor
namespace Go.Proofs.YtcgheipmnphbjaaGreatDoor
open Go.RowKit Go.ChangeShapes Go.WideShapes Go.ChangeAt Go.Deep Go.Joins
theorem gDeb:Tryz.prog.globalNamed "math/bits.deBruijn64tab" =some 5:=by kernel_rfl
def YC {H:Type}:DataW H:=Lib.tabData .u8 (Lib.deBruijn64tab.map fun (n:Nat)=>(n:Int))
theorem deb_of_reads {w:World} (h:Lib.VarReads Tryz.prog w "math/bits.deBruijn64tab" YC):Deb w:=by
  obtain ⟨g,t,cs,fuel,p,hg,ht,hv,hd⟩:=h
  obtain rfl:=Option.some.inj (gDeb.symm.trans hg)
  obtain rfl:=Option.some.inj ((show (Tryz.prog.globals[5]?).map (·.type)=some 259 by kernel_rfl).symm.trans ht)
  have hcs:=Lib.cells_of_tab Tryz.underlying259 Tryz.underlying5 (by kernel_rfl) (by kernel_rfl) hd
  intro j hj
  rw [World.var?_cell hg hv j,←Array.getElem?_toList,hcs]
  rw [List.map_map,List.getElem?_map,List.getElem?_eq_getElem hj,List.getD_eq_getElem?_getD,List.getElem?_eq_getElem hj]
  rfl
theorem bounds64 {n:Int} (h:(Lit.int .i64 n).wf=true):cN n:=by
  unfold Lit.wf at h
  simp only [Bool.and_eq_true,decide_eq_true_eq] at h
  exact h
end Go.Proofs.YtcgheipmnphbjaaGreatDoor
namespace Go.Proofs.YtcgheipmnphbjaaGreatDoor
set_option maxRecDepth 100000
open Go.RowKit Go.ChangeShapes Go.WideShapes Go.ChangeAt Go.Deep Go.Joins
variable {H:Type} {enc:TypeId × Value→H} {W:World}
theorem bounds_i8 {n:Int} (h:(Lit.int .i8 n).wf=true):-128≤n∧n≤127:=by
  unfold Lit.wf at h
  simp only [Bool.and_eq_true,decide_eq_true_eq] at h
  exact h
theorem c_byteDn:Tryz.prog.cellsOf 5=1:=by kernel_rfl
theorem open_bytes_arg {b0:Nat} {v:Value} {d:DataW H} {p:List MemPlace} (hv:Value.okWide Tryz.prog W .any b0 38 v) (h:DataW.Trod enc Tryz.prog W 0 (fun _=>true) true 38 v d p):
    ∃l,SlR aI W (fun _=>True) v l∧True:=by
  obtain ⟨a,n,c,rfl⟩:=okWide_slice Tryz.underlying38 hv
  obtain ⟨fuel,hf⟩:=h
  obtain ⟨v,l,e,hs,_⟩:=qI (α:=UInt8) (f:=fun n=>.int .u8 n.toNat) (h1:=fun x u hu=>by simp at hu;subst hu;rfl) (Q:=fun _=>True) Tryz.underlying38 c_byteDn (fun n v y ht=>by
    obtain ⟨k,q,_,wf⟩:=DataW.trod_int Tryz.underlying5 ht
    obtain rfl:=List.cons.inj q |>.1
    have hb:=bounds_u8 wf
    refine ⟨UInt8.ofNat k.toNat,?_,trivial⟩
    have e:((UInt8.ofNat k.toNat).toNat:Int)=k:=by
      rw [UInt8.toNat_ofNat']
      omega
    rw [e]) hf
  rw [lN] at e
  obtain rfl:=List.cons.inj e |>.1
  exact ⟨l,hs,trivial⟩
end Go.Proofs.YtcgheipmnphbjaaGreatDoor
