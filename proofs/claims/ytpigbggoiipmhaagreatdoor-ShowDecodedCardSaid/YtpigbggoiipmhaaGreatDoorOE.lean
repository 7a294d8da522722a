/-
  show.Row. Conditions: the library's tables as their initialisers lay them; a short item. breadboardlaw15.short, alive. Conditions: the library's tables as their initialisers lay them. The table of math/bits as a row lists it; bounds of an argument. Conditions: none. Arguments opened: bytes; the bounds of an int8. The first item of any bytes: the entry it is made of; its instruction is mild. Conditions: none. The items of any bytes: those that are instructions and no aliases are legal, each has a text. Conditions: none. show.Items fR the items of some bytes; the law ShowDecoded. Conditions: the library's tables as their initialisers lay them; sizes.
-/
import Derived.Test.YtpigbggoiipmhaaGreatDoorOC
namespace Go.Proofs.YtpigbggoiipmhaaGreatDoor
set_option maxHeartbeats 8000000
set_option maxRecDepth 100000
open Go.RowKit Go.Shelf Go.Sort
theorem oDt (c:Nat) (hc:c≤100) (w:World):Calls Tryz.prog 65 #[.string ⟨#[32]⟩,.int .i64 c] w fun e w'=>e=.returned (.string ⟨(List.replicate c 32).toArray⟩)∧RowKit.Below w.heap.size w w':=
  (Tryz.strings_Repeat ⟨#[32]⟩ c w (by omega) (by show 1 * c≤_;omega)).mono fun e w' ⟨h1,h2⟩=>⟨by rw [h1];have:=Lib.repeatL_replicate 32 1 c;rw [Nat.mul_one] at this;exact oAs (congrArg (fun l:List UInt8=>(⟨l.toArray⟩:ByteArray)) this),h2⟩
theorem oEz (a:Int) (n c:Nat) (h:max (a - (n:Int)) 2=(c:Int)) (hc:c≤100) (w:World):Calls Tryz.prog 65 #[.string ⟨#[32]⟩,.int .i64 (max (a - (n:Int)) 2)] w fun e w'=>e=.returned (.string ⟨(List.replicate c 32).toArray⟩)∧RowKit.Below w.heap.size w w':=by
  rw [h];exact oDt c hc w
theorem oCf (x:Ins) (m:CV x):(oBa x).length≤10000:=by
  have h1:x.op.data.toList.length≤100:=m.op
  have h2:=oAm (aE x).args
  have h3:=mB x
  have h4:=m.n
  unfold oBa
  split
  · unfold oEr
    split
    · omega
    · rw [List.length_append,List.length_cons];omega
  · exact Nat.zero_le _
theorem oDx (x:It) (m:oCq x):(oCk x).length≤10000:=by
  have h1:=oCf _ m.m
  have h2:=oCj x.raw
  have h3:=m.r
  unfold oCk
  split
  · exact h1
  · omega
def oDv (a r i:List UInt8) (k:Nat):List UInt8:=if k=0 then [] else if k=1 then a++List.replicate 2 32 else if k=2 then a++List.replicate 2 32++r++List.replicate (oEm r.length) 32 else a++List.replicate 2 32++r++List.replicate (oEm r.length) 32++i
theorem oFh {n:Nat} (hn:n≤65535) (x:It):oDg (n:Int) x=oDv (qG n 4) (oEf x.raw) (oCk x) 3++(if x.al=true then [32,32,59,32]++oBa ⟨⟨x.op.toArray⟩,x.args⟩ else []):=by
  unfold oDg
  rw [if_neg (by omega)]
  rfl
theorem oFy (w:World):(Instr.index 100 (.agg #[.func (.func 60) #[] #[],.int .i64 6,.func (.func 62) #[] #[],.int .i64 12,.func (.func 63) #[] #[],.int .i64 0]) (.int .i64 0)).run Tryz.prog w=.ok (.agg #[.func (.func 60) #[] #[],.int .i64 6]) w:=by kernel_rfl
theorem oFs (w:World):(Instr.index 100 (.agg #[.func (.func 60) #[] #[],.int .i64 6,.func (.func 62) #[] #[],.int .i64 12,.func (.func 63) #[] #[],.int .i64 0]) (.int .i64 1)).run Tryz.prog w=.ok (.agg #[.func (.func 62) #[] #[],.int .i64 12]) w:=by kernel_rfl
theorem oFr (w:World):(Instr.index 100 (.agg #[.func (.func 60) #[] #[],.int .i64 6,.func (.func 62) #[] #[],.int .i64 12,.func (.func 63) #[] #[],.int .i64 0]) (.int .i64 2)).run Tryz.prog w=.ok (.agg #[.func (.func 63) #[] #[],.int .i64 0]) w:=by kernel_rfl
theorem oFd (z:Int) (x:It) (m:oCq x) (p:aB) (v:Value) (w:World) (h:ItP w p x v) (hT:Spc w) (hD:Deb w):
    Calls Tryz.prog 24 #[.int .i64 z,v] w fun e w'=>e=.returned (.string ⟨(oDg z x).toArray⟩)∧RowKit.Below w.heap.size w w':=by
  have HIT:=aA (fun W (hb:RowKit.Below w.heap.size w W)=>oEo z x m p v W (h.belowS hb) (hT.below hb) (hD.below hb))
  have HRA:=aA (fun W (hb:RowKit.Below w.heap.size w W)=>oEl z x m.r p v W (h.belowS hb))
  have HFI:=aA (fun b W h=>sV 0 65535 z b W h)
  obtain ⟨ra,rc,va,vc,rfl,s1,a1⟩:=h
  have HIN:=aA (fun W (hb:RowKit.Below w.heap.size w W)=>oAe ⟨⟨x.op.toArray⟩,x.args⟩ m.m p _ W (a1.below hb) (hT.below hb) (hD.below hb))
  unfold kY at *
  have HF:=aA ((Fr.start w).new' 32 #[.int .i64 x.k,.slice ra x.raw.length rc,.string ⟨x.op.toArray⟩,.slice va x.args.length vc,.bool x.al] (b:=w.heap.size) rfl)
  by_cases hz:z < 0∨65535 < z
  · rw [show oDg z x=[] from if_pos hz]
    have hf:bG 0 65535 z=false:=by unfold bG;rcases hz with h | h<;>simp<;>omega
    rw [hf] at HFI
    clear HIT HRA HIN s1 a1 hz m
    obtain ⟨W,hW⟩:∃W:World,W=w.alloc (.cells #[.int .i64 x.k,.slice ra x.raw.length rc,.string ⟨x.op.toArray⟩,.slice va x.args.length vc,.bool x.al] 32):=⟨_,rfl⟩
    rw [←hW] at HF
    go_enter Tryz.func24,Tryz.ntmps24
    go_upto_region 1 with fail
    rw [←hW]
    clear hW
    go_wp2_with (go_at_call 59;refine (HFI.out _ _ (Blk.cell (Blk.new W _ _) 0)).mono ?_;rintro e w2 ⟨rfl,hw2⟩;have HF2:=aA (HF.out.alloc (.cells #[.int .i64 z] 3));subst hw2)
    go_ret
    exact ⟨rfl,HF2.out.below⟩
  obtain ⟨n,rfl⟩:∃n:Nat,z=n:=⟨z.toNat,by omega⟩
  have hn:n≤65535:=by omega
  have hf:bG 0 65535 (n:Int)=true:=by unfold bG;simp;omega
  rw [hf] at HFI
  have HC1:=aA (fun W=>oEg n hn (.int .i64 x.k) (.slice ra x.raw.length rc) (.string ⟨x.op.toArray⟩) (.slice va x.args.length vc) (.bool x.al) W)
  have HT:Hid _:=oFh hn x
  have hl1:(qG n 4).length=4:=oAk 4 n
  have hl2:(oEf x.raw).length≤2700:=by have:=oCc x.raw;have:=m.r;omega
  have hl3:=oDx x m
  have hl4:=oCf _ m.m
  generalize oDg (n:Int) x=TT at *
  generalize oBa ⟨⟨x.op.toArray⟩,x.args⟩=TN at *
  generalize oCk x=TI at *
  generalize oEf x.raw=TR at *
  generalize qG n 4=TA at *
  obtain ⟨SA,hSA⟩:∃S:ByteArray,S=⟨TA.toArray⟩:=⟨_,rfl⟩
  obtain ⟨SR,hSR⟩:∃S:ByteArray,S=⟨TR.toArray⟩:=⟨_,rfl⟩
  obtain ⟨SI,hSI⟩:∃S:ByteArray,S=⟨TI.toArray⟩:=⟨_,rfl⟩
  obtain ⟨SN,hSN⟩:∃S:ByteArray,S=⟨TN.toArray⟩:=⟨_,rfl⟩
  have HDA:Hid (SA.data.toList=TA):=aA (by rw [hSA])
  have HDR:Hid (SR.data.toList=TR):=aA (by rw [hSR])
  have HDI:Hid (SI.data.toList=TI):=aA (by rw [hSI])
  have HDN:Hid (SN.data.toList=TN):=aA (by rw [hSN])
  have hs1:SA.size=4:=by rw [hSA];exact hl1
  have hs2:SR.size=TR.length:=by rw [hSR];rfl
  have hs3:SI.size=TI.length:=by rw [hSI];rfl
  have hs4:SN.size=TN.length:=by rw [hSN];rfl
  have hb2:SR.size≤2700:=by omega
  have hb3:SI.size≤10000:=by omega
  have hb4:SN.size≤10000:=by omega
  rw [←hSA] at HC1
  rw [←hSR] at HRA
  rw [←hSI] at HIT
  rw [←hSN] at HIN
  have hpd:oEm TR.length≤12:=by unfold oEm;split<;>omega
  have HP1:Hid (∀W:World,Calls Tryz.prog 65 #[.string ⟨#[32]⟩,.int .i64 2] W fun e w'=>e=.returned (.string ⟨#[32,32]⟩)∧RowKit.Below W.heap.size W w'):=aA (fun W=>oDt 2 (by decide) W)
  have HP2:=aA (fun W=>oEz 12 SR.size (oEm TR.length) (by unfold oEm;split<;>omega) (by omega) W)
  have HLN:Hid (∀k,k≤3→(oDv TA TR TI k).length≤100000):=aA (fun k _=>by
    unfold oDv
    split
    · exact Nat.zero_le _
    split
    · simp;omega
    split
    · simp;omega
    · simp;omega)
  have HN1:Hid (oDv TA TR TI 1=([]++SA.data.toList)++List.replicate 2 32):=aA (by rw [HDA.out];rfl)
  have HN2:Hid (oDv TA TR TI 2=(oDv TA TR TI 1++SR.data.toList)++List.replicate (oEm TR.length) 32):=aA (by rw [HDR.out];rfl)
  have HN3:Hid (oDv TA TR TI 3=oDv TA TR TI 2++SI.data.toList):=aA (by rw [HDI.out];rfl)
  have HN0:Hid (oDv TA TR TI 0=[]):=aA rfl
  generalize oDv TA TR TI=PR at *
  generalize oEm TR.length=pn at *
  have HPS:Hid ((⟨(List.replicate pn 32).toArray⟩:ByteArray).size=pn):=aA (by show (List.replicate pn 32).length=pn;simp)
  obtain ⟨k0,R,op,args,al⟩:=x
  dsimp only at *
  obtain ⟨O,hO⟩:∃S:ByteArray,S=⟨op.toArray⟩:=⟨_,rfl⟩
  rw [←hO] at HC1 HRA HIT HIN HF ⊢
  clear hO hSA hSR hSI hSN hl1 hl2 hl3 hl4 hs2 hs3 hs4 s1 a1 m hn hf hz
  obtain ⟨W,hW⟩:∃W:World,W=w.alloc (.cells #[.int .i64 k0,.slice ra R.length rc,.string O,.slice va args.length vc,.bool al] 32):=⟨_,rfl⟩
  rw [←hW] at HF
  obtain ⟨⟨c0,c1,c2,c3,c4⟩,_⟩:=(HF.out.blk 0 rfl).five
  go_enter Tryz.func24,Tryz.ntmps24
  go_upto_region 1 with fail
  rw [←hW]
  clear hW
  go_upto_region 4 with (go_at_call 59;refine (HFI.out _ _ (Blk.cell (Blk.new W _ _) 0)).mono ?_;rintro e w2 ⟨rfl,hw2⟩;have HF2:=aA ((HF.out.alloc (.cells #[.int .i64 (n:Int)] 3)));rw [←hw2] at HF2;clear hw2)
  have HF3:=aA (HF2.out.alloc (.cells #[.func (.func 60) #[] #[],.int .i64 6,.func (.func 62) #[] #[],.int .i64 12,.func (.func 63) #[] #[],.int .i64 0] 100))
  have HA3:=aA (Blk.new w2 100 #[.func (.func 60) #[] #[],.int .i64 6,.func (.func 62) #[] #[],.int .i64 12,.func (.func 63) #[] #[],.int .i64 0])
  obtain ⟨W3,hW3⟩:∃W:World,W=w2.alloc (.cells #[.func (.func 60) #[] #[],.int .i64 6,.func (.func 62) #[] #[],.int .i64 12,.func (.func 63) #[] #[],.int .i64 0] 100):=⟨_,rfl⟩
  rw [←hW3] at HF3 HA3 ⊢
  clear hW3
  have HLT:Hid (w.heap.size < W3.heap.size):=(HF3.out.blk 0 rfl).lt
  have HR0:=aA (oBb.start HF3.out (fun x hx=>by obtain rfl:=List.mem_singleton.1 hx;exact HLT.out))
  have HA4:=aA (HA3.out.below ((Below.refl W3.heap.size W3).alloc (Nat.le_refl _) (.cells #[.pointer none,.slice none 0 0] 103)) HA3.out.lt)
  generalize w2.heap.size=ba at *
  have hal:=HA4.out.lt
  obtain ⟨W4,hW4⟩:∃W:World,W=W3.alloc (.cells #[.pointer none,.slice none 0 0] 103):=⟨_,rfl⟩
  rw [←hW4] at HR0 HA4 hal
  have q0:=HA4.out.cell 0
  have q1:=HA4.out.cell 1
  have q2:=HA4.out.cell 2
  have q3:=HA4.out.cell 3
  have q4:=HA4.out.cell 4
  have q5:=HA4.out.cell 5
  go_upto_region 5 with fail
  rw [←hW4]
  clear hW4
  generalize W3.heap.size=bb at *
  go_wp2
  go_loopw [19] (fun i wr=>∃(k:Nat) (vb:Value),k≤3∧i=.int .i64 k∧oBb w [(w.heap.size,32,#[.int .i64 k0,.slice ra R.length rc,.string O,.slice va args.length vc,.bool al])] bb vb (PR k) wr) (fun i _=>3 - (intOf i).toNat)
  case atStart=>exact ⟨0,_,by decide,rfl,by rw [HN0.out];exact HR0.out⟩
  case round=>
    obtain ⟨k,vb,hk,rfl,hr⟩:=hrel
    have HR:=aA hr
    clear hr
    have hk4:k=0∨k=1∨k=2∨k=3:=by omega
    rcases hk4 with rfl | rfl | rfl | rfl
    · skip
      have HCK:=aA ((Blk.new wr 99 #[.func (.func 60) #[] #[],.int .i64 6]))
      have HR1:=aA (HR.out.alloc (.cells #[.func (.func 60) #[] #[],.int .i64 6] 99))
      have hix:=fun wz=>oFy wz
      go_upto_region 8 with fail
      clear hix
      obtain ⟨W1,hW1⟩:∃W:World,W=wr.alloc (.cells #[.func (.func 60) #[] #[],.int .i64 6] 99):=⟨_,rfl⟩
      rw [←hW1] at HCK HR1 ⊢
      clear hW1
      have HFG:=aA HR.out.fresh
      generalize wr.heap.size=g8 at *
      obtain ⟨u0,u1⟩:=HCK.out.pair
      obtain ⟨⟨c0,c1,c2,c3,c4⟩,_⟩:=(HR1.out.fr.blk 0 rfl).five
      go_upto_region 10 with (first
        | (go_at_call 60;(with_reducible refine (HC1.out _).mono ?_);rintro e w4 ⟨rfl,hb⟩;have HR2:=aA (HR1.out.next hb);have HK2:=aA (HCK.out.below hb HCK.out.lt);clear hb u0 u1 c0 c1 c2 c3 c4)
        | (go_at_call 64;refine (HR2.out.write SA (by have:=HLN.out 0 (by decide);omega)).mono ?_;rintro e w5 ⟨rfl,⟨v5,hr5⟩,hkp⟩;have HR5:=aA hr5;obtain ⟨u0,u1⟩:=(hkp _ _ _ HK2.out HFG.out.1 HFG.out.2).pair;clear hr5 hkp))
      go_wp2_with (first
        | (go_at_call 65;(with_reducible refine (HP1.out _).mono ?_);rintro e w6 ⟨rfl,hb⟩;have HR6:=aA (HR5.out.next hb);clear hb)
        | (go_at_call 64;refine (HR6.out.write ⟨#[32,32]⟩ (by rw [List.length_append];have:=HLN.out 0 (by decide);show _+SA.size+2≤_;omega)).mono ?_;rintro e w7 ⟨rfl,⟨v7,hr7⟩,_⟩;have HR7:=aA hr7;clear hr7))
      go_roundw
      case rel=>exact ⟨1,v7,by decide,rfl,by rw [HN1.out];have:=HR7.out;rw [HN0.out] at this;exact this⟩
      case measure=>simp [intOf]
    · skip
      have HCK:=aA ((Blk.new wr 99 #[.func (.func 62) #[] #[],.int .i64 12]))
      have HR1:=aA (HR.out.alloc (.cells #[.func (.func 62) #[] #[],.int .i64 12] 99))
      have hix:=fun wz=>oFs wz
      go_upto_region 8 with fail
      clear hix
      obtain ⟨W1,hW1⟩:∃W:World,W=wr.alloc (.cells #[.func (.func 62) #[] #[],.int .i64 12] 99):=⟨_,rfl⟩
      rw [←hW1] at HCK HR1 ⊢
      clear hW1
      have HFG:=aA HR.out.fresh
      generalize wr.heap.size=g8 at *
      obtain ⟨u0,u1⟩:=HCK.out.pair
      obtain ⟨⟨c0,c1,c2,c3,c4⟩,_⟩:=(HR1.out.fr.blk 0 rfl).five
      go_upto_region 10 with (first
        | (go_at_call 62;(with_reducible refine (HRA.out _ HR1.out.fr.below).mono ?_);rintro e w4 ⟨rfl,hb⟩;have HR2:=aA (HR1.out.next hb);have HK2:=aA (HCK.out.below hb HCK.out.lt);clear hb u0 u1 c0 c1 c2 c3 c4)
        | (go_at_call 64;refine (HR2.out.write SR (by have:=HLN.out 1 (by decide);omega)).mono ?_;rintro e w5 ⟨rfl,⟨v5,hr5⟩,hkp⟩;have HR5:=aA hr5;obtain ⟨u0,u1⟩:=(hkp _ _ _ HK2.out HFG.out.1 HFG.out.2).pair;clear hr5 hkp))
      go_wp2_with (first
        | (go_at_call 65;(with_reducible refine (HP2.out _).mono ?_);rintro e w6 ⟨rfl,hb⟩;have HR6:=aA (HR5.out.next hb);clear hb)
        | (go_at_call 64;refine (HR6.out.write ⟨(List.replicate pn 32).toArray⟩ (by rw [List.length_append];have:=HLN.out 1 (by decide);rw [HPS.out];show _+SR.size+pn≤_;omega)).mono ?_;rintro e w7 ⟨rfl,⟨v7,hr7⟩,_⟩;have HR7:=aA hr7;clear hr7))
      go_roundw
      case rel=>exact ⟨2,v7,by decide,rfl,by rw [HN2.out];exact HR7.out⟩
      case measure=>simp [intOf]
    · skip
      have HCK:=aA ((Blk.new wr 99 #[.func (.func 63) #[] #[],.int .i64 0]))
      have HR1:=aA (HR.out.alloc (.cells #[.func (.func 63) #[] #[],.int .i64 0] 99))
      have hix:=fun wz=>oFr wz
      go_upto_region 8 with fail
      clear hix
      obtain ⟨W1,hW1⟩:∃W:World,W=wr.alloc (.cells #[.func (.func 63) #[] #[],.int .i64 0] 99):=⟨_,rfl⟩
      rw [←hW1] at HCK HR1 ⊢
      clear hW1
      have HFG:=aA HR.out.fresh
      generalize wr.heap.size=g8 at *
      obtain ⟨u0,u1⟩:=HCK.out.pair
      obtain ⟨⟨c0,c1,c2,c3,c4⟩,_⟩:=(HR1.out.fr.blk 0 rfl).five
      go_upto_region 10 with (first
        | (go_at_call 63;(with_reducible refine (HIT.out _ HR1.out.fr.below).mono ?_);rintro e w4 ⟨rfl,hb⟩;have HR2:=aA (HR1.out.next hb);have HK2:=aA (HCK.out.below hb HCK.out.lt);clear hb u0 u1 c0 c1 c2 c3 c4)
        | (go_at_call 64;refine (HR2.out.write SI (by have:=HLN.out 2 (by decide);omega)).mono ?_;rintro e w5 ⟨rfl,⟨v5,hr5⟩,hkp⟩;have HR5:=aA hr5;obtain ⟨u0,u1⟩:=(hkp _ _ _ HK2.out HFG.out.1 HFG.out.2).pair;clear hr5 hkp))
      go_wp2
      go_roundw
      case rel=>exact ⟨3,v5,by decide,rfl,by rw [HN3.out];exact HR5.out⟩
      case measure=>simp [intOf]
    · obtain ⟨⟨c0,c1,c2,c3,c4⟩,_⟩:=(HR.out.fr.blk 0 rfl).five
      cases al
      · go_wp2_with (go_at_call 66;refine HR.out.text.mono ?_;rintro e w8 ⟨rfl,hb⟩;have HB8:=aA hb;clear hb)
        go_ret
        exact ⟨by rw [HT.out];simp,HB8.out⟩
      · have hcat:=fun wz=>run_string_add_sum (P:=Tryz.prog) wz ⟨#[32,32,59,32]⟩ SN (by show 4+SN.size≤_;omega)
        have HSC:Hid ((⟨#[32,32,59,32]⟩++SN:ByteArray).data.toList=[32,32,59,32]++TN):=aA (by rw [oAb,HDN.out])
        have HSD:Hid ((⟨#[32,32,59,32]⟩++SN:ByteArray).size≤20000):=aA (by rw [ByteArray.size_append];show 4+SN.size≤_;omega)
        have HWR:=aA (fun (W:World) (v:Value) (h:oBb w [(w.heap.size,32,#[.int .i64 k0,.slice ra R.length rc,.string O,.slice va args.length vc,.bool true])] bb v (PR 3) W)=>h.write (⟨#[32,32,59,32]⟩++SN:ByteArray) (by have:=HLN.out 3 (by decide);have:=HSD.out;omega))
        rw [HSC.out] at HWR
        go_wp2_with (first
          | (go_at_call 22;(with_reducible refine (HIN.out _ HR.out.fr.below).mono ?_);rintro e w8 ⟨rfl,hb⟩;have HR8:=aA (HR.out.next hb);clear hb)
          | (go_at_call 64;(with_reducible refine (HWR.out _ _ HR8.out).mono ?_);rintro e w9 ⟨rfl,⟨v9,hr9⟩,_⟩;have HR9:=aA hr9;clear hr9)
          | (go_at_call 66;refine HR9.out.text.mono ?_;rintro e w10 ⟨rfl,hb⟩;have HB10:=aA hb;clear hb))
        go_ret
        exact ⟨by rw [HT.out];simp,HB10.out⟩
end Go.Proofs.YtpigbggoiipmhaaGreatDoor
namespace Go.Proofs.YtpigbggoiipmhaaGreatDoor
set_option maxHeartbeats 8000000
set_option maxRecDepth 100000
open Go.RowKit Go.Shelf Go.Sort
def shC (x:Ins):Bool:=decide (x.op.size≤100)&&decide (x.args.length≤20)
def insA:Ins:=⟨⟨#[65,68,68]⟩,[⟨6,0,-1⟩]⟩
theorem mildA:CV insA:=⟨by decide,by decide,by intro y hy;simp [insA] at hy;rcases hy with rfl;exact ⟨by decide,by decide⟩⟩
theorem oFx:dG ⟨#[65,68,68]⟩=⟨#[65,68,68]⟩:=by decide+kernel
theorem oDs:oBa insA=[65,68,68,32,65,44,48,70,70,72]:=by decide+kernel
def exA:List UInt8:=[33,52,18]
theorem oEt:oDg 256 ((itF exA).it exA)=[48,49,48,48,32,32,50,49,32,51,52,32,49,50,32,32,32,32,76,68,32,72,76,44,49,50,51,52,72]:=by decide+kernel
theorem oFo:(decide ((itF exA).op.length≤100)&&(decide ((itF exA).args.length≤20)&&(itF exA).args.all fun o=>decide (-100000≤o.n)&&decide (o.n≤100000)))=true:=by decide+kernel
theorem oEn:oCq ((itF exA).it exA):=by
  obtain ⟨h1,h2⟩:=Bool.and_eq_true_iff.1 oFo
  obtain ⟨h2,h3⟩:=Bool.and_eq_true_iff.1 h2
  refine ⟨⟨of_decide_eq_true h1,of_decide_eq_true h2,fun y hy=>?_⟩,?_⟩
  · obtain ⟨a,b⟩:=Bool.and_eq_true_iff.1 (List.all_eq_true.1 h3 y hy)
    have:=of_decide_eq_true a
    have:=of_decide_eq_true b
    unfold cN
    omega
  · show (exA.take _).length≤900
    rw [List.length_take]
    show min _ 3≤900
    omega
theorem oDz (w:World) (q:aB) (l:List Opd) (cs:Array Value) (m:Nat) (hm:m=l.length) (hcs:cs.toList=l.flatMap Opd.cells) (hl:l.length≤1000000) (hq:∀k,w.heap.size≤k→q k):
    SlR aM (w.alloc (.cells cs 52)) q (.slice (some ⟨w.heap.size,0,none⟩) m m) l:=fS w _ q l cs m hm hcs hl hq
theorem oEe (w:World) (q:aB) (l:List UInt8) (cs:Array Value) (m:Nat) (hm:m=l.length) (hcs:cs.toList=l.flatMap fun (x:UInt8)=>[.int .u8 x.toNat]) (hl:l.length≤1000000) (hq:∀k,w.heap.size≤k→q k):
    SlR aI (w.alloc (.cells cs 5)) q (.slice (some ⟨w.heap.size,0,none⟩) m m) l:=fS w _ q l cs m hm hcs hl hq
theorem litS1 (w:World):SlR aM (w.alloc (.cells #[.int .i64 6,.int .i64 0,.int .i64 (-1)] 52)) (fun _=>True) (.slice (some ⟨w.heap.size,0,none⟩) 1 1) [⟨6,0,-1⟩]:=oDz w _ [⟨6,0,-1⟩] _ 1 rfl rfl (by decide) (fun _ _=>trivial)
theorem litS2 (w:World):SlR aI (w.alloc (.cells #[.int .u8 33,.int .u8 52,.int .u8 18] 5)) (fun _=>True) (.slice (some ⟨w.heap.size,0,none⟩) 3 3) exA:=oEe w _ [33,52,18] _ 3 rfl rfl (by decide) (fun _ _=>trivial)
theorem oAv (w:World) (hT:Spc w) (hD:Deb w):Calls Tryz.prog 6 #[] w fun e w'=>e=.returned (.bool true)∧RowKit.Below w.heap.size w w':=by
  have HM:=aA (fun p v W h=>mC p ⟨#[65,68,68]⟩ v [⟨6,0,-1⟩] W h (by decide) (by decide))
  rw [oFx] at HM
  have HX1:=aA (HM.out _ _ _ (litS1 w))
  have HA:=aA ((Fr.start w).alloc (.cells #[.int .i64 6,.int .i64 0,.int .i64 (-1)] 52))
  have HI:=aA (fun p v W h (hb:RowKit.Below w.heap.size w W)=>oAe insA mildA p v W h (hT.below hb) (hD.below hb))
  have HFI:=aA (fun W (hb:RowKit.Below w.heap.size w (W.alloc (.cells #[.int .u8 33,.int .u8 52,.int .u8 18] 5)))=>kE _ _ _ exA _ (hT.below hb) (litS2 W) (by decide) (by decide))
  have HRO:=aA (fun p v W h (hb:RowKit.Below w.heap.size w W)=>oFd 256 _ oEn p v W h (hT.below hb) (hD.below hb))
  rw [oDs] at HI
  rw [oEt] at HRO
  clear hT hD HM
  go_enter Tryz.func6,Tryz.ntmps6
  go_wp2_with (first
    | (go_at_call 23;refine HX1.out.mono ?_;rintro e w1 ⟨v1,rfl,ho1,hb1⟩;have HO1:=aA (Own.slR (q:=fun _=>True) ho1 (fun _ h=>h.elim) (fun _ _=>trivial));have HF1:=aA (HA.out.next hb1);clear hb1 ho1)
    | (go_at_call 22;refine (HI.out _ _ _ HO1.out HF1.out.below).mono ?_;rintro e w2 ⟨rfl,hb⟩;have HF2:=aA ((HF1.out.next hb).alloc (.cells #[.int .u8 33,.int .u8 52,.int .u8 18] 5));clear hb)
    | (go_at_call 25;refine (HFI.out _ HF2.out.below).mono ?_;rintro e w3 ⟨⟨v3,rfl,hv⟩,hb⟩;have HV3:=aA hv.it;have HF3:=aA (HF2.out.next hb);clear hb hv)
    | (go_at_call 24;refine (HRO.out _ _ _ HV3.out HF3.out.below).mono ?_;rintro e w4 ⟨rfl,hb⟩;have HF4:=aA (HF3.out.next hb);clear hb))
  go_ret
  exact ⟨rfl,HF4.out.below⟩
end Go.Proofs.YtpigbggoiipmhaaGreatDoor
namespace Go.Proofs.YtpigbggoiipmhaaGreatDoor
open Go.RowKit Go.ChangeShapes Go.WideShapes Go.ChangeAt Go.Deep Go.Joins
theorem gDeb:Tryz.prog.globalNamed "math/bits.deBruijn64tab" =some 0:=by kernel_rfl
def YC {H:Type}:DataW H:=Lib.tabData .u8 (Lib.deBruijn64tab.map fun (n:Nat)=>(n:Int))
theorem deb_of_reads {w:World} (h:Lib.VarReads Tryz.prog w "math/bits.deBruijn64tab" YC):Deb w:=by
  obtain ⟨g,t,cs,fuel,p,hg,ht,hv,hd⟩:=h
  obtain rfl:=Option.some.inj (gDeb.symm.trans hg)
  obtain rfl:=Option.some.inj ((show (Tryz.prog.globals[0]?).map (·.type)=some 244 by kernel_rfl).symm.trans ht)
  have hcs:=Lib.cells_of_tab Tryz.underlying244 Tryz.underlying5 (by kernel_rfl) (by kernel_rfl) hd
  intro j hj
  rw [World.var?_cell hg hv j,←Array.getElem?_toList,hcs]
  rw [List.map_map,List.getElem?_map,List.getElem?_eq_getElem hj,List.getD_eq_getElem?_getD,List.getElem?_eq_getElem hj]
  rfl
theorem bounds64 {n:Int} (h:(Lit.int .i64 n).wf=true):cN n:=by
  unfold Lit.wf at h
  simp only [Bool.and_eq_true,decide_eq_true_eq] at h
  exact h
end Go.Proofs.YtpigbggoiipmhaaGreatDoor
namespace Go.Proofs.YtpigbggoiipmhaaGreatDoor
set_option maxRecDepth 100000
open Go.RowKit Go.ChangeShapes Go.WideShapes Go.ChangeAt Go.Deep Go.Joins
variable {H:Type} {enc:TypeId × Value→H} {W:World}
theorem bounds_i8 {n:Int} (h:(Lit.int .i8 n).wf=true):-128≤n∧n≤127:=by
  unfold Lit.wf at h
  simp only [Bool.and_eq_true,decide_eq_true_eq] at h
  exact h
theorem c_byteDn:Tryz.prog.cellsOf 5=1:=by kernel_rfl
theorem open_bytes_arg {b0:Nat} {v:Value} {d:DataW H} {p:List MemPlace} (hv:Value.okWide Tryz.prog W .any b0 22 v) (h:DataW.Trod enc Tryz.prog W 0 (fun _=>true) true 22 v d p):
    ∃l,SlR aI W (fun _=>True) v l∧True:=by
  obtain ⟨a,n,c,rfl⟩:=okWide_slice Tryz.underlying22 hv
  obtain ⟨fuel,hf⟩:=h
  obtain ⟨v,l,e,hs,_⟩:=qI (α:=UInt8) (f:=fun n=>.int .u8 n.toNat) (h1:=fun x u hu=>by simp at hu;subst hu;rfl) (Q:=fun _=>True) Tryz.underlying22 c_byteDn (fun n v y ht=>by
    obtain ⟨k,q,_,wf⟩:=DataW.trod_int Tryz.underlying5 ht
    obtain rfl:=List.cons.inj q |>.1
    have hb:=bounds_u8 wf
    refine ⟨UInt8.ofNat k.toNat,?_,trivial⟩
    have e:((UInt8.ofNat k.toNat).toNat:Int)=k:=by
      rw [UInt8.toNat_ofNat']
      omega
    rw [e]) hf
  rw [lN] at e
  obtain rfl:=List.cons.inj e |>.1
  exact ⟨l,hs,trivial⟩
end Go.Proofs.YtpigbggoiipmhaaGreatDoor
namespace Go.Proofs.YtpigbggoiipmhaaGreatDoor
open Go.RowKit Go.Shelf Go.Sort
def exC (ex:List UInt8) (D J:Option Nat):Bool:=(ex==[]&&(!D.isSome&&!J.isSome)) || ((ex==[100]&&(D.isSome&&!J.isSome)) || ((ex==[101]&&(!D.isSome&&J.isSome)) || ((ex==[110]&&(!D.isSome&&J.isSome)) || ((ex==[119]&&(!D.isSome&&J.isSome)) || (ex==[100,110]&&(D.isSome&&J.isSome))))))
theorem oHp (lo hi:Int) {D:Option Nat} (h:D.isSome=false):okN D lo hi 0=true:=by cases D with | none=>rfl | some i=>cases h
theorem oHo {lo hi n:Int} {D:Option Nat} (h:D.isSome=true) (h1:lo≤n) (h2:n≤hi):okN D lo hi n=true:=by
  cases D with
  | none=>cases h
  | some i=>show (decide (lo≤n)&&decide (n≤hi))=true;simp [h1,h2]
theorem oHq (b:Nat) (h:b < 256):-128≤sg b∧sg b≤127:=by unfold sg;split<;>omega
theorem ex_ok {ex:List UInt8} {D J:Option Nat} (q:Nat) (l:List UInt8) (h:exC ex D J=true):
    okN D (-128) 127 (rdF ex l q 0 0).1=true∧okN J (loF ex) (hiF ex) (rdF ex l q 0 0).2=true:=by
  have h0:=bT l q
  have h1:=bT l (q+1)
  unfold exC at h
  have no:∀{b:Bool},(!b)=true→b=false:=fun {b} h=>by cases b;rfl;cases h
  have two:∀{a b:Bool} {m:List UInt8},(ex==m&&(a&&b))=true→ex=m∧a=true∧b=true:=fun h=>by
    obtain ⟨h1,h2⟩:=Bool.and_eq_true_iff.1 h
    obtain ⟨h3,h4⟩:=Bool.and_eq_true_iff.1 h2
    exact ⟨eq_of_beq h1,h3,h4⟩
  rcases Bool.or_eq_true_iff.1 h with g | h
  · obtain ⟨rfl,e2,e3⟩:=two g
    exact ⟨oHp _ _ (no e2),oHp _ _ (no e3)⟩
  rcases Bool.or_eq_true_iff.1 h with g | h
  · obtain ⟨rfl,e2,e3⟩:=two g
    exact ⟨oHo e2 (oHq _ h0).1 (oHq _ h0).2,oHp _ _ (no e3)⟩
  rcases Bool.or_eq_true_iff.1 h with g | h
  · obtain ⟨rfl,e2,e3⟩:=two g
    exact ⟨oHp _ _ (no e2),oHo e3 (oHq _ h0).1 (oHq _ h0).2⟩
  rcases Bool.or_eq_true_iff.1 h with g | h
  · obtain ⟨rfl,e2,e3⟩:=two g
    exact ⟨oHp _ _ (no e2),oHo e3 (by show (0:Int)≤(bAt l q:Int);omega) (by show (bAt l q:Int)≤255;omega)⟩
  rcases Bool.or_eq_true_iff.1 h with g | g
  · obtain ⟨rfl,e2,e3⟩:=two g
    exact ⟨oHp _ _ (no e2),oHo e3 (by show (0:Int)≤(bAt l q:Int)+256 * bAt l (q+1);omega) (by show (bAt l q:Int)+256 * bAt l (q+1)≤65535;omega)⟩
  · obtain ⟨rfl,e2,e3⟩:=two g
    exact ⟨oHo e2 (oHq _ h0).1 (oHq _ h0).2,oHo e3 (by show (0:Int)≤(bAt l (q+1):Int);omega) (by show (bAt l (q+1):Int)≤255;omega)⟩
def chJw (p op:Nat):Bool:=match (atF p op).1 with
  | some e=>exC e.ex (Dof e.ex e.args) (Jof e.ex e.args)&&(decide (e.iop.length≤10)&&(decide (e.args.length≤10)&&e.args.all fun o=>decide (-100000≤o.n)&&decide (o.n≤100000)))
  | none=>true
theorem ckJw:∀p:Fin 7,∀x:Fin 256,chJw p.val x.val=true:=by decide+kernel
structure ItW (l:List UInt8) (e:aL) (p k:Nat) (d n:Int) (c:List Opd):Prop where
  hp:p < 7
  hk:k < 256
  at':(atF p k).1=some e
  ok:fA e
  fil:yC e d n c
  it:itF l=⟨1,gX e,e.iop,c,e.al⟩
  op:e.iop.length≤10
  ar:e.args.length≤10
  nu:∀o∈e.args,-100000≤o.n∧o.n≤100000
theorem oHz {l:List UInt8} (hk:(itF l).k=1):∃e p k d n c,ItW l e p k d n c:=by
  have hp:=(yN (l:=l)).1
  have hx:=bT l (pos (pgB l))
  by_cases h0:l.length≤pos (pgB l)
  · unfold itF itS at hk
    rw [if_pos h0] at hk
    exact absurd (show (4:Int)=1 from hk) (by decide)
  have hw:=ckJw ⟨_,hp⟩ ⟨_,hx⟩
  unfold chJw at hw
  dsimp only at hw
  cases hA:atF (pgB l:Int) (bAt l (pos (pgB l))) with
  | mk o j=>
    cases o with
    | none=>
      unfold itF itS at hk
      rw [if_neg h0,hA] at hk
      dsimp only at hk
      split at hk<;>exact absurd hk (by decide)
    | some e=>
      by_cases h1:l.length < gX e
      · unfold itF itS at hk
        rw [if_neg h0,hA] at hk
        dsimp only at hk
        unfold itE at hk
        rw [if_pos h1] at hk
        exact absurd (show (4:Int)=1 from hk) (by decide)
      have he:(atF (pgB l:Int) (bAt l (pos (pgB l)))).1=some e:=by rw [hA]
      rw [hA] at hw
      dsimp only at hw
      obtain ⟨w1,hw⟩:=Bool.and_eq_true_iff.1 hw
      obtain ⟨w2,hw⟩:=Bool.and_eq_true_iff.1 hw
      obtain ⟨w3,w4⟩:=Bool.and_eq_true_iff.1 hw
      have ok:=mG hx he
      obtain ⟨a,b⟩:=ex_ok (if 5≤pgB l then 2 else pos (pgB l)+1) l w1
      have hs:fN e.ex e.args (gP (pgB l) e l).1 (gP (pgB l) e l).2=some (lK e.ex e.args (gP (pgB l) e l).1 (gP (pgB l) e l).2 e.args.length):=by
        rw [xN ok.var];exact if_pos (Bool.and_eq_true_iff.2 ⟨b,a⟩)
      refine ⟨e,_,_,_,_,_,hp,hx,he,ok,(xK ok).1 hs,?_,of_decide_eq_true w2,of_decide_eq_true w3,fun o ho=>?_⟩
      · unfold itF itS
        rw [if_neg h0,hA]
        dsimp only
        unfold itE
        rw [if_neg h1]
        unfold jO
        rw [hs]
      · obtain ⟨h6,h7⟩:=Bool.and_eq_true_iff.1 (List.all_eq_true.1 w4 o ho)
        exact ⟨of_decide_eq_true h6,of_decide_eq_true h7⟩
theorem oJd {l:List UInt8} (hk:¬(itF l).k=1):(itF l).op=[]∧(itF l).args=[]:=by
  unfold itF itS at hk ⊢
  split
  · exact ⟨rfl,rfl⟩
  · rename_i h0
    rw [if_neg h0] at hk
    split
    · rename_i e _ hA
      rw [hA] at hk
      dsimp only at hk
      unfold itE at hk ⊢
      split
      · exact ⟨rfl,rfl⟩
      · rename_i h1
        rw [if_neg h1] at hk
        exact absurd rfl hk
    · split<;>exact ⟨rfl,rfl⟩
theorem oHy {D:Option Nat} {k:Nat} {lo hi n:Int} (hD:D=some k) (h:okN D lo hi n=true):lo≤n∧n≤hi:=by
  subst hD
  obtain ⟨a,b⟩:=Bool.and_eq_true_iff.1 (show (decide (lo≤n)&&decide (n≤hi))=true from h)
  exact ⟨of_decide_eq_true a,of_decide_eq_true b⟩
theorem oHw {l:List UInt8} {e:aL} {p k:Nat} {d n:Int} {c:List Opd} (B:ItW l e p k d n c):CV ⟨⟨e.iop.toArray⟩,c⟩:=by
  have hl:=B.fil.len
  have hlo:-128≤loF e.ex∧hiF e.ex≤65535:=by unfold loF hiF;constructor<;>repeat' split<;>omega
  refine ⟨?_,?_,fun y hy=>?_⟩
  · have:=B.op;show e.iop.toArray.size≤100;rw [List.size_toArray];omega
  · have:=B.ar;show c.length≤20;omega
  · obtain ⟨i,hi,rfl⟩:=List.mem_iff_getElem.1 hy
    have hi2:i < e.args.length:=by have:i < c.length:=hi;omega
    have he:=B.fil.el i hi2
    rw [List.getElem?_eq_getElem hi] at he
    have he:=Option.some.inj he
    rw [he]
    have hn:=B.nu _ (List.getElem_mem hi2)
    show -9223372036854775808≤_∧_≤9223372036854775807
    split
    · rename_i hD
      have:=oHy hD B.fil.okd
      show -9223372036854775808≤d∧d≤9223372036854775807
      omega
    · split
      · rename_i hJ
        have:=oHy hJ B.fil.okn
        show -9223372036854775808≤n∧n≤9223372036854775807
        omega
      · omega
theorem oHx (l:List UInt8):CV ⟨⟨(itF l).op.toArray⟩,(itF l).args⟩:=by
  by_cases hk:(itF l).k=1
  · obtain ⟨e,p,k,d,n,c,B⟩:=oHz hk
    rw [B.it]
    exact oHw B
  · obtain ⟨h1,h2⟩:=oJd hk
    rw [h1,h2]
    exact ⟨by decide,by decide,fun y hy=>by cases hy⟩
end Go.Proofs.YtpigbggoiipmhaaGreatDoor
namespace Go.Proofs.YtpigbggoiipmhaaGreatDoor
open Go.RowKit Go.Shelf Go.Sort
theorem numsW {x:aL} (hx:fA x) {d n:Int} {c:List Opd} (h:yC x d n c):dAt c (Dof x.ex x.args)=d∧dAt c (Jof x.ex x.args)=n:=by
  constructor
  · cases hD:Dof x.ex x.args with
    | none=>
      have:=h.okd
      rw [hD] at this
      exact (eq_of_beq this).symm
    | some i=>
      have hi:=(hx.var.d1 i hD).2.2.1
      have:=h.el i hi
      rw [if_pos hD] at this
      exact zF this
  · cases hJ:Jof x.ex x.args with
    | none=>
      have:=h.okn
      rw [hJ] at this
      exact (eq_of_beq this).symm
    | some j=>
      have hj:=(hx.var.j1 j hJ).2.1
      have:=h.el j hj
      rw [if_neg (fun e=>hx.var.ne j e hJ),if_pos hJ] at this
      exact zF this
theorem oJc {l:List UInt8} {e:aL} {p k:Nat} {d n:Int} {c:List Opd} (B:ItW l e p k d n c) (ha:e.al=false):tI ⟨⟨e.iop.toArray⟩,c⟩=true:=by
  have hc:bH ⟨⟨e.iop.toArray⟩,c⟩=0:=B.fil.check B.ok
  have hca:(aE ⟨⟨e.iop.toArray⟩,c⟩).args=c:=B.fil.canon B.ok
  obtain ⟨h1,h2⟩:=numsW B.ok B.fil
  have hf:dB ⟨e.iop.toArray⟩ ⟨e.iop.toArray⟩ e.ex e.args c=true:=(qM B.ok).2 ⟨rfl,by rw [h1,h2];exact B.fil⟩
  have hs:shF ⟨e.iop.toArray⟩ ⟨e.iop.toArray⟩ e.args c=true:=(Bool.and_eq_true_iff.1 hf).1
  have hn:dL ⟨e.iop.toArray⟩ c e=true:=by unfold dL;rw [ha,hs];rfl
  have hh:iA ⟨e.iop.toArray⟩ c e=true:=by unfold iA;rw [hn,kP B.ok,hf];rfl
  have hm:e∈eJ (p:Int):=List.mem_filterMap.2 ⟨k,List.mem_range.2 B.hk,B.at'⟩
  have hp:=(uD B.hp hm hn).1
  have hm9:e∈kG c:=List.mem_flatMap.2 ⟨p,List.contains_iff_mem.1 hp,hm⟩
  unfold tI
  rw [←uJ]
  unfold GO
  rw [if_pos hc,hca]
  dsimp only
  cases hF:(kG c).find? (iA ⟨e.iop.toArray⟩ c) with
  | none=>exact absurd hh (by have:=List.find?_eq_none.1 hF e hm9;simpa using this)
  | some x=>rfl
theorem it_ne {l:List UInt8} (h0:0 < l.length):oCk ((itF l).it l)≠[]:=by
  have hr:((itF l).it l).raw≠[]:=fun e=>by
    have h1:=JO l h0
    have h2:=nG l h0
    have:(l.take (itF l).n).length=0:=congrArg List.length e
    omega
  by_cases hk:(itF l).k=1
  · obtain ⟨e,p,k,d,n,c,B⟩:=oHz hk
    cases ha:e.al
    · rw [oCi (by exact hk) (by show (itF l).al=false;rw [B.it];exact ha)]
      have:=oJb (oJc B ha)
      show oBa ⟨⟨(itF l).op.toArray⟩,(itF l).args⟩≠[]
      rw [B.it];exact this
    · rw [oDd (.inr (by show (itF l).al=true;rw [B.it];exact ha))]
      exact oHu hr
  · rw [oDd (.inl hk)]
    exact oHu hr
theorem oJa {l:List UInt8} (h0:0 < l.length) (hl:l.length≤900):oCq ((itF l).it l):=by
  refine ⟨?_,by show (l.take _).length≤900;rw [List.length_take];omega⟩
  exact oHx l
theorem oHt (l:List UInt8):∀x∈aX l,oCk x≠[]:=by
  refine mQ (P:=fun l=>∀x∈aX l,oCk x≠[]) ?_ ?_ l
  · intro l h x hx;rw [gB h] at hx;cases hx
  · intro l h ih x hx
    rw [dN h] at hx
    rcases List.mem_cons.1 hx with rfl | hx
    · exact it_ne h
    · exact ih x hx
theorem oHr (l:List UInt8):l.length≤900→∀x∈aX l,oCq x:=by
  refine mQ (P:=fun l=>l.length≤900→∀x∈aX l,oCq x) ?_ ?_ l
  · intro l h _ x hx;rw [gB h] at hx;cases hx
  · intro l h ih hl x hx
    rw [dN h] at hx
    rcases List.mem_cons.1 hx with rfl | hx
    · exact oJa h hl
    · exact ih (by rw [List.length_drop];omega) x hx
end Go.Proofs.YtpigbggoiipmhaaGreatDoor
namespace Go.Proofs.YtpigbggoiipmhaaGreatDoor
set_option maxHeartbeats 16000000
set_option maxRecDepth 100000
open Go.RowKit Go.Shelf Go.Sort
def oGq (x:It):ByteArray:=⟨(oCk x).toArray⟩
theorem oHs (ls:List It) (hm:∀x∈ls,oCq x) (hl:ls.length≤900) (p:aB) (v:Value) (w:World) (h:SlR itR w p v ls) (hT:Spc w) (hD:Deb w):
    Calls Tryz.prog 7 #[v] w fun e w'=>(∃v',e=.returned v'∧Own eN w' w.heap.size 9 NoB v' (ls.map oGq))∧RowKit.Below w.heap.size w w':=by
  have HIO:=aA (fun x (hx:x∈ls) q v W h (hb:RowKit.Below w.heap.size w W)=>oDw x (hm x hx) q v W h (hT.below hb) (hD.below hb))
  have HLL:=aA hl
  have HS:=aA h
  obtain ⟨a,c,rfl,_,_,_⟩:=h.it
  have hlm:(ls.length:Int)≤900:=by omega
  clear h hT hD hm hl
  go_enter Tryz.func7,Tryz.ntmps7
  go_wp2
  go_loopw [3,8] (fun y i wr=>∃k:Nat,k≤ls.length∧i=.int .i64 k∧Own eN wr w.heap.size 9 NoB y ((ls.take k).map oGq)∧RowKit.Below w.heap.size w wr) (fun _ i _=>ls.length - (intOf i).toNat)
  case atStart=>exact ⟨0,Nat.zero_le _,rfl,Own.nil _ _ _ _ _,Below.refl _ _⟩
  case round=>
    obtain ⟨k,hk,rfl,ho,hb⟩:=hrel
    have HB:=aA hb
    by_cases hlt:k < ls.length
    · have hlm2:((ls.take k).map oGq).length=k:=by simp;omega
      have HXS:Hid ((ls.take (k+1)).map oGq=(ls.take k).map oGq++[oGq ls[k]]):=aA (by rw [List.take_succ_eq_append_getElem hlt,List.map_append];rfl)
      obtain ⟨a2,c2,e2,_,_,hg⟩:=(HS.out.below HB.out).it
      injection e2 with e2 e3 e4
      clear e3
      subst e2 e4
      obtain ⟨b1,o1,ra,rc,va,vc,rfl,_,x0,x1,x2,x3,x4,s1,a1⟩:=hg k ls[k] (List.getElem?_eq_getElem hlt)
      generalize (ls.take k).map oGq=xs at *
      have HLM:=aA hlm2
      have HO:=aA ho
      obtain ⟨oa,oc,rfl⟩:=ho.form
      have HC1:Hid ((xs.length+1) * 16≤140737488355328):=by have:=HLM.out;have:=HLL.out;show _≤_;omega
      have HC2:Hid (xs.length+1≤9223372036854775807):=by have:=HLM.out;have:=HLL.out;show _≤_;omega
      have HRX:=aA (fun W (h:SlR aI W (fun _=>True) (.slice ra ls[k].raw.length rc) ls[k].raw∧SlR aM W (fun _=>True) (.slice va ls[k].args.length vc) ls[k].args) hb=>HIO.out ls[k] (List.getElem_mem hlt) (fun _=>True) _ W ⟨ra,rc,va,vc,rfl,h.1,h.2⟩ hb)
      have HY:Hid (⟨(oCk ls[k]).toArray⟩=oGq ls[k]):=aA rfl
      have s2:=s1.mono (q:=fun _=>True) (fun _ _=>trivial)
      have a3:=a1.mono (q:=fun _=>True) (fun _ _=>trivial)
      clear hlm2 ho hb hg s1 a1
      unfold kY at HRX
      generalize oGq ls[k]=y at *
      rw [HY.out] at HRX
      clear HY
      generalize ls[k]=x at *
      obtain ⟨k0,R,op,args,al⟩:=x
      dsimp only at *
      obtain ⟨O,hO⟩:∃S:ByteArray,S=⟨op.toArray⟩:=⟨_,rfl⟩
      rw [←hO] at HRX x2
      have HB1:=aA (HB.out.alloc HB.out.size (.cells #[.int .i64 k0,.slice ra R.length rc,.string O,.slice va args.length vc,.bool al] 32))
      have HSB:=aA (s2.alloc (.cells #[.int .i64 k0,.slice ra R.length rc,.string O,.slice va args.length vc,.bool al] 32))
      have HAB:=aA (a3.alloc (.cells #[.int .i64 k0,.slice ra R.length rc,.string O,.slice va args.length vc,.bool al] 32))
      clear s2 a3 hO
      go_wp2_with (first
        | (go_at_call 26;(with_reducible refine (HRX.out _ ⟨HSB.out,HAB.out⟩ HB1.out).mono ?_);rintro e w2 ⟨rfl,hb⟩;have HB2:=aA (HB1.out.trans (hb.mono HB1.out.size));have HO2:=aA ((HO.out.stay ((Below.refl _ _).alloc (Nat.le_refl _) _)).stay hb);clear hb)
        | (at_builtin;refine cK rfl (.tmp 12) (.tmp 15) 24 rfl w.heap.size 9 16 elStr _ xs y _ rfl rfl HO2.out rfl HC1.out HC2.out HB2.out.size ?_;intro a' c' w' hp;have HP:=aA hp;clear hp))
      go_roundw
      case rel=>exact ⟨k+1,by omega,by go_num,by rw [HXS.out];exact HP.out.1,HB2.out.grown HP.out.2 HB2.out.size (fun j hj=>(HO2.out.lt j hj).1)⟩
      case measure=>simp [intOf];omega
    · obtain rfl:k=ls.length:=by omega
      rw [List.take_length] at ho
      have HO:=aA ho
      obtain ⟨oa,oc,rfl⟩:=ho.form
      clear ho hb
      go_wp2
      go_ret
      exact ⟨⟨_,rfl,HO.out⟩,HB.out⟩
theorem oHv (p:aB) (v:Value) (l:List UInt8) (w:World) (h:SlR aI w p v l) (hT:Spc w) (hD:Deb w):
    Calls Tryz.prog 3 #[v] w fun e w'=>e=.returned (.bool true)∧RowKit.Below w.heap.size w w':=by
  obtain ⟨a,c,rfl⟩:∃a c,v=.slice a l.length c:=by obtain ⟨a,c,e,_⟩:=h;exact ⟨a,c,e⟩
  have HAL:=aA (fun W (hb:RowKit.Below w.heap.size w W)=>oAv W (hT.below hb) (hD.below hb))
  by_cases h1:300 < l.length
  · have h1':(300:Int) < (l.length:Int):=by omega
    clear h hT hD
    go_enter Tryz.func3,Tryz.ntmps3
    go_wp2_with (go_at_call 6;refine (HAL.out _ (Below.refl _ _)).mono ?_;rintro e w1 ⟨rfl,hb⟩;have H1:=aA hb;clear hb)
    go_ret
    exact ⟨rfl,H1.out⟩
  have h1':¬(300:Int) < (l.length:Int):=by omega
  have hmi:=oHr l (by omega)
  have oAf:(aX l).length≤300:=Nat.le_trans (tA l) (by omega)
  have HDC:=aA (a0A p a c l w hT h (by omega))
  have HDR:=aA (fun W (hb:RowKit.Below w.heap.size w W)=>Dec13_any p a c l W (h.below hb) (by omega))
  have HIT:=aA (fun q v W h (hb:RowKit.Below w.heap.size w W)=>oHs (aX l) hmi (by omega) q v W h (hT.below hb) (hD.below hb))
  have HIO:=aA (fun x (hx:x∈aX l) q v W h=>oFj x (hmi x hx) q v W h)
  have HLL:=aA oAf
  have hcn:((aX l).map oCk).contains []=false:=by
    cases hc:((aX l).map oCk).contains []
    · rfl
    · obtain ⟨x,hx,e⟩:=List.mem_map.1 (List.contains_iff_mem.1 hc)
      exact absurd e (oHt l x hx)
  have HCN:=aA (fun q v W (h:SlR eN W q v (((aX l).map oCk).map bs))=>RA q v ((aX l).map oCk) [] W h)
  rw [hcn,List.map_map] at HCN
  rw [show ((bs ∘ oCk)=oGq) from rfl] at HCN
  rw [show (⟨([]:List UInt8).toArray⟩:ByteArray)=⟨#[]⟩ from rfl] at HCN
  have HEQ:=aA (fun p q v1 v2 W h1 h2=>EqualStr_any p q v1 v2 ((aX l).map oGq) ((aX l).map oGq) W h1 h2)
  rw [show decide ((aX l).map oGq=(aX l).map oGq)=true from decide_eq_true rfl] at HEQ
  clear h1 hmi oAf hcn h hT hD
  generalize aX l=ls at *
  go_enter Tryz.func3,Tryz.ntmps3
  go_wp2_with (first
    | (go_at_call 8;refine (HDC.out).mono ?_;rintro e w1 ⟨⟨v1,rfl,ha⟩,hb⟩;obtain ⟨xa,xc,rfl⟩:=ha.form;have HA1:=aA ha.slR;have HB1:=aA hb;clear ha hb)
    | (go_at_call 7;(with_reducible refine (HIT.out _ _ _ HA1.out HB1.out).mono ?_);rintro e w2 ⟨⟨v2,rfl,ho⟩,hb⟩;obtain ⟨sa,sc,rfl⟩:=ho.form;rw [List.length_map] at ho ⊢;have HS2:=aA (ho.slR (q:=fun _=>True) (fun _ h=>h.elim) (fun _ _=>trivial));have HB2:=aA (HB1.out.trans (hb.mono HB1.out.size));clear ho hb)
    | (go_at_call 9;refine (HDR.out _ HB2.out).mono ?_;rintro e w3 ⟨⟨v3,rfl,ha⟩,hb⟩;obtain ⟨ya,yc,rfl⟩:=ha.form;have HA3:=aA ha.slR;have HS3:=aA (HS2.out.below hb);have HB3:=aA (HB2.out.trans (hb.mono HB2.out.size));clear ha hb))
  go_loopw [4,17] (fun y i wr=>∃k:Nat,k≤ls.length∧i=.int .i64 k∧Own eN wr w3.heap.size 9 NoB y ((ls.take k).map oGq)∧RowKit.Below w3.heap.size w3 wr) (fun _ i _=>ls.length - (intOf i).toNat)
  case atStart=>exact ⟨0,Nat.zero_le _,rfl,Own.nil _ _ _ _ _,Below.refl _ _⟩
  case round=>
    obtain ⟨k,hk,rfl,ho,hb⟩:=hrel
    have HB:=aA hb
    by_cases hlt:k < ls.length
    · have hlm2:((ls.take k).map oGq).length=k:=by simp;omega
      have HXS:Hid ((ls.take (k+1)).map oGq=(ls.take k).map oGq++[oGq ls[k]]):=aA (by rw [List.take_succ_eq_append_getElem hlt,List.map_append];rfl)
      obtain ⟨a2,c2,e2,_,_,hg⟩:=(HA3.out.below HB.out).it
      injection e2 with e2 e3 e4
      clear e3
      subst e2 e4
      obtain ⟨b1,o1,ra,rc,va,vc,rfl,_,x0,x1,x2,x3,x4,s1,a1⟩:=hg k ls[k] (List.getElem?_eq_getElem hlt)
      generalize (ls.take k).map oGq=xs at *
      have HLM:=aA hlm2
      have HO:=aA ho
      obtain ⟨oa,oc,rfl⟩:=ho.form
      have HC1:Hid ((xs.length+1) * 16≤140737488355328):=by have:=HLM.out;have:=HLL.out;show _≤_;omega
      have HC2:Hid (xs.length+1≤9223372036854775807):=by have:=HLM.out;have:=HLL.out;show _≤_;omega
      have HRX:=aA (fun W (h:SlR aI W (fun _=>True) (.slice ra ls[k].raw.length rc) ls[k].raw∧SlR aM W (fun _=>True) (.slice va ls[k].args.length vc) ls[k].args)=>HIO.out ls[k] (List.getElem_mem hlt) (fun _=>True) _ W ⟨ra,rc,va,vc,rfl,h.1,h.2⟩)
      have HY:Hid (⟨(oCk ls[k]).toArray⟩=oGq ls[k]):=aA rfl
      have s2:=s1.mono (q:=fun _=>True) (fun _ _=>trivial)
      have a3:=a1.mono (q:=fun _=>True) (fun _ _=>trivial)
      clear hlm2 ho hb hg s1 a1 HIO
      unfold kY at HRX
      generalize oGq ls[k]=y at *
      rw [HY.out] at HRX
      clear HY
      generalize ls[k]=x at *
      obtain ⟨k0,R,op,args,al⟩:=x
      dsimp only at *
      obtain ⟨O,hO⟩:∃S:ByteArray,S=⟨op.toArray⟩:=⟨_,rfl⟩
      rw [←hO] at HRX x2
      have HB4:=aA (HB.out.alloc HB.out.size (.cells #[.int .i64 k0,.slice ra R.length rc,.string O,.slice va args.length vc,.bool al] 32))
      have HSB:=aA (s2.alloc (.cells #[.int .i64 k0,.slice ra R.length rc,.string O,.slice va args.length vc,.bool al] 32))
      have HAB:=aA (a3.alloc (.cells #[.int .i64 k0,.slice ra R.length rc,.string O,.slice va args.length vc,.bool al] 32))
      clear s2 a3 hO
      go_wp2_with (first
        | (go_at_call 10;(with_reducible refine (HRX.out _ ⟨HSB.out,HAB.out⟩).mono ?_);rintro e w5 ⟨rfl,hb⟩;have HB5:=aA (HB4.out.trans (hb.mono HB4.out.size));have HO5:=aA ((HO.out.stay ((Below.refl _ _).alloc (Nat.le_refl _) _)).stay hb);clear hb)
        | (at_builtin;refine cK rfl (.tmp 21) (.tmp 24) 24 rfl w3.heap.size 9 16 elStr _ xs y _ rfl rfl HO5.out rfl HC1.out HC2.out HB5.out.size ?_;intro a' c' w' hp;have HP:=aA hp;clear hp))
      go_roundw
      case rel=>exact ⟨k+1,by omega,by go_num,by rw [HXS.out];exact HP.out.1,HB5.out.grown HP.out.2 HB5.out.size (fun j hj=>(HO5.out.lt j hj).1)⟩
      case measure=>simp [intOf];omega
    · obtain rfl:k=ls.length:=by omega
      rw [List.take_length] at ho
      obtain ⟨oa,oc,rfl⟩:=ho.form
      rw [List.length_map] at ho ⊢
      have HO:=aA (ho.slR (q:=fun _=>True) (fun _ h=>h.elim) (fun _ _=>trivial))
      have HB6:=aA (HB3.out.trans (HB.out.mono HB3.out.size))
      have HS6:=aA (HS3.out.below HB.out)
      clear ho hb HIO HIT HDC HDR
      go_wp2_with (first
        | (go_at_call 6;refine (HAL.out _ HB6.out).mono ?_;rintro e w7 ⟨rfl,hb⟩;have HB7:=aA (HB6.out.trans (hb.mono HB6.out.size));have HS7:=aA (HS6.out.below hb);have HO7:=aA (HO.out.below hb);clear hb)
        | (go_at_call 11;(with_reducible refine (HEQ.out _ _ _ _ _ HS7.out HO7.out).mono ?_);rintro e w8 ⟨rfl,hb⟩;have HB8:=aA (HB7.out.trans (hb.mono HB7.out.size));have HS8:=aA (HS7.out.below hb);clear hb)
        | (go_at_call 12;(with_reducible refine (HCN.out _ _ _ HS8.out).mono ?_);rintro e w9 ⟨rfl,rfl⟩))
      go_ret
      exact ⟨rfl,HB8.out⟩
end Go.Proofs.YtpigbggoiipmhaaGreatDoor
