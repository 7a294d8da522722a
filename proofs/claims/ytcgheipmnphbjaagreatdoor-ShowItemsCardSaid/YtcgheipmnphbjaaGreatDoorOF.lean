/-
  breadboardref15.Row. Conditions: a short item. show.Table and breadboardref15.Table. Conditions: the library's tables as their initialisers lay them (the program alone); short items.
-/
import Derived.Test.YtcgheipmnphbjaaGreatDoorOE
import Derived.Test.YtcgheipmnphbjaaGreatDoorBO1
namespace Go.Proofs.YtcgheipmnphbjaaGreatDoor
set_option maxHeartbeats 8000000
set_option maxRecDepth 100000
open Go.RowKit Go.Shelf Go.Sort
theorem oGx (l:List UInt8) (c:UInt8):oEf (l++[c])=if l.length=0 then qG c.toNat 2 else oEf l++[32]++qG c.toNat 2:=by
  unfold oEf
  rw [List.map_append,List.map_cons,List.map_nil,oBn]
  cases l with
  | nil=>rfl
  | cons d r=>rw [if_neg (by simp),if_neg (by simp)]
theorem oHb (a r i:List UInt8) (j:Nat) (h:j=10 - r.length):a++[32,32]++r++[32,32]++List.replicate j 32++i=oDv a r i 3:=by
  unfold oDv
  rw [if_neg (by decide),if_neg (by decide),if_neg (by decide)]
  have:([32,32]:List UInt8)++List.replicate j 32=List.replicate (oEm r.length) 32:=by
    show List.replicate 2 32++List.replicate j 32=_
    rw [List.replicate_append_replicate]
    congr 1
    unfold oEm
    split<;>omega
  rw [List.append_assoc _ [32,32] (List.replicate j 32),this]
  rfl
theorem oGj (z:Int) (x:It) (m:oCq x) (p:aB) (v:Value) (w:World) (h:ItP w p x v):
    Calls Tryz.prog 17 #[.int .i64 z,v] w fun e w'=>e=.returned (.string ⟨(oDg z x).toArray⟩)∧RowKit.Below w.heap.size w w':=by
  have HIT:=aA (fun W (hb:RowKit.Below w.heap.size w W)=>oFj x m p v W (h.belowS hb))
  obtain ⟨ra,rc,va,vc,rfl,s1,a1⟩:=h
  have HIN:=aA (fun W (hb:RowKit.Below w.heap.size w W)=>oDf ⟨⟨x.op.toArray⟩,x.args⟩ m.m p _ W (a1.below hb))
  unfold kY at *
  have HF:=aA ((Fr.start w).new' 40 #[.int .i64 x.k,.slice ra x.raw.length rc,.string ⟨x.op.toArray⟩,.slice va x.args.length vc,.bool x.al] (b:=w.heap.size) rfl)
  by_cases hz:z < 0∨65535 < z
  · rw [show oDg z x=[] from if_pos hz]
    clear HIT HIN s1 a1 m
    obtain ⟨W,hW⟩:∃W:World,W=w.alloc (.cells #[.int .i64 x.k,.slice ra x.raw.length rc,.string ⟨x.op.toArray⟩,.slice va x.args.length vc,.bool x.al] 40):=⟨_,rfl⟩
    rw [←hW] at HF
    cases h1:decide (z < 0)
    · have h2:65535 < z:=by have:=of_decide_eq_false h1;omega
      have h3:¬z < 0:=of_decide_eq_false h1
      clear hz
      go_enter Tryz.func17,Tryz.ntmps17
      go_upto_region 1 with fail
      rw [←hW]
      clear hW
      go_wp2
      go_ret
      exact ⟨rfl,HF.out.below⟩
    · have h2:z < 0:=of_decide_eq_true h1
      clear hz
      go_enter Tryz.func17,Tryz.ntmps17
      go_upto_region 1 with fail
      rw [←hW]
      clear hW
      go_wp2
      go_ret
      exact ⟨rfl,HF.out.below⟩
  obtain ⟨n,rfl⟩:∃n:Nat,z=n:=⟨z.toNat,by omega⟩
  have hn:n≤65535:=by omega
  have HT:Hid _:=oFh hn x
  have HH4:=aA (fun W=>Hex01_any n 4 W (by omega) (by decide))
  have HH2:=aA (fun (c:UInt8) W=>Hex01_any c.toNat 2 W (by have:=c.toNat_lt;omega) (by decide))
  have HLA:Hid ((qG n 4).length=4):=aA (oAk 4 n)
  have HRL:=aA (oCc)
  have hl3:=oDx x m
  have hl4:=oCf _ m.m
  have HMR:=aA m.r
  have hlm:(x.raw.length:Int)≤1000:=by have:=m.r;omega
  have HS:=aA (fun W (hb:RowKit.Below w.heap.size w W)=>s1.below hb)
  generalize oDg (n:Int) x=TT at *
  generalize oBa ⟨⟨x.op.toArray⟩,x.args⟩=TN at *
  generalize oCk x=TI at *
  generalize qG n 4=TA at *
  obtain ⟨SI,hSI⟩:∃S:ByteArray,S=⟨TI.toArray⟩:=⟨_,rfl⟩
  obtain ⟨SN,hSN⟩:∃S:ByteArray,S=⟨TN.toArray⟩:=⟨_,rfl⟩
  have HDI:Hid (SI.data.toList=TI):=aA (by rw [hSI])
  have HDN:Hid (SN.data.toList=TN):=aA (by rw [hSN])
  have hb3:SI.size≤10000:=by rw [hSI];exact hl3
  have hb4:SN.size≤10000:=by rw [hSN];exact hl4
  rw [←hSI] at HIT
  rw [←hSN] at HIN
  obtain ⟨k0,R,op,args,al⟩:=x
  dsimp only at *
  obtain ⟨O,hO⟩:∃S:ByteArray,S=⟨op.toArray⟩:=⟨_,rfl⟩
  rw [←hO] at HIT HIN HF ⊢
  clear hO hSI hSN hl3 hl4 s1 a1 m
  obtain ⟨W,hW⟩:∃W:World,W=w.alloc (.cells #[.int .i64 k0,.slice ra R.length rc,.string O,.slice va args.length vc,.bool al] 40):=⟨_,rfl⟩
  rw [←hW] at HF
  obtain ⟨⟨c0,c1,c2,c3,c4⟩,_⟩:=(HF.out.blk 0 rfl).five
  have h0:¬(n:Int) < 0:=by omega
  have h6:¬(65535:Int) < (n:Int):=by omega
  clear hz hn
  go_enter Tryz.func17,Tryz.ntmps17
  go_upto_region 1 with fail
  rw [←hW]
  clear hW
  go_upto_region 5 with (go_at_call 46;refine (HH4.out _).mono ?_;rintro e w2 ⟨⟨S0,rfl,hS0⟩,hw2⟩;subst hw2;have HS0:=aA hS0;have hz0:S0.size=4:=(by have h1:=congrArg List.length hS0;have h2:=HLA.out;simp at h1;omega);clear hS0)
  go_loopw [5,6] (fun y i wr=>∃(k:Nat) (s:ByteArray),k≤R.length∧y=.string s∧i=.int .i64 k∧s.data.toList=TA++[32,32]++oEf (R.take k)∧wr=W) (fun _ i _=>R.length - (intOf i).toNat)
  case atStart=>exact ⟨0,_,Nat.zero_le _,rfl,rfl,by rw [oAb,HS0.out];simp [oEf,Lib.join],rfl⟩
  case round=>
    obtain ⟨k,s,hk,rfl,rfl,hs,rfl⟩:=hrel
    have HSS:=aA hs
    by_cases hlt:k < R.length
    · have hsz:s.size≤5000:=by
        have h1:=congrArg List.length hs
        have h2:=HRL.out (R.take k)
        have h3:=HMR.out
        have h4:=HLA.out
        rw [List.length_take] at h2
        simp at h1
        omega
      have HTK:Hid (oEf (R.take (k+1))=if k=0 then qG R[k].toNat 2 else oEf (R.take k)++[32]++qG R[k].toNat 2):=aA (by
        rw [List.take_succ_eq_append_getElem hlt,oGx,List.length_take,Nat.min_eq_left hk])
      obtain ⟨a2,c2',e2,_,_,hg⟩:=(HS.out _ HF.out.below).byte
      injection e2 with e2 e3 e4
      clear e3
      subst e2 e4
      obtain ⟨b1,o1,rfl,_,d0⟩:=hg k R[k] (List.getElem?_eq_getElem hlt)
      have HXK:=aA (HH2.out R[k])
      have HLX:Hid ((qG R[k].toNat 2).length=2):=aA (oAk 2 _)
      have hu9:IntKind.i64.wrap (R[k].toNat:Int)=(R[k].toNat:Int):=by have:=R[k].toNat_lt;rw [IntKind.wrap_i64];omega
      clear hs hg
      generalize qG R[k].toNat 2=T at *
      generalize R[k].toNat=u at *
      by_cases hk0:k=0
      · subst hk0
        rw [Nat.add_zero] at d0
        go_wp2_with (go_at_call 46;refine (HXK.out _).mono ?_;rintro e w2 ⟨⟨S1,rfl,hS1⟩,hw2⟩;subst hw2;have HS1:=aA hS1;have hz1:S1.size≤10:=(by have h1:=congrArg List.length hS1;have h2:=HLX.out;simp at h1;omega);clear hS1)
        go_roundw
        case rel=>exact ⟨1,_,by omega,rfl,rfl,by rw [HTK.out,if_pos (by trivial),oAb,HS1.out,HSS.out];simp [oEf,Lib.join],trivial⟩
        case measure=>simp [intOf];omega
      · have hkp:(0:Int) < (k:Int):=by omega
        go_wp2_with (go_at_call 46;refine (HXK.out _).mono ?_;rintro e w2 ⟨⟨S1,rfl,hS1⟩,hw2⟩;subst hw2;have HS1:=aA hS1;have hz1:S1.size≤10:=(by have h1:=congrArg List.length hS1;have h2:=HLX.out;simp at h1;omega);clear hS1)
        go_roundw
        case rel=>exact ⟨k+1,_,by omega,rfl,by go_num,by rw [HTK.out,if_neg hk0,oAb,oAb,HS1.out,HSS.out];simp,trivial⟩
        case measure=>simp [intOf];omega
    · obtain rfl:k=R.length:=by omega
      rw [List.take_length] at HSS
      have HTR:=aA (HRL.out R)
      clear hs
      generalize oEf R=TR at *
      have hsz:s.size=6+TR.length:=by
        have h1:=congrArg List.length HSS.out
        have h4:=HLA.out
        simp at h1
        omega
      have hsm:s.size≤5000:=by have:=HTR.out;have:=HMR.out;omega
      have HSZ:=aA hsz
      clear hsz
      go_upto_region 11 with fail
      go_loopw [5] (fun y w9=>∃(j:Nat) (u:ByteArray),y=.string u∧u.data.toList=TA++[32,32]++TR++[32,32]++List.replicate j 32∧j≤10 - TR.length∧u.size=8+TR.length+j∧w9=wr) (fun y _=>18 - (match y with | .string u=>u.size | _=>0))
      case atStart=>exact ⟨0,_,rfl,by rw [oAb,HSS.out];simp,Nat.zero_le _,by rw [ByteArray.size_append];have:=HSZ.out;show s.size+2=_;omega,rfl⟩
      case round=>
        obtain ⟨j,u,rfl,hu,hj,huz,rfl⟩:=hrel
        have HU:=aA hu
        have HJ:=aA hj
        have HUZ:=aA huz
        have hum:u.size≤6000:=by have:=HTR.out;have:=HMR.out;omega
        by_cases hlt:u.size < 18
        · clear hu hj huz
          go_wp2
          go_roundw
          case rel=>exact ⟨j+1,_,rfl,by rw [oAb,HU.out,List.replicate_succ',←List.append_assoc],by have:=HUZ.out;omega,by rw [ByteArray.size_append];have:=HUZ.out;show u.size+1=_;omega,trivial⟩
          case measure=>dsimp only;rw [ByteArray.size_append];show 18 - (u.size+1) < 18 - u.size;omega
        · have hjj:j=10 - TR.length:=by omega
          have HPR:=aA (oHb TA TR TI j hjj)
          clear hu hj huz hjj
          cases al
          · go_wp2_with (go_at_call 14;(with_reducible refine (HIT.out _ HF.out.below).mono ?_);rintro e w3 ⟨rfl,hb⟩;have HF3:=aA (HF.out.next hb);clear hb c0 c1 c2 c3 c4;obtain ⟨⟨c0,c1,c2,c3,c4⟩,_⟩:=(HF3.out.blk 0 rfl).five)
            go_ret
            exact ⟨oAs (oAd (by rw [HT.out,oAb,HU.out,HDI.out,←HPR.out];simp)),HF3.out.below⟩
          · have hum2:(u++SI).size≤20000:=by rw [ByteArray.size_append];omega
            go_wp2_with (first
              | (go_at_call 14;(with_reducible refine (HIT.out _ HF.out.below).mono ?_);rintro e w3 ⟨rfl,hb⟩;have HF3:=aA (HF.out.next hb);clear hb c0 c1 c2 c3 c4;obtain ⟨⟨c0,c1,c2,c3,c4⟩,_⟩:=(HF3.out.blk 0 rfl).five)
              | (go_at_call 35;(with_reducible refine (HIN.out _ HF3.out.below).mono ?_);rintro e w4 ⟨rfl,hb⟩;have HF4:=aA (HF3.out.next hb);clear hb))
            go_ret
            exact ⟨oAs (oAd (by rw [HT.out,oAb,oAb,oAb,HU.out,HDI.out,HDN.out,←HPR.out];simp)),HF4.out.below⟩
end Go.Proofs.YtcgheipmnphbjaaGreatDoor
namespace Go.Proofs.YtcgheipmnphbjaaGreatDoor
set_option maxHeartbeats 8000000
set_option maxRecDepth 100000
open Go.RowKit Go.Shelf Go.Sort
theorem oGo (z:Int) (x:It) (m:oCq x):(oDg z x).length≤30000:=by
  have h1:=oCf _ m.m
  have h2:=oDx x m
  have h3:=oCc x.raw
  have h4:=m.r
  unfold oDg
  split
  · exact Nat.zero_le _
  · have h5:oEm (oEf x.raw).length≤12:=by unfold oEm;split<;>omega
    simp only [List.length_append,List.length_cons,List.length_nil,oAk,List.length_replicate]
    split
    · simp only [List.length_append,List.length_cons,List.length_nil];omega
    · simp only [List.length_nil];omega
theorem oGp {z:Int} (h:z < 0∨65535 < z):∀l:List It,oGf z l=[]
  | []=>rfl
  | _::_=>by unfold oGf;exact if_pos h
theorem oGv {z:Int} (h:¬(z < 0∨65535 < z)) (x:It) (r:List It):oGf z (x::r)=oDg z x++[10]++oGf (z+x.raw.length) r:=by
  rw [oGf,if_neg h]
theorem oHi {z:Int} (h:¬(z < 0∨65535 < z)) (x:It):(⟨(oDg z x).toArray⟩:ByteArray).toList.isEmpty=false:=by
  have:oDg z x≠[]:=fun e=>h (oGn.1 e)
  rw [oDm]
  cases hr:oDg z x with
  | nil=>exact absurd hr this
  | cons a b=>rfl
theorem oGy (z0:Int) (ls:List It) (hm:∀x∈ls,oCq x) (hl:ls.length≤60) (p:aB) (v:Value) (w:World) (h:SlR itR w p v ls) (hT:Spc w) (hD:Deb w):
    Calls Tryz.prog 18 #[.int .i64 z0,v] w fun e w'=>e=.returned (.string ⟨(oGf z0 ls).toArray⟩)∧RowKit.Below w.heap.size w w':=by
  have HRO:=aA (fun z x (hx:x∈ls) q v W h (hb:RowKit.Below w.heap.size w W)=>oFd z x (hm x hx) q v W h (hT.below hb) (hD.below hb))
  have HM:=aA hm
  have HLL:=aA hl
  have HS:=aA h
  obtain ⟨a,c,rfl,_,_,_⟩:=h.it
  have hlm:(ls.length:Int)≤60:=by omega
  have HR0:=aA (oBb.start (L:=[]) (Fr.start w) (fun _ h=>by cases h))
  clear h hT hD hm hl
  go_enter Tryz.func18,Tryz.ntmps18
  go_wp2
  go_loopw [0,11] (fun y i wr=>∃(k:Nat) (z:Int) (vb:Value) (pre:List UInt8),k≤ls.length∧y=.int .i64 z∧i=.int .i64 k∧oBb w [] w.heap.size vb pre wr∧oGf z0 ls=pre++oGf z (ls.drop k)∧pre.length≤40000 * k) (fun _ i _=>ls.length - (intOf i).toNat)
  case atStart=>exact ⟨0,z0,_,[],Nat.zero_le _,rfl,rfl,HR0.out,rfl,Nat.zero_le _⟩
  case round=>
    obtain ⟨k,z,vb,pre,hk,rfl,rfl,hr,ht,hp⟩:=hrel
    have HR:=aA hr
    have HTT:=aA ht
    have HP:=aA hp
    clear hr ht hp
    by_cases hlt:k < ls.length
    · obtain ⟨a2,c2,e2,_,_,hg⟩:=(HS.out.below HR.out.fr.below).it
      injection e2 with e2 e3 e4
      clear e3
      subst e2 e4
      obtain ⟨b1,o1,ra,rc,va,vc,rfl,_,x0,x1,x2,x3,x4,s1,a1⟩:=hg k ls[k] (List.getElem?_eq_getElem hlt)
      have hmx:ls[k]∈ls:=List.getElem_mem hlt
      have HDR:Hid (ls.drop k=ls[k]::ls.drop (k+1)):=aA (List.drop_eq_getElem_cons hlt)
      have HRX:=aA (fun W (h:SlR aI W (fun _=>True) (.slice ra ls[k].raw.length rc) ls[k].raw∧SlR aM W (fun _=>True) (.slice va ls[k].args.length vc) ls[k].args) hb=>HRO.out z ls[k] hmx (fun _=>True) _ W ⟨ra,rc,va,vc,rfl,h.1,h.2⟩ hb)
      have HTL:=aA (oGo z ls[k] (HM.out _ hmx))
      have hraw:ls[k].raw.length≤900:=(HM.out _ hmx).r
      have HNE:=aA (fun h=>oHi (z:=z) h ls[k])
      have HNI:=aA (fun h=>oGn (a:=z) (x:=ls[k]) |>.2 h)
      have HTI:=aA (fun h=>oGv (z:=z) h ls[k] (ls.drop (k+1)))
      rw [HDR.out] at HTT
      have s2:=s1.mono (q:=fun _=>True) (fun _ _=>trivial)
      have a3:=a1.mono (q:=fun _=>True) (fun _ _=>trivial)
      clear hg s1 a1 HDR
      unfold kY at HRX
      generalize oDg z ls[k]=TR at *
      generalize ls[k]=x at *
      obtain ⟨k0,R,op,args,al⟩:=x
      dsimp only at *
      obtain ⟨O,hO⟩:∃S:ByteArray,S=⟨op.toArray⟩:=⟨_,rfl⟩
      rw [←hO] at HRX x2
      obtain ⟨S,hS⟩:∃S:ByteArray,S=⟨TR.toArray⟩:=⟨_,rfl⟩
      have HSD:Hid (S.data.toList=TR):=aA (by rw [hS])
      have hsz:S.size≤30000:=by rw [hS];exact HTL.out
      rw [←hS] at HRX HNE
      clear hS
      have HR1:=aA (HR.out.alloc (.cells #[.int .i64 k0,.slice ra R.length rc,.string O,.slice va args.length vc,.bool al] 40))
      have HSB:=aA (s2.alloc (.cells #[.int .i64 k0,.slice ra R.length rc,.string O,.slice va args.length vc,.bool al] 40))
      have HAB:=aA (a3.alloc (.cells #[.int .i64 k0,.slice ra R.length rc,.string O,.slice va args.length vc,.bool al] 40))
      have HFR:=aA HR.out.fresh
      have HKB:=aA (Blk.new wr 40 #[.int .i64 k0,.slice ra R.length rc,.string O,.slice va args.length vc,.bool al])
      clear s2 a3 hO
      by_cases hz:z < 0∨65535 < z
      · have hTR:TR=[]:=HNI.out hz
        have hse:S.toList.isEmpty=true:=by rw [oDm,HSD.out,hTR];rfl
        have hsq:(S.toList==[])=true:=by rw [oDm,HSD.out,hTR];rfl
        have HEQ:Hid (oGf z0 ls=pre):=aA (by rw [HTT.out,oGp hz,List.append_nil])
        clear HTI HNE HNI hz
        go_wp2_with (first
          | (go_at_call 16;(with_reducible refine (HRX.out _ ⟨HSB.out,HAB.out⟩ HR1.out.fr.below).mono ?_);rintro e w2 ⟨rfl,hb⟩;have HR2:=aA (HR1.out.next hb);clear hb)
          | (go_at_call 45;refine HR2.out.text.mono ?_;rintro e w3 ⟨rfl,hb⟩;have HB3:=aA hb;clear hb))
        go_ret
        exact ⟨by rw [HEQ.out];simp,HB3.out⟩
      · have hse:=HNE.out hz
        have hsq:(S.toList==[])=false:=by
          cases hl:S.toList with
          | nil=>rw [hl] at hse;cases hse
          | cons a b=>rfl
        have HEQ:Hid (oGf z0 ls=(pre++(S++⟨#[10]⟩).data.toList)++oGf (z+R.length) (ls.drop (k+1))):=aA (by rw [HTT.out,HTI.out hz,oAb,HSD.out];simp)
        have hz1:0≤z:=by omega
        have hz2:z≤65535:=by omega
        have hcat:=fun wz=>run_string_add_sum (P:=Tryz.prog) wz S ⟨#[10]⟩ (by show S.size+1≤_;omega)
        have HSS:Hid ((S++⟨#[10]⟩:ByteArray).size≤40000):=aA (by rw [ByteArray.size_append];show S.size+1≤_;omega)
        have hRl:(R.length:Int)≤900:=by omega
        have HWR:=aA (fun (W:World) (v:Value) (h:oBb w [] w.heap.size v pre W)=>h.write (S++⟨#[10]⟩:ByteArray) (by have:=HP.out;have:=HSS.out;have:=HLL.out;omega))
        clear HTI HNE HNI hz
        go_wp2_with (first
          | (go_at_call 16;(with_reducible refine (HRX.out _ ⟨HSB.out,HAB.out⟩ HR1.out.fr.below).mono ?_);rintro e w2 ⟨rfl,hb⟩;have HR2:=aA (HR1.out.next hb);have HK2:=aA (HKB.out.below hb HKB.out.lt);clear hb)
          | (go_at_call 43;(with_reducible refine (HWR.out _ _ HR2.out).mono ?_);rintro e w3 ⟨rfl,⟨v3,hr3⟩,hkp⟩;have HR3:=aA hr3;obtain ⟨⟨c0,c1,c2,c3,c4⟩,_⟩:=(hkp _ _ _ HK2.out HFR.out.1 HFR.out.2).five;clear hr3 hkp))
        go_roundw
        case rel=>exact ⟨k+1,z+R.length,v3,_,by omega,rfl,by go_num,HR3.out,HEQ.out,by rw [List.length_append];have:=HP.out;have:=HSS.out;show _+(S++⟨#[10]⟩:ByteArray).size≤_;omega⟩
        case measure=>simp [intOf];omega
    · obtain rfl:k=ls.length:=by omega
      have HEQ:Hid (oGf z0 ls=pre):=aA (by rw [HTT.out,List.drop_length];exact List.append_nil _)
      go_wp2_with (go_at_call 45;refine HR.out.text.mono ?_;rintro e w3 ⟨rfl,hb⟩;have HB3:=aA hb;clear hb)
      go_ret
      exact ⟨by rw [HEQ.out];simp,HB3.out⟩
theorem oGk (z0:Int) (ls:List It) (hm:∀x∈ls,oCq x) (hl:ls.length≤60) (p:aB) (v:Value) (w:World) (h:SlR itR w p v ls):
    Calls Tryz.prog 19 #[.int .i64 z0,v] w fun e w'=>e=.returned (.string ⟨(oGf z0 ls).toArray⟩)∧RowKit.Below w.heap.size w w':=by
  have HRO:=aA (fun z x (hx:x∈ls) q v W h=>oGj z x (hm x hx) q v W h)
  have HM:=aA hm
  have HLL:=aA hl
  have HS:=aA h
  obtain ⟨a,c,rfl,_,_,_⟩:=h.it
  have hlm:(ls.length:Int)≤60:=by omega
  clear h hm hl
  go_enter Tryz.func19,Tryz.ntmps19
  go_wp2
  go_loopw [0,5,6] (fun y u i wr=>∃(k:Nat) (z:Int) (s:ByteArray),k≤ls.length∧y=.int .i64 z∧u=.string s∧i=.int .i64 k∧RowKit.Below w.heap.size w wr∧oGf z0 ls=s.data.toList++oGf z (ls.drop k)∧s.size≤40000 * k) (fun _ _ i _=>ls.length - (intOf i).toNat)
  case atStart=>exact ⟨0,z0,⟨#[]⟩,Nat.zero_le _,rfl,rfl,rfl,Below.refl _ _,rfl,Nat.le_refl _⟩
  case round=>
    obtain ⟨k,z,s,hk,rfl,rfl,rfl,hb,ht,hp⟩:=hrel
    have HB:=aA hb
    have HTT:=aA ht
    have HP:=aA hp
    clear hb ht hp
    by_cases hlt:k < ls.length
    · by_cases hz:z < 0∨65535 < z
      · have HEQ:Hid (oGf z0 ls=s.data.toList):=aA (by rw [HTT.out,oGp hz,List.append_nil])
        cases h1:decide (0≤z)
        · have h2:¬0≤z:=of_decide_eq_false h1
          clear hz
          go_wp2
          go_ret
          exact ⟨oAs (oAd HEQ.out.symm),HB.out⟩
        · have h2:0≤z:=of_decide_eq_true h1
          have h3:¬z≤65535:=by omega
          clear hz
          go_wp2
          go_ret
          exact ⟨oAs (oAd HEQ.out.symm),HB.out⟩
      · obtain ⟨a2,c2,e2,_,_,hg⟩:=(HS.out.below HB.out).it
        injection e2 with e2 e3 e4
        clear e3
        subst e2 e4
        obtain ⟨b1,o1,ra,rc,va,vc,rfl,_,x0,x1,x2,x3,x4,s1,a1⟩:=hg k ls[k] (List.getElem?_eq_getElem hlt)
        have hmx:ls[k]∈ls:=List.getElem_mem hlt
        have HDR:Hid (ls.drop k=ls[k]::ls.drop (k+1)):=aA (List.drop_eq_getElem_cons hlt)
        have HRX:=aA (fun W (h:SlR aI W (fun _=>True) (.slice ra ls[k].raw.length rc) ls[k].raw∧SlR aM W (fun _=>True) (.slice va ls[k].args.length vc) ls[k].args)=>HRO.out z ls[k] hmx (fun _=>True) _ W ⟨ra,rc,va,vc,rfl,h.1,h.2⟩)
        have HTL:=aA (oGo z ls[k] (HM.out _ hmx))
        have hraw:(ls[k].raw.length:Int)≤900:=by have:=(HM.out _ hmx).r;omega
        have hz1:0≤z:=by omega
        have hz2:z≤65535:=by omega
        rw [HDR.out] at HTT
        have HEQ:Hid (oGf z0 ls=(s.data.toList++oDg z ls[k]++[10])++oGf (z+ls[k].raw.length) (ls.drop (k+1))):=aA (by rw [HTT.out,oGv hz];simp)
        have HSB:=aA (s1.mono (q:=fun _=>True) (fun _ _=>trivial))
        have HAB:=aA (a1.mono (q:=fun _=>True) (fun _ _=>trivial))
        have hss:s.size≤4000000:=by have:=HP.out;have:=HLL.out;omega
        clear hg s1 a1 HDR hz
        unfold kY at HRX
        generalize oDg z ls[k]=TR at *
        generalize ls[k]=x at *
        obtain ⟨k0,R,op,args,al⟩:=x
        dsimp only at *
        obtain ⟨O,hO⟩:∃S:ByteArray,S=⟨op.toArray⟩:=⟨_,rfl⟩
        rw [←hO] at HRX x2
        obtain ⟨S,hS⟩:∃S:ByteArray,S=⟨TR.toArray⟩:=⟨_,rfl⟩
        have HSD:Hid (S.data.toList=TR):=aA (by rw [hS])
        have hsz:S.size≤30000:=by rw [hS];exact HTL.out
        rw [←hS] at HRX
        have hcat:=fun wz=>run_string_add_sum (P:=Tryz.prog) wz s S (by omega)
        have hcat2:=fun wz=>run_string_add_sum (P:=Tryz.prog) wz (s++S) ⟨#[10]⟩ (by rw [ByteArray.size_append];show _+1≤_;omega)
        clear hS hO
        go_wp2_with (go_at_call 17;(with_reducible refine (HRX.out _ ⟨HSB.out,HAB.out⟩).mono ?_);rintro e w2 ⟨rfl,hb⟩;have x1:=(hb.cell (p:=⟨b1,o1+k * 5+1,none⟩) (World.block_lt_of_cell? _ _ x1)).trans x1;have HB2:=aA (HB.out.trans (hb.mono HB.out.size));clear hb)
        go_roundw
        case rel=>exact ⟨k+1,z+R.length,_,by omega,rfl,rfl,by go_num,HB2.out,by rw [oAb,oAb,HSD.out];exact HEQ.out,by rw [ByteArray.size_append,ByteArray.size_append];have:=HP.out;show _+1≤_;omega⟩
        case measure=>simp [intOf];omega
    · obtain rfl:k=ls.length:=by omega
      have HEQ:Hid (oGf z0 ls=s.data.toList):=aA (by rw [HTT.out,List.drop_length];exact List.append_nil _)
      go_wp2
      go_ret
      exact ⟨oAs (oAd HEQ.out.symm),HB.out⟩
theorem oGb {ls:List It} (h:LT ls=true) (hf:∀x∈ls,QD x):(∀x∈ls,oCq x)∧ls.length≤60:=by
  unfold LT at h
  obtain ⟨h1,h2⟩:=Bool.and_eq_true_iff.1 h
  refine ⟨fun x hx=>?_,of_decide_eq_true h2⟩
  have h3:=List.all_eq_true.1 h1 x hx
  unfold yP at h3
  obtain ⟨h4,h5⟩:=Bool.and_eq_true_iff.1 h3
  obtain ⟨h5,h6⟩:=Bool.and_eq_true_iff.1 h5
  exact ⟨⟨of_decide_eq_true h6,of_decide_eq_true h5,(hf x hx).1⟩,by have:=of_decide_eq_true h4;omega⟩
end Go.Proofs.YtcgheipmnphbjaaGreatDoor
