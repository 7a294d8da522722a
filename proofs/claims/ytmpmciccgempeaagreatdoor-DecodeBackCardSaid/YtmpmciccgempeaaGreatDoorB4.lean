/-
  breadboardref08.Is; the law DecodeBack. Conditions: the library's table as its initialiser lays it.
-/
import Derived.Test.YtmpmciccgempeaaGreatDoorB3
import Derived.Test.YtmpmciccgempeaaGreatDoorBF2
import Derived.Test.YtmpmciccgempeaaGreatDoorBC3
import Derived.Test.YtmpmciccgempeaaGreatDoorBC2
import Derived.Test.YtmpmciccgempeaaGreatDoorBF1
import Derived.Test.YtmpmciccgempeaaGreatDoorBC1
import Derived.Test.YtmpmciccgempeaaGreatDoorBU1
import Derived.Test.YtmpmciccgempeaaGreatDoorBA17
import Derived.Test.YtmpmciccgempeaaGreatDoorBH1
import Derived.Test.YtmpmciccgempeaaGreatDoorBA14
import Derived.Test.YtmpmciccgempeaaGreatDoorBE3
import Derived.Test.YtmpmciccgempeaaGreatDoorBA12
import Derived.Test.YtmpmciccgempeaaGreatDoorBA6
import Derived.Test.YtmpmciccgempeaaGreatDoorBA5
import Derived.Test.YtmpmciccgempeaaGreatDoorBB1
import Derived.Test.YtmpmciccgempeaaGreatDoorBA1
import Derived.Test.YtmpmciccgempeaaGreatDoorChecked
import Derived.Test.YtmpmciccgempeaaGreatDoorBA4
import Derived.Test.YtmpmciccgempeaaGreatDoorShelf
import Derived.Test.YtmpmciccgempeaaGreatDoorBA2
import Derived.Test.YtmpmciccgempeaaGreatDoorBE1
import Derived.Test.YtmpmciccgempeaaGreatDoorBA3
import Derived.Test.YtmpmciccgempeaaGreatDoorBB2
import Derived.Test.YtmpmciccgempeaaGreatDoorBM1
import Derived.Test.YtmpmciccgempeaaGreatDoorBG1
import Derived.Test.YtmpmciccgempeaaGreatDoorBA9
import Derived.Test.YtmpmciccgempeaaGreatDoorBE2
import Derived.Test.YtmpmciccgempeaaGreatDoorBA7
import Derived.Test.YtmpmciccgempeaaGreatDoorBA8
import Derived.Test.YtmpmciccgempeaaGreatDoorBB3
import Derived.Test.YtmpmciccgempeaaGreatDoorBA11
import Derived.Test.YtmpmciccgempeaaGreatDoorBA10
import Derived.Test.YtmpmciccgempeaaGreatDoorBB8
import Derived.Test.YtmpmciccgempeaaGreatDoorBB4
import Derived.Test.YtmpmciccgempeaaGreatDoorBB6
import Derived.Test.YtmpmciccgempeaaGreatDoorBB5
import Derived.Test.YtmpmciccgempeaaGreatDoorBA13
import Derived.Test.YtmpmciccgempeaaGreatDoorBB7
import Derived.Test.YtmpmciccgempeaaGreatDoorBC4
import Derived.Test.YtmpmciccgempeaaGreatDoorBH2
import Derived.Test.YtmpmciccgempeaaGreatDoorBG2
import Derived.Test.YtmpmciccgempeaaGreatDoorBA16
import Derived.Test.YtmpmciccgempeaaGreatDoorBA15
import Derived.Test.YtmpmciccgempeaaGreatDoorShelfT
import Derived.Lib.QuietBelow
namespace Go.Proofs.YtmpmciccgempeaaGreatDoor
set_option maxHeartbeats 16000000
set_option maxRecDepth 100000
open Go.RowKit Go.Shelf Go.Sort
theorem oAq {w:World} {f:FuncId} {args:Array Value} {b:Bool} (h:Calls Tryz.prog f args w fun e w'=>e=.returned (.bool b)∧∃n,w'=w.drewN n):Calls Tryz.prog f args w fun e w'=>e=.returned (.bool b)∧RowKit.Below w.heap.size w w':=
  h.mono fun _ _ h=>⟨h.1,by obtain ⟨n,hn⟩:=h.2;rw [hn];exact aY (Below.refl _ _) n⟩
theorem fldB (k:Int) (v1 v2 v3 v4:Value) (W:World):(Instr.field 34 (.agg #[.int .i64 k,v1,v2,v3,v4]) 0).run Tryz.prog W=.ok (.int .i64 k) W:=by
  simp [Instr.field,asAgg,go_sem]
theorem oAr {o:Opd} (h:aC o=true):-70000≤o.n∧o.n≤70000:=by
  unfold aC at h
  split at h
  · obtain ⟨_,h⟩:=Bool.and_eq_true_iff.1 h
    rw [eq_of_beq h];omega
  split at h
  · obtain ⟨h,h2⟩:=Bool.and_eq_true_iff.1 h
    obtain ⟨_,h1⟩:=Bool.and_eq_true_iff.1 h
    have:=of_decide_eq_true h1;have:=of_decide_eq_true h2;omega
  split at h
  · obtain ⟨h,h2⟩:=Bool.and_eq_true_iff.1 h
    obtain ⟨_,h1⟩:=Bool.and_eq_true_iff.1 h
    have:=of_decide_eq_true h1;have:=of_decide_eq_true h2;omega
  split at h
  · obtain ⟨h,h2⟩:=Bool.and_eq_true_iff.1 h
    obtain ⟨_,h1⟩:=Bool.and_eq_true_iff.1 h
    have:=of_decide_eq_true h1;have:=of_decide_eq_true h2;omega
  split at h
  · obtain ⟨h,h2⟩:=Bool.and_eq_true_iff.1 h
    obtain ⟨_,h1⟩:=Bool.and_eq_true_iff.1 h
    have:=of_decide_eq_true h1;have:=of_decide_eq_true h2;omega
  · cases h
theorem oAi {x:Ins} (h:bH x=0):∀y∈x.args,aC y=true:=by
  unfold bH at h
  split at h
  · cases h
  · split at h
    · cases h
    · split at h
      · rename_i h2
        exact fun y hy=>List.all_eq_true.1 h2 y hy
      · cases h
theorem oBl.mildX {l:List UInt8} {x:Ins} (h:oBl l x):CV x:=⟨h.mild.1,h.mild.2.1,fun y hy=>by have:=oAr (oAi h.mild.2.2 y hy);unfold cN;omega⟩
theorem oBc (x:Ins) (hc:aE x=x) (m:CV x) (p:aB) (v:Value) (w:World) (h:SlR aM w p v x.args):
    Calls Tryz.prog 29 #[.agg #[.string x.op,v]] w fun e w'=>e=.returned (.bool true)∧RowKit.Below w.heap.size w w':=by
  have HO:=aA (fun W (hb:RowKit.Below w.heap.size w W)=>jS p x v W (h.below hb) (by have:=m.n;omega) m.f)
  have HSM:=aA (fun p q v1 v2 W h1 h2=>nB p q x x v1 v2 W h1 h2)
  rw [show fG x x=true by simp [fG]] at HSM
  rw [hc] at HO
  have HS:=aA (fun W (hb:RowKit.Below w.heap.size w W)=>h.below hb)
  obtain ⟨a,c,rfl⟩:∃a c,v=.slice a x.args.length c:=by obtain ⟨a,c,e,_⟩:=h;exact ⟨a,c,e⟩
  have HF0:=aA ((Fr.start w).new 24 #[.string x.op,.slice a x.args.length c])
  obtain ⟨W,hW⟩:∃W:World,W=w.alloc (.cells #[.string x.op,.slice a x.args.length c] 24):=⟨_,rfl⟩
  rw [←hW] at HF0
  clear h m hc
  go_enter Tryz.func29,Tryz.ntmps29
  go_upto_region 1 with fail
  rw [←hW]
  clear hW
  obtain ⟨e0,e1⟩:=(HF0.out.blk 0 rfl).pair
  have HFD:=aA HF0.out.drew
  go_region_held3 (fun w'=>w'.cell? ⟨w.heap.size,0,none⟩=some (.string x.op)∧w'.cell? ⟨w.heap.size,1,none⟩=some (.slice a x.args.length c)) (go_keep)
    (first | (go_at_call 31;refine (HO.out _ HFD.out.below).mono ?_;rintro e w1 ⟨v1,rfl,ho,hb⟩;have r1:=ho.slR;clear ho;obtain ⟨va,vc,rfl⟩:∃a c,v1=.slice a x.args.length c:=(by obtain ⟨a,c,e,_⟩:=r1;exact ⟨a,c,e⟩);have HR1:=aA r1;have HF1:=aA (HFD.out.next hb);have e0:=(hb.cell (p:=⟨w.heap.size,0,none⟩) (World.block_lt_of_cell? _ _ e0)).trans e0;have e1:=(hb.cell (p:=⟨w.heap.size,1,none⟩) (World.block_lt_of_cell? _ _ e1)).trans e1;clear hb r1)
           | (go_at_call 27;(with_reducible refine (HSM.out _ _ _ _ _ HR1.out (HS.out _ HF1.out.below)).mono ?_);rintro e w2 ⟨rfl,hb⟩;have HF2:=aA (HF1.out.next hb);have e0:=(hb.cell (p:=⟨w.heap.size,0,none⟩) (World.block_lt_of_cell? _ _ e0)).trans e0;have e1:=(hb.cell (p:=⟨w.heap.size,1,none⟩) (World.block_lt_of_cell? _ _ e1)).trans e1;clear hb))
  go_wp2
  go_ret
  exact ⟨rfl,HF2.out.below⟩
theorem DecodeBack_law (l:List UInt8) (p:aB) (v:Value) (w:World) (h:SlR aI w p v l) (hT:Spc w):
    Calls Tryz.prog 4 #[v] w fun e w'=>e=.returned (.bool true)∧RowKit.Below w.heap.size w w':=by
  have HT:=aA hT
  have HAL:=aA (fun W (hb:RowKit.Below w.heap.size w W)=>alive12_any W (hT.below hb))
  have HS:=aA (h.mono (q:=fun _=>True) (fun _ _=>trivial))
  obtain ⟨la,lc,rfl,hl1,hl2,_⟩:=h.byte
  have hlm:(l.length:Int)≤9223372036854775807:=by omega
  clear h hT hl1 hl2
  by_cases h1:(1000:Int) < (l.length:Int)
  · go_enter Tryz.func4,Tryz.ntmps4
    go_wp2_with (go_at_call 21;refine (HAL.out _ (Below.refl _ _)).mono ?_;rintro e w1 ⟨rfl,hb⟩;have H1:=aA hb;clear hb)
    go_ret
    exact ⟨rfl,H1.out⟩
  by_cases h0:l.length=0
  · obtain rfl:l=[]:=List.length_eq_zero_iff.1 h0
    clear h0 h1 hlm
    show Calls Tryz.prog 4 #[.slice la 0 lc] w _
    go_enter Tryz.func4,Tryz.ntmps4
    go_wp2_with (go_at_call 21;refine (HAL.out _ (Below.refl _ _)).mono ?_;rintro e w1 ⟨rfl,hb⟩;have H1:=aA hb;clear hb)
    go_ret
    exact ⟨rfl,H1.out⟩
  have hp:0 < l.length:=by omega
  have hlb:l.length≤1000000:=by omega
  have hq:((l.length:Int)==0)=false:=by rw [beq_eq_false_iff_ne];omega
  have hq1:¬(l.length:Int)=0:=by omega
  have HFI:Hid (∀W,RowKit.Below w.heap.size w W→Calls Tryz.prog 22 #[.slice la l.length lc] W fun e w'=>(∃ra rc va vc,e=.returned (.agg #[.int .i64 (itF l).k,.slice ra (l.take (itF l).n).length rc,.string ⟨(itF l).op.toArray⟩,.slice va (itF l).args.length vc,.bool (itF l).al])∧SlR aI w' (fun _=>True) (.slice ra (l.take (itF l).n).length rc) (l.take (itF l).n)∧SlR aM w' (fun _=>True) (.slice va (itF l).args.length vc) (itF l).args)∧RowKit.Below W.heap.size W w'):=aA (fun W hb=>
    (kE _ la lc l W (HT.out.below hb) (HS.out.below hb) hp hlb).mono (by rintro e w' ⟨⟨v,rfl,ra,rc,va,vc,rfl,h1,h2⟩,hb⟩;exact ⟨⟨ra,rc,va,vc,rfl,h1.mono (fun _ _=>trivial),h2.mono (fun _ _=>trivial)⟩,hb⟩))
  have HF2:Hid (∀W,RowKit.Below w.heap.size w W→Calls Tryz.prog 23 #[.slice la l.length lc] W fun e w'=>(∃v1 v2 v3 v4,e=.returned (.agg #[.int .i64 (itF l).k,v1,v2,v3,v4]))∧RowKit.Below W.heap.size W w'):=aA (fun W hb=>
    (BU _ la lc l W (HS.out.below hb) hp hlb).mono (by rintro e w' ⟨⟨v,rfl,ra,rc,va,vc,rfl,h1,h2⟩,hb⟩;exact ⟨⟨_,_,_,_,rfl⟩,hb⟩))
  have HBK:=aA (fun hk=>oBa (l:=l) hk)
  generalize hR:l.take (itF l).n=R at *
  generalize hX:itF l=X at *
  obtain ⟨k,n,O,C,al⟩:=X
  dsimp only at *
  clear hp hlb
  obtain ⟨SO,hSO⟩:∃S:ByteArray,S=⟨O.toArray⟩:=⟨_,rfl⟩
  rw [←hSO] at HFI HBK
  by_cases hk:k=1
  · subst hk
    have B:=HBK.out rfl
    have mX:=B.mildX
    obtain ⟨b,hen,hbq⟩:=B.enc
    rw [hX] at hbq
    dsimp only at hbq
    rw [hR] at hbq
    have HENC:=aA (fun p va vc W (h:SlR aM W p (.slice va C.length vc) C) hT=>GC ⟨SO,C⟩ mX p _ W h hT)
    rw [hen] at HENC
    have HFO:=aA (fun p va vc W (h:SlR aM W p (.slice va C.length vc) C)=>Forms11_any ⟨SO,C⟩ mX p _ W h)
    have HIS:=aA (fun p va vc W (h:SlR aM W p (.slice va C.length vc) C)=>oBc ⟨SO,C⟩ B.canon mX p _ W h)
    have HFM:=aA B.form
    have HSM:=aA (fun p q v1 v2 W h1 h2=>nB p q ⟨SO,C⟩ ⟨SO,C⟩ v1 v2 W h1 h2)
    rw [show fG (⟨SO,C⟩:Ins) ⟨SO,C⟩=true by simp [fG]] at HSM
    generalize nV ⟨SO,C⟩=FR at *
    dsimp only at *
    clear hSO HBK HF2 B mX hen hX hR
    unfold EncQ at HENC
    unfold RowsP at HFO
    dsimp only at HENC
    go_enter Tryz.func4,Tryz.ntmps4
    go_upto_region 4 with (go_at_call 22;(with_reducible refine (HFI.out _ (Below.refl _ _)).mono ?_);rintro e w1 ⟨⟨ra,rc,va,vc,rfl,s1,a1⟩,hb⟩;have HR1:=aA (s1.alloc (.cells #[.int .i64 1,.slice ra R.length rc,.string SO,.slice va C.length vc,.bool al] 34));have HA1:=aA (a1.alloc (.cells #[.int .i64 1,.slice ra R.length rc,.string SO,.slice va C.length vc,.bool al] 34));have HC1:=aA (((Fr.start w).next hb).new' 34 #[.int .i64 1,.slice ra R.length rc,.string SO,.slice va C.length vc,.bool al] (b:=w1.heap.size) rfl);clear hb s1 a1)
    clear HFI
    obtain ⟨W1,hW1⟩:∃W:World,W=w1.alloc (.cells #[.int .i64 1,.slice ra R.length rc,.string SO,.slice va C.length vc,.bool al] 34):=⟨_,rfl⟩
    rw [←hW1] at HC1 HR1 HA1 ⊢
    clear hW1
    generalize w1.heap.size=g at *
    obtain ⟨⟨c0,c1,c2,c3,c4⟩,_⟩:=(HC1.out.blk 0 rfl).five
    go_upto_region 8 with (first
      | (go_at_call 24;(with_reducible refine (HENC.out _ _ _ _ HA1.out (HT.out.below HC1.out.below)).mono ?_);rintro e w2 ⟨⟨v2,rfl,ho⟩,hb⟩;obtain ⟨ya,yc,rfl⟩:=ho.form;have HY2:=aA (Own.slR (q:=fun _=>True) ho (fun _ h=>h.elim) (fun _ _=>trivial));have HC2:=aA (HC1.out.next hb);have HR2:=aA (HR1.out.below hb);have HA2:=aA (HA1.out.below hb);clear hb ho c0 c1 c2 c3 c4;obtain ⟨⟨c0,c1,c2,c3,c4⟩,_⟩:=(HC2.out.blk 0 rfl).five)
      | (go_at_call 25;(with_reducible refine (HFO.out _ _ _ _ HA2.out).mono ?_);rintro e w3 ⟨v3,rfl,ho,hb⟩;obtain ⟨fa,fc,rfl⟩:=ho.form;have HX3:=aA (ho.slR.mono (q:=fun _=>True) (fun _ _=>trivial));have HC3:=aA (HC2.out.next hb);have HR3:=aA (HR2.out.below hb);have HA3:=aA (HA2.out.below hb);have HY3:=aA (HY2.out.below hb);clear hb ho c0 c1 c2 c3 c4))
    clear HENC HFO HC1 HC2 HR1 HR2 HA1 HA2 HY2
    have hfl:(FR.length:Int)≤9223372036854775807:=by obtain ⟨_,_,_,h1,h2,_⟩:=HX3.out.row;omega
    go_loopw [41] (fun i wr=>∃k:Nat,k≤FR.length∧i=.int .i64 k∧RowKit.Below w3.heap.size w3 wr) (fun i _=>FR.length - (intOf i).toNat)
    case atStart=>exact ⟨0,Nat.zero_le _,rfl,Below.refl _ _⟩
    case round=>
      obtain ⟨k,hk,rfl,hb⟩:=hrel
      have HB:=aA hb
      have HC:=aA (HC3.out.next hb)
      have HA:=aA (HA3.out.below hb)
      clear hb
      by_cases hlt:k < FR.length
      · obtain ⟨a2,c2',e2,_,_,hg⟩:=(HX3.out.below HB.out).row
        injection e2 with e2 e3 e4
        clear e3
        subst e2 e4
        obtain ⟨b1,o1,ua,uc,rfl,_,d0,hs⟩:=hg k FR[k] (List.getElem?_eq_getElem hlt)
        obtain ⟨f1,f2,al2,f3⟩:=HFM.out FR[k] (List.getElem_mem hlt)
        have HID:=aA (InstrD_any _ ua uc FR[k] wr (HT.out.below HC.out.below) hs f1 (by omega) (by rw [f3]) (by rw [f3];simp))
        rw [f3] at HID
        dsimp only at HID
        have hoe:(⟨SO.data.toList.toArray⟩:ByteArray)=SO:=rfl
        rw [hoe] at HID
        clear hoe
        clear hg hs f1 f2 f3
        generalize FR[k]=f at *
        go_upto_region 11 with (go_at_call 26;(with_reducible refine HID.out.mono ?_);rintro e w5 ⟨⟨va5,vc5,rfl,s5⟩,hb⟩;have HI5:=aA (s5.alloc (.cells #[.string SO,.slice va5 C.length vc5] 24));have HA5:=aA ((HA.out.below hb).alloc (.cells #[.string SO,.slice va5 C.length vc5] 24));have HB5:=aA ((HB.out.trans (hb.mono HB.out.size)).alloc (HB.out.trans (hb.mono HB.out.size)).size (.cells #[.string SO,.slice va5 C.length vc5] 24));have HC5:=aA ((HC.out.next hb).new' 24 #[.string SO,.slice va5 C.length vc5] (b:=w5.heap.size) rfl);clear hb s5 d0)
        obtain ⟨W5,hW5⟩:∃W:World,W=w5.alloc (.cells #[.string SO,.slice va5 C.length vc5] 24):=⟨_,rfl⟩
        rw [←hW5] at HC5 HI5 HA5 HB5 ⊢
        clear hW5
        generalize w5.heap.size=g5 at *
        obtain ⟨e0,e1⟩:=(HC5.out.blk 0 rfl).pair
        obtain ⟨⟨c0,c1,c2,c3,c4⟩,_⟩:=(HC5.out.blk 1 rfl).five
        go_wp2_with (go_at_call 27;(with_reducible refine (HSM.out _ _ _ _ _ HI5.out HA5.out).mono ?_);rintro e w6 ⟨rfl,hb⟩;have HB6:=aA (HB5.out.trans (hb.mono HB5.out.size));clear hb)
        go_roundw
        case rel=>exact ⟨k+1,by omega,by go_num,HB6.out⟩
        case measure=>simp [intOf];omega
      · have HR:=aA (HR3.out.below HB.out)
        have HY:=aA (HY3.out.below HB.out)
        have HB5:Hid (∀d os,RowKit.Below wr.heap.size wr (grow (redrawn wr d) os)):=fun d os=>below_regrown wr d os
        have C1:=fun d os=>((HC.out.next (HB5.out d os)).blk 0 rfl).cell 1
        have C2:=fun d os=>((HC.out.next (HB5.out d os)).blk 0 rfl).cell 2
        have C3:=fun d os=>((HC.out.next (HB5.out d os)).blk 0 rfl).cell 3
        have C4:=fun d os=>((HC.out.next (HB5.out d os)).blk 0 rfl).cell 4
        have KAL:=aA (fun d os=>HAL.out _ (HC.out.next (HB5.out d os)).below)
        have KEQ:=aA (fun d os=>oAq (vP _ _ _ _ b R _ (HY.out.below (HB5.out d os)) (HR.out.below (HB5.out d os))))
        have KIS:=aA (fun d os=>HIS.out _ _ _ _ (HA.out.below (HB5.out d os)))
        rw [hbq] at KEQ
        clear HAL HIS hbq
        go_upto_region 14 with fail
        cases al
        all_goals
          refine wp_region_quiet_below (by kernel_rfl) (by kernel_rfl) ?_
          repeat (go_big_quiet_step (first | (with_reducible exact Calls.regrown_of (KAL.out _ _)) | (with_reducible exact Calls.regrown_of (KEQ.out _ _)) | (with_reducible exact Calls.regrown_of (KIS.out _ _))))
          refine wpQuiet_nil ?_
          intro _ hw'
          obtain ⟨⟨dq,osq⟩,hw''⟩:=hw'
          subst hw''
          have HFB:=aA (HC.out.next (HB5.out dq osq)).below
          clear C1 C2 C3 C4
          show Exit.then _ _ Exit.normal _ (grow (redrawn wr dq) osq)
          generalize grow (redrawn wr dq) osq=W9 at *
          go_wp2
          go_ret
          exact ⟨rfl,HFB.out⟩
  · have hk1:(k != 1)=true:=by rw [bne_iff_ne];exact hk
    have hfld:=fun v1 v2 v3 v4 W=>fldB k v1 v2 v3 v4 W
    clear hSO HBK HT hX hR
    go_enter Tryz.func4,Tryz.ntmps4
    go_upto_region 4 with (go_at_call 22;(with_reducible refine (HFI.out _ (Below.refl _ _)).mono ?_);rintro e w1 ⟨⟨ra,rc,va,vc,rfl,s1,a1⟩,hb⟩;have HC1:=aA (((Fr.start w).next hb).new' 34 #[.int .i64 k,.slice ra R.length rc,.string SO,.slice va C.length vc,.bool al] (b:=w1.heap.size) rfl);clear hb s1 a1)
    clear HFI
    obtain ⟨W1,hW1⟩:∃W:World,W=w1.alloc (.cells #[.int .i64 k,.slice ra R.length rc,.string SO,.slice va C.length vc,.bool al] 34):=⟨_,rfl⟩
    rw [←hW1] at HC1 ⊢
    clear hW1
    generalize w1.heap.size=g at *
    obtain ⟨⟨c0,c1,c2,c3,c4⟩,_⟩:=(HC1.out.blk 0 rfl).five
    go_wp2_with (first
      | (go_at_call 21;(with_reducible refine (HAL.out _ HC1.out.below).mono ?_);rintro e w2 ⟨rfl,hb⟩;have HC2:=aA (HC1.out.next hb);clear hb c0 c1 c2 c3 c4)
      | (go_at_call 23;(with_reducible refine (HF2.out _ HC2.out.below).mono ?_);rintro e w3 ⟨⟨v1,v2,v3,v4,rfl⟩,hb⟩;have HC3:=aA (HC2.out.next hb);clear hb))
    go_ret
    exact ⟨rfl,HC3.out.below⟩
end Go.Proofs.YtmpmciccgempeaaGreatDoor
