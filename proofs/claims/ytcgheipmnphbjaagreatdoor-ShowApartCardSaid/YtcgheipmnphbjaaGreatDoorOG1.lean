/-
  The law ShowApart. Conditions: the library's tables as their initialisers lay them; sizes.
-/
import Derived.Test.YtcgheipmnphbjaaGreatDoorOG
import Derived.Test.YtcgheipmnphbjaaGreatDoorOE
namespace Go.Proofs.YtcgheipmnphbjaaGreatDoor
set_option maxHeartbeats 16000000
set_option maxRecDepth 100000
open Go.RowKit Go.Shelf Go.Sort
theorem oHn {a b:List UInt8}:((⟨a.toArray⟩:ByteArray).toList==(⟨b.toArray⟩:ByteArray).toList)=decide (a=b):=by
  by_cases h:a=b
  · subst h;simp
  · simp [h]
theorem ShowApart_law (x y:Ins) (p q:aB) (v u:Value) (w:World) (h:SlR aM w p v x.args) (g:SlR aM w q u y.args) (hT:Spc w) (hD:Deb w) (fx:∀z∈x.args,cN z.n) (fy:∀z∈y.args,cN z.n):
    Calls Tryz.prog 3 #[.agg #[.string x.op,v],.agg #[.string y.op,u]] w fun e w'=>e=.returned (.bool true)∧RowKit.Below w.heap.size w w':=by
  have HAL:=aA (fun W (hb:RowKit.Below w.heap.size w W)=>oAv W (hT.below hb) (hD.below hb))
  have HSX:=aA (fun W (hb:RowKit.Below w.heap.size w W)=>oBv p x v W (h.below hb))
  have HSY:=aA (fun W (hb:RowKit.Below w.heap.size w W)=>oBv q y u W (g.below hb))
  have HCX0:=aA (fun (m:CV x) W (hb:RowKit.Below w.heap.size w W)=>oCr x m p v W (h.below hb))
  have HCY0:=aA (fun (m:CV y) W (hb:RowKit.Below w.heap.size w W)=>oCr y m q u W (g.below hb))
  have HIX0:=aA (fun (m:CV x) W (hb:RowKit.Below w.heap.size w W)=>oAe x m p v W (h.below hb) (hT.below hb) (hD.below hb))
  have HIY0:=aA (fun (m:CV y) W (hb:RowKit.Below w.heap.size w W)=>oAe y m q u W (g.below hb) (hT.below hb) (hD.below hb))
  have HOX0:=aA (fun (m:CV x) W (hb:RowKit.Below w.heap.size w W)=>jS p x v W (h.below hb) (by have:=m.n;omega) m.f)
  have HOY0:=aA (fun (m:CV y) W (hb:RowKit.Below w.heap.size w W)=>jS q y u W (g.below hb) (by have:=m.n;omega) m.f)
  have HSM:=aA (fun p q v1 v2 W h1 h2=>nB p q (aE x) (aE y) v1 v2 W h1 h2)
  have HMX:=aA (fun (hs:shC x=true)=>(⟨of_decide_eq_true (Bool.and_eq_true_iff.1 hs).1,of_decide_eq_true (Bool.and_eq_true_iff.1 hs).2,fx⟩:CV x))
  have HMY:=aA (fun (hs:shC y=true)=>(⟨of_decide_eq_true (Bool.and_eq_true_iff.1 hs).1,of_decide_eq_true (Bool.and_eq_true_iff.1 hs).2,fy⟩:CV y))
  have HTA:Hid ((cQ x).2=0→(cQ y).2=0→((⟨(oBa x).toArray⟩:ByteArray).toList==(⟨(oBa y).toArray⟩:ByteArray).toList)=fG (aE x) (aE y)):=aA (fun hx hy=>by
    rw [oHn];exact oGr (by unfold tI;rw [hx];rfl) (by unfold tI;rw [hy];rfl))
  have HNX:Hid (¬(cQ x).2=0→(⟨(oBa x).toArray⟩:ByteArray)=⟨#[]⟩):=aA (fun hx=>by rw [oBu (by unfold tI;exact beq_eq_false_iff_ne.2 hx)])
  have HNY:Hid (¬(cQ y).2=0→(⟨(oBa y).toArray⟩:ByteArray)=⟨#[]⟩):=aA (fun hy=>by rw [oBu (by unfold tI;exact beq_eq_false_iff_ne.2 hy)])
  obtain ⟨xa,xc,rfl⟩:∃a c,v=.slice a x.args.length c:=by obtain ⟨a,c,e,_⟩:=h;exact ⟨a,c,e⟩
  obtain ⟨ya,yc,rfl⟩:∃a c,u=.slice a y.args.length c:=by obtain ⟨a,c,e,_⟩:=g;exact ⟨a,c,e⟩
  have HC:=aA (((Fr.start w).new 24 #[.string x.op,.slice xa x.args.length xc]).new' 24 #[.string y.op,.slice ya y.args.length yc] (World.size_alloc _ _))
  clear h g hT hD fx fy
  generalize fG (aE x) (aE y)=R at *
  rw [show (aE x).op=x.op from rfl,show (aE y).op=y.op from rfl] at HSM
  generalize (aE x).args=cx at *
  generalize (aE y).args=cy at *
  generalize (cQ x).2=kx at *
  generalize (cQ y).2=ky at *
  generalize (⟨(oBa x).toArray⟩:ByteArray)=TX at *
  generalize (⟨(oBa y).toArray⟩:ByteArray)=TY at *
  generalize shC x=BX at *
  generalize shC y=BY at *
  obtain ⟨W0,hW0⟩:∃W:World,W=(w.alloc (.cells #[.string x.op,.slice xa x.args.length xc] 24)).alloc (.cells #[.string y.op,.slice ya y.args.length yc] 24):=⟨_,rfl⟩
  rw [←hW0] at HC
  cases BX
  · clear HCX0 HCY0 HIX0 HIY0 HOX0 HOY0 HSM HMX HMY HTA HNX HNY
    go_enter Tryz.func3,Tryz.ntmps3
    go_upto_region 1 with fail
    rw [←hW0]
    clear hW0
    obtain ⟨e0,e1⟩:=(HC.out.blk 1 rfl).pair
    obtain ⟨c0,c1⟩:=(HC.out.blk 0 rfl).pair
    go_wp2_with (first
      | (go_at_call 6;(with_reducible refine (HSX.out _ HC.out.below).mono ?_);rintro e w1 ⟨rfl,hb⟩;have Hn:=aA (HC.out.next hb);clear HC hb e0 e1 c0 c1;have HC:=Hn;clear Hn;obtain ⟨e0,e1⟩:=(HC.out.blk 1 rfl).pair;obtain ⟨c0,c1⟩:=(HC.out.blk 0 rfl).pair)
      | (go_at_call 7;(with_reducible refine (HAL.out _ HC.out.below).mono ?_);rintro e w1 ⟨rfl,hb⟩;have Hn:=aA (HC.out.next hb);clear HC hb e0 e1 c0 c1;have HC:=Hn;clear Hn;obtain ⟨e0,e1⟩:=(HC.out.blk 1 rfl).pair;obtain ⟨c0,c1⟩:=(HC.out.blk 0 rfl).pair))
    go_ret
    exact ⟨rfl,HC.out.below⟩
  cases BY
  · clear HCX0 HCY0 HIX0 HIY0 HOX0 HOY0 HSM HMX HMY HTA HNX HNY
    go_enter Tryz.func3,Tryz.ntmps3
    go_upto_region 1 with fail
    rw [←hW0]
    clear hW0
    obtain ⟨e0,e1⟩:=(HC.out.blk 1 rfl).pair
    obtain ⟨c0,c1⟩:=(HC.out.blk 0 rfl).pair
    go_wp2_with (first
      | (go_at_call 6;(with_reducible refine (HSX.out _ HC.out.below).mono ?_);rintro e w1 ⟨rfl,hb⟩;have Hn:=aA (HC.out.next hb);clear HC hb e0 e1 c0 c1;have HC:=Hn;clear Hn;obtain ⟨e0,e1⟩:=(HC.out.blk 1 rfl).pair;obtain ⟨c0,c1⟩:=(HC.out.blk 0 rfl).pair)
      | (go_at_call 6;(with_reducible refine (HSY.out _ HC.out.below).mono ?_);rintro e w1 ⟨rfl,hb⟩;have Hn:=aA (HC.out.next hb);clear HC hb e0 e1 c0 c1;have HC:=Hn;clear Hn;obtain ⟨e0,e1⟩:=(HC.out.blk 1 rfl).pair;obtain ⟨c0,c1⟩:=(HC.out.blk 0 rfl).pair)
      | (go_at_call 7;(with_reducible refine (HAL.out _ HC.out.below).mono ?_);rintro e w1 ⟨rfl,hb⟩;have Hn:=aA (HC.out.next hb);clear HC hb e0 e1 c0 c1;have HC:=Hn;clear Hn;obtain ⟨e0,e1⟩:=(HC.out.blk 1 rfl).pair;obtain ⟨c0,c1⟩:=(HC.out.blk 0 rfl).pair))
    go_ret
    exact ⟨rfl,HC.out.below⟩
  have HCX:=aA (HCX0.out (HMX.out rfl))
  have HCY:=aA (HCY0.out (HMY.out rfl))
  have HIX:=aA (HIX0.out (HMX.out rfl))
  have HIY:=aA (HIY0.out (HMY.out rfl))
  have HOX:=aA (HOX0.out (HMX.out rfl))
  have HOY:=aA (HOY0.out (HMY.out rfl))
  clear HCX0 HCY0 HIX0 HIY0 HOX0 HOY0 HMX HMY
  by_cases hx:kx=0
  · by_cases hy:ky=0
    · have hR:=HTA.out hx hy
      subst hx hy
      clear HTA HNX HNY
      have HRR:=aA hR
      clear hR
      go_enter Tryz.func3,Tryz.ntmps3
      go_upto_region 1 with fail
      rw [←hW0]
      clear hW0
      obtain ⟨e0,e1⟩:=(HC.out.blk 1 rfl).pair
      obtain ⟨c0,c1⟩:=(HC.out.blk 0 rfl).pair
      go_upto_region 7 with (first
        | (go_at_call 6;(with_reducible refine (HSX.out _ HC.out.below).mono ?_);rintro e w1 ⟨rfl,hb⟩;have Hn:=aA (HC.out.next hb);clear HC hb e0 e1 c0 c1;have HC:=Hn;clear Hn;obtain ⟨e0,e1⟩:=(HC.out.blk 1 rfl).pair;obtain ⟨c0,c1⟩:=(HC.out.blk 0 rfl).pair)
        | (go_at_call 6;(with_reducible refine (HSY.out _ HC.out.below).mono ?_);rintro e w1 ⟨rfl,hb⟩;have Hn:=aA (HC.out.next hb);clear HC hb e0 e1 c0 c1;have HC:=Hn;clear Hn;obtain ⟨e0,e1⟩:=(HC.out.blk 1 rfl).pair;obtain ⟨c0,c1⟩:=(HC.out.blk 0 rfl).pair)
        | (go_at_call 8;(with_reducible refine (HCX.out _ HC.out.below).mono ?_);rintro e w1 ⟨⟨z0,z1,z2,z3,z4,z5,z6,z7,rfl⟩,hb⟩;have Hn:=aA (((HC.out.next hb).alloc (.cells #[.int .i64 z0,.int .u8 z1,.string z2,.slice z3 z4 z5,.string z6,.bool z7] 28)));clear HC hb e0 e1 c0 c1;have HC:=Hn;clear Hn;obtain ⟨e0,e1⟩:=(HC.out.blk 1 rfl).pair;obtain ⟨c0,c1⟩:=(HC.out.blk 0 rfl).pair)
        | (go_at_call 8;(with_reducible refine (HCY.out _ HC.out.below).mono ?_);rintro e w1 ⟨⟨z0,z1,z2,z3,z4,z5,z6,z7,rfl⟩,hb⟩;have Hn:=aA (((HC.out.next hb).alloc (.cells #[.int .i64 z0,.int .u8 z1,.string z2,.slice z3 z4 z5,.string z6,.bool z7] 28)));clear HC hb e0 e1 c0 c1;have HC:=Hn;clear Hn;obtain ⟨e0,e1⟩:=(HC.out.blk 1 rfl).pair;obtain ⟨c0,c1⟩:=(HC.out.blk 0 rfl).pair))
      have hR:=HRR.out
      have Hn:=aA HC.out.drew
      clear HC HSX HSY HCX HCY e0 e1 c0 c1
      have HC:=Hn
      clear Hn
      obtain ⟨e0,e1⟩:=(HC.out.blk 1 rfl).pair
      obtain ⟨c0,c1⟩:=(HC.out.blk 0 rfl).pair
      cases R
      all_goals
        go_region_held3 (fun w'=>w'.cell? ⟨w.heap.size,0,none⟩=some (.string x.op)∧w'.cell? ⟨w.heap.size,1,none⟩=some (.slice xa x.args.length xc)∧w'.cell? ⟨w.heap.size+1,0,none⟩=some (.string y.op)∧w'.cell? ⟨w.heap.size+1,1,none⟩=some (.slice ya y.args.length yc)) (go_keep)
          (first
            | (go_at_call 7;(with_reducible refine (HAL.out _ HC.out.below).mono ?_);rintro e w1 ⟨rfl,hb⟩;(try have Sn:=aA (SX.out.below hb));(try clear SX);(try have SX:=Sn);(try clear Sn);(try have Sn:=aA (SY.out.below hb));(try clear SY);(try have SY:=Sn);(try clear Sn);have Hn:=aA (HC.out.next hb);clear HC hb e0 e1 c0 c1;have HC:=Hn;clear Hn;obtain ⟨e0,e1⟩:=(HC.out.blk 1 rfl).pair;obtain ⟨c0,c1⟩:=(HC.out.blk 0 rfl).pair)
            | (go_at_call 9;(with_reducible refine (HIX.out _ HC.out.below).mono ?_);rintro e w1 ⟨rfl,hb⟩;(try have Sn:=aA (SX.out.below hb));(try clear SX);(try have SX:=Sn);(try clear Sn);(try have Sn:=aA (SY.out.below hb));(try clear SY);(try have SY:=Sn);(try clear Sn);have Hn:=aA (HC.out.next hb);clear HC hb e0 e1 c0 c1;have HC:=Hn;clear Hn;obtain ⟨e0,e1⟩:=(HC.out.blk 1 rfl).pair;obtain ⟨c0,c1⟩:=(HC.out.blk 0 rfl).pair)
            | (go_at_call 9;(with_reducible refine (HIY.out _ HC.out.below).mono ?_);rintro e w1 ⟨rfl,hb⟩;(try have Sn:=aA (SX.out.below hb));(try clear SX);(try have SX:=Sn);(try clear Sn);(try have Sn:=aA (SY.out.below hb));(try clear SY);(try have SY:=Sn);(try clear Sn);have Hn:=aA (HC.out.next hb);clear HC hb e0 e1 c0 c1;have HC:=Hn;clear Hn;obtain ⟨e0,e1⟩:=(HC.out.blk 1 rfl).pair;obtain ⟨c0,c1⟩:=(HC.out.blk 0 rfl).pair)
            | (go_at_call 11;(with_reducible refine (HOX.out _ HC.out.below).mono ?_);rintro e w1 ⟨u1,rfl,ho,hb⟩;obtain ⟨x1a,x1c,rfl⟩:=ho.form;have SX:=aA ho.slR;clear ho;(try have Sn:=aA (SY.out.below hb));(try clear SY);(try have SY:=Sn);(try clear Sn);have Hn:=aA (HC.out.next hb);clear HC hb e0 e1 c0 c1;have HC:=Hn;clear Hn;obtain ⟨e0,e1⟩:=(HC.out.blk 1 rfl).pair;obtain ⟨c0,c1⟩:=(HC.out.blk 0 rfl).pair)
            | (go_at_call 11;(with_reducible refine (HOY.out _ HC.out.below).mono ?_);rintro e w1 ⟨u1,rfl,ho,hb⟩;obtain ⟨y1a,y1c,rfl⟩:=ho.form;have SY:=aA ho.slR;clear ho;(try have Sn:=aA (SX.out.below hb));(try clear SX);(try have SX:=Sn);(try clear Sn);have Hn:=aA (HC.out.next hb);clear HC hb e0 e1 c0 c1;have HC:=Hn;clear Hn;obtain ⟨e0,e1⟩:=(HC.out.blk 1 rfl).pair;obtain ⟨c0,c1⟩:=(HC.out.blk 0 rfl).pair)
            | (go_at_call 10;refine (HSM.out _ _ _ _ _ SX.out SY.out).mono ?_;rintro e w1 ⟨rfl,hb⟩;have Hn:=aA (HC.out.next hb);clear HC hb e0 e1 c0 c1;have HC:=Hn;clear Hn;obtain ⟨e0,e1⟩:=(HC.out.blk 1 rfl).pair;obtain ⟨c0,c1⟩:=(HC.out.blk 0 rfl).pair))
        go_wp2
        go_ret
        exact ⟨rfl,HC.out.below⟩
    · have hTY:=HNY.out hy
      subst hTY
      have hy1:(ky != 0)=true:=by rw [bne_iff_ne];exact hy
      have hy2:(ky==0)=false:=by rw [beq_eq_false_iff_ne];exact hy
      subst hx
      clear HTA HNX HNY HOX HOY HSM HIX
      go_enter Tryz.func3,Tryz.ntmps3
      go_upto_region 1 with fail
      rw [←hW0]
      clear hW0
      obtain ⟨e0,e1⟩:=(HC.out.blk 1 rfl).pair
      obtain ⟨c0,c1⟩:=(HC.out.blk 0 rfl).pair
      go_wp2_with (first
        | (go_at_call 6;(with_reducible refine (HSX.out _ HC.out.below).mono ?_);rintro e w1 ⟨rfl,hb⟩;have Hn:=aA (HC.out.next hb);clear HC hb e0 e1 c0 c1;have HC:=Hn;clear Hn;obtain ⟨e0,e1⟩:=(HC.out.blk 1 rfl).pair;obtain ⟨c0,c1⟩:=(HC.out.blk 0 rfl).pair)
        | (go_at_call 6;(with_reducible refine (HSY.out _ HC.out.below).mono ?_);rintro e w1 ⟨rfl,hb⟩;have Hn:=aA (HC.out.next hb);clear HC hb e0 e1 c0 c1;have HC:=Hn;clear Hn;obtain ⟨e0,e1⟩:=(HC.out.blk 1 rfl).pair;obtain ⟨c0,c1⟩:=(HC.out.blk 0 rfl).pair)
        | (go_at_call 8;(with_reducible refine (HCX.out _ HC.out.below).mono ?_);rintro e w1 ⟨⟨z0,z1,z2,z3,z4,z5,z6,z7,rfl⟩,hb⟩;have Hn:=aA (((HC.out.next hb).alloc (.cells #[.int .i64 z0,.int .u8 z1,.string z2,.slice z3 z4 z5,.string z6,.bool z7] 28)));clear HC hb e0 e1 c0 c1;have HC:=Hn;clear Hn;obtain ⟨e0,e1⟩:=(HC.out.blk 1 rfl).pair;obtain ⟨c0,c1⟩:=(HC.out.blk 0 rfl).pair)
        | (go_at_call 8;(with_reducible refine (HCY.out _ HC.out.below).mono ?_);rintro e w1 ⟨⟨z0,z1,z2,z3,z4,z5,z6,z7,rfl⟩,hb⟩;have Hn:=aA (((HC.out.next hb).alloc (.cells #[.int .i64 z0,.int .u8 z1,.string z2,.slice z3 z4 z5,.string z6,.bool z7] 28)));clear HC hb e0 e1 c0 c1;have HC:=Hn;clear Hn;obtain ⟨e0,e1⟩:=(HC.out.blk 1 rfl).pair;obtain ⟨c0,c1⟩:=(HC.out.blk 0 rfl).pair)
        | (go_at_call 7;(with_reducible refine (HAL.out _ HC.out.below).mono ?_);rintro e w1 ⟨rfl,hb⟩;have Hn:=aA (HC.out.next hb);clear HC hb e0 e1 c0 c1;have HC:=Hn;clear Hn;obtain ⟨e0,e1⟩:=(HC.out.blk 1 rfl).pair;obtain ⟨c0,c1⟩:=(HC.out.blk 0 rfl).pair)
        | (go_at_call 9;(with_reducible refine (HIY.out _ HC.out.below).mono ?_);rintro e w1 ⟨rfl,hb⟩;have Hn:=aA (HC.out.next hb);clear HC hb e0 e1 c0 c1;have HC:=Hn;clear Hn;obtain ⟨e0,e1⟩:=(HC.out.blk 1 rfl).pair;obtain ⟨c0,c1⟩:=(HC.out.blk 0 rfl).pair))
      go_ret
      exact ⟨rfl,HC.out.below⟩
  · have hTX:=HNX.out hx
    subst hTX
    have hx1:(kx != 0)=true:=by rw [bne_iff_ne];exact hx
    have hx2:(kx==0)=false:=by rw [beq_eq_false_iff_ne];exact hx
    by_cases hy:ky=0
    · subst hy
      clear HTA HNX HNY HOX HOY HSM HIY
      go_enter Tryz.func3,Tryz.ntmps3
      go_upto_region 1 with fail
      rw [←hW0]
      clear hW0
      obtain ⟨e0,e1⟩:=(HC.out.blk 1 rfl).pair
      obtain ⟨c0,c1⟩:=(HC.out.blk 0 rfl).pair
      go_wp2_with (first
        | (go_at_call 6;(with_reducible refine (HSX.out _ HC.out.below).mono ?_);rintro e w1 ⟨rfl,hb⟩;have Hn:=aA (HC.out.next hb);clear HC hb e0 e1 c0 c1;have HC:=Hn;clear Hn;obtain ⟨e0,e1⟩:=(HC.out.blk 1 rfl).pair;obtain ⟨c0,c1⟩:=(HC.out.blk 0 rfl).pair)
        | (go_at_call 6;(with_reducible refine (HSY.out _ HC.out.below).mono ?_);rintro e w1 ⟨rfl,hb⟩;have Hn:=aA (HC.out.next hb);clear HC hb e0 e1 c0 c1;have HC:=Hn;clear Hn;obtain ⟨e0,e1⟩:=(HC.out.blk 1 rfl).pair;obtain ⟨c0,c1⟩:=(HC.out.blk 0 rfl).pair)
        | (go_at_call 8;(with_reducible refine (HCX.out _ HC.out.below).mono ?_);rintro e w1 ⟨⟨z0,z1,z2,z3,z4,z5,z6,z7,rfl⟩,hb⟩;have Hn:=aA (((HC.out.next hb).alloc (.cells #[.int .i64 z0,.int .u8 z1,.string z2,.slice z3 z4 z5,.string z6,.bool z7] 28)));clear HC hb e0 e1 c0 c1;have HC:=Hn;clear Hn;obtain ⟨e0,e1⟩:=(HC.out.blk 1 rfl).pair;obtain ⟨c0,c1⟩:=(HC.out.blk 0 rfl).pair)
        | (go_at_call 8;(with_reducible refine (HCY.out _ HC.out.below).mono ?_);rintro e w1 ⟨⟨z0,z1,z2,z3,z4,z5,z6,z7,rfl⟩,hb⟩;have Hn:=aA (((HC.out.next hb).alloc (.cells #[.int .i64 z0,.int .u8 z1,.string z2,.slice z3 z4 z5,.string z6,.bool z7] 28)));clear HC hb e0 e1 c0 c1;have HC:=Hn;clear Hn;obtain ⟨e0,e1⟩:=(HC.out.blk 1 rfl).pair;obtain ⟨c0,c1⟩:=(HC.out.blk 0 rfl).pair)
        | (go_at_call 7;(with_reducible refine (HAL.out _ HC.out.below).mono ?_);rintro e w1 ⟨rfl,hb⟩;have Hn:=aA (HC.out.next hb);clear HC hb e0 e1 c0 c1;have HC:=Hn;clear Hn;obtain ⟨e0,e1⟩:=(HC.out.blk 1 rfl).pair;obtain ⟨c0,c1⟩:=(HC.out.blk 0 rfl).pair)
        | (go_at_call 9;(with_reducible refine (HIX.out _ HC.out.below).mono ?_);rintro e w1 ⟨rfl,hb⟩;have Hn:=aA (HC.out.next hb);clear HC hb e0 e1 c0 c1;have HC:=Hn;clear Hn;obtain ⟨e0,e1⟩:=(HC.out.blk 1 rfl).pair;obtain ⟨c0,c1⟩:=(HC.out.blk 0 rfl).pair))
      go_ret
      exact ⟨rfl,HC.out.below⟩
    · have hTY:=HNY.out hy
      subst hTY
      have hy1:(ky != 0)=true:=by rw [bne_iff_ne];exact hy
      have hy2:(ky==0)=false:=by rw [beq_eq_false_iff_ne];exact hy
      clear HTA HNX HNY HOX HOY HSM
      go_enter Tryz.func3,Tryz.ntmps3
      go_upto_region 1 with fail
      rw [←hW0]
      clear hW0
      obtain ⟨e0,e1⟩:=(HC.out.blk 1 rfl).pair
      obtain ⟨c0,c1⟩:=(HC.out.blk 0 rfl).pair
      go_wp2_with (first
        | (go_at_call 6;(with_reducible refine (HSX.out _ HC.out.below).mono ?_);rintro e w1 ⟨rfl,hb⟩;have Hn:=aA (HC.out.next hb);clear HC hb e0 e1 c0 c1;have HC:=Hn;clear Hn;obtain ⟨e0,e1⟩:=(HC.out.blk 1 rfl).pair;obtain ⟨c0,c1⟩:=(HC.out.blk 0 rfl).pair)
        | (go_at_call 6;(with_reducible refine (HSY.out _ HC.out.below).mono ?_);rintro e w1 ⟨rfl,hb⟩;have Hn:=aA (HC.out.next hb);clear HC hb e0 e1 c0 c1;have HC:=Hn;clear Hn;obtain ⟨e0,e1⟩:=(HC.out.blk 1 rfl).pair;obtain ⟨c0,c1⟩:=(HC.out.blk 0 rfl).pair)
        | (go_at_call 8;(with_reducible refine (HCX.out _ HC.out.below).mono ?_);rintro e w1 ⟨⟨z0,z1,z2,z3,z4,z5,z6,z7,rfl⟩,hb⟩;have Hn:=aA (((HC.out.next hb).alloc (.cells #[.int .i64 z0,.int .u8 z1,.string z2,.slice z3 z4 z5,.string z6,.bool z7] 28)));clear HC hb e0 e1 c0 c1;have HC:=Hn;clear Hn;obtain ⟨e0,e1⟩:=(HC.out.blk 1 rfl).pair;obtain ⟨c0,c1⟩:=(HC.out.blk 0 rfl).pair)
        | (go_at_call 8;(with_reducible refine (HCY.out _ HC.out.below).mono ?_);rintro e w1 ⟨⟨z0,z1,z2,z3,z4,z5,z6,z7,rfl⟩,hb⟩;have Hn:=aA (((HC.out.next hb).alloc (.cells #[.int .i64 z0,.int .u8 z1,.string z2,.slice z3 z4 z5,.string z6,.bool z7] 28)));clear HC hb e0 e1 c0 c1;have HC:=Hn;clear Hn;obtain ⟨e0,e1⟩:=(HC.out.blk 1 rfl).pair;obtain ⟨c0,c1⟩:=(HC.out.blk 0 rfl).pair)
        | (go_at_call 7;(with_reducible refine (HAL.out _ HC.out.below).mono ?_);rintro e w1 ⟨rfl,hb⟩;have Hn:=aA (HC.out.next hb);clear HC hb e0 e1 c0 c1;have HC:=Hn;clear Hn;obtain ⟨e0,e1⟩:=(HC.out.blk 1 rfl).pair;obtain ⟨c0,c1⟩:=(HC.out.blk 0 rfl).pair)
        | (go_at_call 9;(with_reducible refine (HIX.out _ HC.out.below).mono ?_);rintro e w1 ⟨rfl,hb⟩;have Hn:=aA (HC.out.next hb);clear HC hb e0 e1 c0 c1;have HC:=Hn;clear Hn;obtain ⟨e0,e1⟩:=(HC.out.blk 1 rfl).pair;obtain ⟨c0,c1⟩:=(HC.out.blk 0 rfl).pair)
        | (go_at_call 9;(with_reducible refine (HIY.out _ HC.out.below).mono ?_);rintro e w1 ⟨rfl,hb⟩;have Hn:=aA (HC.out.next hb);clear HC hb e0 e1 c0 c1;have HC:=Hn;clear Hn;obtain ⟨e0,e1⟩:=(HC.out.blk 1 rfl).pair;obtain ⟨c0,c1⟩:=(HC.out.blk 0 rfl).pair))
      go_ret
      exact ⟨rfl,HC.out.below⟩
end Go.Proofs.YtcgheipmnphbjaaGreatDoor
