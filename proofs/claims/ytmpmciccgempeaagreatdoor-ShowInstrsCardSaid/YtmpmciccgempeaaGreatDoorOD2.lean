/-
  The law ShowInstrs. Conditions: the library's tables as their initialisers lay them; sizes.
-/
import Derived.Test.YtmpmciccgempeaaGreatDoorOE
namespace Go.Proofs.YtmpmciccgempeaaGreatDoor
set_option maxHeartbeats 8000000
set_option maxRecDepth 100000
open Go.RowKit Go.Shelf Go.Sort
theorem ShowInstrs_law (x:Ins) (p:aB) (v:Value) (w:World) (h:SlR aM w p v x.args) (hT:Spc w) (hD:Deb w) (fx:∀z∈x.args,cN z.n):
    Calls Tryz.prog 8 #[.agg #[.string x.op,v]] w fun e w'=>e=.returned (.bool true)∧RowKit.Below w.heap.size w w':=by
  have HAL:=aA (fun W (hb:RowKit.Below w.heap.size w W)=>oAv W (hT.below hb) (hD.below hb))
  have HSX:=aA (fun W (hb:RowKit.Below w.heap.size w W)=>oBv p x v W (h.below hb))
  have HIN:=aA (fun (m:CV x) W (hb:RowKit.Below w.heap.size w W)=>oAe x m p v W (h.below hb) (hT.below hb) (hD.below hb))
  have HIR:=aA (fun (m:CV x) W (hb:RowKit.Below w.heap.size w W)=>oDf x m p v W (h.below hb))
  have HMX:=aA (fun (hs:shC x=true)=>(⟨of_decide_eq_true (Bool.and_eq_true_iff.1 hs).1,of_decide_eq_true (Bool.and_eq_true_iff.1 hs).2,fx⟩:CV x))
  have HCC:=aA (fun (W:World)=>iE ⟨(oBa x).toArray⟩ 10 W)
  rw [show cO (⟨(oBa x).toArray⟩:ByteArray).data.toList ((10:UInt8).toNat:Int)=false by
    rw [Bool.eq_false_iff]
    intro e
    obtain ⟨c,hc,he⟩:=List.any_eq_true.1 e
    have h1:=oBy x c hc
    have h2:=eq_of_beq he
    have h3:(10:UInt8).toNat=10:=rfl
    omega] at HCC
  obtain ⟨a,c,rfl⟩:∃a c,v=.slice a x.args.length c:=by obtain ⟨a,c,e,_⟩:=h;exact ⟨a,c,e⟩
  have HF0:=aA ((Fr.start w).new 24 #[.string x.op,.slice a x.args.length c])
  generalize oBa x=T at *
  generalize shC x=B at *
  obtain ⟨S,hS⟩:∃S:ByteArray,S=⟨T.toArray⟩:=⟨_,rfl⟩
  rw [←hS] at HIN HIR HCC
  obtain ⟨W0,hW0⟩:∃W:World,W=w.alloc (.cells #[.string x.op,.slice a x.args.length c] 24):=⟨_,rfl⟩
  rw [←hW0] at HF0
  clear h hT hD fx hS
  obtain ⟨e0,e1⟩:=(HF0.out.blk 0 rfl).pair
  cases B
  · clear HIN HIR HMX HCC
    go_enter Tryz.func8,Tryz.ntmps8
    go_upto_region 1 with fail
    rw [←hW0]
    clear hW0
    go_wp2_with (first
      | (go_at_call 43;(with_reducible refine (HSX.out _ HF0.out.below).mono ?_);rintro e w1 ⟨rfl,hb⟩;have HF1:=aA (HF0.out.next hb);clear hb)
      | (go_at_call 44;(with_reducible refine (HAL.out _ HF1.out.below).mono ?_);rintro e w2 ⟨rfl,hb⟩;have HF2:=aA (HF1.out.next hb);clear hb))
    go_ret
    exact ⟨rfl,HF2.out.below⟩
  · have HIN2:=aA (HIN.out (HMX.out rfl))
    have HIR2:=aA (HIR.out (HMX.out rfl))
    clear HIN HIR HMX
    go_enter Tryz.func8,Tryz.ntmps8
    go_upto_region 1 with fail
    rw [←hW0]
    clear hW0
    go_wp2_with (first
      | (go_at_call 43;(with_reducible refine (HSX.out _ HF0.out.below).mono ?_);rintro e w1 ⟨rfl,hb⟩;have HF1:=aA (HF0.out.next hb);clear hb e0 e1;obtain ⟨e0,e1⟩:=(HF1.out.blk 0 rfl).pair)
      | (go_at_call 45;(with_reducible refine (HIN2.out _ HF1.out.below).mono ?_);rintro e w2 ⟨rfl,hb⟩;have HF2:=aA (HF1.out.next hb);clear hb e0 e1;obtain ⟨e0,e1⟩:=(HF2.out.blk 0 rfl).pair)
      | (go_at_call 44;(with_reducible refine (HAL.out _ HF2.out.below).mono ?_);rintro e w3 ⟨rfl,hb⟩;have HF3:=aA (HF2.out.next hb);clear hb e0 e1;obtain ⟨e0,e1⟩:=(HF3.out.blk 0 rfl).pair)
      | (go_at_call 46;(with_reducible refine (HIR2.out _ HF3.out.below).mono ?_);rintro e w4 ⟨rfl,hb⟩;have HF4:=aA (HF3.out.next hb);clear hb e0 e1)
      | (go_at_call 47;refine (HCC.out _).mono ?_;rintro e w5 ⟨rfl,rfl⟩))
    go_ret
    exact ⟨rfl,HF4.out.below⟩
end Go.Proofs.YtmpmciccgempeaaGreatDoor
