/-
  The law ShowData. Conditions: the library's tables as their initialisers lay them; sizes.
-/
import Derived.Test.YtmpmciccgempeaaGreatDoorOE
namespace Go.Proofs.YtmpmciccgempeaaGreatDoor
set_option maxHeartbeats 4000000
set_option maxRecDepth 100000
open Go.RowKit Go.Shelf Go.Sort
theorem ShowData_law (l:List UInt8) (p:aB) (v:Value) (w:World) (h:SlR aI w p v l) (hT:Spc w) (hD:Deb w):
    Calls Tryz.prog 10 #[v] w fun e w'=>e=.returned (.bool true)∧RowKit.Below w.heap.size w w':=by
  have HAL:=aA (fun W (hb:RowKit.Below w.heap.size w W)=>oAv W (hT.below hb) (hD.below hb))
  have HDA:=aA (fun (hl:l.length≤900) W (hb:RowKit.Below w.heap.size w W)=>oCe l p v W (h.below hb) (hD.below hb) hl)
  have HDR:=aA (fun (hl:l.length≤900) W (hb:RowKit.Below w.heap.size w W)=>oCz l p v W (h.below hb) hl)
  obtain ⟨a,c,rfl,hl1,hl2,_⟩:=h.byte
  have hlm:(l.length:Int)≤9223372036854775807:=by omega
  clear h hT hD hl1 hl2
  by_cases h1:(300:Int) < (l.length:Int)
  · go_enter Tryz.func10,Tryz.ntmps10
    go_wp2_with (go_at_call 44;refine (HAL.out _ (Below.refl _ _)).mono ?_;rintro e w1 ⟨rfl,hb⟩;have H1:=aA hb;clear hb)
    go_ret
    exact ⟨rfl,H1.out⟩
  have HDA2:=aA (HDA.out (by omega))
  have HDR2:=aA (HDR.out (by omega))
  have HCT:=aA (fun (W:World)=>Tryz.strings_Count_one ⟨(oAq l).toArray⟩ 44 W)
  rw [show (Lib.countByte (⟨(oAq l).toArray⟩:ByteArray).data.toList 44:Int)=max ((l.length:Int) - 1) 0 by
    show (((oAq l).count 44:Nat):Int)=_
    rw [oFe];omega] at HCT
  obtain ⟨S,hS⟩:∃S:ByteArray,S=⟨(oAq l).toArray⟩:=⟨_,rfl⟩
  rw [←hS] at HDA2 HDR2 HCT
  clear hS HDA HDR
  go_enter Tryz.func10,Tryz.ntmps10
  go_wp2_with (first
    | (go_at_call 49;(with_reducible refine (HDA2.out _ (Below.refl _ _)).mono ?_);rintro e w1 ⟨rfl,hb⟩;have H1:=aA hb;clear hb)
    | (go_at_call 44;(with_reducible refine (HAL.out _ H1.out).mono ?_);rintro e w2 ⟨rfl,hb⟩;have H2:=aA (H1.out.trans (hb.mono H1.out.size));clear hb)
    | (go_at_call 50;(with_reducible refine (HDR2.out _ H2.out).mono ?_);rintro e w3 ⟨rfl,hb⟩;have H3:=aA (H2.out.trans (hb.mono H2.out.size));clear hb)
    | (go_at_call 51;refine (HCT.out _).mono ?_;rintro e w4 ⟨rfl,rfl⟩))
  go_ret
  exact ⟨rfl,H3.out⟩
end Go.Proofs.YtmpmciccgempeaaGreatDoor
