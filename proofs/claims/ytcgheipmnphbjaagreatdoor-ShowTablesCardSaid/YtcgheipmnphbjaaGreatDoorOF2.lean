/-
  The law ShowTables. Conditions: the library's tables as their initialisers lay them; sizes.
-/
import Derived.Test.YtcgheipmnphbjaaGreatDoorOF
namespace Go.Proofs.YtcgheipmnphbjaaGreatDoor
set_option maxHeartbeats 8000000
set_option maxRecDepth 100000
open Go.RowKit Go.Shelf Go.Sort
theorem ShowTables_law (z:Int) (ls:List It) (p:aB) (v:Value) (w:World) (h:SlR itR w p v ls) (hf:∀x∈ls,QD x) (hT:Spc w) (hD:Deb w):
    Calls Tryz.prog 5 #[.int .i64 z,v] w fun e w'=>e=.returned (.bool true)∧RowKit.Below w.heap.size w w':=by
  have HAL:=aA (fun W (hb:RowKit.Below w.heap.size w W)=>oAv W (hT.below hb) (hD.below hb))
  have HFW:=aA (Few_any p v ls w h)
  have HTB:=aA (fun hF=>oGy z ls (oGb hF hf).1 (oGb hF hf).2 p v w h hT hD)
  have HTR:=aA (fun hF W (hb:RowKit.Below w.heap.size w W)=>oGk z ls (oGb hF hf).1 (oGb hF hf).2 p v W (h.below hb))
  have HCT:=aA (fun (W:World)=>Tryz.strings_Count_one ⟨(oGf z ls).toArray⟩ 10 W)
  obtain ⟨m,hm⟩:∃m:Nat,m=Lib.countByte (⟨(oGf z ls).toArray⟩:ByteArray).data.toList 10:=⟨_,rfl⟩
  have hml:(m:Int)≤(ls.length:Int):=by rw [hm];exact Int.ofNat_le.2 (oCs ls z)
  rw [←hm] at HCT
  obtain ⟨a,c,rfl,_,_,_⟩:=h.it
  obtain ⟨S,hS⟩:∃S:ByteArray,S=⟨(oGf z ls).toArray⟩:=⟨_,rfl⟩
  rw [←hS] at HCT HTB HTR
  generalize LT ls=F at *
  clear h hT hD hf hS hm
  cases F
  · clear HTB HTR HCT
    go_enter Tryz.func5,Tryz.ntmps5
    go_wp2_with (first
      | (go_at_call 12;refine HFW.out.mono ?_;rintro e w1 ⟨rfl,rfl⟩)
      | (go_at_call 7;(with_reducible refine (HAL.out _ (Below.refl _ _)).mono ?_);rintro e w2 ⟨rfl,hb⟩;have H2:=aA hb;clear hb))
    go_ret
    exact ⟨rfl,H2.out⟩
  · have HTB2:=aA (HTB.out rfl)
    have HTR2:=aA (HTR.out rfl)
    clear HTB HTR
    go_enter Tryz.func5,Tryz.ntmps5
    go_wp2_with (first
      | (go_at_call 12;refine HFW.out.mono ?_;rintro e w1 ⟨rfl,rfl⟩)
      | (go_at_call 18;(with_reducible refine HTB2.out.mono ?_);rintro e w2 ⟨rfl,hb⟩;have H2:=aA hb;clear hb)
      | (go_at_call 7;(with_reducible refine (HAL.out _ H2.out).mono ?_);rintro e w3 ⟨rfl,hb⟩;have H3:=aA (H2.out.trans (hb.mono H2.out.size));clear hb)
      | (go_at_call 19;(with_reducible refine (HTR2.out _ H3.out).mono ?_);rintro e w4 ⟨rfl,hb⟩;have H4:=aA (H3.out.trans (hb.mono H3.out.size));clear hb)
      | (go_at_call 20;refine (HCT.out _).mono ?_;rintro e w5 ⟨rfl,rfl⟩))
    go_ret
    exact ⟨rfl,H4.out⟩
end Go.Proofs.YtcgheipmnphbjaaGreatDoor
