/-
  Marks, numbers and shapes of instructions, the program's and the references'. Conditions: sizes.
-/
import Derived.Test.YtmpmciccgempeaaGreatDoorBB2
namespace Go.Proofs.YtmpmciccgempeaaGreatDoor
set_option maxHeartbeats 400000
open Go.RowKit
theorem YF (p q:aB) (v1 v2:Value) (l1 l2:List Int) (w:World) (h1:SlR oO w p v1 l1) (h2:SlR oO w q v2 l2):
  Calls Tryz.prog 64 #[v1,v2] w fun e w'=>e=.returned (.bool (decide (l1=l2)))∧∃n,w'=w.drewN n:=by
 obtain ⟨a1,c1,rfl,hc1,hm1,g1⟩:=h1.int
 obtain ⟨a2,c2,rfl,hc2,hm2,g2⟩:=h2.int
 clear h1 h2
 by_cases hl:l1.length=l2.length
 ·have HL:=aA hl
  rw [←hl] at hc2 ⊢
  clear hl
  go_enter Tryz.func64,Tryz.ntmps64
  go_wp2
  go_loopw [5,13] (fun _ i wr=>∃k n:Nat,k≤l1.length∧i=.int .i64 k∧wr=w.drewN n∧l1.take k=l2.take k) (fun _ i _=>l1.length - (intOf i).toNat)
  case atStart=>exact ⟨0,0,Nat.zero_le _,rfl,rfl,rfl⟩
  case round=>
   obtain ⟨k,n,hk,rfl,rfl,ht⟩:=hrel
   have HT:=aA ht
   clear ht
   by_cases hlt:k < l1.length
   ·have hlt2:k < l2.length:=by have:=HL.out;omega
    obtain ⟨b1,o1,rfl,_,d1⟩:=g1 k l1[k] (List.getElem?_eq_getElem hlt)
    obtain ⟨b2,o2,rfl,_,e1⟩:=g2 k l2[k] (List.getElem?_eq_getElem hlt2)
    clear g1 g2
    have HS:=aA (iV hlt hlt2 HT.out)
    have HN:Hid (l1[k]≠l2[k]→l1≠l2):=fun h e=>h (by simp only [e])
    generalize l1[k]=x at *
    generalize l2[k]=y at *
    cases hxy:(x==y)
    rotate_left
    ·go_wp2
     go_quiet (fail)
     go_wp2
     go_roundw
     case rel=>exact ⟨k+1,n+nq,by omega,by go_num,rfl,HS.out (eq_of_beq hxy)⟩
     case measure=>simp [intOf];omega
    ·go_wp2
     go_quiet (fail)
     go_wp2
     go_ret
     exact ⟨aF (decide_eq_false (HN.out (by simpa using hxy))).symm,_,ER _ _ _⟩
   ·go_wp2
    go_ret
    exact ⟨aF (decide_eq_true (by have h1:=HT.out;have h2:=HL.out;rwa [List.take_of_length_le (by omega),List.take_of_length_le (by omega)] at h1)).symm,n,rfl⟩
 ·go_enter Tryz.func64,Tryz.ntmps64
  go_wp2
  go_ret
  exact ⟨by simp;intro h;exact hl (by rw [h]),0,rfl⟩
end Go.Proofs.YtmpmciccgempeaaGreatDoor
