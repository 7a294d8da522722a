/-
  Size, PageOf; the reference's Same and Size. Conditions: sizes.
-/
import Derived.Test.YtnbmbcjnncbaiaaGreatDoorPF
import Derived.IntWalk
import Derived.Test.YtnbmbcjnncbaiaaGreatDoorQK
namespace Go.Proofs.YtnbmbcjnncbaiaaGreatDoor
set_option maxHeartbeats 4000000
set_option maxRecDepth 100000
open Go.RowKit Go.Shelf Go.Sort
theorem prefF_len (p:Int):(prefF p).length≤2:=by
 unfold prefF
 repeat' split
 all_goals decide
theorem Size_any (x:EntV) (v:Value) (w:World) (hv:∃a n c,v=.slice a n c) (hex:x.ex.length≤1000) (hcn:Lib.countByte x.ex 119≤1000):
  Calls Tryz.prog 53 #[entVal x v] w fun e w'=>e=.returned (.int .i64 (((prefF x.pg).length:Int)+1+(x.ex.length:Int)+(Lib.countByte x.ex 119:Int)))∧Below w.heap.size w w':=by
 obtain ⟨pg,op,iop,args,ex,al⟩:=x
 obtain ⟨va,vn,vc,rfl⟩:=hv
 dsimp only at *
 obtain ⟨exB,hexB⟩:∃b:ByteArray,b=⟨ex.toArray⟩:=⟨_,rfl⟩
 have hexs:exB.size=ex.length:=by rw [hexB];show ex.toArray.size=_;rw [List.size_toArray]
 have hct:=fun W=>Tryz.strings_Count_one exB 119 W
 rw [show exB.data.toList=ex by rw [hexB]] at hct
 have HPF:=Lib.hid (fun W=>Prefixes_any pg W)
 have hpl:=prefF_len pg
 have HB0:=Lib.hid ((Below.refl w.heap.size w).alloc (Nat.le_refl _) (.cells #[.int .i64 pg,.int .u8 op,.string ⟨iop.toArray⟩,.slice va vn vc,.string exB,.bool al] 77))
 have HE0:=Lib.hid (Blk.new w 77 #[.int .i64 pg,.int .u8 op,.string ⟨iop.toArray⟩,.slice va vn vc,.string exB,.bool al])
 rw [←hexs] at hex ⊢
 unfold entVal
 dsimp only
 rw [←hexB]
 have hc4:(w.alloc (.cells #[.int .i64 pg,.int .u8 op,.string ⟨iop.toArray⟩,.slice va vn vc,.string exB,.bool al] 77)).cell? ⟨w.heap.size,4,none⟩=some (.string exB):=HE0.out.cell 4
 have hc0:(w.alloc (.cells #[.int .i64 pg,.int .u8 op,.string ⟨iop.toArray⟩,.slice va vn vc,.string exB,.bool al] 77)).cell? ⟨w.heap.size,0,none⟩=some (.int .i64 pg):=HE0.out.cell 0
 generalize Lib.countByte ex 119=c at *
 have HCT:=Lib.hid hct
 clear hct hexs hexB
 generalize prefF pg=pl at *
 have g1:IntKind.i64.wrap ((pl.length:Int)+1)=(pl.length:Int)+1:=IntWalk.i64_in _ (by omega)
 have g2:IntKind.i64.wrap ((pl.length:Int)+1+(exB.size:Int))=(pl.length:Int)+1+(exB.size:Int):=IntWalk.i64_in _ (by omega)
 have g3:IntKind.i64.wrap ((pl.length:Int)+1+(exB.size:Int)+(c:Int))=(pl.length:Int)+1+(exB.size:Int)+(c:Int):=IntWalk.i64_in _ (by omega)
 clear hex hcn hpl
 have hlw:w.heap.size < (w.alloc (.cells #[.int .i64 pg,.int .u8 op,.string ⟨iop.toArray⟩,.slice va vn vc,.string exB,.bool al] 77)).heap.size:=HE0.out.lt
 go_enter Tryz.func53,Tryz.ntmps53
 go_wp2
 generalize (w.alloc (.cells #[.int .i64 pg,.int .u8 op,.string ⟨iop.toArray⟩,.slice va vn vc,.string exB,.bool al] 77))=w1 at *
 go_region_held3 (fun w'=>w'.cell? ⟨w.heap.size,0,none⟩=some (.int .i64 pg)∧w'.cell? ⟨w.heap.size,4,none⟩=some (.string exB)) (go_keep)
  (first
   | (go_at_call 80;refine (HPF.out _).mono ?_;rintro e w2 ⟨v2,rfl,ho,hb⟩;obtain ⟨a2,c2,rfl⟩:=ho.form;have HB1:=Lib.hid (HB0.out.drew.trans (hb.mono (show w.heap.size≤w1.heap.size from HB0.out.size)));have d0:w2.cell? ⟨w.heap.size,0,none⟩=some (.int .i64 pg):=(hb.cell (p:=⟨w.heap.size,0,none⟩) hlw).trans hc0;have d4:w2.cell? ⟨w.heap.size,4,none⟩=some (.string exB):=(hb.cell (p:=⟨w.heap.size,4,none⟩) hlw).trans hc4;clear ho hb)
   | (go_at_call 81;refine (HCT.out _).mono ?_;rintro e w2 ⟨rfl,rfl⟩))
 go_wp2
 go_ret
 exact ⟨rfl,HB1.out⟩
end Go.Proofs.YtnbmbcjnncbaiaaGreatDoor
namespace Go.Proofs.YtnbmbcjnncbaiaaGreatDoor
set_option maxHeartbeats 4000000
set_option maxRecDepth 100000
open Go.RowKit Go.Shelf
theorem RefPrefixes_any (p:Int) (w:World):
  Calls Tryz.prog 88 #[.int .i64 p] w fun e w'=>∃v,e=.returned v∧Own byteR w' w.heap.size 5 NoB v (prefF p)∧Below w.heap.size w w':=by
 have hal:∀c:UInt8,Own byteR (w.alloc (.cells #[.int .u8 c.toNat] 5)) w.heap.size 5 NoB (.slice (some ⟨w.heap.size,0,none⟩) 1 1) [c]:=fun c=>Own.lit w _ [c] _ 1 rfl rfl (by simp)
 have hal2:∀c d:UInt8,Own byteR (w.alloc (.cells #[.int .u8 c.toNat,.int .u8 d.toNat] 5)) w.heap.size 5 NoB (.slice (some ⟨w.heap.size,0,none⟩) 2 2) [c,d]:=fun c d=>Own.lit w _ [c,d] _ 2 rfl rfl (by simp)
 have hb:∀o:Obj,Below w.heap.size w (w.alloc o):=fun o=>(Below.refl _ w).alloc (Nat.le_refl _) o
 have HAL:=Lib.hid hal
 have HAL2:=Lib.hid hal2
 have HB:=Lib.hid hb
 clear hal hb hal2
 by_cases h1:p=1
 ·subst h1
  go_enter Tryz.func88,Tryz.ntmps88
  go_wp2
  go_ret
  exact ⟨_,rfl,HAL.out 203,HB.out _⟩
 by_cases h2:p=2
 ·subst h2
  go_enter Tryz.func88,Tryz.ntmps88
  go_wp2
  go_ret
  exact ⟨_,rfl,HAL.out 237,HB.out _⟩
 by_cases h3:p=3
 ·subst h3
  go_enter Tryz.func88,Tryz.ntmps88
  go_wp2
  go_ret
  exact ⟨_,rfl,HAL.out 221,HB.out _⟩
 by_cases h4:p=4
 ·subst h4
  go_enter Tryz.func88,Tryz.ntmps88
  go_wp2
  go_ret
  exact ⟨_,rfl,HAL.out 253,HB.out _⟩
 by_cases h5:p=5
 ·subst h5
  go_enter Tryz.func88,Tryz.ntmps88
  go_wp2
  go_ret
  exact ⟨_,rfl,HAL2.out 221 203,HB.out _⟩
 by_cases h6:p=6
 ·subst h6
  go_enter Tryz.func88,Tryz.ntmps88
  go_wp2
  go_ret
  exact ⟨_,rfl,HAL2.out 253 203,HB.out _⟩
 have hf:prefF p=[]:=by rw [prefF,if_neg h1,if_neg h2,if_neg h3,if_neg h4,if_neg h5,if_neg h6]
 have b1:(p==1)=false:=by rw [beq_eq_false_iff_ne];exact h1
 have b2:(p==2)=false:=by rw [beq_eq_false_iff_ne];exact h2
 have b3:(p==3)=false:=by rw [beq_eq_false_iff_ne];exact h3
 have b4:(p==4)=false:=by rw [beq_eq_false_iff_ne];exact h4
 have b5:(p==5)=false:=by rw [beq_eq_false_iff_ne];exact h5
 have b6:(p==6)=false:=by rw [beq_eq_false_iff_ne];exact h6
 rw [hf]
 clear hf h1 h2 h3 h4 h5 h6
 go_enter Tryz.func88,Tryz.ntmps88
 go_wp2
 go_ret
 exact ⟨_,rfl,Own.nil _ _ _ _ _,Below.refl _ _⟩
end Go.Proofs.YtnbmbcjnncbaiaaGreatDoor
namespace Go.Proofs.YtnbmbcjnncbaiaaGreatDoor
set_option maxHeartbeats 4000000
set_option maxRecDepth 100000
open Go.RowKit Go.Shelf Go.Sort
end Go.Proofs.YtnbmbcjnncbaiaaGreatDoor
namespace Go.Proofs.YtnbmbcjnncbaiaaGreatDoor
set_option maxHeartbeats 4000000
set_option maxRecDepth 100000
open Go.RowKit Go.Shelf Go.Sort
end Go.Proofs.YtnbmbcjnncbaiaaGreatDoor
namespace Go.Proofs.YtnbmbcjnncbaiaaGreatDoor
set_option maxHeartbeats 4000000
set_option maxRecDepth 100000
open Go.RowKit Go.Shelf Go.Sort
end Go.Proofs.YtnbmbcjnncbaiaaGreatDoor
namespace Go.Proofs.YtnbmbcjnncbaiaaGreatDoor
set_option maxHeartbeats 4000000
set_option maxRecDepth 100000
open Go.RowKit Go.Shelf
def pageF (l:List UInt8):Nat→Nat→Option Nat
 | 0,_=>none
 | n+1,k=>if prefF k=l then some k else pageF l n (k+1)
theorem pageF_step (l:List UInt8) (k:Nat) (hk:k < 7):pageF l (7 - k) k=if prefF k=l then some k else pageF l (7 - (k+1)) (k+1):=by
 rw [show 7 - k=(7 - (k+1))+1 by omega,pageF]
theorem PageOf_any (p:Blocks) (v:Value) (l:List UInt8) (w:World) (h:SlR byteR w p v l):
  Calls Tryz.prog 106 #[v] w fun e w'=>e=.returned (.tuple #[.int .i64 ((pageF l 7 0).getD 0),.bool (pageF l 7 0).isSome])∧Below w.heap.size w w':=by
 have HPF:=Lib.hid (fun k W=>Prefixes_any k W)
 have H:=Lib.hid h
 obtain ⟨va,vc,rfl⟩:∃a c,v=.slice a l.length c:=by obtain ⟨a,c,e,_⟩:=h;exact ⟨a,c,e⟩
 clear h
 obtain ⟨R,hR⟩:∃R,R=pageF l 7 0:=⟨_,rfl⟩
 rw [←hR]
 go_enter Tryz.func106,Tryz.ntmps106
 go_wp2
 go_loopw [4,5] (fun _ i wr=>∃k:Nat,k≤7∧i=.int .i64 k∧Below w.heap.size w wr∧R=pageF l (7 - k) k) (fun _ i _=>7 - (intOf i).toNat)
 case atStart=>exact ⟨0,Nat.zero_le _,rfl,Below.refl _ _,hR⟩
 case round=>
  clear hR
  obtain ⟨k,hk,rfl,hb,ht⟩:=hrel
  have HB:=Lib.hid hb
  by_cases hlt:k < 7
  ·rw [pageF_step l k hlt] at ht
   have HEQ:=Lib.hid (fun q v1 l1 W (h1:SlR byteR W q v1 l1) (h2:SlR byteR W p (.slice va l.length vc) l)=>EqualByte_any q p v1 _ l1 l W h1 h2)
   have hpl:=HPF.out (k:Int)
   by_cases he:prefF k=l
   ·rw [if_pos he] at ht
    have HT:=Lib.hid ht
    have HD:=Lib.hid he
    have HP:=Lib.hid hpl
    generalize prefF (k:Int)=pl at *
    clear ht hb he hpl
    go_wp2_with (first
     | (go_at_call 80;refine (HP.out _).mono ?_;rintro e w2 ⟨v2,rfl,ho,hb⟩;obtain ⟨a2,c2,rfl⟩:=ho.form;have HB2:=Lib.hid (HB.out.trans (hb.mono HB.out.size));have HS2:=Lib.hid (ho.slR (q:=fun _=>True) (fun _ h=>h.elim) (fun _ _=>trivial));clear ho hb)
     | (go_at_call 35;refine (HEQ.out _ _ _ _ HS2.out (H.out.below HB2.out)).mono ?_;rintro e w3 ⟨rfl,nq,rfl⟩;rw [decide_eq_true HD.out]))
    refine bodyPost_ret (results_tmp2 rfl _ _ _) rfl ⟨by rw [HT.out];rfl,below_dN HB2.out _⟩
   ·rw [if_neg he] at ht
    have HT:=Lib.hid ht
    have HD:=Lib.hid he
    have HP:=Lib.hid hpl
    generalize prefF (k:Int)=pl at *
    clear ht hb he hpl
    go_wp2_with (first
     | (go_at_call 80;refine (HP.out _).mono ?_;rintro e w2 ⟨v2,rfl,ho,hb⟩;obtain ⟨a2,c2,rfl⟩:=ho.form;have HB2:=Lib.hid (HB.out.trans (hb.mono HB.out.size));have HS2:=Lib.hid (ho.slR (q:=fun _=>True) (fun _ h=>h.elim) (fun _ _=>trivial));clear ho hb)
     | (go_at_call 35;refine (HEQ.out _ _ _ _ HS2.out (H.out.below HB2.out)).mono ?_;rintro e w3 ⟨rfl,nq,rfl⟩;rw [decide_eq_false HD.out]))
    go_roundw
    case rel=>exact ⟨k+1,by omega,by go_num,below_dN HB2.out _,HT.out⟩
    case measure=>simp [intOf];omega
  ·obtain rfl:k=7:=by omega
   have HT:=Lib.hid ht
   clear ht hb
   go_wp2
   refine bodyPost_ret (results_tmp2 rfl _ _ _) rfl ⟨by rw [HT.out];rfl,HB.out⟩
end Go.Proofs.YtnbmbcjnncbaiaaGreatDoor
namespace Go.Proofs.YtnbmbcjnncbaiaaGreatDoor
set_option maxHeartbeats 4000000
set_option maxRecDepth 100000
open Go.RowKit Go.Shelf Go.Sort
end Go.Proofs.YtnbmbcjnncbaiaaGreatDoor
namespace Go.Proofs.YtnbmbcjnncbaiaaGreatDoor
set_option maxHeartbeats 4000000
set_option maxRecDepth 100000
open Go.RowKit Go.Shelf Go.Sort
end Go.Proofs.YtnbmbcjnncbaiaaGreatDoor
namespace Go.Proofs.YtnbmbcjnncbaiaaGreatDoor
set_option maxHeartbeats 4000000
set_option maxRecDepth 100000
open Go.RowKit Go.Shelf Go.Sort
end Go.Proofs.YtnbmbcjnncbaiaaGreatDoor
namespace Go.Proofs.YtnbmbcjnncbaiaaGreatDoor
set_option maxHeartbeats 4000000
set_option maxRecDepth 100000
open Go.RowKit Go.Shelf Go.Sort
def lenX:List UInt8→Int
 | []=>0
 | b::r=>(if ((b.toNat:Int)==119)=true then 2 else 1)+lenX r
theorem lenX_le:∀l:List UInt8,0≤lenX l∧lenX l≤2 * l.length
 | []=>by simp [lenX]
 | b::r=>by
  have h:=lenX_le r
  rw [lenX,List.length_cons]
  split<;>omega
theorem prefF_len9 (p:Int):(prefF p).length≤2:=by
 unfold prefF
 repeat' split
 all_goals simp
theorem lenX_snoc:∀(l:List UInt8) (b:UInt8),lenX (l++[b])=lenX l+(if ((b.toNat:Int)==119)=true then 2 else 1)
 | [],b=>by simp [lenX]
 | a::r,b=>by
  rw [List.cons_append,lenX,lenX,lenX_snoc r b];omega
theorem Size9_any (pg op:Int) (s ex:ByteArray) (al:Bool) (va:Option Addr) (vn vc:Nat) (w:World) (hex:ex.size≤1000):
  Calls Tryz.prog 56 #[.agg #[.int .i64 pg,.int .u8 op,.string s,.slice va vn vc,.string ex,.bool al]] w fun e w'=>e=.returned (.int .i64 (((prefF pg).length:Int)+1+lenX ex.data.toList))∧Below w.heap.size w w':=by
 have HF:=Lib.hid ((Fr.start w).new 85 #[.int .i64 pg,.int .u8 op,.string s,.slice va vn vc,.string ex,.bool al])
 have HP:=Lib.hid (fun W=>RefPrefixes_any pg W)
 have hpl:=prefF_len9 pg
 have HPL:=Lib.hid hpl
 have HLX:=Lib.hid (lenX_le ex.data.toList)
 clear hpl
 go_enter Tryz.func56,Tryz.ntmps56
 go_wp2_with (go_at_call 88;refine (HP.out _).mono ?_;rintro e w1 ⟨v,rfl,ho,hb⟩;obtain ⟨pa,pc,rfl⟩:=ho.form;have H:=Lib.hid (HF.out.next hb);have hpl:(prefF pg).length≤2:=HPL.out;clear ho hb)
 generalize hn:(prefF pg).length=n at *
 have HN:=Lib.hid hn
 clear hn
 go_loop [3,4] (fun t i=>∃k:Nat,k≤ex.size∧i=.int .i64 k∧t=.int .i64 ((n:Int)+1+lenX (ex.data.toList.take k))) (fun _ i=>ex.size - (intOf i).toNat)
 case atStart=>exact ⟨0,Nat.zero_le _,rfl,by simp [lenX]⟩
 case round=>
  obtain ⟨k,hk,rfl,rfl⟩:=hrel
  have e4:=(H.out.blk 0 rfl).cell 4
  have hn2:n≤2:=HPL.out
  have hlx:=lenX_le (ex.data.toList.take k)
  have hl9:(ex.data.toList.take k).length≤k:=List.length_take_le _ _
  by_cases hlt:k < ex.size
  ·have hts:ex.data.toList.take (k+1)=ex.data.toList.take k++[ex[k]]:=by rw [List.take_succ_eq_append_getElem (by simpa using hlt)];rfl
   have hsn:=lenX_snoc (ex.data.toList.take k) ex[k]
   rw [←hts] at hsn
   have HSN:=Lib.hid hsn
   clear hts hsn
   by_cases hc:((ex[k].toNat:Int)==119)=true
   ·go_wp2
    go_round
    case rel=>exact ⟨k+1,by omega,by go_num,by rw [HSN.out,if_pos hc];go_num⟩
    case measure=>simp [intOf];omega
   ·have hc':((ex[k].toNat:Int)==119)=false:=by simpa using hc
    go_wp2
    go_round
    case rel=>exact ⟨k+1,by omega,by go_num,by rw [HSN.out,if_neg hc];go_num⟩
    case measure=>simp [intOf];omega
  ·have hk2:k=ex.size:=by omega
   have HTK:Hid (ex.data.toList.take k=ex.data.toList):=List.take_of_length_le (by simp;omega)
   clear hk2
   go_wp2
   go_ret
   exact ⟨by rw [HN.out,HTK.out];rfl,H.out.below⟩
end Go.Proofs.YtnbmbcjnncbaiaaGreatDoor
