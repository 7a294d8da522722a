/-
  The reference's search: letters, shapes, Fits, Values, Fill. Conditions: sizes.
-/
import Derived.Test.YtjmekllgnhkodaaGreatDoorPG
import Derived.Deep.QuietTactic
import Derived.Test.YtjmekllgnhkodaaGreatDoorPD
import Derived.Test.YtjmekllgnhkodaaGreatDoorPK
namespace Go.Proofs.YtjmekllgnhkodaaGreatDoor
set_option maxHeartbeats 8000000
set_option maxRecDepth 100000
open Go.RowKit Go.Shelf Go.Sort
def hasF (l:List UInt8) (c:Int):Bool:=l.any fun b=>(b.toNat:Int)==c
theorem has_any (s:ByteArray) (c:Int) (w:World) (hl:s.size≤9223372036854775807):Calls Tryz.prog 131 #[.string s,.int .u8 c] w fun e w'=>e=.returned (.bool (hasF s.data.toList c))∧w'=w:=by
 go_enter Tryz.func131,Tryz.ntmps131
 go_wp2
 go_loop [5] (fun i=>∃k:Nat,k≤s.size∧i=.int .i64 k∧hasF (s.data.toList.take k) c=false) (fun i=>s.size - (intOf i).toNat)
 case atStart=>exact ⟨0,Nat.zero_le _,rfl,rfl⟩
 case round=>
  obtain ⟨k,hk,rfl,ht⟩:=hrel
  have HT:=Lib.hid ht
  clear ht
  by_cases hlt:k < s.size
  ·have hts:s.data.toList.take (k+1)=s.data.toList.take k++[s[k]]:=by rw [List.take_succ_eq_append_getElem (by simpa using hlt)];rfl
   have hst:hasF (s.data.toList.take (k+1)) c=(hasF (s.data.toList.take k) c || ((s[k].toNat:Int)==c)):=by unfold hasF;rw [hts,List.any_append];simp
   have HST:=Lib.hid hst
   have hin:((s[k].toNat:Int)==c)=true→hasF s.data.toList c=true:=fun h=>List.any_eq_true.2 ⟨s[k],by simp [ByteArray.getElem_eq_getElem_data],h⟩
   have HIN:=Lib.hid hin
   clear hts hst hin
   cases hc:((s[k].toNat:Int)==c)
   ·go_wp2
    go_round
    case rel=>exact ⟨k+1,by omega,by go_num,by rw [HST.out,HT.out,hc];rfl⟩
    case measure=>simp [intOf];omega
   ·go_wp2
    go_ret
    exact ⟨ret_bool (HIN.out hc).symm,rfl⟩
  ·have hk2:k=s.size:=by omega
   have hno:hasF s.data.toList c=false:=by have:=HT.out;rwa [List.take_of_length_le (by simp;omega)] at this
   have HNO:=Lib.hid hno
   clear hk2 hno
   go_wp2
   go_ret
   exact ⟨ret_bool HNO.out.symm,rfl⟩
def withinF (c n:Int):Bool:=
 if c=100∨c=101 then decide (-128≤n)&&decide (n≤127) else if c=110 then decide (0≤n)&&decide (n≤255) else decide (0≤n)&&decide (n≤65535)
theorem within_any (c n:Int) (w:World):Calls Tryz.prog 88 #[.int .u8 c,.int .i64 n] w fun e w'=>e=.returned (.bool (withinF c n))∧w'=w:=by
 by_cases h1:c=100∨c=101
 ·have HW:Hid (withinF c n=(decide (-128≤n)&&decide (n≤127))):=if_pos h1
  generalize withinF c n=W at *
  rcases h1 with rfl | rfl
  all_goals
   cases h2:decide (-128≤n)
   all_goals
    go_enter Tryz.func88,Tryz.ntmps88
    go_wp2
    go_ret
    exact ⟨ret_bool (by rw [HW.out,h2];simp),rfl⟩
 have hw:withinF c n=(if c=110 then decide (0≤n)&&decide (n≤255) else decide (0≤n)&&decide (n≤65535)):=if_neg h1
 have b0:(c==100)=false:=by rw [beq_eq_false_iff_ne];omega
 have b1:(c==101)=false:=by rw [beq_eq_false_iff_ne];omega
 by_cases h3:c=110
 ·rw [if_pos h3] at hw
  have HW:=Lib.hid hw
  generalize withinF c n=W at *
  subst h3
  clear hw h1 b0 b1
  cases h2:decide (0≤n)
  all_goals
   go_enter Tryz.func88,Tryz.ntmps88
   go_wp2
   go_ret
   exact ⟨ret_bool (by rw [HW.out,h2];simp),rfl⟩
 ·rw [if_neg h3] at hw
  have HW:=Lib.hid hw
  generalize withinF c n=W at *
  have b2:(c==110)=false:=by rw [beq_eq_false_iff_ne];omega
  clear hw h1 h3
  cases h2:decide (0≤n)
  all_goals
   go_enter Tryz.func88,Tryz.ntmps88
   go_wp2
   go_ret
   exact ⟨ret_bool (by rw [HW.out,h2];simp),rfl⟩
end Go.Proofs.YtjmekllgnhkodaaGreatDoor
namespace Go.Proofs.YtjmekllgnhkodaaGreatDoor
set_option maxHeartbeats 8000000
set_option maxRecDepth 100000
open Go.RowKit Go.Shelf Go.Sort
def isN (o:Opd):Bool:=(o.kind==6) || (o.kind==7)
def letO (o:Opd) (rest:List Opd) (ex:List UInt8):Int:=
 if (o.kind==5&&hasF ex 100)=true then 100 else if (o.kind==10&&hasF ex 101)=true then 101 else if isN o=false then 0
 else if rest.any isN=true then 0 else if hasF ex 110=true then 110 else if hasF ex 119=true then 119 else 0
def letF (l:List Opd) (ex:List UInt8) (k:Nat):Int:=match l[k]? with | some o=>letO o (l.drop (k+1)) ex | none=>0
theorem ret_u8 {a b:Int} (h:a=b):Ending.returned (.int .u8 a)=.returned (.int .u8 b):=by rw [h]
theorem Letter_any (pg op:Int) (s ex:ByteArray) (al:Bool) (l:List Opd) (p:Blocks) (v:Value) (k:Nat) (hk:k < l.length) (w:World) (h:SlR opdR w p v l) (hex:ex.size≤9223372036854775807):
  Calls Tryz.prog 87 #[.agg #[.int .i64 pg,.int .u8 op,.string s,v,.string ex,.bool al],.int .i64 k] w fun e w'=>e=.returned (.int .u8 (letF l ex.data.toList k))∧Below w.heap.size w w':=by
 obtain ⟨va,vc,rfl⟩:∃a c,v=.slice a l.length c:=by obtain ⟨a,c,e,_⟩:=h;exact ⟨a,c,e⟩
 have hll:=h.len_le
 have hlt:letF l ex.data.toList k=letO l[k] (l.drop (k+1)) ex.data.toList:=by unfold letF;rw [List.getElem?_eq_getElem hk]
 rw [hlt]
 have HS:=Lib.hid (h.alloc (.cells #[.int .i64 pg,.int .u8 op,.string s,.slice va l.length vc,.string ex,.bool al] 53))
 have HA1:=Lib.hid ((Fr.start w).new 53 #[.int .i64 pg,.int .u8 op,.string s,.slice va l.length vc,.string ex,.bool al])
 have hAl:=(HA1.out.blk 0 rfl).lt
 obtain ⟨a1,c1,e1,_,_,g1⟩:=HS.out.opd
 injection e1 with e1 e2 e3
 clear e2
 subst e1 e3
 obtain ⟨b,o,rfl,_,d0,d1,d2⟩:=g1 k l[k] (List.getElem?_eq_getElem hk)
 have HG:=Lib.hid g1
 have HHS:=Lib.hid (fun c W=>has_any ex c W hex)
 clear g1 hlt h
 generalize l[k]=x at *
 obtain ⟨xk,xr,xn⟩:=x
 dsimp only at *
 have HLE:Hid (letO ⟨xk,xr,xn⟩ (l.drop (k+1)) ex.data.toList=(if (xk==5&&hasF ex.data.toList 100)=true then 100 else if (xk==10&&hasF ex.data.toList 101)=true then 101 else if isN ⟨xk,xr,xn⟩=false then 0
  else if (l.drop (k+1)).any isN=true then 0 else if hasF ex.data.toList 110=true then 110 else if hasF ex.data.toList 119=true then 119 else 0)):=rfl
 generalize letO ⟨xk,xr,xn⟩ (l.drop (k+1)) ex.data.toList=R at *
 have HF:=Lib.hid (HA1.out.new 90 #[.int .i64 xk,.int .i64 xr,.int .i64 xn])
 have hsz:(w.alloc (.cells #[.int .i64 pg,.int .u8 op,.string s,.slice (some ⟨b,o,none⟩) l.length vc,.string ex,.bool al] 53)).heap.size=w.heap.size+1:=World.size_alloc _ _
 have HSZ:=Lib.hid hsz
 clear hsz
 cases h5:(xk==5)
 rotate_left
 ·obtain rfl:xk=5:=by simpa using h5
  cases hd:hasF ex.data.toList 100
  all_goals
   rw [hd] at HLE
   have HH:=Lib.hid (HHS.out 100)
   rw [hd] at HH
   go_enter Tryz.func87,Tryz.ntmps87
   go_wp2_with (go_at_call 131;refine (HH.out _).mono ?_;rintro e w' ⟨rfl,rfl⟩)
   go_ret
   exact ⟨ret_u8 (by rw [HLE.out];simp [isN]),HF.out.below⟩
 cases h10:(xk==10)
 rotate_left
 ·obtain rfl:xk=10:=by simpa using h10
  cases hd:hasF ex.data.toList 101
  all_goals
   rw [hd] at HLE
   have HH:=Lib.hid (HHS.out 101)
   rw [hd] at HH
   go_enter Tryz.func87,Tryz.ntmps87
   go_wp2_with (go_at_call 131;refine (HH.out _).mono ?_;rintro e w' ⟨rfl,rfl⟩)
   go_ret
   exact ⟨ret_u8 (by rw [HLE.out];simp [isN]),HF.out.below⟩
 rw [h5,h10,Bool.false_and,Bool.false_and,if_neg Bool.false_ne_true,if_neg Bool.false_ne_true] at HLE
 cases hN:isN ⟨xk,xr,xn⟩
 ·rw [hN,if_pos rfl] at HLE
  have n6:(xk != 6)=true:=by
   rw [bne_iff_ne];intro e;subst e;simp [isN] at hN
  have n7:(xk != 7)=true:=by
   rw [bne_iff_ne];intro e;subst e;simp [isN] at hN
  clear hN
  go_enter Tryz.func87,Tryz.ntmps87
  go_wp2
  go_ret
  exact ⟨ret_u8 HLE.out.symm,HF.out.below⟩
 rw [hN,if_neg (by decide)] at HLE
 have h67:xk=6∨xk=7:=by simpa [isN] using hN
 clear hN h5 h10
 have HS2:=Lib.hid (HS.out.alloc (.cells #[.int .i64 xk,.int .i64 xr,.int .i64 xn] 90))
 obtain ⟨W2,hW2⟩:∃W:World,W=((w.alloc (.cells #[.int .i64 pg,.int .u8 op,.string s,.slice (some ⟨b,o,none⟩) l.length vc,.string ex,.bool al] 53)).alloc (.cells #[.int .i64 xk,.int .i64 xr,.int .i64 xn] 90)):=⟨_,rfl⟩
 rw [←hW2] at HF HS2
 rcases h67 with rfl | rfl
 all_goals
  go_enter Tryz.func87,Tryz.ntmps87
  go_upto_region 9 with fail
  rw [←hW2]
  clear d0 d1 d2 hW2
  have q3:=(HF.out.blk 1 rfl).cell 3
  have q4:=(HF.out.blk 1 rfl).cell 4
  go_loop [6] (fun i=>∃m:Nat,m≤l.length∧i=.int .i64 m∧(l.drop (k+1)).any isN=(l.drop m).any isN) (fun i=>l.length - (intOf i).toNat)
  case atStart=>exact ⟨k+1,hk,by simp,rfl⟩
  case round=>
   obtain ⟨m,hm,rfl,ht⟩:=hrel
   have HT:=Lib.hid ht
   clear ht
   by_cases hlt:m < l.length
   ·obtain ⟨a1,c1,e1,_,_,g1⟩:=HS2.out.opd
    injection e1 with e1 e2 e3
    clear e2
    subst e1 e3
    obtain ⟨b3,o3,e5,_,d0,d1,d2⟩:=g1 m l[m] (List.getElem?_eq_getElem hlt)
    injection e5 with e5
    injection e5 with e5 e6
    subst e5 e6
    have HD:=Lib.hid (List.drop_eq_getElem_cons hlt)
    have hin:isN l[m]=true→(l.drop (k+1)).any isN=true:=fun h=>by rw [HT.out,HD.out,List.any_cons,h];rfl
    have hno:isN l[m]=false→(l.drop (k+1)).any isN=(l.drop (m+1)).any isN:=fun h=>by rw [HT.out,HD.out,List.any_cons,h];rfl
    have HIN:=Lib.hid hin
    have HNO:=Lib.hid hno
    clear g1 hin hno
    generalize l[m]=y at *
    obtain ⟨yk,yr,yn⟩:=y
    dsimp only at d0
    cases h6:(yk==6)
    ·cases h7:(yk==7)
     ·have HN:=Lib.hid (HNO.out (by unfold isN;rw [h6,h7];rfl))
      clear HNO HIN
      go_wp2
      go_round
      case rel=>exact ⟨m+1,by omega,by go_num,HN.out⟩
      case measure=>simp [intOf];omega
     ·have HN:=Lib.hid (HIN.out (by unfold isN;rw [h6,h7];rfl))
      clear HNO HIN
      go_wp2
      go_ret
      exact ⟨ret_u8 (by rw [HLE.out,HN.out];rfl),HF.out.below⟩
    ·have HN:=Lib.hid (HIN.out (by unfold isN;rw [h6];rfl))
     clear HNO HIN
     go_wp2
     go_ret
     exact ⟨ret_u8 (by rw [HLE.out,HN.out];rfl),HF.out.below⟩
   ·have hml:m=l.length:=by omega
    have hN:(l.drop (k+1)).any isN=false:=by rw [HT.out,hml,List.drop_length];rfl
    rw [hN,if_neg Bool.false_ne_true] at HLE
    clear hml hN HT
    cases hn:hasF ex.data.toList 110
    ·rw [hn,if_neg Bool.false_ne_true] at HLE
     have HH:=Lib.hid (HHS.out 110)
     rw [hn] at HH
     have HH2:=Lib.hid (HHS.out 119)
     cases hw:hasF ex.data.toList 119
     all_goals
      rw [hw] at HLE HH2
      go_wp2_with (go_at_call 131;first | (with_reducible refine (HH.out _).mono ?_;rintro e w' ⟨rfl,rfl⟩) | (with_reducible refine (HH2.out _).mono ?_;rintro e w' ⟨rfl,rfl⟩))
      go_ret
      exact ⟨ret_u8 (by rw [HLE.out];rfl),HF.out.below⟩
    ·rw [hn,if_pos rfl] at HLE
     have HH:=Lib.hid (HHS.out 110)
     rw [hn] at HH
     go_wp2_with (go_at_call 131;refine (HH.out _).mono ?_;rintro e w' ⟨rfl,rfl⟩)
     go_ret
     exact ⟨ret_u8 HLE.out.symm,HF.out.below⟩
end Go.Proofs.YtjmekllgnhkodaaGreatDoor
namespace Go.Proofs.YtjmekllgnhkodaaGreatDoor
set_option maxHeartbeats 8000000
set_option maxRecDepth 100000
open Go.RowKit Go.Shelf Go.Sort
def kr (o:Opd):Int × Int:=(o.kind,o.reg)
def shF (s t:ByteArray) (l m:List Opd):Bool:=(s.toList==t.toList)&&decide (l.map kr=m.map kr)
theorem shF_op {s t:ByteArray} {l m:List Opd} (h:(s.toList==t.toList)=false):shF s t l m=false:=by unfold shF;rw [h];rfl
theorem shF_len {s t:ByteArray} {l m:List Opd} (h:l.length≠m.length):shF s t l m=false:=by
 unfold shF
 rw [decide_eq_false (fun e=>h (by have:=congrArg List.length e;simpa using this)),Bool.and_false]
theorem shF_at {s t:ByteArray} {l m:List Opd} (k:Nat) (h1:k < l.length) (h2:k < m.length) (h:kr l[k]≠kr m[k]):shF s t l m=false:=by
 unfold shF
 rw [decide_eq_false (fun e=>h ?_),Bool.and_false]
 have:=congrArg (fun z:List (Int × Int)=>z[k]?) e
 simpa [List.getElem?_map,List.getElem?_eq_getElem h1,List.getElem?_eq_getElem h2] using this
theorem shaped9_any (pg op:Int) (s ex t:ByteArray) (al:Bool) (l m:List Opd) (p q:Blocks) (v u:Value) (w:World) (h:SlR opdR w p v l) (g:SlR opdR w q u m):
  Calls Tryz.prog 167 #[.agg #[.int .i64 pg,.int .u8 op,.string s,v,.string ex,.bool al],.agg #[.string t,u]] w fun e w'=>e=.returned (.bool (shF s t l m))∧Below w.heap.size w w':=by
 obtain ⟨va,vc,rfl⟩:∃a c,v=.slice a l.length c:=by obtain ⟨a,c,e,_⟩:=h;exact ⟨a,c,e⟩
 obtain ⟨ua,uc,rfl⟩:∃a c,u=.slice a m.length c:=by obtain ⟨a,c,e,_⟩:=g;exact ⟨a,c,e⟩
 have hl1:=h.len_le
 have hl2:=g.len_le
 have HF:=Lib.hid (((Fr.start w).new 53 #[.int .i64 pg,.int .u8 op,.string s,.slice va l.length vc,.string ex,.bool al]).new 27 #[.string t,.slice ua m.length uc])
 have HS1:=Lib.hid ((h.alloc (.cells #[.int .i64 pg,.int .u8 op,.string s,.slice va l.length vc,.string ex,.bool al] 53)).alloc (.cells #[.string t,.slice ua m.length uc] 27))
 have HS2:=Lib.hid ((g.alloc (.cells #[.int .i64 pg,.int .u8 op,.string s,.slice va l.length vc,.string ex,.bool al] 53)).alloc (.cells #[.string t,.slice ua m.length uc] 27))
 have hsz:(w.alloc (.cells #[.int .i64 pg,.int .u8 op,.string s,.slice va l.length vc,.string ex,.bool al] 53)).heap.size=w.heap.size+1:=World.size_alloc _ _
 rw [hsz] at HF
 clear h g hsz
 cases hst:(s.toList==t.toList)
 ·have HV:=Lib.hid (shF_op (l:=l) (m:=m) hst)
  generalize shF s t l m=R at *
  go_enter Tryz.func167,Tryz.ntmps167
  go_wp2
  go_ret
  exact ⟨ret_bool HV.out.symm,HF.out.below⟩
 by_cases hlm:l.length=m.length
 rotate_left
 ·have HV:=Lib.hid (shF_len (s:=s) (t:=t) hlm)
  generalize shF s t l m=R at *
  have hlm':((l.length:Int)==(m.length:Int))=false:=by rw [beq_eq_false_iff_ne];omega
  clear hlm
  go_enter Tryz.func167,Tryz.ntmps167
  go_wp2
  go_ret
  exact ⟨ret_bool HV.out.symm,HF.out.below⟩
 have HAT:=Lib.hid (fun k h1 h2 h=>shF_at (s:=s) (t:=t) (l:=l) (m:=m) k h1 h2 h)
 have HOK:Hid (l.map kr=m.map kr→shF s t l m=true):=fun e=>by unfold shF;rw [hst,decide_eq_true e];rfl
 have HLM:=Lib.hid hlm
 have hlm':((l.length:Int)==(m.length:Int))=true:=by rw [beq_iff_eq];omega
 generalize shF s t l m=R at *
 clear hlm
 go_enter Tryz.func167,Tryz.ntmps167
 go_wp2
 generalize ((w.alloc (.cells #[.int .i64 pg,.int .u8 op,.string s,.slice va l.length vc,.string ex,.bool al] 53)).alloc (.cells #[.string t,.slice ua m.length uc] 27))=W2 at *
 clear hlm'
 go_loopw [5] (fun i wx=>∃k:Nat,k≤m.length∧i=.int .i64 k∧(l.map kr).take k=(m.map kr).take k∧∃n,wx=W2.drewN n) (fun i _=>m.length - (intOf i).toNat)
 case atStart=>exact ⟨0,Nat.zero_le _,rfl,rfl,0,rfl⟩
 case round=>
  obtain ⟨k,hk,rfl,ht,nd,rfl⟩:=hrel
  have HT:=Lib.hid ht
  clear ht
  have q3:=(HF.out.blk 1 rfl).cell 3
  have r1:=(HF.out.blk 0 rfl).cell 1
  by_cases hlt:k < m.length
  ·have hltl:k < l.length:=by have:=HLM.out;omega
   obtain ⟨a1,c1,e1,_,_,g1⟩:=HS1.out.opd
   obtain ⟨a2,c2,e2,_,_,g2⟩:=HS2.out.opd
   injection e1 with e1 e3 e4
   injection e2 with e2 e5 e6
   clear e3 e5
   subst e1 e4 e2 e6
   obtain ⟨b1,o1,rfl,_,c0,c1,_⟩:=g1 k l[k] (List.getElem?_eq_getElem hltl)
   obtain ⟨b2,o2,rfl,_,d0,d1,_⟩:=g2 k m[k] (List.getElem?_eq_getElem hlt)
   have HNO:=Lib.hid (HAT.out k hltl hlt)
   have hstep:kr l[k]=kr m[k]→(l.map kr).take (k+1)=(m.map kr).take (k+1):=fun e=>by
    rw [List.take_succ_eq_append_getElem (by simpa using hltl),List.take_succ_eq_append_getElem (by simpa using hlt),HT.out,List.getElem_map,List.getElem_map,e]
   have HST:=Lib.hid hstep
   clear g1 g2 hstep
   generalize l[k]=x at *
   generalize m[k]=y at *
   obtain ⟨xk,xr,xn⟩:=x
   obtain ⟨yk,yr,yn⟩:=y
   dsimp only at *
   cases hxk:(xk != yk)
   ·obtain rfl:xk=yk:=by simpa using hxk
    cases hxr:(xr != yr)
    ·obtain rfl:xr=yr:=by simpa using hxr
     have HSN:=Lib.hid (HST.out rfl)
     clear HNO HST
     go_wp2
     go_quiet (fail)
     go_wp2
     go_roundw
     case rel=>exact ⟨k+1,by omega,by go_num,HSN.out,_,rfl⟩
     case measure=>simp [intOf];omega
    ·have HRF:=Lib.hid (HNO.out (fun e=>by have e2:xr=yr:=congrArg Prod.snd e;rw [e2] at hxr;simp at hxr))
     clear HNO HST
     go_wp2
     go_quiet (fail)
     go_wp2
     go_ret
     exact ⟨ret_bool HRF.out.symm,((HF.out.drewN _).drewN _).below⟩
   ·have HRF:=Lib.hid (HNO.out (fun e=>by have e2:xk=yk:=congrArg Prod.fst e;rw [e2] at hxk;simp at hxk))
    clear HNO HST
    go_wp2
    go_quiet (fail)
    go_wp2
    go_ret
    exact ⟨ret_bool HRF.out.symm,((HF.out.drewN _).drewN _).below⟩
  ·have hkm:k=m.length:=by omega
   have hall:l.map kr=m.map kr:=by
    have:=HT.out
    rwa [List.take_of_length_le (by simp;have:=HLM.out;omega),List.take_of_length_le (by simp;omega)] at this
   have HRT:=Lib.hid (HOK.out hall)
   clear hall hkm HT
   go_wp2
   go_ret
   exact ⟨ret_bool HRT.out.symm,(HF.out.drewN _).below⟩
end Go.Proofs.YtjmekllgnhkodaaGreatDoor
namespace Go.Proofs.YtjmekllgnhkodaaGreatDoor
set_option maxHeartbeats 8000000
set_option maxRecDepth 100000
open Go.RowKit Go.Shelf Go.Sort
def ixO (o:Opd):Bool:=(o.kind==2) || (decide (o.kind ≥ 3)&&decide (o.kind≤5)&&((o.reg==5) || (o.reg==6)))
def firstF (l:List Opd):Int:=if l.any ixO=true then 3 else 0
def lastF (l:List Opd):Int:=if l.any ixO=true then 6 else 2
theorem firstF_yes {l:List Opd} (k:Nat) (h1:k < l.length) (h:ixO l[k]=true):firstF l=3:=if_pos (List.any_eq_true.2 ⟨l[k],List.getElem_mem h1,h⟩)
theorem firstF_no {l:List Opd} (h:(l.take l.length).any ixO=false):firstF l=0:=by
 rw [List.take_length] at h
 exact if_neg (by rw [h];decide)
theorem ixO_take {l:List Opd} (k:Nat) (h1:k < l.length) (h:ixO l[k]=false) (h2:(l.take k).any ixO=false):(l.take (k+1)).any ixO=false:=by
 rw [List.take_succ_eq_append_getElem h1,List.any_append,h2,Bool.false_or,List.any_cons,h]
 rfl
theorem first_any (t:ByteArray) (l:List Opd) (p:Blocks) (v:Value) (w:World) (h:SlR opdR w p v l):
  Calls Tryz.prog 123 #[.agg #[.string t,v]] w fun e w'=>e=.returned (.int .i64 (firstF l))∧Below w.heap.size w w':=by
 obtain ⟨va,vc,rfl⟩:∃a c,v=.slice a l.length c:=by obtain ⟨a,c,e,_⟩:=h;exact ⟨a,c,e⟩
 have hl1:=h.len_le
 have HF:=Lib.hid ((Fr.start w).new 27 #[.string t,.slice va l.length vc])
 have HS1:=Lib.hid (h.alloc (.cells #[.string t,.slice va l.length vc] 27))
 have HYS:=Lib.hid (fun k h1 h=>firstF_yes (l:=l) k h1 h)
 have HNO:=Lib.hid (fun h=>firstF_no (l:=l) h)
 clear h
 generalize firstF l=R at *
 obtain ⟨W0,hW0⟩:∃W0:World,W0=(w.alloc (.cells #[.string t,.slice va l.length vc] 27)):=⟨_,rfl⟩
 rw [←hW0] at HF HS1
 go_enter Tryz.func123,Tryz.ntmps123
 go_upto_region 1 with fail
 rw [←hW0]
 clear hW0
 go_wp2
 go_loopw [3] (fun i wx=>∃k:Nat,k≤l.length∧i=.int .i64 k∧(l.take k).any ixO=false∧Below W0.heap.size W0 wx) (fun i _=>l.length - (intOf i).toNat)
 case atStart=>exact ⟨0,Nat.zero_le _,rfl,rfl,Below.refl _ _⟩
 case round=>
  obtain ⟨k,hk,rfl,ht,hbx⟩:=hrel
  have HT:=Lib.hid ht
  have HX:=Lib.hid (HF.out.next hbx)
  have HBX:=Lib.hid hbx
  have HSX:=Lib.hid (HS1.out.below hbx)
  clear ht hbx
  have q1:=(HX.out.blk 0 rfl).cell 1
  by_cases hlt:k < l.length
  ·obtain ⟨a1,c1,e1,_,_,g1⟩:=HSX.out.opd
   injection e1 with e1 e3 e4
   clear e3
   subst e1 e4
   obtain ⟨b1,o1,rfl,_,c0,c1,c2⟩:=g1 k l[k] (List.getElem?_eq_getElem hlt)
   have HY:=Lib.hid (HYS.out k hlt)
   have HN:=Lib.hid (fun h=>ixO_take (l:=l) k hlt h HT.out)
   clear g1
   generalize l[k]=x at *
   obtain ⟨xk,xr,xn⟩:=x
   dsimp only at *
   have fin:RowKit.Below W0.heap.size W0 (wr.alloc (.cells #[.int .i64 xk,.int .i64 xr,.int .i64 xn] 90)):=HBX.out.alloc HBX.out.size _
   have HFIN:=Lib.hid fin
   clear fin
   cases h2:(xk==2)
   ·cases h3:decide (xk ≥ 3)
    ·have HR:=Lib.hid (HN.out (by unfold ixO;rw [h2,h3];rfl))
     go_wp2
     go_round
     case rel=>exact ⟨k+1,by omega,by go_num,HR.out,HFIN.out⟩
     case measure=>simp [intOf];omega
    ·cases h4:decide (xk≤5)
     ·have HR:=Lib.hid (HN.out (by unfold ixO;rw [h2,h4,h3];rfl))
      go_wp2
      go_round
      case rel=>exact ⟨k+1,by omega,by go_num,HR.out,HFIN.out⟩
      case measure=>simp [intOf];omega
     ·cases h5:(xr==5)
      ·cases h6:(xr==6)
       ·have HR:=Lib.hid (HN.out (by unfold ixO;rw [h2,h4,h3,h5,h6];rfl))
        go_wp2
        go_round
        case rel=>exact ⟨k+1,by omega,by go_num,HR.out,HFIN.out⟩
        case measure=>simp [intOf];omega
       ·have HR:=Lib.hid (HY.out (by unfold ixO;rw [h4,h3,h6];simp))
        go_wp2
        go_ret
        exact ⟨ret_int HR.out.symm,(HF.out.next HFIN.out).below⟩
      ·have HR:=Lib.hid (HY.out (by unfold ixO;rw [h4,h3,h5];simp))
       go_wp2
       go_ret
       exact ⟨ret_int HR.out.symm,(HF.out.next HFIN.out).below⟩
   ·have HR:=Lib.hid (HY.out (by unfold ixO;rw [h2];rfl))
    go_wp2
    go_ret
    exact ⟨ret_int HR.out.symm,(HF.out.next HFIN.out).below⟩
  ·have hkm:k=l.length:=by omega
   have HR:=Lib.hid (HNO.out (by rw [←hkm];exact HT.out))
   clear hkm HT
   go_wp2
   go_ret
   exact ⟨ret_int HR.out.symm,HX.out.below⟩
theorem lastF_eq (l:List Opd):lastF l=if (firstF l==3)=true then 6 else 2:=by
 unfold lastF firstF
 cases l.any ixO<;>rfl
theorem firstF_cases (l:List Opd):firstF l=3∨firstF l=0:=by
 unfold firstF
 cases l.any ixO
 ·exact Or.inr rfl
 ·exact Or.inl rfl
theorem last_any (t:ByteArray) (l:List Opd) (p:Blocks) (v:Value) (w:World) (h:SlR opdR w p v l):
  Calls Tryz.prog 124 #[.agg #[.string t,v]] w fun e w'=>e=.returned (.int .i64 (lastF l))∧Below w.heap.size w w':=by
 rw [lastF_eq]
 have HF:=Lib.hid ((Fr.start w).new 27 #[.string t,v])
 have HS1:=Lib.hid (h.alloc (.cells #[.string t,v] 27))
 obtain ⟨va,vc,rfl⟩:∃a c,v=.slice a l.length c:=by obtain ⟨a,c,e,_⟩:=h;exact ⟨a,c,e⟩
 have HFA:=Lib.hid (first_any t l _ _ _ HS1.out)
 clear h
 rcases firstF_cases l with e3 | e3
 all_goals
  rw [e3] at HFA ⊢
  clear e3
  go_enter Tryz.func124,Tryz.ntmps124
  go_wp2_with (go_at_call 123;refine HFA.out.mono ?_;rintro e w1 ⟨rfl,hb⟩;have HB:=Lib.hid hb;have HF2:=Lib.hid (HF.out.next hb);clear hb)
  go_ret
  exact ⟨rfl,HF2.out.below⟩
end Go.Proofs.YtjmekllgnhkodaaGreatDoor
namespace Go.Proofs.YtjmekllgnhkodaaGreatDoor
set_option maxHeartbeats 8000000
set_option maxRecDepth 100000
open Go.RowKit Go.Shelf Go.Sort
def nAt (l:List Opd) (k:Nat):Int:=match l[k]? with | some o=>o.n | none=>0
def oneF (ex:List UInt8) (l c:List Opd) (k:Nat):Bool:=if letF l ex k=0 then nAt l k==nAt c k else withinF (letF l ex k) (nAt c k)
def fitsC (s t:ByteArray) (ex:List UInt8) (l c:List Opd):Bool:=shF s t l c&&(List.range c.length).all (oneF ex l c)
theorem fitsC_no {s t:ByteArray} {ex:List UInt8} {l c:List Opd} (h:shF s t l c=false):fitsC s t ex l c=false:=by unfold fitsC;rw [h];rfl
theorem fitsC_at {s t:ByteArray} {ex:List UInt8} {l c:List Opd} (k:Nat) (hk:k < c.length) (h:oneF ex l c k=false):fitsC s t ex l c=false:=by
 unfold fitsC
 rw [Bool.and_eq_false_iff]
 exact Or.inr (List.all_eq_false.2 ⟨k,List.mem_range.2 hk,by simp [h]⟩)
theorem fitsC_yes {s t:ByteArray} {ex:List UInt8} {l c:List Opd} (h:shF s t l c=true) (h2:∀k,k < c.length→oneF ex l c k=true):fitsC s t ex l c=true:=by
 unfold fitsC
 rw [h,Bool.true_and,List.all_eq_true]
 intro k hk
 exact h2 k (List.mem_range.1 hk)
theorem shF_eq_len {s t:ByteArray} {l m:List Opd} (h:shF s t l m=true):l.length=m.length:=by
 unfold shF at h
 have:=congrArg List.length (of_decide_eq_true (Bool.and_eq_true_iff.1 h).2)
 simpa using this
theorem oneF_eq {ex:List UInt8} {l c:List Opd} {k:Nat} (h1:k < l.length) (h2:k < c.length):oneF ex l c k=if letF l ex k=0 then l[k].n==c[k].n else withinF (letF l ex k) c[k].n:=by
 unfold oneF nAt
 rw [List.getElem?_eq_getElem h1,List.getElem?_eq_getElem h2]
theorem upto_succ {P:Nat→Prop} {k:Nat} (h:∀j,j < k→P j) (hk:P k):∀j,j < k+1→P j:=fun j hj=>by
 rcases Nat.lt_succ_iff_lt_or_eq.1 hj with h1 | rfl
 ·exact h j h1
 ·exact hk
theorem Fits10_any (pg op:Int) (s ex:ByteArray) (al:Bool) (l:List Opd) (x:Ins) (p q:Blocks) (v u:Value) (w:World) (h:SlR opdR w p v l) (g:SlR opdR w q u x.args) (hn:x.args.length≤1000000) (hf:∀y∈x.args,fits64 y.n) (hex:ex.size≤9223372036854775807):
  Calls Tryz.prog 125 #[.agg #[.int .i64 pg,.int .u8 op,.string s,v,.string ex,.bool al],.agg #[.string x.op,u]] w fun e w'=>e=.returned (.bool (fitsC s x.op ex.data.toList l (canonOf x).args))∧Below w.heap.size w w':=by
 obtain ⟨va,vc,rfl⟩:∃a c,v=.slice a l.length c:=by obtain ⟨a,c,e,_⟩:=h;exact ⟨a,c,e⟩
 obtain ⟨ua,uc,rfl⟩:∃a c,u=.slice a x.args.length c:=by obtain ⟨a,c,e,_⟩:=g;exact ⟨a,c,e⟩
 have HOf:=Lib.hid (fun p v W h=>ref08Of_any p x v W h hn hf)
 obtain ⟨t,m⟩:=x
 dsimp only at *
 have HF:=Lib.hid (((Fr.start w).new 53 #[.int .i64 pg,.int .u8 op,.string s,.slice va l.length vc,.string ex,.bool al]).new 27 #[.string t,.slice ua m.length uc])
 have HS1:=Lib.hid ((h.alloc (.cells #[.int .i64 pg,.int .u8 op,.string s,.slice va l.length vc,.string ex,.bool al] 53)).alloc (.cells #[.string t,.slice ua m.length uc] 27))
 have HS2:=Lib.hid ((g.alloc (.cells #[.int .i64 pg,.int .u8 op,.string s,.slice va l.length vc,.string ex,.bool al] 53)).alloc (.cells #[.string t,.slice ua m.length uc] 27))
 have hsz:(w.alloc (.cells #[.int .i64 pg,.int .u8 op,.string s,.slice va l.length vc,.string ex,.bool al] 53)).heap.size=w.heap.size+1:=World.size_alloc _ _
 rw [hsz] at HF
 clear h g hsz hn hf
 generalize (canonOf ⟨t,m⟩).args=cn at *
 obtain ⟨W0,hW0⟩:∃W0:World,W0=((w.alloc (.cells #[.int .i64 pg,.int .u8 op,.string s,.slice va l.length vc,.string ex,.bool al] 53)).alloc (.cells #[.string t,.slice ua m.length uc] 27)):=⟨_,rfl⟩
 rw [←hW0] at HF HS1 HS2
 have HC:=Lib.hid (fun (h:shF s t l cn=false)=>fitsC_no (ex:=ex.data.toList) h)
 have HL:=Lib.hid (fun (h:shF s t l cn=true)=>shF_eq_len h)
 have HAT:=Lib.hid (fun k hk h=>fitsC_at (s:=s) (t:=t) (ex:=ex.data.toList) (l:=l) (c:=cn) k hk h)
 have HYS:=Lib.hid (fun h h2=>fitsC_yes (s:=s) (t:=t) (ex:=ex.data.toList) (l:=l) (c:=cn) h h2)
 generalize fitsC s t ex.data.toList l cn=R at *
 go_enter Tryz.func125,Tryz.ntmps125
 go_upto_region 1 with fail
 rw [←hW0]
 clear hW0
 have q0:=(HF.out.blk 0 rfl).cell 0
 have q1:=(HF.out.blk 0 rfl).cell 1
 go_upto_region 2 with (go_at_call 30;refine (HOf.out _ _ _ HS2.out).mono ?_;rintro e w1 ⟨u1,rfl,ho,hb1⟩;obtain ⟨ca,cc,rfl⟩:=ho.form;have HF1:=Lib.hid (HF.out.next hb1);have HSl:=Lib.hid (HS1.out.below hb1);have HSc:=Lib.hid ho.slR;clear ho hb1 q0 q1)
 have HF2:=Lib.hid (HF1.out.new 27 #[.string t,.slice ca cn.length cc])
 have HSl2:=Lib.hid (HSl.out.alloc (.cells #[.string t,.slice ca cn.length cc] 27))
 have HSc2:=Lib.hid (HSc.out.alloc (.cells #[.string t,.slice ca cn.length cc] 27))
 obtain ⟨b5,hb5⟩:∃b,w1.heap.size=b:=⟨_,rfl⟩
 rw [hb5] at HF2 ⊢
 obtain ⟨W2,hW2⟩:∃W:World,W=(w1.alloc (.cells #[.string t,.slice ca cn.length cc] 27)):=⟨_,rfl⟩
 rw [←hW2] at HF2 HSl2 HSc2 ⊢
 clear hW2 hb5 HF1 HSl HSc HS1 HS2 HF
 have e0:=(HF2.out.blk 2 rfl).cell 0
 have e1:=(HF2.out.blk 2 rfl).cell 1
 have e2:=(HF2.out.blk 2 rfl).cell 2
 have e3:=(HF2.out.blk 2 rfl).cell 3
 have e4:=(HF2.out.blk 2 rfl).cell 4
 have e5:=(HF2.out.blk 2 rfl).cell 5
 have c0:=(HF2.out.blk 0 rfl).cell 0
 have c1:=(HF2.out.blk 0 rfl).cell 1
 have HSH:=Lib.hid (shaped9_any pg op s ex t al l cn _ _ _ _ _ HSl2.out HSc2.out)
 cases hsh:shF s t l cn
 ·have HR:=Lib.hid (HC.out hsh)
  rw [hsh] at HSH
  go_wp2_with (go_at_call 167;refine HSH.out.mono ?_;rintro e w2 ⟨rfl,hb2⟩;have HF3:=Lib.hid (HF2.out.next hb2);clear hb2)
  go_ret
  exact ⟨ret_bool HR.out.symm,HF3.out.below⟩
 rw [hsh] at HSH
 have HLE:=Lib.hid (HL.out hsh)
 have HYR:=Lib.hid (HYS.out hsh)
 clear HC HL HYS
 go_upto_region 4 with (go_at_call 167;refine HSH.out.mono ?_;rintro e w2 ⟨rfl,hb2⟩;have HF3:=Lib.hid (HF2.out.next hb2);have HSl3:=Lib.hid (HSl2.out.below hb2);have HSc3:=Lib.hid (HSc2.out.below hb2);clear hb2 e0 e1 e2 e3 e4 e5 c0 c1)
 clear HSH HSl2 HSc2 HF2 hsh
 go_wp2
 obtain ⟨W3,hW3⟩:∃W:World,W=w2:=⟨_,rfl⟩
 rw [←hW3] at HF3 HSl3 HSc3 ⊢
 clear hW3
 have hl1:=HSl3.out.len_le
 have hl2:=HSc3.out.len_le
 go_loopw [6] (fun i wx=>∃k:Nat,k≤cn.length∧i=.int .i64 k∧(∀j,j < k→oneF ex.data.toList l cn j=true)∧RowKit.Below W3.heap.size W3 wx) (fun i _=>cn.length - (intOf i).toNat)
 case atStart=>exact ⟨0,Nat.zero_le _,rfl,fun j hj=>absurd hj (Nat.not_lt_zero _),Below.refl _ _⟩
 case round=>
  obtain ⟨k,hk,rfl,ht,hbx⟩:=hrel
  have HT:=Lib.hid ht
  have HBX:=Lib.hid hbx
  have HX:=Lib.hid (HF3.out.next hbx)
  have HSlX:=Lib.hid (HSl3.out.below hbx)
  have HScX:=Lib.hid (HSc3.out.below hbx)
  clear ht hbx
  have e0:=(HX.out.blk 2 rfl).cell 0
  have e1:=(HX.out.blk 2 rfl).cell 1
  have e2:=(HX.out.blk 2 rfl).cell 2
  have e3:=(HX.out.blk 2 rfl).cell 3
  have e4:=(HX.out.blk 2 rfl).cell 4
  have e5:=(HX.out.blk 2 rfl).cell 5
  have c0:=(HX.out.blk 0 rfl).cell 0
  have c1:=(HX.out.blk 0 rfl).cell 1
  by_cases hlt:k < cn.length
  ·have hltl:k < l.length:=by have:=HLE.out;omega
   have HO:=Lib.hid (oneF_eq (ex:=ex.data.toList) hltl hlt)
   have HNR:=Lib.hid (HAT.out k hlt)
   have HSU:=Lib.hid (upto_succ (P:=fun j=>oneF ex.data.toList l cn j=true) HT.out)
   have HLt:=Lib.hid (Letter_any pg op s ex al l _ _ k hltl _ HSlX.out hex)
   clear HYR HAT HT
   generalize oneF ex.data.toList l cn k=one at *
   generalize letF l ex.data.toList k=L at *
   go_upto_region 8 with (go_at_call 87;refine HLt.out.mono ?_;rintro e w4 ⟨rfl,hb4⟩;have HY:=Lib.hid (HX.out.next hb4);have HSlY:=Lib.hid (HSlX.out.below hb4);have HScY:=Lib.hid (HScX.out.below hb4);have HBY:=Lib.hid (RowKit.Below.trans HBX.out (hb4.mono HBX.out.size));clear hb4 e0 e1 e2 e3 e4 e5 c0 c1)
   clear HLt HX HSlX HScX HBX
   have e3:=(HY.out.blk 2 rfl).cell 3
   have c1:=(HY.out.blk 0 rfl).cell 1
   obtain ⟨a1,d1,e6,_,_,g1⟩:=HSlY.out.opd
   obtain ⟨a2,d2,e7,_,_,g2⟩:=HScY.out.opd
   injection e6 with e6 e8 e9
   injection e7 with e7 e10 e11
   clear e8 e10
   subst e6 e9 e7 e11
   obtain ⟨b1,o1,rfl,_,_,_,x2⟩:=g1 k l[k] (List.getElem?_eq_getElem hltl)
   obtain ⟨b2,o2,rfl,_,_,_,y2⟩:=g2 k cn[k] (List.getElem?_eq_getElem hlt)
   clear g1 g2 HSlY HScY
   generalize l[k]=x at *
   generalize cn[k]=y at *
   obtain ⟨xk,xr,xn⟩:=x
   obtain ⟨yk,yr,yn⟩:=y
   dsimp only at *
   have HW:=Lib.hid (fun W=>within_any L yn W)
   by_cases hL:L=0
   ·rw [if_pos hL] at HO
    subst hL
    clear HW
    cases hxy:(xn != yn)
    ·have hxe:(xn==yn)=true:=by rw [beq_iff_eq];simpa using hxy
     have HR:=Lib.hid (HSU.out (HO.out.trans hxe))
     clear HNR HSU hxe
     go_quiet (fail)
     go_wp2
     go_roundw
     case rel=>exact ⟨k+1,by omega,by go_num,HR.out,below_dN HBY.out _⟩
     case measure=>simp [intOf];omega
    ·have hxe:(xn==yn)=false:=by rw [beq_eq_false_iff_ne];simpa using hxy
     have HR:=Lib.hid (HNR.out (HO.out.trans hxe))
     clear HNR HSU hxe
     go_quiet (fail)
     go_wp2
     go_ret
     exact ⟨ret_bool HR.out.symm,(HY.out.drewN _).below⟩
   ·rw [if_neg hL] at HO
    have h0:(L==0)=false:=by rw [beq_eq_false_iff_ne];exact hL
    have h1:(L != 0)=true:=by rw [bne_iff_ne];exact hL
    clear hL
    generalize withinF L yn=wn at *
    cases wn
    ·have HR:=Lib.hid (HNR.out HO.out)
     clear HNR HSU
     go_quiet ((go_at_call 88;exact Calls.quiet_of_same (HW.out _)))
     go_wp2
     go_ret
     exact ⟨ret_bool HR.out.symm,(HY.out.drewN _).below⟩
    ·have HR:=Lib.hid (HSU.out HO.out)
     clear HNR HSU
     go_quiet ((go_at_call 88;exact Calls.quiet_of_same (HW.out _)))
     go_wp2
     go_roundw
     case rel=>exact ⟨k+1,by omega,by go_num,HR.out,below_dN HBY.out _⟩
     case measure=>simp [intOf];omega
  ·have hkm:k=cn.length:=by omega
   have HR:=Lib.hid (HYR.out (fun j hj=>HT.out j (by omega)))
   clear hkm HT
   go_wp2
   go_ret
   exact ⟨ret_bool HR.out.symm,HX.out.below⟩
end Go.Proofs.YtjmekllgnhkodaaGreatDoor
namespace Go.Proofs.YtjmekllgnhkodaaGreatDoor
set_option maxHeartbeats 8000000
set_option maxRecDepth 100000
open Go.RowKit Go.Shelf Go.Sort
def valStep (L n:Int) (r:Int × Int):Int × Int:=if L=100 then (n,r.2) else if L=101∨L=110∨L=119 then (r.1,n) else r
def valS (ex:List UInt8) (l c:List Opd):Nat→Int × Int
 | 0=>(0,0)
 | k+1=>valStep (letF l ex k) (nAt c k) (valS ex l c k)
def valF (s t:ByteArray) (ex:List UInt8) (l c:List Opd):Int × Int:=if fitsC s t ex l c=true then valS ex l c c.length else (0,0)
theorem nAt_eq {l:List Opd} {k:Nat} (h:k < l.length):nAt l k=l[k].n:=by unfold nAt;rw [List.getElem?_eq_getElem h]
theorem fitsC_len {s t:ByteArray} {ex:List UInt8} {l c:List Opd} (h:fitsC s t ex l c=true):l.length=c.length:=shF_eq_len (Bool.and_eq_true_iff.1 h).1
theorem ret_two {a b c d:Int} (h:(a,b)=(c,d)):Ending.returned (.tuple #[.int .i64 a,.int .i64 b])=.returned (.tuple #[.int .i64 c,.int .i64 d]):=by
 injection h with h1 h2
 rw [h1,h2]
theorem Values10_any (pg op:Int) (s ex:ByteArray) (al:Bool) (l:List Opd) (x:Ins) (p q:Blocks) (v u:Value) (w:World) (h:SlR opdR w p v l) (g:SlR opdR w q u x.args) (hn:x.args.length≤1000000) (hf:∀y∈x.args,fits64 y.n) (hex:ex.size≤9223372036854775807):
  Calls Tryz.prog 80 #[.agg #[.int .i64 pg,.int .u8 op,.string s,v,.string ex,.bool al],.agg #[.string x.op,u]] w fun e w'=>e=.returned (.tuple #[.int .i64 (valF s x.op ex.data.toList l (canonOf x).args).1,.int .i64 (valF s x.op ex.data.toList l (canonOf x).args).2])∧Below w.heap.size w w':=by
 obtain ⟨va,vc,rfl⟩:∃a c,v=.slice a l.length c:=by obtain ⟨a,c,e,_⟩:=h;exact ⟨a,c,e⟩
 obtain ⟨ua,uc,rfl⟩:∃a c,u=.slice a x.args.length c:=by obtain ⟨a,c,e,_⟩:=g;exact ⟨a,c,e⟩
 have HOf:=Lib.hid (fun p v W h=>ref08Of_any p x v W h hn hf)
 have HFt:=Lib.hid (fun p q v u W h g=>Fits10_any pg op s ex al l x p q v u W h g hn hf hex)
 obtain ⟨t,m⟩:=x
 dsimp only at *
 have HF:=Lib.hid (((Fr.start w).new 53 #[.int .i64 pg,.int .u8 op,.string s,.slice va l.length vc,.string ex,.bool al]).new 27 #[.string t,.slice ua m.length uc])
 have HS1:=Lib.hid ((h.alloc (.cells #[.int .i64 pg,.int .u8 op,.string s,.slice va l.length vc,.string ex,.bool al] 53)).alloc (.cells #[.string t,.slice ua m.length uc] 27))
 have HS2:=Lib.hid ((g.alloc (.cells #[.int .i64 pg,.int .u8 op,.string s,.slice va l.length vc,.string ex,.bool al] 53)).alloc (.cells #[.string t,.slice ua m.length uc] 27))
 have hsz:(w.alloc (.cells #[.int .i64 pg,.int .u8 op,.string s,.slice va l.length vc,.string ex,.bool al] 53)).heap.size=w.heap.size+1:=World.size_alloc _ _
 rw [hsz] at HF
 clear h g hsz hn hf
 generalize (canonOf ⟨t,m⟩).args=cn at *
 obtain ⟨W0,hW0⟩:∃W0:World,W0=((w.alloc (.cells #[.int .i64 pg,.int .u8 op,.string s,.slice va l.length vc,.string ex,.bool al] 53)).alloc (.cells #[.string t,.slice ua m.length uc] 27)):=⟨_,rfl⟩
 rw [←hW0] at HF HS1 HS2
 have HNO:=Lib.hid (show fitsC s t ex.data.toList l cn=false→valF s t ex.data.toList l cn=(0,0) from fun h=>if_neg (by rw [h];decide))
 have HYE:=Lib.hid (show fitsC s t ex.data.toList l cn=true→valF s t ex.data.toList l cn=valS ex.data.toList l cn cn.length from fun h=>if_pos h)
 have HLE:=Lib.hid (fun h=>fitsC_len (s:=s) (t:=t) (ex:=ex.data.toList) (l:=l) (c:=cn) h)
 have HFT:=Lib.hid (HFt.out _ _ _ _ _ HS1.out HS2.out)
 clear HFt
 generalize valF s t ex.data.toList l cn=R at *
 generalize fitsC s t ex.data.toList l cn=ft at *
 go_enter Tryz.func80,Tryz.ntmps80
 go_upto_region 1 with fail
 rw [←hW0]
 clear hW0
 have e0:=(HF.out.blk 1 rfl).cell 0
 have e1:=(HF.out.blk 1 rfl).cell 1
 have e2:=(HF.out.blk 1 rfl).cell 2
 have e3:=(HF.out.blk 1 rfl).cell 3
 have e4:=(HF.out.blk 1 rfl).cell 4
 have e5:=(HF.out.blk 1 rfl).cell 5
 have c0:=(HF.out.blk 0 rfl).cell 0
 have c1:=(HF.out.blk 0 rfl).cell 1
 cases ft
 ·have HR:=Lib.hid (HNO.out rfl)
  clear HNO HYE HLE
  go_wp2_with (go_at_call 125;refine HFT.out.mono ?_;rintro e w1 ⟨rfl,hb1⟩;have HF1:=Lib.hid (HF.out.next hb1);clear hb1)
  go_ret2
  exact ⟨ret_two HR.out.symm,HF1.out.below⟩
 have HR:=Lib.hid (HYE.out rfl)
 have HLN:=Lib.hid (HLE.out rfl)
 clear HNO HYE HLE
 go_upto_region 3 with (go_at_call 125;refine HFT.out.mono ?_;rintro e w1 ⟨rfl,hb1⟩;have HF1:=Lib.hid (HF.out.next hb1);have HSl1:=Lib.hid (HS1.out.below hb1);have HSc1:=Lib.hid (HS2.out.below hb1);clear hb1 e0 e1 e2 e3 e4 e5 c0 c1)
 clear HFT HS1 HS2 HF
 have c0:=(HF1.out.blk 0 rfl).cell 0
 have c1:=(HF1.out.blk 0 rfl).cell 1
 go_upto_region 4 with (go_at_call 30;refine (HOf.out _ _ _ HSc1.out).mono ?_;rintro e w2 ⟨u1,rfl,ho,hb2⟩;obtain ⟨ca,cc,rfl⟩:=ho.form;have HF2:=Lib.hid (HF1.out.next hb2);have HSl2:=Lib.hid (HSl1.out.below hb2);have HSc2:=Lib.hid ho.slR;clear ho hb2 c0 c1)
 clear HF1 HSl1 HSc1
 have HF3:=Lib.hid (HF2.out.new 27 #[.string t,.slice ca cn.length cc])
 have HSl3:=Lib.hid (HSl2.out.alloc (.cells #[.string t,.slice ca cn.length cc] 27))
 have HSc3:=Lib.hid (HSc2.out.alloc (.cells #[.string t,.slice ca cn.length cc] 27))
 obtain ⟨b5,hb5⟩:∃b,w2.heap.size=b:=⟨_,rfl⟩
 rw [hb5] at HF3 ⊢
 obtain ⟨W3,hW3⟩:∃W:World,W=(w2.alloc (.cells #[.string t,.slice ca cn.length cc] 27)):=⟨_,rfl⟩
 rw [←hW3] at HF3 HSl3 HSc3 ⊢
 clear hW3 hb5 HF2 HSl2 HSc2
 have hl1:=HSl3.out.len_le
 have hl2:=HSc3.out.len_le
 go_wp2
 go_loopw [7,8,9] (fun dx nx i wx=>∃(k:Nat) (dv nv:Int),k≤cn.length∧dx=.int .i64 dv∧nx=.int .i64 nv∧i=.int .i64 k∧valS ex.data.toList l cn k=(dv,nv)∧RowKit.Below W3.heap.size W3 wx) (fun _ _ i _=>cn.length - (intOf i).toNat)
 case atStart=>exact ⟨0,0,0,Nat.zero_le _,rfl,rfl,rfl,rfl,Below.refl _ _⟩
 case round=>
  obtain ⟨k,dv,nv,hk,rfl,rfl,rfl,ht,hbx⟩:=hrel
  have HT:=Lib.hid ht
  have HBX:=Lib.hid hbx
  have HX:=Lib.hid (HF3.out.next hbx)
  have HSlX:=Lib.hid (HSl3.out.below hbx)
  have HScX:=Lib.hid (HSc3.out.below hbx)
  clear ht hbx
  have e0:=(HX.out.blk 2 rfl).cell 0
  have e1:=(HX.out.blk 2 rfl).cell 1
  have e2:=(HX.out.blk 2 rfl).cell 2
  have e3:=(HX.out.blk 2 rfl).cell 3
  have e4:=(HX.out.blk 2 rfl).cell 4
  have e5:=(HX.out.blk 2 rfl).cell 5
  have c0:=(HX.out.blk 0 rfl).cell 0
  have c1:=(HX.out.blk 0 rfl).cell 1
  by_cases hlt:k < cn.length
  ·have hltl:k < l.length:=by have:=HLN.out;omega
   have HV:=Lib.hid (show valS ex.data.toList l cn (k+1)=valStep (letF l ex.data.toList k) cn[k].n (dv,nv) from by rw [valS,HT.out,nAt_eq hlt])
   have HLt:=Lib.hid (Letter_any pg op s ex al l _ _ k hltl _ HSlX.out hex)
   clear HT
   generalize letF l ex.data.toList k=L at *
   go_upto_region 10 with (go_at_call 87;refine HLt.out.mono ?_;rintro e w4 ⟨rfl,hb4⟩;have HY:=Lib.hid (HX.out.next hb4);have HScY:=Lib.hid (HScX.out.below hb4);have HBY:=Lib.hid (RowKit.Below.trans HBX.out (hb4.mono HBX.out.size));clear hb4 e0 e1 e2 e3 e4 e5 c0 c1)
   clear HLt HX HSlX HScX HBX
   have c1:=(HY.out.blk 0 rfl).cell 1
   obtain ⟨a2,d2,e7,_,_,g2⟩:=HScY.out.opd
   injection e7 with e7 e10 e11
   clear e10
   subst e7 e11
   obtain ⟨b2,o2,rfl,_,_,_,y2⟩:=g2 k cn[k] (List.getElem?_eq_getElem hlt)
   clear g2 HScY
   generalize cn[k]=y at *
   obtain ⟨yk,yr,yn⟩:=y
   dsimp only at *
   have HVV:Hid (valS ex.data.toList l cn (k+1)=if L=100 then (yn,nv) else if L=101∨L=110∨L=119 then (dv,yn) else (dv,nv)):=HV.out
   clear HV
   by_cases h1:L=100
   ·subst h1
    have HR2:Hid (valS ex.data.toList l cn (k+1)=(yn,nv)):=HVV.out
    clear HVV
    go_wp2
    go_roundw
    case rel=>exact ⟨k+1,yn,nv,by omega,rfl,rfl,by go_num,HR2.out,HBY.out⟩
    case measure=>simp [intOf];omega
   rw [if_neg h1] at HVV
   have b1:(L==100)=false:=by rw [beq_eq_false_iff_ne];exact h1
   clear h1
   by_cases h2:L=101∨L=110∨L=119
   ·rw [if_pos h2] at HVV
    rcases h2 with rfl | rfl | rfl
    all_goals
     clear b1
     go_wp2
     go_roundw
     case rel=>exact ⟨k+1,dv,yn,by omega,rfl,rfl,by go_num,HVV.out,HBY.out⟩
     case measure=>simp [intOf];omega
   rw [if_neg h2] at HVV
   have b2:(L==101)=false:=by rw [beq_eq_false_iff_ne];omega
   have b3:(L==110)=false:=by rw [beq_eq_false_iff_ne];omega
   have b4:(L==119)=false:=by rw [beq_eq_false_iff_ne];omega
   clear h2
   go_wp2
   go_roundw
   case rel=>exact ⟨k+1,dv,nv,by omega,rfl,rfl,by go_num,HVV.out,HBY.out⟩
   case measure=>simp [intOf];omega
  ·obtain rfl:k=cn.length:=by omega
   have HR2:=Lib.hid (HR.out.trans HT.out)
   clear HT HR
   go_wp2
   go_ret2
   exact ⟨ret_two HR2.out.symm,HX.out.below⟩
end Go.Proofs.YtjmekllgnhkodaaGreatDoor
namespace Go.Proofs.YtjmekllgnhkodaaGreatDoor
set_option maxHeartbeats 8000000
set_option maxRecDepth 100000
open Go.RowKit Go.Shelf Go.Sort
def oAt (l:List Opd) (k:Nat):Opd:=match l[k]? with | some o=>o | none=>⟨0,0,0⟩
def filN (L d n x:Int):Int:=if L=100 then d else if L=101∨L=110∨L=119 then n else x
def filO (L d n:Int) (o:Opd):Opd:=⟨o.kind,o.reg,filN L d n o.n⟩
def filL (ex:List UInt8) (l:List Opd) (d n:Int):Nat→List Opd
 | 0=>[]
 | k+1=>filL ex l d n k++[filO (letF l ex k) d n (oAt l k)]
def okL (ex:List UInt8) (l:List Opd) (d n:Int):Nat→Bool
 | 0=>true
 | k+1=>okL ex l d n k&&((letF l ex k==0) || withinF (letF l ex k) (filO (letF l ex k) d n (oAt l k)).n)
def usD (ex:List UInt8) (l:List Opd) (d:Int):Nat→Bool
 | 0=>d==0
 | k+1=>usD ex l d k || (letF l ex k==100)
def usN (ex:List UInt8) (l:List Opd) (n:Int):Nat→Bool
 | 0=>n==0
 | k+1=>usN ex l n k || ((letF l ex k==101) || (letF l ex k==110) || (letF l ex k==119))
def fillF (ex:List UInt8) (l:List Opd) (d n:Int):Option (List Opd):=
 if okL ex l d n l.length=true then (if usD ex l d l.length=true then (if usN ex l n l.length=true then some (filL ex l d n l.length) else none) else none) else none
theorem filL_len (ex:List UInt8) (l:List Opd) (d n:Int):∀k,(filL ex l d n k).length=k
 | 0=>rfl
 | k+1=>by rw [filL,List.length_append,filL_len ex l d n k];rfl
theorem okL_mono {ex:List UInt8} {l:List Opd} {d n:Int} {k:Nat} (h:okL ex l d n k=false):∀m,okL ex l d n (k+m)=false
 | 0=>h
 | m+1=>by rw [←Nat.add_assoc,okL,okL_mono h m,Bool.false_and]
theorem letO_cases (o:Opd) (r:List Opd) (ex:List UInt8):letO o r ex=0∨letO o r ex=100∨letO o r ex=101∨letO o r ex=110∨letO o r ex=119:=by
 unfold letO
 repeat' split
 all_goals simp
theorem letF_cases (l:List Opd) (ex:List UInt8) (k:Nat):letF l ex k=0∨letF l ex k=100∨letF l ex k=101∨letF l ex k=110∨letF l ex k=119:=by
 unfold letF
 split
 ·exact letO_cases _ _ _
 ·exact Or.inl rfl
def FilP (w:World) (s:ByteArray) (r:Option (List Opd)) (e:Ending) (w':World):Prop:=
 (match r with | some c=>∃v',e=.returned (.tuple #[.agg #[.string s,v'],.bool true])∧OwO w' w.heap.size v' c | none=>e=.returned (.tuple #[.agg #[.string ⟨#[]⟩,.slice none 0 0],.bool false]))∧RowKit.Below w.heap.size w w'
theorem filP_none {w:World} {s:ByteArray} {e:Ending} {w':World} (h:e=.returned (.tuple #[.agg #[.string ⟨#[]⟩,.slice none 0 0],.bool false])) (hb:RowKit.Below w.heap.size w w'):FilP w s none e w':=⟨h,hb⟩
theorem filP_some {w:World} {s:ByteArray} {c:List Opd} {e:Ending} {w':World} {v':Value} (h:e=.returned (.tuple #[.agg #[.string s,v'],.bool true])) (ho:OwO w' w.heap.size v' c) (hb:RowKit.Below w.heap.size w w'):FilP w s (some c) e w':=⟨⟨v',h,ho⟩,hb⟩
theorem Fill10_any (pg op d n:Int) (s ex:ByteArray) (al:Bool) (l:List Opd) (p:Blocks) (v:Value) (w:World) (h:SlR opdR w p v l) (hl:l.length≤1000000) (hex:ex.size≤9223372036854775807):
  Calls Tryz.prog 54 #[.agg #[.int .i64 pg,.int .u8 op,.string s,v,.string ex,.bool al],.int .i64 d,.int .i64 n] w (FilP w s (fillF ex.data.toList l d n)):=by
 obtain ⟨va,vc,rfl⟩:∃a c,v=.slice a l.length c:=by obtain ⟨a,c,e,_⟩:=h;exact ⟨a,c,e⟩
 have HL0:=Lib.hid hl
 have HF:=Lib.hid ((((Fr.start w).new 53 #[.int .i64 pg,.int .u8 op,.string s,.slice va l.length vc,.string ex,.bool al]).new' 27 #[.string ⟨#[]⟩,.slice none 0 0] (World.size_alloc _ _)).new' 27 #[.string s,.slice none 0 0] (show _=w.heap.size+1+1 from by rw [World.size_alloc,World.size_alloc]))
 have HS:=Lib.hid h
 have HNO:=Lib.hid (show okL ex.data.toList l d n l.length=false→fillF ex.data.toList l d n=none from fun h=>if_neg (by rw [h];decide))
 have HND:=Lib.hid (show okL ex.data.toList l d n l.length=true→usD ex.data.toList l d l.length=false→fillF ex.data.toList l d n=none from fun h h2=>by unfold fillF;rw [if_pos h,if_neg (by rw [h2];decide)])
 have HNN:=Lib.hid (show okL ex.data.toList l d n l.length=true→usD ex.data.toList l d l.length=true→usN ex.data.toList l n l.length=false→fillF ex.data.toList l d n=none from fun h h2 h3=>by unfold fillF;rw [if_pos h,if_pos h2,if_neg (by rw [h3];decide)])
 have HYE:=Lib.hid (show okL ex.data.toList l d n l.length=true→usD ex.data.toList l d l.length=true→usN ex.data.toList l n l.length=true→fillF ex.data.toList l d n=some (filL ex.data.toList l d n l.length) from fun h h2 h3=>by unfold fillF;rw [if_pos h,if_pos h2,if_pos h3])
 clear h hl
 generalize fillF ex.data.toList l d n=R at *
 go_enter Tryz.func54,Tryz.ntmps54
 go_upto_region 2 with fail
 obtain ⟨W3,hW3⟩:∃W:World,W=(((w.alloc (.cells #[.int .i64 pg,.int .u8 op,.string s,.slice va l.length vc,.string ex,.bool al] 53)).alloc (.cells #[.string ⟨#[]⟩,.slice none 0 0] 27)).alloc (.cells #[.string s,.slice none 0 0] 27)):=⟨_,rfl⟩
 have hs3:W3.heap.size=w.heap.size+1+1+1:=by rw [hW3,World.size_alloc,World.size_alloc,World.size_alloc]
 rw [←hW3] at HF ⊢
 clear hW3
 go_wp2
 go_loopw [9,10,11] (fun ud un i wx=>∃(k:Nat) (lv:Value),k≤l.length∧ud=.bool (usD ex.data.toList l d k)∧un=.bool (usN ex.data.toList l n k)∧i=.int .i64 k∧okL ex.data.toList l d n k=true∧OwO wx (w.heap.size+1+1+1) lv (filL ex.data.toList l d n k)∧
  Fr w [(w.heap.size+1+1,27,#[.string s,lv]),(w.heap.size+1,27,#[.string ⟨#[]⟩,.slice none 0 0]),(w.heap.size,53,#[.int .i64 pg,.int .u8 op,.string s,.slice va l.length vc,.string ex,.bool al])] wx∧w.heap.size+1+1+1≤wx.heap.size) (fun _ _ i _=>l.length - (intOf i).toNat)
 case atStart=>exact ⟨0,_,Nat.zero_le _,rfl,rfl,rfl,rfl,Own.nil _ _ _ _ _,HF.out,by omega⟩
 case round=>
  obtain ⟨k,lv,hk,rfl,rfl,rfl,hok,ho,hfr,hsz⟩:=hrel
  have HT:=Lib.hid hok
  have HO:=Lib.hid ho
  have HX:=Lib.hid hfr
  have HSX:=Lib.hid (HS.out.below hfr.below)
  have HSZ:=Lib.hid hsz
  obtain ⟨la,lc,rfl⟩:=ho.form
  clear hok ho hfr hsz hs3
  have e0:=(HX.out.blk 2 rfl).cell 0
  have e1:=(HX.out.blk 2 rfl).cell 1
  have e2:=(HX.out.blk 2 rfl).cell 2
  have e3:=(HX.out.blk 2 rfl).cell 3
  have e4:=(HX.out.blk 2 rfl).cell 4
  have e5:=(HX.out.blk 2 rfl).cell 5
  by_cases hlt:k < l.length
  ·have HLt:=Lib.hid (fun W h=>Letter_any pg op s ex al l _ _ k hlt W (HSX.out.below h) hex)
   have HLC:=Lib.hid (letF_cases l ex.data.toList k)
   have HFL:=Lib.hid (show filL ex.data.toList l d n (k+1)=filL ex.data.toList l d n k++[filO (letF l ex.data.toList k) d n l[k]] from by rw [filL];unfold oAt;rw [List.getElem?_eq_getElem hlt])
   have HOL:=Lib.hid (show okL ex.data.toList l d n (k+1)=((letF l ex.data.toList k==0) || withinF (letF l ex.data.toList k) (filO (letF l ex.data.toList k) d n l[k]).n) from by rw [okL,HT.out,Bool.true_and];unfold oAt;rw [List.getElem?_eq_getElem hlt])
   have HUD:=Lib.hid (show usD ex.data.toList l d (k+1)=(usD ex.data.toList l d k || (letF l ex.data.toList k==100)) from rfl)
   have HUN:=Lib.hid (show usN ex.data.toList l n (k+1)=(usN ex.data.toList l n k || ((letF l ex.data.toList k==101) || (letF l ex.data.toList k==110) || (letF l ex.data.toList k==119))) from rfl)
   have HBAD:=Lib.hid (fun h=>HNO.out (by have:=okL_mono (ex:=ex.data.toList) (l:=l) (d:=d) (n:=n) (k:=k+1) h (l.length - (k+1));rwa [Nat.add_sub_cancel' hlt] at this))
   have HFN:=Lib.hid (filL_len ex.data.toList l d n k)
   obtain ⟨a1,c1,e6,_,_,g1⟩:=HSX.out.opd
   injection e6 with e6 e8 e9
   clear e8
   subst e6 e9
   obtain ⟨b1,o1,rfl,_,x0,x1,x2⟩:=g1 k l[k] (List.getElem?_eq_getElem hlt)
   clear g1 HNO HND HNN HYE
   generalize l[k]=x at *
   generalize letF l ex.data.toList k=L at *
   generalize filL ex.data.toList l d n k=xs at *
   generalize usD ex.data.toList l d k=ud at *
   generalize usN ex.data.toList l n k=un at *
   obtain ⟨xk,xr,xn⟩:=x
   dsimp only at *
   go_upto_region 8 with fail
   have HX5:=Lib.hid (HX.out.new 90 #[.int .i64 xk,.int .i64 xr,.int .i64 xn])
   have HB5:Hid (RowKit.Below wr.heap.size wr (wr.alloc (.cells #[.int .i64 xk,.int .i64 xr,.int .i64 xn] 90))):=Lib.hid ((Below.refl _ _).alloc (Nat.le_refl _) _)
   have HLt:=Lib.hid (HLt.out _ HB5.out)
   obtain ⟨W5,hW5⟩:∃W:World,W=(wr.alloc (.cells #[.int .i64 xk,.int .i64 xr,.int .i64 xn] 90)):=⟨_,rfl⟩
   rw [←hW5] at HX5 HB5 HLt ⊢
   clear hW5 e0 e1 e2 e3 e4 e5 x0 x1 x2 HSX HX
   have e0:=(HX5.out.blk 3 rfl).cell 0
   have e1:=(HX5.out.blk 3 rfl).cell 1
   have e2:=(HX5.out.blk 3 rfl).cell 2
   have e3:=(HX5.out.blk 3 rfl).cell 3
   have e4:=(HX5.out.blk 3 rfl).cell 4
   have e5:=(HX5.out.blk 3 rfl).cell 5
   go_upto_region 9 with (go_at_call 87;refine HLt.out.mono ?_;rintro e w6 ⟨rfl,hb⟩;have HX6:=Lib.hid (HX5.out.next hb);have HB6:=Lib.hid (RowKit.Below.trans HB5.out (hb.mono HB5.out.size));clear hb e0 e1 e2 e3 e4 e5)
   clear HLt HX5 HB5
   rcases HLC.out with rfl | rfl | hL
   ·go_upto_region 15 with fail
    have HX7:=HX6
    have HB7:=HB6
    obtain ⟨W7,hW7⟩:∃W:World,W=w6:=⟨_,rfl⟩
    rw [←hW7] at HX7 HB7 ⊢
    clear hW7 HX6 HB6
    have x0:=(HX7.out.blk 0 rfl).cell 0
    have x1:=(HX7.out.blk 0 rfl).cell 1
    have x2:=(HX7.out.blk 0 rfl).cell 2
    have c1:=(HX7.out.blk 1 rfl).cell 1
    have HO7:=Lib.hid (OwO.below HO.out HB7.out)
    have HS7:=HB7.out.size
    have hok2:okL ex.data.toList l d n (k+1)=true:=HOL.out
    have HOK2:=Lib.hid hok2
    clear hok2
    go_upto_region 17 with fail
    clear x2
    have x2:=(HX7.out.blk 0 rfl).cell 2
    go_wp2_with (at_builtin;refine wpList_push rfl (.tmp 66) (.tmp 68) 25 rfl (w.heap.size+1+1+1) 90 24 elOpd _ xs ⟨xk,xr,xn⟩ _ rfl rfl HO7.out rfl (by have:=HFN.out;have:=HL0.out;omega) (by have:=HFN.out;have:=HL0.out;omega) (by have:=HSZ.out;omega) ?_;intro a' c' w' hp;have HP:=Lib.hid hp;have HGR:=Lib.hid (HX7.out.grown HP.out.2 (fun j hj=>⟨by have:=(Own.lt HO7.out j hj).1;omega,by have h1:=(Own.lt HO7.out j hj).1;have h2:=(Own.lt HO.out j hj).2;intro y hy;simp only [List.mem_cons,List.not_mem_nil,or_false] at hy;rcases hy with rfl | rfl | rfl | rfl<;>dsimp only<;>omega⟩));have k1:=(HGR.out.blk 1 rfl).cell 1;have k2:=(HGR.out.blk 1 rfl).free 1;clear hp)
    go_roundw
    case rel=>
     have hgs:=HP.out.2.size
     exact ⟨k+1,_,by omega,by rw [HUD.out];simp,by rw [HUN.out];simp,by go_num,HOK2.out,by rw [HFL.out];exact OwO.far HP.out.1 (p:=⟨w.heap.size+1+1,1,none⟩) (by dsimp only;omega) _,HGR.out.drop.set (by omega) (by intro y hy;simp only [List.mem_cons,List.not_mem_nil,or_false] at hy;rcases hy with rfl | rfl<;>dsimp only<;>omega) 1 _,by have:=HSZ.out;rw [World.size_setCell];omega⟩
    case measure=>simp [intOf];omega
   ·have x2:=(HX6.out.blk 0 rfl).cell 2;have f2:=(HX6.out.blk 0 rfl).free 2
    go_upto_region 15 with fail
    clear x2 f2
    have HX7:=Lib.hid (HX6.out.set (by have:=HSZ.out;omega) (by intro y hy;simp only [List.mem_cons,List.not_mem_nil,or_false] at hy;have:=HSZ.out;rcases hy with rfl | rfl | rfl<;>dsimp only<;>omega) 2 (.int .i64 d))
    have HB7:=Lib.hid (HB6.out.setCell (p:=⟨wr.heap.size,2,none⟩) (Nat.le_refl _) (.int .i64 d))
    obtain ⟨W7,hW7⟩:∃W:World,W=w6.setCell ⟨wr.heap.size,2,none⟩ (.int .i64 d):=⟨_,rfl⟩
    rw [←hW7] at HX7 HB7 ⊢
    clear hW7 HX6 HB6
    have x0:=(HX7.out.blk 0 rfl).cell 0
    have x1:=(HX7.out.blk 0 rfl).cell 1
    have x2:=(HX7.out.blk 0 rfl).cell 2
    have c1:=(HX7.out.blk 1 rfl).cell 1
    have HO7:=Lib.hid (OwO.below HO.out HB7.out)
    have HS7:=HB7.out.size
    have hok2:okL ex.data.toList l d n (k+1)=withinF _ d:=HOL.out
    have HWI:=Lib.hid (fun W=>within_any 100 d W)
    cases hwi:withinF 100 d
    ·rw [hwi] at hok2 HWI
     have HR:=Lib.hid (HBAD.out hok2)
     clear hok2 hwi
     have r0:=(HX7.out.blk 2 rfl).cell 0
     have r1:=(HX7.out.blk 2 rfl).cell 1
     have r2:=(HX7.out.blk 2 rfl).free 0
     have r3:=(HX7.out.blk 2 rfl).free 1
     go_wp2_with (go_at_call 88;refine (HWI.out _).mono ?_;rintro e w8 ⟨rfl,hw8⟩;subst w8)
     refine bodyPost_ret (insE_end rfl rfl (((HX7.out.blk 2 rfl).set 0 _).set 1 _)) rfl ?_
     rw [HR.out]
     exact filP_none rfl ((HX7.out.below.setCell (p:=⟨w.heap.size+1,0,none⟩) (Nat.le_succ _) _).setCell (p:=⟨w.heap.size+1,1,none⟩) (Nat.le_succ _) _)
    ·rw [hwi] at hok2 HWI
     have HOK2:=Lib.hid hok2
     clear hok2 hwi
     go_upto_region 17 with (go_at_call 88;refine (HWI.out _).mono ?_;rintro e w8 ⟨rfl,hw8⟩;subst w8)
     clear x2
     have x2:=(HX7.out.blk 0 rfl).cell 2
     go_wp2_with (at_builtin;refine wpList_push rfl (.tmp 66) (.tmp 68) 25 rfl (w.heap.size+1+1+1) 90 24 elOpd _ xs ⟨xk,xr,d⟩ _ rfl rfl HO7.out rfl (by have:=HFN.out;have:=HL0.out;omega) (by have:=HFN.out;have:=HL0.out;omega) (by have:=HSZ.out;omega) ?_;intro a' c' w' hp;have HP:=Lib.hid hp;have HGR:=Lib.hid (HX7.out.grown HP.out.2 (fun j hj=>⟨by have:=(Own.lt HO7.out j hj).1;omega,by have h1:=(Own.lt HO7.out j hj).1;have h2:=(Own.lt HO.out j hj).2;intro y hy;simp only [List.mem_cons,List.not_mem_nil,or_false] at hy;rcases hy with rfl | rfl | rfl | rfl<;>dsimp only<;>omega⟩));have k1:=(HGR.out.blk 1 rfl).cell 1;have k2:=(HGR.out.blk 1 rfl).free 1;clear hp)
     go_roundw
     case rel=>
      have hgs:=HP.out.2.size
      exact ⟨k+1,_,by omega,by rw [HUD.out];simp,by rw [HUN.out];simp,by go_num,HOK2.out,by rw [HFL.out];exact OwO.far HP.out.1 (p:=⟨w.heap.size+1+1,1,none⟩) (by dsimp only;omega) _,HGR.out.drop.set (by omega) (by intro y hy;simp only [List.mem_cons,List.not_mem_nil,or_false] at hy;rcases hy with rfl | rfl<;>dsimp only<;>omega) 1 _,by have:=HSZ.out;rw [World.size_setCell];omega⟩
     case measure=>simp [intOf];omega
   ·rcases hL with rfl | rfl | rfl
    ·have x2:=(HX6.out.blk 0 rfl).cell 2;have f2:=(HX6.out.blk 0 rfl).free 2
     go_upto_region 15 with fail
     clear x2 f2
     have HX7:=Lib.hid (HX6.out.set (by have:=HSZ.out;omega) (by intro y hy;simp only [List.mem_cons,List.not_mem_nil,or_false] at hy;have:=HSZ.out;rcases hy with rfl | rfl | rfl<;>dsimp only<;>omega) 2 (.int .i64 n))
     have HB7:=Lib.hid (HB6.out.setCell (p:=⟨wr.heap.size,2,none⟩) (Nat.le_refl _) (.int .i64 n))
     obtain ⟨W7,hW7⟩:∃W:World,W=w6.setCell ⟨wr.heap.size,2,none⟩ (.int .i64 n):=⟨_,rfl⟩
     rw [←hW7] at HX7 HB7 ⊢
     clear hW7 HX6 HB6
     have x0:=(HX7.out.blk 0 rfl).cell 0
     have x1:=(HX7.out.blk 0 rfl).cell 1
     have x2:=(HX7.out.blk 0 rfl).cell 2
     have c1:=(HX7.out.blk 1 rfl).cell 1
     have HO7:=Lib.hid (OwO.below HO.out HB7.out)
     have HS7:=HB7.out.size
     have hok2:okL ex.data.toList l d n (k+1)=withinF _ n:=HOL.out
     have HWI:=Lib.hid (fun W=>within_any 101 n W)
     cases hwi:withinF 101 n
     ·rw [hwi] at hok2 HWI
      have HR:=Lib.hid (HBAD.out hok2)
      clear hok2 hwi
      have r0:=(HX7.out.blk 2 rfl).cell 0
      have r1:=(HX7.out.blk 2 rfl).cell 1
      have r2:=(HX7.out.blk 2 rfl).free 0
      have r3:=(HX7.out.blk 2 rfl).free 1
      go_wp2_with (go_at_call 88;refine (HWI.out _).mono ?_;rintro e w8 ⟨rfl,hw8⟩;subst w8)
      refine bodyPost_ret (insE_end rfl rfl (((HX7.out.blk 2 rfl).set 0 _).set 1 _)) rfl ?_
      rw [HR.out]
      exact filP_none rfl ((HX7.out.below.setCell (p:=⟨w.heap.size+1,0,none⟩) (Nat.le_succ _) _).setCell (p:=⟨w.heap.size+1,1,none⟩) (Nat.le_succ _) _)
     ·rw [hwi] at hok2 HWI
      have HOK2:=Lib.hid hok2
      clear hok2 hwi
      go_upto_region 17 with (go_at_call 88;refine (HWI.out _).mono ?_;rintro e w8 ⟨rfl,hw8⟩;subst w8)
      clear x2
      have x2:=(HX7.out.blk 0 rfl).cell 2
      go_wp2_with (at_builtin;refine wpList_push rfl (.tmp 66) (.tmp 68) 25 rfl (w.heap.size+1+1+1) 90 24 elOpd _ xs ⟨xk,xr,n⟩ _ rfl rfl HO7.out rfl (by have:=HFN.out;have:=HL0.out;omega) (by have:=HFN.out;have:=HL0.out;omega) (by have:=HSZ.out;omega) ?_;intro a' c' w' hp;have HP:=Lib.hid hp;have HGR:=Lib.hid (HX7.out.grown HP.out.2 (fun j hj=>⟨by have:=(Own.lt HO7.out j hj).1;omega,by have h1:=(Own.lt HO7.out j hj).1;have h2:=(Own.lt HO.out j hj).2;intro y hy;simp only [List.mem_cons,List.not_mem_nil,or_false] at hy;rcases hy with rfl | rfl | rfl | rfl<;>dsimp only<;>omega⟩));have k1:=(HGR.out.blk 1 rfl).cell 1;have k2:=(HGR.out.blk 1 rfl).free 1;clear hp)
      go_roundw
      case rel=>
       have hgs:=HP.out.2.size
       exact ⟨k+1,_,by omega,by rw [HUD.out];simp,by rw [HUN.out];simp,by go_num,HOK2.out,by rw [HFL.out];exact OwO.far HP.out.1 (p:=⟨w.heap.size+1+1,1,none⟩) (by dsimp only;omega) _,HGR.out.drop.set (by omega) (by intro y hy;simp only [List.mem_cons,List.not_mem_nil,or_false] at hy;rcases hy with rfl | rfl<;>dsimp only<;>omega) 1 _,by have:=HSZ.out;rw [World.size_setCell];omega⟩
      case measure=>simp [intOf];omega
    ·have x2:=(HX6.out.blk 0 rfl).cell 2;have f2:=(HX6.out.blk 0 rfl).free 2
     go_upto_region 15 with fail
     clear x2 f2
     have HX7:=Lib.hid (HX6.out.set (by have:=HSZ.out;omega) (by intro y hy;simp only [List.mem_cons,List.not_mem_nil,or_false] at hy;have:=HSZ.out;rcases hy with rfl | rfl | rfl<;>dsimp only<;>omega) 2 (.int .i64 n))
     have HB7:=Lib.hid (HB6.out.setCell (p:=⟨wr.heap.size,2,none⟩) (Nat.le_refl _) (.int .i64 n))
     obtain ⟨W7,hW7⟩:∃W:World,W=w6.setCell ⟨wr.heap.size,2,none⟩ (.int .i64 n):=⟨_,rfl⟩
     rw [←hW7] at HX7 HB7 ⊢
     clear hW7 HX6 HB6
     have x0:=(HX7.out.blk 0 rfl).cell 0
     have x1:=(HX7.out.blk 0 rfl).cell 1
     have x2:=(HX7.out.blk 0 rfl).cell 2
     have c1:=(HX7.out.blk 1 rfl).cell 1
     have HO7:=Lib.hid (OwO.below HO.out HB7.out)
     have HS7:=HB7.out.size
     have hok2:okL ex.data.toList l d n (k+1)=withinF _ n:=HOL.out
     have HWI:=Lib.hid (fun W=>within_any 110 n W)
     cases hwi:withinF 110 n
     ·rw [hwi] at hok2 HWI
      have HR:=Lib.hid (HBAD.out hok2)
      clear hok2 hwi
      have r0:=(HX7.out.blk 2 rfl).cell 0
      have r1:=(HX7.out.blk 2 rfl).cell 1
      have r2:=(HX7.out.blk 2 rfl).free 0
      have r3:=(HX7.out.blk 2 rfl).free 1
      go_wp2_with (go_at_call 88;refine (HWI.out _).mono ?_;rintro e w8 ⟨rfl,hw8⟩;subst w8)
      refine bodyPost_ret (insE_end rfl rfl (((HX7.out.blk 2 rfl).set 0 _).set 1 _)) rfl ?_
      rw [HR.out]
      exact filP_none rfl ((HX7.out.below.setCell (p:=⟨w.heap.size+1,0,none⟩) (Nat.le_succ _) _).setCell (p:=⟨w.heap.size+1,1,none⟩) (Nat.le_succ _) _)
     ·rw [hwi] at hok2 HWI
      have HOK2:=Lib.hid hok2
      clear hok2 hwi
      go_upto_region 17 with (go_at_call 88;refine (HWI.out _).mono ?_;rintro e w8 ⟨rfl,hw8⟩;subst w8)
      clear x2
      have x2:=(HX7.out.blk 0 rfl).cell 2
      go_wp2_with (at_builtin;refine wpList_push rfl (.tmp 66) (.tmp 68) 25 rfl (w.heap.size+1+1+1) 90 24 elOpd _ xs ⟨xk,xr,n⟩ _ rfl rfl HO7.out rfl (by have:=HFN.out;have:=HL0.out;omega) (by have:=HFN.out;have:=HL0.out;omega) (by have:=HSZ.out;omega) ?_;intro a' c' w' hp;have HP:=Lib.hid hp;have HGR:=Lib.hid (HX7.out.grown HP.out.2 (fun j hj=>⟨by have:=(Own.lt HO7.out j hj).1;omega,by have h1:=(Own.lt HO7.out j hj).1;have h2:=(Own.lt HO.out j hj).2;intro y hy;simp only [List.mem_cons,List.not_mem_nil,or_false] at hy;rcases hy with rfl | rfl | rfl | rfl<;>dsimp only<;>omega⟩));have k1:=(HGR.out.blk 1 rfl).cell 1;have k2:=(HGR.out.blk 1 rfl).free 1;clear hp)
      go_roundw
      case rel=>
       have hgs:=HP.out.2.size
       exact ⟨k+1,_,by omega,by rw [HUD.out];simp,by rw [HUN.out];simp,by go_num,HOK2.out,by rw [HFL.out];exact OwO.far HP.out.1 (p:=⟨w.heap.size+1+1,1,none⟩) (by dsimp only;omega) _,HGR.out.drop.set (by omega) (by intro y hy;simp only [List.mem_cons,List.not_mem_nil,or_false] at hy;rcases hy with rfl | rfl<;>dsimp only<;>omega) 1 _,by have:=HSZ.out;rw [World.size_setCell];omega⟩
      case measure=>simp [intOf];omega
    ·have x2:=(HX6.out.blk 0 rfl).cell 2;have f2:=(HX6.out.blk 0 rfl).free 2
     go_upto_region 15 with fail
     clear x2 f2
     have HX7:=Lib.hid (HX6.out.set (by have:=HSZ.out;omega) (by intro y hy;simp only [List.mem_cons,List.not_mem_nil,or_false] at hy;have:=HSZ.out;rcases hy with rfl | rfl | rfl<;>dsimp only<;>omega) 2 (.int .i64 n))
     have HB7:=Lib.hid (HB6.out.setCell (p:=⟨wr.heap.size,2,none⟩) (Nat.le_refl _) (.int .i64 n))
     obtain ⟨W7,hW7⟩:∃W:World,W=w6.setCell ⟨wr.heap.size,2,none⟩ (.int .i64 n):=⟨_,rfl⟩
     rw [←hW7] at HX7 HB7 ⊢
     clear hW7 HX6 HB6
     have x0:=(HX7.out.blk 0 rfl).cell 0
     have x1:=(HX7.out.blk 0 rfl).cell 1
     have x2:=(HX7.out.blk 0 rfl).cell 2
     have c1:=(HX7.out.blk 1 rfl).cell 1
     have HO7:=Lib.hid (OwO.below HO.out HB7.out)
     have HS7:=HB7.out.size
     have hok2:okL ex.data.toList l d n (k+1)=withinF _ n:=HOL.out
     have HWI:=Lib.hid (fun W=>within_any 119 n W)
     cases hwi:withinF 119 n
     ·rw [hwi] at hok2 HWI
      have HR:=Lib.hid (HBAD.out hok2)
      clear hok2 hwi
      have r0:=(HX7.out.blk 2 rfl).cell 0
      have r1:=(HX7.out.blk 2 rfl).cell 1
      have r2:=(HX7.out.blk 2 rfl).free 0
      have r3:=(HX7.out.blk 2 rfl).free 1
      go_wp2_with (go_at_call 88;refine (HWI.out _).mono ?_;rintro e w8 ⟨rfl,hw8⟩;subst w8)
      refine bodyPost_ret (insE_end rfl rfl (((HX7.out.blk 2 rfl).set 0 _).set 1 _)) rfl ?_
      rw [HR.out]
      exact filP_none rfl ((HX7.out.below.setCell (p:=⟨w.heap.size+1,0,none⟩) (Nat.le_succ _) _).setCell (p:=⟨w.heap.size+1,1,none⟩) (Nat.le_succ _) _)
     ·rw [hwi] at hok2 HWI
      have HOK2:=Lib.hid hok2
      clear hok2 hwi
      go_upto_region 17 with (go_at_call 88;refine (HWI.out _).mono ?_;rintro e w8 ⟨rfl,hw8⟩;subst w8)
      clear x2
      have x2:=(HX7.out.blk 0 rfl).cell 2
      go_wp2_with (at_builtin;refine wpList_push rfl (.tmp 66) (.tmp 68) 25 rfl (w.heap.size+1+1+1) 90 24 elOpd _ xs ⟨xk,xr,n⟩ _ rfl rfl HO7.out rfl (by have:=HFN.out;have:=HL0.out;omega) (by have:=HFN.out;have:=HL0.out;omega) (by have:=HSZ.out;omega) ?_;intro a' c' w' hp;have HP:=Lib.hid hp;have HGR:=Lib.hid (HX7.out.grown HP.out.2 (fun j hj=>⟨by have:=(Own.lt HO7.out j hj).1;omega,by have h1:=(Own.lt HO7.out j hj).1;have h2:=(Own.lt HO.out j hj).2;intro y hy;simp only [List.mem_cons,List.not_mem_nil,or_false] at hy;rcases hy with rfl | rfl | rfl | rfl<;>dsimp only<;>omega⟩));have k1:=(HGR.out.blk 1 rfl).cell 1;have k2:=(HGR.out.blk 1 rfl).free 1;clear hp)
      go_roundw
      case rel=>
       have hgs:=HP.out.2.size
       exact ⟨k+1,_,by omega,by rw [HUD.out];simp,by rw [HUN.out];simp,by go_num,HOK2.out,by rw [HFL.out];exact OwO.far HP.out.1 (p:=⟨w.heap.size+1+1,1,none⟩) (by dsimp only;omega) _,HGR.out.drop.set (by omega) (by intro y hy;simp only [List.mem_cons,List.not_mem_nil,or_false] at hy;rcases hy with rfl | rfl<;>dsimp only<;>omega) 1 _,by have:=HSZ.out;rw [World.size_setCell];omega⟩
      case measure=>simp [intOf];omega
  ·obtain rfl:k=l.length:=by omega
   have HN1:=Lib.hid (HND.out HT.out)
   have HN2:=Lib.hid (HNN.out HT.out)
   have HN3:=Lib.hid (HYE.out HT.out)
   clear HND HNN HYE HNO HT e0 e1 e2 e4 e5 HS HSX
   generalize usD ex.data.toList l d l.length=ud at *
   generalize usN ex.data.toList l n l.length=un at *
   generalize filL ex.data.toList l d n l.length=xs at *
   have r0:=(HX.out.blk 1 rfl).cell 0
   have r1:=(HX.out.blk 1 rfl).cell 1
   have r2:=(HX.out.blk 1 rfl).free 0
   have r3:=(HX.out.blk 1 rfl).free 1
   have c0:=(HX.out.blk 0 rfl).cell 0
   have c1:=(HX.out.blk 0 rfl).cell 1
   cases ud
   ·have HR:=Lib.hid (HN1.out rfl)
    go_wp2
    refine bodyPost_ret (insE_end rfl rfl (((HX.out.blk 1 rfl).set 0 _).set 1 _)) rfl ?_
    rw [HR.out]
    exact filP_none rfl ((HX.out.below.setCell (p:=⟨w.heap.size+1,0,none⟩) (Nat.le_succ _) _).setCell (p:=⟨w.heap.size+1,1,none⟩) (Nat.le_succ _) _)
   cases un
   ·have HR:=Lib.hid (HN2.out rfl rfl)
    go_wp2
    refine bodyPost_ret (insE_end rfl rfl (((HX.out.blk 1 rfl).set 0 _).set 1 _)) rfl ?_
    rw [HR.out]
    exact filP_none rfl ((HX.out.below.setCell (p:=⟨w.heap.size+1,0,none⟩) (Nat.le_succ _) _).setCell (p:=⟨w.heap.size+1,1,none⟩) (Nat.le_succ _) _)
   ·have HR:=Lib.hid (HN3.out rfl rfl)
    go_wp2
    refine bodyPost_ret (insE_end rfl rfl (((HX.out.blk 1 rfl).set 0 _).set 1 _)) rfl ?_
    rw [HR.out]
    refine filP_some rfl ?_ ((HX.out.below.setCell (p:=⟨w.heap.size+1,0,none⟩) (Nat.le_succ _) _).setCell (p:=⟨w.heap.size+1,1,none⟩) (Nat.le_succ _) _)
    exact Own.base (OwO.far (OwO.far HO.out (p:=⟨w.heap.size+1,0,none⟩) (by dsimp only;omega) _) (p:=⟨w.heap.size+1,1,none⟩) (by dsimp only;omega) _) (by omega)
end Go.Proofs.YtjmekllgnhkodaaGreatDoor
