/-
  The reference's search: letters, Fill. Conditions: sizes.
-/
import Derived.Test.YtnbmbcjnncbaiaaGreatDoorPG
import Derived.Deep.QuietTactic
import Derived.Test.YtnbmbcjnncbaiaaGreatDoorPD
import Derived.Test.YtnbmbcjnncbaiaaGreatDoorPK
namespace Go.Proofs.YtnbmbcjnncbaiaaGreatDoor
set_option maxHeartbeats 8000000
set_option maxRecDepth 100000
open Go.RowKit Go.Shelf Go.Sort
def hasF (l:List UInt8) (c:Int):Bool:=l.any fun b=>(b.toNat:Int)==c
theorem has_any (s:ByteArray) (c:Int) (w:World) (hl:s.size≤9223372036854775807):Calls Tryz.prog 124 #[.string s,.int .u8 c] w fun e w'=>e=.returned (.bool (hasF s.data.toList c))∧w'=w:=by
 go_enter Tryz.func124,Tryz.ntmps124
 go_wp2
 go_loop [5] (fun i=>∃k:Nat,k≤s.size∧i=.int .i64 k∧hasF (s.data.toList.take k) c=false) (fun i=>s.size - (intOf i).toNat)
 case atStart=>exact ⟨0,Nat.zero_le _,rfl,rfl⟩
 case round=>
  obtain ⟨k,hk,rfl,ht⟩:=hrel
  have HT:=Lib.hid ht
  clear ht
  by_cases hlt:k < s.size
  ·have hts:s.data.toList.take (k+1)=s.data.toList.take k++[s[k]]:=by rw [List.take_succ_eq_append_getElem (by simpa using hlt)];rfl
   have hst:hasF (s.data.toList.take (k+1)) c=(hasF (s.data.toList.take k) c || ((s[k].toNat:Int)==c)):=by unfold hasF;rw [hts,List.any_append];simp
   have HST:=Lib.hid hst
   have hin:((s[k].toNat:Int)==c)=true→hasF s.data.toList c=true:=fun h=>List.any_eq_true.2 ⟨s[k],by simp [ByteArray.getElem_eq_getElem_data],h⟩
   have HIN:=Lib.hid hin
   clear hts hst hin
   cases hc:((s[k].toNat:Int)==c)
   ·go_wp2
    go_round
    case rel=>exact ⟨k+1,by omega,by go_num,by rw [HST.out,HT.out,hc];rfl⟩
    case measure=>simp [intOf];omega
   ·go_wp2
    go_ret
    exact ⟨ret_bool (HIN.out hc).symm,rfl⟩
  ·have hk2:k=s.size:=by omega
   have hno:hasF s.data.toList c=false:=by have:=HT.out;rwa [List.take_of_length_le (by simp;omega)] at this
   have HNO:=Lib.hid hno
   clear hk2 hno
   go_wp2
   go_ret
   exact ⟨ret_bool HNO.out.symm,rfl⟩
def withinF (c n:Int):Bool:=
 if c=100∨c=101 then decide (-128≤n)&&decide (n≤127) else if c=110 then decide (0≤n)&&decide (n≤255) else decide (0≤n)&&decide (n≤65535)
theorem within_any (c n:Int) (w:World):Calls Tryz.prog 90 #[.int .u8 c,.int .i64 n] w fun e w'=>e=.returned (.bool (withinF c n))∧w'=w:=by
 by_cases h1:c=100∨c=101
 ·have HW:Hid (withinF c n=(decide (-128≤n)&&decide (n≤127))):=if_pos h1
  generalize withinF c n=W at *
  rcases h1 with rfl | rfl
  all_goals
   cases h2:decide (-128≤n)
   all_goals
    go_enter Tryz.func90,Tryz.ntmps90
    go_wp2
    go_ret
    exact ⟨ret_bool (by rw [HW.out,h2];simp),rfl⟩
 have hw:withinF c n=(if c=110 then decide (0≤n)&&decide (n≤255) else decide (0≤n)&&decide (n≤65535)):=if_neg h1
 have b0:(c==100)=false:=by rw [beq_eq_false_iff_ne];omega
 have b1:(c==101)=false:=by rw [beq_eq_false_iff_ne];omega
 by_cases h3:c=110
 ·rw [if_pos h3] at hw
  have HW:=Lib.hid hw
  generalize withinF c n=W at *
  subst h3
  clear hw h1 b0 b1
  cases h2:decide (0≤n)
  all_goals
   go_enter Tryz.func90,Tryz.ntmps90
   go_wp2
   go_ret
   exact ⟨ret_bool (by rw [HW.out,h2];simp),rfl⟩
 ·rw [if_neg h3] at hw
  have HW:=Lib.hid hw
  generalize withinF c n=W at *
  have b2:(c==110)=false:=by rw [beq_eq_false_iff_ne];omega
  clear hw h1 h3
  cases h2:decide (0≤n)
  all_goals
   go_enter Tryz.func90,Tryz.ntmps90
   go_wp2
   go_ret
   exact ⟨ret_bool (by rw [HW.out,h2];simp),rfl⟩
end Go.Proofs.YtnbmbcjnncbaiaaGreatDoor
namespace Go.Proofs.YtnbmbcjnncbaiaaGreatDoor
set_option maxHeartbeats 8000000
set_option maxRecDepth 100000
open Go.RowKit Go.Shelf Go.Sort
def isN (o:Opd):Bool:=(o.kind==6) || (o.kind==7)
def letO (o:Opd) (rest:List Opd) (ex:List UInt8):Int:=
 if (o.kind==5&&hasF ex 100)=true then 100 else if (o.kind==10&&hasF ex 101)=true then 101 else if isN o=false then 0
 else if rest.any isN=true then 0 else if hasF ex 110=true then 110 else if hasF ex 119=true then 119 else 0
def letF (l:List Opd) (ex:List UInt8) (k:Nat):Int:=match l[k]? with | some o=>letO o (l.drop (k+1)) ex | none=>0
theorem ret_u8 {a b:Int} (h:a=b):Ending.returned (.int .u8 a)=.returned (.int .u8 b):=by rw [h]
theorem Letter_any (pg op:Int) (s ex:ByteArray) (al:Bool) (l:List Opd) (p:Blocks) (v:Value) (k:Nat) (hk:k < l.length) (w:World) (h:SlR opdR w p v l) (hex:ex.size≤9223372036854775807):
  Calls Tryz.prog 89 #[.agg #[.int .i64 pg,.int .u8 op,.string s,v,.string ex,.bool al],.int .i64 k] w fun e w'=>e=.returned (.int .u8 (letF l ex.data.toList k))∧Below w.heap.size w w':=by
 obtain ⟨va,vc,rfl⟩:∃a c,v=.slice a l.length c:=by obtain ⟨a,c,e,_⟩:=h;exact ⟨a,c,e⟩
 have hll:=h.len_le
 have hlt:letF l ex.data.toList k=letO l[k] (l.drop (k+1)) ex.data.toList:=by unfold letF;rw [List.getElem?_eq_getElem hk]
 rw [hlt]
 have HS:=Lib.hid (h.alloc (.cells #[.int .i64 pg,.int .u8 op,.string s,.slice va l.length vc,.string ex,.bool al] 85))
 have HA1:=Lib.hid ((Fr.start w).new 85 #[.int .i64 pg,.int .u8 op,.string s,.slice va l.length vc,.string ex,.bool al])
 have hAl:=(HA1.out.blk 0 rfl).lt
 obtain ⟨a1,c1,e1,_,_,g1⟩:=HS.out.opd
 injection e1 with e1 e2 e3
 clear e2
 subst e1 e3
 obtain ⟨b,o,rfl,_,d0,d1,d2⟩:=g1 k l[k] (List.getElem?_eq_getElem hk)
 have HG:=Lib.hid g1
 have HHS:=Lib.hid (fun c W=>has_any ex c W hex)
 clear g1 hlt h
 generalize l[k]=x at *
 obtain ⟨xk,xr,xn⟩:=x
 dsimp only at *
 have HLE:Hid (letO ⟨xk,xr,xn⟩ (l.drop (k+1)) ex.data.toList=(if (xk==5&&hasF ex.data.toList 100)=true then 100 else if (xk==10&&hasF ex.data.toList 101)=true then 101 else if isN ⟨xk,xr,xn⟩=false then 0
  else if (l.drop (k+1)).any isN=true then 0 else if hasF ex.data.toList 110=true then 110 else if hasF ex.data.toList 119=true then 119 else 0)):=rfl
 generalize letO ⟨xk,xr,xn⟩ (l.drop (k+1)) ex.data.toList=R at *
 have HF:=Lib.hid (HA1.out.new 93 #[.int .i64 xk,.int .i64 xr,.int .i64 xn])
 have hsz:(w.alloc (.cells #[.int .i64 pg,.int .u8 op,.string s,.slice (some ⟨b,o,none⟩) l.length vc,.string ex,.bool al] 85)).heap.size=w.heap.size+1:=World.size_alloc _ _
 have HSZ:=Lib.hid hsz
 clear hsz
 cases h5:(xk==5)
 rotate_left
 ·obtain rfl:xk=5:=by simpa using h5
  cases hd:hasF ex.data.toList 100
  all_goals
   rw [hd] at HLE
   have HH:=Lib.hid (HHS.out 100)
   rw [hd] at HH
   go_enter Tryz.func89,Tryz.ntmps89
   go_wp2_with (go_at_call 124;refine (HH.out _).mono ?_;rintro e w' ⟨rfl,rfl⟩)
   go_ret
   exact ⟨ret_u8 (by rw [HLE.out];simp [isN]),HF.out.below⟩
 cases h10:(xk==10)
 rotate_left
 ·obtain rfl:xk=10:=by simpa using h10
  cases hd:hasF ex.data.toList 101
  all_goals
   rw [hd] at HLE
   have HH:=Lib.hid (HHS.out 101)
   rw [hd] at HH
   go_enter Tryz.func89,Tryz.ntmps89
   go_wp2_with (go_at_call 124;refine (HH.out _).mono ?_;rintro e w' ⟨rfl,rfl⟩)
   go_ret
   exact ⟨ret_u8 (by rw [HLE.out];simp [isN]),HF.out.below⟩
 rw [h5,h10,Bool.false_and,Bool.false_and,if_neg Bool.false_ne_true,if_neg Bool.false_ne_true] at HLE
 cases hN:isN ⟨xk,xr,xn⟩
 ·rw [hN,if_pos rfl] at HLE
  have n6:(xk != 6)=true:=by
   rw [bne_iff_ne];intro e;subst e;simp [isN] at hN
  have n7:(xk != 7)=true:=by
   rw [bne_iff_ne];intro e;subst e;simp [isN] at hN
  clear hN
  go_enter Tryz.func89,Tryz.ntmps89
  go_wp2
  go_ret
  exact ⟨ret_u8 HLE.out.symm,HF.out.below⟩
 rw [hN,if_neg (by decide)] at HLE
 have h67:xk=6∨xk=7:=by simpa [isN] using hN
 clear hN h5 h10
 have HS2:=Lib.hid (HS.out.alloc (.cells #[.int .i64 xk,.int .i64 xr,.int .i64 xn] 93))
 obtain ⟨W2,hW2⟩:∃W:World,W=((w.alloc (.cells #[.int .i64 pg,.int .u8 op,.string s,.slice (some ⟨b,o,none⟩) l.length vc,.string ex,.bool al] 85)).alloc (.cells #[.int .i64 xk,.int .i64 xr,.int .i64 xn] 93)):=⟨_,rfl⟩
 rw [←hW2] at HF HS2
 rcases h67 with rfl | rfl
 all_goals
  go_enter Tryz.func89,Tryz.ntmps89
  go_upto_region 9 with fail
  rw [←hW2]
  clear d0 d1 d2 hW2
  have q3:=(HF.out.blk 1 rfl).cell 3
  have q4:=(HF.out.blk 1 rfl).cell 4
  go_loop [6] (fun i=>∃m:Nat,m≤l.length∧i=.int .i64 m∧(l.drop (k+1)).any isN=(l.drop m).any isN) (fun i=>l.length - (intOf i).toNat)
  case atStart=>exact ⟨k+1,hk,by simp,rfl⟩
  case round=>
   obtain ⟨m,hm,rfl,ht⟩:=hrel
   have HT:=Lib.hid ht
   clear ht
   by_cases hlt:m < l.length
   ·obtain ⟨a1,c1,e1,_,_,g1⟩:=HS2.out.opd
    injection e1 with e1 e2 e3
    clear e2
    subst e1 e3
    obtain ⟨b3,o3,e5,_,d0,d1,d2⟩:=g1 m l[m] (List.getElem?_eq_getElem hlt)
    injection e5 with e5
    injection e5 with e5 e6
    subst e5 e6
    have HD:=Lib.hid (List.drop_eq_getElem_cons hlt)
    have hin:isN l[m]=true→(l.drop (k+1)).any isN=true:=fun h=>by rw [HT.out,HD.out,List.any_cons,h];rfl
    have hno:isN l[m]=false→(l.drop (k+1)).any isN=(l.drop (m+1)).any isN:=fun h=>by rw [HT.out,HD.out,List.any_cons,h];rfl
    have HIN:=Lib.hid hin
    have HNO:=Lib.hid hno
    clear g1 hin hno
    generalize l[m]=y at *
    obtain ⟨yk,yr,yn⟩:=y
    dsimp only at d0
    cases h6:(yk==6)
    ·cases h7:(yk==7)
     ·have HN:=Lib.hid (HNO.out (by unfold isN;rw [h6,h7];rfl))
      clear HNO HIN
      go_wp2
      go_round
      case rel=>exact ⟨m+1,by omega,by go_num,HN.out⟩
      case measure=>simp [intOf];omega
     ·have HN:=Lib.hid (HIN.out (by unfold isN;rw [h6,h7];rfl))
      clear HNO HIN
      go_wp2
      go_ret
      exact ⟨ret_u8 (by rw [HLE.out,HN.out];rfl),HF.out.below⟩
    ·have HN:=Lib.hid (HIN.out (by unfold isN;rw [h6];rfl))
     clear HNO HIN
     go_wp2
     go_ret
     exact ⟨ret_u8 (by rw [HLE.out,HN.out];rfl),HF.out.below⟩
   ·have hml:m=l.length:=by omega
    have hN:(l.drop (k+1)).any isN=false:=by rw [HT.out,hml,List.drop_length];rfl
    rw [hN,if_neg Bool.false_ne_true] at HLE
    clear hml hN HT
    cases hn:hasF ex.data.toList 110
    ·rw [hn,if_neg Bool.false_ne_true] at HLE
     have HH:=Lib.hid (HHS.out 110)
     rw [hn] at HH
     have HH2:=Lib.hid (HHS.out 119)
     cases hw:hasF ex.data.toList 119
     all_goals
      rw [hw] at HLE HH2
      go_wp2_with (go_at_call 124;first | (with_reducible refine (HH.out _).mono ?_;rintro e w' ⟨rfl,rfl⟩) | (with_reducible refine (HH2.out _).mono ?_;rintro e w' ⟨rfl,rfl⟩))
      go_ret
      exact ⟨ret_u8 (by rw [HLE.out];rfl),HF.out.below⟩
    ·rw [hn,if_pos rfl] at HLE
     have HH:=Lib.hid (HHS.out 110)
     rw [hn] at HH
     go_wp2_with (go_at_call 124;refine (HH.out _).mono ?_;rintro e w' ⟨rfl,rfl⟩)
     go_ret
     exact ⟨ret_u8 HLE.out.symm,HF.out.below⟩
end Go.Proofs.YtnbmbcjnncbaiaaGreatDoor
namespace Go.Proofs.YtnbmbcjnncbaiaaGreatDoor
set_option maxHeartbeats 8000000
set_option maxRecDepth 100000
open Go.RowKit Go.Shelf Go.Sort
def kr (o:Opd):Int × Int:=(o.kind,o.reg)
end Go.Proofs.YtnbmbcjnncbaiaaGreatDoor
namespace Go.Proofs.YtnbmbcjnncbaiaaGreatDoor
set_option maxHeartbeats 8000000
set_option maxRecDepth 100000
open Go.RowKit Go.Shelf Go.Sort
def nAt (l:List Opd) (k:Nat):Int:=match l[k]? with | some o=>o.n | none=>0
end Go.Proofs.YtnbmbcjnncbaiaaGreatDoor
namespace Go.Proofs.YtnbmbcjnncbaiaaGreatDoor
set_option maxHeartbeats 8000000
set_option maxRecDepth 100000
open Go.RowKit Go.Shelf Go.Sort
end Go.Proofs.YtnbmbcjnncbaiaaGreatDoor
namespace Go.Proofs.YtnbmbcjnncbaiaaGreatDoor
set_option maxHeartbeats 8000000
set_option maxRecDepth 100000
open Go.RowKit Go.Shelf Go.Sort
def oAt (l:List Opd) (k:Nat):Opd:=match l[k]? with | some o=>o | none=>⟨0,0,0⟩
def filN (L d n x:Int):Int:=if L=100 then d else if L=101∨L=110∨L=119 then n else x
def filO (L d n:Int) (o:Opd):Opd:=⟨o.kind,o.reg,filN L d n o.n⟩
def filL (ex:List UInt8) (l:List Opd) (d n:Int):Nat→List Opd
 | 0=>[]
 | k+1=>filL ex l d n k++[filO (letF l ex k) d n (oAt l k)]
def okL (ex:List UInt8) (l:List Opd) (d n:Int):Nat→Bool
 | 0=>true
 | k+1=>okL ex l d n k&&((letF l ex k==0) || withinF (letF l ex k) (filO (letF l ex k) d n (oAt l k)).n)
def usD (ex:List UInt8) (l:List Opd) (d:Int):Nat→Bool
 | 0=>d==0
 | k+1=>usD ex l d k || (letF l ex k==100)
def usN (ex:List UInt8) (l:List Opd) (n:Int):Nat→Bool
 | 0=>n==0
 | k+1=>usN ex l n k || ((letF l ex k==101) || (letF l ex k==110) || (letF l ex k==119))
def fillF (ex:List UInt8) (l:List Opd) (d n:Int):Option (List Opd):=
 if okL ex l d n l.length=true then (if usD ex l d l.length=true then (if usN ex l n l.length=true then some (filL ex l d n l.length) else none) else none) else none
theorem filL_len (ex:List UInt8) (l:List Opd) (d n:Int):∀k,(filL ex l d n k).length=k
 | 0=>rfl
 | k+1=>by rw [filL,List.length_append,filL_len ex l d n k];rfl
theorem okL_mono {ex:List UInt8} {l:List Opd} {d n:Int} {k:Nat} (h:okL ex l d n k=false):∀m,okL ex l d n (k+m)=false
 | 0=>h
 | m+1=>by rw [←Nat.add_assoc,okL,okL_mono h m,Bool.false_and]
theorem letO_cases (o:Opd) (r:List Opd) (ex:List UInt8):letO o r ex=0∨letO o r ex=100∨letO o r ex=101∨letO o r ex=110∨letO o r ex=119:=by
 unfold letO
 repeat' split
 all_goals simp
theorem letF_cases (l:List Opd) (ex:List UInt8) (k:Nat):letF l ex k=0∨letF l ex k=100∨letF l ex k=101∨letF l ex k=110∨letF l ex k=119:=by
 unfold letF
 split
 ·exact letO_cases _ _ _
 ·exact Or.inl rfl
def FilP (w:World) (s:ByteArray) (r:Option (List Opd)) (e:Ending) (w':World):Prop:=
 (match r with | some c=>∃v',e=.returned (.tuple #[.agg #[.string s,v'],.bool true])∧OwO w' w.heap.size v' c | none=>e=.returned (.tuple #[.agg #[.string ⟨#[]⟩,.slice none 0 0],.bool false]))∧RowKit.Below w.heap.size w w'
theorem filP_none {w:World} {s:ByteArray} {e:Ending} {w':World} (h:e=.returned (.tuple #[.agg #[.string ⟨#[]⟩,.slice none 0 0],.bool false])) (hb:RowKit.Below w.heap.size w w'):FilP w s none e w':=⟨h,hb⟩
theorem filP_some {w:World} {s:ByteArray} {c:List Opd} {e:Ending} {w':World} {v':Value} (h:e=.returned (.tuple #[.agg #[.string s,v'],.bool true])) (ho:OwO w' w.heap.size v' c) (hb:RowKit.Below w.heap.size w w'):FilP w s (some c) e w':=⟨⟨v',h,ho⟩,hb⟩
theorem Fill10_any (pg op d n:Int) (s ex:ByteArray) (al:Bool) (l:List Opd) (p:Blocks) (v:Value) (w:World) (h:SlR opdR w p v l) (hl:l.length≤1000000) (hex:ex.size≤9223372036854775807):
  Calls Tryz.prog 59 #[.agg #[.int .i64 pg,.int .u8 op,.string s,v,.string ex,.bool al],.int .i64 d,.int .i64 n] w (FilP w s (fillF ex.data.toList l d n)):=by
 obtain ⟨va,vc,rfl⟩:∃a c,v=.slice a l.length c:=by obtain ⟨a,c,e,_⟩:=h;exact ⟨a,c,e⟩
 have HL0:=Lib.hid hl
 have HF:=Lib.hid ((((Fr.start w).new 85 #[.int .i64 pg,.int .u8 op,.string s,.slice va l.length vc,.string ex,.bool al]).new' 27 #[.string ⟨#[]⟩,.slice none 0 0] (World.size_alloc _ _)).new' 27 #[.string s,.slice none 0 0] (show _=w.heap.size+1+1 from by rw [World.size_alloc,World.size_alloc]))
 have HS:=Lib.hid h
 have HNO:=Lib.hid (show okL ex.data.toList l d n l.length=false→fillF ex.data.toList l d n=none from fun h=>if_neg (by rw [h];decide))
 have HND:=Lib.hid (show okL ex.data.toList l d n l.length=true→usD ex.data.toList l d l.length=false→fillF ex.data.toList l d n=none from fun h h2=>by unfold fillF;rw [if_pos h,if_neg (by rw [h2];decide)])
 have HNN:=Lib.hid (show okL ex.data.toList l d n l.length=true→usD ex.data.toList l d l.length=true→usN ex.data.toList l n l.length=false→fillF ex.data.toList l d n=none from fun h h2 h3=>by unfold fillF;rw [if_pos h,if_pos h2,if_neg (by rw [h3];decide)])
 have HYE:=Lib.hid (show okL ex.data.toList l d n l.length=true→usD ex.data.toList l d l.length=true→usN ex.data.toList l n l.length=true→fillF ex.data.toList l d n=some (filL ex.data.toList l d n l.length) from fun h h2 h3=>by unfold fillF;rw [if_pos h,if_pos h2,if_pos h3])
 clear h hl
 generalize fillF ex.data.toList l d n=R at *
 go_enter Tryz.func59,Tryz.ntmps59
 go_upto_region 2 with fail
 obtain ⟨W3,hW3⟩:∃W:World,W=(((w.alloc (.cells #[.int .i64 pg,.int .u8 op,.string s,.slice va l.length vc,.string ex,.bool al] 85)).alloc (.cells #[.string ⟨#[]⟩,.slice none 0 0] 27)).alloc (.cells #[.string s,.slice none 0 0] 27)):=⟨_,rfl⟩
 have hs3:W3.heap.size=w.heap.size+1+1+1:=by rw [hW3,World.size_alloc,World.size_alloc,World.size_alloc]
 rw [←hW3] at HF ⊢
 clear hW3
 go_wp2
 go_loopw [9,10,11] (fun ud un i wx=>∃(k:Nat) (lv:Value),k≤l.length∧ud=.bool (usD ex.data.toList l d k)∧un=.bool (usN ex.data.toList l n k)∧i=.int .i64 k∧okL ex.data.toList l d n k=true∧OwO wx (w.heap.size+1+1+1) lv (filL ex.data.toList l d n k)∧
  Fr w [(w.heap.size+1+1,27,#[.string s,lv]),(w.heap.size+1,27,#[.string ⟨#[]⟩,.slice none 0 0]),(w.heap.size,85,#[.int .i64 pg,.int .u8 op,.string s,.slice va l.length vc,.string ex,.bool al])] wx∧w.heap.size+1+1+1≤wx.heap.size) (fun _ _ i _=>l.length - (intOf i).toNat)
 case atStart=>exact ⟨0,_,Nat.zero_le _,rfl,rfl,rfl,rfl,Own.nil _ _ _ _ _,HF.out,by omega⟩
 case round=>
  obtain ⟨k,lv,hk,rfl,rfl,rfl,hok,ho,hfr,hsz⟩:=hrel
  have HT:=Lib.hid hok
  have HO:=Lib.hid ho
  have HX:=Lib.hid hfr
  have HSX:=Lib.hid (HS.out.below hfr.below)
  have HSZ:=Lib.hid hsz
  obtain ⟨la,lc,rfl⟩:=ho.form
  clear hok ho hfr hsz hs3
  have e0:=(HX.out.blk 2 rfl).cell 0
  have e1:=(HX.out.blk 2 rfl).cell 1
  have e2:=(HX.out.blk 2 rfl).cell 2
  have e3:=(HX.out.blk 2 rfl).cell 3
  have e4:=(HX.out.blk 2 rfl).cell 4
  have e5:=(HX.out.blk 2 rfl).cell 5
  by_cases hlt:k < l.length
  ·have HLt:=Lib.hid (fun W h=>Letter_any pg op s ex al l _ _ k hlt W (HSX.out.below h) hex)
   have HLC:=Lib.hid (letF_cases l ex.data.toList k)
   have HFL:=Lib.hid (show filL ex.data.toList l d n (k+1)=filL ex.data.toList l d n k++[filO (letF l ex.data.toList k) d n l[k]] from by rw [filL];unfold oAt;rw [List.getElem?_eq_getElem hlt])
   have HOL:=Lib.hid (show okL ex.data.toList l d n (k+1)=((letF l ex.data.toList k==0) || withinF (letF l ex.data.toList k) (filO (letF l ex.data.toList k) d n l[k]).n) from by rw [okL,HT.out,Bool.true_and];unfold oAt;rw [List.getElem?_eq_getElem hlt])
   have HUD:=Lib.hid (show usD ex.data.toList l d (k+1)=(usD ex.data.toList l d k || (letF l ex.data.toList k==100)) from rfl)
   have HUN:=Lib.hid (show usN ex.data.toList l n (k+1)=(usN ex.data.toList l n k || ((letF l ex.data.toList k==101) || (letF l ex.data.toList k==110) || (letF l ex.data.toList k==119))) from rfl)
   have HBAD:=Lib.hid (fun h=>HNO.out (by have:=okL_mono (ex:=ex.data.toList) (l:=l) (d:=d) (n:=n) (k:=k+1) h (l.length - (k+1));rwa [Nat.add_sub_cancel' hlt] at this))
   have HFN:=Lib.hid (filL_len ex.data.toList l d n k)
   obtain ⟨a1,c1,e6,_,_,g1⟩:=HSX.out.opd
   injection e6 with e6 e8 e9
   clear e8
   subst e6 e9
   obtain ⟨b1,o1,rfl,_,x0,x1,x2⟩:=g1 k l[k] (List.getElem?_eq_getElem hlt)
   clear g1 HNO HND HNN HYE
   generalize l[k]=x at *
   generalize letF l ex.data.toList k=L at *
   generalize filL ex.data.toList l d n k=xs at *
   generalize usD ex.data.toList l d k=ud at *
   generalize usN ex.data.toList l n k=un at *
   obtain ⟨xk,xr,xn⟩:=x
   dsimp only at *
   go_upto_region 8 with fail
   have HX5:=Lib.hid (HX.out.new 93 #[.int .i64 xk,.int .i64 xr,.int .i64 xn])
   have HB5:Hid (RowKit.Below wr.heap.size wr (wr.alloc (.cells #[.int .i64 xk,.int .i64 xr,.int .i64 xn] 93))):=Lib.hid ((Below.refl _ _).alloc (Nat.le_refl _) _)
   have HLt:=Lib.hid (HLt.out _ HB5.out)
   obtain ⟨W5,hW5⟩:∃W:World,W=(wr.alloc (.cells #[.int .i64 xk,.int .i64 xr,.int .i64 xn] 93)):=⟨_,rfl⟩
   rw [←hW5] at HX5 HB5 HLt ⊢
   clear hW5 e0 e1 e2 e3 e4 e5 x0 x1 x2 HSX HX
   have e0:=(HX5.out.blk 3 rfl).cell 0
   have e1:=(HX5.out.blk 3 rfl).cell 1
   have e2:=(HX5.out.blk 3 rfl).cell 2
   have e3:=(HX5.out.blk 3 rfl).cell 3
   have e4:=(HX5.out.blk 3 rfl).cell 4
   have e5:=(HX5.out.blk 3 rfl).cell 5
   go_upto_region 9 with (go_at_call 89;refine HLt.out.mono ?_;rintro e w6 ⟨rfl,hb⟩;have HX6:=Lib.hid (HX5.out.next hb);have HB6:=Lib.hid (RowKit.Below.trans HB5.out (hb.mono HB5.out.size));clear hb e0 e1 e2 e3 e4 e5)
   clear HLt HX5 HB5
   rcases HLC.out with rfl | rfl | hL
   ·go_upto_region 15 with fail
    have HX7:=HX6
    have HB7:=HB6
    obtain ⟨W7,hW7⟩:∃W:World,W=w6:=⟨_,rfl⟩
    rw [←hW7] at HX7 HB7 ⊢
    clear hW7 HX6 HB6
    have x0:=(HX7.out.blk 0 rfl).cell 0
    have x1:=(HX7.out.blk 0 rfl).cell 1
    have x2:=(HX7.out.blk 0 rfl).cell 2
    have c1:=(HX7.out.blk 1 rfl).cell 1
    have HO7:=Lib.hid (OwO.below HO.out HB7.out)
    have HS7:=HB7.out.size
    have hok2:okL ex.data.toList l d n (k+1)=true:=HOL.out
    have HOK2:=Lib.hid hok2
    clear hok2
    go_upto_region 17 with fail
    clear x2
    have x2:=(HX7.out.blk 0 rfl).cell 2
    go_wp2_with (at_builtin;refine wpList_push rfl (.tmp 66) (.tmp 68) 25 rfl (w.heap.size+1+1+1) 93 24 elOpd _ xs ⟨xk,xr,xn⟩ _ rfl rfl HO7.out rfl (by have:=HFN.out;have:=HL0.out;omega) (by have:=HFN.out;have:=HL0.out;omega) (by have:=HSZ.out;omega) ?_;intro a' c' w' hp;have HP:=Lib.hid hp;have HGR:=Lib.hid (HX7.out.grown HP.out.2 (fun j hj=>⟨by have:=(Own.lt HO7.out j hj).1;omega,by have h1:=(Own.lt HO7.out j hj).1;have h2:=(Own.lt HO.out j hj).2;intro y hy;simp only [List.mem_cons,List.not_mem_nil,or_false] at hy;rcases hy with rfl | rfl | rfl | rfl<;>dsimp only<;>omega⟩));have k1:=(HGR.out.blk 1 rfl).cell 1;have k2:=(HGR.out.blk 1 rfl).free 1;clear hp)
    go_roundw
    case rel=>
     have hgs:=HP.out.2.size
     exact ⟨k+1,_,by omega,by rw [HUD.out];simp,by rw [HUN.out];simp,by go_num,HOK2.out,by rw [HFL.out];exact OwO.far HP.out.1 (p:=⟨w.heap.size+1+1,1,none⟩) (by dsimp only;omega) _,HGR.out.drop.set (by omega) (by intro y hy;simp only [List.mem_cons,List.not_mem_nil,or_false] at hy;rcases hy with rfl | rfl<;>dsimp only<;>omega) 1 _,by have:=HSZ.out;rw [World.size_setCell];omega⟩
    case measure=>simp [intOf];omega
   ·have x2:=(HX6.out.blk 0 rfl).cell 2;have f2:=(HX6.out.blk 0 rfl).free 2
    go_upto_region 15 with fail
    clear x2 f2
    have HX7:=Lib.hid (HX6.out.set (by have:=HSZ.out;omega) (by intro y hy;simp only [List.mem_cons,List.not_mem_nil,or_false] at hy;have:=HSZ.out;rcases hy with rfl | rfl | rfl<;>dsimp only<;>omega) 2 (.int .i64 d))
    have HB7:=Lib.hid (HB6.out.setCell (p:=⟨wr.heap.size,2,none⟩) (Nat.le_refl _) (.int .i64 d))
    obtain ⟨W7,hW7⟩:∃W:World,W=w6.setCell ⟨wr.heap.size,2,none⟩ (.int .i64 d):=⟨_,rfl⟩
    rw [←hW7] at HX7 HB7 ⊢
    clear hW7 HX6 HB6
    have x0:=(HX7.out.blk 0 rfl).cell 0
    have x1:=(HX7.out.blk 0 rfl).cell 1
    have x2:=(HX7.out.blk 0 rfl).cell 2
    have c1:=(HX7.out.blk 1 rfl).cell 1
    have HO7:=Lib.hid (OwO.below HO.out HB7.out)
    have HS7:=HB7.out.size
    have hok2:okL ex.data.toList l d n (k+1)=withinF _ d:=HOL.out
    have HWI:=Lib.hid (fun W=>within_any 100 d W)
    cases hwi:withinF 100 d
    ·rw [hwi] at hok2 HWI
     have HR:=Lib.hid (HBAD.out hok2)
     clear hok2 hwi
     have r0:=(HX7.out.blk 2 rfl).cell 0
     have r1:=(HX7.out.blk 2 rfl).cell 1
     have r2:=(HX7.out.blk 2 rfl).free 0
     have r3:=(HX7.out.blk 2 rfl).free 1
     go_wp2_with (go_at_call 90;refine (HWI.out _).mono ?_;rintro e w8 ⟨rfl,hw8⟩;subst w8)
     refine bodyPost_ret (insE_end rfl rfl (((HX7.out.blk 2 rfl).set 0 _).set 1 _)) rfl ?_
     rw [HR.out]
     exact filP_none rfl ((HX7.out.below.setCell (p:=⟨w.heap.size+1,0,none⟩) (Nat.le_succ _) _).setCell (p:=⟨w.heap.size+1,1,none⟩) (Nat.le_succ _) _)
    ·rw [hwi] at hok2 HWI
     have HOK2:=Lib.hid hok2
     clear hok2 hwi
     go_upto_region 17 with (go_at_call 90;refine (HWI.out _).mono ?_;rintro e w8 ⟨rfl,hw8⟩;subst w8)
     clear x2
     have x2:=(HX7.out.blk 0 rfl).cell 2
     go_wp2_with (at_builtin;refine wpList_push rfl (.tmp 66) (.tmp 68) 25 rfl (w.heap.size+1+1+1) 93 24 elOpd _ xs ⟨xk,xr,d⟩ _ rfl rfl HO7.out rfl (by have:=HFN.out;have:=HL0.out;omega) (by have:=HFN.out;have:=HL0.out;omega) (by have:=HSZ.out;omega) ?_;intro a' c' w' hp;have HP:=Lib.hid hp;have HGR:=Lib.hid (HX7.out.grown HP.out.2 (fun j hj=>⟨by have:=(Own.lt HO7.out j hj).1;omega,by have h1:=(Own.lt HO7.out j hj).1;have h2:=(Own.lt HO.out j hj).2;intro y hy;simp only [List.mem_cons,List.not_mem_nil,or_false] at hy;rcases hy with rfl | rfl | rfl | rfl<;>dsimp only<;>omega⟩));have k1:=(HGR.out.blk 1 rfl).cell 1;have k2:=(HGR.out.blk 1 rfl).free 1;clear hp)
     go_roundw
     case rel=>
      have hgs:=HP.out.2.size
      exact ⟨k+1,_,by omega,by rw [HUD.out];simp,by rw [HUN.out];simp,by go_num,HOK2.out,by rw [HFL.out];exact OwO.far HP.out.1 (p:=⟨w.heap.size+1+1,1,none⟩) (by dsimp only;omega) _,HGR.out.drop.set (by omega) (by intro y hy;simp only [List.mem_cons,List.not_mem_nil,or_false] at hy;rcases hy with rfl | rfl<;>dsimp only<;>omega) 1 _,by have:=HSZ.out;rw [World.size_setCell];omega⟩
     case measure=>simp [intOf];omega
   ·rcases hL with rfl | rfl | rfl
    ·have x2:=(HX6.out.blk 0 rfl).cell 2;have f2:=(HX6.out.blk 0 rfl).free 2
     go_upto_region 15 with fail
     clear x2 f2
     have HX7:=Lib.hid (HX6.out.set (by have:=HSZ.out;omega) (by intro y hy;simp only [List.mem_cons,List.not_mem_nil,or_false] at hy;have:=HSZ.out;rcases hy with rfl | rfl | rfl<;>dsimp only<;>omega) 2 (.int .i64 n))
     have HB7:=Lib.hid (HB6.out.setCell (p:=⟨wr.heap.size,2,none⟩) (Nat.le_refl _) (.int .i64 n))
     obtain ⟨W7,hW7⟩:∃W:World,W=w6.setCell ⟨wr.heap.size,2,none⟩ (.int .i64 n):=⟨_,rfl⟩
     rw [←hW7] at HX7 HB7 ⊢
     clear hW7 HX6 HB6
     have x0:=(HX7.out.blk 0 rfl).cell 0
     have x1:=(HX7.out.blk 0 rfl).cell 1
     have x2:=(HX7.out.blk 0 rfl).cell 2
     have c1:=(HX7.out.blk 1 rfl).cell 1
     have HO7:=Lib.hid (OwO.below HO.out HB7.out)
     have HS7:=HB7.out.size
     have hok2:okL ex.data.toList l d n (k+1)=withinF _ n:=HOL.out
     have HWI:=Lib.hid (fun W=>within_any 101 n W)
     cases hwi:withinF 101 n
     ·rw [hwi] at hok2 HWI
      have HR:=Lib.hid (HBAD.out hok2)
      clear hok2 hwi
      have r0:=(HX7.out.blk 2 rfl).cell 0
      have r1:=(HX7.out.blk 2 rfl).cell 1
      have r2:=(HX7.out.blk 2 rfl).free 0
      have r3:=(HX7.out.blk 2 rfl).free 1
      go_wp2_with (go_at_call 90;refine (HWI.out _).mono ?_;rintro e w8 ⟨rfl,hw8⟩;subst w8)
      refine bodyPost_ret (insE_end rfl rfl (((HX7.out.blk 2 rfl).set 0 _).set 1 _)) rfl ?_
      rw [HR.out]
      exact filP_none rfl ((HX7.out.below.setCell (p:=⟨w.heap.size+1,0,none⟩) (Nat.le_succ _) _).setCell (p:=⟨w.heap.size+1,1,none⟩) (Nat.le_succ _) _)
     ·rw [hwi] at hok2 HWI
      have HOK2:=Lib.hid hok2
      clear hok2 hwi
      go_upto_region 17 with (go_at_call 90;refine (HWI.out _).mono ?_;rintro e w8 ⟨rfl,hw8⟩;subst w8)
      clear x2
      have x2:=(HX7.out.blk 0 rfl).cell 2
      go_wp2_with (at_builtin;refine wpList_push rfl (.tmp 66) (.tmp 68) 25 rfl (w.heap.size+1+1+1) 93 24 elOpd _ xs ⟨xk,xr,n⟩ _ rfl rfl HO7.out rfl (by have:=HFN.out;have:=HL0.out;omega) (by have:=HFN.out;have:=HL0.out;omega) (by have:=HSZ.out;omega) ?_;intro a' c' w' hp;have HP:=Lib.hid hp;have HGR:=Lib.hid (HX7.out.grown HP.out.2 (fun j hj=>⟨by have:=(Own.lt HO7.out j hj).1;omega,by have h1:=(Own.lt HO7.out j hj).1;have h2:=(Own.lt HO.out j hj).2;intro y hy;simp only [List.mem_cons,List.not_mem_nil,or_false] at hy;rcases hy with rfl | rfl | rfl | rfl<;>dsimp only<;>omega⟩));have k1:=(HGR.out.blk 1 rfl).cell 1;have k2:=(HGR.out.blk 1 rfl).free 1;clear hp)
      go_roundw
      case rel=>
       have hgs:=HP.out.2.size
       exact ⟨k+1,_,by omega,by rw [HUD.out];simp,by rw [HUN.out];simp,by go_num,HOK2.out,by rw [HFL.out];exact OwO.far HP.out.1 (p:=⟨w.heap.size+1+1,1,none⟩) (by dsimp only;omega) _,HGR.out.drop.set (by omega) (by intro y hy;simp only [List.mem_cons,List.not_mem_nil,or_false] at hy;rcases hy with rfl | rfl<;>dsimp only<;>omega) 1 _,by have:=HSZ.out;rw [World.size_setCell];omega⟩
      case measure=>simp [intOf];omega
    ·have x2:=(HX6.out.blk 0 rfl).cell 2;have f2:=(HX6.out.blk 0 rfl).free 2
     go_upto_region 15 with fail
     clear x2 f2
     have HX7:=Lib.hid (HX6.out.set (by have:=HSZ.out;omega) (by intro y hy;simp only [List.mem_cons,List.not_mem_nil,or_false] at hy;have:=HSZ.out;rcases hy with rfl | rfl | rfl<;>dsimp only<;>omega) 2 (.int .i64 n))
     have HB7:=Lib.hid (HB6.out.setCell (p:=⟨wr.heap.size,2,none⟩) (Nat.le_refl _) (.int .i64 n))
     obtain ⟨W7,hW7⟩:∃W:World,W=w6.setCell ⟨wr.heap.size,2,none⟩ (.int .i64 n):=⟨_,rfl⟩
     rw [←hW7] at HX7 HB7 ⊢
     clear hW7 HX6 HB6
     have x0:=(HX7.out.blk 0 rfl).cell 0
     have x1:=(HX7.out.blk 0 rfl).cell 1
     have x2:=(HX7.out.blk 0 rfl).cell 2
     have c1:=(HX7.out.blk 1 rfl).cell 1
     have HO7:=Lib.hid (OwO.below HO.out HB7.out)
     have HS7:=HB7.out.size
     have hok2:okL ex.data.toList l d n (k+1)=withinF _ n:=HOL.out
     have HWI:=Lib.hid (fun W=>within_any 110 n W)
     cases hwi:withinF 110 n
     ·rw [hwi] at hok2 HWI
      have HR:=Lib.hid (HBAD.out hok2)
      clear hok2 hwi
      have r0:=(HX7.out.blk 2 rfl).cell 0
      have r1:=(HX7.out.blk 2 rfl).cell 1
      have r2:=(HX7.out.blk 2 rfl).free 0
      have r3:=(HX7.out.blk 2 rfl).free 1
      go_wp2_with (go_at_call 90;refine (HWI.out _).mono ?_;rintro e w8 ⟨rfl,hw8⟩;subst w8)
      refine bodyPost_ret (insE_end rfl rfl (((HX7.out.blk 2 rfl).set 0 _).set 1 _)) rfl ?_
      rw [HR.out]
      exact filP_none rfl ((HX7.out.below.setCell (p:=⟨w.heap.size+1,0,none⟩) (Nat.le_succ _) _).setCell (p:=⟨w.heap.size+1,1,none⟩) (Nat.le_succ _) _)
     ·rw [hwi] at hok2 HWI
      have HOK2:=Lib.hid hok2
      clear hok2 hwi
      go_upto_region 17 with (go_at_call 90;refine (HWI.out _).mono ?_;rintro e w8 ⟨rfl,hw8⟩;subst w8)
      clear x2
      have x2:=(HX7.out.blk 0 rfl).cell 2
      go_wp2_with (at_builtin;refine wpList_push rfl (.tmp 66) (.tmp 68) 25 rfl (w.heap.size+1+1+1) 93 24 elOpd _ xs ⟨xk,xr,n⟩ _ rfl rfl HO7.out rfl (by have:=HFN.out;have:=HL0.out;omega) (by have:=HFN.out;have:=HL0.out;omega) (by have:=HSZ.out;omega) ?_;intro a' c' w' hp;have HP:=Lib.hid hp;have HGR:=Lib.hid (HX7.out.grown HP.out.2 (fun j hj=>⟨by have:=(Own.lt HO7.out j hj).1;omega,by have h1:=(Own.lt HO7.out j hj).1;have h2:=(Own.lt HO.out j hj).2;intro y hy;simp only [List.mem_cons,List.not_mem_nil,or_false] at hy;rcases hy with rfl | rfl | rfl | rfl<;>dsimp only<;>omega⟩));have k1:=(HGR.out.blk 1 rfl).cell 1;have k2:=(HGR.out.blk 1 rfl).free 1;clear hp)
      go_roundw
      case rel=>
       have hgs:=HP.out.2.size
       exact ⟨k+1,_,by omega,by rw [HUD.out];simp,by rw [HUN.out];simp,by go_num,HOK2.out,by rw [HFL.out];exact OwO.far HP.out.1 (p:=⟨w.heap.size+1+1,1,none⟩) (by dsimp only;omega) _,HGR.out.drop.set (by omega) (by intro y hy;simp only [List.mem_cons,List.not_mem_nil,or_false] at hy;rcases hy with rfl | rfl<;>dsimp only<;>omega) 1 _,by have:=HSZ.out;rw [World.size_setCell];omega⟩
      case measure=>simp [intOf];omega
    ·have x2:=(HX6.out.blk 0 rfl).cell 2;have f2:=(HX6.out.blk 0 rfl).free 2
     go_upto_region 15 with fail
     clear x2 f2
     have HX7:=Lib.hid (HX6.out.set (by have:=HSZ.out;omega) (by intro y hy;simp only [List.mem_cons,List.not_mem_nil,or_false] at hy;have:=HSZ.out;rcases hy with rfl | rfl | rfl<;>dsimp only<;>omega) 2 (.int .i64 n))
     have HB7:=Lib.hid (HB6.out.setCell (p:=⟨wr.heap.size,2,none⟩) (Nat.le_refl _) (.int .i64 n))
     obtain ⟨W7,hW7⟩:∃W:World,W=w6.setCell ⟨wr.heap.size,2,none⟩ (.int .i64 n):=⟨_,rfl⟩
     rw [←hW7] at HX7 HB7 ⊢
     clear hW7 HX6 HB6
     have x0:=(HX7.out.blk 0 rfl).cell 0
     have x1:=(HX7.out.blk 0 rfl).cell 1
     have x2:=(HX7.out.blk 0 rfl).cell 2
     have c1:=(HX7.out.blk 1 rfl).cell 1
     have HO7:=Lib.hid (OwO.below HO.out HB7.out)
     have HS7:=HB7.out.size
     have hok2:okL ex.data.toList l d n (k+1)=withinF _ n:=HOL.out
     have HWI:=Lib.hid (fun W=>within_any 119 n W)
     cases hwi:withinF 119 n
     ·rw [hwi] at hok2 HWI
      have HR:=Lib.hid (HBAD.out hok2)
      clear hok2 hwi
      have r0:=(HX7.out.blk 2 rfl).cell 0
      have r1:=(HX7.out.blk 2 rfl).cell 1
      have r2:=(HX7.out.blk 2 rfl).free 0
      have r3:=(HX7.out.blk 2 rfl).free 1
      go_wp2_with (go_at_call 90;refine (HWI.out _).mono ?_;rintro e w8 ⟨rfl,hw8⟩;subst w8)
      refine bodyPost_ret (insE_end rfl rfl (((HX7.out.blk 2 rfl).set 0 _).set 1 _)) rfl ?_
      rw [HR.out]
      exact filP_none rfl ((HX7.out.below.setCell (p:=⟨w.heap.size+1,0,none⟩) (Nat.le_succ _) _).setCell (p:=⟨w.heap.size+1,1,none⟩) (Nat.le_succ _) _)
     ·rw [hwi] at hok2 HWI
      have HOK2:=Lib.hid hok2
      clear hok2 hwi
      go_upto_region 17 with (go_at_call 90;refine (HWI.out _).mono ?_;rintro e w8 ⟨rfl,hw8⟩;subst w8)
      clear x2
      have x2:=(HX7.out.blk 0 rfl).cell 2
      go_wp2_with (at_builtin;refine wpList_push rfl (.tmp 66) (.tmp 68) 25 rfl (w.heap.size+1+1+1) 93 24 elOpd _ xs ⟨xk,xr,n⟩ _ rfl rfl HO7.out rfl (by have:=HFN.out;have:=HL0.out;omega) (by have:=HFN.out;have:=HL0.out;omega) (by have:=HSZ.out;omega) ?_;intro a' c' w' hp;have HP:=Lib.hid hp;have HGR:=Lib.hid (HX7.out.grown HP.out.2 (fun j hj=>⟨by have:=(Own.lt HO7.out j hj).1;omega,by have h1:=(Own.lt HO7.out j hj).1;have h2:=(Own.lt HO.out j hj).2;intro y hy;simp only [List.mem_cons,List.not_mem_nil,or_false] at hy;rcases hy with rfl | rfl | rfl | rfl<;>dsimp only<;>omega⟩));have k1:=(HGR.out.blk 1 rfl).cell 1;have k2:=(HGR.out.blk 1 rfl).free 1;clear hp)
      go_roundw
      case rel=>
       have hgs:=HP.out.2.size
       exact ⟨k+1,_,by omega,by rw [HUD.out];simp,by rw [HUN.out];simp,by go_num,HOK2.out,by rw [HFL.out];exact OwO.far HP.out.1 (p:=⟨w.heap.size+1+1,1,none⟩) (by dsimp only;omega) _,HGR.out.drop.set (by omega) (by intro y hy;simp only [List.mem_cons,List.not_mem_nil,or_false] at hy;rcases hy with rfl | rfl<;>dsimp only<;>omega) 1 _,by have:=HSZ.out;rw [World.size_setCell];omega⟩
      case measure=>simp [intOf];omega
  ·obtain rfl:k=l.length:=by omega
   have HN1:=Lib.hid (HND.out HT.out)
   have HN2:=Lib.hid (HNN.out HT.out)
   have HN3:=Lib.hid (HYE.out HT.out)
   clear HND HNN HYE HNO HT e0 e1 e2 e4 e5 HS HSX
   generalize usD ex.data.toList l d l.length=ud at *
   generalize usN ex.data.toList l n l.length=un at *
   generalize filL ex.data.toList l d n l.length=xs at *
   have r0:=(HX.out.blk 1 rfl).cell 0
   have r1:=(HX.out.blk 1 rfl).cell 1
   have r2:=(HX.out.blk 1 rfl).free 0
   have r3:=(HX.out.blk 1 rfl).free 1
   have c0:=(HX.out.blk 0 rfl).cell 0
   have c1:=(HX.out.blk 0 rfl).cell 1
   cases ud
   ·have HR:=Lib.hid (HN1.out rfl)
    go_wp2
    refine bodyPost_ret (insE_end rfl rfl (((HX.out.blk 1 rfl).set 0 _).set 1 _)) rfl ?_
    rw [HR.out]
    exact filP_none rfl ((HX.out.below.setCell (p:=⟨w.heap.size+1,0,none⟩) (Nat.le_succ _) _).setCell (p:=⟨w.heap.size+1,1,none⟩) (Nat.le_succ _) _)
   cases un
   ·have HR:=Lib.hid (HN2.out rfl rfl)
    go_wp2
    refine bodyPost_ret (insE_end rfl rfl (((HX.out.blk 1 rfl).set 0 _).set 1 _)) rfl ?_
    rw [HR.out]
    exact filP_none rfl ((HX.out.below.setCell (p:=⟨w.heap.size+1,0,none⟩) (Nat.le_succ _) _).setCell (p:=⟨w.heap.size+1,1,none⟩) (Nat.le_succ _) _)
   ·have HR:=Lib.hid (HN3.out rfl rfl)
    go_wp2
    refine bodyPost_ret (insE_end rfl rfl (((HX.out.blk 1 rfl).set 0 _).set 1 _)) rfl ?_
    rw [HR.out]
    refine filP_some rfl ?_ ((HX.out.below.setCell (p:=⟨w.heap.size+1,0,none⟩) (Nat.le_succ _) _).setCell (p:=⟨w.heap.size+1,1,none⟩) (Nat.le_succ _) _)
    exact Own.base (OwO.far (OwO.far HO.out (p:=⟨w.heap.size+1,0,none⟩) (by dsimp only;omega) _) (p:=⟨w.heap.size+1,1,none⟩) (by dsimp only;omega) _) (by omega)
end Go.Proofs.YtnbmbcjnncbaiaaGreatDoor
