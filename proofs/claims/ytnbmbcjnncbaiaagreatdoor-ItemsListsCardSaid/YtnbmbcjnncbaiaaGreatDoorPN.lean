/-
  The program's search: Fill. Conditions: sizes.
-/
import Derived.Test.YtnbmbcjnncbaiaaGreatDoorPG
import Derived.Test.YtnbmbcjnncbaiaaGreatDoorPM
import Derived.Test.YtnbmbcjnncbaiaaGreatDoorShelf
import Derived.Deep.RegionHeld3
import Derived.Test.YtnbmbcjnncbaiaaGreatDoorPB
namespace Go.Proofs.YtnbmbcjnncbaiaaGreatDoor
set_option maxHeartbeats 8000000
set_option maxRecDepth 100000
open Go.RowKit Go.Shelf Go.Sort
def kAt (l:List Opd) (k:Nat):Int:=match l[k]? with | some o=>o.kind | none=>0
def lastK (ks:List Int) (l:List Opd):Nat→Int
 | 0=>-1
 | n+1=>if ks.contains (kAt l n)=true then n else lastK ks l n
theorem lastK_yes {ks:List Int} {l:List Opd} {n:Nat} (hn:n < l.length) (h:ks.contains l[n].kind=true):lastK ks l (n+1)=n:=by
 unfold lastK kAt
 rw [List.getElem?_eq_getElem hn]
 exact if_pos h
theorem lastK_no {ks:List Int} {l:List Opd} {n:Nat} (hn:n < l.length) (h:ks.contains l[n].kind=false):lastK ks l (n+1)=lastK ks l n:=by
 rw [lastK]
 unfold kAt
 rw [List.getElem?_eq_getElem hn]
 exact if_neg (by simp only [h];decide)
theorem lastS_any (t:ByteArray) (l:List Opd) (ks:List Int) (kv:Value) (p:Blocks) (v:Value) (w:World) (h:SlR opdR w p v l)
  (hks:∀W,RowKit.Below w.heap.size w W→∀x,Calls Tryz.prog 188 #[kv,.int .i64 x] W fun e w'=>e=.returned (.bool (ks.contains x))∧w'=W):
  Calls Tryz.prog 169 #[.agg #[.string t,v],kv] w fun e w'=>e=.returned (.int .i64 (lastK ks l l.length))∧Below w.heap.size w w':=by
 obtain ⟨va,vc,rfl⟩:∃a c,v=.slice a l.length c:=by obtain ⟨a,c,e,_⟩:=h;exact ⟨a,c,e⟩
 have hl1:=h.len_le
 have HF:=Lib.hid ((Fr.start w).new 27 #[.string t,.slice va l.length vc])
 have HS1:=Lib.hid (h.alloc (.cells #[.string t,.slice va l.length vc] 27))
 have HK:=Lib.hid (hks _ HF.out.below)
 clear h hks
 obtain ⟨R,hR⟩:∃R,lastK ks l l.length=R:=⟨_,rfl⟩
 rw [hR]
 obtain ⟨W0,hW0⟩:∃W0:World,W0=(w.alloc (.cells #[.string t,.slice va l.length vc] 27)):=⟨_,rfl⟩
 rw [←hW0] at HF HS1 HK
 go_enter Tryz.func169,Tryz.ntmps169
 go_upto_region 1 with fail
 rw [←hW0]
 clear hW0
 have q1:=(HF.out.blk 0 rfl).cell 1
 go_wp2
 have HR:=Lib.hid hR
 clear hR
 go_loop [5] (fun i=>∃k:Nat,k≤l.length∧i=.int .i64 ((k:Int) - 1)∧lastK ks l k=R) (fun i=>(intOf i+1).toNat)
 case atStart=>exact ⟨l.length,Nat.le_refl _,by go_num,HR.out⟩
 case round=>
  obtain ⟨k,hk,hi,ht⟩:=hrel
  rcases k with _ | k
  ·have ht2:-1=R:=ht
   have HT:=Lib.hid ht2
   have hi2:((0:Nat):Int) - 1=-1:=rfl
   rw [hi2] at hi
   subst hi
   clear ht ht2 hi2
   go_wp2
   go_ret
   exact ⟨ret_int HT.out,HF.out.below⟩
  ·have hi2:((k+1:Nat):Int) - 1=k:=by omega
   rw [hi2] at hi
   subst hi
   have hlt:k < l.length:=hk
   obtain ⟨a1,c1,e1,_,_,g1⟩:=HS1.out.opd
   injection e1 with e1 e3 e4
   clear e3
   subst e1 e4
   obtain ⟨b1,o1,rfl,_,c0,_,_⟩:=g1 k l[k] (List.getElem?_eq_getElem hlt)
   have HY:=Lib.hid (fun h=>(lastK_yes (ks:=ks) hlt h).symm.trans ht)
   have HN:=Lib.hid (fun h=>(lastK_no (ks:=ks) hlt h).symm.trans ht)
   clear g1 ht hi2
   generalize l[k]=x at *
   obtain ⟨xk,xr,xn⟩:=x
   dsimp only at *
   have HC:=Lib.hid (HK.out xk)
   cases hc:ks.contains xk
   ·rw [hc] at HC
    have HT:=Lib.hid (HN.out hc)
    clear hc HY HN
    go_wp2_with (go_at_call 188;refine HC.out.mono ?_;rintro e w2 ⟨rfl,hw2⟩;subst w2)
    go_round
    case rel=>exact ⟨k,by omega,by go_num,HT.out⟩
    case measure=>simp [intOf]
   ·rw [hc] at HC
    have HT:=Lib.hid (HY.out hc)
    clear hc HY HN
    go_wp2_with (go_at_call 188;refine HC.out.mono ?_;rintro e w2 ⟨rfl,hw2⟩;subst w2)
    go_ret
    exact ⟨ret_int HT.out,HF.out.below⟩
theorem inS_any (lo hi n:Int) (a b:Nat) (w:World) (h1:w.cell? ⟨a,0,none⟩=some (.int .i64 lo)) (h2:w.cell? ⟨b,0,none⟩=some (.int .i64 hi)):
  Calls Tryz.prog 189 #[.int .i64 n,.pointer (some ⟨a,0,none⟩),.pointer (some ⟨b,0,none⟩)] w fun e w'=>e=.returned (.bool (fitsB lo hi n))∧Below w.heap.size w w':=by
 have HB:=Lib.hid (((Fr.start w).new 56 #[.int .i64 n]).blk 0 rfl)
 have HQ:=Lib.hid ((Fr.start w).alloc (.cells #[.int .i64 n] 3))
 go_enter Tryz.func189,Tryz.ntmps189
 go_wp2_with (go_at_call 183;refine (fits_any lo hi n _ _ (Blk.cell (Blk.new _ _ _) 0)).mono ?_;rintro e w2 ⟨rfl,hw2⟩;subst w2)
 go_ret
 exact ⟨rfl,HQ.out.below⟩
end Go.Proofs.YtnbmbcjnncbaiaaGreatDoor
namespace Go.Proofs.YtnbmbcjnncbaiaaGreatDoor
set_option maxHeartbeats 8000000
set_option maxRecDepth 100000
open Go.RowKit Go.Shelf Go.Sort
theorem indexByte_mem (c:UInt8):∀l:List UInt8,0≤Lib.indexByte l c↔c∈l
 | []=>by simp [Lib.indexByte]
 | b::l=>by
  have ih:=indexByte_mem c l
  unfold Lib.indexByte
  by_cases hb:b=c
  ·subst hb;simp
  ·rw [if_neg (by simpa using hb)]
   by_cases hm:Lib.indexByte l c=-1
   ·rw [if_pos (by simpa using hm)]
    have:c ∉ l:=fun h=>by have:=ih.2 h;omega
    simp [this]
    exact fun e=>hb e.symm
   ·rw [if_neg (by simpa using hm)]
    have hge:0≤Lib.indexByte l c↔0≤Lib.indexByte l c+1:=by
     rcases (Int.lt_or_le (Lib.indexByte l c) 0) with h | h
     ·exfalso
      have:-1≤Lib.indexByte l c:=by rw [←Lib.index_one];exact Lib.index_ge _ _
      omega
     ·constructor<;>intro _<;>omega
    rw [←hge,ih]
    constructor
    ·exact fun h=>List.mem_cons_of_mem _ h
    ·intro h
     rcases List.mem_cons.1 h with h | h
     ·exact absurd h.symm hb
     ·exact h
theorem containsC_any (s:ByteArray) (c:UInt8) (w:World):Calls Tryz.prog 171 #[.string s,.string ⟨#[c]⟩] w fun e w'=>e=.returned (.bool (hasF s.data.toList c.toNat))∧w'=w:=
 (Tryz.strings_Contains_one s c w).mono fun e w' ⟨h1,h2⟩=>⟨by
  rw [h1]
  refine ret_bool ?_
  rw [Bool.eq_iff_iff,decide_eq_true_iff,indexByte_mem]
  unfold hasF
  rw [List.any_eq_true]
  constructor
  ·exact fun h=>⟨c,h,by simp⟩
  ·rintro ⟨x,hx,he⟩
   have h2:x.toNat=c.toNat:=by have:=eq_of_beq he;omega
   rwa [←UInt8.toNat_inj.1 h2],h2⟩
def funV (a b:Nat):Value:=.func (.func 189) #[] #[.pointer (some ⟨a,0,none⟩),.pointer (some ⟨b,0,none⟩)]
def VarP (w:World) (idx lo hi:Int) (there:Bool) (e:Ending) (w':World):Prop:=
 ∃f,e=.returned (.tuple #[.agg #[.int .i64 idx,f],.bool there])∧(there=true→∃a b,f=funV a b∧w.heap.size≤a∧w.heap.size≤b∧a < w'.heap.size∧b < w'.heap.size∧w'.cell? ⟨a,0,none⟩=some (.int .i64 lo)∧w'.cell? ⟨b,0,none⟩=some (.int .i64 hi))∧RowKit.Below w.heap.size w w'∧f.oneCell'=true
theorem ints_any (b:Nat) (zs:List Int) (n:Nat) (hn:n=zs.length) (hz:zs.length≤1000) (w:World) (h:Blk w b 3 (zs.map (Value.int .i64)).toArray) (W:World) (hb:RowKit.Below w.heap.size w W) (x:Int):
  Calls Tryz.prog 188 #[.slice (some ⟨b,0,none⟩) n n,.int .i64 x] W fun e w'=>e=.returned (.bool (zs.contains x))∧w'=W:=by
 subst hn
 have:=Tryz.slices_Contains_int b 0 zs.length zs.length zs x W (Nat.le_refl _) (by omega) (fun j hj=>by
  rw [((h.below hb h.lt).cell (0+j))]
  simp [List.getD_eq_getElem?_getD,List.getElem?_eq_getElem hj])
 rwa [List.take_length] at this
theorem in_any (lo hi:Int) (w:World):Calls Tryz.prog 170 #[.int .i64 lo,.int .i64 hi] w fun e w'=>∃a b,e=.returned (.func (.func 189) #[] #[.pointer (some ⟨a,0,none⟩),.pointer (some ⟨b,0,none⟩)])∧w.heap.size≤a∧w.heap.size≤b∧a < w'.heap.size∧b < w'.heap.size∧Fr w [(b,3,#[.int .i64 hi]),(a,3,#[.int .i64 lo])] w':=by
 have HF:=Lib.hid (((Fr.start w).new 3 #[.int .i64 lo]).new' 3 #[.int .i64 hi] (World.size_alloc _ _))
 go_enter Tryz.func170,Tryz.ntmps170
 go_wp2
 go_ret
 exact ⟨_,_,rfl,Nat.le_refl _,Nat.le_succ _,(HF.out.blk 1 rfl).lt,(HF.out.blk 0 rfl).lt,HF.out⟩
theorem displaced_any (pg op:Int) (s ex:ByteArray) (al:Bool) (l:List Opd) (p:Blocks) (v:Value) (w:World) (h:SlR opdR w p v l):
  Calls Tryz.prog 138 #[.agg #[.int .i64 pg,.int .u8 op,.string s,v,.string ex,.bool al]] w (VarP w (lastK [5] l l.length) (-128) 127 (hasF ex.data.toList 100&&decide (0≤lastK [5] l l.length))):=by
 obtain ⟨va,vc,rfl⟩:∃a c,v=.slice a l.length c:=by obtain ⟨a,c,e,_⟩:=h;exact ⟨a,c,e⟩
 have HF:=Lib.hid ((((Fr.start w).new 77 #[.int .i64 pg,.int .u8 op,.string s,.slice va l.length vc,.string ex,.bool al]).new' 183 #[.int .i64 0,.nilFunc] (World.size_alloc _ _)).new' 3 #[.int .i64 5] (show _=w.heap.size+1+1 from by rw [World.size_alloc,World.size_alloc]))
 have HLA:=Lib.hid (lastS_any s l [5] (.slice (some ⟨w.heap.size+1+1,0,none⟩) 1 1) _ _ _ (h.below HF.out.below) (fun W hb x=>ints_any (w.heap.size+1+1) [5] 1 rfl (by decide) _ (HF.out.blk 0 rfl) W hb x))
 have HCN:=Lib.hid (fun W=>containsC_any ex 100 W)
 clear h
 generalize lastK [5] l l.length=idx at *
 obtain ⟨T,hT⟩:∃T,(hasF ex.data.toList 100&&decide (0≤idx))=T:=⟨_,rfl⟩
 rw [hT]
 have HT:=Lib.hid hT
 clear hT
 go_enter Tryz.func138,Tryz.ntmps138
 go_upto_region 1 with fail
 go_upto_region 2 with (go_at_call 169;refine HLA.out.mono ?_;rintro e w1 ⟨rfl,hb1⟩;have HF1:=Lib.hid (HF.out.next hb1);clear hb1)
 have HB1:=Lib.hid (fun w' (hb:RowKit.Below w1.heap.size w1 w')=>HF1.out.next hb)
 have HS1:=Lib.hid (HF1.out.blk 0 rfl).lt
 refine (in_any _ _ _).mono ?_
 rintro e w2 ⟨a,b,rfl,ha1,hb1,ha2,hb2,hfr⟩
 have HF2:=Lib.hid (HF1.out.next hfr.below)
 have HV:=Lib.hid (hfr.new 183 #[.int .i64 idx,(.func (.func 189) #[] #[.pointer (some ⟨a,0,none⟩),.pointer (some ⟨b,0,none⟩)])])
 have HF3:=Lib.hid (HF2.out.new 183 #[.int .i64 idx,(.func (.func 189) #[] #[.pointer (some ⟨a,0,none⟩),.pointer (some ⟨b,0,none⟩)])])
 have HA:=Lib.hid (And.intro (Nat.lt_of_lt_of_le HS1.out ha1) (And.intro (Nat.lt_of_lt_of_le HS1.out hb1) (And.intro ha2 hb2)))
 clear hfr ha1 hb1 ha2 hb2 HF1 HB1 HS1 HLA HF
 go_upto_region 2 with fail
 have HGE:=Lib.hid HF2.out.size
 obtain ⟨g,hg⟩:∃g,w2.heap.size=g:=⟨_,rfl⟩
 rw [hg] at HF3 HV ⊢
 rw [hg] at HA HGE
 obtain ⟨W3,hW3⟩:∃W:World,W=w2.alloc (.cells #[.int .i64 idx,(.func (.func 189) #[] #[.pointer (some ⟨a,0,none⟩),.pointer (some ⟨b,0,none⟩)])] 183):=⟨_,rfl⟩
 rw [←hW3] at HF3 HV ⊢
 clear hW3 hg HF2
 have g0:=(HF3.out.blk 0 rfl).cell 0
 have g1:=(HF3.out.blk 0 rfl).cell 1
 have e4:=(HF3.out.blk 3 rfl).cell 4
 have r0:=(HF3.out.blk 2 rfl).cell 0
 have r1:=(HF3.out.blk 2 rfl).cell 1
 have r2:=(HF3.out.blk 2 rfl).free 0
 have r3:=(HF3.out.blk 2 rfl).free 1
 have n1:¬g=w.heap.size+1:=by have:=HA.out;omega
 have n2:¬w.heap.size+1=g:=fun e=>n1 e.symm
 cases hd:hasF ex.data.toList 100
 ·rw [show hasF ex.data.toList (100:UInt8).toNat=false from hd] at HCN
  first | (go_region_with (go_at_call 171;refine (HCN.out _).mono ?_;rintro e w4 ⟨rfl,hw4⟩;subst w4)) | fail
  all_goals
   go_wp2
   refine bodyPost_ret (results_row_tmp rfl _ _ (w.heap.size+1) 183 #[.int .i64 idx,(.func (.func 189) #[] #[.pointer (some ⟨a,0,none⟩),.pointer (some ⟨b,0,none⟩)])] (0,0) _ rfl (((HF3.out.blk 2 rfl).set 0 _).set 1 _) Tryz.underlying183 rfl (by kernel_rfl)) rfl ?_
   have ka:=((HV.out.blk 2 rfl).far (p:=⟨w.heap.size+1,0,none⟩) (by have:=HA.out;dsimp only;omega) (.int .i64 idx)).far (p:=⟨w.heap.size+1,1,none⟩) (by have:=HA.out;dsimp only;omega) (.func (.func 189) #[] #[.pointer (some ⟨a,0,none⟩),.pointer (some ⟨b,0,none⟩)])
   have kb:=((HV.out.blk 1 rfl).far (p:=⟨w.heap.size+1,0,none⟩) (by have:=HA.out;dsimp only;omega) (.int .i64 idx)).far (p:=⟨w.heap.size+1,1,none⟩) (by have:=HA.out;dsimp only;omega) (.func (.func 189) #[] #[.pointer (some ⟨a,0,none⟩),.pointer (some ⟨b,0,none⟩)])
   have kz:=(HF3.out.below.setCell (p:=⟨w.heap.size+1,0,none⟩) (Nat.le_succ _) (.int .i64 idx)).setCell (p:=⟨w.heap.size+1,1,none⟩) (Nat.le_succ _) (.func (.func 189) #[] #[.pointer (some ⟨a,0,none⟩),.pointer (some ⟨b,0,none⟩)])
   refine ⟨(.func (.func 189) #[] #[.pointer (some ⟨a,0,none⟩),.pointer (some ⟨b,0,none⟩)]),?_,fun _=>⟨a,b,rfl,by have:=HA.out;omega,by have:=HA.out;omega,ka.lt,kb.lt,ka.cell 0,kb.cell 0⟩,by first | exact kz | exact kz.drew,rfl⟩
   have ht:=HT.out
   rw [hd] at ht
   first | (rw [←ht];rfl) | (simp only [Bool.false_and] at ht;subst ht;simp [Act.put])
 ·rw [show hasF ex.data.toList (100:UInt8).toNat=true from hd] at HCN
  go_region_held3 (fun w'=>w'.cell? ⟨g,0,none⟩=some (.int .i64 idx)∧w'.cell? ⟨g,1,none⟩=some (.func (.func 189) #[] #[.pointer (some ⟨a,0,none⟩),.pointer (some ⟨b,0,none⟩)])∧w'.cell? ⟨w.heap.size,4,none⟩=some (.string ex)) (go_keep) ((go_at_call 171;refine (HCN.out _).mono ?_;rintro e w4 ⟨rfl,hw4⟩;subst w4))
  all_goals
   go_wp2
   refine bodyPost_ret (results_row_tmp rfl _ _ (w.heap.size+1) 183 #[.int .i64 idx,(.func (.func 189) #[] #[.pointer (some ⟨a,0,none⟩),.pointer (some ⟨b,0,none⟩)])] (0,0) _ rfl (((HF3.out.blk 2 rfl).set 0 _).set 1 _) Tryz.underlying183 rfl (by kernel_rfl)) rfl ?_
   have ka:=((HV.out.blk 2 rfl).far (p:=⟨w.heap.size+1,0,none⟩) (by have:=HA.out;dsimp only;omega) (.int .i64 idx)).far (p:=⟨w.heap.size+1,1,none⟩) (by have:=HA.out;dsimp only;omega) (.func (.func 189) #[] #[.pointer (some ⟨a,0,none⟩),.pointer (some ⟨b,0,none⟩)])
   have kb:=((HV.out.blk 1 rfl).far (p:=⟨w.heap.size+1,0,none⟩) (by have:=HA.out;dsimp only;omega) (.int .i64 idx)).far (p:=⟨w.heap.size+1,1,none⟩) (by have:=HA.out;dsimp only;omega) (.func (.func 189) #[] #[.pointer (some ⟨a,0,none⟩),.pointer (some ⟨b,0,none⟩)])
   have kz:=(HF3.out.below.setCell (p:=⟨w.heap.size+1,0,none⟩) (Nat.le_succ _) (.int .i64 idx)).setCell (p:=⟨w.heap.size+1,1,none⟩) (Nat.le_succ _) (.func (.func 189) #[] #[.pointer (some ⟨a,0,none⟩),.pointer (some ⟨b,0,none⟩)])
   refine ⟨(.func (.func 189) #[] #[.pointer (some ⟨a,0,none⟩),.pointer (some ⟨b,0,none⟩)]),?_,fun _=>⟨a,b,rfl,by have:=HA.out;omega,by have:=HA.out;omega,ka.lt,kb.lt,ka.cell 0,kb.cell 0⟩,by first | exact kz | exact kz.drew,rfl⟩
   have ht:=HT.out
   rw [hd] at ht
   first | (rw [←ht];rfl) | (simp only [Bool.false_and] at ht;subst ht;simp [Act.put])
end Go.Proofs.YtnbmbcjnncbaiaaGreatDoor
namespace Go.Proofs.YtnbmbcjnncbaiaaGreatDoor
set_option maxHeartbeats 8000000
set_option maxRecDepth 100000
open Go.RowKit Go.Shelf Go.Sort
def z0 (o:Opd):Opd:=⟨o.kind,o.reg,0⟩
def pl:Nat→List Opd→List Opd
 | 0,l=>l
 | _+1,[]=>[]
 | k+1,x::l=>z0 x::pl k l
theorem Fr.off {w0 W:World} {L:List (Nat × TypeId × Array Value)} (h:Fr w0 L W) (p:Addr) (hb:w0.heap.size≤p.block) (hn:∀x∈L,x.1≠p.block) (u:Value):Fr w0 L (W.setCell p u):=
 ⟨h.below.setCell hb _,fun x hx=>(h.at' x hx).far (hn x hx) u⟩
end Go.Proofs.YtnbmbcjnncbaiaaGreatDoor
namespace Go.Proofs.YtnbmbcjnncbaiaaGreatDoor
set_option maxHeartbeats 8000000
set_option maxRecDepth 100000
open Go.RowKit Go.Shelf Go.Sort
end Go.Proofs.YtnbmbcjnncbaiaaGreatDoor
namespace Go.Proofs.YtnbmbcjnncbaiaaGreatDoor
set_option maxHeartbeats 8000000
set_option maxRecDepth 100000
open Go.RowKit Go.Shelf Go.Sort
theorem Fr.join {w0 W w':World} {L M:List (Nat × TypeId × Array Value)} (h1:Fr w0 L W) (h2:Fr W M w'):Fr w0 (M++L) w':=
 ⟨(h1.next h2.below).below,fun x hx=>by
  rcases List.mem_append.1 hx with hx | hx
  ·exact h2.at' x hx
  ·exact (h1.next h2.below).at' x hx⟩
def numV (ex:List UInt8) (l:List Opd):Int × Int × Int × Bool:=
 if hasF ex 101=true then (lastK [10] l l.length,-128,127,decide (0≤lastK [10] l l.length))
 else if hasF ex 110=true then (lastK [6,7] l l.length,0,255,decide (0≤lastK [6,7] l l.length))
 else if hasF ex 119=true then (lastK [6,7] l l.length,0,65535,decide (0≤lastK [6,7] l l.length))
 else (lastK [6,7] l l.length,0,0,false)
theorem numbered_any (pg op:Int) (s ex:ByteArray) (al:Bool) (l:List Opd) (p:Blocks) (v:Value) (w:World) (h:SlR opdR w p v l):
  Calls Tryz.prog 139 #[.agg #[.int .i64 pg,.int .u8 op,.string s,v,.string ex,.bool al]] w (VarP w (numV ex.data.toList l).1 (numV ex.data.toList l).2.1 (numV ex.data.toList l).2.2.1 (numV ex.data.toList l).2.2.2):=by
 obtain ⟨va,vc,rfl⟩:∃a c,v=.slice a l.length c:=by obtain ⟨a,c,e,_⟩:=h;exact ⟨a,c,e⟩
 have HF:=Lib.hid ((((Fr.start w).new 77 #[.int .i64 pg,.int .u8 op,.string s,.slice va l.length vc,.string ex,.bool al]).new' 183 #[.int .i64 0,.nilFunc] (World.size_alloc _ _)).new' 3 #[.int .i64 6,.int .i64 7] (show _=w.heap.size+1+1 from by rw [World.size_alloc,World.size_alloc]))
 have HLA:=Lib.hid (lastS_any s l [6,7] (.slice (some ⟨w.heap.size+1+1,0,none⟩) 2 2) _ _ _ (h.below HF.out.below) (fun W hb x=>ints_any (w.heap.size+1+1) [6,7] 2 rfl (by decide) _ (HF.out.blk 0 rfl) W hb x))
 have HLE:=Lib.hid (fun W (hb:RowKit.Below w.heap.size w W)=>lastS_any s l [10] (.slice (some ⟨W.heap.size,0,none⟩) 1 1) _ _ _ ((h.below hb).alloc (.cells #[.int .i64 10] 3)) (fun W2 hb2 x=>ints_any W.heap.size [10] 1 rfl (by decide) _ (Blk.new W _ _) W2 hb2 x))
 have HC1:=Lib.hid (fun W=>containsC_any ex 101 W)
 have HC2:=Lib.hid (fun W=>containsC_any ex 110 W)
 have HC3:=Lib.hid (fun W=>containsC_any ex 119 W)
 clear h
 unfold numV
 generalize lastK [6,7] l l.length=nS at *
 generalize lastK [10] l l.length=eS at *
 go_enter Tryz.func139,Tryz.ntmps139
 go_upto_region 1 with fail
 go_upto_region 3 with (go_at_call 169;refine HLA.out.mono ?_;rintro e w1 ⟨rfl,hb1⟩;have HF1:=Lib.hid (HF.out.next hb1);clear hb1)
 have HF3:=Lib.hid (HF1.out.new 183 #[.int .i64 nS,.nilFunc])
 have HGE:=Lib.hid (HF1.out.blk 0 rfl).lt
 obtain ⟨g,hg⟩:∃g,w1.heap.size=g:=⟨_,rfl⟩
 rw [hg] at HF3 HGE ⊢
 obtain ⟨W3,hW3⟩:∃W:World,W=w1.alloc (.cells #[.int .i64 nS,.nilFunc] 183):=⟨_,rfl⟩
 rw [←hW3] at HF3 ⊢
 clear hW3 hg HF1 HLA HF
 have e4:=(HF3.out.blk 3 rfl).cell 4
 have n1:¬g=w.heap.size+1:=by have:=HGE.out;omega
 have n2:¬w.heap.size+1=g:=fun e=>n1 e.symm
 cases h1:hasF ex.data.toList 101
 rotate_left
 ·rw [show hasF ex.data.toList (101:UInt8).toNat=true from h1] at HC1
  rw [if_pos rfl]
  have e2:=(HF3.out.blk 3 rfl).cell 2
  have e3:=(HF3.out.blk 3 rfl).cell 3
  have HLE2:=Lib.hid (HLE.out _ HF3.out.below)
  go_upto_region 9 with (first | (go_at_call 171;with_reducible refine (HC1.out _).mono ?_;rintro e w4 ⟨rfl,hw4⟩;subst w4) | (go_at_call 169;refine HLE2.out.mono ?_;rintro e w4 ⟨rfl,hb4⟩;have HF4:=Lib.hid ((HF3.out.alloc (.cells #[.int .i64 10] 3)).next hb4);clear hb4) | (go_at_call 170;refine (in_any (-128) 127 _).mono ?_;rintro e w5 ⟨a,b,rfl,ha1,hb1,ha2,hb2,hfr⟩;have HJ:=Lib.hid (HF4.out.join hfr);have HA:=Lib.hid (And.intro (Nat.lt_of_lt_of_le (HF4.out.blk 0 rfl).lt ha1) (And.intro (Nat.lt_of_lt_of_le (HF4.out.blk 0 rfl).lt hb1) HGE.out));have g0:=(HJ.out.blk 2 rfl).cell 0;have g1:=(HJ.out.blk 2 rfl).cell 1;have gf:=(HJ.out.blk 2 rfl).free 1;have gf0:=(HJ.out.blk 2 rfl).free 0;clear hfr ha1 hb1 ha2 hb2))
  have HJs:=HJ.out.sub (M:=[(g,183,#[.int .i64 nS,.nilFunc]),(b,3,#[.int .i64 127]),(a,3,#[.int .i64 (-128)]),(w.heap.size+1,183,#[.int .i64 0,.nilFunc])]) (by intro y hy;simp only [List.mem_cons,List.not_mem_nil,or_false] at hy;rcases hy with rfl | rfl | rfl | rfl<;>simp)
  have HJ2:=Lib.hid ((HJs.set (by have:=HA.out;omega) (by intro y hy;simp only [List.mem_cons,List.not_mem_nil,or_false] at hy;have:=HA.out;rcases hy with rfl | rfl | rfl<;>dsimp only<;>omega) 0 (.int .i64 eS)).set (by have:=HA.out;omega) (by intro y hy;simp only [List.mem_cons,List.not_mem_nil,or_false] at hy;have:=HA.out;rcases hy with rfl | rfl | rfl<;>dsimp only<;>omega) 1 (.func (.func 189) #[] #[.pointer (some ⟨a,0,none⟩),.pointer (some ⟨b,0,none⟩)]))
  obtain ⟨W6,hW6⟩:∃W:World,W=((w5.setCell ⟨g,0,none⟩ (.int .i64 eS)).setCell ⟨g,1,none⟩ (.func (.func 189) #[] #[.pointer (some ⟨a,0,none⟩),.pointer (some ⟨b,0,none⟩)])):=⟨_,rfl⟩
  rw [←hW6] at HJ2 ⊢
  clear hW6 HJs HJ g0 g1 gf gf0
  have g0:=(HJ2.out.blk 0 rfl).cell 0
  have g1:=(HJ2.out.blk 0 rfl).cell 1
  have r0:=(HJ2.out.blk 3 rfl).cell 0
  have r1:=(HJ2.out.blk 3 rfl).cell 1
  have r2:=(HJ2.out.blk 3 rfl).free 0
  have r3:=(HJ2.out.blk 3 rfl).free 1
  have kr:=((HJ2.out.blk 3 rfl).set 0 (.int .i64 eS)).set 1 (.func (.func 189) #[] #[.pointer (some ⟨a,0,none⟩),.pointer (some ⟨b,0,none⟩)])
  have ka:=((HJ2.out.blk 2 rfl).far (p:=⟨w.heap.size+1,0,none⟩) (by have:=HA.out;dsimp only;omega) (.int .i64 eS)).far (p:=⟨w.heap.size+1,1,none⟩) (by have:=HA.out;dsimp only;omega) (.func (.func 189) #[] #[.pointer (some ⟨a,0,none⟩),.pointer (some ⟨b,0,none⟩)])
  have kb:=((HJ2.out.blk 1 rfl).far (p:=⟨w.heap.size+1,0,none⟩) (by have:=HA.out;dsimp only;omega) (.int .i64 eS)).far (p:=⟨w.heap.size+1,1,none⟩) (by have:=HA.out;dsimp only;omega) (.func (.func 189) #[] #[.pointer (some ⟨a,0,none⟩),.pointer (some ⟨b,0,none⟩)])
  have kz:=(HJ2.out.below.setCell (p:=⟨w.heap.size+1,0,none⟩) (Nat.le_succ _) (.int .i64 eS)).setCell (p:=⟨w.heap.size+1,1,none⟩) (Nat.le_succ _) (.func (.func 189) #[] #[.pointer (some ⟨a,0,none⟩),.pointer (some ⟨b,0,none⟩)])
  clear HC1 HC2 HC3
  go_region
  all_goals
   go_wp2
   all_goals
    refine bodyPost_ret (results_row_tmp rfl _ _ (w.heap.size+1) 183 #[.int .i64 eS,(.func (.func 189) #[] #[.pointer (some ⟨a,0,none⟩),.pointer (some ⟨b,0,none⟩)])] (0,0) _ rfl kr Tryz.underlying183 rfl (by kernel_rfl)) rfl ?_
    refine ⟨(.func (.func 189) #[] #[.pointer (some ⟨a,0,none⟩),.pointer (some ⟨b,0,none⟩)]),?_,fun _=>⟨a,b,rfl,by have:=HA.out;omega,by have:=HA.out;omega,ka.lt,kb.lt,ka.cell 0,kb.cell 0⟩,by first | exact kz | exact kz.drew,rfl⟩
    first | rfl | simp [Act.put]
 rw [show hasF ex.data.toList (101:UInt8).toNat=false from h1] at HC1
 rw [if_neg Bool.false_ne_true]
 cases h2:hasF ex.data.toList 110
 rotate_left
 ·rw [show hasF ex.data.toList (110:UInt8).toNat=true from h2] at HC2
  rw [if_pos rfl]
  go_upto_region 9 with (first | (go_at_call 171;with_reducible refine (HC1.out _).mono ?_;rintro e w4 ⟨rfl,hw4⟩;subst w4) | (go_at_call 171;with_reducible refine (HC2.out _).mono ?_;rintro e w4 ⟨rfl,hw4⟩;subst w4) | (go_at_call 170;refine (in_any 0 255 _).mono ?_;rintro e w5 ⟨a,b,rfl,ha1,hb1,ha2,hb2,hfr⟩;have HJ:=Lib.hid (HF3.out.join hfr);have HA:=Lib.hid (And.intro (Nat.lt_of_lt_of_le (HF3.out.blk 0 rfl).lt ha1) (And.intro (Nat.lt_of_lt_of_le (HF3.out.blk 0 rfl).lt hb1) HGE.out));have g0:=(HJ.out.blk 2 rfl).cell 0;have g1:=(HJ.out.blk 2 rfl).cell 1;have gf:=(HJ.out.blk 2 rfl).free 1;have gf0:=(HJ.out.blk 2 rfl).free 0;clear hfr ha1 hb1 ha2 hb2))
  have HJs:=HJ.out.sub (M:=[(g,183,#[.int .i64 nS,.nilFunc]),(b,3,#[.int .i64 255]),(a,3,#[.int .i64 0]),(w.heap.size+1,183,#[.int .i64 0,.nilFunc])]) (by intro y hy;simp only [List.mem_cons,List.not_mem_nil,or_false] at hy;rcases hy with rfl | rfl | rfl | rfl<;>simp)
  have HJ2:=Lib.hid (HJs.set (by have:=HA.out;omega) (by intro y hy;simp only [List.mem_cons,List.not_mem_nil,or_false] at hy;have:=HA.out;rcases hy with rfl | rfl | rfl<;>dsimp only<;>omega) 1 (.func (.func 189) #[] #[.pointer (some ⟨a,0,none⟩),.pointer (some ⟨b,0,none⟩)]))
  obtain ⟨W6,hW6⟩:∃W:World,W=(w5.setCell ⟨g,1,none⟩ (.func (.func 189) #[] #[.pointer (some ⟨a,0,none⟩),.pointer (some ⟨b,0,none⟩)])):=⟨_,rfl⟩
  rw [←hW6] at HJ2 ⊢
  clear hW6 HJs HJ g0 g1 gf gf0
  have g0:=(HJ2.out.blk 0 rfl).cell 0
  have g1:=(HJ2.out.blk 0 rfl).cell 1
  have r0:=(HJ2.out.blk 3 rfl).cell 0
  have r1:=(HJ2.out.blk 3 rfl).cell 1
  have r2:=(HJ2.out.blk 3 rfl).free 0
  have r3:=(HJ2.out.blk 3 rfl).free 1
  have kr:=((HJ2.out.blk 3 rfl).set 0 (.int .i64 nS)).set 1 (.func (.func 189) #[] #[.pointer (some ⟨a,0,none⟩),.pointer (some ⟨b,0,none⟩)])
  have ka:=((HJ2.out.blk 2 rfl).far (p:=⟨w.heap.size+1,0,none⟩) (by have:=HA.out;dsimp only;omega) (.int .i64 nS)).far (p:=⟨w.heap.size+1,1,none⟩) (by have:=HA.out;dsimp only;omega) (.func (.func 189) #[] #[.pointer (some ⟨a,0,none⟩),.pointer (some ⟨b,0,none⟩)])
  have kb:=((HJ2.out.blk 1 rfl).far (p:=⟨w.heap.size+1,0,none⟩) (by have:=HA.out;dsimp only;omega) (.int .i64 nS)).far (p:=⟨w.heap.size+1,1,none⟩) (by have:=HA.out;dsimp only;omega) (.func (.func 189) #[] #[.pointer (some ⟨a,0,none⟩),.pointer (some ⟨b,0,none⟩)])
  have kz:=(HJ2.out.below.setCell (p:=⟨w.heap.size+1,0,none⟩) (Nat.le_succ _) (.int .i64 nS)).setCell (p:=⟨w.heap.size+1,1,none⟩) (Nat.le_succ _) (.func (.func 189) #[] #[.pointer (some ⟨a,0,none⟩),.pointer (some ⟨b,0,none⟩)])
  clear HC1 HC2 HC3
  go_region
  all_goals
   go_wp2
   all_goals
    refine bodyPost_ret (results_row_tmp rfl _ _ (w.heap.size+1) 183 #[.int .i64 nS,(.func (.func 189) #[] #[.pointer (some ⟨a,0,none⟩),.pointer (some ⟨b,0,none⟩)])] (0,0) _ rfl kr Tryz.underlying183 rfl (by kernel_rfl)) rfl ?_
    refine ⟨(.func (.func 189) #[] #[.pointer (some ⟨a,0,none⟩),.pointer (some ⟨b,0,none⟩)]),?_,fun _=>⟨a,b,rfl,by have:=HA.out;omega,by have:=HA.out;omega,ka.lt,kb.lt,ka.cell 0,kb.cell 0⟩,by first | exact kz | exact kz.drew,rfl⟩
    first | rfl | simp [Act.put]
 rw [show hasF ex.data.toList (110:UInt8).toNat=false from h2] at HC2
 rw [if_neg Bool.false_ne_true]
 cases h3:hasF ex.data.toList 119
 rotate_left
 ·rw [show hasF ex.data.toList (119:UInt8).toNat=true from h3] at HC3
  rw [if_pos rfl]
  go_upto_region 9 with (first | (go_at_call 171;with_reducible refine (HC1.out _).mono ?_;rintro e w4 ⟨rfl,hw4⟩;subst w4) | (go_at_call 171;with_reducible refine (HC2.out _).mono ?_;rintro e w4 ⟨rfl,hw4⟩;subst w4) | (go_at_call 171;with_reducible refine (HC3.out _).mono ?_;rintro e w4 ⟨rfl,hw4⟩;subst w4) | (go_at_call 170;refine (in_any 0 65535 _).mono ?_;rintro e w5 ⟨a,b,rfl,ha1,hb1,ha2,hb2,hfr⟩;have HJ:=Lib.hid (HF3.out.join hfr);have HA:=Lib.hid (And.intro (Nat.lt_of_lt_of_le (HF3.out.blk 0 rfl).lt ha1) (And.intro (Nat.lt_of_lt_of_le (HF3.out.blk 0 rfl).lt hb1) HGE.out));have g0:=(HJ.out.blk 2 rfl).cell 0;have g1:=(HJ.out.blk 2 rfl).cell 1;have gf:=(HJ.out.blk 2 rfl).free 1;have gf0:=(HJ.out.blk 2 rfl).free 0;clear hfr ha1 hb1 ha2 hb2))
  have HJs:=HJ.out.sub (M:=[(g,183,#[.int .i64 nS,.nilFunc]),(b,3,#[.int .i64 65535]),(a,3,#[.int .i64 0]),(w.heap.size+1,183,#[.int .i64 0,.nilFunc])]) (by intro y hy;simp only [List.mem_cons,List.not_mem_nil,or_false] at hy;rcases hy with rfl | rfl | rfl | rfl<;>simp)
  have HJ2:=Lib.hid (HJs.set (by have:=HA.out;omega) (by intro y hy;simp only [List.mem_cons,List.not_mem_nil,or_false] at hy;have:=HA.out;rcases hy with rfl | rfl | rfl<;>dsimp only<;>omega) 1 (.func (.func 189) #[] #[.pointer (some ⟨a,0,none⟩),.pointer (some ⟨b,0,none⟩)]))
  obtain ⟨W6,hW6⟩:∃W:World,W=(w5.setCell ⟨g,1,none⟩ (.func (.func 189) #[] #[.pointer (some ⟨a,0,none⟩),.pointer (some ⟨b,0,none⟩)])):=⟨_,rfl⟩
  rw [←hW6] at HJ2 ⊢
  clear hW6 HJs HJ g0 g1 gf gf0
  have g0:=(HJ2.out.blk 0 rfl).cell 0
  have g1:=(HJ2.out.blk 0 rfl).cell 1
  have r0:=(HJ2.out.blk 3 rfl).cell 0
  have r1:=(HJ2.out.blk 3 rfl).cell 1
  have r2:=(HJ2.out.blk 3 rfl).free 0
  have r3:=(HJ2.out.blk 3 rfl).free 1
  have kr:=((HJ2.out.blk 3 rfl).set 0 (.int .i64 nS)).set 1 (.func (.func 189) #[] #[.pointer (some ⟨a,0,none⟩),.pointer (some ⟨b,0,none⟩)])
  have ka:=((HJ2.out.blk 2 rfl).far (p:=⟨w.heap.size+1,0,none⟩) (by have:=HA.out;dsimp only;omega) (.int .i64 nS)).far (p:=⟨w.heap.size+1,1,none⟩) (by have:=HA.out;dsimp only;omega) (.func (.func 189) #[] #[.pointer (some ⟨a,0,none⟩),.pointer (some ⟨b,0,none⟩)])
  have kb:=((HJ2.out.blk 1 rfl).far (p:=⟨w.heap.size+1,0,none⟩) (by have:=HA.out;dsimp only;omega) (.int .i64 nS)).far (p:=⟨w.heap.size+1,1,none⟩) (by have:=HA.out;dsimp only;omega) (.func (.func 189) #[] #[.pointer (some ⟨a,0,none⟩),.pointer (some ⟨b,0,none⟩)])
  have kz:=(HJ2.out.below.setCell (p:=⟨w.heap.size+1,0,none⟩) (Nat.le_succ _) (.int .i64 nS)).setCell (p:=⟨w.heap.size+1,1,none⟩) (Nat.le_succ _) (.func (.func 189) #[] #[.pointer (some ⟨a,0,none⟩),.pointer (some ⟨b,0,none⟩)])
  clear HC1 HC2 HC3
  go_region
  all_goals
   go_wp2
   all_goals
    refine bodyPost_ret (results_row_tmp rfl _ _ (w.heap.size+1) 183 #[.int .i64 nS,(.func (.func 189) #[] #[.pointer (some ⟨a,0,none⟩),.pointer (some ⟨b,0,none⟩)])] (0,0) _ rfl kr Tryz.underlying183 rfl (by kernel_rfl)) rfl ?_
    refine ⟨(.func (.func 189) #[] #[.pointer (some ⟨a,0,none⟩),.pointer (some ⟨b,0,none⟩)]),?_,fun _=>⟨a,b,rfl,by have:=HA.out;omega,by have:=HA.out;omega,ka.lt,kb.lt,ka.cell 0,kb.cell 0⟩,by first | exact kz | exact kz.drew,rfl⟩
    first | rfl | simp [Act.put]
 ·rw [show hasF ex.data.toList (119:UInt8).toNat=false from h3] at HC3
  rw [if_neg Bool.false_ne_true]
  have g0:=(HF3.out.blk 0 rfl).cell 0
  have g1:=(HF3.out.blk 0 rfl).cell 1
  have r0:=(HF3.out.blk 2 rfl).cell 0
  have r1:=(HF3.out.blk 2 rfl).cell 1
  have r2:=(HF3.out.blk 2 rfl).free 0
  have r3:=(HF3.out.blk 2 rfl).free 1
  go_wp2_with (first | (go_at_call 171;with_reducible refine (HC1.out _).mono ?_;rintro e w4 ⟨rfl,hw4⟩;subst w4) | (go_at_call 171;with_reducible refine (HC2.out _).mono ?_;rintro e w4 ⟨rfl,hw4⟩;subst w4) | (go_at_call 171;with_reducible refine (HC3.out _).mono ?_;rintro e w4 ⟨rfl,hw4⟩;subst w4))
  all_goals
   refine bodyPost_ret (results_row_tmp rfl _ _ (w.heap.size+1) 183 #[.int .i64 nS,.nilFunc] (0,0) _ rfl (((HF3.out.blk 2 rfl).set 0 _).set 1 _) Tryz.underlying183 rfl (by kernel_rfl)) rfl ?_
   exact ⟨.nilFunc,rfl,fun h=>absurd h Bool.false_ne_true,(HF3.out.below.setCell (p:=⟨w.heap.size+1,0,none⟩) (Nat.le_succ _) _).setCell (p:=⟨w.heap.size+1,1,none⟩) (Nat.le_succ _) _,rfl⟩
end Go.Proofs.YtnbmbcjnncbaiaaGreatDoor
namespace Go.Proofs.YtnbmbcjnncbaiaaGreatDoor
set_option maxHeartbeats 8000000
set_option maxRecDepth 100000
open Go.RowKit Go.Shelf Go.Sort
end Go.Proofs.YtnbmbcjnncbaiaaGreatDoor
namespace Go.Proofs.YtnbmbcjnncbaiaaGreatDoor
set_option maxHeartbeats 8000000
set_option maxRecDepth 100000
open Go.RowKit Go.Shelf Go.Sort
end Go.Proofs.YtnbmbcjnncbaiaaGreatDoor
namespace Go.Proofs.YtnbmbcjnncbaiaaGreatDoor
set_option maxHeartbeats 8000000
set_option maxRecDepth 100000
open Go.RowKit Go.Shelf Go.Sort
theorem lastK_lt (ks:List Int) (l:List Opd):∀n:Nat,lastK ks l n < n
 | 0=>by unfold lastK;decide
 | n+1=>by
  have:=lastK_lt ks l n
  unfold lastK
  split<;>omega
theorem numV_lt {ex:List UInt8} {l:List Opd} (h:(numV ex l).2.2.2=true):0≤(numV ex l).1∧(numV ex l).1 < l.length:=by
 have h1:=lastK_lt [10] l l.length
 have h2:=lastK_lt [6,7] l l.length
 unfold numV at h ⊢
 split at h
 ·rw [if_pos (by assumption)];exact ⟨of_decide_eq_true h,h1⟩
 ·rw [if_neg (by assumption)]
  split at h
  ·rw [if_pos (by assumption)];exact ⟨of_decide_eq_true h,h2⟩
  ·rw [if_neg (by assumption)]
   split at h
   ·rw [if_pos (by assumption)];exact ⟨of_decide_eq_true h,h2⟩
   ·exact absurd h Bool.false_ne_true
theorem Fr.nextB {w0 W w':World} {L:List (Nat × TypeId × Array Value)} {B:Nat} (h:Fr w0 L W) (hb:RowKit.Below B W w') (hB:w0.heap.size≤B) (hL:∀x∈L,x.1 < B):Fr w0 L w':=
 ⟨h.below.trans (hb.mono hB),fun x hx=>(h.at' x hx).below hb (hL x hx)⟩
end Go.Proofs.YtnbmbcjnncbaiaaGreatDoor
namespace Go.Proofs.YtnbmbcjnncbaiaaGreatDoor
set_option maxHeartbeats 8000000
set_option maxRecDepth 100000
open Go.RowKit Go.Shelf Go.Sort
theorem put_no (idx n:Int) (f:Value) (br:Nat) (w:World):
  Calls Tryz.prog 140 #[.agg #[.int .i64 idx,f],.bool false,.int .i64 n,.pointer (some ⟨br,0,none⟩)] w fun e w'=>e=.returned (.bool (n==0))∧Below w.heap.size w w':=by
 have HF:=Lib.hid ((Fr.start w).new 183 #[.int .i64 idx,f])
 go_enter Tryz.func140,Tryz.ntmps140
 go_wp2
 go_ret
 exact ⟨rfl,HF.out.below⟩
theorem put_yes (k:Nat) (lo hi n:Int) (a b br B:Nat) (t:ByteArray) (l:List Opd) (v:Value) (q:Blocks) (w:World) (x:Opd) (hx:l[k]?=some x) (hr:Blk w br 27 #[.string t,v]) (ho:OpdOwn w q v l)
  (h1:w.cell? ⟨a,0,none⟩=some (.int .i64 lo)) (h2:w.cell? ⟨b,0,none⟩=some (.int .i64 hi)) (ha:a < w.heap.size) (hb:b < w.heap.size) (hB:B≤br) (hq:∀k,q k→B≤k∧k≠br∧k≠a∧k≠b)
  (bv:Nat) (tv:TypeId) (cv:Array Value) (hv:Blk w bv tv cv) (hnv:∀k,q k→k≠bv):
  Calls Tryz.prog 140 #[.agg #[.int .i64 k,(.func (.func 189) #[] #[.pointer (some ⟨a,0,none⟩),.pointer (some ⟨b,0,none⟩)])],.bool true,.int .i64 n,.pointer (some ⟨br,0,none⟩)] w fun e w'=>e=.returned (.bool (fitsB lo hi n))∧
   OpdOwn w' q v (l.set k {x with n:=n})∧Blk w' br 27 #[.string t,v]∧Below B w w'∧Blk w' bv tv cv:=by
 obtain ⟨va,vc,rfl⟩:=ho.form
 have hk:k < l.length:=(List.getElem?_eq_some_iff.1 hx).1
 have hb1:RowKit.Below w.heap.size w (w.alloc (.cells #[.int .i64 k,(.func (.func 189) #[] #[.pointer (some ⟨a,0,none⟩),.pointer (some ⟨b,0,none⟩)])] 183)):=(Below.refl _ _).alloc (Nat.le_refl _) _
 have HA1:=Lib.hid ((hb1.cell (p:=⟨a,0,none⟩) ha).trans h1)
 have HA2:=Lib.hid ((hb1.cell (p:=⟨b,0,none⟩) hb).trans h2)
 have HR:=Lib.hid (hr.below hb1 hr.lt)
 have HV:=Lib.hid (hv.below hb1 hv.lt)
 have HNV:=Lib.hid hnv
 have HO:=Lib.hid (ho.below hb1)
 have HBW:=Lib.hid hb1
 have HFN:=Lib.hid (Blk.new w 183 #[.int .i64 k,(.func (.func 189) #[] #[.pointer (some ⟨a,0,none⟩),.pointer (some ⟨b,0,none⟩)])])
 have HQ:=Lib.hid hq
 have HLT:=Lib.hid hr.lt
 have HOL:=Lib.hid ho
 obtain ⟨W1,hW1⟩:∃W:World,W=w.alloc (.cells #[.int .i64 k,(.func (.func 189) #[] #[.pointer (some ⟨a,0,none⟩),.pointer (some ⟨b,0,none⟩)])] 183):=⟨_,rfl⟩
 rw [←hW1] at HR HO HBW HFN HA1 HA2 HV
 obtain ⟨a1,c1,e1,hc1,hc2,g1⟩:=HO.out
 obtain ⟨a0,c0,e0,_,_,g0⟩:=HOL.out
 injection e1 with e1 e2 e3
 injection e0 with e0 e8 e9
 obtain ⟨ob,oo,rfl,hqb,hbl,x0,x1,x2,hfz⟩:=g1 k x hx
 obtain ⟨ob2,oo2,h9,_,hb0,_⟩:=g0 k x hx
 subst e1 e3
 rw [←e0] at h9
 injection h9 with h9
 injection h9 with h9 h10
 subst h9
 clear e2 hc1 hc2 g1 g0 e0 e8 e9 h10 hr ho h1 h2 hb1 hq ha hb x0 x1 hv hnv
 have f2:=hfz (oo+k * 3+2)
 have HON:=Lib.hid (HO.out.setN (m:=n) hx)
 have HQB:=Lib.hid hqb
 have HB0:=Lib.hid hb0
 clear hfz hqb hbl hb0
 go_enter Tryz.func140,Tryz.ntmps140
 go_upto_region 3 with fail
 rw [←hW1]
 clear hW1
 have r1:=HR.out.cell 1
 have v0:=HFN.out.cell 0
 go_upto_region 4 with fail
 have HRs:=Lib.hid (HR.out.far (p:=⟨ob,oo+k * 3+2,none⟩) (by have:=(HQ.out ob HQB.out).2.1;dsimp only;omega) (.int .i64 n))
 have HVs:=Lib.hid (HV.out.far (p:=⟨ob,oo+k * 3+2,none⟩) (by have:=HNV.out ob HQB.out;dsimp only;omega) (.int .i64 n))
 have HFs:=Lib.hid (HFN.out.far (p:=⟨ob,oo+k * 3+2,none⟩) (by have:=HB0.out;dsimp only;omega) (.int .i64 n))
 have ka:=(show (W1.setCell ⟨ob,oo+k * 3+2,none⟩ (.int .i64 n)).cell? ⟨a,0,none⟩=W1.cell? ⟨a,0,none⟩ from World.cell?_of_block (Below.heap_setCell W1 ⟨ob,oo+k * 3+2,none⟩ (.int .i64 n) a (by have:=(HQ.out ob HQB.out).2.2.1;dsimp only;omega))).trans HA1.out
 have kb:=(show (W1.setCell ⟨ob,oo+k * 3+2,none⟩ (.int .i64 n)).cell? ⟨b,0,none⟩=W1.cell? ⟨b,0,none⟩ from World.cell?_of_block (Below.heap_setCell W1 ⟨ob,oo+k * 3+2,none⟩ (.int .i64 n) b (by have:=(HQ.out ob HQB.out).2.2.2;dsimp only;omega))).trans HA2.out
 have HIN:=Lib.hid (inS_any lo hi n a b _ ka kb)
 have HBs:=Lib.hid ((HBW.out.mono (Nat.le_of_lt (Nat.lt_of_le_of_lt hB HLT.out))).setCell (p:=⟨ob,oo+k * 3+2,none⟩) (HQ.out ob HQB.out).1 (.int .i64 n))
 obtain ⟨W2,hW2⟩:∃W:World,W=W1.setCell ⟨ob,oo+k * 3+2,none⟩ (.int .i64 n):=⟨_,rfl⟩
 rw [←hW2] at HRs HFs HON HIN HBs HVs ⊢
 clear hW2 ka kb r1 v0 f2 x2
 have v1:=HFs.out.cell 1
 go_wp2_with (go_at_call 189;refine HIN.out.mono ?_;rintro e w3 ⟨rfl,hb3⟩;have HR3:=Lib.hid (HRs.out.below hb3 HRs.out.lt);have HV3:=Lib.hid (HVs.out.below hb3 HVs.out.lt);have HO3:=Lib.hid (HON.out.below hb3);have HB3:=Lib.hid (HBs.out.trans (hb3.mono (Nat.le_of_lt (Nat.lt_of_le_of_lt hB HRs.out.lt))));clear hb3)
 go_ret
 exact ⟨rfl,HO3.out,HR3.out,HB3.out,HV3.out⟩
end Go.Proofs.YtnbmbcjnncbaiaaGreatDoor
namespace Go.Proofs.YtnbmbcjnncbaiaaGreatDoor
set_option maxHeartbeats 8000000
set_option maxRecDepth 100000
open Go.RowKit Go.Shelf Go.Sort
def putF (idx lo hi:Int) (there:Bool) (n:Int) (l:List Opd):Bool × List Opd:=
 if there=true then (match l[idx.toNat]? with | some x=>(fitsB lo hi n,l.set idx.toNat {x with n:=n}) | none=>(false,l)) else (n==0,l)
theorem putF_len (idx lo hi:Int) (there:Bool) (n:Int) (l:List Opd):(putF idx lo hi there n l).2.length=l.length:=by
 unfold putF
 split
 ·split
  ·dsimp only;rw [List.length_set]
  ·rfl
 ·rfl
def fillS (ex:List UInt8) (l:List Opd) (d n:Int):Option (List Opd):=
 let r1:=putF (lastK [5] l l.length) (-128) 127 (hasF ex 100&&decide (0≤lastK [5] l l.length)) d l
 let r2:=putF (numV ex l).1 (numV ex l).2.1 (numV ex l).2.2.1 (numV ex l).2.2.2 n r1.2
 if r2.1=true then (if r1.1=true then some r2.2 else none) else none
theorem put_any (idx lo hi n:Int) (there:Bool) (f:Value) (br B:Nat) (t:ByteArray) (l:List Opd) (v:Value) (q:Blocks) (w:World) (hr:Blk w br 27 #[.string t,v]) (ho:OpdOwn w q v l)
  (hf:there=true→∃a b,f=funV a b∧br < a∧br < b∧a < w.heap.size∧b < w.heap.size∧w.cell? ⟨a,0,none⟩=some (.int .i64 lo)∧w.cell? ⟨b,0,none⟩=some (.int .i64 hi)) (hi2:there=true→0≤idx∧idx < l.length)
  (hB:B≤br) (hq:∀k,q k→B≤k∧k < br)
  (bv:Nat) (tv:TypeId) (cv:Array Value) (hv:Blk w bv tv cv) (hnv:br < bv):
  Calls Tryz.prog 140 #[.agg #[.int .i64 idx,f],.bool there,.int .i64 n,.pointer (some ⟨br,0,none⟩)] w fun e w'=>e=.returned (.bool (putF idx lo hi there n l).1)∧
   OpdOwn w' q v (putF idx lo hi there n l).2∧Blk w' br 27 #[.string t,v]∧Below B w w'∧Blk w' bv tv cv:=by
 cases there
 ·refine (put_no idx n f br w).mono ?_
  rintro e w' ⟨rfl,hb⟩
  exact ⟨rfl,ho.below hb,hr.below hb hr.lt,hb.mono (Nat.le_trans hB (Nat.le_of_lt hr.lt)),hv.below hb hv.lt⟩
 ·obtain ⟨a,b,rfl,hba,hbb,ha,hb,h1,h2⟩:=hf rfl
  obtain ⟨h0,hlt⟩:=hi2 rfl
  obtain ⟨k,rfl⟩:=Int.eq_ofNat_of_zero_le h0
  have hk:k < l.length:=by omega
  have hx:l[k]?=some l[k]:=List.getElem?_eq_getElem hk
  have ht:putF (k:Int) lo hi true n l=(fitsB lo hi n,l.set k {l[k] with n:=n}):=by
   unfold putF
   rw [if_pos rfl,Int.toNat_natCast,hx]
  rw [ht]
  exact put_yes k lo hi n a b br B t l v q w l[k] hx hr ho h1 h2 ha hb hB (fun k hk=>⟨(hq k hk).1,by have:=(hq k hk).2;omega,by have:=(hq k hk).2;omega,by have:=(hq k hk).2;omega⟩) bv tv cv hv (fun k hk=>by have:=(hq k hk).2;omega)
def FilQ (w:World) (s:ByteArray) (r:Option (List Opd)) (e:Ending) (w':World):Prop:=
 (match r with | some c=>∃v',e=.returned (.tuple #[.agg #[.string s,v'],.bool true])∧OpdOwn w' (fun b=>w.heap.size≤b) v' c | none=>e=.returned (.tuple #[.agg #[.string ⟨#[]⟩,.slice none 0 0],.bool false]))∧RowKit.Below w.heap.size w w'
theorem filQ_none {w:World} {s:ByteArray} {e:Ending} {w':World} (h:e=.returned (.tuple #[.agg #[.string ⟨#[]⟩,.slice none 0 0],.bool false])) (hb:RowKit.Below w.heap.size w w'):FilQ w s none e w':=⟨h,hb⟩
theorem filQ_some {w:World} {s:ByteArray} {c:List Opd} {e:Ending} {w':World} {v':Value} (h:e=.returned (.tuple #[.agg #[.string s,v'],.bool true])) (ho:OpdOwn w' (fun b=>w.heap.size≤b) v' c) (hb:RowKit.Below w.heap.size w w'):FilQ w s (some c) e w':=⟨⟨v',h,ho⟩,hb⟩
theorem FillS_any (pg op d n:Int) (s ex:ByteArray) (al:Bool) (l:List Opd) (p:Blocks) (v:Value) (w:World) (h:SlR opdR w p v l) (hl:l.length≤1000000) (hs:s.size≤9223372036854775807):
  Calls Tryz.prog 100 #[.agg #[.int .i64 pg,.int .u8 op,.string s,v,.string ex,.bool al],.int .i64 d,.int .i64 n] w (FilQ w (upper s) (fillS ex.data.toList l d n)):=by
 have HMK:=Lib.hid (fun W hb=>Make_any p s v l W (h.below hb) hl hs)
 have HDI:=Lib.hid (fun W hb=>displaced_any pg op s ex al l p v W (h.below hb))
 have HNU:=Lib.hid (fun W hb=>numbered_any pg op s ex al l p v W (h.below hb))
 have HF:=Lib.hid (((Fr.start w).new 77 #[.int .i64 pg,.int .u8 op,.string s,v,.string ex,.bool al]).new' 27 #[.string ⟨#[]⟩,.slice none 0 0] (World.size_alloc _ _))
 obtain ⟨va,vc,rfl⟩:∃a c,v=.slice a l.length c:=by obtain ⟨a,c,e,_⟩:=h;exact ⟨a,c,e⟩
 clear h hl hs
 obtain ⟨W0,hW0⟩:∃W0:World,W0=((w.alloc (.cells #[.int .i64 pg,.int .u8 op,.string s,.slice va l.length vc,.string ex,.bool al] 77)).alloc (.cells #[.string ⟨#[]⟩,.slice none 0 0] 27)):=⟨_,rfl⟩
 rw [←hW0] at HF
 have HMK2:=Lib.hid (HMK.out _ HF.out.below)
 obtain ⟨r1,hr1⟩:∃r1,putF (lastK [5] l l.length) (-128) 127 (hasF ex.data.toList 100&&decide (0≤lastK [5] l l.length)) d l=r1:=⟨_,rfl⟩
 obtain ⟨r2,hr2⟩:∃r2,putF (numV ex.data.toList l).1 (numV ex.data.toList l).2.1 (numV ex.data.toList l).2.2.1 (numV ex.data.toList l).2.2.2 n r1.2=r2:=⟨_,rfl⟩
 have HR:Hid (fillS ex.data.toList l d n=if r2.1=true then (if r1.1=true then some r2.2 else none) else none):=by subst hr2 hr1;rfl
 have HLR1:=Lib.hid (show r1.2.length=l.length from by rw [←hr1];exact putF_len _ _ _ _ _ _)
 have HR1:=Lib.hid hr1
 have HR2:=Lib.hid hr2
 have HNL:=Lib.hid (numV_lt (ex:=ex.data.toList) (l:=l))
 have HDL:=Lib.hid (lastK_lt [5] l l.length)
 clear hr1 hr2
 generalize fillS ex.data.toList l d n=R at *
 go_enter Tryz.func100,Tryz.ntmps100
 go_upto_region 1 with fail
 rw [←hW0]
 clear hW0 HMK
 have e2:=(HF.out.blk 1 rfl).cell 2
 have e3:=(HF.out.blk 1 rfl).cell 3
 go_upto_region 3 with (go_at_call 136;refine HMK2.out.mono ?_;rintro e w2 ⟨u2,rfl,ho,hb2⟩;obtain ⟨ca,cc,rfl⟩:=ho.form;have HF2:=Lib.hid (HF.out.next hb2);have HO:=Lib.hid ho;have HB12:=Lib.hid hb2;clear ho hb2)
 have HF3:=Lib.hid (HF2.out.new 27 #[.string (upper s),.slice ca l.length cc])
 have HGE:=Lib.hid (Nat.lt_of_lt_of_le (HF.out.blk 0 rfl).lt HB12.out.size)
 have HO3:=Lib.hid ((Own.opdOwn (q:=fun k=>w.heap.size+1+1≤k∧k < w2.heap.size) HO.out (fun k hk=>by have h8:=(HO.out.lt k hk).1;have h9:=(HO.out.lt k hk).2;have:=(HF.out.blk 0 rfl).lt;omega)).below ((Below.refl _ _).alloc (Nat.le_refl _) (.cells #[.string (upper s),.slice ca l.length cc] 27)))
 obtain ⟨br,hbr⟩:∃br,w2.heap.size=br:=⟨_,rfl⟩
 rw [hbr] at HF3 HO3 HGE ⊢
 obtain ⟨W3,hW3⟩:∃W:World,W=w2.alloc (.cells #[.string (upper s),.slice ca l.length cc] 27):=⟨_,rfl⟩
 rw [←hW3] at HF3 HO3 ⊢
 clear hW3 hbr HO HF2 HF HB12 HMK2 e2 e3
 have e0:=(HF3.out.blk 2 rfl).cell 0
 have e1:=(HF3.out.blk 2 rfl).cell 1
 have e2:=(HF3.out.blk 2 rfl).cell 2
 have e3:=(HF3.out.blk 2 rfl).cell 3
 have e4:=(HF3.out.blk 2 rfl).cell 4
 have e5:=(HF3.out.blk 2 rfl).cell 5
 have HD2:=Lib.hid (HDI.out _ HF3.out.below)
 have HBL:=Lib.hid (HF3.out.blk 0 rfl).lt
 go_upto_region 4 with (go_at_call 138;refine HD2.out.mono ?_;rintro e w4 ⟨f4,rfl,hf4,hb4,ho4⟩;have hst:=fun (a:Addr) (W:World)=>run_store Tryz.prog W a f4 .plain ho4;clear ho4;have HF4:=Lib.hid (HF3.out.next hb4);have HO4:=Lib.hid (HO3.out.below hb4);have HFF:=Lib.hid hf4;have HS4:=Lib.hid hb4.size;clear hf4 hb4 e0 e1 e2 e3 e4 e5)
 have HBN:Hid (RowKit.Below w4.heap.size w4 (w4.alloc (.cells #[.int .i64 (lastK [5] l l.length),f4] 183))):=Lib.hid ((Below.refl _ _).alloc (Nat.le_refl _) _)
 have HF5:=Lib.hid (HF4.out.alloc (.cells #[.int .i64 (lastK [5] l l.length),f4] 183))
 have HV5:=Lib.hid (Blk.new w4 183 #[.int .i64 (lastK [5] l l.length),f4])
 have HO5:=Lib.hid (HO4.out.below HBN.out)
 have HG5:Hid (br < w4.heap.size):=Lib.hid (Nat.lt_of_lt_of_le HBL.out HS4.out)
 have HT5:=Lib.hid (put_any (lastK [5] l l.length) (-128) 127 d (hasF ex.data.toList 100&&decide (0≤lastK [5] l l.length)) f4 br (w.heap.size+1+1) (upper s) l _ _ _ (HF5.out.blk 0 rfl) HO5.out
  (fun h=>by obtain ⟨a,b,h1,g1,g2,h2,h3,h4,h5⟩:=HFF.out h;exact ⟨a,b,h1,by have:=HBL.out;omega,by have:=HBL.out;omega,by rw [World.size_alloc];omega,by rw [World.size_alloc];omega,(HBN.out.cell (p:=⟨a,0,none⟩) h2).trans h4,(HBN.out.cell (p:=⟨b,0,none⟩) h3).trans h5⟩)
  (fun h=>⟨of_decide_eq_true (Bool.and_eq_true_iff.1 h).2,by have:=HDL.out;omega⟩) (by have:=HGE.out;omega) (fun k hk=>hk) _ _ _ HV5.out HG5.out)
 obtain ⟨bv,hbv⟩:∃bv,w4.heap.size=bv:=⟨_,rfl⟩
 rw [hbv] at HV5 HT5 HG5 ⊢
 obtain ⟨W5,hW5⟩:∃W:World,W=w4.alloc (.cells #[.int .i64 (lastK [5] l l.length),f4] 183):=⟨_,rfl⟩
 rw [←hW5] at HF5 HV5 HO5 HT5 ⊢
 clear hW5 hbv HBN HFF HD2 HDI HF4 HO4 HF3 HO3 HS4 HBL
 have v0:=HV5.out.cell 0
 have v1:=HV5.out.cell 1
 go_upto_region 5 with (go_at_call 140;refine HT5.out.mono ?_;rw [HR1.out];rintro e w6 ⟨rfl,ho6,hk6,hb6,hv6⟩;have HO6:=Lib.hid ho6;have HV6:=Lib.hid hv6;have HK6:=Lib.hid hk6;have HF6:=Lib.hid (HF5.out.drop.nextB hb6 (by omega) (by intro y hy;simp only [List.mem_cons,List.not_mem_nil,or_false] at hy;rcases hy with rfl | rfl<;>dsimp only<;>omega));clear ho6 hk6 hb6 hv6 v0 v1)
 clear HT5 HF5 HV5 HO5
 have e0:=(HF6.out.blk 1 rfl).cell 0
 have e1:=(HF6.out.blk 1 rfl).cell 1
 have e2:=(HF6.out.blk 1 rfl).cell 2
 have e3:=(HF6.out.blk 1 rfl).cell 3
 have e4:=(HF6.out.blk 1 rfl).cell 4
 have e5:=(HF6.out.blk 1 rfl).cell 5
 have HN2:=Lib.hid (HNU.out _ HF6.out.below)
 have HVL:=Lib.hid HV6.out.lt
 go_upto_region 6 with (go_at_call 139;refine HN2.out.mono ?_;rintro e w7 ⟨f6,rfl,hf6,hb7,ho6⟩;have hst6:=fun (a:Addr) (W:World)=>run_store Tryz.prog W a f6 .plain ho6;clear ho6;have HF7:=Lib.hid (HF6.out.next hb7);have HO7:=Lib.hid (HO6.out.below hb7);have HK7:=Lib.hid (HK6.out.below hb7 HK6.out.lt);have HV7:=Lib.hid (HV6.out.below hb7 HV6.out.lt);have HFF:=Lib.hid hf6;clear hf6 hb7 e0 e1 e2 e3 e4 e5;have g0:=HV7.out.cell 0;have g1:=HV7.out.cell 1;have g2:=HV7.out.free 0;have g3:=HV7.out.free 1)
 clear HN2 HNU HF6 HO6 HK6 HV6
 have HV8:=Lib.hid ((HV7.out.set 0 (.int .i64 (numV ex.data.toList l).1)).set 1 f6)
 have HO8:=Lib.hid ((HO7.out.far (p:=⟨bv,0,none⟩) (fun k h=>by have:=h.2;have:=HG5.out;dsimp only at *;omega) (.int .i64 (numV ex.data.toList l).1)).far (p:=⟨bv,1,none⟩) (fun k h=>by have:=h.2;have:=HG5.out;dsimp only at *;omega) f6)
 have HK8:=Lib.hid ((HK7.out.far (p:=⟨bv,0,none⟩) (by have:=HG5.out;dsimp only;omega) (.int .i64 (numV ex.data.toList l).1)).far (p:=⟨bv,1,none⟩) (by have:=HG5.out;dsimp only;omega) f6)
 have HF8:=Lib.hid ((HF7.out.off ⟨bv,0,none⟩ (by have:=HG5.out;have:=HGE.out;dsimp only;omega) (by intro y hy;simp only [List.mem_cons,List.not_mem_nil,or_false] at hy;have:=HG5.out;have:=HGE.out;rcases hy with rfl | rfl<;>dsimp only<;>omega) (.int .i64 (numV ex.data.toList l).1)).off ⟨bv,1,none⟩ (by have:=HG5.out;have:=HGE.out;dsimp only;omega) (by intro y hy;simp only [List.mem_cons,List.not_mem_nil,or_false] at hy;have:=HG5.out;have:=HGE.out;rcases hy with rfl | rfl<;>dsimp only<;>omega) f6)
 have hcl:∀(a:Nat),bv < a→((w7.setCell ⟨bv,0,none⟩ (.int .i64 (numV ex.data.toList l).1)).setCell ⟨bv,1,none⟩ f6).cell? ⟨a,0,none⟩=w7.cell? ⟨a,0,none⟩:=fun a ha=>
  (World.cell?_of_block (Below.heap_setCell _ ⟨bv,1,none⟩ f6 a (by show a≠bv;omega))).trans (World.cell?_of_block (Below.heap_setCell _ ⟨bv,0,none⟩ (.int .i64 (numV ex.data.toList l).1) a (by show a≠bv;omega)))
 have HT8:=Lib.hid (put_any (numV ex.data.toList l).1 (numV ex.data.toList l).2.1 (numV ex.data.toList l).2.2.1 n (numV ex.data.toList l).2.2.2 f6 br (w.heap.size+1+1) (upper s) r1.2 _ _ _ HK8.out HO8.out
  (fun h=>by obtain ⟨a,b,h1,k1,k2,h2,h3,h4,h5⟩:=HFF.out h;exact ⟨a,b,h1,by have:=HVL.out;have:=HG5.out;omega,by have:=HVL.out;have:=HG5.out;omega,by rw [World.size_setCell,World.size_setCell];exact h2,by rw [World.size_setCell,World.size_setCell];exact h3,(hcl a (by have:=HVL.out;omega)).trans h4,(hcl b (by have:=HVL.out;omega)).trans h5⟩)
  (fun h=>⟨(HNL.out h).1,by have h1:=(HNL.out h).2;have:=HLR1.out;omega⟩) (by have:=HGE.out;omega) (fun k hk=>hk) _ _ _ HV8.out HG5.out)
 obtain ⟨W8,hW8⟩:∃W:World,W=(w7.setCell ⟨bv,0,none⟩ (.int .i64 (numV ex.data.toList l).1)).setCell ⟨bv,1,none⟩ f6:=⟨_,rfl⟩
 rw [←hW8] at HF8 HV8 HO8 HK8 HT8 ⊢
 clear hW8 hcl g0 g1 g2 g3 HF7 HO7 HK7 HV7 HFF
 have v0:=HV8.out.cell 0
 have v1:=HV8.out.cell 1
 rw [HR2.out] at HT8
 clear HR1 HR2
 obtain ⟨o1,m1⟩:=r1
 obtain ⟨o2,m2⟩:=r2
 dsimp only at *
 cases o2
 ·have HRN:Hid (R=none):=HR.out
  go_wp2_with (go_at_call 140;refine HT8.out.mono ?_;rintro e w9 ⟨rfl,ho9,hk9,hb9,_⟩;have HF9:=Lib.hid (HF8.out.nextB hb9 (by omega) (by intro y hy;simp only [List.mem_cons,List.not_mem_nil,or_false] at hy;rcases hy with rfl | rfl<;>dsimp only<;>omega));have r0:=(HF9.out.blk 0 rfl).cell 0;have r1:=(HF9.out.blk 0 rfl).cell 1;have r2:=(HF9.out.blk 0 rfl).free 0;have r3:=(HF9.out.blk 0 rfl).free 1;clear ho9 hk9 hb9 v0 v1)
  refine bodyPost_ret (insE_end rfl rfl (((HF9.out.blk 0 rfl).set 0 _).set 1 _)) rfl ?_
  rw [HRN.out]
  exact filQ_none rfl ((HF9.out.below.setCell (p:=⟨w.heap.size+1,0,none⟩) (Nat.le_succ _) _).setCell (p:=⟨w.heap.size+1,1,none⟩) (Nat.le_succ _) _)
 cases o1
 ·have HRN:Hid (R=none):=HR.out
  go_wp2_with (go_at_call 140;refine HT8.out.mono ?_;rintro e w9 ⟨rfl,ho9,hk9,hb9,_⟩;have HF9:=Lib.hid (HF8.out.nextB hb9 (by omega) (by intro y hy;simp only [List.mem_cons,List.not_mem_nil,or_false] at hy;rcases hy with rfl | rfl<;>dsimp only<;>omega));have r0:=(HF9.out.blk 0 rfl).cell 0;have r1:=(HF9.out.blk 0 rfl).cell 1;have r2:=(HF9.out.blk 0 rfl).free 0;have r3:=(HF9.out.blk 0 rfl).free 1;clear ho9 hk9 hb9 v0 v1)
  refine bodyPost_ret (insE_end rfl rfl (((HF9.out.blk 0 rfl).set 0 _).set 1 _)) rfl ?_
  rw [HRN.out]
  exact filQ_none rfl ((HF9.out.below.setCell (p:=⟨w.heap.size+1,0,none⟩) (Nat.le_succ _) _).setCell (p:=⟨w.heap.size+1,1,none⟩) (Nat.le_succ _) _)
 ·have HRN:Hid (R=some m2):=HR.out
  go_wp2_with (go_at_call 140;refine HT8.out.mono ?_;rintro e w9 ⟨rfl,ho9,hk9,hb9,_⟩;have HF9:=Lib.hid (HF8.out.nextB hb9 (by omega) (by intro y hy;simp only [List.mem_cons,List.not_mem_nil,or_false] at hy;rcases hy with rfl | rfl<;>dsimp only<;>omega));have HO9:=Lib.hid ho9;have k0:=hk9.cell 0;have k1:=hk9.cell 1;have r0:=(HF9.out.blk 0 rfl).cell 0;have r1:=(HF9.out.blk 0 rfl).cell 1;have r2:=(HF9.out.blk 0 rfl).free 0;have r3:=(HF9.out.blk 0 rfl).free 1;clear ho9 hk9 hb9 v0 v1)
  refine bodyPost_ret (insE_end rfl rfl (((HF9.out.blk 0 rfl).set 0 _).set 1 _)) rfl ?_
  rw [HRN.out]
  exact filQ_some rfl (((HO9.out.far (p:=⟨w.heap.size+1,0,none⟩) (fun k h=>by have:=h.1;dsimp only at *;omega) _).far (p:=⟨w.heap.size+1,1,none⟩) (fun k h=>by have:=h.1;dsimp only at *;omega) _).mono (fun k hk=>by have:=hk.1;omega)) ((HF9.out.below.setCell (p:=⟨w.heap.size+1,0,none⟩) (Nat.le_succ _) _).setCell (p:=⟨w.heap.size+1,1,none⟩) (Nat.le_succ _) _)
end Go.Proofs.YtnbmbcjnncbaiaaGreatDoor
