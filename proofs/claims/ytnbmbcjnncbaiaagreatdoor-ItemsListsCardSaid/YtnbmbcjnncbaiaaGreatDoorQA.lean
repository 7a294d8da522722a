/-
  The first item of bytes; the decoder's steps. Conditions: the library's table as its initialiser lays it; sizes.
-/
import Derived.Test.YtnbmbcjnncbaiaaGreatDoorPO
import Derived.Test.YtnbmbcjnncbaiaaGreatDoorPM
import Derived.Test.YtnbmbcjnncbaiaaGreatDoorPN
import Derived.Test.YtnbmbcjnncbaiaaGreatDoorQT
import Derived.WalkLawsBesides
namespace Go.Proofs.YtnbmbcjnncbaiaaGreatDoor
set_option maxHeartbeats 16000000
set_option maxRecDepth 100000
open Go.RowKit Go.Shelf Go.Sort
def bAt (l:List UInt8) (k:Nat):Nat:=(l.getD k 0).toNat
theorem bAt_lt (l:List UInt8) (k:Nat):bAt l k < 256:=UInt8.toNat_lt _
theorem bAt_get {l:List UInt8} {k:Nat} (h:k < l.length):bAt l k=(l[k]).toNat:=by simp [bAt,List.getD,List.getElem?_eq_getElem h]
def sg (b:Nat):Int:=if 128≤b then (b:Int) - 256 else b
def rdF:List UInt8→List UInt8→Nat→Int→Int→Int × Int
 | [],_,_,d,n=>(d,n)
 | c::ex,l,k,d,n=>
  if c=100 then rdF ex l (k+1) (sg (bAt l k)) n
  else if c=101 then rdF ex l (k+1) d (sg (bAt l k))
  else if c=110 then rdF ex l (k+1) d (bAt l k)
  else rdF ex l (k+2) d ((bAt l k:Int)+256 * bAt l (k+1))
def rdN:List UInt8→Nat
 | []=>0
 | c::ex=>(if c=119 then 2 else 1)+rdN ex
theorem rdN_le:∀ex:List UInt8,ex.length≤rdN ex∧rdN ex≤2 * ex.length
 | []=>by simp [rdN]
 | c::ex=>by
  have:=rdN_le ex
  rw [rdN,List.length_cons]
  split<;>omega
theorem rdN_lenX:∀ex:List UInt8,lenX ex=(rdN ex:Int)
 | []=>rfl
 | c::ex=>by
  have e:((c.toNat:Int)==119)=true↔c=119:=by
   rw [beq_iff_eq]
   constructor
   ·intro h;exact UInt8.toNat_inj.1 (by show c.toNat=119;omega)
   ·rintro rfl;rfl
  rw [lenX,rdN,rdN_lenX ex]
  by_cases h:c=119
  ·rw [if_pos (e.2 h),if_pos h];omega
  ·rw [if_neg (fun k=>h (e.1 k)),if_neg h];omega
theorem rdN_count:∀ex:List UInt8,(ex.length:Int)+(Lib.countByte ex 119:Int)=(rdN ex:Int)
 | []=>rfl
 | c::ex=>by
  have ih:=rdN_count ex
  rw [rdN,List.length_cons]
  unfold Lib.countByte at ih ⊢
  by_cases h:c=119
  ·subst h;rw [List.count_cons_self,if_pos rfl];omega
  ·rw [List.count_cons_of_ne h,if_neg h];omega
structure Itm where
 k:Int
 n:Nat
 op:List UInt8
 args:List Opd
 al:Bool
def sizF (e:EntV):Nat:=(prefF e.pg).length+1+rdN e.ex
def pos (p:Nat):Nat:=(prefF p).length+(if 5≤p then 1 else 0)
def pgB (l:List UInt8):Nat:=
 if bAt l 0=203 then 1 else if bAt l 0=237 then 2
 else if bAt l 0=221 then (if 1 < l.length∧bAt l 1=203 then 5 else 3)
 else if bAt l 0=253 then (if 1 < l.length∧bAt l 1=203 then 6 else 4) else 0
def insF (e:EntV) (d n:Int):List UInt8 × List Opd:=match fillF e.ex e.args d n with | some c=>(e.iop,c) | none=>([],[])
def numB (p:Nat) (e:EntV) (l:List UInt8):Int × Int:=rdF e.ex l (if 5≤p then 2 else pos p+1) 0 0
def itE (p:Nat) (e:EntV) (l:List UInt8):Itm:=
 if l.length < sizF e then ⟨4,l.length,[],[],false⟩
 else ⟨1,sizF e,(insF e (numB p e l).1 (numB p e l).2).1,(insF e (numB p e l).1 (numB p e l).2).2,e.al⟩
def itS (p:Nat) (l:List UInt8):Itm:=
 if l.length≤pos p then ⟨4,l.length,[],[],false⟩
 else match atF p (bAt l (pos p)) with
  | (some e,_)=>itE p e l
  | (none,k)=>if k=0 then ⟨2,1,[],[],false⟩ else ⟨3,2,[],[],false⟩
def itF (l:List UInt8):Itm:=itS (pgB l) l
def isPre (p x:Nat):Bool:=((p==0)&&((x==203) || ((x==237) || ((x==221) || (x==253))))) || (((p==3) || (p==4))&&(x==203))
def nx (p x:Nat):Nat:=if p=0 then (if x=203 then 1 else if x=237 then 2 else if x=221 then 3 else 4) else p+2
def chkD (p x:Nat):Bool:=match atF p x with
 | (none,k)=>((k==2)&&isPre p x) || (!isPre p x&&(((k==0)&&((p==3) || (p==4))) || ((k==3)&&(p==2))))
 | (some e,k)=>!isPre p x&&((k==1)&&decide (p < 5∨e.ex=[100]))
theorem ckd:∀p:Fin 7,∀x:Fin 256,chkD p.val x.val=true:=by decide+kernel
theorem at_pre {p x:Nat} (hp:p < 7) (hx:x < 256) (h:isPre p x=true):atF p x=(none,2):=by
 have:=ckd ⟨p,hp⟩ ⟨x,hx⟩
 unfold chkD at this
 dsimp only at this
 rw [h] at this
 cases hA:atF p x with
 | mk o k=>
  rw [hA] at this
  cases o with
  | none=>simp at this;rw [this]
  | some e=>simp at this
theorem at_none {p x:Nat} {k:Int} (hp:p < 7) (hx:x < 256) (h:isPre p x=false) (ha:atF p x=(none,k)):(k=0∧(p=3∨p=4))∨(k=3∧p=2):=by
 have:=ckd ⟨p,hp⟩ ⟨x,hx⟩
 unfold chkD at this
 dsimp only at this
 rw [h,ha] at this
 simpa using this
theorem at_some {p x:Nat} {k:Int} {e:EntV} (hp:p < 7) (hx:x < 256) (ha:atF p x=(some e,k)):k=1∧isPre p x=false∧(p < 5∨e.ex=[100]):=by
 have:=ckd ⟨p,hp⟩ ⟨x,hx⟩
 unfold chkD at this
 dsimp only at this
 rw [ha] at this
 obtain ⟨h1,h2⟩:=Bool.and_eq_true_iff.1 this
 obtain ⟨h2,h3⟩:=Bool.and_eq_true_iff.1 h2
 exact ⟨eq_of_beq h2,by simpa using h1,of_decide_eq_true h3⟩
theorem prefs:∀p:Fin 7,pageF (prefF p.val) 7 0=some p.val:=by decide+kernel
structure PgI (p:Nat) (l:List UInt8):Prop where
 lt:p < 7
 le:(prefF p).length≤l.length
 adv:(if p=0 then pgB l else if (p=3∨p=4)∧1 < l.length∧bAt l 1=203 then p+2 else p)=pgB l
theorem pgI0 (l:List UInt8):PgI 0 l:=⟨by decide,Nat.zero_le _,rfl⟩
theorem PgI.stop {p:Nat} {l:List UInt8} (h:PgI p l) (hl:0 < l.length) (hs:l.length≤pos p∨isPre p (bAt l (pos p))=false):pgB l=p:=by
 obtain ⟨h1,h2,h3⟩:=h
 have:p=0∨p=1∨p=2∨p=3∨p=4∨p=5∨p=6:=by omega
 rcases this with rfl | rfl | rfl | rfl | rfl | rfl | rfl
 ·rcases hs with hs | hs
  ·exact absurd hs (by show ¬l.length≤0;omega)
  ·have hs:isPre 0 (bAt l 0)=false:=hs
   simp [isPre] at hs
   unfold pgB
   rw [if_neg hs.1,if_neg hs.2.1,if_neg hs.2.2.1,if_neg hs.2.2.2]
 ·exact h3.symm
 ·exact h3.symm
 ·rcases hs with hs | hs
  ·have hs:l.length≤1:=hs
   rw [if_neg (by decide),if_neg (by omega)] at h3;exact h3.symm
  ·have hs:isPre 3 (bAt l 1)=false:=hs
   simp [isPre] at hs
   rw [if_neg (by decide),if_neg (by omega)] at h3;exact h3.symm
 ·rcases hs with hs | hs
  ·have hs:l.length≤1:=hs
   rw [if_neg (by decide),if_neg (by omega)] at h3;exact h3.symm
  ·have hs:isPre 4 (bAt l 1)=false:=hs
   simp [isPre] at hs
   rw [if_neg (by decide),if_neg (by omega)] at h3;exact h3.symm
 ·exact h3.symm
 ·exact h3.symm
theorem PgI.go {p:Nat} {l:List UInt8} (h:PgI p l) (hl:pos p < l.length) (hs:isPre p (bAt l (pos p))=true):PgI (nx p (bAt l (pos p))) l∧p < nx p (bAt l (pos p))∧prefF (nx p (bAt l (pos p)))=prefF p++[l[pos p]]:=by
 obtain ⟨h1,h2,h3⟩:=h
 have hb:=bAt_get hl
 have:p=0∨p=1∨p=2∨p=3∨p=4∨p=5∨p=6:=by omega
 rcases this with rfl | rfl | rfl | rfl | rfl | rfl | rfl
 ·have e:pos ((0:Nat):Int).toNat=0:=rfl
  have hs:isPre 0 (bAt l 0)=true:=hs
  have hl:0 < l.length:=hl
  have hb:bAt l 0=l[0].toNat:=hb
  simp [isPre] at hs
  show PgI (nx 0 (bAt l 0)) l∧0 < nx 0 (bAt l 0)∧prefF (nx 0 (bAt l 0))=prefF 0++[l[0]]
  have key:∀(x:UInt8) (q:Nat),bAt l 0=x.toNat→nx 0 x.toNat=q→prefF q=[x]→0 < q→q < 7→q < 5→(if (q=3∨q=4)∧1 < l.length∧bAt l 1=203 then q+2 else q)=pgB l→PgI (nx 0 (bAt l 0)) l∧0 < nx 0 (bAt l 0)∧prefF (nx 0 (bAt l 0))=prefF 0++[l[0]]:=by
   intro x q e1 e2 e3 e4 e5 e6 e7
   have e8:l[0]=x:=UInt8.toNat_inj.1 (hb.symm.trans e1)
   rw [e1,e2,e8]
   exact ⟨⟨e5,by rw [e3];exact hl,by rw [if_neg (by omega)];exact e7⟩,e4,by rw [e3];rfl⟩
  rcases hs with hs | hs | hs | hs
  ·exact key 203 1 hs rfl rfl (by decide) (by decide) (by decide) (by rw [show pgB l=1 by unfold pgB;rw [if_pos hs]];rfl)
  ·have n1:¬bAt l 0=203:=by rw [hs];decide
   exact key 237 2 hs rfl rfl (by decide) (by decide) (by decide) (by rw [show pgB l=2 by unfold pgB;rw [if_neg n1,if_pos hs]];rfl)
  ·have n1:¬bAt l 0=203:=by rw [hs];decide
   have n2:¬bAt l 0=237:=by rw [hs];decide
   exact key 221 3 hs rfl rfl (by decide) (by decide) (by decide) (by unfold pgB;rw [if_neg n1,if_neg n2,if_pos hs];simp)
  ·have n1:¬bAt l 0=203:=by rw [hs];decide
   have n2:¬bAt l 0=237:=by rw [hs];decide
   have n3:¬bAt l 0=221:=by rw [hs];decide
   exact key 253 4 hs rfl rfl (by decide) (by decide) (by decide) (by unfold pgB;rw [if_neg n1,if_neg n2,if_neg n3,if_pos hs];simp)
 ·simp [isPre] at hs
 ·simp [isPre] at hs
 ·have hs:isPre 3 (bAt l 1)=true:=hs
  have hl:1 < l.length:=hl
  have hb:bAt l 1=l[1].toNat:=hb
  simp [isPre] at hs
  have e8:l[1]=203:=UInt8.toNat_inj.1 (hb.symm.trans hs)
  exact ⟨⟨by show 5 < 7;decide,by show 2≤l.length;omega,by rw [if_neg (by decide),if_pos ⟨.inl rfl,hl,hs⟩] at h3;exact h3⟩,by show 3 < 5;decide,by show prefF 5=prefF 3++[l[1]];rw [e8];rfl⟩
 ·have hs:isPre 4 (bAt l 1)=true:=hs
  have hl:1 < l.length:=hl
  have hb:bAt l 1=l[1].toNat:=hb
  simp [isPre] at hs
  have e8:l[1]=203:=UInt8.toNat_inj.1 (hb.symm.trans hs)
  exact ⟨⟨by show 6 < 7;decide,by show 2≤l.length;omega,by rw [if_neg (by decide),if_pos ⟨.inr rfl,hl,hs⟩] at h3;exact h3⟩,by show 4 < 6;decide,by show prefF 6=prefF 4++[l[1]];rw [e8];rfl⟩
 ·simp [isPre] at hs
 ·simp [isPre] at hs
theorem pgB_pre {l:List UInt8}:pgB l < 7∧(pos (pgB l) < l.length→isPre (pgB l) (bAt l (pos (pgB l)))=false):=by
 by_cases h1:bAt l 0=203
 ·rw [show pgB l=1 by unfold pgB;rw [if_pos h1]];exact ⟨by decide,fun _=>by simp [isPre]⟩
 by_cases h2:bAt l 0=237
 ·rw [show pgB l=2 by unfold pgB;rw [if_neg h1,if_pos h2]];exact ⟨by decide,fun _=>by simp [isPre]⟩
 by_cases h3:bAt l 0=221
 ·by_cases h4:1 < l.length∧bAt l 1=203
  ·rw [show pgB l=5 by unfold pgB;rw [if_neg h1,if_neg h2,if_pos h3,if_pos h4]];exact ⟨by decide,fun _=>by simp [isPre]⟩
  ·rw [show pgB l=3 by unfold pgB;rw [if_neg h1,if_neg h2,if_pos h3,if_neg h4]]
   refine ⟨by decide,fun h=>?_⟩
   have h:1 < l.length:=h
   show isPre 3 (bAt l 1)=false
   simp [isPre];omega
 by_cases h5:bAt l 0=253
 ·by_cases h4:1 < l.length∧bAt l 1=203
  ·rw [show pgB l=6 by unfold pgB;rw [if_neg h1,if_neg h2,if_neg h3,if_pos h5,if_pos h4]];exact ⟨by decide,fun _=>by simp [isPre]⟩
  ·rw [show pgB l=4 by unfold pgB;rw [if_neg h1,if_neg h2,if_neg h3,if_pos h5,if_neg h4]]
   refine ⟨by decide,fun h=>?_⟩
   have h:1 < l.length:=h
   show isPre 4 (bAt l 1)=false
   simp [isPre];omega
 ·rw [show pgB l=0 by unfold pgB;rw [if_neg h1,if_neg h2,if_neg h3,if_neg h5]]
  refine ⟨by decide,fun _=>?_⟩
  show isPre 0 (bAt l 0)=false
  simp [isPre];omega
def chkX (p x:Nat):Bool:=match (atF p x).1 with
 | some e=>(e.ex==[119]) || !(e.ex.contains 119)
 | none=>true
theorem ckx:∀p:Fin 7,∀x:Fin 256,chkX p.val x.val=true:=by decide+kernel
theorem at_word {p x:Nat} (hp:p < 7) (hx:x < 256) {e:EntV} (he:(atF p x).1=some e):e.ex=[119]∨¬(119:UInt8)∈e.ex:=by
 have:=ckx ⟨p,hp⟩ ⟨x,hx⟩
 unfold chkX at this
 dsimp only at this
 rw [he] at this
 rcases Bool.or_eq_true_iff.1 this with h | h
 ·exact .inl (eq_of_beq h)
 ·exact .inr (by simpa using h)
end Go.Proofs.YtnbmbcjnncbaiaaGreatDoor
namespace Go.Proofs.YtnbmbcjnncbaiaaGreatDoor
set_option maxHeartbeats 16000000
set_option maxRecDepth 100000
open Go.RowKit Go.Shelf Go.Sort
abbrev tDec:TypeId:=81
abbrev missP:List PanicEntry:=[{v:=.iface 117 (.agg #[]),recovered:=false}]
theorem dtake_no (g:Nat) (cs:Array Value) (a:Option Addr) (m c:Nat) (k:Nat) (w:World) (h:Blk w g tDec cs) (h0:cs[0]?=some (.slice a m c)) (h1:cs[1]?=some (.int .i64 k)) (hk:m≤k):
  Calls Tryz.prog 108 #[.pointer (some ⟨g,0,none⟩)] w fun e w'=>e=.panicked missP∧Below w.heap.size w w':=by
 have f0:w.cell? ⟨g,0,none⟩=some (.slice a m c):=(h.cell 0).trans h0
 have f1:w.cell? ⟨g,1,none⟩=some (.int .i64 k):=(h.cell 1).trans h1
 have hk':(m:Int)≤(k:Int):=by omega
 clear h h0 h1 hk
 go_enter Tryz.func108,Tryz.ntmps108
 go_wp2
 go_quiet (fail)
 go_wp2
 exact ⟨rfl,rfl,below_dN (Below.refl _ _) _⟩
theorem dtake_yes (g:Nat) (cs:Array Value) (p:Blocks) (a:Option Addr) (c:Nat) (l:List UInt8) (k:Nat) (w:World) (h:Blk w g tDec cs) (h0:cs[0]?=some (.slice a l.length c)) (h1:cs[1]?=some (.int .i64 k)) (hs:SlR byteR w p (.slice a l.length c) l) (hp:∀b,p b→b≠g) (hk:k < l.length) (hl:l.length≤1000000):
  Calls Tryz.prog 108 #[.pointer (some ⟨g,0,none⟩)] w fun e w'=>e=.returned (.int .u8 (bAt l k))∧Blk w' g tDec (cs.setIfInBounds 1 (.int .i64 ((k+1:Nat):Int)))∧w.grownBy w' (some g):=by
 have f0:w.cell? ⟨g,0,none⟩=some (.slice a l.length c):=(h.cell 0).trans h0
 have f1:w.cell? ⟨g,1,none⟩=some (.int .i64 k):=(h.cell 1).trans h1
 have g1:w.frozen? ⟨g,1,none⟩=false:=h.free 1
 obtain ⟨a',c',e,_,_,gg⟩:=hs.byte
 obtain ⟨rfl,rfl⟩:a=a'∧c=c':=by injection e with h1 h2 h3;exact ⟨h1,h3⟩
 obtain ⟨b,o,rfl,hb,hc⟩:=gg k l[k] (List.getElem?_eq_getElem hk)
 have hbg:=hp b hb
 have hB:=Lib.hid (bAt_get hk)
 have HB:=Lib.hid (h.set 1 (.int .i64 ((k+1:Nat):Int)))
 have k1:IntKind.i64.wrap (k:Int)=k:=by rw [IntKind.wrap_i64];omega
 have F2:∀n v,((w.drewN n).setCell ⟨g,1,none⟩ v).cell? ⟨b,o+k,none⟩=some (.int .u8 l[k].toNat):=fun n v=>(World.cell?_setCell_other _ _ _ _ (by simp)).trans hc
 rw [hB.out]
 clear h h0 h1 hs e gg hb hp hc hB
 generalize l[k].toNat=z at *
 generalize l.length=m at *
 have hk':(k:Int) < (m:Int):=by omega
 go_enter Tryz.func108,Tryz.ntmps108
 go_wp2
 go_quiet (fail)
 go_wp2
 go_quiet (fail)
 go_wp2
 go_ret
 exact ⟨rfl,HB.out,⟨rfl,rfl,rfl,by simp,fun i _ hi=>Below.heap_setCell _ _ _ _ (fun e=>hi (by rw [e]))⟩⟩
def dcC (vb vq:Value) (pg op:Int) (iop:ByteArray) (va:Value) (ex:ByteArray) (al:Bool) (k:Nat) (d n:Int):Array Value:=#[vb,.int .i64 k,vq,.int .i64 pg,.int .u8 op,.string iop,va,.string ex,.bool al,.int .i64 d,.int .i64 n]
theorem SlR.cutB {w:World} {p:Blocks} {a:Option Addr} {n c m:Nat} {xs:List UInt8} (h:SlR byteR w p (.slice a n c) xs) (hm:m≤xs.length):SlR byteR w p (.slice a m c) (xs.take m)∧n=xs.length∧n≤c∧c≤9223372036854775807:=by
 obtain ⟨a2,c2,e,h1,h2,h3⟩:=h
 injection e with e1 e2 e3
 subst e1 e2 e3
 have hl:(xs.take m).length=m:=by rw [List.length_take];omega
 refine ⟨⟨a,c,by rw [hl],by omega,h2,fun i x hx=>h3 i x ?_⟩,rfl,h1,by simpa [maxLen] using h2⟩
 rw [List.getElem?_take] at hx
 split at hx
 ·exact hx
 ·cases hx
theorem cut_to (ad:Addr) (len cap h:Nat) (h2:h≤cap) (W:World):(Instr.sliceAt 22 (.slice (some ad) len cap) none (some (.int .i64 (h:Int))) none).run Tryz.prog W=.ok (.slice (some ad) h cap) W:=by
 rw [run_sliceAt_slice _ _ _ _ _ _ (by kernel_rfl),run_slice_h W _ (some ad) len cap (by kernel_rfl) .i64 (h:Int) (by omega) (by omega)]
 go_simp
theorem BClone_any (p:Blocks) (ad:Addr) (m c:Nat) (l:List UInt8) (w:World) (h:SlR byteR w p (.slice (some ad) m c) l) (hn:l.length≤1000000):
  Calls Tryz.prog 105 #[.slice (some ad) m c] w fun e w'=>∃v',e=.returned v'∧Own byteR w' w.heap.size 5 NoB v' l∧Below w.heap.size w w':=by
 have HN:=Lib.hid hn
 clear hn
 obtain ⟨a',c',e,_,_,_⟩:=h.byte
 obtain ⟨rfl,rfl⟩:m=l.length∧c=c':=by injection e with h1 h2 h3;exact ⟨h2,h3⟩
 have HH:=Lib.hid h
 clear h e
 have heq:=fun wx a n c=>Lib.run_eql_slice_nil (P:=Tryz.prog) wx 22 5 a n c 0 0 Tryz.underlying22
 go_enter Tryz.func105,Tryz.ntmps105
 have HB:Below w.heap.size w (w.alloc (.cells #[] 5)):=(Below.refl _ _).alloc (Nat.le_refl _) _
 have HX:Hid (SlR byteR (w.alloc (.cells #[] 5)) (fun k=>p k∧k < w.heap.size) (.slice (some ad) l.length c) l):=HH.out.old.below HB
 have HO:Hid (Own byteR (w.alloc (.cells #[] 5)) w.heap.size 5 NoB (.slice (some ⟨w.heap.size,0,none⟩) 0 0) []):=Own.made w _ _
 have C2:Hid (∀k,p k∧k < w.heap.size→some k≠Value.ownBlock (.slice (some ⟨w.heap.size,0,none⟩) 0 0)):=fun k hk e=>by simp [Value.ownBlock] at e;omega
 have C3:Hid (([]:List UInt8).length+l.length≤1000000):=by have:=HN.out;simp;omega
 go_wp2_with (at_builtin;refine wpList_append_R _ rfl (.tmp 5) (.tmp 6) 22 rfl w.heap.size 5 1 elByte NoB _ _ _ [] l rfl rfl HO.out HX.out (fun _ h=>False.elim h) C2.out (by have:=C3.out;omega) (by have:=C3.out;omega) HB.size ?_;intro v' w' hap;have HAP:=Lib.hid hap;clear hap)
 obtain ⟨ho,hg,_⟩:=HAP.out
 go_ret
 exact ⟨_,rfl,ho.flat NoB,HB.grown hg HB.size (fun k hk=>by cases hk;exact Nat.le_refl _)⟩
theorem raw_any (g:Nat) (cs:Array Value) (p:Blocks) (ad:Addr) (c:Nat) (l:List UInt8) (n:Nat) (w:World) (h:Blk w g tDec cs) (h0:cs[0]?=some (.slice (some ad) l.length c)) (hs:SlR byteR w p (.slice (some ad) l.length c) l) (hn:n≤l.length) (hl:l.length≤1000000):
  Calls Tryz.prog 78 #[.pointer (some ⟨g,0,none⟩),.int .i64 n] w fun e w'=>∃v',e=.returned v'∧Own byteR w' w.heap.size 5 NoB v' (l.take n)∧Below w.heap.size w w':=by
 have f0:w.cell? ⟨g,0,none⟩=some (.slice (some ad) l.length c):=(h.cell 0).trans h0
 obtain ⟨hs2,_,hc,_⟩:=hs.cutB hn
 have hcut:=cut_to ad l.length c n (by omega)
 have HC:=Lib.hid (BClone_any p ad n c (l.take n) w hs2 (by rw [List.length_take];omega))
 clear hs2 hs h h0
 generalize l.take n=l2 at *
 generalize l.length=m at *
 go_enter Tryz.func78,Tryz.ntmps78
 go_wp2_with (go_at_call 105;refine HC.out.mono ?_;rintro e w1 ⟨v1,rfl,ho,hb⟩;have H1:=Lib.hid ho;have H2:=Lib.hid hb;clear ho hb)
 go_ret
 exact ⟨_,rfl,H1.out,H2.out⟩
theorem sg_wrap {b:Nat} (hb:b < 256):IntKind.i8.wrap (b:Int)=sg b∧IntKind.i64.wrap (sg b)=sg b:=by
 unfold sg
 constructor
 ·have h8:(2:Int) ^ IntKind.i8.bits=256:=by decide
  have h7:(2:Int) ^ (IntKind.i8.bits - 1)=128:=by decide
  have hm:(b:Int) % 256=b:=by omega
  have hs:IntKind.i8.signed=true:=rfl
  simp only [IntKind.wrap,h8,h7,hm,hs,Bool.true_and,decide_eq_true_eq]
  by_cases h:128≤b
  ·rw [if_pos h,if_pos (by omega)]
  ·rw [if_neg h,if_neg (by omega)]
 ·rw [IntKind.wrap_i64];split<;>omega
theorem signed_any (b:Nat) (hb:b < 256) (w:World):Calls Tryz.prog 146 #[.int .u8 b] w fun e w'=>e=.returned (.int .i64 (sg b))∧w'=w:=by
 obtain ⟨h1,h2⟩:=sg_wrap hb
 go_enter Tryz.func146,Tryz.ntmps146
 go_wp2
 go_ret
 exact ⟨rfl,rfl⟩
theorem signed01_any (b:Nat) (hb:b < 256) (w:World):Calls Tryz.prog 58 #[.int .u8 b] w fun e w'=>e=.returned (.int .i64 (sg b))∧w'=w:=by
 cases h:decide (128≤b)
 ·have h:=of_decide_eq_false h
  have hs:sg b=b:=by unfold sg;rw [if_neg h]
  rw [hs]
  have h3:¬((128:Int)≤(b:Int)):=by omega
  have h4:IntKind.i64.wrap (b:Int)=b:=by rw [IntKind.wrap_i64];omega
  clear hs h
  go_enter Tryz.func58,Tryz.ntmps58
  go_wp2
  go_ret
  exact ⟨rfl,rfl⟩
 ·have h:=of_decide_eq_true h
  have hs:sg b=(b:Int) - 256:=by unfold sg;rw [if_pos h]
  rw [hs]
  have h3:(128:Int)≤(b:Int):=by omega
  have h4:IntKind.i64.wrap (b:Int)=b:=by rw [IntKind.wrap_i64];omega
  have h5:IntKind.i64.wrap ((b:Int) - 256)=(b:Int) - 256:=by rw [IntKind.wrap_i64];omega
  clear hs h
  go_enter Tryz.func58,Tryz.ntmps58
  go_wp2
  go_ret
  exact ⟨rfl,rfl⟩
end Go.Proofs.YtnbmbcjnncbaiaaGreatDoor
namespace Go.Proofs.YtnbmbcjnncbaiaaGreatDoor
set_option maxHeartbeats 16000000
set_option maxRecDepth 100000
open Go.RowKit Go.Shelf Go.Sort
theorem dgrown_put {w w1:World} {g b:Nat} (h:w.grownBy w1 (some g)) (hb:w.heap.size≤b) (o:Obj):w.grownBy (w1.putObj b o) (some g):=
 ⟨h.os,h.tape,h.output,by rw [World.putObj_size];exact h.size,fun k hk hr=>(World.putObj_heap_other (by omega)).trans (h.block k hk hr)⟩
theorem dgrown_set {w w1:World} {g:Nat} (h:w.grownBy w1 (some g)) (i:Nat) (v:Value):w.grownBy (w1.setCell ⟨g,i,none⟩ v) (some g):=
 ⟨h.os,h.tape,h.output,by rw [World.size_setCell];exact h.size,fun k hk hr=>(Below.heap_setCell _ _ _ _ (fun e=>hr (by rw [e]))).trans (h.block k hk hr)⟩
theorem grown_2 {w w1 w2:World} {g:Nat} (h:w.grownBy w1 (some g)) (h2:w1.grownBy w2 (some g)):w.grownBy w2 (some g):=grown_step h h2
theorem putObj_blk {w:World} {g b:Nat} {t:TypeId} {cs:Array Value} (h:Blk w g t cs) (hb:g≠b) (o:Obj):Blk (w.putObj b o) g t cs:=(World.putObj_heap_other hb).trans h
theorem World.heap_setCell_iter {w:World} {ib g i:Nat} {ex:ByteArray} {j:Nat} {v:Value} (h:w.heap[ib]?=some (.stringIter ex j)) (hne:g≠ib):(w.setCell ⟨g,i,none⟩ v).heap[ib]?=some (.stringIter ex j):=(Below.heap_setCell _ _ _ _ (fun e=>hne e.symm)).trans h
theorem rdN_pos {ex:List UInt8} (h:ex≠[]):0 < rdN ex:=by
 cases ex with
 | nil=>exact absurd rfl h
 | cons c ex=>rw [rdN];split<;>omega
def ExtP (w:World) (g:Nat) (E:Nat→Int→Int→Array Value) (L K:Nat) (r:Int × Int) (e:Ending) (w':World):Prop:=
 w.grownBy w' (some g)∧(if K≤L then e=.returned (.tuple #[])∧Blk w' g tDec (E K r.1 r.2) else e=.panicked missP∧∃k d n,Blk w' g tDec (E k d n))
theorem ExtP.no {w w':World} {g:Nat} {E:Nat→Int→Int→Array Value} {L K k:Nat} {r:Int × Int} {d n:Int} (h:¬K≤L) (hg:w.grownBy w' (some g)) (hb:Blk w' g tDec (E k d n)):ExtP w g E L K r (.panicked missP) w':=⟨hg,by rw [if_neg h];exact ⟨rfl,k,d,n,hb⟩⟩
theorem ExtP.yes {w w':World} {g:Nat} {E:Nat→Int→Int→Array Value} {L K:Nat} {r:Int × Int} {v:Value} (h:K≤L) (hv:v=.tuple #[]) (hg:w.grownBy w' (some g)) (hb:Blk w' g tDec (E K r.1 r.2)):ExtP w g E L K r (.returned v) w':=⟨hg,by rw [if_pos h,hv];exact ⟨rfl,hb⟩⟩
theorem extra_any (g:Nat) (a:Option Addr) (c:Nat) (vq:Value) (pg op:Int) (iop:ByteArray) (va:Value) (xb:ByteArray) (al:Bool) (ex:ByteArray) (hex:∀k (h:k < ex.size),okLet ex[k]) (hes:ex.size≤1000) (p:Blocks) (l:List UInt8) (hp:∀b,p b→b≠g) (hl:l.length≤1000000) (k:Nat) (hk:k≤l.length) (d n:Int) (w:World)
  (h:Blk w g tDec (dcC (.slice a l.length c) vq pg op iop va xb al k d n)) (hs:SlR byteR w p (.slice a l.length c) l):
  Calls Tryz.prog 107 #[.pointer (some ⟨g,0,none⟩),.string ex] w (ExtP w g (dcC (.slice a l.length c) vq pg op iop va xb al) l.length (k+rdN ex.data.toList) (rdF ex.data.toList l k d n)):=by
 have HEX:=Lib.hid hex
 have HES:=Lib.hid hes
 have HP:=Lib.hid hp
 have HL:=Lib.hid hl
 have HK:=Lib.hid hk
 have HB:=Lib.hid h
 have HS:=Lib.hid hs
 clear hex hes hp hl hk h hs
 obtain ⟨E,hE⟩:∃E,E=dcC (.slice a l.length c) vq pg op iop va xb al:=⟨_,rfl⟩
 rw [←hE] at HB ⊢
 have HE:=Lib.hid hE
 clear hE
 have HI:Hid ((w.iter ex 0).heap[w.heap.size]?=some (.stringIter ex 0)):=World.iter_heap w ex 0
 have HG:Hid (w.grownBy (w.iter ex 0) (some g)):=Lib.hid (grown_of g ((Below.refl _ _).alloc (Nat.le_refl _) _))
 have HB0:Hid (Blk (w.iter ex 0) g tDec (E k d n)):=Lib.hid (HB.out.alloc _)
 have HGL:Hid (g < w.heap.size):=HB.out.lt
 go_enter Tryz.func107,Tryz.ntmps107
 go_wp2
 generalize w.iter ex 0=W0 at *
 obtain ⟨ib,hib⟩:∃ib,ib=w.heap.size:=⟨_,rfl⟩
 rw [←hib]
 have HIB:=Lib.hid hib
 have HNE:Hid (g≠ib):=Lib.hid (by have:=HGL.out;have:=HIB.out;omega)
 have HSG:Hid (∀W,w.grownBy W (some g)→SlR byteR W p (.slice a l.length c) l):=Lib.hid (fun W hW=>(HS.out.old.keep (Keep.grown hW (fun k hk=>⟨hk.2,fun e=>HP.out k hk.1 (Option.some.inj e)⟩))).mono (fun k hk=>hk.1))
 have HE0:Hid (∀k d n,(E k d n)[0]?=some (.slice a l.length c)):=Lib.hid (fun k d n=>by rw [HE.out];rfl)
 have HE1:Hid (∀(k:Nat) d n,(E k d n)[1]?=some (.int .i64 k)):=Lib.hid (fun k d n=>by rw [HE.out];rfl)
 have HE9:Hid (∀(k:Nat) d n,(E k d n)[9]?=some (.int .i64 d)):=Lib.hid (fun k d n=>by rw [HE.out];rfl)
 have HE10:Hid (∀(k:Nat) d n,(E k d n)[10]?=some (.int .i64 n)):=Lib.hid (fun k d n=>by rw [HE.out];rfl)
 have HS1:Hid (∀(k k':Nat) d n,(E k d n).setIfInBounds 1 (.int .i64 k')=E k' d n):=Lib.hid (fun k k' d n=>by rw [HE.out];rfl)
 have HS9:Hid (∀(k:Nat) d d' n,(E k d n).setIfInBounds 9 (.int .i64 d')=E k d' n):=Lib.hid (fun k d d' n=>by rw [HE.out];rfl)
 have HS10:Hid (∀(k:Nat) d n n',(E k d n).setIfInBounds 10 (.int .i64 n')=E k d n'):=Lib.hid (fun k d n n'=>by rw [HE.out];rfl)
 clear HE HS HB hib
 rw [←HIB.out] at HI
 go_loopw [5,6] (fun _ _ wr=>∃j kk dd nn,j≤ex.size∧wr.heap[ib]?=some (.stringIter ex j)∧w.grownBy wr (some g)∧Blk wr g tDec (E kk dd nn)∧kk≤l.length∧kk+rdN (ex.data.toList.drop j)=k+rdN ex.data.toList∧rdF (ex.data.toList.drop j) l kk dd nn=rdF ex.data.toList l k d n) (fun _ _ wr=>iterLeft wr ib)
 case atStart=>exact ⟨0,k,d,n,Nat.zero_le _,HI.out,HG.out,HB0.out,HK.out,rfl,rfl⟩
 case round=>
  obtain ⟨j,kk,dd,nn,hj,hi,hg,hb,hkk,hn,hr⟩:=hrel
  clear HI HG HB0
  have HB:=Lib.hid hb
  have HG:=Lib.hid hg
  have HN:=Lib.hid hn
  have HR:=Lib.hid hr
  have HML:=Lib.hid (iterLeft_eq hi)
  clear hg hb hn hr
  by_cases hlt:j < ex.size
  ·have hlet:=HEX.out j hlt
   have hnx:=fun ty=>run_next_at (W:=wr) ty hi hlt (by rcases hlet with e | e | e | e<;>rw [e]<;>decide)
   have HI9:=Lib.hid (World.putObj_heap_same (w:=wr) (r:=ib) (o:=.stringIter ex (j+1)) (Array.getElem?_eq_some_iff.1 hi).1)
   have HB9:=Lib.hid (putObj_blk HB.out HNE.out (.stringIter ex (j+1)))
   have HG9:=Lib.hid (dgrown_put HG.out (Nat.le_of_eq HIB.out.symm) (.stringIter ex (j+1)))
   have HS9':=Lib.hid (HSG.out _ HG9.out)
   have HJ:=Lib.hid hlt
   have HD:Hid (ex.data.toList.drop j=ex[j]::ex.data.toList.drop (j+1)):=Lib.hid (by rw [List.drop_eq_getElem_cons (by simpa using hlt)];rfl)
   generalize hW9:wr.putObj ib (.stringIter ex (j+1))=W9 at *
   clear hi HG HB hj hW9
   generalize ex[j]=b9 at *
   rcases hlet with rfl | rfl | rfl | rfl
   ·by_cases hk9:kk < l.length
    ·have HLT9:=Lib.hid hk9
     have HR9:Hid (rdF (ex.data.toList.drop (j+1)) l (kk+1) (sg (bAt l kk)) nn=rdF ex.data.toList l k d n):=Lib.hid (HR.out.symm.trans (by rw [HD.out];rfl)).symm
     have HN9:Hid (kk+1+rdN (ex.data.toList.drop (j+1))=k+rdN ex.data.toList):=Lib.hid (by rw [←HN.out,HD.out,rdN,if_neg (by decide)];omega)
     have hw9:IntKind.i64.wrap (bAt l kk:Int)=bAt l kk:=by have:=bAt_lt l kk;rw [IntKind.wrap_i64];omega
     clear HR HN HD hk9
     go_wp2_with (first
      | (go_at_call 108;refine (dtake_yes g _ p a c l kk _ HB9.out (HE0.out _ _ _) (HE1.out _ _ _) HS9'.out HP.out HLT9.out HL.out).mono ?_;rintro e w2 ⟨rfl,hb2,hg2⟩;rw [HS1.out] at hb2;have HB2:=Lib.hid hb2;have HG2:=Lib.hid (grown_2 HG9.out hg2);have HI2:=Lib.hid ((hg2.block ib (Array.getElem?_eq_some_iff.1 HI9.out).1 (fun e=>HNE.out (Option.some.inj e).symm)).trans HI9.out);have z9:=HB2.out.free 9;have c9:=(HB2.out.cell 9).trans (HE9.out _ _ _);have z10:=HB2.out.free 10;have c10:=(HB2.out.cell 10).trans (HE10.out _ _ _);clear hb2 hg2)
      | (go_at_call 146;refine (signed_any _ (bAt_lt _ _) _).mono ?_;rintro e w3 ⟨rfl,hw3⟩;subst w3))
     go_roundw
     case rel=>exact ⟨j+1,kk+1,_,_,HJ.out,(World.heap_setCell_iter HI2.out HNE.out),dgrown_set HG2.out _ _,by have:=HB2.out.set 9 (.int .i64 (sg (bAt l kk)));rw [HS9.out] at this;exact this,HLT9.out,HN9.out,HR9.out⟩
     case measure=>rw [iterLeft_eq (World.heap_setCell_iter HI2.out HNE.out),HML.out];have:=HJ.out;omega
    ·have HN9:Hid (¬k+rdN ex.data.toList≤l.length):=Lib.hid (by rw [←HN.out,HD.out,rdN];split<;>omega)
     clear HR HN HD
     go_wp2_with (go_at_call 108;refine (dtake_no g _ a l.length c kk _ HB9.out (HE0.out _ _ _) (HE1.out _ _ _) (by omega)).mono ?_;rintro e w2 ⟨rfl,hb2⟩;have HBZ:=Lib.hid (HB9.out.below hb2 HB9.out.lt);have HGZ:=Lib.hid (grown_2 HG9.out (grown_of g hb2));clear hb2)
     exact ⟨rfl,ExtP.no HN9.out HGZ.out HBZ.out⟩
   ·by_cases hk9:kk < l.length
    ·have HLT9:=Lib.hid hk9
     have HR9:Hid (rdF (ex.data.toList.drop (j+1)) l (kk+1) dd (sg (bAt l kk))=rdF ex.data.toList l k d n):=Lib.hid (HR.out.symm.trans (by rw [HD.out];rfl)).symm
     have HN9:Hid (kk+1+rdN (ex.data.toList.drop (j+1))=k+rdN ex.data.toList):=Lib.hid (by rw [←HN.out,HD.out,rdN,if_neg (by decide)];omega)
     have hw9:IntKind.i64.wrap (bAt l kk:Int)=bAt l kk:=by have:=bAt_lt l kk;rw [IntKind.wrap_i64];omega
     clear HR HN HD hk9
     go_wp2_with (first
      | (go_at_call 108;refine (dtake_yes g _ p a c l kk _ HB9.out (HE0.out _ _ _) (HE1.out _ _ _) HS9'.out HP.out HLT9.out HL.out).mono ?_;rintro e w2 ⟨rfl,hb2,hg2⟩;rw [HS1.out] at hb2;have HB2:=Lib.hid hb2;have HG2:=Lib.hid (grown_2 HG9.out hg2);have HI2:=Lib.hid ((hg2.block ib (Array.getElem?_eq_some_iff.1 HI9.out).1 (fun e=>HNE.out (Option.some.inj e).symm)).trans HI9.out);have z9:=HB2.out.free 9;have c9:=(HB2.out.cell 9).trans (HE9.out _ _ _);have z10:=HB2.out.free 10;have c10:=(HB2.out.cell 10).trans (HE10.out _ _ _);clear hb2 hg2)
      | (go_at_call 146;refine (signed_any _ (bAt_lt _ _) _).mono ?_;rintro e w3 ⟨rfl,hw3⟩;subst w3))
     go_roundw
     case rel=>exact ⟨j+1,kk+1,_,_,HJ.out,(World.heap_setCell_iter HI2.out HNE.out),dgrown_set HG2.out _ _,by have:=HB2.out.set 10 (.int .i64 (sg (bAt l kk)));rw [HS10.out] at this;exact this,HLT9.out,HN9.out,HR9.out⟩
     case measure=>rw [iterLeft_eq (World.heap_setCell_iter HI2.out HNE.out),HML.out];have:=HJ.out;omega
    ·have HN9:Hid (¬k+rdN ex.data.toList≤l.length):=Lib.hid (by rw [←HN.out,HD.out,rdN];split<;>omega)
     clear HR HN HD
     go_wp2_with (go_at_call 108;refine (dtake_no g _ a l.length c kk _ HB9.out (HE0.out _ _ _) (HE1.out _ _ _) (by omega)).mono ?_;rintro e w2 ⟨rfl,hb2⟩;have HBZ:=Lib.hid (HB9.out.below hb2 HB9.out.lt);have HGZ:=Lib.hid (grown_2 HG9.out (grown_of g hb2));clear hb2)
     exact ⟨rfl,ExtP.no HN9.out HGZ.out HBZ.out⟩
   ·by_cases hk9:kk < l.length
    ·have HLT9:=Lib.hid hk9
     have HR9:Hid (rdF (ex.data.toList.drop (j+1)) l (kk+1) dd (bAt l kk)=rdF ex.data.toList l k d n):=Lib.hid (HR.out.symm.trans (by rw [HD.out];rfl)).symm
     have HN9:Hid (kk+1+rdN (ex.data.toList.drop (j+1))=k+rdN ex.data.toList):=Lib.hid (by rw [←HN.out,HD.out,rdN,if_neg (by decide)];omega)
     have hw9:IntKind.i64.wrap (bAt l kk:Int)=bAt l kk:=by have:=bAt_lt l kk;rw [IntKind.wrap_i64];omega
     clear HR HN HD hk9
     go_wp2_with (first
      | (go_at_call 108;refine (dtake_yes g _ p a c l kk _ HB9.out (HE0.out _ _ _) (HE1.out _ _ _) HS9'.out HP.out HLT9.out HL.out).mono ?_;rintro e w2 ⟨rfl,hb2,hg2⟩;rw [HS1.out] at hb2;have HB2:=Lib.hid hb2;have HG2:=Lib.hid (grown_2 HG9.out hg2);have HI2:=Lib.hid ((hg2.block ib (Array.getElem?_eq_some_iff.1 HI9.out).1 (fun e=>HNE.out (Option.some.inj e).symm)).trans HI9.out);have z9:=HB2.out.free 9;have c9:=(HB2.out.cell 9).trans (HE9.out _ _ _);have z10:=HB2.out.free 10;have c10:=(HB2.out.cell 10).trans (HE10.out _ _ _);clear hb2 hg2)
      | (go_at_call 146;refine (signed_any _ (bAt_lt _ _) _).mono ?_;rintro e w3 ⟨rfl,hw3⟩;subst w3))
     go_roundw
     case rel=>exact ⟨j+1,kk+1,_,_,HJ.out,(World.heap_setCell_iter HI2.out HNE.out),dgrown_set HG2.out _ _,by have:=HB2.out.set 10 (.int .i64 (bAt l kk));rw [HS10.out] at this;exact this,HLT9.out,HN9.out,HR9.out⟩
     case measure=>rw [iterLeft_eq (World.heap_setCell_iter HI2.out HNE.out),HML.out];have:=HJ.out;omega
    ·have HN9:Hid (¬k+rdN ex.data.toList≤l.length):=Lib.hid (by rw [←HN.out,HD.out,rdN];split<;>omega)
     clear HR HN HD
     go_wp2_with (go_at_call 108;refine (dtake_no g _ a l.length c kk _ HB9.out (HE0.out _ _ _) (HE1.out _ _ _) (by omega)).mono ?_;rintro e w2 ⟨rfl,hb2⟩;have HBZ:=Lib.hid (HB9.out.below hb2 HB9.out.lt);have HGZ:=Lib.hid (grown_2 HG9.out (grown_of g hb2));clear hb2)
     exact ⟨rfl,ExtP.no HN9.out HGZ.out HBZ.out⟩
   ·by_cases hk9:kk < l.length
    ·have HLT9:=Lib.hid hk9
     have hw9:IntKind.i64.wrap (bAt l kk:Int)=bAt l kk:=by have:=bAt_lt l kk;rw [IntKind.wrap_i64];omega
     by_cases hk8:kk+1 < l.length
     ·have HLT8:=Lib.hid hk8
      have HR9:Hid (rdF (ex.data.toList.drop (j+1)) l (kk+1+1) dd ((bAt l kk:Int)+256 * bAt l (kk+1))=rdF ex.data.toList l k d n):=Lib.hid (HR.out.symm.trans (by rw [HD.out];rfl)).symm
      have HN9:Hid (kk+1+1+rdN (ex.data.toList.drop (j+1))=k+rdN ex.data.toList):=Lib.hid (by rw [←HN.out,HD.out,rdN,if_pos rfl];omega)
      have hw8:IntKind.i64.wrap (bAt l (kk+1):Int)=bAt l (kk+1):=by have:=bAt_lt l (kk+1);rw [IntKind.wrap_i64];omega
      have hw7:IntKind.i64.wrap ((bAt l (kk+1):Int) * 256)=256 * bAt l (kk+1):=by have:=bAt_lt l (kk+1);rw [IntKind.wrap_i64];omega
      have hw6:IntKind.i64.wrap ((bAt l kk:Int)+256 * bAt l (kk+1))=(bAt l kk:Int)+256 * bAt l (kk+1):=by have:=bAt_lt l kk;have:=bAt_lt l (kk+1);rw [IntKind.wrap_i64];omega
      have tok:True:=trivial
      clear HR HN HD hk9 hk8
      go_wp2_with (first
       | (have _t:=tok;go_at_call 108;refine (dtake_yes g _ p a c l kk _ HB9.out (HE0.out _ _ _) (HE1.out _ _ _) HS9'.out HP.out HLT9.out HL.out).mono ?_;rintro e w2 ⟨rfl,hb2,hg2⟩;rw [HS1.out] at hb2;have HB7:=Lib.hid hb2;have HG7:=Lib.hid (grown_2 HG9.out hg2);have HI7:=Lib.hid ((hg2.block ib (Array.getElem?_eq_some_iff.1 HI9.out).1 (fun e=>HNE.out (Option.some.inj e).symm)).trans HI9.out);have z9:=HB7.out.free 9;have c9:=(HB7.out.cell 9).trans (HE9.out _ _ _);have z10:=HB7.out.free 10;have c10:=(HB7.out.cell 10).trans (HE10.out _ _ _);clear hb2 hg2;have HS7:=Lib.hid (HSG.out _ HG7.out);clear tok _t)
       | (go_at_call 108;refine (dtake_yes g _ p a c l (kk+1) _ HB7.out (HE0.out _ _ _) (HE1.out _ _ _) HS7.out HP.out HLT8.out HL.out).mono ?_;rintro e w2 ⟨rfl,hb2,hg2⟩;rw [HS1.out] at hb2;have HB2:=Lib.hid hb2;have HG2:=Lib.hid (grown_2 HG7.out hg2);have HI2:=Lib.hid ((hg2.block ib (Array.getElem?_eq_some_iff.1 HI7.out).1 (fun e=>HNE.out (Option.some.inj e).symm)).trans HI7.out);have z9:=HB2.out.free 9;have c9:=(HB2.out.cell 9).trans (HE9.out _ _ _);have z10:=HB2.out.free 10;have c10:=(HB2.out.cell 10).trans (HE10.out _ _ _);clear hb2 hg2))
      go_roundw
      case rel=>exact ⟨j+1,kk+1+1,_,_,HJ.out,(World.heap_setCell_iter HI2.out HNE.out),dgrown_set HG2.out _ _,by have:=HB2.out.set 10 (.int .i64 ((bAt l kk:Int)+256 * bAt l (kk+1)));rw [HS10.out] at this;exact this,HLT8.out,HN9.out,HR9.out⟩
      case measure=>rw [iterLeft_eq (World.heap_setCell_iter HI2.out HNE.out),HML.out];have:=HJ.out;omega
     ·have HN9:Hid (¬k+rdN ex.data.toList≤l.length):=Lib.hid (by rw [←HN.out,HD.out,rdN,if_pos rfl];omega)
      have tok:True:=trivial
      clear HR HN HD hk9
      go_wp2_with (first
       | (have _t:=tok;go_at_call 108;refine (dtake_yes g _ p a c l kk _ HB9.out (HE0.out _ _ _) (HE1.out _ _ _) HS9'.out HP.out HLT9.out HL.out).mono ?_;rintro e w2 ⟨rfl,hb2,hg2⟩;rw [HS1.out] at hb2;have HB7:=Lib.hid hb2;have HG7:=Lib.hid (grown_2 HG9.out hg2);have HI7:=Lib.hid ((hg2.block ib (Array.getElem?_eq_some_iff.1 HI9.out).1 (fun e=>HNE.out (Option.some.inj e).symm)).trans HI9.out);have z9:=HB7.out.free 9;have c9:=(HB7.out.cell 9).trans (HE9.out _ _ _);have z10:=HB7.out.free 10;have c10:=(HB7.out.cell 10).trans (HE10.out _ _ _);clear hb2 hg2;clear tok _t)
       | (go_at_call 108;refine (dtake_no g _ a l.length c (kk+1) _ HB7.out (HE0.out _ _ _) (HE1.out _ _ _) (by omega)).mono ?_;rintro e w2 ⟨rfl,hb2⟩;have HBZ:=Lib.hid (HB7.out.below hb2 HB7.out.lt);have HGZ:=Lib.hid (grown_2 HG7.out (grown_of g hb2));clear hb2))
      exact ⟨rfl,ExtP.no HN9.out HGZ.out HBZ.out⟩
    ·have HN9:Hid (¬k+rdN ex.data.toList≤l.length):=Lib.hid (by rw [←HN.out,HD.out,rdN];split<;>omega)
     clear HR HN HD
     go_wp2_with (go_at_call 108;refine (dtake_no g _ a l.length c kk _ HB9.out (HE0.out _ _ _) (HE1.out _ _ _) (by omega)).mono ?_;rintro e w2 ⟨rfl,hb2⟩;have HBZ:=Lib.hid (HB9.out.below hb2 HB9.out.lt);have HGZ:=Lib.hid (grown_2 HG9.out (grown_of g hb2));clear hb2)
     exact ⟨rfl,ExtP.no HN9.out HGZ.out HBZ.out⟩
  ·obtain rfl:j=ex.size:=by omega
   have hnx:=fun ty=>run_next_stop (W:=wr) ty hi hlt
   have HDR:Hid (ex.data.toList.drop ex.size=[]):=Lib.hid (List.drop_of_length_le (by simp))
   have HY:Hid (kk=k+rdN ex.data.toList∧(dd,nn)=rdF ex.data.toList l k d n):=Lib.hid (by
    have e1:=HN.out
    have e2:=HR.out
    rw [HDR.out] at e1 e2
    exact ⟨e1,e2⟩)
   have HKK:=Lib.hid hkk
   clear HN HR HDR hkk hi
   go_wp2
   go_end0
   refine ExtP.yes (by rw [←HY.out.1];exact HKK.out) rfl HG.out ?_
   rw [←HY.out.1,←HY.out.2]
   exact HB.out
end Go.Proofs.YtnbmbcjnncbaiaaGreatDoor
namespace Go.Proofs.YtnbmbcjnncbaiaaGreatDoor
set_option maxHeartbeats 16000000
set_option maxRecDepth 100000
open Go.RowKit Go.Shelf Go.Sort
abbrev tItm:TypeId:=29
theorem Blk.five {w:World} {b:Nat} {t:TypeId} {x0 x1 x2 x3 x4:Value} (h:Blk w b t #[x0,x1,x2,x3,x4]):
  (w.cell? ⟨b,0,none⟩=some x0∧w.cell? ⟨b,1,none⟩=some x1∧w.cell? ⟨b,2,none⟩=some x2∧w.cell? ⟨b,3,none⟩=some x3∧w.cell? ⟨b,4,none⟩=some x4)∧
  w.frozen? ⟨b,0,none⟩=false∧w.frozen? ⟨b,1,none⟩=false∧w.frozen? ⟨b,2,none⟩=false∧w.frozen? ⟨b,3,none⟩=false∧w.frozen? ⟨b,4,none⟩=false:=
 ⟨⟨h.cell 0,h.cell 1,h.cell 2,h.cell 3,h.cell 4⟩,h.free 0,h.free 1,h.free 2,h.free 3,h.free 4⟩
theorem Fr.swap {w0 W:World} {a b:Nat × TypeId × Array Value} {L:List (Nat × TypeId × Array Value)} (h:Fr w0 (a::b::L) W):Fr w0 (b::a::L) W:=
 h.sub (fun x hx=>by
  rcases List.mem_cons.1 hx with e | hx
  ·rw [e];simp
  ·rcases List.mem_cons.1 hx with e | hx
   ·rw [e];simp
   ·simp [hx])
theorem Fr.grow {w0 W W':World} {g:Nat} {t:TypeId} {cs cs':Array Value} {L:List (Nat × TypeId × Array Value)} (h:Fr w0 ((g,t,cs)::L) W) (hg:W.grownBy W' (some g)) (hb:Blk W' g t cs') (hz:w0.heap.size≤g) (hn:∀x∈L,x.1≠g):Fr w0 ((g,t,cs')::L) W':=
 ⟨h.below.grown hg h.below.size (fun k e=>by cases e;exact hz),fun x hx=>by
  rcases List.mem_cons.1 hx with rfl | hx
  ·exact hb
  ·exact (h.drop.at' x hx).grown hg (fun e=>hn x hx (Option.some.inj e))⟩
def itmV (x:Itm) (m:Nat) (ra:Option Addr) (rc:Nat) (va:Option Addr) (vc:Nat):Value:=.agg #[.int .i64 x.k,.slice ra m rc,.string ⟨x.op.toArray⟩,.slice va x.args.length vc,.bool x.al]
def ItmR (w:World) (B:Nat) (x:Itm) (l:List UInt8) (v:Value):Prop:=
 ∃ra rc va vc,v=itmV x (l.take x.n).length ra rc va vc∧SlR byteR w (fun b=>B≤b) (.slice ra (l.take x.n).length rc) (l.take x.n)∧SlR opdR w (fun b=>B≤b) (.slice va x.args.length vc) x.args
theorem ItmR.next {w w':World} {B:Nat} {x:Itm} {l:List UInt8} {v:Value} (h:ItmR w B x l v) (hb:RowKit.Below w.heap.size w w'):ItmR w' B x l v:=by
 obtain ⟨ra,rc,va,vc,e,h1,h2⟩:=h
 exact ⟨ra,rc,va,vc,e,h1.below hb,h2.below hb⟩
theorem ItmR.base {w:World} {B B':Nat} {x:Itm} {l:List UInt8} {v:Value} (h:ItmR w B x l v) (hB:B'≤B):ItmR w B' x l v:=by
 obtain ⟨ra,rc,va,vc,e,h1,h2⟩:=h
 exact ⟨ra,rc,va,vc,e,h1.mono (fun k hk=>Nat.le_trans hB hk),h2.mono (fun k hk=>Nat.le_trans hB hk)⟩
def FirstP (w:World) (x:Itm) (l:List UInt8) (e:Ending) (w':World):Prop:=(∃v,e=.returned v∧ItmR w' w.heap.size x l v)∧RowKit.Below w.heap.size w w'
theorem firstP {w w':World} {x:Itm} {l:List UInt8} {ra va:Option Addr} {rc vc:Nat} {v:Value} (hv:v=itmV x (l.take x.n).length ra rc va vc) (h1:SlR byteR w' (fun b=>w.heap.size≤b) (.slice ra (l.take x.n).length rc) (l.take x.n)) (h2:SlR opdR w' (fun b=>w.heap.size≤b) (.slice va x.args.length vc) x.args) (hb:RowKit.Below w.heap.size w w'):FirstP w x l (.returned v) w':=
 ⟨⟨v,rfl,ra,rc,va,vc,hv,h1,h2⟩,hb⟩
def NeedS (w:World) (g:Nat) (vb:Value) (l:List UInt8):Prop:=
 ∃(xe:EntV) (va qa:Option Addr) (vn vc qc k:Nat) (d n:Int),Blk w g tDec (dcC vb (.slice qa (prefF (pgB l)).length qc) xe.pg xe.op ⟨xe.iop.toArray⟩ (.slice va vn vc) ⟨xe.ex.toArray⟩ xe.al k d n)∧
  ((xe.iop=[]∧l.length≤pos (pgB l))∨(pos (pgB l) < l.length∧(atF (pgB l) (bAt l (pos (pgB l)))).1=some xe))
def IteP (wz:World) (g:Nat) (vb:Value) (l:List UInt8) (e:Ending) (w':World):Prop:=
 RowKit.Below wz.heap.size wz w'∧(if (itF l).k=4 then e=.panicked missP∧NeedS w' g vb l
  else (∃cs,Blk w' g tDec cs∧cs[0]?=some vb)∧∃v,e=.returned v∧ItmR w' wz.heap.size (itF l) l v)
theorem IteP.cut {wz w':World} {g:Nat} {vb:Value} {l:List UInt8} (h:(itF l).k=4) (hb:RowKit.Below wz.heap.size wz w') (hn:NeedS w' g vb l):IteP wz g vb l (.panicked missP) w':=⟨hb,by rw [if_pos h];exact ⟨rfl,hn⟩⟩
theorem IteP.ret {wz w':World} {g:Nat} {vb:Value} {l:List UInt8} {cs:Array Value} {x:Itm} {v:Value} (hx:itF l=x) (h:¬x.k=4) (hb:RowKit.Below wz.heap.size wz w') (hk:Blk w' g tDec cs) (h0:cs[0]?=some vb) (hi:ItmR w' wz.heap.size x l v):IteP wz g vb l (.returned v) w':=by
 subst hx
 exact ⟨hb,by rw [if_neg h];exact ⟨⟨cs,hk,h0⟩,v,rfl,hi⟩⟩
def InsQP (w:World) (s:List UInt8) (l:List Opd) (e:Ending) (w':World):Prop:=
 ∃a c b,e=.returned (.tuple #[.agg #[.string ⟨s.toArray⟩,.slice a l.length c],.bool b])∧SlR opdR w' (fun b=>w.heap.size≤b) (.slice a l.length c) l∧RowKit.Below w.heap.size w w'
theorem FillI_any (x:EntV) (hok:EntOk x) (d n:Int) (p:Blocks) (v:Value) (w:World) (h:SlR opdR w p v x.args):
  Calls Tryz.prog 100 #[entVal x v,.int .i64 d,.int .i64 n] w (InsQP w (insF x d n).1 (insF x d n).2):=by
 have hz:=hok.size
 refine (FillS_any x.pg x.op d n ⟨x.iop.toArray⟩ ⟨x.ex.toArray⟩ x.al x.args p v w h (by have:=hz.2;omega) (by have:=hz.1;omega)).mono ?_
 rintro e w' ⟨h1,h2⟩
 rw [show (⟨x.ex.toArray⟩:ByteArray).data.toList=x.ex from rfl,hok.up,fill_eq hok.var] at h1
 unfold insF
 cases hF:fillF x.ex x.args d n with
 | none=>rw [hF] at h1;exact ⟨none,0,false,h1,SlR.nil _ _ _,h2⟩
 | some c=>
  rw [hF] at h1
  obtain ⟨v',rfl,ho⟩:=h1
  obtain ⟨a,cc,rfl⟩:=ho.form
  exact ⟨a,cc,true,rfl,ho.slR,h2⟩
theorem Fill10I_any (x:EntV) (hok:EntOk x) (hx:EntW x) (d n:Int) (p:Blocks) (v:Value) (w:World) (h:SlR opdR w p v x.args):
  Calls Tryz.prog 59 #[entVal x v,.int .i64 d,.int .i64 n] w (InsQP w (insF x d n).1 (insF x d n).2):=by
 have hz:=hok.size
 refine (Fill10_any x.pg x.op d n ⟨x.iop.toArray⟩ ⟨x.ex.toArray⟩ x.al x.args p v w h (by have:=hz.2;omega) (by have:=hx.len;show x.ex.toArray.size≤_;rw [List.size_toArray];omega)).mono ?_
 rintro e w' ⟨h1,h2⟩
 rw [show (⟨x.ex.toArray⟩:ByteArray).data.toList=x.ex from rfl] at h1
 unfold insF
 cases hF:fillF x.ex x.args d n with
 | none=>rw [hF] at h1;exact ⟨none,0,false,h1,SlR.nil _ _ _,h2⟩
 | some c=>
  rw [hF] at h1
  obtain ⟨v',rfl,ho⟩:=h1
  obtain ⟨a,cc,rfl⟩:=ho.form
  exact ⟨a,cc,true,rfl,Own.slR ho (fun _ h=>h.elim) (fun _ h=>h),h2⟩
end Go.Proofs.YtnbmbcjnncbaiaaGreatDoor
namespace Go.Proofs.YtnbmbcjnncbaiaaGreatDoor
set_option maxHeartbeats 16000000
set_option maxRecDepth 100000
open Go.RowKit Go.Shelf Go.Sort
theorem byteAt {w:World} {p:Blocks} {a:Option Addr} {c:Nat} {l:List UInt8} (hs:SlR byteR w p (.slice a l.length c) l) (h0:0 < l.length):∃b o,a=some ⟨b,o,none⟩∧l.length≤c∧c≤9223372036854775807∧∀k,k < l.length→w.cell? ⟨b,o+k,none⟩=some (.int .u8 (bAt l k)):=by
 obtain ⟨a',c',e,h1,h2,gg⟩:=hs.byte
 injection e with e1 e2 e3
 subst e1 e3
 obtain ⟨b,o,rfl,_,_⟩:=gg 0 l[0] (List.getElem?_eq_getElem h0)
 refine ⟨b,o,rfl,h1,h2,fun k hk=>?_⟩
 obtain ⟨b',o',e,_,hc⟩:=gg k l[k] (List.getElem?_eq_getElem hk)
 injection e with e;injection e with e1 e2
 subst e1 e2
 rw [hc,bAt_get hk]
theorem page_any (p:Blocks) (a:Option Addr) (c:Nat) (l:List UInt8) (w:World) (hs:SlR byteR w p (.slice a l.length c) l) (h0:0 < l.length) (hl:l.length≤1000000):
  Calls Tryz.prog 54 #[.slice a l.length c] w fun e w'=>e=.returned (.tuple #[.int .i64 (pgB l),.int .i64 (pos (pgB l))])∧w'=w:=by
 obtain ⟨b,o,rfl,_,_,hc⟩:=byteAt hs h0
 have c0:=hc 0 h0
 have c1:=hc 1
 have P1:pos 1=1:=rfl
 have P2:pos 2=1:=rfl
 have P3:pos 3=1:=rfl
 have P4:pos 4=1:=rfl
 have P5:pos 5=3:=rfl
 have P6:pos 6=3:=rfl
 have P0:pos 0=0:=rfl
 have h0':(0:Int) < (l.length:Int):=by omega
 unfold pgB
 generalize bAt l 0=x at *
 generalize bAt l 1=y at *
 generalize l.length=m at *
 rw [Nat.add_zero] at c0
 have key:∀(r:Nat) (q:Nat),(if x=203 then 1 else if x=237 then 2 else if x=221 then (if 1 < m∧y=203 then 5 else 3) else if x=253 then (if 1 < m∧y=203 then 6 else 4) else 0:Nat)=r→pos r=q→Calls Tryz.prog 54 #[.slice (some ⟨b,o,none⟩) m c] w (fun e w'=>e=.returned (.tuple #[.int .i64 r,.int .i64 q])∧w'=w)→Calls Tryz.prog 54 #[.slice (some ⟨b,o,none⟩) m c] w fun e w'=>e=.returned (.tuple #[.int .i64 ((if x=203 then 1 else if x=237 then 2 else if x=221 then (if 1 < m∧y=203 then 5 else 3) else if x=253 then (if 1 < m∧y=203 then 6 else 4) else 0:Nat)),.int .i64 (pos (if x=203 then 1 else if x=237 then 2 else if x=221 then (if 1 < m∧y=203 then 5 else 3) else if x=253 then (if 1 < m∧y=203 then 6 else 4) else 0:Nat))])∧w'=w:=by
  rintro r q rfl rfl h;exact h
 clear hs hc
 by_cases h1:x=203
 ·refine key 1 1 (by rw [if_pos h1]) rfl ?_
  subst h1
  clear key P0 P1 P2 P3 P4 P5 P6
  go_enter Tryz.func54,Tryz.ntmps54
  go_wp2
  go_ret2
  exact ⟨rfl,rfl⟩
 by_cases h2:x=237
 ·refine key 2 1 (by rw [if_neg h1,if_pos h2]) rfl ?_
  subst h2
  clear key P0 P1 P2 P3 P4 P5 P6
  go_enter Tryz.func54,Tryz.ntmps54
  go_wp2
  go_ret2
  exact ⟨rfl,rfl⟩
 by_cases h3:x=221
 ·by_cases h5:1 < m
  ·have c1:=c1 h5
   have h5':(1:Int) < (m:Int):=by omega
   by_cases h6:y=203
   ·refine key 5 3 (by rw [if_neg h1,if_neg h2,if_pos h3,if_pos ⟨h5,h6⟩]) rfl ?_
    subst h3 h6
    clear key P0 P1 P2 P3 P4 P5 P6
    go_enter Tryz.func54,Tryz.ntmps54
    go_wp2
    go_ret2
    exact ⟨rfl,rfl⟩
   ·refine key 3 1 (by rw [if_neg h1,if_neg h2,if_pos h3,if_neg (by omega)]) rfl ?_
    have h6':((y:Int)==203)=false:=by rw [beq_eq_false_iff_ne];omega
    subst h3
    clear key P0 P1 P2 P3 P4 P5 P6 h6
    go_enter Tryz.func54,Tryz.ntmps54
    go_wp2
    go_ret2
    exact ⟨rfl,rfl⟩
  ·refine key 3 1 (by rw [if_neg h1,if_neg h2,if_pos h3,if_neg (by omega)]) rfl ?_
   obtain rfl:m=1:=by omega
   subst h3
   clear key P0 P1 P2 P3 P4 P5 P6 c1
   go_enter Tryz.func54,Tryz.ntmps54
   go_wp2
   go_ret2
   exact ⟨rfl,rfl⟩
 by_cases h4:x=253
 ·by_cases h5:1 < m
  ·have c1:=c1 h5
   have h5':(1:Int) < (m:Int):=by omega
   by_cases h6:y=203
   ·refine key 6 3 (by rw [if_neg h1,if_neg h2,if_neg h3,if_pos h4,if_pos ⟨h5,h6⟩]) rfl ?_
    subst h4 h6
    clear key P0 P1 P2 P3 P4 P5 P6
    go_enter Tryz.func54,Tryz.ntmps54
    go_wp2
    go_ret2
    exact ⟨rfl,rfl⟩
   ·refine key 4 1 (by rw [if_neg h1,if_neg h2,if_neg h3,if_pos h4,if_neg (by omega)]) rfl ?_
    have h6':((y:Int)==203)=false:=by rw [beq_eq_false_iff_ne];omega
    subst h4
    clear key P0 P1 P2 P3 P4 P5 P6 h6
    go_enter Tryz.func54,Tryz.ntmps54
    go_wp2
    go_ret2
    exact ⟨rfl,rfl⟩
  ·refine key 4 1 (by rw [if_neg h1,if_neg h2,if_neg h3,if_pos h4,if_neg (by omega)]) rfl ?_
   obtain rfl:m=1:=by omega
   subst h4
   clear key P0 P1 P2 P3 P4 P5 P6 c1
   go_enter Tryz.func54,Tryz.ntmps54
   go_wp2
   go_ret2
   exact ⟨rfl,rfl⟩
 ·refine key 0 0 (by rw [if_neg h1,if_neg h2,if_neg h3,if_neg h4]) rfl ?_
  have h1':¬(x:Int)=203:=by omega
  have h2':¬(x:Int)=237:=by omega
  have h3':¬(x:Int)=221:=by omega
  have h4':¬(x:Int)=253:=by omega
  clear key P0 P1 P2 P3 P4 P5 P6 h1 h2 h3 h4
  go_enter Tryz.func54,Tryz.ntmps54
  go_wp2
  go_ret2
  exact ⟨rfl,rfl⟩
theorem Own.off {α:Type} {R:Rep α} {w:World} {B b:Nat} {e:TypeId} {v:Value} {xs:List α} (h:Own R w B e NoB v xs) (hb:b < B) (i:Nat) (u:Value):Own R (w.setCell ⟨b,i,none⟩ u) B e NoB v xs:=
 h.keep (Keep.setCell (fun k hk=>by rcases hk with hk | hk;exact hk.elim;have:=(h.lt k hk).1;show k≠b;omega) _)
theorem item_end {fn:Func} {p:Tmp} (h:fn.results=#[.cell p 29]) {tmps:Array Value} {w':World} {cs:Array Value} {g:Nat} (hp:tmps.getD p undef=.pointer (some ⟨g,0,none⟩)) (hg:Blk w' g 29 cs) (hs:cs.size=5):(results fn tmps).run Tryz.prog w'=.ok (.agg cs) w':=
 results_row1 h tmps w' g 29 _ (0,0) _ hp hg Tryz.underlying29 rfl (by rw [hs];kernel_rfl)
abbrev itm0:Array Value:=#[.int .i64 0,.slice none 0 0,.string ⟨#[]⟩,.slice none 0 0,.bool false]
theorem item12_any (k:Int) (p:Blocks) (ad:Addr) (c:Nat) (l:List UInt8) (n:Nat) (w:World) (hs:SlR byteR w p (.slice (some ad) l.length c) l) (hn:n≤l.length) (hl:l.length≤1000000):
  Calls Tryz.prog 57 #[.int .i64 k,.slice (some ad) l.length c,.int .i64 n] w fun e w'=>∃a cc,e=.returned (.agg #[.int .i64 k,.slice a (l.take n).length cc,.string ⟨#[]⟩,.slice none 0 0,.bool false])∧Own byteR w' w.heap.size 5 NoB (.slice a (l.take n).length cc) (l.take n)∧RowKit.Below w.heap.size w w':=by
 obtain ⟨hs2,_,hc,_⟩:=hs.cutB hn
 have hcut:=cut_to ad l.length c n (by omega)
 have HLT:Hid ((l.take n).length=n):=Lib.hid (by rw [List.length_take];omega)
 have HN:Hid ((l.take n).length≤1000000):=Lib.hid (by rw [HLT.out];omega)
 have HS2:=Lib.hid hs2
 have HZ:Hid ((w.alloc (.cells itm0 29)).heap.size=w.heap.size+1):=Lib.hid (World.size_alloc _ _)
 have HI:=Lib.hid (Blk.new w 29 itm0)
 have HB:=Lib.hid ((Below.refl w.heap.size w).alloc (Nat.le_refl _) (.cells itm0 29))
 have HX:Hid (SlR byteR ((w.alloc (.cells itm0 29)).alloc (.cells #[] 5)) (fun k=>p k∧k < w.heap.size) (.slice (some ad) n c) (l.take n)):=Lib.hid (hs2.old.keep (Keep.of_below (((Below.refl w.heap.size w).alloc (Nat.le_refl _) (.cells itm0 29)).alloc (by rw [World.size_alloc];omega) _) (fun k hk=>hk.2)))
 clear hs2 hs
 generalize l.take n=l2 at *
 generalize l.length=m at *
 obtain rfl:=HLT.out
 obtain ⟨W0,hW0⟩:∃W:World,W=w.alloc (.cells itm0 29):=⟨_,rfl⟩
 rw [←hW0] at HI HB HX HZ
 go_enter Tryz.func57,Tryz.ntmps57
 go_upto_region 1 with fail
 rw [←hW0]
 clear hW0
 have HB2:Hid (RowKit.Below w.heap.size w (W0.alloc (.cells #[] 5))):=Lib.hid (HB.out.alloc HB.out.size _)
 have HI2:Hid (Blk (W0.alloc (.cells #[] 5)) w.heap.size 29 itm0):=Lib.hid (HI.out.alloc _)
 have HO:Hid (Own byteR (W0.alloc (.cells #[] 5)) W0.heap.size 5 NoB (.slice (some ⟨W0.heap.size,0,none⟩) 0 0) []):=Own.made W0 _ _
 have C2:Hid (∀k,p k∧k < w.heap.size→some k≠Value.ownBlock (.slice (some ⟨W0.heap.size,0,none⟩) 0 0)):=fun k hk e=>by simp [Value.ownBlock] at e;have:=HZ.out;omega
 have C3:Hid (([]:List UInt8).length+l2.length≤1000000):=by have:=HN.out;simp;omega
 have HZ2:Hid (W0.heap.size≤(W0.alloc (.cells #[] 5)).heap.size):=Lib.hid (by rw [World.size_alloc];omega)
 go_wp2_with (at_builtin;refine wpList_append_R _ rfl (.tmp 8) (.tmp 11) 22 rfl W0.heap.size 5 1 elByte NoB _ _ _ [] l2 rfl rfl HO.out HX.out (fun _ h=>False.elim h) C2.out (by have:=C3.out;omega) (by have:=C3.out;omega) HZ2.out ?_;intro v' w' hap;obtain ⟨ho,hg,hv⟩:=hap;obtain ⟨qa,qc,rfl⟩:=(ho.flat NoB).form;have HO3:=Lib.hid (ho.flat NoB);have HI3:=Lib.hid (HI2.out.grown hg (fun e=>by have e2:w.heap.size=W0.heap.size:=Option.some.inj e;have:=HZ.out;omega));have HB3:=Lib.hid (HB2.out.grown hg HB2.out.size (fun k e=>by have e2:W0.heap.size=k:=Option.some.inj e;have:=HZ.out;omega));obtain ⟨⟨c0,c1,c2,c3,c4⟩,f0,f1,f2,f3,f4⟩:=HI3.out.five;clear ho hg hv)
 have HF:=Lib.hid (((((HI3.out.set 0 (.int .i64 k)).set 1 (.slice qa l2.length qc)).set 2 (.string ⟨#[]⟩)).set 3 (.slice none 0 0)).set 4 (.bool false))
 have hb:w.heap.size < W0.heap.size:=by have:=HZ.out;omega
 refine bodyPost_ret (item_end rfl rfl HF.out rfl) rfl ⟨qa,qc,rfl,?_,?_⟩
 ·exact Own.base (B:=W0.heap.size) (((((HO3.out.off hb 0 _).off hb 1 _).off hb 2 _).off hb 3 _).off hb 4 _) (by omega)
 ·exact ((((HB3.out.setCell (p:=⟨w.heap.size,0,none⟩) (Nat.le_refl _) _).setCell (p:=⟨w.heap.size,1,none⟩) (Nat.le_refl _) _).setCell (p:=⟨w.heap.size,2,none⟩) (Nat.le_refl _) _).setCell (p:=⟨w.heap.size,3,none⟩) (Nat.le_refl _) _).setCell (p:=⟨w.heap.size,4,none⟩) (Nat.le_refl _) _
end Go.Proofs.YtnbmbcjnncbaiaaGreatDoor
