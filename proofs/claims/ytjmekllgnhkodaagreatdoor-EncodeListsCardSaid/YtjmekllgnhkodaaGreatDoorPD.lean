/-
  The canonical form, the program's and the reference's. Conditions: sizes.
-/
import Derived.Test.YtjmekllgnhkodaaGreatDoorPC
import Derived.Test.YtjmekllgnhkodaaGreatDoorPB
import Derived.Laws.CopyOwn
import Derived.Lib.Join
import Derived.Lib.Strings
import Derived.Test.YtjmekllgnhkodaaGreatDoorShelf
import Derived.Deep.RegionHeld3
import Derived.Deep.DeepCutAuto
namespace Go.Proofs.YtjmekllgnhkodaaGreatDoor
set_option maxHeartbeats 4000000
set_option maxRecDepth 100000
open Go.RowKit
end Go.Proofs.YtjmekllgnhkodaaGreatDoor
namespace Go.Proofs.YtjmekllgnhkodaaGreatDoor
set_option maxHeartbeats 4000000
set_option maxRecDepth 100000
open Go.RowKit
def paren (s:ByteArray):ByteArray:=⟨#[40]⟩++s++⟨#[41]⟩
def regText (o:Opd):ByteArray:=if okOpd o then (kindD o.kind).nm o.reg.toNat else ⟨#[]⟩
def indText (o:Opd):ByteArray:=if okOpd o then paren ((kindD o.kind).nm o.reg.toNat) else ⟨#[]⟩
end Go.Proofs.YtjmekllgnhkodaaGreatDoor
namespace Go.Proofs.YtjmekllgnhkodaaGreatDoor
set_option maxHeartbeats 4000000
set_option maxRecDepth 100000
open Go.RowKit
def hasNum (o:Opd):Bool:=o.kind==5 || o.kind==6 || o.kind==7 || o.kind==10
def idxText (r:Int):ByteArray:=⟨#[40]⟩++regText ⟨3,r,0⟩++⟨#[43,100,41]⟩
def markS (o:Opd):ByteArray:=if o.kind==5 then idxText o.reg else if o.kind==6 then ⟨#[110]⟩ else if o.kind==7 then ⟨#[40,110,41]⟩ else if o.kind==10 then ⟨#[101]⟩ else ⟨#[]⟩
end Go.Proofs.YtjmekllgnhkodaaGreatDoor
namespace Go.Proofs.YtjmekllgnhkodaaGreatDoor
set_option maxHeartbeats 4000000
set_option maxRecDepth 100000
open Go.RowKit
theorem Own.stay {α:Type} {R:Rep α} {w w':World} {B:Nat} {e:TypeId} {v:Value} {xs:List α} (h:Own R w B e NoB v xs) (hb:Below w.heap.size w w'):Own R w' B e NoB v xs:=
 h.keep (Keep.of_below hb (fun k hk=>by rcases hk with hk | hk;exact hk.elim;exact (h.lt k hk).2))
end Go.Proofs.YtjmekllgnhkodaaGreatDoor
namespace Go.Proofs.YtjmekllgnhkodaaGreatDoor
set_option maxHeartbeats 4000000
set_option maxRecDepth 100000
open Go.RowKit
end Go.Proofs.YtjmekllgnhkodaaGreatDoor
namespace Go.Proofs.YtjmekllgnhkodaaGreatDoor
set_option maxHeartbeats 4000000
set_option maxRecDepth 100000
open Go.RowKit
end Go.Proofs.YtjmekllgnhkodaaGreatDoor
namespace Go.Proofs.YtjmekllgnhkodaaGreatDoor
set_option maxHeartbeats 4000000
set_option maxRecDepth 100000
open Go.RowKit
def textOf (o:Opd):ByteArray:=if o.kind==4 then indText o else regText o
def markP (o:Opd):ByteArray:=if hasNum o then markS o else textOf o
end Go.Proofs.YtjmekllgnhkodaaGreatDoor
namespace Go.Proofs.YtjmekllgnhkodaaGreatDoor
set_option maxHeartbeats 4000000
set_option maxRecDepth 100000
open Go.RowKit
end Go.Proofs.YtjmekllgnhkodaaGreatDoor
namespace Go.Proofs.YtjmekllgnhkodaaGreatDoor
set_option maxHeartbeats 4000000
set_option maxRecDepth 100000
open Go.RowKit
end Go.Proofs.YtjmekllgnhkodaaGreatDoor
namespace Go.Proofs.YtjmekllgnhkodaaGreatDoor
set_option maxHeartbeats 4000000
set_option maxRecDepth 100000
open Go.RowKit
theorem elStr:ElT Tryz.prog 40 9 strR.size 16:=ElT.mk' (z:=.string ⟨#[]⟩) Tryz.underlying40 (by kernel_rfl) rfl (by decide)
end Go.Proofs.YtjmekllgnhkodaaGreatDoor
namespace Go.Proofs.YtjmekllgnhkodaaGreatDoor
set_option maxHeartbeats 4000000
set_option maxRecDepth 100000
open Go.RowKit
end Go.Proofs.YtjmekllgnhkodaaGreatDoor
namespace Go.Proofs.YtjmekllgnhkodaaGreatDoor
set_option maxHeartbeats 4000000
set_option maxRecDepth 100000
open Go.RowKit
end Go.Proofs.YtjmekllgnhkodaaGreatDoor
namespace Go.Proofs.YtjmekllgnhkodaaGreatDoor
set_option maxHeartbeats 4000000
set_option maxRecDepth 100000
open Go.RowKit
structure ShH (w0:World) (x:Ins) (b0 bm:Nat) (va vm:Value) (k:Nat) (w:World):Prop where
 below:Below w0.heap.size w0 w
 lt:w0.heap.size≤bm
 sx:SlR opdR w (fun b=>b < bm) va x.args
 blk:Blk w b0 27 #[.string x.op,va]
 lt0:b0 < bm
 mks:Blk w bm 40 #[vm]
 own:Own strR w (bm+1) 9 NoB vm ((x.args.take k).map markP)
theorem ShH.step {w0 w w':World} {x:Ins} {b0 bm k:Nat} {va vm v':Value} (h:ShH w0 x b0 bm va vm k w) (hk:k < x.args.length) (hb:Below bm w w') (hm:Blk w' bm 40 #[v'])
  (ho:Own strR w' (bm+1) 9 NoB v' ((x.args.take k).map markP++[markP x.args[k]])):ShH w0 x b0 bm va v' (k+1) w':=
 ⟨h.below.trans (hb.mono h.lt),h.lt,h.sx.keep (Keep.of_below hb fun _ hk=>hk),h.blk.below hb h.lt0,h.lt0,hm,by
  rw [List.take_succ_eq_append_getElem hk,List.map_append];exact ho⟩
theorem ShH.drew {w0 w:World} {x:Ins} {b0 bm k:Nat} {va vm:Value} (h:ShH w0 x b0 bm va vm k w):ShH w0 x b0 bm va vm k w.drew:=
 ⟨⟨h.below.os,h.below.tape,h.below.output,h.below.size,h.below.block⟩,h.lt,h.sx.drew,h.blk,h.lt0,h.mks,h.own.keep fun _ _=>rfl⟩
end Go.Proofs.YtjmekllgnhkodaaGreatDoor
namespace Go.Proofs.YtjmekllgnhkodaaGreatDoor
set_option maxHeartbeats 4000000
set_option maxRecDepth 100000
open Go.RowKit Go.Sort
def wSub:List ByteArray:=[⟨#[83,85,66]⟩,⟨#[65,78,68]⟩,⟨#[88,79,82]⟩,⟨#[79,82]⟩,⟨#[67,80]⟩]
def wAdd:List ByteArray:=[⟨#[65,68,68]⟩,⟨#[65,68,67]⟩,⟨#[83,66,67]⟩]
def regA:Opd:=⟨1,7,0⟩
def accum (s:ByteArray) (l:List Opd):List Opd:=
 match l with
 | [x]=>if inL wAdd s then [regA,x] else [x]
 | [x,y]=>if inL wSub s&&opdEq x regA then [y] else [x,y]
 | l=>l
theorem Wr.spc {w0 w:World} {bw:Nat} {s:ByteArray} {v:Value} {l:List Opd} (h:Wr w0 w bw s v l):Spc w:=h.spc0.below h.below
theorem Wr.setNew {w0 w:World} {bw:Nat} {s:ByteArray} {v:Value} {l:List Opd} (h:Wr w0 w bw s v l) {x y:Opd} (cs:Array Value) (hcs:cs.toList=[x,y].flatMap Opd.cells):
  Wr w0 (((w.setCell ⟨bw,1,none⟩ (.slice (some ⟨w.heap.size,0,none⟩) 2 2)).alloc (.cells cs 90)).drew) bw s (.slice (some ⟨w.heap.size,0,none⟩) 2 2) [x,y]:=by
 have hlt:=h.blk.lt
 have hsz:(w.setCell ⟨bw,1,none⟩ (.slice (some ⟨w.heap.size,0,none⟩) 2 2)).heap.size=w.heap.size:=by simp [World.setCell]
 have ho:=opdOwn_new (w:=w.setCell ⟨bw,1,none⟩ (.slice (some ⟨w.heap.size,0,none⟩) 2 2)) (q:=fun b=>w0.heap.size≤b∧b≠bw) [x,y] cs 90 w.heap.size 2 hsz.symm rfl hcs ⟨Nat.le_of_lt (Nat.lt_of_le_of_lt h.old hlt),by omega⟩ (by simp)
 refine ⟨(h.blk.set 1 _).alloc _,ho.keep fun _ _=>rfl,h.old,((h.below.setCell h.old _).alloc (by rw [hsz];exact Nat.le_of_lt (Nat.lt_of_le_of_lt h.old hlt)) _).drew,h.spc0⟩
theorem wSub_fields:fieldsOf ⟨#[83,85,66,32,65,78,68,32,88,79,82,32,79,82,32,67,80]⟩=wSub:=by decide+kernel
theorem wAdd_fields:fieldsOf ⟨#[65,68,68,32,65,68,67,32,83,66,67]⟩=wAdd:=by decide+kernel
theorem wSub_ascii:∀(j:Nat) b,(⟨#[83,85,66,32,65,78,68,32,88,79,82,32,79,82,32,67,80]⟩:ByteArray).data.toList[j]?=some b→b.toNat < 128:=fun j b h=>
 (by decide+kernel:∀x∈(⟨#[83,85,66,32,65,78,68,32,88,79,82,32,79,82,32,67,80]⟩:ByteArray).data.toList,x.toNat < 128) b (List.mem_of_getElem? h)
theorem wAdd_ascii:∀(j:Nat) b,(⟨#[65,68,68,32,65,68,67,32,83,66,67]⟩:ByteArray).data.toList[j]?=some b→b.toNat < 128:=fun j b h=>
 (by decide+kernel:∀x∈(⟨#[65,68,68,32,65,68,67,32,83,66,67]⟩:ByteArray).data.toList,x.toNat < 128) b (List.mem_of_getElem? h)
theorem wordSub_any (s:ByteArray) (w:World) (hT:Spc w):Calls Tryz.prog 141 #[.string ⟨#[83,85,66,32,65,78,68,32,88,79,82,32,79,82,32,67,80]⟩,.string s] w fun e w'=>e=.returned (.bool (inL wSub s))∧Below w.heap.size w w':=
 word_any _ wSub s w wSub_fields (by decide) (by decide) wSub_ascii hT
theorem wordAdd_any (s:ByteArray) (w:World) (hT:Spc w):Calls Tryz.prog 141 #[.string ⟨#[65,68,68,32,65,68,67,32,83,66,67]⟩,.string s] w fun e w'=>e=.returned (.bool (inL wAdd s))∧Below w.heap.size w w':=
 word_any _ wAdd s w wAdd_fields (by decide) (by decide) wAdd_ascii hT
theorem acc_none (w0 w:World) (bw:Nat) (s:ByteArray) (a:Option Addr) (n c:Nat) (l:List Opd) (h:Wr w0 w bw s (.slice a n c) l) (hv:accum s l=l) (n1:inL wAdd s=true→((n:Int)==1)=false) (n2:inL wSub s=true→((n:Int)==2)=false):
  Calls Tryz.prog 95 #[.pointer (some ⟨bw,0,none⟩)] w fun e w'=>e=.returned (.tuple #[])∧∃v',Wr w0 w' bw s v' (accum s l):=by
 have HV:=Lib.hid hv
 have N1:=Lib.hid n1
 have N2:=Lib.hid n2
 clear hv n1 n2
 cases h1:inL wSub s
 ·skip
  obtain ⟨w1,hw1⟩:∃w1:World,w1=w.alloc (.cells #[.int .i64 1,.int .i64 7,.int .i64 0] 90):=⟨_,rfl⟩
  have hb1:Below w.heap.size w w1:=hw1 ▸ (Below.refl _ _).alloc (Nat.le_refl _) _
  have ka:Blk w1 w.heap.size 90 #[.int .i64 1,.int .i64 7,.int .i64 0]:=hw1 ▸ Blk.new w _ _
  have HW1:=h.later hb1
  have E0:∀d os,(grow (redrawn w1 d) os).cell? ⟨bw,0,none⟩=some (.string s):=fun d os=>cell_regrown HW1.blk.two.1 d os
  have E1:∀d os,(grow (redrawn w1 d) os).cell? ⟨bw,1,none⟩=some (.slice a n c):=fun d os=>cell_regrown HW1.blk.two.2.1 d os
  have HS:Hid (∀d os,Spc (grow (redrawn w1 d) os)):=fun d os=>HW1.spc.below (below_regrown w1 d os)
  have hword:=fun wx hT=>wordSub_any s wx hT
  simp only [h1] at hword
  have HWORD:=Lib.hid hword
  clear hword
  have KA:=Lib.hid ka
  have HB1:=Lib.hid hb1
  have H1:=Lib.hid HW1
  clear ka hb1 HW1
  go_enter Tryz.func95,Tryz.ntmps95
  go_wp2
  rw [←hw1]
  have HE:=Lib.hid hw1
  clear hw1
  refine wp_region_quiet_below (by kernel_rfl) (by kernel_rfl) ?_
  repeat (go_big_quiet_step (exact Calls.regrown_of (HWORD.out _ (HS.out _ _))))
  refine wpQuiet_nil ?_
  intro _ hw'
  obtain ⟨⟨dq,osq⟩,hw''⟩:=hw'
  subst hw''
  have HB2:Hid (Below w1.heap.size w1 (grow (redrawn w1 dq) osq)):=below_regrown w1 dq osq
  generalize grow (redrawn w1 dq) osq=w2 at *
  have H2:Hid (Wr w0 w2 bw s (.slice a n c) l):=H1.out.later HB2.out
  obtain ⟨e0,e1,f0,f1⟩:=H2.out.blk.two
  clear E0 E1 HS
  cases h2:inL wAdd s
  ·have hword:=fun wx hT=>wordAdd_any s wx hT
   simp only [h2] at hword
   have HWORD2:=Lib.hid hword
   clear hword
   go_wp2_with fail
   refine (HWORD2.out _ H2.out.spc).mono ?_
   rintro e w3 ⟨rfl,hb3⟩
   have H3:Hid (Wr w0 w3 bw s (.slice a n c) l):=H2.out.later hb3
   have HB3:=Lib.hid hb3
   clear e0 e1 f0 f1 hb3
   obtain ⟨e0,e1,f0,f1⟩:=H3.out.blk.two
   go_wp2
   go_end0
   exact ⟨rfl,_,by rw [HV.out];exact H3.out⟩
  ·have n1:=N1.out h2
   have hword:=fun wx hT=>wordAdd_any s wx hT
   simp only [h2] at hword
   have HWORD2:=Lib.hid hword
   clear hword
   go_wp2_with fail
   refine (HWORD2.out _ H2.out.spc).mono ?_
   rintro e w3 ⟨rfl,hb3⟩
   have H3:Hid (Wr w0 w3 bw s (.slice a n c) l):=H2.out.later hb3
   have HB3:=Lib.hid hb3
   clear e0 e1 f0 f1 hb3
   obtain ⟨e0,e1,f0,f1⟩:=H3.out.blk.two
   go_wp2
   go_end0
   exact ⟨rfl,_,by rw [HV.out];exact H3.out⟩
 ·have n2:=N2.out h1
  obtain ⟨w1,hw1⟩:∃w1:World,w1=w.alloc (.cells #[.int .i64 1,.int .i64 7,.int .i64 0] 90):=⟨_,rfl⟩
  have hb1:Below w.heap.size w w1:=hw1 ▸ (Below.refl _ _).alloc (Nat.le_refl _) _
  have ka:Blk w1 w.heap.size 90 #[.int .i64 1,.int .i64 7,.int .i64 0]:=hw1 ▸ Blk.new w _ _
  have HW1:=h.later hb1
  have E0:∀d os,(grow (redrawn w1 d) os).cell? ⟨bw,0,none⟩=some (.string s):=fun d os=>cell_regrown HW1.blk.two.1 d os
  have E1:∀d os,(grow (redrawn w1 d) os).cell? ⟨bw,1,none⟩=some (.slice a n c):=fun d os=>cell_regrown HW1.blk.two.2.1 d os
  have HS:Hid (∀d os,Spc (grow (redrawn w1 d) os)):=fun d os=>HW1.spc.below (below_regrown w1 d os)
  have hword:=fun wx hT=>wordSub_any s wx hT
  simp only [h1] at hword
  have HWORD:=Lib.hid hword
  clear hword
  have KA:=Lib.hid ka
  have HB1:=Lib.hid hb1
  have H1:=Lib.hid HW1
  clear ka hb1 HW1
  go_enter Tryz.func95,Tryz.ntmps95
  go_wp2
  rw [←hw1]
  have HE:=Lib.hid hw1
  clear hw1
  refine wp_region_quiet_below (by kernel_rfl) (by kernel_rfl) ?_
  repeat (go_big_quiet_step (exact Calls.regrown_of (HWORD.out _ (HS.out _ _))))
  refine wpQuiet_nil ?_
  intro _ hw'
  obtain ⟨⟨dq,osq⟩,hw''⟩:=hw'
  subst hw''
  have HB2:Hid (Below w1.heap.size w1 (grow (redrawn w1 dq) osq)):=below_regrown w1 dq osq
  generalize grow (redrawn w1 dq) osq=w2 at *
  have H2:Hid (Wr w0 w2 bw s (.slice a n c) l):=H1.out.later HB2.out
  obtain ⟨e0,e1,f0,f1⟩:=H2.out.blk.two
  clear E0 E1 HS
  cases h2:inL wAdd s
  ·have hword:=fun wx hT=>wordAdd_any s wx hT
   simp only [h2] at hword
   have HWORD2:=Lib.hid hword
   clear hword
   go_wp2_with fail
   refine (HWORD2.out _ H2.out.spc).mono ?_
   rintro e w3 ⟨rfl,hb3⟩
   have H3:Hid (Wr w0 w3 bw s (.slice a n c) l):=H2.out.later hb3
   have HB3:=Lib.hid hb3
   clear e0 e1 f0 f1 hb3
   obtain ⟨e0,e1,f0,f1⟩:=H3.out.blk.two
   go_wp2
   go_end0
   exact ⟨rfl,_,by rw [HV.out];exact H3.out⟩
  ·have n1:=N1.out h2
   have hword:=fun wx hT=>wordAdd_any s wx hT
   simp only [h2] at hword
   have HWORD2:=Lib.hid hword
   clear hword
   go_wp2_with fail
   refine (HWORD2.out _ H2.out.spc).mono ?_
   rintro e w3 ⟨rfl,hb3⟩
   have H3:Hid (Wr w0 w3 bw s (.slice a n c) l):=H2.out.later hb3
   have HB3:=Lib.hid hb3
   clear e0 e1 f0 f1 hb3
   obtain ⟨e0,e1,f0,f1⟩:=H3.out.blk.two
   go_wp2
   go_end0
   exact ⟨rfl,_,by rw [HV.out];exact H3.out⟩
theorem acc_two (w0 w:World) (bw:Nat) (s:ByteArray) (a:Option Addr) (n c:Nat) (x y:Opd) (l:List Opd) (hl:l=[x,y]) (h:Wr w0 w bw s (.slice a n c) l):
  Calls Tryz.prog 95 #[.pointer (some ⟨bw,0,none⟩)] w fun e w'=>e=.returned (.tuple #[])∧∃v',Wr w0 w' bw s v' (accum s l):=by
 have hown:=h.own
 obtain ⟨a',c',e',hc,hm,g⟩:=hown
 have hln:l.length=2:=by rw [hl];rfl
 injection e' with e1 e2 e3
 subst e1 e3
 obtain rfl:n=2:=by rw [e2,hln]
 obtain ⟨b,o,rfl,hq,hb,c0,c1,c2,_⟩:=g 0 x (by rw [hl];rfl)
 obtain ⟨b',o',eb,hq',hb',d0,d1,d2,df⟩:=g 1 y (by rw [hl];rfl)
 injection eb with eb
 injection eb with eb1 eb2
 subst eb1 eb2
 simp only [Nat.zero_mul,Nat.add_zero,Nat.one_mul] at c0 c1 c2 d0 d1 d2
 have h3:c≠1:=by rw [hln] at hc;omega
 have DF:Hid (w.cell? ⟨b,o+3,none⟩=some (.int .i64 y.kind)∧w.cell? ⟨b,o+3+1,none⟩=some (.int .i64 y.reg)∧w.cell? ⟨b,o+3+2,none⟩=some (.int .i64 y.n)∧∀j,w.frozen? ⟨b,j,none⟩=false):=⟨d0,d1,d2,df⟩
 have HC:Hid (2≤c∧c≤9223372036854775807):=by rw [hln] at hc;exact ⟨hc,hm⟩
 clear g d0 d1 d2 df hc hm e2 hln hb' hq'
 have hop:=run_eqOpd
 cases h1:inL wSub s
 ·have HV:=Lib.hid (show accum s l=l by rw [hl];simp [accum,h1])
  have HL:=Lib.hid hl
  clear hl
  obtain ⟨w1,hw1⟩:∃w1:World,w1=w.alloc (.cells #[.int .i64 1,.int .i64 7,.int .i64 0] 90):=⟨_,rfl⟩
  have hb1:Below w.heap.size w w1:=hw1 ▸ (Below.refl _ _).alloc (Nat.le_refl _) _
  have ka:Blk w1 w.heap.size 90 #[.int .i64 1,.int .i64 7,.int .i64 0]:=hw1 ▸ Blk.new w _ _
  have HW1:=h.later hb1
  have E0:∀d os,(grow (redrawn w1 d) os).cell? ⟨bw,0,none⟩=some (.string s):=fun d os=>cell_regrown HW1.blk.two.1 d os
  have E1:∀d os,(grow (redrawn w1 d) os).cell? ⟨bw,1,none⟩=some (.slice (some ⟨b,o,none⟩) 2 c):=fun d os=>cell_regrown HW1.blk.two.2.1 d os
  have HS:Hid (∀d os,Spc (grow (redrawn w1 d) os)):=fun d os=>HW1.spc.below (below_regrown w1 d os)
  have hword:=fun wx hT=>wordSub_any s wx hT
  simp only [h1] at hword
  have HWORD:=Lib.hid hword
  clear hword
  have KA:=Lib.hid ka
  have HB1:=Lib.hid hb1
  have H1:=Lib.hid HW1
  clear ka hb1 HW1
  go_enter Tryz.func95,Tryz.ntmps95
  go_wp2
  rw [←hw1]
  have HE:=Lib.hid hw1
  clear hw1
  refine wp_region_quiet_below (by kernel_rfl) (by kernel_rfl) ?_
  repeat (go_big_quiet_step (exact Calls.regrown_of (HWORD.out _ (HS.out _ _))))
  refine wpQuiet_nil ?_
  intro _ hw'
  obtain ⟨⟨dq,osq⟩,hw''⟩:=hw'
  subst hw''
  have HB2:Hid (Below w1.heap.size w1 (grow (redrawn w1 dq) osq)):=below_regrown w1 dq osq
  generalize grow (redrawn w1 dq) osq=w2 at *
  have H2:Hid (Wr w0 w2 bw s (.slice (some ⟨b,o,none⟩) 2 c) l):=H1.out.later HB2.out
  obtain ⟨e0,e1,f0,f1⟩:=H2.out.blk.two
  clear E0 E1 HS
  cases h2:inL wAdd s
  all_goals
   have hword:=fun wx hT=>wordAdd_any s wx hT
   simp only [h2] at hword
   have HWORD2:=Lib.hid hword
   clear hword
   go_wp2_with fail
   refine (HWORD2.out _ H2.out.spc).mono ?_
   rintro e w3 ⟨rfl,hb3⟩
   have H3:Hid (Wr w0 w3 bw s (.slice (some ⟨b,o,none⟩) 2 c) l):=H2.out.later hb3
   have HB3:=Lib.hid hb3
   clear e0 e1 f0 f1 hb3
   obtain ⟨e0,e1,f0,f1⟩:=H3.out.blk.two
   go_wp2
   go_end0
   exact ⟨rfl,_,by rw [HV.out];exact H3.out⟩
 ·cases h4:opdEq x regA
  ·have HV:=Lib.hid (show accum s l=l by rw [hl];simp [accum,h1,h4])
   have HL:=Lib.hid hl
   clear hl
   have hx:opdEq ⟨x.kind,x.reg,x.n⟩ ⟨1,7,0⟩=false:=h4
   obtain ⟨w1,hw1⟩:∃w1:World,w1=w.alloc (.cells #[.int .i64 1,.int .i64 7,.int .i64 0] 90):=⟨_,rfl⟩
   have hb1:Below w.heap.size w w1:=hw1 ▸ (Below.refl _ _).alloc (Nat.le_refl _) _
   have ka:Blk w1 w.heap.size 90 #[.int .i64 1,.int .i64 7,.int .i64 0]:=hw1 ▸ Blk.new w _ _
   have HW1:=h.later hb1
   have E0:∀d os,(grow (redrawn w1 d) os).cell? ⟨bw,0,none⟩=some (.string s):=fun d os=>cell_regrown HW1.blk.two.1 d os
   have E1:∀d os,(grow (redrawn w1 d) os).cell? ⟨bw,1,none⟩=some (.slice (some ⟨b,o,none⟩) 2 c):=fun d os=>cell_regrown HW1.blk.two.2.1 d os
   have HS:Hid (∀d os,Spc (grow (redrawn w1 d) os)):=fun d os=>HW1.spc.below (below_regrown w1 d os)
   have C0:∀d os,(grow (redrawn w1 d) os).cell? ⟨b,o,none⟩=some (.int .i64 x.kind):=fun d os=>cell_regrown ((hb1.cell (p:=⟨b,o,none⟩) hb).trans c0) d os
   have C1:∀d os,(grow (redrawn w1 d) os).cell? ⟨b,o+1,none⟩=some (.int .i64 x.reg):=fun d os=>cell_regrown ((hb1.cell (p:=⟨b,o+1,none⟩) hb).trans c1) d os
   have C2:∀d os,(grow (redrawn w1 d) os).cell? ⟨b,o+2,none⟩=some (.int .i64 x.n):=fun d os=>cell_regrown ((hb1.cell (p:=⟨b,o+2,none⟩) hb).trans c2) d os
   have A0:∀d os,(grow (redrawn w1 d) os).cell? ⟨w.heap.size,0,none⟩=some (.int .i64 1):=fun d os=>cell_regrown ka.three.1 d os
   have A1:∀d os,(grow (redrawn w1 d) os).cell? ⟨w.heap.size,1,none⟩=some (.int .i64 7):=fun d os=>cell_regrown ka.three.2.1 d os
   have A2:∀d os,(grow (redrawn w1 d) os).cell? ⟨w.heap.size,2,none⟩=some (.int .i64 0):=fun d os=>cell_regrown ka.three.2.2.1 d os
   have hword:=fun wx hT=>wordSub_any s wx hT
   simp only [h1] at hword
   have HWORD:=Lib.hid hword
   clear hword
   have KA:=Lib.hid ka
   have HB1:=Lib.hid hb1
   have H1:=Lib.hid HW1
   clear ka hb1 HW1
   go_enter Tryz.func95,Tryz.ntmps95
   go_wp2
   rw [←hw1]
   have HE:=Lib.hid hw1
   clear hw1
   refine wp_region_quiet_below (by kernel_rfl) (by kernel_rfl) ?_
   repeat (go_big_quiet_step (exact Calls.regrown_of (HWORD.out _ (HS.out _ _))))
   refine wpQuiet_nil ?_
   intro _ hw'
   obtain ⟨⟨dq,osq⟩,hw''⟩:=hw'
   subst hw''
   have HB2:Hid (Below w1.heap.size w1 (grow (redrawn w1 dq) osq)):=below_regrown w1 dq osq
   generalize grow (redrawn w1 dq) osq=w2 at *
   have H2:Hid (Wr w0 w2 bw s (.slice (some ⟨b,o,none⟩) 2 c) l):=H1.out.later HB2.out
   obtain ⟨e0,e1,f0,f1⟩:=H2.out.blk.two
   clear E0 E1 HS C0 C1 C2 A0 A1 A2
   cases h2:inL wAdd s
   all_goals
    have hword:=fun wx hT=>wordAdd_any s wx hT
    simp only [h2] at hword
    have HWORD2:=Lib.hid hword
    clear hword
    go_wp2_with fail
    refine (HWORD2.out _ H2.out.spc).mono ?_
    rintro e w3 ⟨rfl,hb3⟩
    have H3:Hid (Wr w0 w3 bw s (.slice (some ⟨b,o,none⟩) 2 c) l):=H2.out.later hb3
    have HB3:=Lib.hid hb3
    clear e0 e1 f0 f1 hb3
    obtain ⟨e0,e1,f0,f1⟩:=H3.out.blk.two
    go_wp2
    go_end0
    exact ⟨rfl,_,by rw [HV.out];exact H3.out⟩
  ·have HV:=Lib.hid (show accum s l=[y] by rw [hl];simp [accum,h1,h4])
   have HL:=Lib.hid hl
   clear hl
   have hx:opdEq ⟨x.kind,x.reg,x.n⟩ ⟨1,7,0⟩=true:=h4
   obtain ⟨w1,hw1⟩:∃w1:World,w1=w.alloc (.cells #[.int .i64 1,.int .i64 7,.int .i64 0] 90):=⟨_,rfl⟩
   have hb1:Below w.heap.size w w1:=hw1 ▸ (Below.refl _ _).alloc (Nat.le_refl _) _
   have ka:Blk w1 w.heap.size 90 #[.int .i64 1,.int .i64 7,.int .i64 0]:=hw1 ▸ Blk.new w _ _
   have HW1:=h.later hb1
   have E0:∀d os,(grow (redrawn w1 d) os).cell? ⟨bw,0,none⟩=some (.string s):=fun d os=>cell_regrown HW1.blk.two.1 d os
   have E1:∀d os,(grow (redrawn w1 d) os).cell? ⟨bw,1,none⟩=some (.slice (some ⟨b,o,none⟩) 2 c):=fun d os=>cell_regrown HW1.blk.two.2.1 d os
   have HS:Hid (∀d os,Spc (grow (redrawn w1 d) os)):=fun d os=>HW1.spc.below (below_regrown w1 d os)
   have C0:∀d os,(grow (redrawn w1 d) os).cell? ⟨b,o,none⟩=some (.int .i64 x.kind):=fun d os=>cell_regrown ((hb1.cell (p:=⟨b,o,none⟩) hb).trans c0) d os
   have C1:∀d os,(grow (redrawn w1 d) os).cell? ⟨b,o+1,none⟩=some (.int .i64 x.reg):=fun d os=>cell_regrown ((hb1.cell (p:=⟨b,o+1,none⟩) hb).trans c1) d os
   have C2:∀d os,(grow (redrawn w1 d) os).cell? ⟨b,o+2,none⟩=some (.int .i64 x.n):=fun d os=>cell_regrown ((hb1.cell (p:=⟨b,o+2,none⟩) hb).trans c2) d os
   have A0:∀d os,(grow (redrawn w1 d) os).cell? ⟨w.heap.size,0,none⟩=some (.int .i64 1):=fun d os=>cell_regrown ka.three.1 d os
   have A1:∀d os,(grow (redrawn w1 d) os).cell? ⟨w.heap.size,1,none⟩=some (.int .i64 7):=fun d os=>cell_regrown ka.three.2.1 d os
   have A2:∀d os,(grow (redrawn w1 d) os).cell? ⟨w.heap.size,2,none⟩=some (.int .i64 0):=fun d os=>cell_regrown ka.three.2.2.1 d os
   have hword:=fun wx hT=>wordSub_any s wx hT
   simp only [h1] at hword
   have HWORD:=Lib.hid hword
   clear hword
   have KA:=Lib.hid ka
   have HB1:=Lib.hid hb1
   have H1:=Lib.hid HW1
   clear ka hb1 HW1
   go_enter Tryz.func95,Tryz.ntmps95
   go_wp2
   rw [←hw1]
   have HE:=Lib.hid hw1
   clear hw1
   refine wp_region_quiet_below (by kernel_rfl) (by kernel_rfl) ?_
   repeat (go_big_quiet_step (exact Calls.regrown_of (HWORD.out _ (HS.out _ _))))
   refine wpQuiet_nil ?_
   intro _ hw'
   obtain ⟨⟨dq,osq⟩,hw''⟩:=hw'
   subst hw''
   have HB2:Hid (Below w1.heap.size w1 (grow (redrawn w1 dq) osq)):=below_regrown w1 dq osq
   generalize grow (redrawn w1 dq) osq=w2 at *
   have H2:Hid (Wr w0 w2 bw s (.slice (some ⟨b,o,none⟩) 2 c) l):=H1.out.later HB2.out
   obtain ⟨e0,e1,f0,f1⟩:=H2.out.blk.two
   clear E0 E1 HS C0 C1 C2 A0 A1 A2
   go_wp2
   go_end0
   refine ⟨rfl,.slice (some ⟨b,o+3,none⟩) 1 (c - 1),?_⟩
   rw [HV.out]
   refine H2.out.set (OpdOwn.below (w:=w1) (OpdOwn.below (w:=w) ⟨_,_,rfl,?_,?_,fun i z hz=>?_⟩ HB1.out) HB2.out)
   ·have:=HC.out;simp;omega
   ·have:=HC.out;omega
   ·match i,hz with
    | 0,hz=>
     simp at hz
     subst hz
     exact ⟨b,o+3,rfl,hq,hb,DF.out⟩
    | i+1,hz=>simp at hz
theorem acc_one (w0 w:World) (bw:Nat) (s:ByteArray) (a:Option Addr) (n c:Nat) (x:Opd) (l:List Opd) (hl:l=[x]) (h:Wr w0 w bw s (.slice a n c) l):
  Calls Tryz.prog 95 #[.pointer (some ⟨bw,0,none⟩)] w fun e w'=>e=.returned (.tuple #[])∧∃v',Wr w0 w' bw s v' (accum s l):=by
 have hown:=h.own
 obtain ⟨a',c',e',hc,hm,g⟩:=hown
 have hln:l.length=1:=by rw [hl];rfl
 injection e' with e1 e2 e3
 subst e1 e3
 obtain rfl:n=1:=by rw [e2,hln]
 cases h2:inL wAdd s
 ·exact acc_none w0 w bw s a 1 c l h (by rw [hl];simp [accum,h2]) (fun h=>by rw [h2] at h;cases h) (fun _=>rfl)
 ·have HV:=Lib.hid (show accum s l=[regA,x] by rw [hl];simp [accum,h2])
  obtain ⟨b,o,rfl,hq,hb,c0,c1,c2,_⟩:=g 0 x (by rw [hl];rfl)
  simp only [Nat.zero_mul,Nat.add_zero] at c0 c1 c2
  have HX:Hid (w.cell? ⟨b,o,none⟩=some (.int .i64 x.kind)∧w.cell? ⟨b,o+1,none⟩=some (.int .i64 x.reg)∧w.cell? ⟨b,o+2,none⟩=some (.int .i64 x.n)):=⟨c0,c1,c2⟩
  have HBB:=Lib.hid hb
  have HBN:Hid (b≠bw):=hq.2
  clear g hc hm e2 hln c0 c1 c2 hb hq
  have HL:=Lib.hid hl
  clear hl
  cases h1:inL wSub s
  all_goals
   obtain ⟨w1,hw1⟩:∃w1:World,w1=w.alloc (.cells #[.int .i64 1,.int .i64 7,.int .i64 0] 90):=⟨_,rfl⟩
   have hb1:Below w.heap.size w w1:=hw1 ▸ (Below.refl _ _).alloc (Nat.le_refl _) _
   have ka:Blk w1 w.heap.size 90 #[.int .i64 1,.int .i64 7,.int .i64 0]:=hw1 ▸ Blk.new w _ _
   have HW1:=h.later hb1
   have E0:∀d os,(grow (redrawn w1 d) os).cell? ⟨bw,0,none⟩=some (.string s):=fun d os=>cell_regrown HW1.blk.two.1 d os
   have E1:∀d os,(grow (redrawn w1 d) os).cell? ⟨bw,1,none⟩=some (.slice (some ⟨b,o,none⟩) 1 c):=fun d os=>cell_regrown HW1.blk.two.2.1 d os
   have HS:Hid (∀d os,Spc (grow (redrawn w1 d) os)):=fun d os=>HW1.spc.below (below_regrown w1 d os)
   have hword:=fun wx hT=>wordSub_any s wx hT
   simp only [h1] at hword
   have HWORD:=Lib.hid hword
   clear hword
   have KA:=Lib.hid ka
   have HB1:=Lib.hid hb1
   have H1:=Lib.hid HW1
   clear ka hb1 HW1
   go_enter Tryz.func95,Tryz.ntmps95
   go_wp2
   rw [←hw1]
   have HE:=Lib.hid hw1
   clear hw1
   refine wp_region_quiet_below (by kernel_rfl) (by kernel_rfl) ?_
   repeat (go_big_quiet_step (exact Calls.regrown_of (HWORD.out _ (HS.out _ _))))
   refine wpQuiet_nil ?_
   intro _ hw'
   obtain ⟨⟨dq,osq⟩,hw''⟩:=hw'
   subst hw''
   have HB2:Hid (Below w1.heap.size w1 (grow (redrawn w1 dq) osq)):=below_regrown w1 dq osq
   generalize grow (redrawn w1 dq) osq=w2 at *
   have H2:Hid (Wr w0 w2 bw s (.slice (some ⟨b,o,none⟩) 1 c) l):=H1.out.later HB2.out
   obtain ⟨e0,e1,f0,f1⟩:=H2.out.blk.two
   clear E0 E1 HS
   have hword:=fun wx hT=>wordAdd_any s wx hT
   simp only [h2] at hword
   have HWORD2:=Lib.hid hword
   clear hword
   go_wp2_with fail
   refine (HWORD2.out _ H2.out.spc).mono ?_
   rintro e w3 ⟨rfl,hb3⟩
   have H3:Hid (Wr w0 w3 bw s (.slice (some ⟨b,o,none⟩) 1 c) l):=H2.out.later hb3
   have HB3:=Lib.hid hb3
   clear e0 e1 f0 f1 hb3
   obtain ⟨e0,e1,f0,f1⟩:=H3.out.blk.two
   have hbb:=HBB.out
   have c0:=(HB3.out.cell (p:=⟨b,o,none⟩) (Nat.lt_of_lt_of_le (Nat.lt_of_lt_of_le hbb HB1.out.size) HB2.out.size)).trans ((HB2.out.cell (p:=⟨b,o,none⟩) (Nat.lt_of_lt_of_le hbb HB1.out.size)).trans ((HB1.out.cell (p:=⟨b,o,none⟩) hbb).trans HX.out.1))
   have c1:=(HB3.out.cell (p:=⟨b,o+1,none⟩) (Nat.lt_of_lt_of_le (Nat.lt_of_lt_of_le hbb HB1.out.size) HB2.out.size)).trans ((HB2.out.cell (p:=⟨b,o+1,none⟩) (Nat.lt_of_lt_of_le hbb HB1.out.size)).trans ((HB1.out.cell (p:=⟨b,o+1,none⟩) hbb).trans HX.out.2.1))
   have c2:=(HB3.out.cell (p:=⟨b,o+2,none⟩) (Nat.lt_of_lt_of_le (Nat.lt_of_lt_of_le hbb HB1.out.size) HB2.out.size)).trans ((HB2.out.cell (p:=⟨b,o+2,none⟩) (Nat.lt_of_lt_of_le hbb HB1.out.size)).trans ((HB1.out.cell (p:=⟨b,o+2,none⟩) hbb).trans HX.out.2.2))
   have kk:=(KA.out.below HB2.out KA.out.lt).below HB3.out (Nat.lt_of_lt_of_le KA.out.lt HB2.out.size)
   obtain ⟨k0,k1,k2,_,_,_⟩:=kk.three
   have hne:bw < w3.heap.size:=H3.out.blk.lt
   clear hbb kk
   go_wp2
   go_region
   all_goals go_wp2
   all_goals go_end0
   all_goals
    refine ⟨rfl,.slice (some ⟨w3.heap.size,0,none⟩) 2 2,?_⟩
    rw [HV.out]
    exact H3.out.setNew _ (by simp [regA,Opd.cells])
theorem acc_any (w0 w:World) (bw:Nat) (s:ByteArray) (v:Value) (l:List Opd) (h:Wr w0 w bw s v l):
  Calls Tryz.prog 95 #[.pointer (some ⟨bw,0,none⟩)] w fun e w'=>e=.returned (.tuple #[])∧∃v',Wr w0 w' bw s v' (accum s l):=by
 obtain ⟨a,c,rfl,_⟩:=h.own
 match l,h with
 | [],h=>exact acc_none w0 w bw s a _ c _ h rfl (fun _=>rfl) (fun _=>rfl)
 | [x],h=>exact acc_one w0 w bw s a _ c x _ rfl h
 | [x,y],h=>exact acc_two w0 w bw s a _ c x y _ rfl h
 | x::y::z::l,h=>exact acc_none w0 w bw s a _ c _ h rfl (fun _=>by simp;omega) (fun _=>by simp;omega)
end Go.Proofs.YtjmekllgnhkodaaGreatDoor
namespace Go.Proofs.YtjmekllgnhkodaaGreatDoor
set_option maxHeartbeats 4000000
set_option maxRecDepth 100000
open Go.RowKit
def setL (w:World) (b:Nat):List (Nat × Value)→World
 | []=>w
 | p::l=>setL (w.setCell ⟨b,p.1,none⟩ p.2) b l
def look (j:Nat) (v:Value):List (Nat × Value)→Value
 | []=>v
 | p::l=>look j (if p.1=j then p.2 else v) l
theorem setL_below {w0:World} {B b:Nat} (hB:B≤b):∀(l:List (Nat × Value)) {w:World},Below B w0 w→Below B w0 (setL w b l)
 | [],_,h=>h
 | p::l,_,h=>setL_below hB l (h.setCell (p:=⟨b,p.1,none⟩) hB _)
theorem setL_keep {b k:Nat} (hk:k≠b):∀(l:List (Nat × Value)) (w:World),(setL w b l).heap[k]?=w.heap[k]?
 | [],_=>rfl
 | _::l,_=>(setL_keep hk l _).trans (Below.heap_setCell _ _ _ _ hk)
theorem setL_size {b:Nat}:∀(l:List (Nat × Value)) (w:World),(setL w b l).heap.size=w.heap.size
 | [],_=>rfl
 | _::l,_=>(setL_size l _).trans (by simp [World.setCell])
theorem setL_frozen {b:Nat} (a:Addr):∀(l:List (Nat × Value)) (w:World),(setL w b l).frozen? a=w.frozen? a
 | [],_=>rfl
 | _::l,_=>(setL_frozen a l _).trans (World.frozen?_setCell _ _ _ _)
theorem setL_cell {b j:Nat}:∀(l:List (Nat × Value)) {w:World} {v:Value},w.cell? ⟨b,j,none⟩=some v→(setL w b l).cell? ⟨b,j,none⟩=some (look j v l)
 | [],_,_,h=>h
 | p::l,w,v,h=>setL_cell l (by
   by_cases he:p.1=j
   ·subst he;rw [if_pos rfl];exact World.cell?_setCell_same' _ _ _ (by rw [h];rfl)
   ·rw [if_neg he,World.cell?_setCell_other _ _ _ _ (by simp)];exact h)
def swaps (o:Nat) (x y:Opd):List (Nat × Value):=
 [(o,.int .i64 y.kind),(o+1,.int .i64 y.reg),(o+2,.int .i64 y.n),(o+3,.int .i64 x.kind),(o+3+1,.int .i64 x.reg),(o+3+2,.int .i64 x.n)]
theorem Reverse_two (b o c:Nat) (x y:Opd) (w:World) (c0:w.cell? ⟨b,o,none⟩=some (.int .i64 x.kind)) (c1:w.cell? ⟨b,o+1,none⟩=some (.int .i64 x.reg)) (c2:w.cell? ⟨b,o+2,none⟩=some (.int .i64 x.n))
  (d0:w.cell? ⟨b,o+3,none⟩=some (.int .i64 y.kind)) (d1:w.cell? ⟨b,o+3+1,none⟩=some (.int .i64 y.reg)) (d2:w.cell? ⟨b,o+3+2,none⟩=some (.int .i64 y.n)) (hf:∀j,w.frozen? ⟨b,j,none⟩=false):
  Calls Tryz.prog 142 #[.slice (some ⟨b,o,none⟩) 2 c] w fun e w'=>e=.returned (.tuple #[])∧(setL w b (swaps o x y)).drew=w':=by
 go_enter Tryz.func142,Tryz.ntmps142
 go_wp2
 refine wp_loop_rounds 2 ?_
 rw [rounds_succ]
 go_wp2
 go_region
 all_goals go_wp2
 all_goals rw [rounds_succ]
 all_goals go_wp2
 all_goals go_end0
 all_goals exact ⟨rfl,rfl⟩
theorem swap_own {w:World} {q:Blocks} {b o c:Nat} {x y:Opd} (h:OpdOwn w q (.slice (some ⟨b,o,none⟩) 2 c) [x,y]):OpdOwn (setL w b (swaps o x y)) q (.slice (some ⟨b,o,none⟩) 2 c) [y,x]:=by
 obtain ⟨a',c',e,h1,h2,h3⟩:=h
 injection e with e1 e2 e3
 subst e1 e3
 obtain ⟨b',o',eb,hq,hb,c0,c1,c2,f⟩:=h3 0 x rfl
 injection eb with eb
 injection eb with eb1 eb2
 subst eb1 eb2
 obtain ⟨b',o',eb,_,_,d0,d1,d2,_⟩:=h3 1 y rfl
 injection eb with eb
 injection eb with eb1 eb2
 subst eb1 eb2
 simp only [Nat.zero_mul,Nat.add_zero,Nat.one_mul] at c0 c1 c2 d0 d1 d2
 have hfr:∀j,(setL w b (swaps o x y)).frozen? ⟨b,j,none⟩=false:=fun j=>(setL_frozen _ _ _).trans (f j)
 have e0:=(setL_cell (swaps o x y) c0).trans (congrArg some (show _=Value.int .i64 y.kind by simp only [swaps,look];repeat first | rw [if_pos rfl] | rw [if_pos trivial] | rw [if_neg (by omega)]))
 have e1:=(setL_cell (swaps o x y) c1).trans (congrArg some (show _=Value.int .i64 y.reg by simp only [swaps,look];repeat first | rw [if_pos rfl] | rw [if_pos trivial] | rw [if_neg (by omega)]))
 have e2:=(setL_cell (swaps o x y) c2).trans (congrArg some (show _=Value.int .i64 y.n by simp only [swaps,look];repeat first | rw [if_pos rfl] | rw [if_pos trivial] | rw [if_neg (by omega)]))
 have g0:=(setL_cell (swaps o x y) d0).trans (congrArg some (show _=Value.int .i64 x.kind by simp only [swaps,look];repeat first | rw [if_pos rfl] | rw [if_pos trivial] | rw [if_neg (by omega)]))
 have g1:=(setL_cell (swaps o x y) d1).trans (congrArg some (show _=Value.int .i64 x.reg by simp only [swaps,look];repeat first | rw [if_pos rfl] | rw [if_pos trivial] | rw [if_neg (by omega)]))
 have g2:=(setL_cell (swaps o x y) d2).trans (congrArg some (show _=Value.int .i64 x.n by simp only [swaps,look];repeat first | rw [if_pos rfl] | rw [if_pos trivial] | rw [if_neg (by omega)]))
 have hsz:b < (setL w b (swaps o x y)).heap.size:=by rw [setL_size];exact hb
 refine ⟨_,c,rfl,h1,h2,fun i z hz=>?_⟩
 match i,hz with
 | 0,hz=>
  simp at hz
  subst hz
  refine ⟨b,o,rfl,hq,hsz,?_,?_,?_,hfr⟩
  ·rw [Nat.zero_mul,Nat.add_zero];exact e0
  ·rw [Nat.zero_mul,Nat.add_zero];exact e1
  ·rw [Nat.zero_mul,Nat.add_zero];exact e2
 | 1,hz=>
  simp at hz
  subst hz
  refine ⟨b,o,rfl,hq,hsz,?_,?_,?_,hfr⟩
  ·rw [Nat.one_mul];exact g0
  ·rw [Nat.one_mul];exact g1
  ·rw [Nat.one_mul];exact g2
 | i+2,hz=>simp at hz
end Go.Proofs.YtjmekllgnhkodaaGreatDoor
namespace Go.Proofs.YtjmekllgnhkodaaGreatDoor
set_option maxHeartbeats 4000000
set_option maxRecDepth 100000
open Go.RowKit Go.Sort
theorem Wr.swap {w0 w:World} {bw b o c:Nat} {s:ByteArray} {x y:Opd} (h:Wr w0 w bw s (.slice (some ⟨b,o,none⟩) 2 c) [x,y]) (hq:w0.heap.size≤b∧b≠bw):Wr w0 (setL w b (swaps o x y)) bw s (.slice (some ⟨b,o,none⟩) 2 c) [y,x]:=
 ⟨(setL_keep (Ne.symm hq.2) _ _).trans h.blk,swap_own h.own,h.old,setL_below hq.1 _ h.below,h.spc0⟩
def opHL:Opd:=⟨3,2,0⟩
def opDE:Opd:=⟨3,1,0⟩
def exch (s:ByteArray) (l:List Opd):List Opd:=if (s.toList==[69,88])&&decide (l=[opHL,opDE]) then [opDE,opHL] else l
theorem exch_any (w0 w:World) (bw:Nat) (s:ByteArray) (v:Value) (l:List Opd) (h:Wr w0 w bw s v l):
  Calls Tryz.prog 96 #[.pointer (some ⟨bw,0,none⟩)] w fun e w'=>e=.returned (.tuple #[])∧∃v',Wr w0 w' bw s v' (exch s l):=by
 obtain ⟨a,c,rfl,hc,hm,g⟩:=h.own
 have HB:Below w.heap.size w ((w.alloc (.cells #[.int .i64 3,.int .i64 2,.int .i64 0] 90)).alloc (.cells #[.int .i64 3,.int .i64 1,.int .i64 0] 90)):=((Below.refl _ _).alloc (Nat.le_refl _) _).alloc (by simp) _
 have H1:=Lib.hid (h.later HB)
 obtain ⟨e0,e1,f0,f1⟩:=H1.out.blk.two
 have hbw:=h.blk.lt
 cases h1:(s.toList==[69,88])
 ·have HV:=Lib.hid (show exch s l=l by simp [exch,h1])
  clear g hc hm
  go_enter Tryz.func96,Tryz.ntmps96
  go_wp2
  go_quiet (fail)
  go_wp2
  go_end0
  exact ⟨rfl,_,by rw [HV.out];exact H1.out.drewN nq⟩
 ·clear g hc hm
  obtain ⟨W,hW⟩:∃W:World,W=((w.alloc (.cells #[.int .i64 3,.int .i64 2,.int .i64 0] 90)).alloc (.cells #[.int .i64 3,.int .i64 1,.int .i64 0] 90)):=⟨_,rfl⟩
  have k1:Blk W w.heap.size 90 #[.int .i64 3,.int .i64 2,.int .i64 0]:=hW ▸ (Blk.new w _ _).alloc _
  have k2:Blk W (w.heap.size+1) 90 #[.int .i64 3,.int .i64 1,.int .i64 0]:=by rw [hW];exact (by simpa using Blk.new (w.alloc (.cells #[.int .i64 3,.int .i64 2,.int .i64 0] 90)) 90 #[.int .i64 3,.int .i64 1,.int .i64 0])
  obtain ⟨a0,a1,a2,_⟩:=k1.three
  obtain ⟨b0,b1,b2,_⟩:=k2.three
  rw [←hW] at H1 e0 e1 f0 f1
  have hbW:bw < W.heap.size:=H1.out.blk.lt
  have HSA:Hid (SlR opdR ((W.alloc (.cells #[.int .i64 3,.int .i64 2,.int .i64 0,.int .i64 3,.int .i64 1,.int .i64 0] 90)).drew) (fun _=>True) (.slice a l.length c) l):=((H1.out.own.slR.alloc _).drew).mono (fun _ _=>trivial)
  have HSB:Hid (SlR opdR ((W.alloc (.cells #[.int .i64 3,.int .i64 2,.int .i64 0,.int .i64 3,.int .i64 1,.int .i64 0] 90)).drew) (fun _=>True) (.slice (some ⟨W.heap.size,0,none⟩) 2 2) [opHL,opDE]):=
   (opdOwn_new (q:=fun _=>True) [opHL,opDE] #[.int .i64 3,.int .i64 2,.int .i64 0,.int .i64 3,.int .i64 1,.int .i64 0] 90 W.heap.size 2 rfl rfl (by simp [opHL,opDE,Opd.cells]) trivial (by simp)).slR.drew
  have hw2:(∃wx:World,wx=W):=⟨W,rfl⟩
  have hcall:=EqualOpd_any _ _ _ _ _ _ _ HSA.out HSB.out
  cases h2:decide (l=[opHL,opDE])
  all_goals
   simp only [h2] at hcall
   have HCALL:=Lib.hid hcall
   clear hcall hw2
   have HW:=Lib.hid hW
   go_enter Tryz.func96,Tryz.ntmps96
   go_wp2
   rw [←hW]
   have hs1:w.heap.size < W.heap.size:=k1.lt
   have hs2:w.heap.size+1 < W.heap.size:=k2.lt
   have H2:=Lib.hid h2
   clear hW k1 k2 HB h2
   go_region_held3 (fun w'=>w'.cell? ⟨bw,0,none⟩=some (.string s)∧w'.cell? ⟨bw,1,none⟩=some (.slice a l.length c)∧w'.cell? ⟨w.heap.size,0,none⟩=some (.int .i64 3)∧w'.cell? ⟨w.heap.size,1,none⟩=some (.int .i64 2)∧w'.cell? ⟨w.heap.size,2,none⟩=some (.int .i64 0)∧w'.cell? ⟨w.heap.size+1,0,none⟩=some (.int .i64 3)∧w'.cell? ⟨w.heap.size+1,1,none⟩=some (.int .i64 1)∧w'.cell? ⟨w.heap.size+1,2,none⟩=some (.int .i64 0)) (go_keep)
    (first | (go_at_call 59;refine HCALL.out.mono ?_;rintro e w' ⟨rfl,nq,rfl⟩))
  ·go_wp2
   go_end0
   have HV:exch s l=l:=by simp [exch,of_decide_eq_false H2.out]
   exact ⟨rfl,_,by rw [HV];exact (H1.out.alloc _).drewN _⟩
  ·go_wp2_with fail
   have HX:=Lib.hid ((H1.out.alloc (.cells #[.int .i64 3,.int .i64 2,.int .i64 0,.int .i64 3,.int .i64 1,.int .i64 0] 90)).drewN (1+nq))
   clear HCALL HSA HSB
   generalize (W.alloc (.cells #[.int .i64 3,.int .i64 2,.int .i64 0,.int .i64 3,.int .i64 1,.int .i64 0] 90)).drewN (1+nq)=W3 at *
   have HV:Hid (exch s l=[opDE,opHL]):=by have:=of_decide_eq_true H2.out;exact Lib.hid (by rw [this];simp [exch,h1])
   obtain rfl:l=[opHL,opDE]:=of_decide_eq_true H2.out
   obtain ⟨a',c',e',_,_,g⟩:=HX.out.own
   injection e' with e1' _ e3'
   subst e1' e3'
   obtain ⟨b,o,rfl,hq,_,c0,c1,c2,fr⟩:=g 0 opHL rfl
   obtain ⟨b',o',eb,_,_,d0,d1,d2,_⟩:=g 1 opDE rfl
   injection eb with eb
   injection eb with eb1 eb2
   subst eb1 eb2
   rw [Nat.zero_mul,Nat.add_zero] at c0 c1 c2
   rw [Nat.one_mul] at d0 d1 d2
   refine (Reverse_two b o c opHL opDE W3 c0 c1 c2 d0 d1 d2 fr).mono ?_
   rintro e w' ⟨rfl,rfl⟩
   clear c0 c1 c2 d0 d1 d2 fr g
   go_wp2
   go_end0
   refine ⟨rfl,.slice (some ⟨b,o,none⟩) 2 c,?_⟩
   rw [HV.out]
   exact (HX.out.swap hq).drew
end Go.Proofs.YtjmekllgnhkodaaGreatDoor
namespace Go.Proofs.YtjmekllgnhkodaaGreatDoor
set_option maxHeartbeats 4000000
set_option maxRecDepth 100000
open Go.RowKit
def wJp:List ByteArray:=[⟨#[74,80]⟩,⟨#[67,65,76,76]⟩]
theorem wZero_fields:fieldsOf ⟨#[66,73,84,32,82,69,83,32,83,69,84,32,73,77,32,82,83,84,32,79,85,84]⟩=wZero:=by decide+kernel
theorem wJp_fields:fieldsOf ⟨#[74,80,32,67,65,76,76]⟩=wJp:=by decide+kernel
theorem wZero_ascii:∀(j:Nat) b,(⟨#[66,73,84,32,82,69,83,32,83,69,84,32,73,77,32,82,83,84,32,79,85,84]⟩:ByteArray).data.toList[j]?=some b→b.toNat < 128:=fun _ b h=>
 (by decide+kernel:∀x∈(⟨#[66,73,84,32,82,69,83,32,83,69,84,32,73,77,32,82,83,84,32,79,85,84]⟩:ByteArray).data.toList,x.toNat < 128) b (List.mem_of_getElem? h)
theorem wJp_ascii:∀(j:Nat) b,(⟨#[74,80,32,67,65,76,76]⟩:ByteArray).data.toList[j]?=some b→b.toNat < 128:=fun _ b h=>
 (by decide+kernel:∀x∈(⟨#[74,80,32,67,65,76,76]⟩:ByteArray).data.toList,x.toNat < 128) b (List.mem_of_getElem? h)
theorem wordZero_any (s:ByteArray) (w:World) (hT:Spc w):Calls Tryz.prog 141 #[.string ⟨#[66,73,84,32,82,69,83,32,83,69,84,32,73,77,32,82,83,84,32,79,85,84]⟩,.string s] w fun e w'=>e=.returned (.bool (inL wZero s))∧Below w.heap.size w w':=
 word_any _ wZero s w wZero_fields (by decide) (by decide) wZero_ascii hT
theorem wordJp_any (s:ByteArray) (w:World) (hT:Spc w):Calls Tryz.prog 141 #[.string ⟨#[74,80,32,67,65,76,76]⟩,.string s] w fun e w'=>e=.returned (.bool (inL wJp s))∧Below w.heap.size w w':=
 word_any _ wJp s w wJp_fields (by decide) (by decide) wJp_ascii hT
theorem inL_jp (s:ByteArray):inL wJp s=((s.toList==[74,80]) || (s.toList==[67,65,76,76])):=by
 have e1:(⟨#[74,80]⟩:ByteArray).toList=[74,80]:=toList_mk _
 have e2:(⟨#[67,65,76,76]⟩:ByteArray).toList=[67,65,76,76]:=toList_mk _
 simp only [inL,wJp,List.any_cons,List.any_nil,Bool.or_false,e1,e2]
 rw [Bool.beq_comm,Bool.beq_comm (a:=[67,65,76,76])]
theorem Width_any (p:Blocks) (x:Ins) (v:Value) (w:World) (h:SlR opdR w p v x.args) (hT:Spc w):
  Calls Tryz.prog 143 #[.agg #[.string x.op,v]] w fun e w'=>e=.returned (.int .i64 (width x))∧Below w.heap.size w w':=by
 obtain ⟨s,l⟩:=x
 dsimp only at h
 obtain ⟨a,c,rfl,hc,hm,g⟩:=h.opd
 clear h
 have HSP:=Lib.hid hT
 clear hT
 have HB0:Hid (Below w.heap.size w (w.alloc (.cells #[.string s,.slice a l.length c] 27))):=(Below.refl _ _).alloc (Nat.le_refl _) _
 have HK0:Hid (Blk (w.alloc (.cells #[.string s,.slice a l.length c] 27)) w.heap.size 27 #[.string s,.slice a l.length c]):=Blk.new w _ _
 have hzw:=fun wx hT=>wordZero_any s wx hT
 have hjw:=fun wx hT=>wordJp_any s wx hT
 cases hz:inL wZero s
 all_goals
  simp only [hz] at hzw
  have HZ:=Lib.hid hzw
  clear hzw
 ·cases hj:inL wJp s
  all_goals
   simp only [hj] at hjw
   have HJ:=Lib.hid hjw
   have hjp:=inL_jp s
   rw [hj] at hjp
   clear hjw
  ·obtain ⟨h1,h2⟩:=Bool.or_eq_false_iff.1 hjp.symm
   clear hjp
   cases h3:(s.toList==[76,68])
   ·clear g
    have HV:=Lib.hid (show width ⟨s,l⟩=1 by simp [width,hz,h1,h2,h3])
    go_enter Tryz.func143,Tryz.ntmps143
    go_wp2_with fail
    refine (HZ.out _ (HSP.out.below HB0.out)).mono ?_
    rintro e w1 ⟨rfl,hb1⟩
    have HB1:=Lib.hid hb1
    have HK1:=Lib.hid (HK0.out.below hb1 HK0.out.lt)
    obtain ⟨e0,e1,_,_⟩:=HK1.out.two
    clear hb1
    go_wp2_with fail
    refine (HJ.out _ ((HSP.out.below HB0.out).below HB1.out)).mono ?_
    rintro e w2 ⟨rfl,hb2⟩
    have HB2:=Lib.hid hb2
    have HK2:=Lib.hid (HK1.out.below hb2 HK1.out.lt)
    clear e0 e1 hb2
    obtain ⟨e0,e1,_,_⟩:=HK2.out.two
    go_wp2
    go_ret
    exact ⟨ret_int HV.out.symm,(HB0.out.trans (HB1.out.mono HB0.out.size)).trans (HB2.out.mono (Nat.le_trans HB0.out.size HB1.out.size))⟩
   ·cases l with
    | nil=>
     clear g
     have HV:=Lib.hid (show width ⟨s,[]⟩=1 by simp [width,hz,h1,h2,h3,head3])
     go_enter Tryz.func143,Tryz.ntmps143
     go_wp2_with fail
     refine (HZ.out _ (HSP.out.below HB0.out)).mono ?_
     rintro e w1 ⟨rfl,hb1⟩
     have HB1:=Lib.hid hb1
     have HK1:=Lib.hid (HK0.out.below hb1 HK0.out.lt)
     obtain ⟨e0,e1,_,_⟩:=HK1.out.two
     clear hb1
     go_wp2_with fail
     refine (HJ.out _ ((HSP.out.below HB0.out).below HB1.out)).mono ?_
     rintro e w2 ⟨rfl,hb2⟩
     have HB2:=Lib.hid hb2
     have HK2:=Lib.hid (HK1.out.below hb2 HK1.out.lt)
     clear e0 e1 hb2
     obtain ⟨e0,e1,_,_⟩:=HK2.out.two
     go_wp2
     go_ret
     exact ⟨ret_int HV.out.symm,(HB0.out.trans (HB1.out.mono HB0.out.size)).trans (HB2.out.mono (Nat.le_trans HB0.out.size HB1.out.size))⟩
    | cons x l=>
     obtain ⟨b,o,rfl,_,d1,d2,d3⟩:=g 0 x rfl
     clear g
     simp only [Nat.zero_mul,Nat.add_zero] at d1
     clear d2 d3
     have hbl:b < w.heap.size:=World.block_lt_of_cell? w _ d1
     have hk0:(0:Int) < ((x::l).length:Int):=by simp
     have hk1:0 < (x::l).length:=by simp
     cases h4:(x.kind==3)
     ·have HV:=Lib.hid (show width ⟨s,x::l⟩=1 by simp [width,hz,h1,h2,h3,head3,h4])
      generalize (x::l).length=n at *
      go_enter Tryz.func143,Tryz.ntmps143
      go_wp2_with fail
      refine (HZ.out _ (HSP.out.below HB0.out)).mono ?_
      rintro e w1 ⟨rfl,hb1⟩
      have HB1:=Lib.hid hb1
      have HK1:=Lib.hid (HK0.out.below hb1 HK0.out.lt)
      obtain ⟨e0,e1,_,_⟩:=HK1.out.two
      clear hb1
      go_wp2_with fail
      refine (HJ.out _ ((HSP.out.below HB0.out).below HB1.out)).mono ?_
      rintro e w2 ⟨rfl,hb2⟩
      have HB2:=Lib.hid hb2
      have HK2:=Lib.hid (HK1.out.below hb2 HK1.out.lt)
      clear e0 e1 hb2
      obtain ⟨e0,e1,_,_⟩:=HK2.out.two
      have d1':=(HB2.out.cell (p:=⟨b,o,none⟩) (Nat.lt_of_lt_of_le (Nat.lt_of_lt_of_le hbl HB0.out.size) HB1.out.size)).trans ((HB1.out.cell (p:=⟨b,o,none⟩) (Nat.lt_of_lt_of_le hbl HB0.out.size)).trans ((HB0.out.cell (p:=⟨b,o,none⟩) hbl).trans d1))
      go_wp2
      go_ret
      exact ⟨ret_int HV.out.symm,(HB0.out.trans (HB1.out.mono HB0.out.size)).trans (HB2.out.mono (Nat.le_trans HB0.out.size HB1.out.size))⟩
     ·have HV:=Lib.hid (show width ⟨s,x::l⟩=2 by simp [width,hz,h1,h2,h3,head3,h4])
      generalize (x::l).length=n at *
      go_enter Tryz.func143,Tryz.ntmps143
      go_wp2_with fail
      refine (HZ.out _ (HSP.out.below HB0.out)).mono ?_
      rintro e w1 ⟨rfl,hb1⟩
      have HB1:=Lib.hid hb1
      have HK1:=Lib.hid (HK0.out.below hb1 HK0.out.lt)
      obtain ⟨e0,e1,_,_⟩:=HK1.out.two
      clear hb1
      go_wp2_with fail
      refine (HJ.out _ ((HSP.out.below HB0.out).below HB1.out)).mono ?_
      rintro e w2 ⟨rfl,hb2⟩
      have HB2:=Lib.hid hb2
      have HK2:=Lib.hid (HK1.out.below hb2 HK1.out.lt)
      clear e0 e1 hb2
      obtain ⟨e0,e1,_,_⟩:=HK2.out.two
      have d1':=(HB2.out.cell (p:=⟨b,o,none⟩) (Nat.lt_of_lt_of_le (Nat.lt_of_lt_of_le hbl HB0.out.size) HB1.out.size)).trans ((HB1.out.cell (p:=⟨b,o,none⟩) (Nat.lt_of_lt_of_le hbl HB0.out.size)).trans ((HB0.out.cell (p:=⟨b,o,none⟩) hbl).trans d1))
      go_wp2
      go_ret
      exact ⟨ret_int HV.out.symm,(HB0.out.trans (HB1.out.mono HB0.out.size)).trans (HB2.out.mono (Nat.le_trans HB0.out.size HB1.out.size))⟩
  ·clear g
   have HV:=Lib.hid (show width ⟨s,l⟩=2 by
    have e:((s.toList==[74,80]) || (s.toList==[67,65,76,76]))=true:=hjp.symm
    simp only [width,hz,e,Bool.true_or,if_true];rfl)
   clear hjp
   go_enter Tryz.func143,Tryz.ntmps143
   go_wp2_with fail
   refine (HZ.out _ (HSP.out.below HB0.out)).mono ?_
   rintro e w1 ⟨rfl,hb1⟩
   have HB1:=Lib.hid hb1
   have HK1:=Lib.hid (HK0.out.below hb1 HK0.out.lt)
   obtain ⟨e0,e1,_,_⟩:=HK1.out.two
   clear hb1
   go_wp2_with fail
   refine (HJ.out _ ((HSP.out.below HB0.out).below HB1.out)).mono ?_
   rintro e w2 ⟨rfl,hb2⟩
   have HB2:=Lib.hid hb2
   have HK2:=Lib.hid (HK1.out.below hb2 HK1.out.lt)
   clear e0 e1 hb2
   obtain ⟨e0,e1,_,_⟩:=HK2.out.two
   go_wp2
   go_ret
   exact ⟨ret_int HV.out.symm,(HB0.out.trans (HB1.out.mono HB0.out.size)).trans (HB2.out.mono (Nat.le_trans HB0.out.size HB1.out.size))⟩
 ·clear g hjw
  have HV:=Lib.hid (show width ⟨s,l⟩=0 by simp [width,hz])
  go_enter Tryz.func143,Tryz.ntmps143
  go_wp2_with fail
  refine (HZ.out _ (HSP.out.below HB0.out)).mono ?_
  rintro e w1 ⟨rfl,hb1⟩
  have HB1:=Lib.hid hb1
  have HK1:=Lib.hid (HK0.out.below hb1 HK0.out.lt)
  obtain ⟨e0,e1,_,_⟩:=HK1.out.two
  clear hb1
  go_wp2
  go_ret
  exact ⟨ret_int HV.out.symm,HB0.out.trans (HB1.out.mono HB0.out.size)⟩
end Go.Proofs.YtjmekllgnhkodaaGreatDoor
namespace Go.Proofs.YtjmekllgnhkodaaGreatDoor
set_option maxHeartbeats 4000000
set_option maxRecDepth 100000
open Go.RowKit
def numb (sz:Int) (o:Opd):Opd:=if o.kind=6∧o.n < 0∧-(sz / 2)≤o.n∧1 < sz then {o with n:=o.n+sz} else o
def sizeOfW (w:Int):Int:=if w=2 then 65536 else if w=1 then 256 else 1
theorem width_cases (x:Ins):width x=0∨width x=1∨width x=2:=by
 unfold width
 split
 ·exact .inl rfl
 ·split
  ·exact .inr (.inr rfl)
  ·exact .inr (.inl rfl)
def part (sz:Int) (l:List Opd) (k:Nat):List Opd:=(l.take k).map (numb sz)++l.drop k
theorem part_zero (sz:Int) (l:List Opd):part sz l 0=l:=by simp [part]
theorem part_all (sz:Int) (l:List Opd) (k:Nat) (h:l.length≤k):part sz l k=l.map (numb sz):=by simp [part,List.take_of_length_le h,List.drop_of_length_le h]
theorem part_len (sz:Int) (l:List Opd) (k:Nat):(part sz l k).length=l.length:=by simp [part];omega
theorem part_at (sz:Int) (l:List Opd) (k:Nat) (h:k < l.length):(part sz l k)[k]?=some l[k]:=by
 unfold part
 rw [List.getElem?_append_right (by simp;omega)]
 simp [Nat.min_eq_left (Nat.le_of_lt h)]
theorem part_succ (sz:Int) (l:List Opd) (k:Nat) (h:k < l.length):part sz l (k+1)=(part sz l k).set k (numb sz l[k]):=by
 unfold part
 rw [List.set_append_right _ _ (by simp;omega),List.take_succ_eq_append_getElem h]
 simp only [List.length_map,List.length_take,Nat.min_eq_left (Nat.le_of_lt h),Nat.sub_self,List.map_append,List.map_cons,List.map_nil,List.append_assoc]
 rw [List.drop_eq_getElem_cons h]
 rfl
theorem part_same (sz:Int) (l:List Opd) (k:Nat) (h:k < l.length) (hn:numb sz l[k]=l[k]):part sz l (k+1)=part sz l k:=by
 rw [part_succ sz l k h,hn]
 refine List.ext_getElem? fun i=>?_
 by_cases hi:k=i
 ·subst hi
  rw [part_at sz l k h,List.getElem?_set_self (by rw [part_len];exact h)]
 ·rw [List.getElem?_set_ne hi]
theorem numbers_any (w0 w:World) (bw:Nat) (s:ByteArray) (v:Value) (l:List Opd) (h:Wr w0 w bw s v l) (hn:∀x∈l,-9223372036854775808≤x.n∧x.n≤9223372036854775807):
  Calls Tryz.prog 97 #[.pointer (some ⟨bw,0,none⟩)] w fun e w'=>e=.returned (.tuple #[])∧Wr w0 w' bw s v (l.map (numb (sizeOfW (width ⟨s,l⟩)))):=by
 obtain ⟨a,c,rfl,hc,hm,g⟩:=h.own
 have H:=Lib.hid h
 have HN:=Lib.hid hn
 have hwd:=fun wx h1 h2=>Width_any (fun _=>True) ⟨s,l⟩ (.slice a l.length c) wx h1 h2
 obtain ⟨e0,e1,_,_⟩:=h.blk.two
 have HLEN:Hid (l.length≤9223372036854775807):=Lib.hid (by omega)
 clear h hn g hc hm
 rcases width_cases ⟨s,l⟩ with hw | hw | hw
 ·rw [hw]
  dsimp only at hwd
  rw [hw] at hwd
  have HWD:=Lib.hid hwd
  clear hwd
  go_enter Tryz.func97,Tryz.ntmps97
  go_wp2_with fail
  refine (HWD.out _ (H.out.own.slR.mono (fun _ _=>trivial)) H.out.spc).mono ?_
  rintro e w1 ⟨rfl,hb1⟩
  have H1:=Lib.hid (H.out.later hb1)
  clear e0 e1 hb1
  obtain ⟨e0,e1,_,_⟩:=H1.out.blk.two
  go_wp2
  go_loopw [3,4,18] (fun _ _ i wr=>∃k:Nat,k≤l.length∧i=.int .i64 k∧Wr w0 wr bw s (.slice a l.length c) (part 1 l k)) (fun _ _ i _=>l.length - (intOf i).toNat)
  case atStart=>exact ⟨0,Nat.zero_le _,rfl,by rw [part_zero];exact H1.out⟩
  case round=>
   clear e0 e1
   obtain ⟨k,hk,rfl,hwr⟩:=hrel
   have HR:=Lib.hid hwr
   clear hwr
   have hbig:=HLEN.out
   by_cases hlt:k < l.length
   ·have hat:=part_at 1 l k hlt
    obtain ⟨a',c',e',_,_,g⟩:=HR.out.own
    injection e' with e1' _ e3'
    subst e1' e3'
    obtain ⟨b,o,rfl,hq,hb,c0,c1,c2,fr⟩:=g k _ hat
    have hx:=HN.out l[k] (List.getElem_mem hlt)
    have HST:Hid (∀m:Int,Wr w0 _ bw s _ _):=fun m=>(HR.out.setN (m:=m) hat hq).alloc (.cells #[.int .i64 l[k].kind,.int .i64 l[k].reg,.int .i64 l[k].n] 90)
    have HSU:=Lib.hid (part_succ 1 l k hlt)
    have HSA:=Lib.hid (part_same 1 l k hlt)
    have hne:bw < wr.heap.size:=HR.out.blk.lt
    obtain ⟨e0,e1,_,_⟩:=HR.out.blk.two
    have hq2:=hq.2
    clear g hat hq
    generalize l[k]=x at *
    obtain ⟨hx1,hx2⟩:=hx
    have f2:=fr (o+k * 3+2)
    clear fr
    have NO:Hid (¬(x.kind=6∧x.n < 0∧-(1 / 2)≤x.n∧(1:Int) < 1)→numb 1 x=x):=fun h=>by unfold numb;rw [if_neg h]
    have YES:Hid ((x.kind=6∧x.n < 0∧-(1 / 2)≤x.n∧(1:Int) < 1)→numb 1 x={x with n:=x.n+1}):=fun h=>by unfold numb;rw [if_pos h]
    cases h6:(x.kind==6)
    ·go_wp2
     go_roundw
     case rel=>exact ⟨k+1,by omega,by go_num,by rw [HSA.out (NO.out (fun h=>by rw [h.1] at h6;cases h6))];exact HR.out.alloc _⟩
     case measure=>simp [intOf];omega
    ·by_cases h0:x.n < 0
     ·by_cases h1:0≤x.n
      ·exact absurd h1 (by omega)
      ·go_wp2
       go_roundw
       case rel=>exact ⟨k+1,by omega,by go_num,by rw [HSA.out (NO.out (fun h=>h1 (by have:=h.2.2.1;omega)))];exact HR.out.alloc _⟩
       case measure=>simp [intOf];omega
     ·go_wp2
      go_roundw
      case rel=>exact ⟨k+1,by omega,by go_num,by rw [HSA.out (NO.out (fun h=>h0 h.2.1))];exact HR.out.alloc _⟩
      case measure=>simp [intOf];omega
   ·go_wp2
    go_end0
    refine ⟨rfl,?_⟩
    have:part 1 l k=l.map (numb (sizeOfW 0)):=part_all 1 l k (by omega)
    rw [←this]
    exact HR.out
 ·rw [hw]
  dsimp only at hwd
  rw [hw] at hwd
  have HWD:=Lib.hid hwd
  clear hwd
  go_enter Tryz.func97,Tryz.ntmps97
  go_wp2_with fail
  refine (HWD.out _ (H.out.own.slR.mono (fun _ _=>trivial)) H.out.spc).mono ?_
  rintro e w1 ⟨rfl,hb1⟩
  have H1:=Lib.hid (H.out.later hb1)
  clear e0 e1 hb1
  obtain ⟨e0,e1,_,_⟩:=H1.out.blk.two
  go_wp2
  go_loopw [3,4,18] (fun _ _ i wr=>∃k:Nat,k≤l.length∧i=.int .i64 k∧Wr w0 wr bw s (.slice a l.length c) (part 256 l k)) (fun _ _ i _=>l.length - (intOf i).toNat)
  case atStart=>exact ⟨0,Nat.zero_le _,rfl,by rw [part_zero];exact H1.out⟩
  case round=>
   clear e0 e1
   obtain ⟨k,hk,rfl,hwr⟩:=hrel
   have HR:=Lib.hid hwr
   clear hwr
   have hbig:=HLEN.out
   by_cases hlt:k < l.length
   ·have hat:=part_at 256 l k hlt
    obtain ⟨a',c',e',_,_,g⟩:=HR.out.own
    injection e' with e1' _ e3'
    subst e1' e3'
    obtain ⟨b,o,rfl,hq,hb,c0,c1,c2,fr⟩:=g k _ hat
    have hx:=HN.out l[k] (List.getElem_mem hlt)
    have HST:Hid (∀m:Int,Wr w0 _ bw s _ _):=fun m=>(HR.out.setN (m:=m) hat hq).alloc (.cells #[.int .i64 l[k].kind,.int .i64 l[k].reg,.int .i64 l[k].n] 90)
    have HSU:=Lib.hid (part_succ 256 l k hlt)
    have HSA:=Lib.hid (part_same 256 l k hlt)
    have hne:bw < wr.heap.size:=HR.out.blk.lt
    obtain ⟨e0,e1,_,_⟩:=HR.out.blk.two
    have hq2:=hq.2
    clear g hat hq
    generalize l[k]=x at *
    obtain ⟨hx1,hx2⟩:=hx
    have f2:=fr (o+k * 3+2)
    clear fr
    have NO:Hid (¬(x.kind=6∧x.n < 0∧-(256 / 2)≤x.n∧(1:Int) < 256)→numb 256 x=x):=fun h=>by unfold numb;rw [if_neg h]
    have YES:Hid ((x.kind=6∧x.n < 0∧-(256 / 2)≤x.n∧(1:Int) < 256)→numb 256 x={x with n:=x.n+256}):=fun h=>by unfold numb;rw [if_pos h]
    cases h6:(x.kind==6)
    ·go_wp2
     go_roundw
     case rel=>exact ⟨k+1,by omega,by go_num,by rw [HSA.out (NO.out (fun h=>by rw [h.1] at h6;cases h6))];exact HR.out.alloc _⟩
     case measure=>simp [intOf];omega
    ·by_cases h0:x.n < 0
     ·by_cases h1:-128≤x.n
      ·go_wp2
       go_roundw
       case rel=>exact ⟨k+1,by omega,by go_num,by rw [HSU.out,YES.out ⟨by simpa using h6,h0,by omega,by omega⟩];exact HST.out _⟩
       case measure=>simp [intOf];omega
      ·go_wp2
       go_roundw
       case rel=>exact ⟨k+1,by omega,by go_num,by rw [HSA.out (NO.out (fun h=>h1 (by have:=h.2.2.1;omega)))];exact HR.out.alloc _⟩
       case measure=>simp [intOf];omega
     ·go_wp2
      go_roundw
      case rel=>exact ⟨k+1,by omega,by go_num,by rw [HSA.out (NO.out (fun h=>h0 h.2.1))];exact HR.out.alloc _⟩
      case measure=>simp [intOf];omega
   ·go_wp2
    go_end0
    refine ⟨rfl,?_⟩
    have:part 256 l k=l.map (numb (sizeOfW 1)):=part_all 256 l k (by omega)
    rw [←this]
    exact HR.out
 ·rw [hw]
  dsimp only at hwd
  rw [hw] at hwd
  have HWD:=Lib.hid hwd
  clear hwd
  go_enter Tryz.func97,Tryz.ntmps97
  go_wp2_with fail
  refine (HWD.out _ (H.out.own.slR.mono (fun _ _=>trivial)) H.out.spc).mono ?_
  rintro e w1 ⟨rfl,hb1⟩
  have H1:=Lib.hid (H.out.later hb1)
  clear e0 e1 hb1
  obtain ⟨e0,e1,_,_⟩:=H1.out.blk.two
  go_wp2
  go_loopw [3,4,18] (fun _ _ i wr=>∃k:Nat,k≤l.length∧i=.int .i64 k∧Wr w0 wr bw s (.slice a l.length c) (part 65536 l k)) (fun _ _ i _=>l.length - (intOf i).toNat)
  case atStart=>exact ⟨0,Nat.zero_le _,rfl,by rw [part_zero];exact H1.out⟩
  case round=>
   clear e0 e1
   obtain ⟨k,hk,rfl,hwr⟩:=hrel
   have HR:=Lib.hid hwr
   clear hwr
   have hbig:=HLEN.out
   by_cases hlt:k < l.length
   ·have hat:=part_at 65536 l k hlt
    obtain ⟨a',c',e',_,_,g⟩:=HR.out.own
    injection e' with e1' _ e3'
    subst e1' e3'
    obtain ⟨b,o,rfl,hq,hb,c0,c1,c2,fr⟩:=g k _ hat
    have hx:=HN.out l[k] (List.getElem_mem hlt)
    have HST:Hid (∀m:Int,Wr w0 _ bw s _ _):=fun m=>(HR.out.setN (m:=m) hat hq).alloc (.cells #[.int .i64 l[k].kind,.int .i64 l[k].reg,.int .i64 l[k].n] 90)
    have HSU:=Lib.hid (part_succ 65536 l k hlt)
    have HSA:=Lib.hid (part_same 65536 l k hlt)
    have hne:bw < wr.heap.size:=HR.out.blk.lt
    obtain ⟨e0,e1,_,_⟩:=HR.out.blk.two
    have hq2:=hq.2
    clear g hat hq
    generalize l[k]=x at *
    obtain ⟨hx1,hx2⟩:=hx
    have f2:=fr (o+k * 3+2)
    clear fr
    have NO:Hid (¬(x.kind=6∧x.n < 0∧-(65536 / 2)≤x.n∧(1:Int) < 65536)→numb 65536 x=x):=fun h=>by unfold numb;rw [if_neg h]
    have YES:Hid ((x.kind=6∧x.n < 0∧-(65536 / 2)≤x.n∧(1:Int) < 65536)→numb 65536 x={x with n:=x.n+65536}):=fun h=>by unfold numb;rw [if_pos h]
    cases h6:(x.kind==6)
    ·go_wp2
     go_roundw
     case rel=>exact ⟨k+1,by omega,by go_num,by rw [HSA.out (NO.out (fun h=>by rw [h.1] at h6;cases h6))];exact HR.out.alloc _⟩
     case measure=>simp [intOf];omega
    ·by_cases h0:x.n < 0
     ·by_cases h1:-32768≤x.n
      ·go_wp2
       go_roundw
       case rel=>exact ⟨k+1,by omega,by go_num,by rw [HSU.out,YES.out ⟨by simpa using h6,h0,by omega,by omega⟩];exact HST.out _⟩
       case measure=>simp [intOf];omega
      ·go_wp2
       go_roundw
       case rel=>exact ⟨k+1,by omega,by go_num,by rw [HSA.out (NO.out (fun h=>h1 (by have:=h.2.2.1;omega)))];exact HR.out.alloc _⟩
       case measure=>simp [intOf];omega
     ·go_wp2
      go_roundw
      case rel=>exact ⟨k+1,by omega,by go_num,by rw [HSA.out (NO.out (fun h=>h0 h.2.1))];exact HR.out.alloc _⟩
      case measure=>simp [intOf];omega
   ·go_wp2
    go_end0
    refine ⟨rfl,?_⟩
    have:part 65536 l k=l.map (numb (sizeOfW 2)):=part_all 65536 l k (by omega)
    rw [←this]
    exact HR.out
end Go.Proofs.YtjmekllgnhkodaaGreatDoor
namespace Go.Proofs.YtjmekllgnhkodaaGreatDoor
set_option maxHeartbeats 4000000
set_option maxRecDepth 100000
open Go.RowKit
def canonArgs (s:ByteArray) (l:List Opd):List Opd:=let l2:=exch s (accum s l);l2.map (numb (sizeOfW (width ⟨s,l2⟩)))
def canonOf (x:Ins):Ins:=⟨x.op,canonArgs x.op x.args⟩
theorem accum_fits {s:ByteArray} {l:List Opd} (h:∀x∈l,fits64 x.n):∀x∈accum s l,fits64 x.n:=by
 intro x hx
 unfold accum at hx
 have h0:fits64 (0:Int):=⟨by decide,by decide⟩
 split at hx
 ·split at hx
  ·rcases List.mem_cons.1 hx with rfl | hx
   ·exact h0
   ·exact h x hx
  ·exact h x hx
 ·split at hx
  ·exact h x (by simp at hx ⊢;exact .inr hx)
  ·exact h x hx
 ·exact h x hx
theorem exch_fits {s:ByteArray} {l:List Opd} (h:∀x∈l,fits64 x.n):∀x∈exch s l,fits64 x.n:=by
 intro x hx
 unfold exch at hx
 have h0:fits64 (0:Int):=⟨by decide,by decide⟩
 split at hx
 ·simp at hx
  rcases hx with rfl | rfl<;>exact h0
 ·exact h x hx
theorem Of_any (p:Blocks) (x:Ins) (v:Value) (w:World) (h:SlR opdR w p v x.args) (hT:Spc w) (hn:x.args.length≤1000000) (hf:∀y∈x.args,fits64 y.n):
  Calls Tryz.prog 62 #[.agg #[.string x.op,v]] w fun e w'=>∃v',e=.returned (.agg #[.string x.op,v'])∧OpdOwn w' (fun b=>w.heap.size≤b) v' (canonOf x).args∧Below w.heap.size w w':=by
 obtain ⟨s,l⟩:=x
 dsimp only at *
 obtain ⟨a,c,rfl,_⟩:=h.opd
 have H:=Lib.hid h
 have HT:=Lib.hid hT
 have HN:=Lib.hid hn
 have HF:=Lib.hid hf
 clear h hT hn hf
 obtain ⟨W,hW⟩:∃W:World,W=(w.alloc (.cells #[.string s,.slice a l.length c] 27)).alloc (.cells #[.string ⟨#[]⟩,.slice none 0 0] 27):=⟨_,rfl⟩
 have hbW:Below w.heap.size w W:=hW ▸ ((Below.refl _ _).alloc (Nat.le_refl _) _).alloc (by simp) _
 have k1:Blk W w.heap.size 27 #[.string s,.slice a l.length c]:=hW ▸ (Blk.new w _ _).alloc _
 have k2:Blk W (w.heap.size+1) 27 #[.string ⟨#[]⟩,.slice none 0 0]:=by rw [hW];exact (by simpa using Blk.new (w.alloc (.cells #[.string s,.slice a l.length c] 27)) 27 #[.string ⟨#[]⟩,.slice none 0 0])
 have HBW:=Lib.hid hbW
 have K2:=Lib.hid k2
 obtain ⟨a0,a1,_,_⟩:=k1.two
 have hs1:w.heap.size < W.heap.size:=k1.lt
 have hs2:w.heap.size+1 < W.heap.size:=k2.lt
 clear hbW k1 k2
 go_enter Tryz.func62,Tryz.ntmps62
 go_wp2
 rw [←hW]
 have HW:=Lib.hid hW
 clear hW
 have HCL:=Lib.hid (CloneOpd_any p _ _ W.drew (H.out.below HBW.out).drew HN.out)
 go_region_held3 (fun w'=>w'.cell? ⟨w.heap.size,0,none⟩=some (.string s)∧w'.cell? ⟨w.heap.size,1,none⟩=some (.slice a l.length c)) (go_keep)
  (first | (go_at_call 90;refine HCL.out.mono ?_;rintro e w1 ⟨v',rfl,ho,hb⟩;have HO:=Lib.hid ho;have HB:=Lib.hid hb;obtain ⟨a',cap',rfl⟩:=ho.form;have a0':w1.cell? ⟨w.heap.size,0,none⟩=some (.string s):=(hb.cell (p:=⟨w.heap.size,0,none⟩) hs1).trans a0;have a1':w1.cell? ⟨w.heap.size,1,none⟩=some (.slice a l.length c):=(hb.cell (p:=⟨w.heap.size,1,none⟩) hs1).trans a1;clear ho hb))
 have HWR:Hid (Wr W (w1.alloc (.cells #[.string s,.slice a' l.length cap'] 144)) w1.heap.size s (.slice a' l.length cap') l):=
  ⟨Blk.new _ _ _,(HO.out.opdOwn (q:=fun b=>W.heap.size≤b∧b≠w1.heap.size) (fun k hk=>⟨(HO.out.lt k hk).1,by have:=(HO.out.lt k hk).2;omega⟩)).below ((Below.refl _ _).alloc (Nat.le_refl _) _),HB.out.size,(Below.trans (b:=w1) ⟨HB.out.os,HB.out.tape,HB.out.output,HB.out.size,HB.out.block⟩ ((Below.refl _ _).mono HB.out.size |>.alloc HB.out.size _)),HT.out.below HBW.out⟩
 clear a0 a1 a0' a1'
 generalize w1.alloc (.cells #[.string s,.slice a' l.length cap'] 144)=W2 at *
 have i0:∀w,(Instr.index 146 (.agg #[.func (.func 95) #[] #[],.func (.func 96) #[] #[],.func (.func 97) #[] #[]]) (.int .i64 0)).run Tryz.prog w=.ok (.func (.func 95) #[] #[]) w:=fun _=>by kernel_rfl
 have i1:∀w,(Instr.index 146 (.agg #[.func (.func 95) #[] #[],.func (.func 96) #[] #[],.func (.func 97) #[] #[]]) (.int .i64 1)).run Tryz.prog w=.ok (.func (.func 96) #[] #[]) w:=fun _=>by kernel_rfl
 have i2:∀w,(Instr.index 146 (.agg #[.func (.func 95) #[] #[],.func (.func 96) #[] #[],.func (.func 97) #[] #[]]) (.int .i64 2)).run Tryz.prog w=.ok (.func (.func 97) #[] #[]) w:=fun _=>by kernel_rfl
 go_wp2
 refine wp_loop_rounds 4 ?_
 rw [rounds_succ]
 go_wp2_with (go_at_call 95;refine (acc_any _ _ _ _ _ _ HWR.out).mono ?_;rintro e w3 ⟨rfl,v3,h3⟩;have H3:=Lib.hid h3;clear h3)
 rw [rounds_succ]
 go_wp2_with (go_at_call 96;refine (exch_any _ _ _ _ _ _ H3.out).mono ?_;rintro e w4 ⟨rfl,v4,h4⟩;have H4:=Lib.hid h4;clear h4)
 rw [rounds_succ]
 go_wp2_with (go_at_call 97;refine (numbers_any _ _ _ _ _ _ H4.out (exch_fits (accum_fits HF.out))).mono ?_;rintro e w5 ⟨rfl,h5⟩;have H5:=Lib.hid h5;clear h5)
 rw [rounds_succ]
 obtain ⟨a5,c5,rfl,_⟩:=H5.out.own
 obtain ⟨e0,e1,_,_⟩:=H5.out.blk.two
 have HK5:=Lib.hid (K2.out.below H5.out.below K2.out.lt)
 obtain ⟨r0,r1,q0,q1⟩:=HK5.out.two
 have HRES:=Lib.hid ((HK5.out.set 0 (.string s)).set 1 (.slice a5 (exch s (accum s l)).length c5))
 go_wp2
 refine bodyPost_ret (results_cell_row rfl _ _ (w.heap.size+1) 27 #[.string s,.slice a5 (exch s (accum s l)).length c5] (0,0) _ rfl HRES.out Tryz.underlying27 rfl (by kernel_rfl)) rfl ⟨.slice a5 (exch s (accum s l)).length c5,rfl,?_,?_⟩
 ·have ho:=H5.out.own
  rw [List.length_map] at ho
  have ho2:OpdOwn w5 (fun b=>W.heap.size≤b) (.slice a5 (exch s (accum s l)).length c5) (canonArgs s l):=ho.mono (fun _ hk=>hk.1)
  refine (ho2.keep fun k hk=>?_).mono (fun k (hk:W.heap.size≤k)=>by omega)
  have hk':W.heap.size≤k:=hk
  rw [Below.heap_setCell _ _ _ _ (by simp;omega),Below.heap_setCell _ _ _ _ (by simp;omega)]
 ·exact ((HBW.out.trans (H5.out.below.mono HBW.out.size)).setCell (p:=⟨w.heap.size+1,0,none⟩) (by simp) _).setCell (p:=⟨w.heap.size+1,1,none⟩) (by simp) _
end Go.Proofs.YtjmekllgnhkodaaGreatDoor
namespace Go.Proofs.YtjmekllgnhkodaaGreatDoor
set_option maxHeartbeats 4000000
set_option maxRecDepth 100000
open Go.RowKit
def short8 (x:Ins):Bool:=decide (x.op.size≤100)&&decide (x.args.length≤20)
end Go.Proofs.YtjmekllgnhkodaaGreatDoor
namespace Go.Proofs.YtjmekllgnhkodaaGreatDoor
set_option maxHeartbeats 4000000
set_option maxRecDepth 100000
open Go.RowKit
theorem ld_noSub:inL wSub ⟨#[76,68]⟩=false:=by decide+kernel
theorem ld_noAdd:inL wAdd ⟨#[76,68]⟩=false:=by decide+kernel
theorem op_of {s:ByteArray} {l:List UInt8} (h:(s.toList==l)=true):s=⟨l.toArray⟩:=toList_inj ((eq_of_beq h).trans (toList_mk l).symm)
theorem accum_no {s:ByteArray} {l:List Opd} (h1:inL wSub s=false) (h2:inL wAdd s=false):accum s l=l:=by
 match l with
 | []=>rfl
 | [x]=>simp [accum,h2]
 | [x,y]=>simp [accum,h1]
 | _::_::_::_=>rfl
theorem exch_no {s:ByteArray} {l:List Opd} (h:(s.toList==[69,88])=false):exch s l=l:=by simp [exch,h]
theorem width_no {s:ByteArray} (l m:List Opd) (h:(s.toList==[76,68])=false):width ⟨s,l⟩=width ⟨s,m⟩:=by simp [width,h]
theorem width_exac (s:ByteArray) (l:List Opd):width ⟨s,exch s (accum s l)⟩=width ⟨s,l⟩:=by
 cases h:(s.toList==[76,68])
 ·exact width_no _ _ h
 ·obtain rfl:=op_of h
  rw [accum_no ld_noSub ld_noAdd,exch_no (by decide+kernel)]
end Go.Proofs.YtjmekllgnhkodaaGreatDoor
namespace Go.Proofs.YtjmekllgnhkodaaGreatDoor
set_option maxHeartbeats 4000000
set_option maxRecDepth 100000
open Go.RowKit
theorem canonArgs_eq (s:ByteArray) (l:List Opd):canonArgs s l=(exch s (accum s l)).map (numb (sizeOfW (width ⟨s,l⟩))):=by
 unfold canonArgs;dsimp only;rw [width_exac]
end Go.Proofs.YtjmekllgnhkodaaGreatDoor
namespace Go.Proofs.YtjmekllgnhkodaaGreatDoor
set_option maxHeartbeats 4000000
set_option maxRecDepth 100000
open Go.RowKit
end Go.Proofs.YtjmekllgnhkodaaGreatDoor
namespace Go.Proofs.YtjmekllgnhkodaaGreatDoor
set_option maxHeartbeats 4000000
set_option maxRecDepth 100000
open Go.RowKit
end Go.Proofs.YtjmekllgnhkodaaGreatDoor
namespace Go.Proofs.YtjmekllgnhkodaaGreatDoor
set_option maxHeartbeats 4000000
set_option maxRecDepth 100000
open Go.RowKit
end Go.Proofs.YtjmekllgnhkodaaGreatDoor
namespace Go.Proofs.YtjmekllgnhkodaaGreatDoor
set_option maxHeartbeats 4000000
set_option maxRecDepth 100000
open Go.RowKit
end Go.Proofs.YtjmekllgnhkodaaGreatDoor
namespace Go.Proofs.YtjmekllgnhkodaaGreatDoor
set_option maxHeartbeats 4000000
set_option maxRecDepth 100000
open Go.RowKit
end Go.Proofs.YtjmekllgnhkodaaGreatDoor
namespace Go.Proofs.YtjmekllgnhkodaaGreatDoor
set_option maxHeartbeats 4000000
set_option maxRecDepth 100000
open Go.RowKit
end Go.Proofs.YtjmekllgnhkodaaGreatDoor
namespace Go.Proofs.YtjmekllgnhkodaaGreatDoor
set_option maxHeartbeats 4000000
set_option maxRecDepth 100000
open Go.RowKit
end Go.Proofs.YtjmekllgnhkodaaGreatDoor
namespace Go.Proofs.YtjmekllgnhkodaaGreatDoor
set_option maxHeartbeats 4000000
set_option maxRecDepth 100000
open Go.RowKit
end Go.Proofs.YtjmekllgnhkodaaGreatDoor
namespace Go.Proofs.YtjmekllgnhkodaaGreatDoor
set_option maxHeartbeats 4000000
set_option maxRecDepth 100000
open Go.RowKit
end Go.Proofs.YtjmekllgnhkodaaGreatDoor
namespace Go.Proofs.YtjmekllgnhkodaaGreatDoor
set_option maxHeartbeats 4000000
set_option maxRecDepth 100000
open Go.RowKit
end Go.Proofs.YtjmekllgnhkodaaGreatDoor
namespace Go.Proofs.YtjmekllgnhkodaaGreatDoor
set_option maxHeartbeats 4000000
set_option maxRecDepth 100000
open Go.RowKit
end Go.Proofs.YtjmekllgnhkodaaGreatDoor
namespace Go.Proofs.YtjmekllgnhkodaaGreatDoor
set_option maxHeartbeats 4000000
set_option maxRecDepth 100000
open Go.RowKit
end Go.Proofs.YtjmekllgnhkodaaGreatDoor
namespace Go.Proofs.YtjmekllgnhkodaaGreatDoor
set_option maxHeartbeats 4000000
set_option maxRecDepth 100000
open Go.RowKit
structure Ro (w wx:World) (s:ByteArray) (vi v:Value) (l:List Opd):Prop where
 b1:Blk wx w.heap.size 27 #[.string s,vi]
 b2:Blk wx (w.heap.size+1) 27 #[.string ⟨#[]⟩,.slice none 0 0]
 b3:Blk wx (w.heap.size+1+1) 90 #[.int .i64 1,.int .i64 7,.int .i64 0]
 own:OpdOwn wx (fun b=>w.heap.size+1+1+1≤b) v l
 below:Below w.heap.size w wx
theorem Ro.later {w wx w':World} {s:ByteArray} {vi v:Value} {l:List Opd} (h:Ro w wx s vi v l) (hb:Below wx.heap.size wx w'):Ro w w' s vi v l:=
 ⟨h.b1.below hb h.b1.lt,h.b2.below hb h.b2.lt,h.b3.below hb h.b3.lt,h.own.below hb,h.below.trans (hb.mono h.below.size)⟩
theorem Ro.alloc {w wx:World} {s:ByteArray} {vi v:Value} {l:List Opd} (h:Ro w wx s vi v l) (o:Obj):Ro w (wx.alloc o) s vi v l:=h.later ((Below.refl _ _).alloc (Nat.le_refl _) o)
theorem Ro.drew {w wx:World} {s:ByteArray} {vi v:Value} {l:List Opd} (h:Ro w wx s vi v l):Ro w wx.drew s vi v l:=h.later ⟨rfl,rfl,rfl,Nat.le_refl _,fun _ _=>rfl⟩
theorem Ro.setN {w wx:World} {s:ByteArray} {vi:Value} {b o n c k:Nat} {l:List Opd} {x:Opd} {m:Int} (h:Ro w wx s vi (.slice (some ⟨b,o,none⟩) n c) l) (hx:l[k]?=some x) (hq:w.heap.size+1+1+1≤b):
  Ro w (wx.setCell ⟨b,o+k * 3+2,none⟩ (.int .i64 m)) s vi (.slice (some ⟨b,o,none⟩) n c) (l.set k {x with n:=m}):=
 ⟨h.b1.far (by show w.heap.size≠b;omega) _,h.b2.far (by show w.heap.size+1≠b;omega) _,h.b3.far (by show w.heap.size+1+1≠b;omega) _,h.own.setN hx,h.below.setCell (by show w.heap.size≤b;omega) _⟩
theorem numb_no {sz:Int} {x:Opd} (h:¬(x.kind=6∧x.n < 0∧-(sz / 2)≤x.n∧1 < sz)):numb sz x=x:=by unfold numb;rw [if_neg h]
theorem numb_yes {sz:Int} {x:Opd} (h:x.kind=6∧x.n < 0∧-(sz / 2)≤x.n∧1 < sz):numb sz x={x with n:=x.n+sz}:=by unfold numb;rw [if_pos h]
def acc1 (s:ByteArray) (l:List Opd):List Opd:=match l with
 | [x,y]=>if inL wSub s&&opdEq x regA then [y] else [x,y]
 | l=>l
def acc2 (s:ByteArray) (l:List Opd):List Opd:=match l with
 | [x]=>if inL wAdd s then [regA,x] else [x]
 | l=>l
theorem OpdOwn.tail {w:World} {q:Blocks} {b o n c:Nat} {x:Opd} {l:List Opd} (h:OpdOwn w q (.slice (some ⟨b,o,none⟩) n c) (x::l)):
  OpdOwn w q (.slice (if c=1 then some ⟨b,o,none⟩ else some ⟨b,o+3,none⟩) l.length (c - 1)) l:=by
 obtain ⟨a0,c0,e0,h1,h2,h3⟩:=h
 injection e0 with e1 e2 e3
 subst e1 e2 e3
 rw [List.length_cons] at h1
 refine ⟨_,c - 1,rfl,by omega,by omega,fun i y hy=>?_⟩
 obtain ⟨b',o',e,hq,hb,c0,c1,c2,hf⟩:=h3 (i+1) y (by simpa using hy)
 injection e with e
 injection e with e1 e2
 subst e1 e2
 have hlt:=(List.getElem?_eq_some_iff.1 hy).1
 rw [if_neg (by omega)]
 refine ⟨b,o+3,rfl,hq,hb,?_,?_,?_,hf⟩
 ·rw [show o+3+i * 3=o+(i+1) * 3 by omega];exact c0
 ·rw [show o+3+i * 3=o+(i+1) * 3 by omega];exact c1
 ·rw [show o+3+i * 3=o+(i+1) * 3 by omega];exact c2
def exb (s:ByteArray) (l:List Opd):Bool:=(s.toList==[69,88])&&decide (l=[opHL,opDE])
theorem exch_exb (s:ByteArray) (l:List Opd):exch s l=if exb s l then [opDE,opHL] else l:=rfl
theorem list2 {α:Type} {l:List α} (h:l.length=2):∃x y,l=[x,y]:=by
 match l,h with
 | [x,y],_=>exact ⟨x,y,rfl⟩
theorem list1 {α:Type} {l:List α} (h:l.length=1):∃x,l=[x]:=by
 match l,h with
 | [x],_=>exact ⟨x,rfl⟩
def t1 (s:ByteArray) (l:List Opd):Bool:=inL wSub s&&(match l with | [x,_]=>opdEq x regA | _=>false)
theorem acc1_no {s:ByteArray} {l:List Opd} (h:t1 s l=false):acc1 s l=l:=by
 match l with
 | []=>rfl
 | [_]=>rfl
 | [x,y]=>
  have h':(inL wSub s&&opdEq x regA)=false:=h
  simp [acc1,h']
 | _::_::_::_=>rfl
theorem acc1_yes {s:ByteArray} {l:List Opd} (h:t1 s l=true):∃x y,l=[x,y]∧acc1 s l=[y]:=by
 match l,h with
 | [],h=>simp [t1] at h
 | [_],h=>simp [t1] at h
 | [x,y],h=>
  have h':(inL wSub s&&opdEq x regA)=true:=h
  exact ⟨x,y,rfl,by simp [acc1,h']⟩
 | _::_::_::_,h=>simp [t1] at h
theorem sub_not_add {s:ByteArray} (h:inL wSub s=true):inL wAdd s=false:=by
 have hs:=inL_iff.1 h
 simp only [wSub,List.mem_cons,List.not_mem_nil,or_false] at hs
 rcases hs with rfl | rfl | rfl | rfl | rfl<;>simp [inL,wAdd,Go.ByteArray.toList_eq]
theorem acc2_acc1 (s:ByteArray) (l:List Opd):acc2 s (acc1 s l)=accum s l:=by
 match l with
 | []=>rfl
 | [x]=>rfl
 | [x,y]=>
  simp only [acc1,accum]
  cases h:inL wSub s&&opdEq x regA
  ·simp [acc2]
  ·have:=sub_not_add (by simpa using And.left (by simpa using h))
   simp [acc2,this]
 | x::y::z::l=>rfl
theorem ref08Of_any (p:Blocks) (x:Ins) (v:Value) (w:World) (h:SlR opdR w p v x.args) (hn:x.args.length≤1000000) (hf:∀y∈x.args,fits64 y.n):
  Calls Tryz.prog 30 #[.agg #[.string x.op,v]] w fun e w'=>∃v',e=.returned (.agg #[.string x.op,v'])∧OpdOwn w' (fun b=>w.heap.size≤b) v' (canonOf x).args∧Below w.heap.size w w':=by
 obtain ⟨s,l⟩:=x
 dsimp only at *
 obtain ⟨a,c,rfl,_⟩:=h.opd
 have H:=Lib.hid h
 have HN:=Lib.hid hn
 have HF:=Lib.hid hf
 clear h hn hf
 obtain ⟨W,hW⟩:∃W:World,W=((((w.alloc (.cells #[.string s,.slice a l.length c] 27)).alloc (.cells #[.string ⟨#[]⟩,.slice none 0 0] 27)).alloc (.cells #[.int .i64 1,.int .i64 7,.int .i64 0] 90)).alloc (.cells #[] 90)):=⟨_,rfl⟩
 have HBW:Hid (Below w.heap.size w W):=hW ▸ ((((Below.refl _ _).alloc (Nat.le_refl _) _).alloc (by simp) _).alloc (by simp;omega) _).alloc (by simp;omega) _
 have K1:Hid (Blk W w.heap.size 27 #[.string s,.slice a l.length c]):=hW ▸ (((Blk.new w _ _).alloc _).alloc _).alloc _
 have K2:Hid (Blk W (w.heap.size+1) 27 #[.string ⟨#[]⟩,.slice none 0 0]):=by
  have:=((Blk.new (w.alloc (.cells #[.string s,.slice a l.length c] 27)) 27 #[.string ⟨#[]⟩,.slice none 0 0]).alloc (.cells #[.int .i64 1,.int .i64 7,.int .i64 0] 90)).alloc (.cells #[] 90)
  rw [←hW] at this
  exact Lib.hid (by simpa using this)
 have K3:Hid (Blk W (w.heap.size+1+1) 90 #[.int .i64 1,.int .i64 7,.int .i64 0]):=by
  have:=(Blk.new ((w.alloc (.cells #[.string s,.slice a l.length c] 27)).alloc (.cells #[.string ⟨#[]⟩,.slice none 0 0] 27)) 90 #[.int .i64 1,.int .i64 7,.int .i64 0]).alloc (.cells #[] 90)
  rw [←hW] at this
  exact Lib.hid (by simpa using this)
 have HO:Hid (Own opdR W (w.heap.size+1+1+1) 90 NoB (.slice (some ⟨w.heap.size+1+1+1,0,none⟩) 0 0) []):=by
  have:=Own.made (R:=opdR) (((w.alloc (.cells #[.string s,.slice a l.length c] 27)).alloc (.cells #[.string ⟨#[]⟩,.slice none 0 0] 27)).alloc (.cells #[.int .i64 1,.int .i64 7,.int .i64 0] 90)) 90 NoB
  rw [←hW] at this
  exact Lib.hid (by simpa using this)
 have HX:Hid (SlR opdR W (fun k=>p k∧k < w.heap.size) (.slice a l.length c) l):=H.out.old.below HBW.out
 have hsz:W.heap.size=w.heap.size+4:=by rw [hW];simp
 have C2:Hid (∀k,p k∧k < w.heap.size→some k≠Value.ownBlock (.slice (some ⟨w.heap.size+1+1+1,0,none⟩) 0 0)):=fun k hk e=>by simp [Value.ownBlock] at e;omega
 have HSZ:=Lib.hid hsz
 have HW:=Lib.hid hW
 rw [hW] at HO HX
 clear hsz hW
 go_enter Tryz.func30,Tryz.ntmps30
 go_upto_region 3 with (at_builtin;refine wpList_append_R _ rfl (.tmp 10) (.tmp 12) 25 rfl (w.heap.size+1+1+1) 90 24 elOpd NoB _ _ _ [] l rfl rfl HO.out HX.out (fun _ h=>False.elim h) C2.out (by have:=HN.out;simp;omega) (by have:=HN.out;simp;omega) (by have:=HSZ.out;rw [HW.out] at this;simp at this ⊢) ?_;intro v1 w1 hap;obtain ⟨a1,c1,rfl⟩:=hap.1.form;have HAP:=Lib.hid hap;clear hap)
 have HR1:Hid (Ro w w1 s (.slice a l.length c) (.slice a1 l.length c1) l):=by
  have hg:=HAP.out.2.1
  rw [←HW.out] at hg
  have hlt:∀k,k < w.heap.size+1+1+1→w1.heap[k]?=W.heap[k]?:=fun k hk=>hg.block k (by rw [HSZ.out];omega) (fun e=>by have:k=w.heap.size+1+1+1:=Option.some.inj e;omega)
  exact ⟨(hlt _ (by omega)).trans K1.out,(hlt _ (by omega)).trans K2.out,(hlt _ (by omega)).trans K3.out,(by have:=HAP.out.1.opdOwn (q:=fun b=>w.heap.size+1+1+1≤b) (fun k hk=>(HAP.out.1.lt k hk).1);exact this),HBW.out.grown hg HBW.out.size (fun k hk=>by have:w.heap.size+1+1+1=k:=Option.some.inj hk;omega)⟩
 clear HAP
 go_cut [29] (fun s29 wx=>s29=.bool (t1 s l)∧Ro w wx s (.slice a l.length c) (.slice a1 l.length c1) l)
 case first=>
  have HIN:=in08_any (fun _=>True) (.slice (some ⟨w1.heap.size,0,none⟩) 5 5) wSub s ((w1.alloc (.cells #[.string ⟨#[83,85,66]⟩,.string ⟨#[65,78,68]⟩,.string ⟨#[88,79,82]⟩,.string ⟨#[79,82]⟩,.string ⟨#[67,80]⟩] 9)).drew) (slR_strs w1 9 (fun _=>True) wSub w1.heap.size rfl trivial (by simp [wSub,maxLen])).drew
  obtain ⟨e0,e1,_,_⟩:=HR1.out.b1.two
  have n0:=HR1.out.b1.lt
  cases h1:inL wSub s
  ·rw [h1] at HIN
   have HIN:=Lib.hid HIN
   have HV:=Lib.hid (show t1 s l=false by simp [t1,h1])
   refine wp_region_held_drew (S:=(fun w'=>w'.cell? ⟨w.heap.size,0,none⟩=some (.string s)∧w'.cell? ⟨w.heap.size,1,none⟩=some (.slice a l.length c))) (by kernel_rfl) ?hS1_0 (fun hHeld=>?hR1_0)
   case hS1_0=>(try dsimp only);go_keep
   refine wpAnyH_take (i:=1) (oi:=⟨some 15,_,_,_,_,_⟩) (v:=?v1_1) rfl (by kernel_rfl) (by kernel_rfl) (by kernel_rfl) (fun _ _ _ h=>h) (Or.inl ⟨by rfl,?hy1_1⟩) (by assumption) ?r1_1
   case hy1_1=>(intro w hSw;(try dsimp only at hSw);go_simp;(try with_reducible rfl))
   (try simp only [Act.put,List.setIfInBounds_toArray,List.set_cons_zero,List.set_cons_succ])
   refine wpAnyH_take (i:=2) (oi:=⟨some 16,_,_,_,_,_⟩) (v:=?v1_2) rfl (by kernel_rfl) (by kernel_rfl) (by kernel_rfl) (fun _ _ _ h=>h) (Or.inl ⟨by rfl,?hy1_2⟩) (by assumption) ?r1_2
   case hy1_2=>(intro w hSw;(try dsimp only at hSw);go_simp;(try with_reducible rfl))
   (try simp only [Act.put,List.setIfInBounds_toArray,List.set_cons_zero,List.set_cons_succ])
   refine wpAnyH_ready (rs:=[0]) (by kernel_rfl) (by simp) ?_
   refine AllReadyH.cons (o:=⟨some 14,_,_,_,_,_⟩) rfl (fun K hK=>?st1_3) AllReadyH.nil
   go_simp
   refine hK.out _ _ ?hS1_3 (fun hHeld=>?r1_3)
   case hS1_3=>(try dsimp only);go_keep
   clear hK K
   (try simp only [Act.put,List.setIfInBounds_toArray])
   refine wpAnyH_ready (rs:=[3]) (by kernel_rfl) (by simp) ?_
   refine AllReadyH.cons (o:=⟨some 17,_,_,_,_,_⟩) rfl (fun K hK=>?st1_4) AllReadyH.nil
   (go_simp;go_at_call 60;refine HIN.out.mono ?_;rintro e w' ⟨rfl,rfl⟩;go_wp2_with fail)
   refine hK.out _ _ ?hS1_4 (fun hHeld=>?r1_4)
   case hS1_4=>(try dsimp only);go_keep
   clear hK K
   (try simp only [Act.put,List.setIfInBounds_toArray])
   refine wpAnyH_take (i:=4) (oi:=⟨some 18,_,_,_,_,_⟩) (v:=?v1_5) rfl (by kernel_rfl) (by kernel_rfl) (by kernel_rfl) (fun _ _ _ h=>h) (Or.inl ⟨by rfl,?hy1_5⟩) (by assumption) ?r1_5
   case hy1_5=>(intro w hSw;(try dsimp only at hSw);go_simp;(try with_reducible rfl))
   (try simp only [Act.put,List.setIfInBounds_toArray,List.set_cons_zero,List.set_cons_succ])
   refine wpAnyH_take (i:=5) (oi:=⟨some 19,_,_,_,_,_⟩) (v:=undef) rfl (by kernel_rfl) (by kernel_rfl) (by kernel_rfl) (fun _ _ _ h=>h) (Or.inr ⟨by rfl,rfl⟩) (by assumption) ?_
   (try simp only [Act.put,List.setIfInBounds_toArray,List.set_cons_zero,List.set_cons_succ])
   refine wpAnyH_take (i:=6) (oi:=⟨some 20,_,_,_,_,_⟩) (v:=undef) rfl (by kernel_rfl) (by kernel_rfl) (by kernel_rfl) (fun _ _ _ h=>h) (Or.inr ⟨by rfl,rfl⟩) (by assumption) ?_
   (try simp only [Act.put,List.setIfInBounds_toArray,List.set_cons_zero,List.set_cons_succ])
   refine wpAnyH_take (i:=7) (oi:=⟨some 21,_,_,_,_,_⟩) (v:=undef) rfl (by kernel_rfl) (by kernel_rfl) (by kernel_rfl) (fun _ _ _ h=>h) (Or.inr ⟨by rfl,rfl⟩) (by assumption) ?_
   (try simp only [Act.put,List.setIfInBounds_toArray,List.set_cons_zero,List.set_cons_succ])
   refine wpAnyH_take (i:=8) (oi:=⟨some 22,_,_,_,_,_⟩) (v:=?v1_9) rfl (by kernel_rfl) (by kernel_rfl) (by kernel_rfl) (fun _ _ _ h=>h) (Or.inl ⟨by rfl,?hy1_9⟩) (by assumption) ?r1_9
   case hy1_9=>(intro w hSw;(try dsimp only at hSw);go_simp;(try with_reducible rfl))
   (try simp only [Act.put,List.setIfInBounds_toArray,List.set_cons_zero,List.set_cons_succ])
   refine wpAnyH_take (i:=9) (oi:=⟨some 23,_,_,_,_,_⟩) (v:=?v1_10) rfl (by kernel_rfl) (by kernel_rfl) (by kernel_rfl) (fun _ _ _ h=>h) (Or.inl ⟨by rfl,?hy1_10⟩) (by assumption) ?r1_10
   case hy1_10=>(intro w hSw;(try dsimp only at hSw);go_simp;(try with_reducible rfl))
   (try simp only [Act.put,List.setIfInBounds_toArray,List.set_cons_zero,List.set_cons_succ])
   refine wpAnyH_take (i:=10) (oi:=⟨some 24,_,_,_,_,_⟩) (v:=undef) rfl (by kernel_rfl) (by kernel_rfl) (by kernel_rfl) (fun _ _ _ h=>h) (Or.inr ⟨by rfl,rfl⟩) (by assumption) ?_
   (try simp only [Act.put,List.setIfInBounds_toArray,List.set_cons_zero,List.set_cons_succ])
   refine wpAnyH_take (i:=11) (oi:=⟨some 25,_,_,_,_,_⟩) (v:=undef) rfl (by kernel_rfl) (by kernel_rfl) (by kernel_rfl) (fun _ _ _ h=>h) (Or.inr ⟨by rfl,rfl⟩) (by assumption) ?_
   (try simp only [Act.put,List.setIfInBounds_toArray,List.set_cons_zero,List.set_cons_succ])
   refine wpAnyH_take (i:=12) (oi:=⟨some 26,_,_,_,_,_⟩) (v:=undef) rfl (by kernel_rfl) (by kernel_rfl) (by kernel_rfl) (fun _ _ _ h=>h) (Or.inr ⟨by rfl,rfl⟩) (by assumption) ?_
   (try simp only [Act.put,List.setIfInBounds_toArray,List.set_cons_zero,List.set_cons_succ])
   refine wpAnyH_take (i:=13) (oi:=⟨some 27,_,_,_,_,_⟩) (v:=undef) rfl (by kernel_rfl) (by kernel_rfl) (by kernel_rfl) (fun _ _ _ h=>h) (Or.inr ⟨by rfl,rfl⟩) (by assumption) ?_
   (try simp only [Act.put,List.setIfInBounds_toArray,List.set_cons_zero,List.set_cons_succ])
   refine wpAnyH_take (i:=14) (oi:=⟨some 28,_,_,_,_,_⟩) (v:=undef) rfl (by kernel_rfl) (by kernel_rfl) (by kernel_rfl) (fun _ _ _ h=>h) (Or.inr ⟨by rfl,rfl⟩) (by assumption) ?_
   (try simp only [Act.put,List.setIfInBounds_toArray,List.set_cons_zero,List.set_cons_succ])
   refine wpAnyH_take (i:=15) (oi:=⟨some 29,_,_,_,_,_⟩) (v:=?v1_16) rfl (by kernel_rfl) (by kernel_rfl) (by kernel_rfl) (fun _ _ _ h=>h) (Or.inl ⟨by rfl,?hy1_16⟩) (by assumption) ?r1_16
   case hy1_16=>(intro w hSw;(try dsimp only at hSw);go_simp;(try with_reducible rfl))
   (try simp only [Act.put,List.setIfInBounds_toArray,List.set_cons_zero,List.set_cons_succ])
   refine wpAnyH_done (by kernel_rfl) ?_ _
   go_wp2_with fail
   go_meet
   case rel=>exact ⟨congrArg Value.bool HV.out.symm,(HR1.out.alloc _).drew⟩
  ·rw [h1] at HIN
   have HIN:=Lib.hid HIN
   by_cases hl:l.length=2
   ·obtain ⟨x,y,hxy⟩:=list2 hl
    have hb2:((l.length:Int)==2)=true:=by rw [hl];rfl
    have hb0:0 < l.length:=by omega
    have hb0i:(0:Int) < l.length:=by omega
    obtain ⟨a',c',ea,_,_,g⟩:=HR1.out.own
    injection ea with ea1 ea2 ea3
    clear ea2
    subst ea1 ea3
    obtain ⟨b,o,rfl,hq,hb,c0,c1,c2,_⟩:=g 0 x (by rw [hxy];rfl)
    rw [Nat.zero_mul,Nat.add_zero] at c0 c1 c2
    obtain ⟨k0,k1,k2,_,_,_⟩:=HR1.out.b3.three
    have n3:=HR1.out.b3.lt
    have hop:=run_eqOpd
    have HXY:=Lib.hid hxy
    clear g hl hxy hq
    cases h2:opdEq x regA
    ·have hx:opdEq ⟨x.kind,x.reg,x.n⟩ ⟨1,7,0⟩=false:=h2
     have HV:=Lib.hid (show t1 s l=false by rw [HXY.out];simp [t1,h2])
     refine wp_region_held_drew (S:=(fun w'=>w'.cell? ⟨w.heap.size,0,none⟩=some (.string s)∧w'.cell? ⟨w.heap.size,1,none⟩=some (.slice a l.length c)∧w'.cell? ⟨b,o,none⟩=some (.int .i64 x.kind)∧w'.cell? ⟨b,o+1,none⟩=some (.int .i64 x.reg)∧w'.cell? ⟨b,o+2,none⟩=some (.int .i64 x.n)∧w'.cell? ⟨w.heap.size+1+1,0,none⟩=some (.int .i64 1)∧w'.cell? ⟨w.heap.size+1+1,1,none⟩=some (.int .i64 7)∧w'.cell? ⟨w.heap.size+1+1,2,none⟩=some (.int .i64 0))) (by kernel_rfl) ?hS2_0 (fun hHeld=>?hR2_0)
     case hS2_0=>(try dsimp only);go_keep
     refine wpAnyH_take (i:=1) (oi:=⟨some 15,_,_,_,_,_⟩) (v:=?v2_1) rfl (by kernel_rfl) (by kernel_rfl) (by kernel_rfl) (fun _ _ _ h=>h) (Or.inl ⟨by rfl,?hy2_1⟩) (by assumption) ?r2_1
     case hy2_1=>(intro w hSw;(try dsimp only at hSw);go_simp;(try with_reducible rfl))
     (try simp only [Act.put,List.setIfInBounds_toArray,List.set_cons_zero,List.set_cons_succ])
     refine wpAnyH_take (i:=2) (oi:=⟨some 16,_,_,_,_,_⟩) (v:=?v2_2) rfl (by kernel_rfl) (by kernel_rfl) (by kernel_rfl) (fun _ _ _ h=>h) (Or.inl ⟨by rfl,?hy2_2⟩) (by assumption) ?r2_2
     case hy2_2=>(intro w hSw;(try dsimp only at hSw);go_simp;(try with_reducible rfl))
     (try simp only [Act.put,List.setIfInBounds_toArray,List.set_cons_zero,List.set_cons_succ])
     refine wpAnyH_ready (rs:=[0]) (by kernel_rfl) (by simp) ?_
     refine AllReadyH.cons (o:=⟨some 14,_,_,_,_,_⟩) rfl (fun K hK=>?st2_3) AllReadyH.nil
     go_simp
     refine hK.out _ _ ?hS2_3 (fun hHeld=>?r2_3)
     case hS2_3=>(try dsimp only);go_keep
     clear hK K
     (try simp only [Act.put,List.setIfInBounds_toArray])
     refine wpAnyH_ready (rs:=[3]) (by kernel_rfl) (by simp) ?_
     refine AllReadyH.cons (o:=⟨some 17,_,_,_,_,_⟩) rfl (fun K hK=>?st2_4) AllReadyH.nil
     (go_simp;go_at_call 60;refine HIN.out.mono ?_;rintro e w' ⟨rfl,rfl⟩;go_wp2_with fail)
     refine hK.out _ _ ?hS2_4 (fun hHeld=>?r2_4)
     case hS2_4=>(try dsimp only);go_keep
     clear hK K
     (try simp only [Act.put,List.setIfInBounds_toArray])
     refine wpAnyH_take (i:=4) (oi:=⟨some 18,_,_,_,_,_⟩) (v:=?v2_5) rfl (by kernel_rfl) (by kernel_rfl) (by kernel_rfl) (fun _ _ _ h=>h) (Or.inl ⟨by rfl,?hy2_5⟩) (by assumption) ?r2_5
     case hy2_5=>(intro w hSw;(try dsimp only at hSw);go_simp;(try with_reducible rfl))
     (try simp only [Act.put,List.setIfInBounds_toArray,List.set_cons_zero,List.set_cons_succ])
     refine wpAnyH_take (i:=5) (oi:=⟨some 19,_,_,_,_,_⟩) (v:=?v2_6) rfl (by kernel_rfl) (by kernel_rfl) (by kernel_rfl) (fun _ _ _ h=>h) (Or.inl ⟨by rfl,?hy2_6⟩) (by assumption) ?r2_6
     case hy2_6=>(intro w hSw;(try dsimp only at hSw);go_simp;(try with_reducible rfl))
     (try simp only [Act.put,List.setIfInBounds_toArray,List.set_cons_zero,List.set_cons_succ])
     refine wpAnyH_take (i:=6) (oi:=⟨some 20,_,_,_,_,_⟩) (v:=?v2_7) rfl (by kernel_rfl) (by kernel_rfl) (by kernel_rfl) (fun _ _ _ h=>h) (Or.inl ⟨by rfl,?hy2_7⟩) (by assumption) ?r2_7
     case hy2_7=>(intro w hSw;(try dsimp only at hSw);go_simp;(try with_reducible rfl))
     (try simp only [Act.put,List.setIfInBounds_toArray,List.set_cons_zero,List.set_cons_succ])
     refine wpAnyH_take (i:=7) (oi:=⟨some 21,_,_,_,_,_⟩) (v:=?v2_8) rfl (by kernel_rfl) (by kernel_rfl) (by kernel_rfl) (fun _ _ _ h=>h) (Or.inl ⟨by rfl,?hy2_8⟩) (by assumption) ?r2_8
     case hy2_8=>(intro w hSw;(try dsimp only at hSw);go_simp;(try with_reducible rfl))
     (try simp only [Act.put,List.setIfInBounds_toArray,List.set_cons_zero,List.set_cons_succ])
     refine wpAnyH_take (i:=8) (oi:=⟨some 22,_,_,_,_,_⟩) (v:=?v2_9) rfl (by kernel_rfl) (by kernel_rfl) (by kernel_rfl) (fun _ _ _ h=>h) (Or.inl ⟨by rfl,?hy2_9⟩) (by assumption) ?r2_9
     case hy2_9=>(intro w hSw;(try dsimp only at hSw);go_simp;(try with_reducible rfl))
     (try simp only [Act.put,List.setIfInBounds_toArray,List.set_cons_zero,List.set_cons_succ])
     refine wpAnyH_take (i:=9) (oi:=⟨some 23,_,_,_,_,_⟩) (v:=?v2_10) rfl (by kernel_rfl) (by kernel_rfl) (by kernel_rfl) (fun _ _ _ h=>h) (Or.inl ⟨by rfl,?hy2_10⟩) (by assumption) ?r2_10
     case hy2_10=>(intro w hSw;(try dsimp only at hSw);go_simp;(try with_reducible rfl))
     (try simp only [Act.put,List.setIfInBounds_toArray,List.set_cons_zero,List.set_cons_succ])
     refine wpAnyH_take (i:=10) (oi:=⟨some 24,_,_,_,_,_⟩) (v:=?v2_11) rfl (by kernel_rfl) (by kernel_rfl) (by kernel_rfl) (fun _ _ _ h=>h) (Or.inl ⟨by rfl,?hy2_11⟩) (by assumption) ?r2_11
     case hy2_11=>(intro w hSw;(try dsimp only at hSw);go_simp;(try with_reducible rfl))
     (try simp only [Act.put,List.setIfInBounds_toArray,List.set_cons_zero,List.set_cons_succ])
     refine wpAnyH_take (i:=11) (oi:=⟨some 25,_,_,_,_,_⟩) (v:=?v2_12) rfl (by kernel_rfl) (by kernel_rfl) (by kernel_rfl) (fun _ _ _ h=>h) (Or.inl ⟨by rfl,?hy2_12⟩) (by assumption) ?r2_12
     case hy2_12=>(intro w hSw;(try dsimp only at hSw);go_simp;(try with_reducible rfl))
     (try simp only [Act.put,List.setIfInBounds_toArray,List.set_cons_zero,List.set_cons_succ])
     refine wpAnyH_take (i:=12) (oi:=⟨some 26,_,_,_,_,_⟩) (v:=?v2_13) rfl (by kernel_rfl) (by kernel_rfl) (by kernel_rfl) (fun _ _ _ h=>h) (Or.inl ⟨by rfl,?hy2_13⟩) (by assumption) ?r2_13
     case hy2_13=>(intro w hSw;(try dsimp only at hSw);go_simp;(try with_reducible rfl))
     (try simp only [Act.put,List.setIfInBounds_toArray,List.set_cons_zero,List.set_cons_succ])
     refine wpAnyH_take (i:=13) (oi:=⟨some 27,_,_,_,_,_⟩) (v:=?v2_14) rfl (by kernel_rfl) (by kernel_rfl) (by kernel_rfl) (fun _ _ _ h=>h) (Or.inl ⟨by rfl,?hy2_14⟩) (by assumption) ?r2_14
     case hy2_14=>(intro w hSw;(try dsimp only at hSw);go_simp;(try with_reducible rfl))
     (try simp only [Act.put,List.setIfInBounds_toArray,List.set_cons_zero,List.set_cons_succ])
     refine wpAnyH_take (i:=14) (oi:=⟨some 28,_,_,_,_,_⟩) (v:=?v2_15) rfl (by kernel_rfl) (by kernel_rfl) (by kernel_rfl) (fun _ _ _ h=>h) (Or.inl ⟨by rfl,?hy2_15⟩) (by assumption) ?r2_15
     case hy2_15=>(intro w hSw;(try dsimp only at hSw);go_simp;(try with_reducible rfl))
     (try simp only [Act.put,List.setIfInBounds_toArray,List.set_cons_zero,List.set_cons_succ])
     refine wpAnyH_take (i:=15) (oi:=⟨some 29,_,_,_,_,_⟩) (v:=?v2_16) rfl (by kernel_rfl) (by kernel_rfl) (by kernel_rfl) (fun _ _ _ h=>h) (Or.inl ⟨by rfl,?hy2_16⟩) (by assumption) ?r2_16
     case hy2_16=>(intro w hSw;(try dsimp only at hSw);go_simp;(try with_reducible rfl))
     (try simp only [Act.put,List.setIfInBounds_toArray,List.set_cons_zero,List.set_cons_succ])
     refine wpAnyH_done (by kernel_rfl) ?_ _
     go_wp2_with fail
     go_meet
     case rel=>exact ⟨congrArg Value.bool HV.out.symm,(HR1.out.alloc _).drew⟩
    ·have hx:opdEq ⟨x.kind,x.reg,x.n⟩ ⟨1,7,0⟩=true:=h2
     have HV:=Lib.hid (show t1 s l=true by rw [HXY.out];simp [t1,h1,h2])
     refine wp_region_held_drew (S:=(fun w'=>w'.cell? ⟨w.heap.size,0,none⟩=some (.string s)∧w'.cell? ⟨w.heap.size,1,none⟩=some (.slice a l.length c)∧w'.cell? ⟨b,o,none⟩=some (.int .i64 x.kind)∧w'.cell? ⟨b,o+1,none⟩=some (.int .i64 x.reg)∧w'.cell? ⟨b,o+2,none⟩=some (.int .i64 x.n)∧w'.cell? ⟨w.heap.size+1+1,0,none⟩=some (.int .i64 1)∧w'.cell? ⟨w.heap.size+1+1,1,none⟩=some (.int .i64 7)∧w'.cell? ⟨w.heap.size+1+1,2,none⟩=some (.int .i64 0))) (by kernel_rfl) ?hS3_0 (fun hHeld=>?hR3_0)
     case hS3_0=>(try dsimp only);go_keep
     refine wpAnyH_take (i:=1) (oi:=⟨some 15,_,_,_,_,_⟩) (v:=?v3_1) rfl (by kernel_rfl) (by kernel_rfl) (by kernel_rfl) (fun _ _ _ h=>h) (Or.inl ⟨by rfl,?hy3_1⟩) (by assumption) ?r3_1
     case hy3_1=>(intro w hSw;(try dsimp only at hSw);go_simp;(try with_reducible rfl))
     (try simp only [Act.put,List.setIfInBounds_toArray,List.set_cons_zero,List.set_cons_succ])
     refine wpAnyH_take (i:=2) (oi:=⟨some 16,_,_,_,_,_⟩) (v:=?v3_2) rfl (by kernel_rfl) (by kernel_rfl) (by kernel_rfl) (fun _ _ _ h=>h) (Or.inl ⟨by rfl,?hy3_2⟩) (by assumption) ?r3_2
     case hy3_2=>(intro w hSw;(try dsimp only at hSw);go_simp;(try with_reducible rfl))
     (try simp only [Act.put,List.setIfInBounds_toArray,List.set_cons_zero,List.set_cons_succ])
     refine wpAnyH_ready (rs:=[0]) (by kernel_rfl) (by simp) ?_
     refine AllReadyH.cons (o:=⟨some 14,_,_,_,_,_⟩) rfl (fun K hK=>?st3_3) AllReadyH.nil
     go_simp
     refine hK.out _ _ ?hS3_3 (fun hHeld=>?r3_3)
     case hS3_3=>(try dsimp only);go_keep
     clear hK K
     (try simp only [Act.put,List.setIfInBounds_toArray])
     refine wpAnyH_ready (rs:=[3]) (by kernel_rfl) (by simp) ?_
     refine AllReadyH.cons (o:=⟨some 17,_,_,_,_,_⟩) rfl (fun K hK=>?st3_4) AllReadyH.nil
     (go_simp;go_at_call 60;refine HIN.out.mono ?_;rintro e w' ⟨rfl,rfl⟩;go_wp2_with fail)
     refine hK.out _ _ ?hS3_4 (fun hHeld=>?r3_4)
     case hS3_4=>(try dsimp only);go_keep
     clear hK K
     (try simp only [Act.put,List.setIfInBounds_toArray])
     refine wpAnyH_take (i:=4) (oi:=⟨some 18,_,_,_,_,_⟩) (v:=?v3_5) rfl (by kernel_rfl) (by kernel_rfl) (by kernel_rfl) (fun _ _ _ h=>h) (Or.inl ⟨by rfl,?hy3_5⟩) (by assumption) ?r3_5
     case hy3_5=>(intro w hSw;(try dsimp only at hSw);go_simp;(try with_reducible rfl))
     (try simp only [Act.put,List.setIfInBounds_toArray,List.set_cons_zero,List.set_cons_succ])
     refine wpAnyH_take (i:=5) (oi:=⟨some 19,_,_,_,_,_⟩) (v:=?v3_6) rfl (by kernel_rfl) (by kernel_rfl) (by kernel_rfl) (fun _ _ _ h=>h) (Or.inl ⟨by rfl,?hy3_6⟩) (by assumption) ?r3_6
     case hy3_6=>(intro w hSw;(try dsimp only at hSw);go_simp;(try with_reducible rfl))
     (try simp only [Act.put,List.setIfInBounds_toArray,List.set_cons_zero,List.set_cons_succ])
     refine wpAnyH_take (i:=6) (oi:=⟨some 20,_,_,_,_,_⟩) (v:=?v3_7) rfl (by kernel_rfl) (by kernel_rfl) (by kernel_rfl) (fun _ _ _ h=>h) (Or.inl ⟨by rfl,?hy3_7⟩) (by assumption) ?r3_7
     case hy3_7=>(intro w hSw;(try dsimp only at hSw);go_simp;(try with_reducible rfl))
     (try simp only [Act.put,List.setIfInBounds_toArray,List.set_cons_zero,List.set_cons_succ])
     refine wpAnyH_take (i:=7) (oi:=⟨some 21,_,_,_,_,_⟩) (v:=?v3_8) rfl (by kernel_rfl) (by kernel_rfl) (by kernel_rfl) (fun _ _ _ h=>h) (Or.inl ⟨by rfl,?hy3_8⟩) (by assumption) ?r3_8
     case hy3_8=>(intro w hSw;(try dsimp only at hSw);go_simp;(try with_reducible rfl))
     (try simp only [Act.put,List.setIfInBounds_toArray,List.set_cons_zero,List.set_cons_succ])
     refine wpAnyH_take (i:=8) (oi:=⟨some 22,_,_,_,_,_⟩) (v:=?v3_9) rfl (by kernel_rfl) (by kernel_rfl) (by kernel_rfl) (fun _ _ _ h=>h) (Or.inl ⟨by rfl,?hy3_9⟩) (by assumption) ?r3_9
     case hy3_9=>(intro w hSw;(try dsimp only at hSw);go_simp;(try with_reducible rfl))
     (try simp only [Act.put,List.setIfInBounds_toArray,List.set_cons_zero,List.set_cons_succ])
     refine wpAnyH_take (i:=9) (oi:=⟨some 23,_,_,_,_,_⟩) (v:=?v3_10) rfl (by kernel_rfl) (by kernel_rfl) (by kernel_rfl) (fun _ _ _ h=>h) (Or.inl ⟨by rfl,?hy3_10⟩) (by assumption) ?r3_10
     case hy3_10=>(intro w hSw;(try dsimp only at hSw);go_simp;(try with_reducible rfl))
     (try simp only [Act.put,List.setIfInBounds_toArray,List.set_cons_zero,List.set_cons_succ])
     refine wpAnyH_take (i:=10) (oi:=⟨some 24,_,_,_,_,_⟩) (v:=?v3_11) rfl (by kernel_rfl) (by kernel_rfl) (by kernel_rfl) (fun _ _ _ h=>h) (Or.inl ⟨by rfl,?hy3_11⟩) (by assumption) ?r3_11
     case hy3_11=>(intro w hSw;(try dsimp only at hSw);go_simp;(try with_reducible rfl))
     (try simp only [Act.put,List.setIfInBounds_toArray,List.set_cons_zero,List.set_cons_succ])
     refine wpAnyH_take (i:=11) (oi:=⟨some 25,_,_,_,_,_⟩) (v:=?v3_12) rfl (by kernel_rfl) (by kernel_rfl) (by kernel_rfl) (fun _ _ _ h=>h) (Or.inl ⟨by rfl,?hy3_12⟩) (by assumption) ?r3_12
     case hy3_12=>(intro w hSw;(try dsimp only at hSw);go_simp;(try with_reducible rfl))
     (try simp only [Act.put,List.setIfInBounds_toArray,List.set_cons_zero,List.set_cons_succ])
     refine wpAnyH_take (i:=12) (oi:=⟨some 26,_,_,_,_,_⟩) (v:=?v3_13) rfl (by kernel_rfl) (by kernel_rfl) (by kernel_rfl) (fun _ _ _ h=>h) (Or.inl ⟨by rfl,?hy3_13⟩) (by assumption) ?r3_13
     case hy3_13=>(intro w hSw;(try dsimp only at hSw);go_simp;(try with_reducible rfl))
     (try simp only [Act.put,List.setIfInBounds_toArray,List.set_cons_zero,List.set_cons_succ])
     refine wpAnyH_take (i:=13) (oi:=⟨some 27,_,_,_,_,_⟩) (v:=?v3_14) rfl (by kernel_rfl) (by kernel_rfl) (by kernel_rfl) (fun _ _ _ h=>h) (Or.inl ⟨by rfl,?hy3_14⟩) (by assumption) ?r3_14
     case hy3_14=>(intro w hSw;(try dsimp only at hSw);go_simp;(try with_reducible rfl))
     (try simp only [Act.put,List.setIfInBounds_toArray,List.set_cons_zero,List.set_cons_succ])
     refine wpAnyH_take (i:=14) (oi:=⟨some 28,_,_,_,_,_⟩) (v:=?v3_15) rfl (by kernel_rfl) (by kernel_rfl) (by kernel_rfl) (fun _ _ _ h=>h) (Or.inl ⟨by rfl,?hy3_15⟩) (by assumption) ?r3_15
     case hy3_15=>(intro w hSw;(try dsimp only at hSw);go_simp;(try with_reducible rfl))
     (try simp only [Act.put,List.setIfInBounds_toArray,List.set_cons_zero,List.set_cons_succ])
     refine wpAnyH_take (i:=15) (oi:=⟨some 29,_,_,_,_,_⟩) (v:=?v3_16) rfl (by kernel_rfl) (by kernel_rfl) (by kernel_rfl) (fun _ _ _ h=>h) (Or.inl ⟨by rfl,?hy3_16⟩) (by assumption) ?r3_16
     case hy3_16=>(intro w hSw;(try dsimp only at hSw);go_simp;(try with_reducible rfl))
     (try simp only [Act.put,List.setIfInBounds_toArray,List.set_cons_zero,List.set_cons_succ])
     refine wpAnyH_done (by kernel_rfl) ?_ _
     go_wp2_with fail
     go_meet
     case rel=>exact ⟨congrArg Value.bool HV.out.symm,(HR1.out.alloc _).drew⟩
   ·have hb2:((l.length:Int)==2)=false:=by simp;omega
    have HV:=Lib.hid (show t1 s l=false by
     unfold t1
     split
     ·exact absurd rfl hl
     ·simp)
    clear hl
    refine wp_region_held_drew (S:=(fun w'=>w'.cell? ⟨w.heap.size,0,none⟩=some (.string s)∧w'.cell? ⟨w.heap.size,1,none⟩=some (.slice a l.length c))) (by kernel_rfl) ?hS4_0 (fun hHeld=>?hR4_0)
    case hS4_0=>(try dsimp only);go_keep
    refine wpAnyH_take (i:=1) (oi:=⟨some 15,_,_,_,_,_⟩) (v:=?v4_1) rfl (by kernel_rfl) (by kernel_rfl) (by kernel_rfl) (fun _ _ _ h=>h) (Or.inl ⟨by rfl,?hy4_1⟩) (by assumption) ?r4_1
    case hy4_1=>(intro w hSw;(try dsimp only at hSw);go_simp;(try with_reducible rfl))
    (try simp only [Act.put,List.setIfInBounds_toArray,List.set_cons_zero,List.set_cons_succ])
    refine wpAnyH_take (i:=2) (oi:=⟨some 16,_,_,_,_,_⟩) (v:=?v4_2) rfl (by kernel_rfl) (by kernel_rfl) (by kernel_rfl) (fun _ _ _ h=>h) (Or.inl ⟨by rfl,?hy4_2⟩) (by assumption) ?r4_2
    case hy4_2=>(intro w hSw;(try dsimp only at hSw);go_simp;(try with_reducible rfl))
    (try simp only [Act.put,List.setIfInBounds_toArray,List.set_cons_zero,List.set_cons_succ])
    refine wpAnyH_ready (rs:=[0]) (by kernel_rfl) (by simp) ?_
    refine AllReadyH.cons (o:=⟨some 14,_,_,_,_,_⟩) rfl (fun K hK=>?st4_3) AllReadyH.nil
    go_simp
    refine hK.out _ _ ?hS4_3 (fun hHeld=>?r4_3)
    case hS4_3=>(try dsimp only);go_keep
    clear hK K
    (try simp only [Act.put,List.setIfInBounds_toArray])
    refine wpAnyH_ready (rs:=[3]) (by kernel_rfl) (by simp) ?_
    refine AllReadyH.cons (o:=⟨some 17,_,_,_,_,_⟩) rfl (fun K hK=>?st4_4) AllReadyH.nil
    (go_simp;go_at_call 60;refine HIN.out.mono ?_;rintro e w' ⟨rfl,rfl⟩;go_wp2_with fail)
    refine hK.out _ _ ?hS4_4 (fun hHeld=>?r4_4)
    case hS4_4=>(try dsimp only);go_keep
    clear hK K
    (try simp only [Act.put,List.setIfInBounds_toArray])
    refine wpAnyH_take (i:=4) (oi:=⟨some 18,_,_,_,_,_⟩) (v:=?v4_5) rfl (by kernel_rfl) (by kernel_rfl) (by kernel_rfl) (fun _ _ _ h=>h) (Or.inl ⟨by rfl,?hy4_5⟩) (by assumption) ?r4_5
    case hy4_5=>(intro w hSw;(try dsimp only at hSw);go_simp;(try with_reducible rfl))
    (try simp only [Act.put,List.setIfInBounds_toArray,List.set_cons_zero,List.set_cons_succ])
    refine wpAnyH_take (i:=5) (oi:=⟨some 19,_,_,_,_,_⟩) (v:=?v4_6) rfl (by kernel_rfl) (by kernel_rfl) (by kernel_rfl) (fun _ _ _ h=>h) (Or.inl ⟨by rfl,?hy4_6⟩) (by assumption) ?r4_6
    case hy4_6=>(intro w hSw;(try dsimp only at hSw);go_simp;(try with_reducible rfl))
    (try simp only [Act.put,List.setIfInBounds_toArray,List.set_cons_zero,List.set_cons_succ])
    refine wpAnyH_take (i:=6) (oi:=⟨some 20,_,_,_,_,_⟩) (v:=?v4_7) rfl (by kernel_rfl) (by kernel_rfl) (by kernel_rfl) (fun _ _ _ h=>h) (Or.inl ⟨by rfl,?hy4_7⟩) (by assumption) ?r4_7
    case hy4_7=>(intro w hSw;(try dsimp only at hSw);go_simp;(try with_reducible rfl))
    (try simp only [Act.put,List.setIfInBounds_toArray,List.set_cons_zero,List.set_cons_succ])
    refine wpAnyH_take (i:=7) (oi:=⟨some 21,_,_,_,_,_⟩) (v:=?v4_8) rfl (by kernel_rfl) (by kernel_rfl) (by kernel_rfl) (fun _ _ _ h=>h) (Or.inl ⟨by rfl,?hy4_8⟩) (by assumption) ?r4_8
    case hy4_8=>(intro w hSw;(try dsimp only at hSw);go_simp;(try with_reducible rfl))
    (try simp only [Act.put,List.setIfInBounds_toArray,List.set_cons_zero,List.set_cons_succ])
    refine wpAnyH_take (i:=8) (oi:=⟨some 22,_,_,_,_,_⟩) (v:=?v4_9) rfl (by kernel_rfl) (by kernel_rfl) (by kernel_rfl) (fun _ _ _ h=>h) (Or.inl ⟨by rfl,?hy4_9⟩) (by assumption) ?r4_9
    case hy4_9=>(intro w hSw;(try dsimp only at hSw);go_simp;(try with_reducible rfl))
    (try simp only [Act.put,List.setIfInBounds_toArray,List.set_cons_zero,List.set_cons_succ])
    refine wpAnyH_take (i:=9) (oi:=⟨some 23,_,_,_,_,_⟩) (v:=?v4_10) rfl (by kernel_rfl) (by kernel_rfl) (by kernel_rfl) (fun _ _ _ h=>h) (Or.inl ⟨by rfl,?hy4_10⟩) (by assumption) ?r4_10
    case hy4_10=>(intro w hSw;(try dsimp only at hSw);go_simp;(try with_reducible rfl))
    (try simp only [Act.put,List.setIfInBounds_toArray,List.set_cons_zero,List.set_cons_succ])
    refine wpAnyH_take (i:=10) (oi:=⟨some 24,_,_,_,_,_⟩) (v:=undef) rfl (by kernel_rfl) (by kernel_rfl) (by kernel_rfl) (fun _ _ _ h=>h) (Or.inr ⟨by rfl,rfl⟩) (by assumption) ?_
    (try simp only [Act.put,List.setIfInBounds_toArray,List.set_cons_zero,List.set_cons_succ])
    refine wpAnyH_take (i:=11) (oi:=⟨some 25,_,_,_,_,_⟩) (v:=undef) rfl (by kernel_rfl) (by kernel_rfl) (by kernel_rfl) (fun _ _ _ h=>h) (Or.inr ⟨by rfl,rfl⟩) (by assumption) ?_
    (try simp only [Act.put,List.setIfInBounds_toArray,List.set_cons_zero,List.set_cons_succ])
    refine wpAnyH_take (i:=12) (oi:=⟨some 26,_,_,_,_,_⟩) (v:=undef) rfl (by kernel_rfl) (by kernel_rfl) (by kernel_rfl) (fun _ _ _ h=>h) (Or.inr ⟨by rfl,rfl⟩) (by assumption) ?_
    (try simp only [Act.put,List.setIfInBounds_toArray,List.set_cons_zero,List.set_cons_succ])
    refine wpAnyH_take (i:=13) (oi:=⟨some 27,_,_,_,_,_⟩) (v:=undef) rfl (by kernel_rfl) (by kernel_rfl) (by kernel_rfl) (fun _ _ _ h=>h) (Or.inr ⟨by rfl,rfl⟩) (by assumption) ?_
    (try simp only [Act.put,List.setIfInBounds_toArray,List.set_cons_zero,List.set_cons_succ])
    refine wpAnyH_take (i:=14) (oi:=⟨some 28,_,_,_,_,_⟩) (v:=undef) rfl (by kernel_rfl) (by kernel_rfl) (by kernel_rfl) (fun _ _ _ h=>h) (Or.inr ⟨by rfl,rfl⟩) (by assumption) ?_
    (try simp only [Act.put,List.setIfInBounds_toArray,List.set_cons_zero,List.set_cons_succ])
    refine wpAnyH_take (i:=15) (oi:=⟨some 29,_,_,_,_,_⟩) (v:=?v4_16) rfl (by kernel_rfl) (by kernel_rfl) (by kernel_rfl) (fun _ _ _ h=>h) (Or.inl ⟨by rfl,?hy4_16⟩) (by assumption) ?r4_16
    case hy4_16=>(intro w hSw;(try dsimp only at hSw);go_simp;(try with_reducible rfl))
    (try simp only [Act.put,List.setIfInBounds_toArray,List.set_cons_zero,List.set_cons_succ])
    refine wpAnyH_done (by kernel_rfl) ?_ _
    go_wp2_with fail
    go_meet
    case rel=>exact ⟨congrArg Value.bool HV.out.symm,(HR1.out.alloc _).drew⟩
 case rest=>
  obtain ⟨rfl,hr⟩:=hcut
  have HR:=Lib.hid hr
  clear hr HR1
  go_upto_if 29 with fail
  go_cut [4] (fun s4 wx=>Ro w wx s (.slice a l.length c) s4 (acc1 s l))
  case first=>
   cases ht:t1 s l
   ·have HA:=Lib.hid (acc1_no ht)
    go_wp2
    go_meet
    case rel=>rw [HA.out];exact HR.out
   ·obtain ⟨x,y,hxy,hacc⟩:=acc1_yes ht
    have HA:=Lib.hid hacc
    have HXY:=Lib.hid hxy
    obtain ⟨a',c',ea,hc1,_,g⟩:=HR.out.own
    injection ea with ea1 ea2 ea3
    clear ea2
    subst ea1 ea3
    obtain ⟨b,o,rfl,hq,hb,d0,d1,d2,_⟩:=g 0 x (by rw [hxy];rfl)
    have hown:=HR.out.own
    have hl2:l.length=2:=by rw [hxy];rfl
    have ho2:=hown
    rw [hxy] at ho2
    have HO2:=Lib.hid ho2.tail
    have hl1:(1:Int)≤l.length:=by omega
    have HL2:=Lib.hid hl2
    have hc2:c1≠1:=by omega
    clear g hq hown ho2 hxy hacc hl2
    go_wp2
    go_meet
    case rel=>
     rw [HA.out]
     have h5:=HO2.out
     rw [if_neg hc2] at h5
     exact ⟨HR.out.b1,HR.out.b2,HR.out.b3,by rw [show l.length - 1=[y].length by rw [HL2.out];rfl];exact h5,HR.out.below⟩
  case rest=>
   have HR2:=Lib.hid hcut
   clear hcut HR
   obtain ⟨a2,c2,rfl,hc2,_⟩:=HR2.out.own
   have HAA:=Lib.hid (acc2_acc1 s l)
   have hlen2:(acc1 s l).length≤1000000:=by
    have:=HN.out
    have h2:(acc1 s l).length≤l.length:=by
     unfold acc1
     split
     ·split<;>simp
     ·exact Nat.le_refl _
    exact Nat.le_trans h2 this
   have HN2:=Lib.hid hlen2
   generalize acc1 s l=l2 at *
   clear hlen2
   obtain ⟨e0,e1,_,_⟩:=HR2.out.b1.two
   have n0:=HR2.out.b1.lt
   have HR2A:=Lib.hid (HR2.out.alloc (.cells #[.string ⟨#[65,68,68]⟩,.string ⟨#[65,68,67]⟩,.string ⟨#[83,66,67]⟩] 9))
   have hin:=in08_any (fun _=>True) (.slice (some ⟨wc.heap.size,0,none⟩) 3 3) wAdd s (wc.alloc (.cells #[.string ⟨#[65,68,68]⟩,.string ⟨#[65,68,67]⟩,.string ⟨#[83,66,67]⟩] 9)) (slR_strs wc 9 (fun _=>True) wAdd wc.heap.size rfl trivial (by simp [wAdd,maxLen]))
   go_upto_region 5 with fail
   go_cut [40] (fun s40 wx=>s40=.bool (inL wAdd s&&((l2.length:Int)==1))∧Ro w wx s (.slice a l.length c) (.slice a2 l2.length c2) l2)
   case first=>
    cases h3:inL wAdd s
    ·rw [h3] at hin
     have HIN:=Lib.hid hin
     clear hin
     go_wp2_with (go_at_call 60;refine HIN.out.mono ?_;rintro e w' ⟨rfl,rfl⟩)
     go_meet
     case rel=>exact ⟨by rw [h3];rfl,HR2A.out⟩
    ·rw [h3] at hin
     have HIN:=Lib.hid hin
     clear hin
     go_wp2_with (go_at_call 60;refine HIN.out.mono ?_;rintro e w' ⟨rfl,rfl⟩)
     go_meet
     case rel=>exact ⟨by rw [h3];rfl,HR2A.out⟩
   case rest=>
    obtain ⟨rfl,hr⟩:=hcut
    have HR3:=Lib.hid hr
    clear hr HR2 HR2A hin
    go_upto_if 40 with fail
    go_cut [4] (fun s4 wx=>Ro w wx s (.slice a l.length c) s4 (accum s l))
    case first=>
     cases h3:(inL wAdd s&&((l2.length:Int)==1))
     ·have HA:=Lib.hid (show acc2 s l2=l2 by
       unfold acc2
       split
       ·have:inL wAdd s=false:=by simpa using h3
        simp [this]
       ·rfl)
      go_wp2
      go_meet
      case rel=>rw [←HAA.out,HA.out];exact HR3.out
     ·have h4:=h3
      rw [Bool.and_eq_true] at h4
      obtain ⟨x,hx⟩:=list1 (l:=l2) (by have:=eq_of_beq h4.2;omega)
      subst hx
      have HA:=Lib.hid (show acc2 s [x]=[regA,x] by simp [acc2,h4.1])
      obtain ⟨a',c',ea,_,_,g⟩:=HR3.out.own
      injection ea with ea1 ea2 ea3
      clear ea2
      subst ea1 ea3
      obtain ⟨b,o,rfl,hq,hb,d0,d1,d2,_⟩:=g 0 x rfl
      rw [Nat.zero_mul,Nat.add_zero] at d0 d1 d2
      obtain ⟨k0,k1,k2,_,_,_⟩:=HR3.out.b3.three
      have n3:=HR3.out.b3.lt
      clear g hq h4
      go_upto_region 6 with fail
      go_region_held3 (fun w'=>w'.cell? ⟨w.heap.size+1+1,0,none⟩=some (.int .i64 1)∧w'.cell? ⟨w.heap.size+1+1,1,none⟩=some (.int .i64 7)∧w'.cell? ⟨w.heap.size+1+1,2,none⟩=some (.int .i64 0)∧w'.cell? ⟨b,o,none⟩=some (.int .i64 x.kind)∧w'.cell? ⟨b,o+1,none⟩=some (.int .i64 x.reg)∧w'.cell? ⟨b,o+2,none⟩=some (.int .i64 x.n)) (go_keep) (fail)
      go_wp2_with fail
      go_meet
      case rel=>
       rw [←HAA.out,HA.out]
       have hb3:=HR3.out.b3.lt
       have ho:=opdOwn_new (w:=wc) (q:=fun b=>w.heap.size+1+1+1≤b) [regA,x] #[.int .i64 1,.int .i64 7,.int .i64 0,.int .i64 x.kind,.int .i64 x.reg,.int .i64 x.n] 90 wc.heap.size 2 rfl rfl rfl (by omega) (by simp)
       have hr:=HR3.out.alloc (.cells #[.int .i64 1,.int .i64 7,.int .i64 0,.int .i64 x.kind,.int .i64 x.reg,.int .i64 x.n] 90)
       exact ⟨hr.b1,hr.b2,hr.b3,ho.keep fun _ _=>rfl,hr.below.drew⟩
    case rest=>
     have HR4:=Lib.hid hcut
     clear hcut HR3
     obtain ⟨wq,rfl⟩:∃wq:World,wq=wc:=⟨_,rfl⟩
     obtain ⟨a4,c4,rfl,hc4,hm4,g4⟩:=HR4.out.own
     have hn4:(accum s l).length≤l.length+1:=by
      unfold accum
      split
      ·split<;>simp
      ·split<;>simp
      ·simp
     have HEX:=Lib.hid (show (exch s (accum s l)).map (numb (sizeOfW (width ⟨s,l⟩)))=(canonOf ⟨s,l⟩).args from (canonArgs_eq s l).symm)
     have HEF:=Lib.hid (exch_fits (s:=s) (accum_fits (s:=s) HF.out))
     have HN4:=Lib.hid hn4
     generalize accum s l=l4 at *
     clear hn4
     go_upto_region 9 with fail
     have HR5:=Lib.hid ((HR4.out.alloc (.cells #[.int .i64 3,.int .i64 2,.int .i64 0] 90)).alloc (.cells #[.int .i64 3,.int .i64 1,.int .i64 0] 90))
     have K5:Hid (Blk ((wq.alloc (.cells #[.int .i64 3,.int .i64 2,.int .i64 0] 90)).alloc (.cells #[.int .i64 3,.int .i64 1,.int .i64 0] 90)) wq.heap.size 90 #[.int .i64 3,.int .i64 2,.int .i64 0]):=(Blk.new wq _ _).alloc _
     have K6:Hid (Blk ((wq.alloc (.cells #[.int .i64 3,.int .i64 2,.int .i64 0] 90)).alloc (.cells #[.int .i64 3,.int .i64 1,.int .i64 0] 90)) (wq.heap.size+1) 90 #[.int .i64 3,.int .i64 1,.int .i64 0]):=by
      have h:=Blk.new (wq.alloc (.cells #[.int .i64 3,.int .i64 2,.int .i64 0] 90)) 90 #[.int .i64 3,.int .i64 1,.int .i64 0]
      exact Lib.hid (by simpa using h)
     generalize ((wq.alloc (.cells #[.int .i64 3,.int .i64 2,.int .i64 0] 90)).alloc (.cells #[.int .i64 3,.int .i64 1,.int .i64 0] 90))=W6 at *
     clear HR4 g4
     go_cut [69] (fun s69 wx=>s69=.bool (exb s l4)∧Ro w wx s (.slice a l.length c) (.slice a4 l4.length c4) l4∧Blk wx wq.heap.size 90 #[.int .i64 3,.int .i64 2,.int .i64 0]∧Blk wx (wq.heap.size+1) 90 #[.int .i64 3,.int .i64 1,.int .i64 0])
     case first=>
      obtain ⟨e0,e1,_,_⟩:=HR5.out.b1.two
      have HDN:Hid (∀n,Ro w (W6.drewN n) s (.slice a l.length c) (.slice a4 l4.length c4) l4∧Blk (W6.drewN n) wq.heap.size 90 #[.int .i64 3,.int .i64 2,.int .i64 0]∧Blk (W6.drewN n) (wq.heap.size+1) 90 #[.int .i64 3,.int .i64 1,.int .i64 0]):=fun n=>⟨HR5.out.later (below_dN (Below.refl _ _) n),K5.out,K6.out⟩
      cases he:(s.toList==[69,88])
      ·have HV:=Lib.hid (show exb s l4=false by simp [exb,he])
       go_quiet (fail)
       go_wp2_with fail
       go_meet
       case rel=>exact ⟨by rw [HV.out],HDN.out _⟩
      ·by_cases hl:l4.length=2
       ·obtain ⟨x,y,hxy⟩:=list2 hl
        subst hxy
        obtain ⟨a',c',ea,_,_,g⟩:=HR5.out.own
        injection ea with ea1 ea2 ea3
        clear ea2
        subst ea1 ea3
        obtain ⟨b,o,rfl,hq,hb,d0,d1,d2,_⟩:=g 0 x rfl
        obtain ⟨b',o',eb,_,_,d3,d4,d5,_⟩:=g 1 y rfl
        injection eb with eb
        injection eb with eb1 eb2
        subst eb1 eb2
        rw [Nat.zero_mul,Nat.add_zero] at d0 d1 d2
        rw [Nat.one_mul] at d3 d4 d5
        obtain ⟨k0,k1,k2,_,_,_⟩:=K5.out.three
        obtain ⟨k3,k4,k5,_,_,_⟩:=K6.out.three
        have hop:=run_eqOpd
        clear g hq hl
        cases hx:opdEq x opHL
        ·have hx':opdEq ⟨x.kind,x.reg,x.n⟩ ⟨3,2,0⟩=false:=hx
         have HV:=Lib.hid (show exb s [x,y]=false by simp [exb];intro _ e;rw [e] at hx;exact absurd hx (by decide))
         go_quiet (fail)
         go_wp2_with fail
         go_meet
         case rel=>exact ⟨by rw [HV.out],HDN.out _⟩
        ·have hx':opdEq ⟨x.kind,x.reg,x.n⟩ ⟨3,2,0⟩=true:=hx
         cases hy:opdEq y opDE
         ·have hy':opdEq ⟨y.kind,y.reg,y.n⟩ ⟨3,1,0⟩=false:=hy
          have HV:=Lib.hid (show exb s [x,y]=false by simp [exb];intro _ _ e;rw [e] at hy;exact absurd hy (by decide))
          go_quiet (fail)
          go_wp2_with fail
          go_meet
          case rel=>exact ⟨by rw [HV.out],HDN.out _⟩
         ·have hy':opdEq ⟨y.kind,y.reg,y.n⟩ ⟨3,1,0⟩=true:=hy
          have HV:=Lib.hid (show exb s [x,y]=true by rw [opdEq_iff.1 hx,opdEq_iff.1 hy];simp [exb,he])
          go_quiet (fail)
          go_wp2_with fail
          go_meet
          case rel=>exact ⟨by rw [HV.out],HDN.out _⟩
       ·have hb2:((l4.length:Int)==2)=false:=by simp;omega
        have HV:=Lib.hid (show exb s l4=false by simp [exb];intro _ e;rw [e] at hl;exact absurd rfl hl)
        clear hl
        go_quiet (fail)
        go_wp2_with fail
        go_meet
        case rel=>exact ⟨by rw [HV.out],HDN.out _⟩
     case rest=>
      obtain ⟨rfl,hr,hk5,hk6⟩:=hcut
      have HR6:=Lib.hid hr
      have K5b:=Lib.hid hk5
      have K6b:=Lib.hid hk6
      clear hr hk5 hk6 HR5 K5 K6
      obtain ⟨e0,e1,_,_⟩:=HR6.out.b1.two
      obtain ⟨k0,k1,k2,_,_,_⟩:=K5b.out.three
      obtain ⟨k3,k4,k5,_,_,_⟩:=K6b.out.three
      have n5:=K5b.out.lt
      have n6:=K6b.out.lt
      go_upto_if 69 with fail
      go_cut [4] (fun s4 wx=>Ro w wx s (.slice a l.length c) s4 (exch s l4))
      case first=>
       cases hx:exb s l4
       ·have HA:=Lib.hid (show exch s l4=l4 by rw [exch_exb,hx];rfl)
        go_wp2
        go_meet
        case rel=>rw [HA.out];exact HR6.out
       ·have HA:=Lib.hid (show exch s l4=[opDE,opHL] by rw [exch_exb,hx];rfl)
        go_wp2
        go_meet
        case rel=>
         rw [HA.out]
         have hb3:=HR6.out.b3.lt
         have ho:=opdOwn_new (w:=wc) (q:=fun b=>w.heap.size+1+1+1≤b) [opDE,opHL] #[.int .i64 3,.int .i64 1,.int .i64 0,.int .i64 3,.int .i64 2,.int .i64 0] 90 wc.heap.size 2 rfl rfl rfl (by omega) (by simp)
         have hr:=HR6.out.alloc (.cells #[.int .i64 3,.int .i64 1,.int .i64 0,.int .i64 3,.int .i64 2,.int .i64 0] 90)
         exact ⟨hr.b1,hr.b2,hr.b3,ho,hr.below⟩
      case rest=>
       have HR7:=Lib.hid hcut
       have hxl:(exch s l4).length≤l4.length:=by
        rw [exch_exb]
        split
        ·rename_i h
         have:l4=[opHL,opDE]:=by simp [exb] at h;exact h.2
         rw [this];exact Nat.le_refl _
        ·exact Nat.le_refl _
       have HXL:=Lib.hid (show (exch s l4).length≤1000001 by have:=HN4.out;have:=HN.out;omega)
       obtain ⟨a5,c5,rfl,hc5,hm5,_⟩:=HR7.out.own
       generalize exch s l4=l5 at *
       clear hcut HR6 K5b K6b e0 e1 k0 k1 k2 k3 k4 k5 n5 n6 hxl
       obtain ⟨e0,e1,_,_⟩:=HR7.out.b1.two
       have hwd:=ref08Width_any p ⟨s,l⟩ (.slice a l.length c) wc (H.out.below HR7.out.below)
       have hwc:=width_cases ⟨s,l⟩
       generalize width ⟨s,l⟩=wd at *
       have HWD:=Lib.hid hwd
       clear hwd
       rcases hwc with rfl | rfl | rfl
       ·go_wp2_with (go_at_call 61;refine HWD.out.mono ?_;rintro e w8 ⟨rfl,hb⟩;have HR8:=Lib.hid (HR7.out.later hb);clear hb)
        clear e0 e1
        go_loopw [8] (fun i wr=>∃k:Nat,k≤l5.length∧i=.int .i64 k∧Ro w wr s (.slice a l.length c) (.slice a5 l5.length c5) (part 1 l5 k)) (fun i _=>l5.length - (intOf i).toNat)
        case atStart=>exact ⟨0,Nat.zero_le _,rfl,by rw [part_zero];exact HR8.out⟩
        case round=>
         obtain ⟨k,hk,rfl,hh⟩:=hrel
         have HR:=Lib.hid hh
         have hlb:=HXL.out
         by_cases hlt:k < l5.length
         ·have hat:=part_at 1 l5 k hlt
          obtain ⟨a',c',ea,_,_,g⟩:=hh.own
          injection ea with ea1 ea2 ea3
          clear ea2
          subst ea1 ea3
          obtain ⟨b,o,rfl,hq,hb,d0,d1,d2,fr⟩:=g k _ hat
          have f2:=fr (o+k * 3+2)
          have hx:=HEF.out l5[k] (List.getElem_mem hlt)
          have HSU:=Lib.hid (part_succ 1 l5 k hlt)
          have HSA:=Lib.hid (part_same 1 l5 k hlt)
          have HST:=Lib.hid (fun m:Int=>HR.out.setN (m:=m) hat hq)
          clear g hat fr hq hh
          generalize l5[k]=x at *
          obtain ⟨hx1,hx2⟩:=hx
          have NO:=Lib.hid (numb_no (sz:=1) (x:=x))
          have YES:=Lib.hid (numb_yes (sz:=1) (x:=x))
          cases h6:(x.kind==6)
          ·have h6':(x.kind != 6)=true:=by simp [bne,h6]
           go_wp2
           go_roundw
           case rel=>exact ⟨k+1,by omega,by go_num,by rw [HSA.out (NO.out (fun h=>by rw [h.1] at h6;cases h6))];exact HR.out⟩
           case measure=>simp [intOf];omega
          ·have h6':(x.kind != 6)=false:=by simp [bne,h6]
           have h6e:x.kind=6:=eq_of_beq h6
           have HK6:=Lib.hid h6e
           clear h6e
           by_cases h0:0≤x.n
           ·go_wp2
            go_roundw
            case rel=>exact ⟨k+1,by omega,by go_num,by rw [HSA.out (NO.out (fun h=>absurd h.2.1 (by omega)))];exact HR.out⟩
            case measure=>simp [intOf];omega
           ·go_wp2
            go_roundw
            case rel=>exact ⟨k+1,by omega,by go_num,by rw [HSA.out (NO.out (fun h=>absurd h.2.2.2 (by omega)))];exact HR.out⟩
            case measure=>simp [intOf];omega
         ·have hpa:part 1 l5 k=l5.map (numb 1):=part_all 1 l5 k (by omega)
          rw [hpa] at hh
          have HRE:=Lib.hid hh
          obtain ⟨e0,e1,_,_⟩:=hh.b1.two
          obtain ⟨q0,q1,q2,q3⟩:=hh.b2.two
          clear hpa hh
          go_wp2
          have hk3:=(HRE.out.b2.set 0 (.string s)).set 1 (.slice a5 l5.length c5)
          refine bodyPost_ret (results_cell_row rfl _ _ (w.heap.size+1) 27 #[.string s,.slice a5 l5.length c5] (0,0) _ rfl hk3 Tryz.underlying27 rfl (by kernel_rfl)) rfl ⟨_,rfl,?_,?_⟩
          ·rw [←HEX.out]
           exact ((HRE.out.own.keep (Keep.setCell (fun k hk=>by show k≠w.heap.size+1;omega) _)).keep (Keep.setCell (fun k hk=>by show k≠w.heap.size+1;omega) _)).mono (fun k hk=>by omega)
          ·exact (HRE.out.below.setCell (p:=⟨w.heap.size+1,0,none⟩) (Nat.le_succ _) _).setCell (p:=⟨w.heap.size+1,1,none⟩) (Nat.le_succ _) _
       ·go_wp2_with (go_at_call 61;refine HWD.out.mono ?_;rintro e w8 ⟨rfl,hb⟩;have HR8:=Lib.hid (HR7.out.later hb);clear hb)
        clear e0 e1
        go_loopw [8] (fun i wr=>∃k:Nat,k≤l5.length∧i=.int .i64 k∧Ro w wr s (.slice a l.length c) (.slice a5 l5.length c5) (part 256 l5 k)) (fun i _=>l5.length - (intOf i).toNat)
        case atStart=>exact ⟨0,Nat.zero_le _,rfl,by rw [part_zero];exact HR8.out⟩
        case round=>
         obtain ⟨k,hk,rfl,hh⟩:=hrel
         have HR:=Lib.hid hh
         have hlb:=HXL.out
         by_cases hlt:k < l5.length
         ·have hat:=part_at 256 l5 k hlt
          obtain ⟨a',c',ea,_,_,g⟩:=hh.own
          injection ea with ea1 ea2 ea3
          clear ea2
          subst ea1 ea3
          obtain ⟨b,o,rfl,hq,hb,d0,d1,d2,fr⟩:=g k _ hat
          have f2:=fr (o+k * 3+2)
          have hx:=HEF.out l5[k] (List.getElem_mem hlt)
          have HSU:=Lib.hid (part_succ 256 l5 k hlt)
          have HSA:=Lib.hid (part_same 256 l5 k hlt)
          have HST:=Lib.hid (fun m:Int=>HR.out.setN (m:=m) hat hq)
          clear g hat fr hq hh
          generalize l5[k]=x at *
          obtain ⟨hx1,hx2⟩:=hx
          have NO:=Lib.hid (numb_no (sz:=256) (x:=x))
          have YES:=Lib.hid (numb_yes (sz:=256) (x:=x))
          cases h6:(x.kind==6)
          ·have h6':(x.kind != 6)=true:=by simp [bne,h6]
           go_wp2
           go_roundw
           case rel=>exact ⟨k+1,by omega,by go_num,by rw [HSA.out (NO.out (fun h=>by rw [h.1] at h6;cases h6))];exact HR.out⟩
           case measure=>simp [intOf];omega
          ·have h6':(x.kind != 6)=false:=by simp [bne,h6]
           have h6e:x.kind=6:=eq_of_beq h6
           have HK6:=Lib.hid h6e
           clear h6e
           by_cases h0:0≤x.n
           ·go_wp2
            go_roundw
            case rel=>exact ⟨k+1,by omega,by go_num,by rw [HSA.out (NO.out (fun h=>absurd h.2.1 (by omega)))];exact HR.out⟩
            case measure=>simp [intOf];omega
           ·by_cases h1:-128≤x.n
            ·go_wp2
             go_roundw
             case rel=>exact ⟨k+1,by omega,by go_num,by rw [HSU.out,YES.out ⟨HK6.out,by omega,by omega,by omega⟩];exact HST.out _⟩
             case measure=>simp [intOf];omega
            ·go_wp2
             go_roundw
             case rel=>exact ⟨k+1,by omega,by go_num,by rw [HSA.out (NO.out (fun h=>h1 (by have:=h.2.2.1;omega)))];exact HR.out⟩
             case measure=>simp [intOf];omega
         ·have hpa:part 256 l5 k=l5.map (numb 256):=part_all 256 l5 k (by omega)
          rw [hpa] at hh
          have HRE:=Lib.hid hh
          obtain ⟨e0,e1,_,_⟩:=hh.b1.two
          obtain ⟨q0,q1,q2,q3⟩:=hh.b2.two
          clear hpa hh
          go_wp2
          have hk3:=(HRE.out.b2.set 0 (.string s)).set 1 (.slice a5 l5.length c5)
          refine bodyPost_ret (results_cell_row rfl _ _ (w.heap.size+1) 27 #[.string s,.slice a5 l5.length c5] (0,0) _ rfl hk3 Tryz.underlying27 rfl (by kernel_rfl)) rfl ⟨_,rfl,?_,?_⟩
          ·rw [←HEX.out]
           exact ((HRE.out.own.keep (Keep.setCell (fun k hk=>by show k≠w.heap.size+1;omega) _)).keep (Keep.setCell (fun k hk=>by show k≠w.heap.size+1;omega) _)).mono (fun k hk=>by omega)
          ·exact (HRE.out.below.setCell (p:=⟨w.heap.size+1,0,none⟩) (Nat.le_succ _) _).setCell (p:=⟨w.heap.size+1,1,none⟩) (Nat.le_succ _) _
       ·go_wp2_with (go_at_call 61;refine HWD.out.mono ?_;rintro e w8 ⟨rfl,hb⟩;have HR8:=Lib.hid (HR7.out.later hb);clear hb)
        clear e0 e1
        go_loopw [8] (fun i wr=>∃k:Nat,k≤l5.length∧i=.int .i64 k∧Ro w wr s (.slice a l.length c) (.slice a5 l5.length c5) (part 65536 l5 k)) (fun i _=>l5.length - (intOf i).toNat)
        case atStart=>exact ⟨0,Nat.zero_le _,rfl,by rw [part_zero];exact HR8.out⟩
        case round=>
         obtain ⟨k,hk,rfl,hh⟩:=hrel
         have HR:=Lib.hid hh
         have hlb:=HXL.out
         by_cases hlt:k < l5.length
         ·have hat:=part_at 65536 l5 k hlt
          obtain ⟨a',c',ea,_,_,g⟩:=hh.own
          injection ea with ea1 ea2 ea3
          clear ea2
          subst ea1 ea3
          obtain ⟨b,o,rfl,hq,hb,d0,d1,d2,fr⟩:=g k _ hat
          have f2:=fr (o+k * 3+2)
          have hx:=HEF.out l5[k] (List.getElem_mem hlt)
          have HSU:=Lib.hid (part_succ 65536 l5 k hlt)
          have HSA:=Lib.hid (part_same 65536 l5 k hlt)
          have HST:=Lib.hid (fun m:Int=>HR.out.setN (m:=m) hat hq)
          clear g hat fr hq hh
          generalize l5[k]=x at *
          obtain ⟨hx1,hx2⟩:=hx
          have NO:=Lib.hid (numb_no (sz:=65536) (x:=x))
          have YES:=Lib.hid (numb_yes (sz:=65536) (x:=x))
          cases h6:(x.kind==6)
          ·have h6':(x.kind != 6)=true:=by simp [bne,h6]
           go_wp2
           go_roundw
           case rel=>exact ⟨k+1,by omega,by go_num,by rw [HSA.out (NO.out (fun h=>by rw [h.1] at h6;cases h6))];exact HR.out⟩
           case measure=>simp [intOf];omega
          ·have h6':(x.kind != 6)=false:=by simp [bne,h6]
           have h6e:x.kind=6:=eq_of_beq h6
           have HK6:=Lib.hid h6e
           clear h6e
           by_cases h0:0≤x.n
           ·go_wp2
            go_roundw
            case rel=>exact ⟨k+1,by omega,by go_num,by rw [HSA.out (NO.out (fun h=>absurd h.2.1 (by omega)))];exact HR.out⟩
            case measure=>simp [intOf];omega
           ·by_cases h1:-32768≤x.n
            ·go_wp2
             go_roundw
             case rel=>exact ⟨k+1,by omega,by go_num,by rw [HSU.out,YES.out ⟨HK6.out,by omega,by omega,by omega⟩];exact HST.out _⟩
             case measure=>simp [intOf];omega
            ·go_wp2
             go_roundw
             case rel=>exact ⟨k+1,by omega,by go_num,by rw [HSA.out (NO.out (fun h=>h1 (by have:=h.2.2.1;omega)))];exact HR.out⟩
             case measure=>simp [intOf];omega
         ·have hpa:part 65536 l5 k=l5.map (numb 65536):=part_all 65536 l5 k (by omega)
          rw [hpa] at hh
          have HRE:=Lib.hid hh
          obtain ⟨e0,e1,_,_⟩:=hh.b1.two
          obtain ⟨q0,q1,q2,q3⟩:=hh.b2.two
          clear hpa hh
          go_wp2
          have hk3:=(HRE.out.b2.set 0 (.string s)).set 1 (.slice a5 l5.length c5)
          refine bodyPost_ret (results_cell_row rfl _ _ (w.heap.size+1) 27 #[.string s,.slice a5 l5.length c5] (0,0) _ rfl hk3 Tryz.underlying27 rfl (by kernel_rfl)) rfl ⟨_,rfl,?_,?_⟩
          ·rw [←HEX.out]
           exact ((HRE.out.own.keep (Keep.setCell (fun k hk=>by show k≠w.heap.size+1;omega) _)).keep (Keep.setCell (fun k hk=>by show k≠w.heap.size+1;omega) _)).mono (fun k hk=>by omega)
          ·exact (HRE.out.below.setCell (p:=⟨w.heap.size+1,0,none⟩) (Nat.le_succ _) _).setCell (p:=⟨w.heap.size+1,1,none⟩) (Nat.le_succ _) _
end Go.Proofs.YtjmekllgnhkodaaGreatDoor
