/-
  The canonical form: canon.Of and what it computes. Conditions: sizes.
-/
import Derived.Test.YtcgheipmnphbjaaGreatDoorBA5
namespace Go.Proofs.YtcgheipmnphbjaaGreatDoor
set_option maxHeartbeats 4000000
open Go.RowKit Go.Sort
def iM:List ByteArray:=[⟨#[83,85,66]⟩,⟨#[65,78,68]⟩,⟨#[88,79,82]⟩,⟨#[79,82]⟩,⟨#[67,80]⟩]
def iS:List ByteArray:=[⟨#[65,68,68]⟩,⟨#[65,68,67]⟩,⟨#[83,66,67]⟩]
def kM:Opd:=⟨1,7,0⟩
def cP (s:ByteArray) (l:List Opd):List Opd:=
 match l with
 | [x]=>if inL iS s then [kM,x] else [x]
 | [x,y]=>if inL iM s&&aP x kM then [y] else [x,y]
 | l=>l
theorem Wr.spc {w0 w:World} {bw:Nat} {s:ByteArray} {v:Value} {l:List Opd} (h:Wr w0 w bw s v l):Spc w:=h.spc0.below h.below
theorem Wr.setNew {w0 w:World} {bw:Nat} {s:ByteArray} {v:Value} {l:List Opd} (h:Wr w0 w bw s v l) {x y:Opd} (cs:Array Value) (hcs:cs.toList=[x,y].flatMap Opd.cells):
  Wr w0 (((w.setCell ⟨bw,1,none⟩ (.slice (some ⟨w.heap.size,0,none⟩) 2 2)).alloc (.cells cs 49)).drew) bw s (.slice (some ⟨w.heap.size,0,none⟩) 2 2) [x,y]:=by
 have hlt:=h.blk.lt
 have hsz:(w.setCell ⟨bw,1,none⟩ (.slice (some ⟨w.heap.size,0,none⟩) 2 2)).heap.size=w.heap.size:=by simp [World.setCell]
 have ho:=gZ (w:=w.setCell ⟨bw,1,none⟩ (.slice (some ⟨w.heap.size,0,none⟩) 2 2)) (q:=fun b=>w0.heap.size≤b∧b≠bw) [x,y] cs 49 w.heap.size 2 hsz.symm rfl hcs ⟨Nat.le_of_lt (Nat.lt_of_le_of_lt h.old hlt),by omega⟩ (by simp)
 refine ⟨(h.blk.set 1 _).alloc _,ho.keep fun _ _=>rfl,h.old,((h.below.setCell h.old _).alloc (by rw [hsz];exact Nat.le_of_lt (Nat.lt_of_le_of_lt h.old hlt)) _).drew,h.spc0⟩
theorem BP:fL ⟨#[83,85,66,32,65,78,68,32,88,79,82,32,79,82,32,67,80]⟩=iM:=by decide+kernel
theorem AK:fL ⟨#[65,68,68,32,65,68,67,32,83,66,67]⟩=iS:=by decide+kernel
theorem DT:∀(j:Nat) b,(⟨#[83,85,66,32,65,78,68,32,88,79,82,32,79,82,32,67,80]⟩:ByteArray).data.toList[j]?=some b→b.toNat < 128:=fun j b h=>
 (by decide+kernel:∀x∈(⟨#[83,85,66,32,65,78,68,32,88,79,82,32,79,82,32,67,80]⟩:ByteArray).data.toList,x.toNat < 128) b (List.mem_of_getElem? h)
theorem FSx:∀(j:Nat) b,(⟨#[65,68,68,32,65,68,67,32,83,66,67]⟩:ByteArray).data.toList[j]?=some b→b.toNat < 128:=fun j b h=>
 (by decide+kernel:∀x∈(⟨#[65,68,68,32,65,68,67,32,83,66,67]⟩:ByteArray).data.toList,x.toNat < 128) b (List.mem_of_getElem? h)
theorem gG (s:ByteArray) (w:World) (hT:Spc w):Calls Tryz.prog 104 #[.string ⟨#[83,85,66,32,65,78,68,32,88,79,82,32,79,82,32,67,80]⟩,.string s] w fun e w'=>e=.returned (.bool (inL iM s))∧Below w.heap.size w w':=
 oY _ iM s w BP (by decide) (by decide) DT hT
theorem fB (s:ByteArray) (w:World) (hT:Spc w):Calls Tryz.prog 104 #[.string ⟨#[65,68,68,32,65,68,67,32,83,66,67]⟩,.string s] w fun e w'=>e=.returned (.bool (inL iS s))∧Below w.heap.size w w':=
 oY _ iS s w AK (by decide) (by decide) FSx hT
theorem uU (w0 w:World) (bw:Nat) (s:ByteArray) (a:Option Addr) (n c:Nat) (l:List Opd) (h:Wr w0 w bw s (.slice a n c) l) (hv:cP s l=l) (n1:inL iS s=true→((n:Int)==1)=false) (n2:inL iM s=true→((n:Int)==2)=false):
  Calls Tryz.prog 66 #[.pointer (some ⟨bw,0,none⟩)] w fun e w'=>e=.returned (.tuple #[])∧∃v',Wr w0 w' bw s v' (cP s l):=by
 have HV:=aA hv
 have N1:=aA n1
 have N2:=aA n2
 clear hv n1 n2
 cases h1:inL iM s
 ·skip
  obtain ⟨w1,hw1⟩:∃w1:World,w1=w.alloc (.cells #[.int .i64 1,.int .i64 7,.int .i64 0] 49):=⟨_,rfl⟩
  have hb1:Below w.heap.size w w1:=hw1 ▸ (Below.refl _ _).alloc (Nat.le_refl _) _
  have ka:Blk w1 w.heap.size 49 #[.int .i64 1,.int .i64 7,.int .i64 0]:=hw1 ▸ Blk.new w _ _
  have HW1:=h.later hb1
  have E0:∀d os,(grow (redrawn w1 d) os).cell? ⟨bw,0,none⟩=some (.string s):=fun d os=>cell_regrown HW1.blk.two.1 d os
  have E1:∀d os,(grow (redrawn w1 d) os).cell? ⟨bw,1,none⟩=some (.slice a n c):=fun d os=>cell_regrown HW1.blk.two.2.1 d os
  have HS:Hid (∀d os,Spc (grow (redrawn w1 d) os)):=fun d os=>HW1.spc.below (below_regrown w1 d os)
  have hword:=fun wx hT=>gG s wx hT
  simp only [h1] at hword
  have HWORD:=aA hword
  clear hword
  have KA:=aA ka
  have HB1:=aA hb1
  have H1:=aA HW1
  clear ka hb1 HW1
  go_enter Tryz.func66,Tryz.ntmps66
  go_wp2
  rw [←hw1]
  have HE:=aA hw1
  clear hw1
  refine wp_region_quiet_below (by kernel_rfl) (by kernel_rfl) ?_
  repeat (go_big_quiet_step (exact Calls.regrown_of (HWORD.out _ (HS.out _ _))))
  refine wpQuiet_nil ?_
  intro _ hw'
  obtain ⟨⟨dq,osq⟩,hw''⟩:=hw'
  subst hw''
  have HB2:Hid (Below w1.heap.size w1 (grow (redrawn w1 dq) osq)):=below_regrown w1 dq osq
  generalize grow (redrawn w1 dq) osq=w2 at *
  have H2:Hid (Wr w0 w2 bw s (.slice a n c) l):=H1.out.later HB2.out
  obtain ⟨e0,e1,f0,f1⟩:=H2.out.blk.two
  clear E0 E1 HS
  cases h2:inL iS s
  ·have hword:=fun wx hT=>fB s wx hT
   simp only [h2] at hword
   have HWORD2:=aA hword
   clear hword
   go_wp2_with fail
   refine (HWORD2.out _ H2.out.spc).mono ?_
   rintro e w3 ⟨rfl,hb3⟩
   have H3:Hid (Wr w0 w3 bw s (.slice a n c) l):=H2.out.later hb3
   have HB3:=aA hb3
   clear e0 e1 f0 f1 hb3
   obtain ⟨e0,e1,f0,f1⟩:=H3.out.blk.two
   go_wp2
   go_end0
   exact ⟨rfl,_,by rw [HV.out];exact H3.out⟩
  ·have n1:=N1.out h2
   have hword:=fun wx hT=>fB s wx hT
   simp only [h2] at hword
   have HWORD2:=aA hword
   clear hword
   go_wp2_with fail
   refine (HWORD2.out _ H2.out.spc).mono ?_
   rintro e w3 ⟨rfl,hb3⟩
   have H3:Hid (Wr w0 w3 bw s (.slice a n c) l):=H2.out.later hb3
   have HB3:=aA hb3
   clear e0 e1 f0 f1 hb3
   obtain ⟨e0,e1,f0,f1⟩:=H3.out.blk.two
   go_wp2
   go_end0
   exact ⟨rfl,_,by rw [HV.out];exact H3.out⟩
 ·have n2:=N2.out h1
  obtain ⟨w1,hw1⟩:∃w1:World,w1=w.alloc (.cells #[.int .i64 1,.int .i64 7,.int .i64 0] 49):=⟨_,rfl⟩
  have hb1:Below w.heap.size w w1:=hw1 ▸ (Below.refl _ _).alloc (Nat.le_refl _) _
  have ka:Blk w1 w.heap.size 49 #[.int .i64 1,.int .i64 7,.int .i64 0]:=hw1 ▸ Blk.new w _ _
  have HW1:=h.later hb1
  have E0:∀d os,(grow (redrawn w1 d) os).cell? ⟨bw,0,none⟩=some (.string s):=fun d os=>cell_regrown HW1.blk.two.1 d os
  have E1:∀d os,(grow (redrawn w1 d) os).cell? ⟨bw,1,none⟩=some (.slice a n c):=fun d os=>cell_regrown HW1.blk.two.2.1 d os
  have HS:Hid (∀d os,Spc (grow (redrawn w1 d) os)):=fun d os=>HW1.spc.below (below_regrown w1 d os)
  have hword:=fun wx hT=>gG s wx hT
  simp only [h1] at hword
  have HWORD:=aA hword
  clear hword
  have KA:=aA ka
  have HB1:=aA hb1
  have H1:=aA HW1
  clear ka hb1 HW1
  go_enter Tryz.func66,Tryz.ntmps66
  go_wp2
  rw [←hw1]
  have HE:=aA hw1
  clear hw1
  refine wp_region_quiet_below (by kernel_rfl) (by kernel_rfl) ?_
  repeat (go_big_quiet_step (exact Calls.regrown_of (HWORD.out _ (HS.out _ _))))
  refine wpQuiet_nil ?_
  intro _ hw'
  obtain ⟨⟨dq,osq⟩,hw''⟩:=hw'
  subst hw''
  have HB2:Hid (Below w1.heap.size w1 (grow (redrawn w1 dq) osq)):=below_regrown w1 dq osq
  generalize grow (redrawn w1 dq) osq=w2 at *
  have H2:Hid (Wr w0 w2 bw s (.slice a n c) l):=H1.out.later HB2.out
  obtain ⟨e0,e1,f0,f1⟩:=H2.out.blk.two
  clear E0 E1 HS
  cases h2:inL iS s
  ·have hword:=fun wx hT=>fB s wx hT
   simp only [h2] at hword
   have HWORD2:=aA hword
   clear hword
   go_wp2_with fail
   refine (HWORD2.out _ H2.out.spc).mono ?_
   rintro e w3 ⟨rfl,hb3⟩
   have H3:Hid (Wr w0 w3 bw s (.slice a n c) l):=H2.out.later hb3
   have HB3:=aA hb3
   clear e0 e1 f0 f1 hb3
   obtain ⟨e0,e1,f0,f1⟩:=H3.out.blk.two
   go_wp2
   go_end0
   exact ⟨rfl,_,by rw [HV.out];exact H3.out⟩
  ·have n1:=N1.out h2
   have hword:=fun wx hT=>fB s wx hT
   simp only [h2] at hword
   have HWORD2:=aA hword
   clear hword
   go_wp2_with fail
   refine (HWORD2.out _ H2.out.spc).mono ?_
   rintro e w3 ⟨rfl,hb3⟩
   have H3:Hid (Wr w0 w3 bw s (.slice a n c) l):=H2.out.later hb3
   have HB3:=aA hb3
   clear e0 e1 f0 f1 hb3
   obtain ⟨e0,e1,f0,f1⟩:=H3.out.blk.two
   go_wp2
   go_end0
   exact ⟨rfl,_,by rw [HV.out];exact H3.out⟩
theorem acc_two (w0 w:World) (bw:Nat) (s:ByteArray) (a:Option Addr) (n c:Nat) (x y:Opd) (l:List Opd) (hl:l=[x,y]) (h:Wr w0 w bw s (.slice a n c) l):
  Calls Tryz.prog 66 #[.pointer (some ⟨bw,0,none⟩)] w fun e w'=>e=.returned (.tuple #[])∧∃v',Wr w0 w' bw s v' (cP s l):=by
 have hown:=h.own
 obtain ⟨a',c',e',hc,hm,g⟩:=hown
 have hln:l.length=2:=by rw [hl];rfl
 injection e' with e1 e2 e3
 subst e1 e3
 obtain rfl:n=2:=by rw [e2,hln]
 obtain ⟨b,o,rfl,hq,hb,c0,c1,c2,_⟩:=g 0 x (by rw [hl];rfl)
 obtain ⟨b',o',eb,hq',hb',d0,d1,d2,df⟩:=g 1 y (by rw [hl];rfl)
 injection eb with eb
 injection eb with eb1 eb2
 subst eb1 eb2
 simp only [Nat.zero_mul,Nat.add_zero,Nat.one_mul] at c0 c1 c2 d0 d1 d2
 have h3:c≠1:=by rw [hln] at hc;omega
 have DF:Hid (w.cell? ⟨b,o+3,none⟩=some (.int .i64 y.kind)∧w.cell? ⟨b,o+3+1,none⟩=some (.int .i64 y.reg)∧w.cell? ⟨b,o+3+2,none⟩=some (.int .i64 y.n)∧∀j,w.frozen? ⟨b,j,none⟩=false):=⟨d0,d1,d2,df⟩
 have HC:Hid (2≤c∧c≤9223372036854775807):=by rw [hln] at hc;exact ⟨hc,hm⟩
 clear g d0 d1 d2 df hc hm e2 hln hb' hq'
 have hop:=gD
 cases h1:inL iM s
 ·have HV:=aA (show cP s l=l by rw [hl];simp [cP,h1])
  have HL:=aA hl
  clear hl
  obtain ⟨w1,hw1⟩:∃w1:World,w1=w.alloc (.cells #[.int .i64 1,.int .i64 7,.int .i64 0] 49):=⟨_,rfl⟩
  have hb1:Below w.heap.size w w1:=hw1 ▸ (Below.refl _ _).alloc (Nat.le_refl _) _
  have ka:Blk w1 w.heap.size 49 #[.int .i64 1,.int .i64 7,.int .i64 0]:=hw1 ▸ Blk.new w _ _
  have HW1:=h.later hb1
  have E0:∀d os,(grow (redrawn w1 d) os).cell? ⟨bw,0,none⟩=some (.string s):=fun d os=>cell_regrown HW1.blk.two.1 d os
  have E1:∀d os,(grow (redrawn w1 d) os).cell? ⟨bw,1,none⟩=some (.slice (some ⟨b,o,none⟩) 2 c):=fun d os=>cell_regrown HW1.blk.two.2.1 d os
  have HS:Hid (∀d os,Spc (grow (redrawn w1 d) os)):=fun d os=>HW1.spc.below (below_regrown w1 d os)
  have hword:=fun wx hT=>gG s wx hT
  simp only [h1] at hword
  have HWORD:=aA hword
  clear hword
  have KA:=aA ka
  have HB1:=aA hb1
  have H1:=aA HW1
  clear ka hb1 HW1
  go_enter Tryz.func66,Tryz.ntmps66
  go_wp2
  rw [←hw1]
  have HE:=aA hw1
  clear hw1
  refine wp_region_quiet_below (by kernel_rfl) (by kernel_rfl) ?_
  repeat (go_big_quiet_step (exact Calls.regrown_of (HWORD.out _ (HS.out _ _))))
  refine wpQuiet_nil ?_
  intro _ hw'
  obtain ⟨⟨dq,osq⟩,hw''⟩:=hw'
  subst hw''
  have HB2:Hid (Below w1.heap.size w1 (grow (redrawn w1 dq) osq)):=below_regrown w1 dq osq
  generalize grow (redrawn w1 dq) osq=w2 at *
  have H2:Hid (Wr w0 w2 bw s (.slice (some ⟨b,o,none⟩) 2 c) l):=H1.out.later HB2.out
  obtain ⟨e0,e1,f0,f1⟩:=H2.out.blk.two
  clear E0 E1 HS
  cases h2:inL iS s
  all_goals
   have hword:=fun wx hT=>fB s wx hT
   simp only [h2] at hword
   have HWORD2:=aA hword
   clear hword
   go_wp2_with fail
   refine (HWORD2.out _ H2.out.spc).mono ?_
   rintro e w3 ⟨rfl,hb3⟩
   have H3:Hid (Wr w0 w3 bw s (.slice (some ⟨b,o,none⟩) 2 c) l):=H2.out.later hb3
   have HB3:=aA hb3
   clear e0 e1 f0 f1 hb3
   obtain ⟨e0,e1,f0,f1⟩:=H3.out.blk.two
   go_wp2
   go_end0
   exact ⟨rfl,_,by rw [HV.out];exact H3.out⟩
 ·cases h4:aP x kM
  ·have HV:=aA (show cP s l=l by rw [hl];simp [cP,h1,h4])
   have HL:=aA hl
   clear hl
   have hx:aP ⟨x.kind,x.reg,x.n⟩ ⟨1,7,0⟩=false:=h4
   obtain ⟨w1,hw1⟩:∃w1:World,w1=w.alloc (.cells #[.int .i64 1,.int .i64 7,.int .i64 0] 49):=⟨_,rfl⟩
   have hb1:Below w.heap.size w w1:=hw1 ▸ (Below.refl _ _).alloc (Nat.le_refl _) _
   have ka:Blk w1 w.heap.size 49 #[.int .i64 1,.int .i64 7,.int .i64 0]:=hw1 ▸ Blk.new w _ _
   have HW1:=h.later hb1
   have E0:∀d os,(grow (redrawn w1 d) os).cell? ⟨bw,0,none⟩=some (.string s):=fun d os=>cell_regrown HW1.blk.two.1 d os
   have E1:∀d os,(grow (redrawn w1 d) os).cell? ⟨bw,1,none⟩=some (.slice (some ⟨b,o,none⟩) 2 c):=fun d os=>cell_regrown HW1.blk.two.2.1 d os
   have HS:Hid (∀d os,Spc (grow (redrawn w1 d) os)):=fun d os=>HW1.spc.below (below_regrown w1 d os)
   have C0:∀d os,(grow (redrawn w1 d) os).cell? ⟨b,o,none⟩=some (.int .i64 x.kind):=fun d os=>cell_regrown ((hb1.cell (p:=⟨b,o,none⟩) hb).trans c0) d os
   have C1:∀d os,(grow (redrawn w1 d) os).cell? ⟨b,o+1,none⟩=some (.int .i64 x.reg):=fun d os=>cell_regrown ((hb1.cell (p:=⟨b,o+1,none⟩) hb).trans c1) d os
   have C2:∀d os,(grow (redrawn w1 d) os).cell? ⟨b,o+2,none⟩=some (.int .i64 x.n):=fun d os=>cell_regrown ((hb1.cell (p:=⟨b,o+2,none⟩) hb).trans c2) d os
   have A0:∀d os,(grow (redrawn w1 d) os).cell? ⟨w.heap.size,0,none⟩=some (.int .i64 1):=fun d os=>cell_regrown ka.three.1 d os
   have A1:∀d os,(grow (redrawn w1 d) os).cell? ⟨w.heap.size,1,none⟩=some (.int .i64 7):=fun d os=>cell_regrown ka.three.2.1 d os
   have A2:∀d os,(grow (redrawn w1 d) os).cell? ⟨w.heap.size,2,none⟩=some (.int .i64 0):=fun d os=>cell_regrown ka.three.2.2.1 d os
   have hword:=fun wx hT=>gG s wx hT
   simp only [h1] at hword
   have HWORD:=aA hword
   clear hword
   have KA:=aA ka
   have HB1:=aA hb1
   have H1:=aA HW1
   clear ka hb1 HW1
   go_enter Tryz.func66,Tryz.ntmps66
   go_wp2
   rw [←hw1]
   have HE:=aA hw1
   clear hw1
   refine wp_region_quiet_below (by kernel_rfl) (by kernel_rfl) ?_
   repeat (go_big_quiet_step (exact Calls.regrown_of (HWORD.out _ (HS.out _ _))))
   refine wpQuiet_nil ?_
   intro _ hw'
   obtain ⟨⟨dq,osq⟩,hw''⟩:=hw'
   subst hw''
   have HB2:Hid (Below w1.heap.size w1 (grow (redrawn w1 dq) osq)):=below_regrown w1 dq osq
   generalize grow (redrawn w1 dq) osq=w2 at *
   have H2:Hid (Wr w0 w2 bw s (.slice (some ⟨b,o,none⟩) 2 c) l):=H1.out.later HB2.out
   obtain ⟨e0,e1,f0,f1⟩:=H2.out.blk.two
   clear E0 E1 HS C0 C1 C2 A0 A1 A2
   cases h2:inL iS s
   all_goals
    have hword:=fun wx hT=>fB s wx hT
    simp only [h2] at hword
    have HWORD2:=aA hword
    clear hword
    go_wp2_with fail
    refine (HWORD2.out _ H2.out.spc).mono ?_
    rintro e w3 ⟨rfl,hb3⟩
    have H3:Hid (Wr w0 w3 bw s (.slice (some ⟨b,o,none⟩) 2 c) l):=H2.out.later hb3
    have HB3:=aA hb3
    clear e0 e1 f0 f1 hb3
    obtain ⟨e0,e1,f0,f1⟩:=H3.out.blk.two
    go_wp2
    go_end0
    exact ⟨rfl,_,by rw [HV.out];exact H3.out⟩
  ·have HV:=aA (show cP s l=[y] by rw [hl];simp [cP,h1,h4])
   have HL:=aA hl
   clear hl
   have hx:aP ⟨x.kind,x.reg,x.n⟩ ⟨1,7,0⟩=true:=h4
   obtain ⟨w1,hw1⟩:∃w1:World,w1=w.alloc (.cells #[.int .i64 1,.int .i64 7,.int .i64 0] 49):=⟨_,rfl⟩
   have hb1:Below w.heap.size w w1:=hw1 ▸ (Below.refl _ _).alloc (Nat.le_refl _) _
   have ka:Blk w1 w.heap.size 49 #[.int .i64 1,.int .i64 7,.int .i64 0]:=hw1 ▸ Blk.new w _ _
   have HW1:=h.later hb1
   have E0:∀d os,(grow (redrawn w1 d) os).cell? ⟨bw,0,none⟩=some (.string s):=fun d os=>cell_regrown HW1.blk.two.1 d os
   have E1:∀d os,(grow (redrawn w1 d) os).cell? ⟨bw,1,none⟩=some (.slice (some ⟨b,o,none⟩) 2 c):=fun d os=>cell_regrown HW1.blk.two.2.1 d os
   have HS:Hid (∀d os,Spc (grow (redrawn w1 d) os)):=fun d os=>HW1.spc.below (below_regrown w1 d os)
   have C0:∀d os,(grow (redrawn w1 d) os).cell? ⟨b,o,none⟩=some (.int .i64 x.kind):=fun d os=>cell_regrown ((hb1.cell (p:=⟨b,o,none⟩) hb).trans c0) d os
   have C1:∀d os,(grow (redrawn w1 d) os).cell? ⟨b,o+1,none⟩=some (.int .i64 x.reg):=fun d os=>cell_regrown ((hb1.cell (p:=⟨b,o+1,none⟩) hb).trans c1) d os
   have C2:∀d os,(grow (redrawn w1 d) os).cell? ⟨b,o+2,none⟩=some (.int .i64 x.n):=fun d os=>cell_regrown ((hb1.cell (p:=⟨b,o+2,none⟩) hb).trans c2) d os
   have A0:∀d os,(grow (redrawn w1 d) os).cell? ⟨w.heap.size,0,none⟩=some (.int .i64 1):=fun d os=>cell_regrown ka.three.1 d os
   have A1:∀d os,(grow (redrawn w1 d) os).cell? ⟨w.heap.size,1,none⟩=some (.int .i64 7):=fun d os=>cell_regrown ka.three.2.1 d os
   have A2:∀d os,(grow (redrawn w1 d) os).cell? ⟨w.heap.size,2,none⟩=some (.int .i64 0):=fun d os=>cell_regrown ka.three.2.2.1 d os
   have hword:=fun wx hT=>gG s wx hT
   simp only [h1] at hword
   have HWORD:=aA hword
   clear hword
   have KA:=aA ka
   have HB1:=aA hb1
   have H1:=aA HW1
   clear ka hb1 HW1
   go_enter Tryz.func66,Tryz.ntmps66
   go_wp2
   rw [←hw1]
   have HE:=aA hw1
   clear hw1
   refine wp_region_quiet_below (by kernel_rfl) (by kernel_rfl) ?_
   repeat (go_big_quiet_step (exact Calls.regrown_of (HWORD.out _ (HS.out _ _))))
   refine wpQuiet_nil ?_
   intro _ hw'
   obtain ⟨⟨dq,osq⟩,hw''⟩:=hw'
   subst hw''
   have HB2:Hid (Below w1.heap.size w1 (grow (redrawn w1 dq) osq)):=below_regrown w1 dq osq
   generalize grow (redrawn w1 dq) osq=w2 at *
   have H2:Hid (Wr w0 w2 bw s (.slice (some ⟨b,o,none⟩) 2 c) l):=H1.out.later HB2.out
   obtain ⟨e0,e1,f0,f1⟩:=H2.out.blk.two
   clear E0 E1 HS C0 C1 C2 A0 A1 A2
   go_wp2
   go_end0
   refine ⟨rfl,.slice (some ⟨b,o+3,none⟩) 1 (c - 1),?_⟩
   rw [HV.out]
   refine H2.out.set (aD.below (w:=w1) (aD.below (w:=w) ⟨_,_,rfl,?_,?_,fun i z hz=>?_⟩ HB1.out) HB2.out)
   ·have:=HC.out;simp;omega
   ·have:=HC.out;omega
   ·match i,hz with
    | 0,hz=>
     simp at hz
     subst hz
     exact ⟨b,o+3,rfl,hq,hb,DF.out⟩
    | i+1,hz=>simp at hz
theorem acc_one (w0 w:World) (bw:Nat) (s:ByteArray) (a:Option Addr) (n c:Nat) (x:Opd) (l:List Opd) (hl:l=[x]) (h:Wr w0 w bw s (.slice a n c) l):
  Calls Tryz.prog 66 #[.pointer (some ⟨bw,0,none⟩)] w fun e w'=>e=.returned (.tuple #[])∧∃v',Wr w0 w' bw s v' (cP s l):=by
 have hown:=h.own
 obtain ⟨a',c',e',hc,hm,g⟩:=hown
 have hln:l.length=1:=by rw [hl];rfl
 injection e' with e1 e2 e3
 subst e1 e3
 obtain rfl:n=1:=by rw [e2,hln]
 cases h2:inL iS s
 ·exact uU w0 w bw s a 1 c l h (by rw [hl];simp [cP,h2]) (fun h=>by rw [h2] at h;cases h) (fun _=>rfl)
 ·have HV:=aA (show cP s l=[kM,x] by rw [hl];simp [cP,h2])
  obtain ⟨b,o,rfl,hq,hb,c0,c1,c2,_⟩:=g 0 x (by rw [hl];rfl)
  simp only [Nat.zero_mul,Nat.add_zero] at c0 c1 c2
  have HX:Hid (w.cell? ⟨b,o,none⟩=some (.int .i64 x.kind)∧w.cell? ⟨b,o+1,none⟩=some (.int .i64 x.reg)∧w.cell? ⟨b,o+2,none⟩=some (.int .i64 x.n)):=⟨c0,c1,c2⟩
  have HBB:=aA hb
  have HBN:Hid (b≠bw):=hq.2
  clear g hc hm e2 hln c0 c1 c2 hb hq
  have HL:=aA hl
  clear hl
  cases h1:inL iM s
  all_goals
   obtain ⟨w1,hw1⟩:∃w1:World,w1=w.alloc (.cells #[.int .i64 1,.int .i64 7,.int .i64 0] 49):=⟨_,rfl⟩
   have hb1:Below w.heap.size w w1:=hw1 ▸ (Below.refl _ _).alloc (Nat.le_refl _) _
   have ka:Blk w1 w.heap.size 49 #[.int .i64 1,.int .i64 7,.int .i64 0]:=hw1 ▸ Blk.new w _ _
   have HW1:=h.later hb1
   have E0:∀d os,(grow (redrawn w1 d) os).cell? ⟨bw,0,none⟩=some (.string s):=fun d os=>cell_regrown HW1.blk.two.1 d os
   have E1:∀d os,(grow (redrawn w1 d) os).cell? ⟨bw,1,none⟩=some (.slice (some ⟨b,o,none⟩) 1 c):=fun d os=>cell_regrown HW1.blk.two.2.1 d os
   have HS:Hid (∀d os,Spc (grow (redrawn w1 d) os)):=fun d os=>HW1.spc.below (below_regrown w1 d os)
   have hword:=fun wx hT=>gG s wx hT
   simp only [h1] at hword
   have HWORD:=aA hword
   clear hword
   have KA:=aA ka
   have HB1:=aA hb1
   have H1:=aA HW1
   clear ka hb1 HW1
   go_enter Tryz.func66,Tryz.ntmps66
   go_wp2
   rw [←hw1]
   have HE:=aA hw1
   clear hw1
   refine wp_region_quiet_below (by kernel_rfl) (by kernel_rfl) ?_
   repeat (go_big_quiet_step (exact Calls.regrown_of (HWORD.out _ (HS.out _ _))))
   refine wpQuiet_nil ?_
   intro _ hw'
   obtain ⟨⟨dq,osq⟩,hw''⟩:=hw'
   subst hw''
   have HB2:Hid (Below w1.heap.size w1 (grow (redrawn w1 dq) osq)):=below_regrown w1 dq osq
   generalize grow (redrawn w1 dq) osq=w2 at *
   have H2:Hid (Wr w0 w2 bw s (.slice (some ⟨b,o,none⟩) 1 c) l):=H1.out.later HB2.out
   obtain ⟨e0,e1,f0,f1⟩:=H2.out.blk.two
   clear E0 E1 HS
   have hword:=fun wx hT=>fB s wx hT
   simp only [h2] at hword
   have HWORD2:=aA hword
   clear hword
   go_wp2_with fail
   refine (HWORD2.out _ H2.out.spc).mono ?_
   rintro e w3 ⟨rfl,hb3⟩
   have H3:Hid (Wr w0 w3 bw s (.slice (some ⟨b,o,none⟩) 1 c) l):=H2.out.later hb3
   have HB3:=aA hb3
   clear e0 e1 f0 f1 hb3
   obtain ⟨e0,e1,f0,f1⟩:=H3.out.blk.two
   have hbb:=HBB.out
   have c0:=(HB3.out.cell (p:=⟨b,o,none⟩) (Nat.lt_of_lt_of_le (Nat.lt_of_lt_of_le hbb HB1.out.size) HB2.out.size)).trans ((HB2.out.cell (p:=⟨b,o,none⟩) (Nat.lt_of_lt_of_le hbb HB1.out.size)).trans ((HB1.out.cell (p:=⟨b,o,none⟩) hbb).trans HX.out.1))
   have c1:=(HB3.out.cell (p:=⟨b,o+1,none⟩) (Nat.lt_of_lt_of_le (Nat.lt_of_lt_of_le hbb HB1.out.size) HB2.out.size)).trans ((HB2.out.cell (p:=⟨b,o+1,none⟩) (Nat.lt_of_lt_of_le hbb HB1.out.size)).trans ((HB1.out.cell (p:=⟨b,o+1,none⟩) hbb).trans HX.out.2.1))
   have c2:=(HB3.out.cell (p:=⟨b,o+2,none⟩) (Nat.lt_of_lt_of_le (Nat.lt_of_lt_of_le hbb HB1.out.size) HB2.out.size)).trans ((HB2.out.cell (p:=⟨b,o+2,none⟩) (Nat.lt_of_lt_of_le hbb HB1.out.size)).trans ((HB1.out.cell (p:=⟨b,o+2,none⟩) hbb).trans HX.out.2.2))
   have kk:=(KA.out.below HB2.out KA.out.lt).below HB3.out (Nat.lt_of_lt_of_le KA.out.lt HB2.out.size)
   obtain ⟨k0,k1,k2,_,_,_⟩:=kk.three
   have hne:bw < w3.heap.size:=H3.out.blk.lt
   clear hbb kk
   go_wp2
   go_region
   all_goals go_wp2
   all_goals go_end0
   all_goals
    refine ⟨rfl,.slice (some ⟨w3.heap.size,0,none⟩) 2 2,?_⟩
    rw [HV.out]
    exact H3.out.setNew _ (by simp [kM,Opd.cells])
theorem YI (w0 w:World) (bw:Nat) (s:ByteArray) (v:Value) (l:List Opd) (h:Wr w0 w bw s v l):
  Calls Tryz.prog 66 #[.pointer (some ⟨bw,0,none⟩)] w fun e w'=>e=.returned (.tuple #[])∧∃v',Wr w0 w' bw s v' (cP s l):=by
 obtain ⟨a,c,rfl,_⟩:=h.own
 match l,h with
 | [],h=>exact uU w0 w bw s a _ c _ h rfl (fun _=>rfl) (fun _=>rfl)
 | [x],h=>exact acc_one w0 w bw s a _ c x _ rfl h
 | [x,y],h=>exact acc_two w0 w bw s a _ c x y _ rfl h
 | x::y::z::l,h=>exact uU w0 w bw s a _ c _ h rfl (fun _=>by simp;omega) (fun _=>by simp;omega)
end Go.Proofs.YtcgheipmnphbjaaGreatDoor
namespace Go.Proofs.YtcgheipmnphbjaaGreatDoor
set_option maxHeartbeats 4000000
open Go.RowKit
def tY (w:World) (b:Nat):List (Nat × Value)→World
 | []=>w
 | p::l=>tY (w.setCell ⟨b,p.1,none⟩ p.2) b l
def AV (j:Nat) (v:Value):List (Nat × Value)→Value
 | []=>v
 | p::l=>AV j (if p.1=j then p.2 else v) l
theorem tW {w0:World} {B b:Nat} (hB:B≤b):∀(l:List (Nat × Value)) {w:World},Below B w0 w→Below B w0 (tY w b l)
 | [],_,h=>h
 | p::l,_,h=>tW hB l (h.setCell (p:=⟨b,p.1,none⟩) hB _)
theorem vY {b k:Nat} (hk:k≠b):∀(l:List (Nat × Value)) (w:World),(tY w b l).heap[k]?=w.heap[k]?
 | [],_=>rfl
 | _::l,_=>(vY hk l _).trans (Below.heap_setCell _ _ _ _ hk)
theorem wZ {b:Nat}:∀(l:List (Nat × Value)) (w:World),(tY w b l).heap.size=w.heap.size
 | [],_=>rfl
 | _::l,_=>(wZ l _).trans (by simp [World.setCell])
theorem rX {b:Nat} (a:Addr):∀(l:List (Nat × Value)) (w:World),(tY w b l).frozen? a=w.frozen? a
 | [],_=>rfl
 | _::l,_=>(rX a l _).trans (World.frozen?_setCell _ _ _ _)
theorem hX {b j:Nat}:∀(l:List (Nat × Value)) {w:World} {v:Value},w.cell? ⟨b,j,none⟩=some v→(tY w b l).cell? ⟨b,j,none⟩=some (AV j v l)
 | [],_,_,h=>h
 | p::l,w,v,h=>hX l (by
   by_cases he:p.1=j
   ·subst he;rw [if_pos rfl];exact World.cell?_setCell_same' _ _ _ (by rw [h];rfl)
   ·rw [if_neg he,World.cell?_setCell_other _ _ _ _ (by simp)];exact h)
def iJ (o:Nat) (x y:Opd):List (Nat × Value):=
 [(o,.int .i64 y.kind),(o+1,.int .i64 y.reg),(o+2,.int .i64 y.n),(o+3,.int .i64 x.kind),(o+3+1,.int .i64 x.reg),(o+3+2,.int .i64 x.n)]
theorem CK (b o c:Nat) (x y:Opd) (w:World) (c0:w.cell? ⟨b,o,none⟩=some (.int .i64 x.kind)) (c1:w.cell? ⟨b,o+1,none⟩=some (.int .i64 x.reg)) (c2:w.cell? ⟨b,o+2,none⟩=some (.int .i64 x.n))
  (d0:w.cell? ⟨b,o+3,none⟩=some (.int .i64 y.kind)) (d1:w.cell? ⟨b,o+3+1,none⟩=some (.int .i64 y.reg)) (d2:w.cell? ⟨b,o+3+2,none⟩=some (.int .i64 y.n)) (hf:∀j,w.frozen? ⟨b,j,none⟩=false):
  Calls Tryz.prog 106 #[.slice (some ⟨b,o,none⟩) 2 c] w fun e w'=>e=.returned (.tuple #[])∧(tY w b (iJ o x y)).drew=w':=by
 go_enter Tryz.func106,Tryz.ntmps106
 go_wp2
 refine wp_loop_rounds 2 ?_
 rw [rounds_succ]
 go_wp2
 go_region
 all_goals go_wp2
 all_goals rw [rounds_succ]
 all_goals go_wp2
 all_goals go_end0
 all_goals exact ⟨rfl,rfl⟩
theorem TK {w:World} {q:aB} {b o c:Nat} {x y:Opd} (h:aD w q (.slice (some ⟨b,o,none⟩) 2 c) [x,y]):aD (tY w b (iJ o x y)) q (.slice (some ⟨b,o,none⟩) 2 c) [y,x]:=by
 obtain ⟨a',c',e,h1,h2,h3⟩:=h
 injection e with e1 e2 e3
 subst e1 e3
 obtain ⟨b',o',eb,hq,hb,c0,c1,c2,f⟩:=h3 0 x rfl
 injection eb with eb
 injection eb with eb1 eb2
 subst eb1 eb2
 obtain ⟨b',o',eb,_,_,d0,d1,d2,_⟩:=h3 1 y rfl
 injection eb with eb
 injection eb with eb1 eb2
 subst eb1 eb2
 simp only [Nat.zero_mul,Nat.add_zero,Nat.one_mul] at c0 c1 c2 d0 d1 d2
 have hfr:∀j,(tY w b (iJ o x y)).frozen? ⟨b,j,none⟩=false:=fun j=>(rX _ _ _).trans (f j)
 have e0:=(hX (iJ o x y) c0).trans (congrArg some (show _=Value.int .i64 y.kind by simp only [iJ,AV];repeat first | rw [if_pos rfl] | rw [if_pos trivial] | rw [if_neg (by omega)]))
 have e1:=(hX (iJ o x y) c1).trans (congrArg some (show _=Value.int .i64 y.reg by simp only [iJ,AV];repeat first | rw [if_pos rfl] | rw [if_pos trivial] | rw [if_neg (by omega)]))
 have e2:=(hX (iJ o x y) c2).trans (congrArg some (show _=Value.int .i64 y.n by simp only [iJ,AV];repeat first | rw [if_pos rfl] | rw [if_pos trivial] | rw [if_neg (by omega)]))
 have g0:=(hX (iJ o x y) d0).trans (congrArg some (show _=Value.int .i64 x.kind by simp only [iJ,AV];repeat first | rw [if_pos rfl] | rw [if_pos trivial] | rw [if_neg (by omega)]))
 have g1:=(hX (iJ o x y) d1).trans (congrArg some (show _=Value.int .i64 x.reg by simp only [iJ,AV];repeat first | rw [if_pos rfl] | rw [if_pos trivial] | rw [if_neg (by omega)]))
 have g2:=(hX (iJ o x y) d2).trans (congrArg some (show _=Value.int .i64 x.n by simp only [iJ,AV];repeat first | rw [if_pos rfl] | rw [if_pos trivial] | rw [if_neg (by omega)]))
 have hsz:b < (tY w b (iJ o x y)).heap.size:=by rw [wZ];exact hb
 refine ⟨_,c,rfl,h1,h2,fun i z hz=>?_⟩
 match i,hz with
 | 0,hz=>
  simp at hz
  subst hz
  refine ⟨b,o,rfl,hq,hsz,?_,?_,?_,hfr⟩
  ·rw [Nat.zero_mul,Nat.add_zero];exact e0
  ·rw [Nat.zero_mul,Nat.add_zero];exact e1
  ·rw [Nat.zero_mul,Nat.add_zero];exact e2
 | 1,hz=>
  simp at hz
  subst hz
  refine ⟨b,o,rfl,hq,hsz,?_,?_,?_,hfr⟩
  ·rw [Nat.one_mul];exact g0
  ·rw [Nat.one_mul];exact g1
  ·rw [Nat.one_mul];exact g2
 | i+2,hz=>simp at hz
end Go.Proofs.YtcgheipmnphbjaaGreatDoor
namespace Go.Proofs.YtcgheipmnphbjaaGreatDoor
set_option maxHeartbeats 4000000
open Go.RowKit Go.Sort
theorem Wr.swap {w0 w:World} {bw b o c:Nat} {s:ByteArray} {x y:Opd} (h:Wr w0 w bw s (.slice (some ⟨b,o,none⟩) 2 c) [x,y]) (hq:w0.heap.size≤b∧b≠bw):Wr w0 (tY w b (iJ o x y)) bw s (.slice (some ⟨b,o,none⟩) 2 c) [y,x]:=
 ⟨(vY (Ne.symm hq.2) _ _).trans h.blk,TK h.own,h.old,tW hq.1 _ h.below,h.spc0⟩
def mW:Opd:=⟨3,2,0⟩
def mT:Opd:=⟨3,1,0⟩
def gI (s:ByteArray) (l:List Opd):List Opd:=if (s.toList==[69,88])&&decide (l=[mW,mT]) then [mT,mW] else l
theorem TO (w0 w:World) (bw:Nat) (s:ByteArray) (v:Value) (l:List Opd) (h:Wr w0 w bw s v l):
  Calls Tryz.prog 67 #[.pointer (some ⟨bw,0,none⟩)] w fun e w'=>e=.returned (.tuple #[])∧∃v',Wr w0 w' bw s v' (gI s l):=by
 obtain ⟨a,c,rfl,hc,hm,g⟩:=h.own
 have HB:Below w.heap.size w ((w.alloc (.cells #[.int .i64 3,.int .i64 2,.int .i64 0] 49)).alloc (.cells #[.int .i64 3,.int .i64 1,.int .i64 0] 49)):=((Below.refl _ _).alloc (Nat.le_refl _) _).alloc (by simp) _
 have H1:=aA (h.later HB)
 obtain ⟨e0,e1,f0,f1⟩:=H1.out.blk.two
 have hbw:=h.blk.lt
 cases h1:(s.toList==[69,88])
 ·have HV:=aA (show gI s l=l by simp [gI,h1])
  clear g hc hm
  go_enter Tryz.func67,Tryz.ntmps67
  go_wp2
  go_quiet (fail)
  go_wp2
  go_end0
  exact ⟨rfl,_,by rw [HV.out];exact H1.out.drewN nq⟩
 ·clear g hc hm
  obtain ⟨W,hW⟩:∃W:World,W=((w.alloc (.cells #[.int .i64 3,.int .i64 2,.int .i64 0] 49)).alloc (.cells #[.int .i64 3,.int .i64 1,.int .i64 0] 49)):=⟨_,rfl⟩
  have k1:Blk W w.heap.size 49 #[.int .i64 3,.int .i64 2,.int .i64 0]:=hW ▸ (Blk.new w _ _).alloc _
  have k2:Blk W (w.heap.size+1) 49 #[.int .i64 3,.int .i64 1,.int .i64 0]:=by rw [hW];exact (by simpa using Blk.new (w.alloc (.cells #[.int .i64 3,.int .i64 2,.int .i64 0] 49)) 49 #[.int .i64 3,.int .i64 1,.int .i64 0])
  obtain ⟨a0,a1,a2,_⟩:=k1.three
  obtain ⟨b0,b1,b2,_⟩:=k2.three
  rw [←hW] at H1 e0 e1 f0 f1
  have hbW:bw < W.heap.size:=H1.out.blk.lt
  have HSA:Hid (SlR aM ((W.alloc (.cells #[.int .i64 3,.int .i64 2,.int .i64 0,.int .i64 3,.int .i64 1,.int .i64 0] 49)).drew) (fun _=>True) (.slice a l.length c) l):=((H1.out.own.slR.alloc _).drew).mono (fun _ _=>trivial)
  have HSB:Hid (SlR aM ((W.alloc (.cells #[.int .i64 3,.int .i64 2,.int .i64 0,.int .i64 3,.int .i64 1,.int .i64 0] 49)).drew) (fun _=>True) (.slice (some ⟨W.heap.size,0,none⟩) 2 2) [mW,mT]):=
   (gZ (q:=fun _=>True) [mW,mT] #[.int .i64 3,.int .i64 2,.int .i64 0,.int .i64 3,.int .i64 1,.int .i64 0] 49 W.heap.size 2 rfl rfl (by simp [mW,mT,Opd.cells]) trivial (by simp)).slR.drew
  have hw2:(∃wx:World,wx=W):=⟨W,rfl⟩
  have hcall:=pO _ _ _ _ _ _ _ HSA.out HSB.out
  cases h2:decide (l=[mW,mT])
  all_goals
   simp only [h2] at hcall
   have HCALL:=aA hcall
   clear hcall hw2
   have HW:=aA hW
   go_enter Tryz.func67,Tryz.ntmps67
   go_wp2
   rw [←hW]
   have hs1:w.heap.size < W.heap.size:=k1.lt
   have hs2:w.heap.size+1 < W.heap.size:=k2.lt
   have H2:=aA h2
   clear hW k1 k2 HB h2
   go_region_held3 (fun w'=>w'.cell? ⟨bw,0,none⟩=some (.string s)∧w'.cell? ⟨bw,1,none⟩=some (.slice a l.length c)∧w'.cell? ⟨w.heap.size,0,none⟩=some (.int .i64 3)∧w'.cell? ⟨w.heap.size,1,none⟩=some (.int .i64 2)∧w'.cell? ⟨w.heap.size,2,none⟩=some (.int .i64 0)∧w'.cell? ⟨w.heap.size+1,0,none⟩=some (.int .i64 3)∧w'.cell? ⟨w.heap.size+1,1,none⟩=some (.int .i64 1)∧w'.cell? ⟨w.heap.size+1,2,none⟩=some (.int .i64 0)) (go_keep)
    (first | (go_at_call 105;refine HCALL.out.mono ?_;rintro e w' ⟨rfl,nq,rfl⟩))
  ·go_wp2
   go_end0
   have HV:gI s l=l:=by simp [gI,of_decide_eq_false H2.out]
   exact ⟨rfl,_,by rw [HV];exact (H1.out.alloc _).drewN _⟩
  ·go_wp2_with fail
   have HX:=aA ((H1.out.alloc (.cells #[.int .i64 3,.int .i64 2,.int .i64 0,.int .i64 3,.int .i64 1,.int .i64 0] 49)).drewN (1+nq))
   clear HCALL HSA HSB
   generalize (W.alloc (.cells #[.int .i64 3,.int .i64 2,.int .i64 0,.int .i64 3,.int .i64 1,.int .i64 0] 49)).drewN (1+nq)=W3 at *
   have HV:Hid (gI s l=[mT,mW]):=by have:=of_decide_eq_true H2.out;exact aA (by rw [this];simp [gI,h1])
   obtain rfl:l=[mW,mT]:=of_decide_eq_true H2.out
   obtain ⟨a',c',e',_,_,g⟩:=HX.out.own
   injection e' with e1' _ e3'
   subst e1' e3'
   obtain ⟨b,o,rfl,hq,_,c0,c1,c2,fr⟩:=g 0 mW rfl
   obtain ⟨b',o',eb,_,_,d0,d1,d2,_⟩:=g 1 mT rfl
   injection eb with eb
   injection eb with eb1 eb2
   subst eb1 eb2
   rw [Nat.zero_mul,Nat.add_zero] at c0 c1 c2
   rw [Nat.one_mul] at d0 d1 d2
   refine (CK b o c mW mT W3 c0 c1 c2 d0 d1 d2 fr).mono ?_
   rintro e w' ⟨rfl,rfl⟩
   clear c0 c1 c2 d0 d1 d2 fr g
   go_wp2
   go_end0
   refine ⟨rfl,.slice (some ⟨b,o,none⟩) 2 c,?_⟩
   rw [HV.out]
   exact (HX.out.swap hq).drew
end Go.Proofs.YtcgheipmnphbjaaGreatDoor
namespace Go.Proofs.YtcgheipmnphbjaaGreatDoor
set_option maxHeartbeats 4000000
open Go.RowKit
def wJp:List ByteArray:=[⟨#[74,80]⟩,⟨#[67,65,76,76]⟩]
theorem zA:fL ⟨#[66,73,84,32,82,69,83,32,83,69,84,32,73,77,32,82,83,84,32,79,85,84]⟩=iP:=by decide+kernel
theorem DQ:fL ⟨#[74,80,32,67,65,76,76]⟩=wJp:=by decide+kernel
theorem BQ:∀(j:Nat) b,(⟨#[66,73,84,32,82,69,83,32,83,69,84,32,73,77,32,82,83,84,32,79,85,84]⟩:ByteArray).data.toList[j]?=some b→b.toNat < 128:=fun _ b h=>
 (by decide+kernel:∀x∈(⟨#[66,73,84,32,82,69,83,32,83,69,84,32,73,77,32,82,83,84,32,79,85,84]⟩:ByteArray).data.toList,x.toNat < 128) b (List.mem_of_getElem? h)
theorem MS:∀(j:Nat) b,(⟨#[74,80,32,67,65,76,76]⟩:ByteArray).data.toList[j]?=some b→b.toNat < 128:=fun _ b h=>
 (by decide+kernel:∀x∈(⟨#[74,80,32,67,65,76,76]⟩:ByteArray).data.toList,x.toNat < 128) b (List.mem_of_getElem? h)
theorem zX (s:ByteArray) (w:World) (hT:Spc w):Calls Tryz.prog 104 #[.string ⟨#[66,73,84,32,82,69,83,32,83,69,84,32,73,77,32,82,83,84,32,79,85,84]⟩,.string s] w fun e w'=>e=.returned (.bool (inL iP s))∧Below w.heap.size w w':=
 oY _ iP s w zA (by decide) (by decide) BQ hT
theorem DL (s:ByteArray) (w:World) (hT:Spc w):Calls Tryz.prog 104 #[.string ⟨#[74,80,32,67,65,76,76]⟩,.string s] w fun e w'=>e=.returned (.bool (inL wJp s))∧Below w.heap.size w w':=
 oY _ wJp s w DQ (by decide) (by decide) MS hT
theorem inL_jp (s:ByteArray):inL wJp s=((s.toList==[74,80]) || (s.toList==[67,65,76,76])):=by
 have e1:(⟨#[74,80]⟩:ByteArray).toList=[74,80]:=dK _
 have e2:(⟨#[67,65,76,76]⟩:ByteArray).toList=[67,65,76,76]:=dK _
 simp only [inL,wJp,List.any_cons,List.any_nil,Bool.or_false,e1,e2]
 rw [Bool.beq_comm,Bool.beq_comm (a:=[67,65,76,76])]
theorem NR (p:aB) (x:Ins) (v:Value) (w:World) (h:SlR aM w p v x.args) (hT:Spc w):
  Calls Tryz.prog 107 #[.agg #[.string x.op,v]] w fun e w'=>e=.returned (.int .i64 (bW x))∧Below w.heap.size w w':=by
 obtain ⟨s,l⟩:=x
 dsimp only at h
 obtain ⟨a,c,rfl,hc,hm,g⟩:=h.opd
 clear h
 have HSP:=aA hT
 clear hT
 have HB0:Hid (Below w.heap.size w (w.alloc (.cells #[.string s,.slice a l.length c] 24))):=(Below.refl _ _).alloc (Nat.le_refl _) _
 have HK0:Hid (Blk (w.alloc (.cells #[.string s,.slice a l.length c] 24)) w.heap.size 24 #[.string s,.slice a l.length c]):=Blk.new w _ _
 have hzw:=fun wx hT=>zX s wx hT
 have hjw:=fun wx hT=>DL s wx hT
 cases hz:inL iP s
 all_goals
  simp only [hz] at hzw
  have HZ:=aA hzw
  clear hzw
 ·cases hj:inL wJp s
  all_goals
   simp only [hj] at hjw
   have HJ:=aA hjw
   have hjp:=inL_jp s
   rw [hj] at hjp
   clear hjw
  ·obtain ⟨h1,h2⟩:=Bool.or_eq_false_iff.1 hjp.symm
   clear hjp
   cases h3:(s.toList==[76,68])
   ·clear g
    have HV:=aA (show bW ⟨s,l⟩=1 by simp [bW,hz,h1,h2,h3])
    go_enter Tryz.func107,Tryz.ntmps107
    go_wp2_with fail
    refine (HZ.out _ (HSP.out.below HB0.out)).mono ?_
    rintro e w1 ⟨rfl,hb1⟩
    have HB1:=aA hb1
    have HK1:=aA (HK0.out.below hb1 HK0.out.lt)
    obtain ⟨e0,e1,_,_⟩:=HK1.out.two
    clear hb1
    go_wp2_with fail
    refine (HJ.out _ ((HSP.out.below HB0.out).below HB1.out)).mono ?_
    rintro e w2 ⟨rfl,hb2⟩
    have HB2:=aA hb2
    have HK2:=aA (HK1.out.below hb2 HK1.out.lt)
    clear e0 e1 hb2
    obtain ⟨e0,e1,_,_⟩:=HK2.out.two
    go_wp2
    go_ret
    exact ⟨bK HV.out.symm,(HB0.out.trans (HB1.out.mono HB0.out.size)).trans (HB2.out.mono (Nat.le_trans HB0.out.size HB1.out.size))⟩
   ·cases l with
    | nil=>
     clear g
     have HV:=aA (show bW ⟨s,[]⟩=1 by simp [bW,hz,h1,h2,h3,uA])
     go_enter Tryz.func107,Tryz.ntmps107
     go_wp2_with fail
     refine (HZ.out _ (HSP.out.below HB0.out)).mono ?_
     rintro e w1 ⟨rfl,hb1⟩
     have HB1:=aA hb1
     have HK1:=aA (HK0.out.below hb1 HK0.out.lt)
     obtain ⟨e0,e1,_,_⟩:=HK1.out.two
     clear hb1
     go_wp2_with fail
     refine (HJ.out _ ((HSP.out.below HB0.out).below HB1.out)).mono ?_
     rintro e w2 ⟨rfl,hb2⟩
     have HB2:=aA hb2
     have HK2:=aA (HK1.out.below hb2 HK1.out.lt)
     clear e0 e1 hb2
     obtain ⟨e0,e1,_,_⟩:=HK2.out.two
     go_wp2
     go_ret
     exact ⟨bK HV.out.symm,(HB0.out.trans (HB1.out.mono HB0.out.size)).trans (HB2.out.mono (Nat.le_trans HB0.out.size HB1.out.size))⟩
    | cons x l=>
     obtain ⟨b,o,rfl,_,d1,d2,d3⟩:=g 0 x rfl
     clear g
     simp only [Nat.zero_mul,Nat.add_zero] at d1
     clear d2 d3
     have hbl:b < w.heap.size:=World.block_lt_of_cell? w _ d1
     have hk0:(0:Int) < ((x::l).length:Int):=by simp
     have hk1:0 < (x::l).length:=by simp
     cases h4:(x.kind==3)
     ·have HV:=aA (show bW ⟨s,x::l⟩=1 by simp [bW,hz,h1,h2,h3,uA,h4])
      generalize (x::l).length=n at *
      go_enter Tryz.func107,Tryz.ntmps107
      go_wp2_with fail
      refine (HZ.out _ (HSP.out.below HB0.out)).mono ?_
      rintro e w1 ⟨rfl,hb1⟩
      have HB1:=aA hb1
      have HK1:=aA (HK0.out.below hb1 HK0.out.lt)
      obtain ⟨e0,e1,_,_⟩:=HK1.out.two
      clear hb1
      go_wp2_with fail
      refine (HJ.out _ ((HSP.out.below HB0.out).below HB1.out)).mono ?_
      rintro e w2 ⟨rfl,hb2⟩
      have HB2:=aA hb2
      have HK2:=aA (HK1.out.below hb2 HK1.out.lt)
      clear e0 e1 hb2
      obtain ⟨e0,e1,_,_⟩:=HK2.out.two
      have d1':=(HB2.out.cell (p:=⟨b,o,none⟩) (Nat.lt_of_lt_of_le (Nat.lt_of_lt_of_le hbl HB0.out.size) HB1.out.size)).trans ((HB1.out.cell (p:=⟨b,o,none⟩) (Nat.lt_of_lt_of_le hbl HB0.out.size)).trans ((HB0.out.cell (p:=⟨b,o,none⟩) hbl).trans d1))
      go_wp2
      go_ret
      exact ⟨bK HV.out.symm,(HB0.out.trans (HB1.out.mono HB0.out.size)).trans (HB2.out.mono (Nat.le_trans HB0.out.size HB1.out.size))⟩
     ·have HV:=aA (show bW ⟨s,x::l⟩=2 by simp [bW,hz,h1,h2,h3,uA,h4])
      generalize (x::l).length=n at *
      go_enter Tryz.func107,Tryz.ntmps107
      go_wp2_with fail
      refine (HZ.out _ (HSP.out.below HB0.out)).mono ?_
      rintro e w1 ⟨rfl,hb1⟩
      have HB1:=aA hb1
      have HK1:=aA (HK0.out.below hb1 HK0.out.lt)
      obtain ⟨e0,e1,_,_⟩:=HK1.out.two
      clear hb1
      go_wp2_with fail
      refine (HJ.out _ ((HSP.out.below HB0.out).below HB1.out)).mono ?_
      rintro e w2 ⟨rfl,hb2⟩
      have HB2:=aA hb2
      have HK2:=aA (HK1.out.below hb2 HK1.out.lt)
      clear e0 e1 hb2
      obtain ⟨e0,e1,_,_⟩:=HK2.out.two
      have d1':=(HB2.out.cell (p:=⟨b,o,none⟩) (Nat.lt_of_lt_of_le (Nat.lt_of_lt_of_le hbl HB0.out.size) HB1.out.size)).trans ((HB1.out.cell (p:=⟨b,o,none⟩) (Nat.lt_of_lt_of_le hbl HB0.out.size)).trans ((HB0.out.cell (p:=⟨b,o,none⟩) hbl).trans d1))
      go_wp2
      go_ret
      exact ⟨bK HV.out.symm,(HB0.out.trans (HB1.out.mono HB0.out.size)).trans (HB2.out.mono (Nat.le_trans HB0.out.size HB1.out.size))⟩
  ·clear g
   have HV:=aA (show bW ⟨s,l⟩=2 by
    have e:((s.toList==[74,80]) || (s.toList==[67,65,76,76]))=true:=hjp.symm
    simp only [bW,hz,e,Bool.true_or,if_true];rfl)
   clear hjp
   go_enter Tryz.func107,Tryz.ntmps107
   go_wp2_with fail
   refine (HZ.out _ (HSP.out.below HB0.out)).mono ?_
   rintro e w1 ⟨rfl,hb1⟩
   have HB1:=aA hb1
   have HK1:=aA (HK0.out.below hb1 HK0.out.lt)
   obtain ⟨e0,e1,_,_⟩:=HK1.out.two
   clear hb1
   go_wp2_with fail
   refine (HJ.out _ ((HSP.out.below HB0.out).below HB1.out)).mono ?_
   rintro e w2 ⟨rfl,hb2⟩
   have HB2:=aA hb2
   have HK2:=aA (HK1.out.below hb2 HK1.out.lt)
   clear e0 e1 hb2
   obtain ⟨e0,e1,_,_⟩:=HK2.out.two
   go_wp2
   go_ret
   exact ⟨bK HV.out.symm,(HB0.out.trans (HB1.out.mono HB0.out.size)).trans (HB2.out.mono (Nat.le_trans HB0.out.size HB1.out.size))⟩
 ·clear g hjw
  have HV:=aA (show bW ⟨s,l⟩=0 by simp [bW,hz])
  go_enter Tryz.func107,Tryz.ntmps107
  go_wp2_with fail
  refine (HZ.out _ (HSP.out.below HB0.out)).mono ?_
  rintro e w1 ⟨rfl,hb1⟩
  have HB1:=aA hb1
  have HK1:=aA (HK0.out.below hb1 HK0.out.lt)
  obtain ⟨e0,e1,_,_⟩:=HK1.out.two
  clear hb1
  go_wp2
  go_ret
  exact ⟨bK HV.out.symm,HB0.out.trans (HB1.out.mono HB0.out.size)⟩
def fE (sz:Int) (o:Opd):Opd:=if o.kind=6∧o.n < 0∧-(sz / 2)≤o.n∧1 < sz then {o with n:=o.n+sz} else o
def iT (w:Int):Int:=if w=2 then 65536 else if w=1 then 256 else 1
theorem rU (x:Ins):bW x=0∨bW x=1∨bW x=2:=by
 unfold bW
 split
 ·exact .inl rfl
 ·split
  ·exact .inr (.inr rfl)
  ·exact .inr (.inl rfl)
def iN (sz:Int) (l:List Opd) (k:Nat):List Opd:=(l.take k).map (fE sz)++l.drop k
theorem jA (sz:Int) (l:List Opd):iN sz l 0=l:=by simp [iN]
theorem kH (sz:Int) (l:List Opd) (k:Nat) (h:l.length≤k):iN sz l k=l.map (fE sz):=by simp [iN,List.take_of_length_le h,List.drop_of_length_le h]
theorem SE (sz:Int) (l:List Opd) (k:Nat):(iN sz l k).length=l.length:=by simp [iN];omega
theorem lD (sz:Int) (l:List Opd) (k:Nat) (h:k < l.length):(iN sz l k)[k]?=some l[k]:=by
 unfold iN
 rw [List.getElem?_append_right (by simp;omega)]
 simp [Nat.min_eq_left (Nat.le_of_lt h)]
theorem gY (sz:Int) (l:List Opd) (k:Nat) (h:k < l.length):iN sz l (k+1)=(iN sz l k).set k (fE sz l[k]):=by
 unfold iN
 rw [List.set_append_right _ _ (by simp;omega),List.take_succ_eq_append_getElem h]
 simp only [List.length_map,List.length_take,Nat.min_eq_left (Nat.le_of_lt h),Nat.sub_self,List.map_append,List.map_cons,List.map_nil,List.append_assoc]
 rw [List.drop_eq_getElem_cons h]
 rfl
theorem iZ (sz:Int) (l:List Opd) (k:Nat) (h:k < l.length) (hn:fE sz l[k]=l[k]):iN sz l (k+1)=iN sz l k:=by
 rw [gY sz l k h,hn]
 refine List.ext_getElem? fun i=>?_
 by_cases hi:k=i
 ·subst hi
  rw [lD sz l k h,List.getElem?_set_self (by rw [SE];exact h)]
 ·rw [List.getElem?_set_ne hi]
theorem AX (w0 w:World) (bw:Nat) (s:ByteArray) (v:Value) (l:List Opd) (h:Wr w0 w bw s v l) (hn:∀x∈l,-9223372036854775808≤x.n∧x.n≤9223372036854775807):
  Calls Tryz.prog 68 #[.pointer (some ⟨bw,0,none⟩)] w fun e w'=>e=.returned (.tuple #[])∧Wr w0 w' bw s v (l.map (fE (iT (bW ⟨s,l⟩)))):=by
 obtain ⟨a,c,rfl,hc,hm,g⟩:=h.own
 have H:=aA h
 have HN:=aA hn
 have hwd:=fun wx h1 h2=>NR (fun _=>True) ⟨s,l⟩ (.slice a l.length c) wx h1 h2
 obtain ⟨e0,e1,_,_⟩:=h.blk.two
 have HLEN:Hid (l.length≤9223372036854775807):=aA (by omega)
 clear h hn g hc hm
 rcases rU ⟨s,l⟩ with hw | hw | hw
 ·rw [hw]
  dsimp only at hwd
  rw [hw] at hwd
  have HWD:=aA hwd
  clear hwd
  go_enter Tryz.func68,Tryz.ntmps68
  go_wp2_with fail
  refine (HWD.out _ (H.out.own.slR.mono (fun _ _=>trivial)) H.out.spc).mono ?_
  rintro e w1 ⟨rfl,hb1⟩
  have H1:=aA (H.out.later hb1)
  clear e0 e1 hb1
  obtain ⟨e0,e1,_,_⟩:=H1.out.blk.two
  go_wp2
  go_loopw [3,4,18] (fun _ _ i wr=>∃k:Nat,k≤l.length∧i=.int .i64 k∧Wr w0 wr bw s (.slice a l.length c) (iN 1 l k)) (fun _ _ i _=>l.length - (intOf i).toNat)
  case atStart=>exact ⟨0,Nat.zero_le _,rfl,by rw [jA];exact H1.out⟩
  case round=>
   clear e0 e1
   obtain ⟨k,hk,rfl,hwr⟩:=hrel
   have HR:=aA hwr
   clear hwr
   have hbig:=HLEN.out
   by_cases hlt:k < l.length
   ·have hat:=lD 1 l k hlt
    obtain ⟨a',c',e',_,_,g⟩:=HR.out.own
    injection e' with e1' _ e3'
    subst e1' e3'
    obtain ⟨b,o,rfl,hq,hb,c0,c1,c2,fr⟩:=g k _ hat
    have hx:=HN.out l[k] (List.getElem_mem hlt)
    have HST:Hid (∀m:Int,Wr w0 _ bw s _ _):=fun m=>(HR.out.setN (m:=m) hat hq).alloc (.cells #[.int .i64 l[k].kind,.int .i64 l[k].reg,.int .i64 l[k].n] 49)
    have HSU:=aA (gY 1 l k hlt)
    have HSA:=aA (iZ 1 l k hlt)
    have hne:bw < wr.heap.size:=HR.out.blk.lt
    obtain ⟨e0,e1,_,_⟩:=HR.out.blk.two
    have hq2:=hq.2
    clear g hat hq
    generalize l[k]=x at *
    obtain ⟨hx1,hx2⟩:=hx
    have f2:=fr (o+k * 3+2)
    clear fr
    have NO:Hid (¬(x.kind=6∧x.n < 0∧-(1 / 2)≤x.n∧(1:Int) < 1)→fE 1 x=x):=fun h=>by unfold fE;rw [if_neg h]
    have YES:Hid ((x.kind=6∧x.n < 0∧-(1 / 2)≤x.n∧(1:Int) < 1)→fE 1 x={x with n:=x.n+1}):=fun h=>by unfold fE;rw [if_pos h]
    cases h6:(x.kind==6)
    ·go_wp2
     go_roundw
     case rel=>exact ⟨k+1,by omega,by go_num,by rw [HSA.out (NO.out (fun h=>by rw [h.1] at h6;cases h6))];exact HR.out.alloc _⟩
     case measure=>simp [intOf];omega
    ·by_cases h0:x.n < 0
     ·by_cases h1:0≤x.n
      ·exact absurd h1 (by omega)
      ·go_wp2
       go_roundw
       case rel=>exact ⟨k+1,by omega,by go_num,by rw [HSA.out (NO.out (fun h=>h1 (by have:=h.2.2.1;omega)))];exact HR.out.alloc _⟩
       case measure=>simp [intOf];omega
     ·go_wp2
      go_roundw
      case rel=>exact ⟨k+1,by omega,by go_num,by rw [HSA.out (NO.out (fun h=>h0 h.2.1))];exact HR.out.alloc _⟩
      case measure=>simp [intOf];omega
   ·go_wp2
    go_end0
    refine ⟨rfl,?_⟩
    have:iN 1 l k=l.map (fE (iT 0)):=kH 1 l k (by omega)
    rw [←this]
    exact HR.out
 ·rw [hw]
  dsimp only at hwd
  rw [hw] at hwd
  have HWD:=aA hwd
  clear hwd
  go_enter Tryz.func68,Tryz.ntmps68
  go_wp2_with fail
  refine (HWD.out _ (H.out.own.slR.mono (fun _ _=>trivial)) H.out.spc).mono ?_
  rintro e w1 ⟨rfl,hb1⟩
  have H1:=aA (H.out.later hb1)
  clear e0 e1 hb1
  obtain ⟨e0,e1,_,_⟩:=H1.out.blk.two
  go_wp2
  go_loopw [3,4,18] (fun _ _ i wr=>∃k:Nat,k≤l.length∧i=.int .i64 k∧Wr w0 wr bw s (.slice a l.length c) (iN 256 l k)) (fun _ _ i _=>l.length - (intOf i).toNat)
  case atStart=>exact ⟨0,Nat.zero_le _,rfl,by rw [jA];exact H1.out⟩
  case round=>
   clear e0 e1
   obtain ⟨k,hk,rfl,hwr⟩:=hrel
   have HR:=aA hwr
   clear hwr
   have hbig:=HLEN.out
   by_cases hlt:k < l.length
   ·have hat:=lD 256 l k hlt
    obtain ⟨a',c',e',_,_,g⟩:=HR.out.own
    injection e' with e1' _ e3'
    subst e1' e3'
    obtain ⟨b,o,rfl,hq,hb,c0,c1,c2,fr⟩:=g k _ hat
    have hx:=HN.out l[k] (List.getElem_mem hlt)
    have HST:Hid (∀m:Int,Wr w0 _ bw s _ _):=fun m=>(HR.out.setN (m:=m) hat hq).alloc (.cells #[.int .i64 l[k].kind,.int .i64 l[k].reg,.int .i64 l[k].n] 49)
    have HSU:=aA (gY 256 l k hlt)
    have HSA:=aA (iZ 256 l k hlt)
    have hne:bw < wr.heap.size:=HR.out.blk.lt
    obtain ⟨e0,e1,_,_⟩:=HR.out.blk.two
    have hq2:=hq.2
    clear g hat hq
    generalize l[k]=x at *
    obtain ⟨hx1,hx2⟩:=hx
    have f2:=fr (o+k * 3+2)
    clear fr
    have NO:Hid (¬(x.kind=6∧x.n < 0∧-(256 / 2)≤x.n∧(1:Int) < 256)→fE 256 x=x):=fun h=>by unfold fE;rw [if_neg h]
    have YES:Hid ((x.kind=6∧x.n < 0∧-(256 / 2)≤x.n∧(1:Int) < 256)→fE 256 x={x with n:=x.n+256}):=fun h=>by unfold fE;rw [if_pos h]
    cases h6:(x.kind==6)
    ·go_wp2
     go_roundw
     case rel=>exact ⟨k+1,by omega,by go_num,by rw [HSA.out (NO.out (fun h=>by rw [h.1] at h6;cases h6))];exact HR.out.alloc _⟩
     case measure=>simp [intOf];omega
    ·by_cases h0:x.n < 0
     ·by_cases h1:-128≤x.n
      ·go_wp2
       go_roundw
       case rel=>exact ⟨k+1,by omega,by go_num,by rw [HSU.out,YES.out ⟨by simpa using h6,h0,by omega,by omega⟩];exact HST.out _⟩
       case measure=>simp [intOf];omega
      ·go_wp2
       go_roundw
       case rel=>exact ⟨k+1,by omega,by go_num,by rw [HSA.out (NO.out (fun h=>h1 (by have:=h.2.2.1;omega)))];exact HR.out.alloc _⟩
       case measure=>simp [intOf];omega
     ·go_wp2
      go_roundw
      case rel=>exact ⟨k+1,by omega,by go_num,by rw [HSA.out (NO.out (fun h=>h0 h.2.1))];exact HR.out.alloc _⟩
      case measure=>simp [intOf];omega
   ·go_wp2
    go_end0
    refine ⟨rfl,?_⟩
    have:iN 256 l k=l.map (fE (iT 1)):=kH 256 l k (by omega)
    rw [←this]
    exact HR.out
 ·rw [hw]
  dsimp only at hwd
  rw [hw] at hwd
  have HWD:=aA hwd
  clear hwd
  go_enter Tryz.func68,Tryz.ntmps68
  go_wp2_with fail
  refine (HWD.out _ (H.out.own.slR.mono (fun _ _=>trivial)) H.out.spc).mono ?_
  rintro e w1 ⟨rfl,hb1⟩
  have H1:=aA (H.out.later hb1)
  clear e0 e1 hb1
  obtain ⟨e0,e1,_,_⟩:=H1.out.blk.two
  go_wp2
  go_loopw [3,4,18] (fun _ _ i wr=>∃k:Nat,k≤l.length∧i=.int .i64 k∧Wr w0 wr bw s (.slice a l.length c) (iN 65536 l k)) (fun _ _ i _=>l.length - (intOf i).toNat)
  case atStart=>exact ⟨0,Nat.zero_le _,rfl,by rw [jA];exact H1.out⟩
  case round=>
   clear e0 e1
   obtain ⟨k,hk,rfl,hwr⟩:=hrel
   have HR:=aA hwr
   clear hwr
   have hbig:=HLEN.out
   by_cases hlt:k < l.length
   ·have hat:=lD 65536 l k hlt
    obtain ⟨a',c',e',_,_,g⟩:=HR.out.own
    injection e' with e1' _ e3'
    subst e1' e3'
    obtain ⟨b,o,rfl,hq,hb,c0,c1,c2,fr⟩:=g k _ hat
    have hx:=HN.out l[k] (List.getElem_mem hlt)
    have HST:Hid (∀m:Int,Wr w0 _ bw s _ _):=fun m=>(HR.out.setN (m:=m) hat hq).alloc (.cells #[.int .i64 l[k].kind,.int .i64 l[k].reg,.int .i64 l[k].n] 49)
    have HSU:=aA (gY 65536 l k hlt)
    have HSA:=aA (iZ 65536 l k hlt)
    have hne:bw < wr.heap.size:=HR.out.blk.lt
    obtain ⟨e0,e1,_,_⟩:=HR.out.blk.two
    have hq2:=hq.2
    clear g hat hq
    generalize l[k]=x at *
    obtain ⟨hx1,hx2⟩:=hx
    have f2:=fr (o+k * 3+2)
    clear fr
    have NO:Hid (¬(x.kind=6∧x.n < 0∧-(65536 / 2)≤x.n∧(1:Int) < 65536)→fE 65536 x=x):=fun h=>by unfold fE;rw [if_neg h]
    have YES:Hid ((x.kind=6∧x.n < 0∧-(65536 / 2)≤x.n∧(1:Int) < 65536)→fE 65536 x={x with n:=x.n+65536}):=fun h=>by unfold fE;rw [if_pos h]
    cases h6:(x.kind==6)
    ·go_wp2
     go_roundw
     case rel=>exact ⟨k+1,by omega,by go_num,by rw [HSA.out (NO.out (fun h=>by rw [h.1] at h6;cases h6))];exact HR.out.alloc _⟩
     case measure=>simp [intOf];omega
    ·by_cases h0:x.n < 0
     ·by_cases h1:-32768≤x.n
      ·go_wp2
       go_roundw
       case rel=>exact ⟨k+1,by omega,by go_num,by rw [HSU.out,YES.out ⟨by simpa using h6,h0,by omega,by omega⟩];exact HST.out _⟩
       case measure=>simp [intOf];omega
      ·go_wp2
       go_roundw
       case rel=>exact ⟨k+1,by omega,by go_num,by rw [HSA.out (NO.out (fun h=>h1 (by have:=h.2.2.1;omega)))];exact HR.out.alloc _⟩
       case measure=>simp [intOf];omega
     ·go_wp2
      go_roundw
      case rel=>exact ⟨k+1,by omega,by go_num,by rw [HSA.out (NO.out (fun h=>h0 h.2.1))];exact HR.out.alloc _⟩
      case measure=>simp [intOf];omega
   ·go_wp2
    go_end0
    refine ⟨rfl,?_⟩
    have:iN 65536 l k=l.map (fE (iT 2)):=kH 65536 l k (by omega)
    rw [←this]
    exact HR.out
def eB (s:ByteArray) (l:List Opd):List Opd:=let l2:=gI s (cP s l);l2.map (fE (iT (bW ⟨s,l2⟩)))
def aE (x:Ins):Ins:=⟨x.op,eB x.op x.args⟩
theorem tG {s:ByteArray} {l:List Opd} (h:∀x∈l,cN x.n):∀x∈cP s l,cN x.n:=by
 intro x hx
 unfold cP at hx
 have h0:cN (0:Int):=⟨by decide,by decide⟩
 split at hx
 ·split at hx
  ·rcases List.mem_cons.1 hx with rfl | hx
   ·exact h0
   ·exact h x hx
  ·exact h x hx
 ·split at hx
  ·exact h x (by simp at hx ⊢;exact .inr hx)
  ·exact h x hx
 ·exact h x hx
theorem vR {s:ByteArray} {l:List Opd} (h:∀x∈l,cN x.n):∀x∈gI s l,cN x.n:=by
 intro x hx
 unfold gI at hx
 have h0:cN (0:Int):=⟨by decide,by decide⟩
 split at hx
 ·simp at hx
  rcases hx with rfl | rfl<;>exact h0
 ·exact h x hx
theorem EB (p:aB) (x:Ins) (v:Value) (w:World) (h:SlR aM w p v x.args) (hT:Spc w) (hn:x.args.length≤1000000) (hf:∀y∈x.args,cN y.n):
  Calls Tryz.prog 30 #[.agg #[.string x.op,v]] w fun e w'=>∃v',e=.returned (.agg #[.string x.op,v'])∧aD w' (fun b=>w.heap.size≤b) v' (aE x).args∧Below w.heap.size w w':=by
 obtain ⟨s,l⟩:=x
 dsimp only at *
 obtain ⟨a,c,rfl,_⟩:=h.opd
 have H:=aA h
 have HT:=aA hT
 have HN:=aA hn
 have HF:=aA hf
 clear h hT hn hf
 obtain ⟨W,hW⟩:∃W:World,W=(w.alloc (.cells #[.string s,.slice a l.length c] 24)).alloc (.cells #[.string ⟨#[]⟩,.slice none 0 0] 24):=⟨_,rfl⟩
 have hbW:Below w.heap.size w W:=hW ▸ ((Below.refl _ _).alloc (Nat.le_refl _) _).alloc (by simp) _
 have k1:Blk W w.heap.size 24 #[.string s,.slice a l.length c]:=hW ▸ (Blk.new w _ _).alloc _
 have k2:Blk W (w.heap.size+1) 24 #[.string ⟨#[]⟩,.slice none 0 0]:=by rw [hW];exact (by simpa using Blk.new (w.alloc (.cells #[.string s,.slice a l.length c] 24)) 24 #[.string ⟨#[]⟩,.slice none 0 0])
 have HBW:=aA hbW
 have K2:=aA k2
 obtain ⟨a0,a1,_,_⟩:=k1.two
 have hs1:w.heap.size < W.heap.size:=k1.lt
 have hs2:w.heap.size+1 < W.heap.size:=k2.lt
 clear hbW k1 k2
 go_enter Tryz.func30,Tryz.ntmps30
 go_wp2
 rw [←hW]
 have HW:=aA hW
 clear hW
 have HCL:=aA (kV p _ _ W.drew (H.out.below HBW.out).drew HN.out)
 go_region_held3 (fun w'=>w'.cell? ⟨w.heap.size,0,none⟩=some (.string s)∧w'.cell? ⟨w.heap.size,1,none⟩=some (.slice a l.length c)) (go_keep)
  (first | (go_at_call 51;refine HCL.out.mono ?_;rintro e w1 ⟨v',rfl,ho,hb⟩;have HO:=aA ho;have HB:=aA hb;obtain ⟨a',cap',rfl⟩:=ho.form;have a0':w1.cell? ⟨w.heap.size,0,none⟩=some (.string s):=(hb.cell (p:=⟨w.heap.size,0,none⟩) hs1).trans a0;have a1':w1.cell? ⟨w.heap.size,1,none⟩=some (.slice a l.length c):=(hb.cell (p:=⟨w.heap.size,1,none⟩) hs1).trans a1;clear ho hb))
 have HWR:Hid (Wr W (w1.alloc (.cells #[.string s,.slice a' l.length cap'] 101)) w1.heap.size s (.slice a' l.length cap') l):=
  ⟨Blk.new _ _ _,(HO.out.opdOwn (q:=fun b=>W.heap.size≤b∧b≠w1.heap.size) (fun k hk=>⟨(HO.out.lt k hk).1,by have:=(HO.out.lt k hk).2;omega⟩)).below ((Below.refl _ _).alloc (Nat.le_refl _) _),HB.out.size,(Below.trans (b:=w1) ⟨HB.out.os,HB.out.tape,HB.out.output,HB.out.size,HB.out.block⟩ ((Below.refl _ _).mono HB.out.size |>.alloc HB.out.size _)),HT.out.below HBW.out⟩
 clear a0 a1 a0' a1'
 generalize w1.alloc (.cells #[.string s,.slice a' l.length cap'] 101)=W2 at *
 have i0:∀w,(Instr.index 103 (.agg #[.func (.func 66) #[] #[],.func (.func 67) #[] #[],.func (.func 68) #[] #[]]) (.int .i64 0)).run Tryz.prog w=.ok (.func (.func 66) #[] #[]) w:=fun _=>by kernel_rfl
 have i1:∀w,(Instr.index 103 (.agg #[.func (.func 66) #[] #[],.func (.func 67) #[] #[],.func (.func 68) #[] #[]]) (.int .i64 1)).run Tryz.prog w=.ok (.func (.func 67) #[] #[]) w:=fun _=>by kernel_rfl
 have i2:∀w,(Instr.index 103 (.agg #[.func (.func 66) #[] #[],.func (.func 67) #[] #[],.func (.func 68) #[] #[]]) (.int .i64 2)).run Tryz.prog w=.ok (.func (.func 68) #[] #[]) w:=fun _=>by kernel_rfl
 go_wp2
 refine wp_loop_rounds 4 ?_
 rw [rounds_succ]
 go_wp2_with (go_at_call 66;refine (YI _ _ _ _ _ _ HWR.out).mono ?_;rintro e w3 ⟨rfl,v3,h3⟩;have H3:=aA h3;clear h3)
 rw [rounds_succ]
 go_wp2_with (go_at_call 67;refine (TO _ _ _ _ _ _ H3.out).mono ?_;rintro e w4 ⟨rfl,v4,h4⟩;have H4:=aA h4;clear h4)
 rw [rounds_succ]
 go_wp2_with (go_at_call 68;refine (AX _ _ _ _ _ _ H4.out (vR (tG HF.out))).mono ?_;rintro e w5 ⟨rfl,h5⟩;have H5:=aA h5;clear h5)
 rw [rounds_succ]
 obtain ⟨a5,c5,rfl,_⟩:=H5.out.own
 obtain ⟨e0,e1,_,_⟩:=H5.out.blk.two
 have HK5:=aA (K2.out.below H5.out.below K2.out.lt)
 obtain ⟨r0,r1,q0,q1⟩:=HK5.out.two
 have HRES:=aA ((HK5.out.set 0 (.string s)).set 1 (.slice a5 (gI s (cP s l)).length c5))
 go_wp2
 refine bodyPost_ret (results_cell_row rfl _ _ (w.heap.size+1) 24 #[.string s,.slice a5 (gI s (cP s l)).length c5] (0,0) _ rfl HRES.out Tryz.underlying24 rfl (by kernel_rfl)) rfl ⟨.slice a5 (gI s (cP s l)).length c5,rfl,?_,?_⟩
 ·have ho:=H5.out.own
  rw [List.length_map] at ho
  have ho2:aD w5 (fun b=>W.heap.size≤b) (.slice a5 (gI s (cP s l)).length c5) (eB s l):=ho.mono (fun _ hk=>hk.1)
  refine (ho2.keep fun k hk=>?_).mono (fun k (hk:W.heap.size≤k)=>by omega)
  have hk':W.heap.size≤k:=hk
  rw [Below.heap_setCell _ _ _ _ (by simp;omega),Below.heap_setCell _ _ _ _ (by simp;omega)]
 ·exact ((HBW.out.trans (H5.out.below.mono HBW.out.size)).setCell (p:=⟨w.heap.size+1,0,none⟩) (by simp) _).setCell (p:=⟨w.heap.size+1,1,none⟩) (by simp) _
end Go.Proofs.YtcgheipmnphbjaaGreatDoor
