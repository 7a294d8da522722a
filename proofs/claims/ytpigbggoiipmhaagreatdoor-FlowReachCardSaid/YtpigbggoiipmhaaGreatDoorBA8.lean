/-
  The canonical form: canon.Of and what it computes. Conditions: sizes.
-/
import Derived.Test.YtpigbggoiipmhaaGreatDoorBA5
namespace Go.Proofs.YtpigbggoiipmhaaGreatDoor
set_option maxHeartbeats 4000000
open Go.RowKit Go.Sort
def iM:List ByteArray:=[⟨#[83,85,66]⟩,⟨#[65,78,68]⟩,⟨#[88,79,82]⟩,⟨#[79,82]⟩,⟨#[67,80]⟩]
def iS:List ByteArray:=[⟨#[65,68,68]⟩,⟨#[65,68,67]⟩,⟨#[83,66,67]⟩]
def kM:Opd:=⟨1,7,0⟩
def cP (s:ByteArray) (l:List Opd):List Opd:=
 match l with
 | [x]=>if inL iS s then [kM,x] else [x]
 | [x,y]=>if inL iM s&&aP x kM then [y] else [x,y]
 | l=>l
theorem Wr.spc {w0 w:World} {bw:Nat} {s:ByteArray} {v:Value} {l:List Opd} (h:Wr w0 w bw s v l):Spc w:=h.spc0.below h.below
theorem Wr.setNew {w0 w:World} {bw:Nat} {s:ByteArray} {v:Value} {l:List Opd} (h:Wr w0 w bw s v l) {x y:Opd} (cs:Array Value) (hcs:cs.toList=[x,y].flatMap Opd.cells):
  Wr w0 (((w.setCell ⟨bw,1,none⟩ (.slice (some ⟨w.heap.size,0,none⟩) 2 2)).alloc (.cells cs 52)).drew) bw s (.slice (some ⟨w.heap.size,0,none⟩) 2 2) [x,y]:=by
 have hlt:=h.blk.lt;have hsz:(w.setCell ⟨bw,1,none⟩ (.slice (some ⟨w.heap.size,0,none⟩) 2 2)).heap.size=w.heap.size:=by simp [World.setCell]
 have ho:=gZ (w:=w.setCell ⟨bw,1,none⟩ (.slice (some ⟨w.heap.size,0,none⟩) 2 2)) (q:=λb=>w0.heap.size<=b/\b≠bw) [x,y] cs 52 w.heap.size 2 hsz.symm rfl hcs ⟨z0I (z1G h.old hlt),by omega⟩ (by simp);refine ⟨(h.blk.set 1 _).alloc _,ho.keep λ_ _=>rfl,h.old,((h.below.setCell h.old _).alloc (by rw [hsz];exact z0I (z1G h.old hlt)) _).drew,h.spc0⟩
theorem BP:fL ⟨#[83,85,66,32,65,78,68,32,88,79,82,32,79,82,32,67,80]⟩=iM:=by decide+kernel
theorem AK:fL ⟨#[65,68,68,32,65,68,67,32,83,66,67]⟩=iS:=by decide+kernel
theorem DT:∀(j:Nat) b,(⟨#[83,85,66,32,65,78,68,32,88,79,82,32,79,82,32,67,80]⟩:ByteArray).data.toList[j]?=some b->b.toNat < 128:=λj b h=>(by decide+kernel:∀x∈(⟨#[83,85,66,32,65,78,68,32,88,79,82,32,79,82,32,67,80]⟩:ByteArray).data.toList,x.toNat < 128) b (VM h)
theorem FSx:∀(j:Nat) b,(⟨#[65,68,68,32,65,68,67,32,83,66,67]⟩:ByteArray).data.toList[j]?=some b->b.toNat < 128:=λj b h=>(by decide+kernel:∀x∈(⟨#[65,68,68,32,65,68,67,32,83,66,67]⟩:ByteArray).data.toList,x.toNat < 128) b (VM h)
theorem gG (s:ByteArray) (w:World) (hT:Spc w):Calls Tryz.prog 146 #[.string ⟨#[83,85,66,32,65,78,68,32,88,79,82,32,79,82,32,67,80]⟩,.string s] w λe w'=>e=.returned (.bool (inL iM s))/\Below w.heap.size w w':=oY _ iM s w BP (by decide) (by decide) DT hT
theorem fB (s:ByteArray) (w:World) (hT:Spc w):Calls Tryz.prog 146 #[.string ⟨#[65,68,68,32,65,68,67,32,83,66,67]⟩,.string s] w λe w'=>e=.returned (.bool (inL iS s))/\Below w.heap.size w w':=oY _ iS s w AK (by decide) (by decide) FSx hT
theorem uU (w0 w:World) (bw:Nat) (s:ByteArray) (a:Option Addr) (n c:Nat) (l:List Opd) (h:Wr w0 w bw s (.slice a n c) l) (hv:cP s l=l) (n1:inL iS s=true->((n:Int)==1)=false) (n2:inL iM s=true->((n:Int)==2)=false):
  Calls Tryz.prog 101 #[.pointer (some ⟨bw,0,none⟩)] w λe w'=>e=.returned (.tuple #[])/\∃v',Wr w0 w' bw s v' (cP s l):=by
 have HV:=aA hv;have N1:=aA n1;have N2:=aA n2;clear hv n1 n2;cases h1:inL iM s
 ·skip;exact tX3
 ·have n2:=N2.out h1;exact tX3
theorem acc_two (w0 w:World) (bw:Nat) (s:ByteArray) (a:Option Addr) (n c:Nat) (x y:Opd) (l:List Opd) (hl:l=[x,y]) (h:Wr w0 w bw s (.slice a n c) l):
  Calls Tryz.prog 101 #[.pointer (some ⟨bw,0,none⟩)] w λe w'=>e=.returned (.tuple #[])/\∃v',Wr w0 w' bw s v' (cP s l):=by
 have hown:=h.own;obtain ⟨a',c',e',hc,hm,g⟩:=hown;have hln:l.length=2:=by rw [hl];rfl
 injection e' with e1 e2 e3;subst e1 e3;obtain rfl:n=2:=by rw [e2,hln]
 obtain ⟨b,o,rfl,hq,hb,c0,c1,c2,_⟩:=g 0 x (by rw [hl];rfl);obtain ⟨b',o',eb,hq',hb',d0,d1,d2,df⟩:=g 1 y (by rw [hl];rfl);injection eb with eb;injection eb with eb1 eb2;subst eb1 eb2;simp only [Nat.zero_mul,Nat.add_zero,Nat.one_mul] at c0 c1 c2 d0 d1 d2;have h3:c≠1:=by rw [hln] at hc;omega
 have DF:Hid (w.cell? ⟨b,o+3,none⟩=some (.int .i64 y.kind)/\w.cell? ⟨b,o+3+1,none⟩=some (.int .i64 y.reg)/\w.cell? ⟨b,o+3+2,none⟩=some (.int .i64 y.n)/\∀j,w.frozen? ⟨b,j,none⟩=false):=⟨d0,d1,d2,df⟩;have HC:Hid (2<=c/\c<=9223372036854775807):=by rw [hln] at hc;exact ⟨hc,hm⟩
 clear g d0 d1 d2 df hc hm e2 hln hb' hq';have hop:=gD;cases h1:inL iM s
 ·have HV:=aA (show cP s l=l by rw [hl];simp [cP,h1]);have HL:=aA hl;clear hl;obtain ⟨w1,hw1⟩:∃w1:World,w1=w.alloc (.cells #[.int .i64 1,.int .i64 7,.int .i64 0] 52):=⟨_,rfl⟩;have hb1:Below w.heap.size w w1:=hw1 ▸ (zY _ _).alloc (zI _) _;have ka:Blk w1 w.heap.size 52 #[.int .i64 1,.int .i64 7,.int .i64 0]:=hw1 ▸ Blk.new w _ _;have HW1:=h.later hb1;have E0:∀d os,(grow (redrawn w1 d) os).cell? ⟨bw,0,none⟩=some (.string s):=λd os=>cell_regrown HW1.blk.two.1 d os;have E1:∀d os,(grow (redrawn w1 d) os).cell? ⟨bw,1,none⟩=some (.slice (some ⟨b,o,none⟩) 2 c):=λd os=>cell_regrown HW1.blk.two.2.1 d os;have HS:Hid (∀d os,Spc (grow (redrawn w1 d) os)):=λd os=>HW1.spc.below (below_regrown w1 d os);have hword:=λwx hT=>gG s wx hT;simp only [h1] at hword;have HWORD:=aA hword;clear hword;have KA:=aA ka;have HB1:=aA hb1;have H1:=aA HW1;clear ka hb1 HW1;go_enter Tryz.func101,Tryz.ntmps101;go_wp2;rw [<-hw1];have HE:=aA hw1;clear hw1;refine wp_region_quiet_below (by kernel_rfl) (by kernel_rfl) ?_;repeat (go_big_quiet_step (exact Calls.regrown_of (HWORD.out _ (HS.out _ _))))
  refine wpQuiet_nil ?_;intro _ hw';obtain ⟨⟨dq,osq⟩,hw''⟩:=hw';subst hw'';have HB2:Hid (Below w1.heap.size w1 (grow (redrawn w1 dq) osq)):=below_regrown w1 dq osq;generalize grow (redrawn w1 dq) osq=w2 at *;have H2:Hid (Wr w0 w2 bw s (.slice (some ⟨b,o,none⟩) 2 c) l):=H1.out.later HB2.out;obtain ⟨e0,e1,f0,f1⟩:=H2.out.blk.two;clear E0 E1 HS;exact tX17
 ·cases h4:aP x kM
  ·have HV:=aA (show cP s l=l by rw [hl];simp [cP,h1,h4]);have HL:=aA hl;clear hl;have hx:aP ⟨x.kind,x.reg,x.n⟩ ⟨1,7,0⟩=false:=h4;obtain ⟨w1,hw1⟩:∃w1:World,w1=w.alloc (.cells #[.int .i64 1,.int .i64 7,.int .i64 0] 52):=⟨_,rfl⟩;have hb1:Below w.heap.size w w1:=hw1 ▸ (zY _ _).alloc (zI _) _;have ka:Blk w1 w.heap.size 52 #[.int .i64 1,.int .i64 7,.int .i64 0]:=hw1 ▸ Blk.new w _ _;have HW1:=h.later hb1;have E0:∀d os,(grow (redrawn w1 d) os).cell? ⟨bw,0,none⟩=some (.string s):=λd os=>cell_regrown HW1.blk.two.1 d os;have E1:∀d os,(grow (redrawn w1 d) os).cell? ⟨bw,1,none⟩=some (.slice (some ⟨b,o,none⟩) 2 c):=λd os=>cell_regrown HW1.blk.two.2.1 d os;have HS:Hid (∀d os,Spc (grow (redrawn w1 d) os)):=λd os=>HW1.spc.below (below_regrown w1 d os);have C0:∀d os,(grow (redrawn w1 d) os).cell? ⟨b,o,none⟩=some (.int .i64 x.kind):=λd os=>cell_regrown ((hb1.cell (p:=⟨b,o,none⟩) hb).trans c0) d os;have C1:∀d os,(grow (redrawn w1 d) os).cell? ⟨b,o+1,none⟩=some (.int .i64 x.reg):=λd os=>cell_regrown ((hb1.cell (p:=⟨b,o+1,none⟩) hb).trans c1) d os;have C2:∀d os,(grow (redrawn w1 d) os).cell? ⟨b,o+2,none⟩=some (.int .i64 x.n):=λd os=>cell_regrown ((hb1.cell (p:=⟨b,o+2,none⟩) hb).trans c2) d os;have A0:∀d os,(grow (redrawn w1 d) os).cell? ⟨w.heap.size,0,none⟩=some (.int .i64 1):=λd os=>cell_regrown ka.three.1 d os;have A1:∀d os,(grow (redrawn w1 d) os).cell? ⟨w.heap.size,1,none⟩=some (.int .i64 7):=λd os=>cell_regrown ka.three.2.1 d os;have A2:∀d os,(grow (redrawn w1 d) os).cell? ⟨w.heap.size,2,none⟩=some (.int .i64 0):=λd os=>cell_regrown ka.three.2.2.1 d os;have hword:=λwx hT=>gG s wx hT;simp only [h1] at hword;have HWORD:=aA hword;clear hword;have KA:=aA ka;have HB1:=aA hb1;have H1:=aA HW1;clear ka hb1 HW1;go_enter Tryz.func101,Tryz.ntmps101;go_wp2;rw [<-hw1];have HE:=aA hw1;clear hw1;refine wp_region_quiet_below (by kernel_rfl) (by kernel_rfl) ?_;repeat (go_big_quiet_step (exact Calls.regrown_of (HWORD.out _ (HS.out _ _))))
   refine wpQuiet_nil ?_;intro _ hw';obtain ⟨⟨dq,osq⟩,hw''⟩:=hw';subst hw'';have HB2:Hid (Below w1.heap.size w1 (grow (redrawn w1 dq) osq)):=below_regrown w1 dq osq;generalize grow (redrawn w1 dq) osq=w2 at *;have H2:Hid (Wr w0 w2 bw s (.slice (some ⟨b,o,none⟩) 2 c) l):=H1.out.later HB2.out;obtain ⟨e0,e1,f0,f1⟩:=H2.out.blk.two;clear E0 E1 HS C0 C1 C2 A0 A1 A2;exact tX17
  ·have HV:=aA (show cP s l=[y] by rw [hl];simp [cP,h1,h4]);have HL:=aA hl;clear hl;have hx:aP ⟨x.kind,x.reg,x.n⟩ ⟨1,7,0⟩=true:=h4;obtain ⟨w1,hw1⟩:∃w1:World,w1=w.alloc (.cells #[.int .i64 1,.int .i64 7,.int .i64 0] 52):=⟨_,rfl⟩;have hb1:Below w.heap.size w w1:=hw1 ▸ (zY _ _).alloc (zI _) _;have ka:Blk w1 w.heap.size 52 #[.int .i64 1,.int .i64 7,.int .i64 0]:=hw1 ▸ Blk.new w _ _;have HW1:=h.later hb1;have E0:∀d os,(grow (redrawn w1 d) os).cell? ⟨bw,0,none⟩=some (.string s):=λd os=>cell_regrown HW1.blk.two.1 d os;have E1:∀d os,(grow (redrawn w1 d) os).cell? ⟨bw,1,none⟩=some (.slice (some ⟨b,o,none⟩) 2 c):=λd os=>cell_regrown HW1.blk.two.2.1 d os;have HS:Hid (∀d os,Spc (grow (redrawn w1 d) os)):=λd os=>HW1.spc.below (below_regrown w1 d os);have C0:∀d os,(grow (redrawn w1 d) os).cell? ⟨b,o,none⟩=some (.int .i64 x.kind):=λd os=>cell_regrown ((hb1.cell (p:=⟨b,o,none⟩) hb).trans c0) d os;have C1:∀d os,(grow (redrawn w1 d) os).cell? ⟨b,o+1,none⟩=some (.int .i64 x.reg):=λd os=>cell_regrown ((hb1.cell (p:=⟨b,o+1,none⟩) hb).trans c1) d os;have C2:∀d os,(grow (redrawn w1 d) os).cell? ⟨b,o+2,none⟩=some (.int .i64 x.n):=λd os=>cell_regrown ((hb1.cell (p:=⟨b,o+2,none⟩) hb).trans c2) d os;have A0:∀d os,(grow (redrawn w1 d) os).cell? ⟨w.heap.size,0,none⟩=some (.int .i64 1):=λd os=>cell_regrown ka.three.1 d os;have A1:∀d os,(grow (redrawn w1 d) os).cell? ⟨w.heap.size,1,none⟩=some (.int .i64 7):=λd os=>cell_regrown ka.three.2.1 d os;have A2:∀d os,(grow (redrawn w1 d) os).cell? ⟨w.heap.size,2,none⟩=some (.int .i64 0):=λd os=>cell_regrown ka.three.2.2.1 d os;have hword:=λwx hT=>gG s wx hT;simp only [h1] at hword;have HWORD:=aA hword;clear hword;have KA:=aA ka;have HB1:=aA hb1;have H1:=aA HW1;clear ka hb1 HW1;go_enter Tryz.func101,Tryz.ntmps101;go_wp2;rw [<-hw1];have HE:=aA hw1;clear hw1;refine wp_region_quiet_below (by kernel_rfl) (by kernel_rfl) ?_;repeat (go_big_quiet_step (exact Calls.regrown_of (HWORD.out _ (HS.out _ _))))
   refine wpQuiet_nil ?_;intro _ hw';obtain ⟨⟨dq,osq⟩,hw''⟩:=hw';subst hw'';have HB2:Hid (Below w1.heap.size w1 (grow (redrawn w1 dq) osq)):=below_regrown w1 dq osq;generalize grow (redrawn w1 dq) osq=w2 at *;have H2:Hid (Wr w0 w2 bw s (.slice (some ⟨b,o,none⟩) 2 c) l):=H1.out.later HB2.out;obtain ⟨e0,e1,f0,f1⟩:=H2.out.blk.two;clear E0 E1 HS C0 C1 C2 A0 A1 A2;go_wp2;go_end0;refine ⟨rfl,.slice (some ⟨b,o+3,none⟩) 1 (c - 1),?_⟩;rw [HV.out];refine H2.out.set (aD.below (w:=w1) (aD.below (w:=w) ⟨_,_,rfl,?_,?_,λi z hz=>?_⟩ HB1.out) HB2.out)
   ·have:=HC.out;simp;omega
   ·have:=HC.out;omega
   ·match i,hz with
    | 0,hz=>simp at hz;subst hz;exact ⟨b,o+3,rfl,hq,hb,DF.out⟩
    | i+1,hz=>simp at hz
theorem acc_one (w0 w:World) (bw:Nat) (s:ByteArray) (a:Option Addr) (n c:Nat) (x:Opd) (l:List Opd) (hl:l=[x]) (h:Wr w0 w bw s (.slice a n c) l):
  Calls Tryz.prog 101 #[.pointer (some ⟨bw,0,none⟩)] w λe w'=>e=.returned (.tuple #[])/\∃v',Wr w0 w' bw s v' (cP s l):=by
 have hown:=h.own;obtain ⟨a',c',e',hc,hm,g⟩:=hown;have hln:l.length=1:=by rw [hl];rfl
 injection e' with e1 e2 e3;subst e1 e3;obtain rfl:n=1:=by rw [e2,hln]
 cases h2:inL iS s
 ·exact uU w0 w bw s a 1 c l h (by rw [hl];simp [cP,h2]) (λh=>by rw [h2] at h;cases h) (λ_=>rfl)
 ·have HV:=aA (show cP s l=[kM,x] by rw [hl];simp [cP,h2]);obtain ⟨b,o,rfl,hq,hb,c0,c1,c2,_⟩:=g 0 x (by rw [hl];rfl);simp only [Nat.zero_mul,Nat.add_zero] at c0 c1 c2;have HX:Hid (w.cell? ⟨b,o,none⟩=some (.int .i64 x.kind)/\w.cell? ⟨b,o+1,none⟩=some (.int .i64 x.reg)/\w.cell? ⟨b,o+2,none⟩=some (.int .i64 x.n)):=⟨c0,c1,c2⟩;have HBB:=aA hb;have HBN:Hid (b≠bw):=hq.2;clear g hc hm e2 hln c0 c1 c2 hb hq;have HL:=aA hl;clear hl;cases h1:inL iM s;all_goals
   obtain ⟨w1,hw1⟩:∃w1:World,w1=w.alloc (.cells #[.int .i64 1,.int .i64 7,.int .i64 0] 52):=⟨_,rfl⟩;have hb1:Below w.heap.size w w1:=hw1 ▸ (zY _ _).alloc (zI _) _;have ka:Blk w1 w.heap.size 52 #[.int .i64 1,.int .i64 7,.int .i64 0]:=hw1 ▸ Blk.new w _ _;have HW1:=h.later hb1;have E0:∀d os,(grow (redrawn w1 d) os).cell? ⟨bw,0,none⟩=some (.string s):=λd os=>cell_regrown HW1.blk.two.1 d os;have E1:∀d os,(grow (redrawn w1 d) os).cell? ⟨bw,1,none⟩=some (.slice (some ⟨b,o,none⟩) 1 c):=λd os=>cell_regrown HW1.blk.two.2.1 d os;have HS:Hid (∀d os,Spc (grow (redrawn w1 d) os)):=λd os=>HW1.spc.below (below_regrown w1 d os);have hword:=λwx hT=>gG s wx hT;simp only [h1] at hword;have HWORD:=aA hword;clear hword;have KA:=aA ka;have HB1:=aA hb1;have H1:=aA HW1;clear ka hb1 HW1;go_enter Tryz.func101,Tryz.ntmps101;go_wp2;rw [<-hw1];have HE:=aA hw1;clear hw1;refine wp_region_quiet_below (by kernel_rfl) (by kernel_rfl) ?_;repeat (go_big_quiet_step (exact Calls.regrown_of (HWORD.out _ (HS.out _ _))))
   refine wpQuiet_nil ?_;intro _ hw';obtain ⟨⟨dq,osq⟩,hw''⟩:=hw';subst hw'';have HB2:Hid (Below w1.heap.size w1 (grow (redrawn w1 dq) osq)):=below_regrown w1 dq osq;generalize grow (redrawn w1 dq) osq=w2 at *;have H2:Hid (Wr w0 w2 bw s (.slice (some ⟨b,o,none⟩) 1 c) l):=H1.out.later HB2.out;obtain ⟨e0,e1,f0,f1⟩:=H2.out.blk.two;clear E0 E1 HS;have hword:=λwx hT=>fB s wx hT;simp only [h2] at hword;have HWORD2:=aA hword;clear hword;go_wp2_with fail;refine (HWORD2.out _ H2.out.spc).mono ?_;rintro e w3 ⟨rfl,hb3⟩;have H3:Hid (Wr w0 w3 bw s (.slice (some ⟨b,o,none⟩) 1 c) l):=H2.out.later hb3;have HB3:=aA hb3;clear e0 e1 f0 f1 hb3;obtain ⟨e0,e1,f0,f1⟩:=H3.out.blk.two;have hbb:=HBB.out;have c0:=(HB3.out.cell (p:=⟨b,o,none⟩) (vB (vB hbb HB1.out.size) HB2.out.size)).trans ((HB2.out.cell (p:=⟨b,o,none⟩) (vB hbb HB1.out.size)).trans ((HB1.out.cell (p:=⟨b,o,none⟩) hbb).trans HX.out.1));have c1:=(HB3.out.cell (p:=⟨b,o+1,none⟩) (vB (vB hbb HB1.out.size) HB2.out.size)).trans ((HB2.out.cell (p:=⟨b,o+1,none⟩) (vB hbb HB1.out.size)).trans ((HB1.out.cell (p:=⟨b,o+1,none⟩) hbb).trans HX.out.2.1));have c2:=(HB3.out.cell (p:=⟨b,o+2,none⟩) (vB (vB hbb HB1.out.size) HB2.out.size)).trans ((HB2.out.cell (p:=⟨b,o+2,none⟩) (vB hbb HB1.out.size)).trans ((HB1.out.cell (p:=⟨b,o+2,none⟩) hbb).trans HX.out.2.2));have kk:=(KA.out.below HB2.out KA.out.lt).below HB3.out (vB KA.out.lt HB2.out.size);obtain ⟨k0,k1,k2,_,_,_⟩:=kk.three;have hne:bw < w3.heap.size:=H3.out.blk.lt;clear hbb kk;go_wp2;go_region;all_goals go_wp2
   all_goals go_end0
   all_goals refine ⟨rfl,.slice (some ⟨w3.heap.size,0,none⟩) 2 2,?_⟩;rw [HV.out];exact H3.out.setNew _ (by simp [kM,Opd.cells])
theorem YI (w0 w:World) (bw:Nat) (s:ByteArray) (v:Value) (l:List Opd) (h:Wr w0 w bw s v l):
  Calls Tryz.prog 101 #[.pointer (some ⟨bw,0,none⟩)] w λe w'=>e=.returned (.tuple #[])/\∃v',Wr w0 w' bw s v' (cP s l):=by
 obtain ⟨a,c,rfl,_⟩:=h.own
 match l,h with
 | [],h=>exact uU w0 w bw s a _ c _ h rfl (λ_=>rfl) (λ_=>rfl)
 | [x],h=>exact acc_one w0 w bw s a _ c x _ rfl h
 | [x,y],h=>exact acc_two w0 w bw s a _ c x y _ rfl h
 | x::y::z::l,h=>exact uU w0 w bw s a _ c _ h rfl (λ_=>by simp;omega) (λ_=>by simp;omega)
end Go.Proofs.YtpigbggoiipmhaaGreatDoor
namespace Go.Proofs.YtpigbggoiipmhaaGreatDoor
set_option maxHeartbeats 4000000
open Go.RowKit
def tY (w:World) (b:Nat):List (Nat × Value)->World
 | []=>w
 | p::l=>tY (w.setCell ⟨b,p.1,none⟩ p.2) b l
def AV (j:Nat) (v:Value):List (Nat × Value)->Value
 | []=>v
 | p::l=>AV j (if p.1=j then p.2 else v) l
theorem tW {w0:World} {B b:Nat} (hB:B<=b):∀(l:List (Nat × Value)) {w:World},Below B w0 w->Below B w0 (tY w b l)
 | [],_,h=>h
 | p::l,_,h=>tW hB l (h.setCell (p:=⟨b,p.1,none⟩) hB _)
theorem vY {b k:Nat} (hk:k≠b):∀(l:List (Nat × Value)) (w:World),(tY w b l).heap[k]?=w.heap[k]?
 | [],_=>rfl
 | _::l,_=>(vY hk l _).trans (xV _ _ _ _ hk)
theorem wZ {b:Nat}:∀(l:List (Nat × Value)) (w:World),(tY w b l).heap.size=w.heap.size
 | [],_=>rfl
 | _::l,_=>(wZ l _).trans (by simp [World.setCell])
theorem rX {b:Nat} (a:Addr):∀(l:List (Nat × Value)) (w:World),(tY w b l).frozen? a=w.frozen? a
 | [],_=>rfl
 | _::l,_=>(rX a l _).trans (World.frozen?_setCell _ _ _ _)
theorem hX {b j:Nat}:∀(l:List (Nat × Value)) {w:World} {v:Value},w.cell? ⟨b,j,none⟩=some v->(tY w b l).cell? ⟨b,j,none⟩=some (AV j v l)
 | [],_,_,h=>h
 | p::l,w,v,h=>hX l (by
   by_cases he:p.1=j
   ·subst he;rw [if_pos rfl];exact z1B _ _ _ (by rw [h];rfl)
   ·rw [if_neg he,z0D _ _ _ _ (by simp)];exact h)
def iJ (o:Nat) (x y:Opd):List (Nat × Value):=[(o,.int .i64 y.kind),(o+1,.int .i64 y.reg),(o+2,.int .i64 y.n),(o+3,.int .i64 x.kind),(o+3+1,.int .i64 x.reg),(o+3+2,.int .i64 x.n)]
theorem CK (b o c:Nat) (x y:Opd) (w:World) (c0:w.cell? ⟨b,o,none⟩=some (.int .i64 x.kind)) (c1:w.cell? ⟨b,o+1,none⟩=some (.int .i64 x.reg)) (c2:w.cell? ⟨b,o+2,none⟩=some (.int .i64 x.n))
  (d0:w.cell? ⟨b,o+3,none⟩=some (.int .i64 y.kind)) (d1:w.cell? ⟨b,o+3+1,none⟩=some (.int .i64 y.reg)) (d2:w.cell? ⟨b,o+3+2,none⟩=some (.int .i64 y.n)) (hf:∀j,w.frozen? ⟨b,j,none⟩=false):
  Calls Tryz.prog 148 #[.slice (some ⟨b,o,none⟩) 2 c] w λe w'=>e=.returned (.tuple #[])/\(tY w b (iJ o x y)).drew=w':=by
 go_enter Tryz.func148,Tryz.ntmps148;go_wp2;refine wp_loop_rounds 2 ?_;rw [rounds_succ];go_wp2;go_region;all_goals go_wp2
 all_goals rw [rounds_succ]
 all_goals go_wp2
 all_goals go_end0
 all_goals exact ⟨rfl,rfl⟩
theorem TK {w:World} {q:aB} {b o c:Nat} {x y:Opd} (h:aD w q (.slice (some ⟨b,o,none⟩) 2 c) [x,y]):aD (tY w b (iJ o x y)) q (.slice (some ⟨b,o,none⟩) 2 c) [y,x]:=by
 obtain ⟨a',c',e,h1,h2,h3⟩:=h;injection e with e1 e2 e3;subst e1 e3;obtain ⟨b',o',eb,hq,hb,c0,c1,c2,f⟩:=h3 0 x rfl;injection eb with eb;injection eb with eb1 eb2;subst eb1 eb2;obtain ⟨b',o',eb,_,_,d0,d1,d2,_⟩:=h3 1 y rfl;injection eb with eb;injection eb with eb1 eb2;subst eb1 eb2;simp only [Nat.zero_mul,Nat.add_zero,Nat.one_mul] at c0 c1 c2 d0 d1 d2;have hfr:∀j,(tY w b (iJ o x y)).frozen? ⟨b,j,none⟩=false:=λj=>(rX _ _ _).trans (f j);have e0:=(hX (iJ o x y) c0).trans (congrArg some (show _=Value.int .i64 y.kind by simp only [iJ,AV];repeat first | rw [if_pos rfl] | rw [if_pos trivial] | rw [if_neg (by omega)]));have e1:=(hX (iJ o x y) c1).trans (congrArg some (show _=Value.int .i64 y.reg by simp only [iJ,AV];repeat first | rw [if_pos rfl] | rw [if_pos trivial] | rw [if_neg (by omega)]));have e2:=(hX (iJ o x y) c2).trans (congrArg some (show _=Value.int .i64 y.n by simp only [iJ,AV];repeat first | rw [if_pos rfl] | rw [if_pos trivial] | rw [if_neg (by omega)]));have g0:=(hX (iJ o x y) d0).trans (congrArg some (show _=Value.int .i64 x.kind by simp only [iJ,AV];repeat first | rw [if_pos rfl] | rw [if_pos trivial] | rw [if_neg (by omega)]));have g1:=(hX (iJ o x y) d1).trans (congrArg some (show _=Value.int .i64 x.reg by simp only [iJ,AV];repeat first | rw [if_pos rfl] | rw [if_pos trivial] | rw [if_neg (by omega)]));have g2:=(hX (iJ o x y) d2).trans (congrArg some (show _=Value.int .i64 x.n by simp only [iJ,AV];repeat first | rw [if_pos rfl] | rw [if_pos trivial] | rw [if_neg (by omega)]));have hsz:b < (tY w b (iJ o x y)).heap.size:=by rw [wZ];exact hb
 refine ⟨_,c,rfl,h1,h2,λi z hz=>?_⟩
 match i,hz with
 | 0,hz=>
  simp at hz;subst hz;refine ⟨b,o,rfl,hq,hsz,?_,?_,?_,hfr⟩
  ·rw [z0Z,z0N];exact e0
  ·rw [z0Z,z0N];exact e1
  ·rw [z0Z,z0N];exact e2
 | 1,hz=>
  simp at hz;subst hz;refine ⟨b,o,rfl,hq,hsz,?_,?_,?_,hfr⟩
  ·rw [z1V];exact g0
  ·rw [z1V];exact g1
  ·rw [z1V];exact g2
 | i+2,hz=>simp at hz
end Go.Proofs.YtpigbggoiipmhaaGreatDoor
namespace Go.Proofs.YtpigbggoiipmhaaGreatDoor
set_option maxHeartbeats 4000000
open Go.RowKit Go.Sort
theorem Wr.swap {w0 w:World} {bw b o c:Nat} {s:ByteArray} {x y:Opd} (h:Wr w0 w bw s (.slice (some ⟨b,o,none⟩) 2 c) [x,y]) (hq:w0.heap.size<=b/\b≠bw):Wr w0 (tY w b (iJ o x y)) bw s (.slice (some ⟨b,o,none⟩) 2 c) [y,x]:=⟨(vY (Ne.symm hq.2) _ _).trans h.blk,TK h.own,h.old,tW hq.1 _ h.below,h.spc0⟩
def mW:Opd:=⟨3,2,0⟩
def mT:Opd:=⟨3,1,0⟩
def gI (s:ByteArray) (l:List Opd):List Opd:=if (s.toList==[69,88])&&decide (l=[mW,mT]) then [mT,mW] else l
theorem TO (w0 w:World) (bw:Nat) (s:ByteArray) (v:Value) (l:List Opd) (h:Wr w0 w bw s v l):
  Calls Tryz.prog 102 #[.pointer (some ⟨bw,0,none⟩)] w λe w'=>e=.returned (.tuple #[])/\∃v',Wr w0 w' bw s v' (gI s l):=by
 obtain ⟨a,c,rfl,hc,hm,g⟩:=h.own;have HB:Below w.heap.size w ((w.alloc (.cells #[.int .i64 3,.int .i64 2,.int .i64 0] 52)).alloc (.cells #[.int .i64 3,.int .i64 1,.int .i64 0] 52)):=((zY _ _).alloc (zI _) _).alloc (by simp) _;have H1:=aA (h.later HB);obtain ⟨e0,e1,f0,f1⟩:=H1.out.blk.two;have hbw:=h.blk.lt;cases h1:(s.toList==[69,88])
 ·have HV:=aA (show gI s l=l by simp [gI,h1]);clear g hc hm;go_enter Tryz.func102,Tryz.ntmps102;go_wp2;go_quiet (fail);go_wp2;go_end0;exact ⟨rfl,_,by rw [HV.out];exact H1.out.drewN nq⟩
 ·clear g hc hm;obtain ⟨W,hW⟩:∃W:World,W=((w.alloc (.cells #[.int .i64 3,.int .i64 2,.int .i64 0] 52)).alloc (.cells #[.int .i64 3,.int .i64 1,.int .i64 0] 52)):=⟨_,rfl⟩;have k1:Blk W w.heap.size 52 #[.int .i64 3,.int .i64 2,.int .i64 0]:=hW ▸ (Blk.new w _ _).alloc _;have k2:Blk W (w.heap.size+1) 52 #[.int .i64 3,.int .i64 1,.int .i64 0]:=by rw [hW];exact (by simpa using Blk.new (w.alloc (.cells #[.int .i64 3,.int .i64 2,.int .i64 0] 52)) 52 #[.int .i64 3,.int .i64 1,.int .i64 0])
  obtain ⟨a0,a1,a2,_⟩:=k1.three;obtain ⟨b0,b1,b2,_⟩:=k2.three;rw [<-hW] at H1 e0 e1 f0 f1;have hbW:bw < W.heap.size:=H1.out.blk.lt;have HSA:Hid (SlR aM ((W.alloc (.cells #[.int .i64 3,.int .i64 2,.int .i64 0,.int .i64 3,.int .i64 1,.int .i64 0] 52)).drew) (λ_=>True) (.slice a l.length c) l):=((H1.out.own.slR.alloc _).drew).mono (λ_ _=>trivial);have HSB:Hid (SlR aM ((W.alloc (.cells #[.int .i64 3,.int .i64 2,.int .i64 0,.int .i64 3,.int .i64 1,.int .i64 0] 52)).drew) (λ_=>True) (.slice (some ⟨W.heap.size,0,none⟩) 2 2) [mW,mT]):=(gZ (q:=λ_=>True) [mW,mT] #[.int .i64 3,.int .i64 2,.int .i64 0,.int .i64 3,.int .i64 1,.int .i64 0] 52 W.heap.size 2 rfl rfl (by simp [mW,mT,Opd.cells]) trivial (by simp)).slR.drew;have hw2:(∃wx:World,wx=W):=⟨W,rfl⟩;have hcall:=pO _ _ _ _ _ _ _ HSA.out HSB.out;cases h2:decide (l=[mW,mT]);all_goals
   simp only [h2] at hcall;have HCALL:=aA hcall;clear hcall hw2;have HW:=aA hW;go_enter Tryz.func102,Tryz.ntmps102;go_wp2;rw [<-hW];have hs1:w.heap.size < W.heap.size:=k1.lt;have hs2:w.heap.size+1 < W.heap.size:=k2.lt;have H2:=aA h2;clear hW k1 k2 HB h2;go_region_held3 (λw'=>w'.cell? ⟨bw,0,none⟩=some (.string s)/\w'.cell? ⟨bw,1,none⟩=some (.slice a l.length c)/\w'.cell? ⟨w.heap.size,0,none⟩=some (.int .i64 3)/\w'.cell? ⟨w.heap.size,1,none⟩=some (.int .i64 2)/\w'.cell? ⟨w.heap.size,2,none⟩=some (.int .i64 0)/\w'.cell? ⟨w.heap.size+1,0,none⟩=some (.int .i64 3)/\w'.cell? ⟨w.heap.size+1,1,none⟩=some (.int .i64 1)/\w'.cell? ⟨w.heap.size+1,2,none⟩=some (.int .i64 0)) (go_keep)
    (first | (go_at_call 147;refine HCALL.out.mono ?_;rintro e w' ⟨rfl,nq,rfl⟩))
  ·go_wp2;go_end0;have HV:gI s l=l:=(by simp [gI,of_decide_eq_false H2.out]);exact ⟨rfl,_,by rw [HV];exact (H1.out.alloc _).drewN _⟩
  ·go_wp2_with fail;have HX:=aA ((H1.out.alloc (.cells #[.int .i64 3,.int .i64 2,.int .i64 0,.int .i64 3,.int .i64 1,.int .i64 0] 52)).drewN (1+nq));clear HCALL HSA HSB;generalize (W.alloc (.cells #[.int .i64 3,.int .i64 2,.int .i64 0,.int .i64 3,.int .i64 1,.int .i64 0] 52)).drewN (1+nq)=W3 at *;have HV:Hid (gI s l=[mT,mW]):=(by have:=jU H2.out;exact aA (by rw [this];simp [gI,h1]));obtain rfl:l=[mW,mT]:=jU H2.out;obtain ⟨a',c',e',_,_,g⟩:=HX.out.own;injection e' with e1' _ e3';subst e1' e3';obtain ⟨b,o,rfl,hq,_,c0,c1,c2,fr⟩:=g 0 mW rfl;obtain ⟨b',o',eb,_,_,d0,d1,d2,_⟩:=g 1 mT rfl;injection eb with eb;injection eb with eb1 eb2;subst eb1 eb2;rw [z0Z,z0N] at c0 c1 c2;rw [z1V] at d0 d1 d2;refine (CK b o c mW mT W3 c0 c1 c2 d0 d1 d2 fr).mono ?_;rintro e w' ⟨rfl,rfl⟩;clear c0 c1 c2 d0 d1 d2 fr g;go_wp2;go_end0;refine ⟨rfl,.slice (some ⟨b,o,none⟩) 2 c,?_⟩;rw [HV.out];exact (HX.out.swap hq).drew
end Go.Proofs.YtpigbggoiipmhaaGreatDoor
namespace Go.Proofs.YtpigbggoiipmhaaGreatDoor
set_option maxHeartbeats 4000000
open Go.RowKit
def wJp:List ByteArray:=[⟨#[74,80]⟩,⟨#[67,65,76,76]⟩]
theorem zA:fL ⟨#[66,73,84,32,82,69,83,32,83,69,84,32,73,77,32,82,83,84,32,79,85,84]⟩=iP:=by decide+kernel
theorem DQ:fL ⟨#[74,80,32,67,65,76,76]⟩=wJp:=by decide+kernel
theorem BQ:∀(j:Nat) b,(⟨#[66,73,84,32,82,69,83,32,83,69,84,32,73,77,32,82,83,84,32,79,85,84]⟩:ByteArray).data.toList[j]?=some b->b.toNat < 128:=λ_ b h=>(by decide+kernel:∀x∈(⟨#[66,73,84,32,82,69,83,32,83,69,84,32,73,77,32,82,83,84,32,79,85,84]⟩:ByteArray).data.toList,x.toNat < 128) b (VM h)
theorem MS:∀(j:Nat) b,(⟨#[74,80,32,67,65,76,76]⟩:ByteArray).data.toList[j]?=some b->b.toNat < 128:=λ_ b h=>(by decide+kernel:∀x∈(⟨#[74,80,32,67,65,76,76]⟩:ByteArray).data.toList,x.toNat < 128) b (VM h)
theorem zX (s:ByteArray) (w:World) (hT:Spc w):Calls Tryz.prog 146 #[.string ⟨#[66,73,84,32,82,69,83,32,83,69,84,32,73,77,32,82,83,84,32,79,85,84]⟩,.string s] w λe w'=>e=.returned (.bool (inL iP s))/\Below w.heap.size w w':=oY _ iP s w zA (by decide) (by decide) BQ hT
theorem DL (s:ByteArray) (w:World) (hT:Spc w):Calls Tryz.prog 146 #[.string ⟨#[74,80,32,67,65,76,76]⟩,.string s] w λe w'=>e=.returned (.bool (inL wJp s))/\Below w.heap.size w w':=oY _ wJp s w DQ (by decide) (by decide) MS hT
theorem inL_jp (s:ByteArray):inL wJp s=((s.toList==[74,80]) || (s.toList==[67,65,76,76])):=by have e1:(⟨#[74,80]⟩:ByteArray).toList=[74,80]:=dK _;have e2:(⟨#[67,65,76,76]⟩:ByteArray).toList=[67,65,76,76]:=dK _;simp only [inL,wJp,List.any_cons,List.any_nil,Bool.or_false,e1,e2];rw [Bool.beq_comm,Bool.beq_comm (a:=[67,65,76,76])]
theorem NR (p:aB) (x:Ins) (v:Value) (w:World) (h:SlR aM w p v x.args) (hT:Spc w):
  Calls Tryz.prog 149 #[.agg #[.string x.op,v]] w λe w'=>e=.returned (.int .i64 (bW x))/\Below w.heap.size w w':=by
 obtain ⟨s,l⟩:=x;dsimp only at h;obtain ⟨a,c,rfl,hc,hm,g⟩:=h.opd;clear h;have HSP:=aA hT;clear hT;have HB0:Hid (Below w.heap.size w (w.alloc (.cells #[.string s,.slice a l.length c] 30))):=(zY _ _).alloc (zI _) _;have HK0:Hid (Blk (w.alloc (.cells #[.string s,.slice a l.length c] 30)) w.heap.size 30 #[.string s,.slice a l.length c]):=Blk.new w _ _;have hzw:=λwx hT=>zX s wx hT;have hjw:=λwx hT=>DL s wx hT;cases hz:inL iP s;all_goals simp only [hz] at hzw;have HZ:=aA hzw;clear hzw
 ·cases hj:inL wJp s;all_goals simp only [hj] at hjw;have HJ:=aA hjw;have hjp:=inL_jp s;rw [hj] at hjp;clear hjw
  ·obtain ⟨h1,h2⟩:=Bool.or_eq_false_iff.1 hjp.symm;clear hjp;cases h3:(s.toList==[76,68])
   ·clear g;have HV:=aA (show bW ⟨s,l⟩=1 by simp [bW,hz,h1,h2,h3]);exact tX10
   ·cases l with
    | nil=>clear g;have HV:=aA (show bW ⟨s,[]⟩=1 by simp [bW,hz,h1,h2,h3,uA]);go_enter Tryz.func149,Tryz.ntmps149;go_wp2_with fail;refine (HZ.out _ (HSP.out.below HB0.out)).mono ?_;rintro e w1 ⟨rfl,hb1⟩;have HB1:=aA hb1;have HK1:=aA (HK0.out.below hb1 HK0.out.lt);obtain ⟨e0,e1,_,_⟩:=HK1.out.two;clear hb1;go_wp2_with fail;refine (HJ.out _ ((HSP.out.below HB0.out).below HB1.out)).mono ?_;rintro e w2 ⟨rfl,hb2⟩;have HB2:=aA hb2;have HK2:=aA (HK1.out.below hb2 HK1.out.lt);clear e0 e1 hb2;obtain ⟨e0,e1,_,_⟩:=HK2.out.two;go_wp2;go_ret;exact ⟨bK HV.out.symm,(HB0.out.trans (HB1.out.mono HB0.out.size)).trans (HB2.out.mono (qJ HB0.out.size HB1.out.size))⟩
    | cons x l=>
     obtain ⟨b,o,rfl,_,d1,d2,d3⟩:=g 0 x rfl;clear g;simp only [Nat.zero_mul,Nat.add_zero] at d1;clear d2 d3;have hbl:b < w.heap.size:=QI w _ d1;have hk0:(0:Int) < ((x::l).length:Int):=(by simp);have hk1:0 < (x::l).length:=(by simp);cases h4:(x.kind==3)
     ·have HV:=aA (show bW ⟨s,x::l⟩=1 by simp [bW,hz,h1,h2,h3,uA,h4]);exact tXb
     ·have HV:=aA (show bW ⟨s,x::l⟩=2 by simp [bW,hz,h1,h2,h3,uA,h4]);exact tXb
  ·clear g;have HV:=aA (show bW ⟨s,l⟩=2 by have e:((s.toList==[74,80]) || (s.toList==[67,65,76,76]))=true:=hjp.symm;simp only [bW,hz,e,Bool.true_or,if_true];rfl);clear hjp;exact tX10
 ·clear g hjw;have HV:=aA (show bW ⟨s,l⟩=0 by simp [bW,hz]);go_enter Tryz.func149,Tryz.ntmps149;go_wp2_with fail;refine (HZ.out _ (HSP.out.below HB0.out)).mono ?_;rintro e w1 ⟨rfl,hb1⟩;have HB1:=aA hb1;have HK1:=aA (HK0.out.below hb1 HK0.out.lt);obtain ⟨e0,e1,_,_⟩:=HK1.out.two;clear hb1;go_wp2;go_ret;exact ⟨bK HV.out.symm,HB0.out.trans (HB1.out.mono HB0.out.size)⟩
def fE (sz:Int) (o:Opd):Opd:=if o.kind=6/\o.n < 0/\-(sz / 2)<=o.n/\1 < sz then {o with n:=o.n+sz} else o
def iT (w:Int):Int:=if w=2 then 65536 else if w=1 then 256 else 1
theorem rU (x:Ins):bW x=0\/bW x=1\/bW x=2:=by
 unfold bW;split
 ·exact .inl rfl
 ·split
  ·exact .inr (.inr rfl)
  ·exact .inr (.inl rfl)
def iN (sz:Int) (l:List Opd) (k:Nat):List Opd:=(l.take k).map (fE sz)++l.drop k
theorem jA (sz:Int) (l:List Opd):iN sz l 0=l:=by simp [iN]
theorem kH (sz:Int) (l:List Opd) (k:Nat) (h:l.length<=k):iN sz l k=l.map (fE sz):=by simp [iN,List.take_of_length_le h,List.drop_of_length_le h]
theorem SE (sz:Int) (l:List Opd) (k:Nat):(iN sz l k).length=l.length:=by simp [iN];omega
theorem lD (sz:Int) (l:List Opd) (k:Nat) (h:k < l.length):(iN sz l k)[k]?=some l[k]:=by unfold iN;rw [z0G (by simp;omega)];simp [Nat.min_eq_left (Nat.le_of_lt h)]
theorem gY (sz:Int) (l:List Opd) (k:Nat) (h:k < l.length):iN sz l (k+1)=(iN sz l k).set k (fE sz l[k]):=by unfold iN;rw [z2L _ _ (by simp;omega),ZP h];simp only [List.length_map,List.length_take,Nat.min_eq_left (Nat.le_of_lt h),Nat.sub_self,List.map_append,List.map_cons,List.map_nil,List.append_assoc];rw [ZX h];rfl
theorem iZ (sz:Int) (l:List Opd) (k:Nat) (h:k < l.length) (hn:fE sz l[k]=l[k]):iN sz l (k+1)=iN sz l k:=by
 rw [gY sz l k h,hn];refine z2J λi=>?_;by_cases hi:k=i
 ·subst hi;rw [lD sz l k h,z0M (by rw [SE];exact h)]
 ·rw [z0F hi]
theorem AX (w0 w:World) (bw:Nat) (s:ByteArray) (v:Value) (l:List Opd) (h:Wr w0 w bw s v l) (hn:∀x∈l,-9223372036854775808<=x.n/\x.n<=9223372036854775807):
  Calls Tryz.prog 103 #[.pointer (some ⟨bw,0,none⟩)] w λe w'=>e=.returned (.tuple #[])/\Wr w0 w' bw s v (l.map (fE (iT (bW ⟨s,l⟩)))):=by
 obtain ⟨a,c,rfl,hc,hm,g⟩:=h.own;have H:=aA h;have HN:=aA hn;have hwd:=λwx h1 h2=>NR (λ_=>True) ⟨s,l⟩ (.slice a l.length c) wx h1 h2;obtain ⟨e0,e1,_,_⟩:=h.blk.two;have HLEN:Hid (l.length<=9223372036854775807):=aA (by omega);clear h hn g hc hm;rcases rU ⟨s,l⟩ with hw | hw | hw
 ·rw [hw];dsimp only at hwd;rw [hw] at hwd;have HWD:=aA hwd;clear hwd;go_enter Tryz.func103,Tryz.ntmps103;go_wp2_with fail;refine (HWD.out _ (H.out.own.slR.mono (λ_ _=>trivial)) H.out.spc).mono ?_;rintro e w1 ⟨rfl,hb1⟩;have H1:=aA (H.out.later hb1);clear e0 e1 hb1;obtain ⟨e0,e1,_,_⟩:=H1.out.blk.two;go_wp2;go_loopw [3,4,18] (λ_ _ i wr=>∃k:Nat,k<=l.length/\i=.int .i64 k/\Wr w0 wr bw s (.slice a l.length c) (iN 1 l k)) (λ_ _ i _=>l.length - (intOf i).toNat);case atStart=>exact ⟨0,YD _,rfl,by rw [jA];exact H1.out⟩
  case round=>
   clear e0 e1;obtain ⟨k,hk,rfl,hwr⟩:=hrel;have HR:=aA hwr;clear hwr;have hbig:=HLEN.out;by_cases hlt:k < l.length
   ·have hat:=lD 1 l k hlt;obtain ⟨a',c',e',_,_,g⟩:=HR.out.own;injection e' with e1' _ e3';subst e1' e3';obtain ⟨b,o,rfl,hq,hb,c0,c1,c2,fr⟩:=g k _ hat;have hx:=HN.out l[k] (z0J hlt);have HST:Hid (∀m:Int,Wr w0 _ bw s _ _):=λm=>(HR.out.setN (m:=m) hat hq).alloc (.cells #[.int .i64 l[k].kind,.int .i64 l[k].reg,.int .i64 l[k].n] 52);have HSU:=aA (gY 1 l k hlt);have HSA:=aA (iZ 1 l k hlt);have hne:bw < wr.heap.size:=HR.out.blk.lt;obtain ⟨e0,e1,_,_⟩:=HR.out.blk.two;have hq2:=hq.2;clear g hat hq;generalize l[k]=x at *;obtain ⟨hx1,hx2⟩:=hx;have f2:=fr (o+k * 3+2);clear fr;have NO:Hid (¬(x.kind=6/\x.n < 0/\-(1 / 2)<=x.n/\(1:Int) < 1)->fE 1 x=x):=λh=>(by unfold fE;rw [if_neg h]);have YES:Hid ((x.kind=6/\x.n < 0/\-(1 / 2)<=x.n/\(1:Int) < 1)->fE 1 x={x with n:=x.n+1}):=λh=>(by unfold fE;rw [if_pos h]);cases h6:(x.kind==6)
    ·go_wp2;exact tX3c
    ·by_cases h0:x.n < 0
     ·by_cases h1:0<=x.n
      ·exact absurd h1 (by omega)
      ·go_wp2;exact tX3a
     ·go_wp2;exact tX51
   ·go_wp2;go_end0;refine ⟨rfl,?_⟩;have:iN 1 l k=l.map (fE (iT 0)):=kH 1 l k (by omega);rw [<-this];exact HR.out
 ·rw [hw];dsimp only at hwd;rw [hw] at hwd;have HWD:=aA hwd;clear hwd;go_enter Tryz.func103,Tryz.ntmps103;go_wp2_with fail;refine (HWD.out _ (H.out.own.slR.mono (λ_ _=>trivial)) H.out.spc).mono ?_;rintro e w1 ⟨rfl,hb1⟩;have H1:=aA (H.out.later hb1);clear e0 e1 hb1;obtain ⟨e0,e1,_,_⟩:=H1.out.blk.two;go_wp2;go_loopw [3,4,18] (λ_ _ i wr=>∃k:Nat,k<=l.length/\i=.int .i64 k/\Wr w0 wr bw s (.slice a l.length c) (iN 256 l k)) (λ_ _ i _=>l.length - (intOf i).toNat);case atStart=>exact ⟨0,YD _,rfl,by rw [jA];exact H1.out⟩
  case round=>
   clear e0 e1;obtain ⟨k,hk,rfl,hwr⟩:=hrel;have HR:=aA hwr;clear hwr;have hbig:=HLEN.out;by_cases hlt:k < l.length
   ·have hat:=lD 256 l k hlt;obtain ⟨a',c',e',_,_,g⟩:=HR.out.own;injection e' with e1' _ e3';subst e1' e3';obtain ⟨b,o,rfl,hq,hb,c0,c1,c2,fr⟩:=g k _ hat;have hx:=HN.out l[k] (z0J hlt);have HST:Hid (∀m:Int,Wr w0 _ bw s _ _):=λm=>(HR.out.setN (m:=m) hat hq).alloc (.cells #[.int .i64 l[k].kind,.int .i64 l[k].reg,.int .i64 l[k].n] 52);have HSU:=aA (gY 256 l k hlt);have HSA:=aA (iZ 256 l k hlt);have hne:bw < wr.heap.size:=HR.out.blk.lt;obtain ⟨e0,e1,_,_⟩:=HR.out.blk.two;have hq2:=hq.2;clear g hat hq;generalize l[k]=x at *;obtain ⟨hx1,hx2⟩:=hx;have f2:=fr (o+k * 3+2);clear fr;have NO:Hid (¬(x.kind=6/\x.n < 0/\-(256 / 2)<=x.n/\(1:Int) < 256)->fE 256 x=x):=λh=>(by unfold fE;rw [if_neg h]);have YES:Hid ((x.kind=6/\x.n < 0/\-(256 / 2)<=x.n/\(1:Int) < 256)->fE 256 x={x with n:=x.n+256}):=λh=>(by unfold fE;rw [if_pos h]);cases h6:(x.kind==6)
    ·go_wp2;exact tX3c
    ·by_cases h0:x.n < 0
     ·by_cases h1:-128<=x.n
      ·go_wp2;exact tX36
      ·go_wp2;exact tX3a
     ·go_wp2;exact tX51
   ·go_wp2;go_end0;refine ⟨rfl,?_⟩;have:iN 256 l k=l.map (fE (iT 1)):=kH 256 l k (by omega);rw [<-this];exact HR.out
 ·rw [hw];dsimp only at hwd;rw [hw] at hwd;have HWD:=aA hwd;clear hwd;go_enter Tryz.func103,Tryz.ntmps103;go_wp2_with fail;refine (HWD.out _ (H.out.own.slR.mono (λ_ _=>trivial)) H.out.spc).mono ?_;rintro e w1 ⟨rfl,hb1⟩;have H1:=aA (H.out.later hb1);clear e0 e1 hb1;obtain ⟨e0,e1,_,_⟩:=H1.out.blk.two;go_wp2;go_loopw [3,4,18] (λ_ _ i wr=>∃k:Nat,k<=l.length/\i=.int .i64 k/\Wr w0 wr bw s (.slice a l.length c) (iN 65536 l k)) (λ_ _ i _=>l.length - (intOf i).toNat);case atStart=>exact ⟨0,YD _,rfl,by rw [jA];exact H1.out⟩
  case round=>
   clear e0 e1;obtain ⟨k,hk,rfl,hwr⟩:=hrel;have HR:=aA hwr;clear hwr;have hbig:=HLEN.out;by_cases hlt:k < l.length
   ·have hat:=lD 65536 l k hlt;obtain ⟨a',c',e',_,_,g⟩:=HR.out.own;injection e' with e1' _ e3';subst e1' e3';obtain ⟨b,o,rfl,hq,hb,c0,c1,c2,fr⟩:=g k _ hat;have hx:=HN.out l[k] (z0J hlt);have HST:Hid (∀m:Int,Wr w0 _ bw s _ _):=λm=>(HR.out.setN (m:=m) hat hq).alloc (.cells #[.int .i64 l[k].kind,.int .i64 l[k].reg,.int .i64 l[k].n] 52);have HSU:=aA (gY 65536 l k hlt);have HSA:=aA (iZ 65536 l k hlt);have hne:bw < wr.heap.size:=HR.out.blk.lt;obtain ⟨e0,e1,_,_⟩:=HR.out.blk.two;have hq2:=hq.2;clear g hat hq;generalize l[k]=x at *;obtain ⟨hx1,hx2⟩:=hx;have f2:=fr (o+k * 3+2);clear fr;have NO:Hid (¬(x.kind=6/\x.n < 0/\-(65536 / 2)<=x.n/\(1:Int) < 65536)->fE 65536 x=x):=λh=>(by unfold fE;rw [if_neg h]);have YES:Hid ((x.kind=6/\x.n < 0/\-(65536 / 2)<=x.n/\(1:Int) < 65536)->fE 65536 x={x with n:=x.n+65536}):=λh=>(by unfold fE;rw [if_pos h]);cases h6:(x.kind==6)
    ·go_wp2;exact tX3c
    ·by_cases h0:x.n < 0
     ·by_cases h1:-32768<=x.n
      ·go_wp2;exact tX36
      ·go_wp2;exact tX3a
     ·go_wp2;exact tX51
   ·go_wp2;go_end0;refine ⟨rfl,?_⟩;have:iN 65536 l k=l.map (fE (iT 2)):=kH 65536 l k (by omega);rw [<-this];exact HR.out
def eB (s:ByteArray) (l:List Opd):List Opd:=let l2:=gI s (cP s l);l2.map (fE (iT (bW ⟨s,l2⟩)))
def aE (x:Ins):Ins:=⟨x.op,eB x.op x.args⟩
theorem tG {s:ByteArray} {l:List Opd} (h:∀x∈l,cN x.n):∀x∈cP s l,cN x.n:=by
 intro x hx;unfold cP at hx;have h0:cN (0:Int):=⟨by decide,by decide⟩;split at hx
 ·split at hx
  ·rcases ZR.1 hx with rfl | hx
   ·exact h0
   ·exact h x hx
  ·exact h x hx
 ·split at hx
  ·exact h x (by simp at hx ⊢;exact .inr hx)
  ·exact h x hx
 ·exact h x hx
theorem vR {s:ByteArray} {l:List Opd} (h:∀x∈l,cN x.n):∀x∈gI s l,cN x.n:=by
 intro x hx;unfold gI at hx;have h0:cN (0:Int):=⟨by decide,by decide⟩;split at hx
 ·simp at hx;rcases hx with rfl | rfl<;>exact h0
 ·exact h x hx
theorem EB (p:aB) (x:Ins) (v:Value) (w:World) (h:SlR aM w p v x.args) (hT:Spc w) (hn:x.args.length<=1000000) (hf:∀y∈x.args,cN y.n):
  Calls Tryz.prog 54 #[.agg #[.string x.op,v]] w λe w'=>∃v',e=.returned (.agg #[.string x.op,v'])/\aD w' (λb=>w.heap.size<=b) v' (aE x).args/\Below w.heap.size w w':=by
 obtain ⟨s,l⟩:=x;dsimp only at *;obtain ⟨a,c,rfl,_⟩:=h.opd;have H:=aA h;have HT:=aA hT;have HN:=aA hn;have HF:=aA hf;clear h hT hn hf;obtain ⟨W,hW⟩:∃W:World,W=(w.alloc (.cells #[.string s,.slice a l.length c] 30)).alloc (.cells #[.string ⟨#[]⟩,.slice none 0 0] 30):=⟨_,rfl⟩;have hbW:Below w.heap.size w W:=hW ▸ ((zY _ _).alloc (zI _) _).alloc (by simp) _;have k1:Blk W w.heap.size 30 #[.string s,.slice a l.length c]:=hW ▸ (Blk.new w _ _).alloc _;have k2:Blk W (w.heap.size+1) 30 #[.string ⟨#[]⟩,.slice none 0 0]:=by rw [hW];exact (by simpa using Blk.new (w.alloc (.cells #[.string s,.slice a l.length c] 30)) 30 #[.string ⟨#[]⟩,.slice none 0 0])
 have HBW:=aA hbW;have K2:=aA k2;obtain ⟨a0,a1,_,_⟩:=k1.two;have hs1:w.heap.size < W.heap.size:=k1.lt;have hs2:w.heap.size+1 < W.heap.size:=k2.lt;clear hbW k1 k2;go_enter Tryz.func54,Tryz.ntmps54;go_wp2;rw [<-hW];have HW:=aA hW;clear hW;have HCL:=aA (kV p _ _ W.drew (H.out.below HBW.out).drew HN.out);go_region_held3 (λw'=>w'.cell? ⟨w.heap.size,0,none⟩=some (.string s)/\w'.cell? ⟨w.heap.size,1,none⟩=some (.slice a l.length c)) (go_keep)
  (first | (go_at_call 58;refine HCL.out.mono ?_;rintro e w1 ⟨v',rfl,ho,hb⟩;have HO:=aA ho;have HB:=aA hb;obtain ⟨a',cap',rfl⟩:=ho.form;have a0':w1.cell? ⟨w.heap.size,0,none⟩=some (.string s):=(hb.cell (p:=⟨w.heap.size,0,none⟩) hs1).trans a0;have a1':w1.cell? ⟨w.heap.size,1,none⟩=some (.slice a l.length c):=(hb.cell (p:=⟨w.heap.size,1,none⟩) hs1).trans a1;clear ho hb))
 have HWR:Hid (Wr W (w1.alloc (.cells #[.string s,.slice a' l.length cap'] 163)) w1.heap.size s (.slice a' l.length cap') l):=⟨Blk.new _ _ _,(HO.out.opdOwn (q:=λb=>W.heap.size<=b/\b≠w1.heap.size) (λk hk=>⟨(HO.out.lt k hk).1,by have:=(HO.out.lt k hk).2;omega⟩)).below ((zY _ _).alloc (zI _) _),HB.out.size,(Below.trans (b:=w1) ⟨HB.out.os,HB.out.tape,HB.out.output,HB.out.size,HB.out.block⟩ ((zY _ _).mono HB.out.size |>.alloc HB.out.size _)),HT.out.below HBW.out⟩;clear a0 a1 a0' a1';generalize w1.alloc (.cells #[.string s,.slice a' l.length cap'] 163)=W2 at *;have i0:∀w,(Instr.index 165 (.agg #[.func (.func 101) #[] #[],.func (.func 102) #[] #[],.func (.func 103) #[] #[]]) (.int .i64 0)).run Tryz.prog w=.ok (.func (.func 101) #[] #[]) w:=λ_=>by kernel_rfl
 have i1:∀w,(Instr.index 165 (.agg #[.func (.func 101) #[] #[],.func (.func 102) #[] #[],.func (.func 103) #[] #[]]) (.int .i64 1)).run Tryz.prog w=.ok (.func (.func 102) #[] #[]) w:=λ_=>by kernel_rfl
 have i2:∀w,(Instr.index 165 (.agg #[.func (.func 101) #[] #[],.func (.func 102) #[] #[],.func (.func 103) #[] #[]]) (.int .i64 2)).run Tryz.prog w=.ok (.func (.func 103) #[] #[]) w:=λ_=>by kernel_rfl
 go_wp2;refine wp_loop_rounds 4 ?_;rw [rounds_succ];go_wp2_with (go_at_call 101;refine (YI _ _ _ _ _ _ HWR.out).mono ?_;rintro e w3 ⟨rfl,v3,h3⟩;have H3:=aA h3;clear h3);rw [rounds_succ];go_wp2_with (go_at_call 102;refine (TO _ _ _ _ _ _ H3.out).mono ?_;rintro e w4 ⟨rfl,v4,h4⟩;have H4:=aA h4;clear h4);rw [rounds_succ];go_wp2_with (go_at_call 103;refine (AX _ _ _ _ _ _ H4.out (vR (tG HF.out))).mono ?_;rintro e w5 ⟨rfl,h5⟩;have H5:=aA h5;clear h5);rw [rounds_succ];obtain ⟨a5,c5,rfl,_⟩:=H5.out.own;obtain ⟨e0,e1,_,_⟩:=H5.out.blk.two;have HK5:=aA (K2.out.below H5.out.below K2.out.lt);obtain ⟨r0,r1,q0,q1⟩:=HK5.out.two;have HRES:=aA ((HK5.out.set 0 (.string s)).set 1 (.slice a5 (gI s (cP s l)).length c5));go_wp2;refine yR (results_cell_row rfl _ _ (w.heap.size+1) 30 #[.string s,.slice a5 (gI s (cP s l)).length c5] (0,0) _ rfl HRES.out Tryz.underlying30 rfl (by kernel_rfl)) rfl ⟨.slice a5 (gI s (cP s l)).length c5,rfl,?_,?_⟩
 ·have ho:=H5.out.own;rw [z0B] at ho;have ho2:aD w5 (λb=>W.heap.size<=b) (.slice a5 (gI s (cP s l)).length c5) (eB s l):=ho.mono (λ_ hk=>hk.1);refine (ho2.keep λk hk=>?_).mono (λk (hk:W.heap.size<=k)=>by omega);have hk':W.heap.size<=k:=hk;exact tX7c
 ·exact ((HBW.out.trans (H5.out.below.mono HBW.out.size)).setCell (p:=⟨w.heap.size+1,0,none⟩) (by simp) _).setCell (p:=⟨w.heap.size+1,1,none⟩) (by simp) _
end Go.Proofs.YtpigbggoiipmhaaGreatDoor
