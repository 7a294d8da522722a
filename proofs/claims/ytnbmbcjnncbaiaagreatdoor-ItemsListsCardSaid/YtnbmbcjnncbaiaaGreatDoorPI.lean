/-
  The reference's instructions with the prefix CB. Conditions: the opcode is a byte.
-/
import Derived.Test.YtnbmbcjnncbaiaaGreatDoorPG
namespace Go.Proofs.YtnbmbcjnncbaiaaGreatDoor
set_option maxHeartbeats 40000000
set_option maxRecDepth 100000
open Go.RowKit Go.Shelf Go.Sort
def OwO (w:World) (B:Nat) (v:Value) (l:List Opd):Prop:=Own opdR w B 93 NoB v l
theorem OwO.below {w w':World} {B:Nat} {v:Value} {l:List Opd} (h:OwO w B v l) (hb:Below w.heap.size w w'):OwO w' B v l:=Own.keep h (Keep.of_below hb (fun k hk=>by rcases hk with hk | hk;exact hk.elim;exact (Own.lt h k hk).2))
theorem OwO.far {w:World} {B:Nat} {v:Value} {l:List Opd} (h:OwO w B v l) {p:Addr} (hp:p.block < B) (u:Value):OwO (w.setCell p u) B v l:=
 Own.keep h (Keep.setCell (fun k hk=>by
  rcases hk with hk | hk
  ·exact hk.elim
  ·have:=(Own.lt h k hk).1;omega) u)
theorem OwO.form {w:World} {B:Nat} {v:Value} {l:List Opd} (h:OwO w B v l):∃a c,v=.slice a l.length c:=Own.form h
theorem one_own (x:Opd) (w:World):Calls Tryz.prog 118 #[.agg #[.int .i64 x.kind,.int .i64 x.reg,.int .i64 x.n]] w fun e w'=>∃v,e=.returned v∧OwO w' w.heap.size v [x]∧Below w.heap.size w w':=by
 go_enter Tryz.func118,Tryz.ntmps118
 go_wp2
 go_ret
 refine ⟨_,rfl,?_,((Below.refl _ _).alloc (Nat.le_refl _) _).alloc (by simp) _⟩
 have h:=(Own.lit (h0:=fun _=>rfl) (h1:=fun _ u hu=>by simp [Opd.cells] at hu;rcases hu with rfl | rfl | rfl<;>rfl) (w.alloc (.cells #[.int .i64 x.kind,.int .i64 x.reg,.int .i64 x.n] 93)) 93 [x] (#[.int .i64 x.kind,.int .i64 x.reg,.int .i64 x.n]) 1 rfl (enc:=Opd.cells) (n:=3) rfl (by simp))
 rw [World.size_alloc] at h
 exact h.base (by omega)
theorem two_own (x y:Opd) (w:World):Calls Tryz.prog 115 #[.agg #[.int .i64 x.kind,.int .i64 x.reg,.int .i64 x.n],.agg #[.int .i64 y.kind,.int .i64 y.reg,.int .i64 y.n]] w fun e w'=>∃v,e=.returned v∧OwO w' w.heap.size v [x,y]∧Below w.heap.size w w':=by
 go_enter Tryz.func115,Tryz.ntmps115
 go_wp2
 go_ret
 refine ⟨_,rfl,?_,(((Below.refl _ _).alloc (Nat.le_refl _) _).alloc (by simp) _).alloc (by rw [World.size_alloc,World.size_alloc];omega) _⟩
 have h:=(Own.lit (h0:=fun _=>rfl) (h1:=fun _ u hu=>by simp [Opd.cells] at hu;rcases hu with rfl | rfl | rfl<;>rfl) ((w.alloc (.cells #[.int .i64 x.kind,.int .i64 x.reg,.int .i64 x.n] 93)).alloc (.cells #[.int .i64 y.kind,.int .i64 y.reg,.int .i64 y.n] 93)) 93 [x,y] (#[.int .i64 x.kind,.int .i64 x.reg,.int .i64 x.n,.int .i64 y.kind,.int .i64 y.reg,.int .i64 y.n]) 2 rfl (enc:=Opd.cells) (n:=3) rfl (by simp))
 rw [World.size_alloc,World.size_alloc] at h
 exact h.base (by omega)
theorem ins_own (s:ByteArray) (a:Option Addr) (n c:Nat) (w:World) {B:Nat} {l:List Opd} (ho:OwO w B (.slice a n c) l):Calls Tryz.prog 114 #[.string s,.slice a n c] w fun e w'=>e=.returned (.agg #[.string s,.slice a n c])∧OwO w' B (.slice a n c) l∧Below w.heap.size w w':=by
 have HO:=Lib.hid ho
 clear ho
 go_enter Tryz.func114,Tryz.ntmps114
 go_wp2
 have hb:=(Below.refl w.heap.size w).alloc (Nat.le_refl _) (.cells #[.string s,.slice a n c] 27)
 refine bodyPost_ret (ins_end rfl rfl (Blk.new w _ _)) rfl ⟨rfl,HO.out.below hb,hb⟩
def InsOw (w:World) (s:ByteArray) (l:List Opd) (e:Ending) (w':World):Prop:=∃v,e=.returned (.agg #[.string s,v])∧OwO w' w.heap.size v l∧Below w.heap.size w w'
theorem put_own {w0 w1:World} {b B:Nat} {v x y:Value} {l:List Opd} (hB:Below w0.heap.size w0 w1) (ho:OwO w1 B v l) (hq:b < B) (hb:w0.heap.size≤b):
  OwO ((w1.setCell ⟨b,0,none⟩ x).setCell ⟨b,1,none⟩ y) w0.heap.size v l∧Below w0.heap.size w0 ((w1.setCell ⟨b,0,none⟩ x).setCell ⟨b,1,none⟩ y):=
 ⟨Own.base ((ho.far (p:=⟨b,0,none⟩) hq x).far (p:=⟨b,1,none⟩) hq y) (by omega),(hB.setCell hb _).setCell hb _⟩
theorem frLo {f:FuncId} {args:Array Value} {w0 W:World} {L:List (Nat × TypeId × Array Value)} {l:List Opd} {b:Nat} {t:TypeId} {cs:Array Value} (H:Hid (Fr w0 L W)) (hi:(b,t,cs)∈L)
  (h:Calls Tryz.prog f args W fun e w'=>∃v,e=.returned v∧OwO w' W.heap.size v l∧Below W.heap.size W w'):Calls Tryz.prog f args W fun e w'=>∃a c,e=.returned (.slice a l.length c)∧Hid (OwO w' (b+1) (.slice a l.length c) l)∧Hid (Fr w0 L w'):=
 h.mono fun _ _ ⟨_,hv,ho,hb⟩=>by
  obtain ⟨a,c,rfl⟩:=ho.form
  exact ⟨a,c,hv,Lib.hid (Own.base ho (H.out.mem b t cs hi).lt),Lib.hid (H.out.next hb)⟩
theorem frIo {f:FuncId} {args:Array Value} {w0 W:World} {L:List (Nat × TypeId × Array Value)} {l:List Opd} {B:Nat} {v r:Value} (H:Hid (Fr w0 L W))
  (h:Calls Tryz.prog f args W fun e w'=>e=.returned r∧OwO w' B v l∧Below W.heap.size W w'):Calls Tryz.prog f args W fun e w'=>e=.returned r∧Hid (OwO w' B v l)∧Hid (Fr w0 L w'):=
 h.mono fun _ _ ⟨hr,ho,hb⟩=>⟨hr,Lib.hid ho,Lib.hid (H.out.next hb)⟩
end Go.Proofs.YtnbmbcjnncbaiaaGreatDoor
namespace Go.Proofs.YtnbmbcjnncbaiaaGreatDoor
set_option maxHeartbeats 40000000
set_option maxRecDepth 100000
open Go.RowKit Go.Shelf Go.Sort
def cbN (y:Int):ByteArray:=if y=0 then ⟨#[82,76,67]⟩ else if y=1 then ⟨#[82,82,67]⟩ else if y=2 then ⟨#[82,76]⟩ else if y=3 then ⟨#[82,82]⟩ else if y=4 then ⟨#[83,76,65]⟩ else if y=5 then ⟨#[83,82,65]⟩ else if y=6 then ⟨#[83,76,76]⟩ else ⟨#[83,82,76]⟩
theorem cb_0 (op:Int) (m:Nat) (hm:m < 8) (o:Opd) (h0:0≤op) (h8:op < 256) (hx:op / 64=0) (hy:op / 8 % 8=(m:Int)) (w:World):Calls Tryz.prog 83 #[.int .u8 op,.agg #[.int .i64 o.kind,.int .i64 o.reg,.int .i64 o.n]] w (InsOw w (cbN m) [o]):=by
 have:m=0∨m=1∨m=2∨m=3∨m=4∨m=5∨m=6∨m=7:=by omega
 rcases this with rfl | rfl | rfl | rfl | rfl | rfl | rfl | rfl
 all_goals
  have HX:=Lib.hid (((Fr.start w).new 93 #[.int .i64 o.kind,.int .i64 o.reg,.int .i64 o.n]).new' 27 #[.string ⟨#[]⟩,.slice none 0 0] (b:=w.heap.size+1) (by rw [World.size_alloc]))
  have H:=Lib.hid HX.out.drew
  have HA:=Lib.hid (HX.out.new' 9 #[.string ⟨#[82,76,67]⟩,.string ⟨#[82,82,67]⟩,.string ⟨#[82,76]⟩,.string ⟨#[82,82]⟩,.string ⟨#[83,76,65]⟩,.string ⟨#[83,82,65]⟩,.string ⟨#[83,76,76]⟩,.string ⟨#[83,82,76]⟩] (b:=w.heap.size+2) (by rw [World.size_alloc,World.size_alloc])).drew
  go_enter Tryz.func83,Tryz.ntmps83
  go_upto_region 4 with fail
  obtain ⟨f0,f1,f2,_,_,_⟩:=(H.out.mem w.heap.size 93 #[.int .i64 o.kind,.int .i64 o.reg,.int .i64 o.n] (by simp)).three
  obtain ⟨e0,e1,d0,d1⟩:=(H.out.mem (w.heap.size+1) 27 #[.string ⟨#[]⟩,.slice none 0 0] (by simp)).two
  have n3:=(H.out.mem (w.heap.size+1) 27 #[.string ⟨#[]⟩,.slice none 0 0] (by simp)).lt
  obtain ⟨p0,p1,p2,_,_,_⟩:=(HA.out.mem w.heap.size 93 #[.int .i64 o.kind,.int .i64 o.reg,.int .i64 o.n] (by simp)).three
  go_region_law ((go_simp;(first
    | (go_at_call 118;refine (frLo (b:=w.heap.size+1) (t:=27) (cs:=#[.string ⟨#[]⟩,.slice none 0 0]) (Lib.hid (HX.out.new' 9 #[.string ⟨#[82,76,67]⟩,.string ⟨#[82,82,67]⟩,.string ⟨#[82,76]⟩,.string ⟨#[82,82]⟩,.string ⟨#[83,76,65]⟩,.string ⟨#[83,82,65]⟩,.string ⟨#[83,76,76]⟩,.string ⟨#[83,82,76]⟩] (b:=w.heap.size+2) (by rw [World.size_alloc,World.size_alloc])).drew) (by simp) (one_own _ _)).mono ?_;rintro e w' ⟨va,vc,rfl,HO,Hn⟩;clear f0 f1 f2 e0 e1 d0 d1 n3;clear H;have H:=Hn;clear Hn;have HS:=Lib.hid (H.out.blk 0 rfl);have s0:=HS.out.cell 0;have s1:=HS.out.cell 1;have s2:=HS.out.cell 2;have s3:=HS.out.cell 3;have s4:=HS.out.cell 4;have s5:=HS.out.cell 5;have s6:=HS.out.cell 6;have s7:=HS.out.cell 7;obtain ⟨f0,f1,f2,_,_,_⟩:=(H.out.mem w.heap.size 93 #[.int .i64 o.kind,.int .i64 o.reg,.int .i64 o.n] (by simp)).three;obtain ⟨e0,e1,d0,d1⟩:=(H.out.mem (w.heap.size+1) 27 #[.string ⟨#[]⟩,.slice none 0 0] (by simp)).two;have n3:=(H.out.mem (w.heap.size+1) 27 #[.string ⟨#[]⟩,.slice none 0 0] (by simp)).lt)
    | (go_at_call 118;refine (frLo (b:=w.heap.size+1) (t:=27) (cs:=#[.string ⟨#[]⟩,.slice none 0 0]) H (by simp) (one_own _ _)).mono ?_;rintro e w' ⟨va,vc,rfl,HO,Hn⟩;clear f0 f1 f2 e0 e1 d0 d1 n3;clear H;have H:=Hn;clear Hn;obtain ⟨f0,f1,f2,_,_,_⟩:=(H.out.mem w.heap.size 93 #[.int .i64 o.kind,.int .i64 o.reg,.int .i64 o.n] (by simp)).three;obtain ⟨e0,e1,d0,d1⟩:=(H.out.mem (w.heap.size+1) 27 #[.string ⟨#[]⟩,.slice none 0 0] (by simp)).two;have n3:=(H.out.mem (w.heap.size+1) 27 #[.string ⟨#[]⟩,.slice none 0 0] (by simp)).lt)
    | (go_at_call 114;refine (frIo H (ins_own _ _ _ _ _ HO.out)).mono ?_;rintro e w' ⟨rfl,HOn,Hn⟩;clear f0 f1 f2 e0 e1 d0 d1 n3;clear HO H;have HO:=HOn;have H:=Hn;clear HOn Hn;obtain ⟨f0,f1,f2,_,_,_⟩:=(H.out.mem w.heap.size 93 #[.int .i64 o.kind,.int .i64 o.reg,.int .i64 o.n] (by simp)).three;obtain ⟨e0,e1,d0,d1⟩:=(H.out.mem (w.heap.size+1) 27 #[.string ⟨#[]⟩,.slice none 0 0] (by simp)).two;have n3:=(H.out.mem (w.heap.size+1) 27 #[.string ⟨#[]⟩,.slice none 0 0] (by simp)).lt)
    | (go_at_call 114;refine (frIo (Lib.hid (H.out.alloc _)) (ins_own _ _ _ _ _ (HO.out.below ((Below.refl _ _).alloc (Nat.le_refl _) _)))).mono ?_;rintro e w' ⟨rfl,HOn,Hn⟩;clear f0 f1 f2 e0 e1 d0 d1 n3;clear HO H;have HO:=HOn;have H:=Hn;clear HOn Hn;obtain ⟨f0,f1,f2,_,_,_⟩:=(H.out.mem w.heap.size 93 #[.int .i64 o.kind,.int .i64 o.reg,.int .i64 o.n] (by simp)).three;obtain ⟨e0,e1,d0,d1⟩:=(H.out.mem (w.heap.size+1) 27 #[.string ⟨#[]⟩,.slice none 0 0] (by simp)).two;have n3:=(H.out.mem (w.heap.size+1) 27 #[.string ⟨#[]⟩,.slice none 0 0] (by simp)).lt));dsimp only))
  all_goals go_wp2
  all_goals have hpo:=fun x=>put_own (x:=x) (y:=.slice va 1 vc) H.out.below HO.out (Nat.lt_succ_self _) (Nat.le_succ _)
  all_goals exact bodyPost_ret (ins_end rfl rfl (((H.out.mem (w.heap.size+1) 27 #[.string ⟨#[]⟩,.slice none 0 0] (by simp)).set 0 _).set 1 _)) rfl ⟨_,rfl,(hpo _).1,(hpo _).2⟩
theorem cb_1 (op y:Int) (o:Opd) (h0:0≤op) (h8:op < 256) (hx:op / 64=1) (hy:op / 8 % 8=y) (w:World):Calls Tryz.prog 83 #[.int .u8 op,.agg #[.int .i64 o.kind,.int .i64 o.reg,.int .i64 o.n]] w (InsOw w ⟨#[66,73,84]⟩ [immO y,o]):=by
 have H:=Lib.hid (((Fr.start w).new 93 #[.int .i64 o.kind,.int .i64 o.reg,.int .i64 o.n]).new' 27 #[.string ⟨#[]⟩,.slice none 0 0] (b:=w.heap.size+1) (by rw [World.size_alloc])).drew
 go_enter Tryz.func83,Tryz.ntmps83
 go_upto_region 6 with fail
 obtain ⟨f0,f1,f2,_,_,_⟩:=(H.out.blk 1 rfl).three
 obtain ⟨e0,e1,d0,d1⟩:=(H.out.blk 0 rfl).two
 go_region_held3 (fun w'=>w'.cell? ⟨w.heap.size,0,none⟩=some (.int .i64 o.kind)∧w'.cell? ⟨w.heap.size,1,none⟩=some (.int .i64 o.reg)∧w'.cell? ⟨w.heap.size,2,none⟩=some (.int .i64 o.n)) (go_keep)
  (first
   | (go_at_call 119;refine (frO H (imm9_any _ _)).mono ?_;rintro e w' ⟨rfl,H⟩;obtain ⟨f0,f1,f2,_,_,_⟩:=(H.out.blk 1 rfl).three)
   | (go_at_call 115;refine (frLo (b:=w.heap.size+1) (t:=27) (cs:=#[.string ⟨#[]⟩,.slice none 0 0]) H (by simp) (two_own _ _ _)).mono ?_;rintro e w' ⟨va,vc,rfl,HO,H⟩;obtain ⟨f0,f1,f2,_,_,_⟩:=(H.out.blk 1 rfl).three)
   | (go_at_call 114;refine (frIo H (ins_own _ _ _ _ _ HO.out)).mono ?_;rintro e w' ⟨rfl,HO,H⟩;obtain ⟨e0,e1,d0,d1⟩:=(H.out.blk 0 rfl).two;obtain ⟨f0,f1,f2,_,_,_⟩:=(H.out.blk 1 rfl).three))
 go_wp2
 obtain ⟨h1,h2⟩:=put_own (x:=.string ⟨#[66,73,84]⟩) (y:=.slice va 2 vc) H.out.below HO.out (Nat.lt_succ_self _) (Nat.le_succ _)
 exact bodyPost_ret (ins_end rfl rfl (((H.out.blk 0 rfl).set 0 _).set 1 _)) rfl ⟨_,rfl,h1,h2⟩
theorem cb_2 (op y:Int) (o:Opd) (h0:0≤op) (h8:op < 256) (hx:op / 64=2) (hy:op / 8 % 8=y) (w:World):Calls Tryz.prog 83 #[.int .u8 op,.agg #[.int .i64 o.kind,.int .i64 o.reg,.int .i64 o.n]] w (InsOw w ⟨#[82,69,83]⟩ [immO y,o]):=by
 have H:=Lib.hid (((Fr.start w).new 93 #[.int .i64 o.kind,.int .i64 o.reg,.int .i64 o.n]).new' 27 #[.string ⟨#[]⟩,.slice none 0 0] (b:=w.heap.size+1) (by rw [World.size_alloc])).drew
 go_enter Tryz.func83,Tryz.ntmps83
 go_upto_region 8 with fail
 obtain ⟨f0,f1,f2,_,_,_⟩:=(H.out.blk 1 rfl).three
 obtain ⟨e0,e1,d0,d1⟩:=(H.out.blk 0 rfl).two
 go_region_held3 (fun w'=>w'.cell? ⟨w.heap.size,0,none⟩=some (.int .i64 o.kind)∧w'.cell? ⟨w.heap.size,1,none⟩=some (.int .i64 o.reg)∧w'.cell? ⟨w.heap.size,2,none⟩=some (.int .i64 o.n)) (go_keep)
  (first
   | (go_at_call 119;refine (frO H (imm9_any _ _)).mono ?_;rintro e w' ⟨rfl,H⟩;obtain ⟨f0,f1,f2,_,_,_⟩:=(H.out.blk 1 rfl).three)
   | (go_at_call 115;refine (frLo (b:=w.heap.size+1) (t:=27) (cs:=#[.string ⟨#[]⟩,.slice none 0 0]) H (by simp) (two_own _ _ _)).mono ?_;rintro e w' ⟨va,vc,rfl,HO,H⟩;obtain ⟨f0,f1,f2,_,_,_⟩:=(H.out.blk 1 rfl).three)
   | (go_at_call 114;refine (frIo H (ins_own _ _ _ _ _ HO.out)).mono ?_;rintro e w' ⟨rfl,HO,H⟩;obtain ⟨e0,e1,d0,d1⟩:=(H.out.blk 0 rfl).two;obtain ⟨f0,f1,f2,_,_,_⟩:=(H.out.blk 1 rfl).three))
 go_wp2
 obtain ⟨h1,h2⟩:=put_own (x:=.string ⟨#[82,69,83]⟩) (y:=.slice va 2 vc) H.out.below HO.out (Nat.lt_succ_self _) (Nat.le_succ _)
 exact bodyPost_ret (ins_end rfl rfl (((H.out.blk 0 rfl).set 0 _).set 1 _)) rfl ⟨_,rfl,h1,h2⟩
theorem cb_3 (op y:Int) (o:Opd) (h0:0≤op) (h8:op < 256) (hx:op / 64=3) (hy:op / 8 % 8=y) (w:World):Calls Tryz.prog 83 #[.int .u8 op,.agg #[.int .i64 o.kind,.int .i64 o.reg,.int .i64 o.n]] w (InsOw w ⟨#[83,69,84]⟩ [immO y,o]):=by
 have H:=Lib.hid (((Fr.start w).new 93 #[.int .i64 o.kind,.int .i64 o.reg,.int .i64 o.n]).new' 27 #[.string ⟨#[]⟩,.slice none 0 0] (b:=w.heap.size+1) (by rw [World.size_alloc])).drew
 go_enter Tryz.func83,Tryz.ntmps83
 go_upto_region 9 with fail
 obtain ⟨f0,f1,f2,_,_,_⟩:=(H.out.blk 1 rfl).three
 obtain ⟨e0,e1,d0,d1⟩:=(H.out.blk 0 rfl).two
 go_region_held3 (fun w'=>w'.cell? ⟨w.heap.size,0,none⟩=some (.int .i64 o.kind)∧w'.cell? ⟨w.heap.size,1,none⟩=some (.int .i64 o.reg)∧w'.cell? ⟨w.heap.size,2,none⟩=some (.int .i64 o.n)) (go_keep)
  (first
   | (go_at_call 119;refine (frO H (imm9_any _ _)).mono ?_;rintro e w' ⟨rfl,H⟩;obtain ⟨f0,f1,f2,_,_,_⟩:=(H.out.blk 1 rfl).three)
   | (go_at_call 115;refine (frLo (b:=w.heap.size+1) (t:=27) (cs:=#[.string ⟨#[]⟩,.slice none 0 0]) H (by simp) (two_own _ _ _)).mono ?_;rintro e w' ⟨va,vc,rfl,HO,H⟩;obtain ⟨f0,f1,f2,_,_,_⟩:=(H.out.blk 1 rfl).three)
   | (go_at_call 114;refine (frIo H (ins_own _ _ _ _ _ HO.out)).mono ?_;rintro e w' ⟨rfl,HO,H⟩;obtain ⟨e0,e1,d0,d1⟩:=(H.out.blk 0 rfl).two;obtain ⟨f0,f1,f2,_,_,_⟩:=(H.out.blk 1 rfl).three))
 go_wp2
 obtain ⟨h1,h2⟩:=put_own (x:=.string ⟨#[83,69,84]⟩) (y:=.slice va 2 vc) H.out.below HO.out (Nat.lt_succ_self _) (Nat.le_succ _)
 exact bodyPost_ret (ins_end rfl rfl (((H.out.blk 0 rfl).set 0 _).set 1 _)) rfl ⟨_,rfl,h1,h2⟩
def cbF (op:Int) (o:Opd):ByteArray × List Opd:=
 if op / 64=0 then (cbN (op / 8 % 8),[o]) else if op / 64=1 then (⟨#[66,73,84]⟩,[immO (op / 8 % 8),o]) else if op / 64=2 then (⟨#[82,69,83]⟩,[immO (op / 8 % 8),o]) else (⟨#[83,69,84]⟩,[immO (op / 8 % 8),o])
theorem cb9_any (op:Int) (o:Opd) (h0:0≤op) (h8:op < 256) (w:World):Calls Tryz.prog 83 #[.int .u8 op,.agg #[.int .i64 o.kind,.int .i64 o.reg,.int .i64 o.n]] w (InsOw w (cbF op o).1 (cbF op o).2):=by
 have hx:op / 64=0∨op / 64=1∨op / 64=2∨op / 64=3:=by omega
 rcases hx with hx | hx | hx | hx
 ·obtain ⟨m,hm⟩:=Int.eq_ofNat_of_zero_le (show 0≤op / 8 % 8 by omega)
  have e:cbF op o=(cbN m,[o]):=by unfold cbF;rw [if_pos hx,hm]
  rw [e]
  exact cb_0 op m (by omega) o h0 h8 hx hm w
 ·have e:cbF op o=(⟨#[66,73,84]⟩,[immO (op / 8 % 8),o]):=by unfold cbF;rw [if_neg (show ¬op / 64=0 by omega),if_pos hx]
  rw [e]
  exact cb_1 op _ o h0 h8 hx rfl w
 ·have e:cbF op o=(⟨#[82,69,83]⟩,[immO (op / 8 % 8),o]):=by unfold cbF;rw [if_neg (show ¬op / 64=0 by omega),if_neg (show ¬op / 64=1 by omega),if_pos hx]
  rw [e]
  exact cb_2 op _ o h0 h8 hx rfl w
 ·have e:cbF op o=(⟨#[83,69,84]⟩,[immO (op / 8 % 8),o]):=by unfold cbF;rw [if_neg (show ¬op / 64=0 by omega),if_neg (show ¬op / 64=1 by omega),if_neg (show ¬op / 64=2 by omega)]
  rw [e]
  exact cb_3 op _ o h0 h8 hx rfl w
end Go.Proofs.YtnbmbcjnncbaiaaGreatDoor
