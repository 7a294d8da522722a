/-
  The reference's instructions with the prefix CB and the first with ED. Conditions: the opcode is a byte.
-/
import Derived.Test.YtjmekllgnhkodaaGreatDoorPG
namespace Go.Proofs.YtjmekllgnhkodaaGreatDoor
set_option maxHeartbeats 40000000
set_option maxRecDepth 100000
open Go.RowKit Go.Shelf Go.Sort
def OwO (w:World) (B:Nat) (v:Value) (l:List Opd):Prop:=Own opdR w B 90 NoB v l
theorem OwO.below {w w':World} {B:Nat} {v:Value} {l:List Opd} (h:OwO w B v l) (hb:Below w.heap.size w w'):OwO w' B v l:=Own.keep h (Keep.of_below hb (fun k hk=>by rcases hk with hk | hk;exact hk.elim;exact (Own.lt h k hk).2))
theorem OwO.far {w:World} {B:Nat} {v:Value} {l:List Opd} (h:OwO w B v l) {p:Addr} (hp:p.block < B) (u:Value):OwO (w.setCell p u) B v l:=
 Own.keep h (Keep.setCell (fun k hk=>by
  rcases hk with hk | hk
  ·exact hk.elim
  ·have:=(Own.lt h k hk).1;omega) u)
theorem OwO.form {w:World} {B:Nat} {v:Value} {l:List Opd} (h:OwO w B v l):∃a c,v=.slice a l.length c:=Own.form h
theorem one_own (x:Opd) (w:World):Calls Tryz.prog 107 #[.agg #[.int .i64 x.kind,.int .i64 x.reg,.int .i64 x.n]] w fun e w'=>∃v,e=.returned v∧OwO w' w.heap.size v [x]∧Below w.heap.size w w':=by
 go_enter Tryz.func107,Tryz.ntmps107
 go_wp2
 go_ret
 refine ⟨_,rfl,?_,((Below.refl _ _).alloc (Nat.le_refl _) _).alloc (by simp) _⟩
 have h:=(Own.lit (h0:=fun _=>rfl) (h1:=fun _ u hu=>by simp [Opd.cells] at hu;rcases hu with rfl | rfl | rfl<;>rfl) (w.alloc (.cells #[.int .i64 x.kind,.int .i64 x.reg,.int .i64 x.n] 90)) 90 [x] (#[.int .i64 x.kind,.int .i64 x.reg,.int .i64 x.n]) 1 rfl (enc:=Opd.cells) (n:=3) rfl (by simp))
 rw [World.size_alloc] at h
 exact h.base (by omega)
theorem two_own (x y:Opd) (w:World):Calls Tryz.prog 104 #[.agg #[.int .i64 x.kind,.int .i64 x.reg,.int .i64 x.n],.agg #[.int .i64 y.kind,.int .i64 y.reg,.int .i64 y.n]] w fun e w'=>∃v,e=.returned v∧OwO w' w.heap.size v [x,y]∧Below w.heap.size w w':=by
 go_enter Tryz.func104,Tryz.ntmps104
 go_wp2
 go_ret
 refine ⟨_,rfl,?_,(((Below.refl _ _).alloc (Nat.le_refl _) _).alloc (by simp) _).alloc (by rw [World.size_alloc,World.size_alloc];omega) _⟩
 have h:=(Own.lit (h0:=fun _=>rfl) (h1:=fun _ u hu=>by simp [Opd.cells] at hu;rcases hu with rfl | rfl | rfl<;>rfl) ((w.alloc (.cells #[.int .i64 x.kind,.int .i64 x.reg,.int .i64 x.n] 90)).alloc (.cells #[.int .i64 y.kind,.int .i64 y.reg,.int .i64 y.n] 90)) 90 [x,y] (#[.int .i64 x.kind,.int .i64 x.reg,.int .i64 x.n,.int .i64 y.kind,.int .i64 y.reg,.int .i64 y.n]) 2 rfl (enc:=Opd.cells) (n:=3) rfl (by simp))
 rw [World.size_alloc,World.size_alloc] at h
 exact h.base (by omega)
theorem ins_own (s:ByteArray) (a:Option Addr) (n c:Nat) (w:World) {B:Nat} {l:List Opd} (ho:OwO w B (.slice a n c) l):Calls Tryz.prog 103 #[.string s,.slice a n c] w fun e w'=>e=.returned (.agg #[.string s,.slice a n c])∧OwO w' B (.slice a n c) l∧Below w.heap.size w w':=by
 have HO:=Lib.hid ho
 clear ho
 go_enter Tryz.func103,Tryz.ntmps103
 go_wp2
 have hb:=(Below.refl w.heap.size w).alloc (Nat.le_refl _) (.cells #[.string s,.slice a n c] 27)
 refine bodyPost_ret (ins_end rfl rfl (Blk.new w _ _)) rfl ⟨rfl,HO.out.below hb,hb⟩
def InsOw (w:World) (s:ByteArray) (l:List Opd) (e:Ending) (w':World):Prop:=∃v,e=.returned (.agg #[.string s,v])∧OwO w' w.heap.size v l∧Below w.heap.size w w'
theorem put_own {w0 w1:World} {b B:Nat} {v x y:Value} {l:List Opd} (hB:Below w0.heap.size w0 w1) (ho:OwO w1 B v l) (hq:b < B) (hb:w0.heap.size≤b):
  OwO ((w1.setCell ⟨b,0,none⟩ x).setCell ⟨b,1,none⟩ y) w0.heap.size v l∧Below w0.heap.size w0 ((w1.setCell ⟨b,0,none⟩ x).setCell ⟨b,1,none⟩ y):=
 ⟨Own.base ((ho.far (p:=⟨b,0,none⟩) hq x).far (p:=⟨b,1,none⟩) hq y) (by omega),(hB.setCell hb _).setCell hb _⟩
theorem frLo {f:FuncId} {args:Array Value} {w0 W:World} {L:List (Nat × TypeId × Array Value)} {l:List Opd} {b:Nat} {t:TypeId} {cs:Array Value} (H:Hid (Fr w0 L W)) (hi:(b,t,cs)∈L)
  (h:Calls Tryz.prog f args W fun e w'=>∃v,e=.returned v∧OwO w' W.heap.size v l∧Below W.heap.size W w'):Calls Tryz.prog f args W fun e w'=>∃a c,e=.returned (.slice a l.length c)∧Hid (OwO w' (b+1) (.slice a l.length c) l)∧Hid (Fr w0 L w'):=
 h.mono fun _ _ ⟨_,hv,ho,hb⟩=>by
  obtain ⟨a,c,rfl⟩:=ho.form
  exact ⟨a,c,hv,Lib.hid (Own.base ho (H.out.mem b t cs hi).lt),Lib.hid (H.out.next hb)⟩
theorem frIo {f:FuncId} {args:Array Value} {w0 W:World} {L:List (Nat × TypeId × Array Value)} {l:List Opd} {B:Nat} {v r:Value} (H:Hid (Fr w0 L W))
  (h:Calls Tryz.prog f args W fun e w'=>e=.returned r∧OwO w' B v l∧Below W.heap.size W w'):Calls Tryz.prog f args W fun e w'=>e=.returned r∧Hid (OwO w' B v l)∧Hid (Fr w0 L w'):=
 h.mono fun _ _ ⟨hr,ho,hb⟩=>⟨hr,Lib.hid ho,Lib.hid (H.out.next hb)⟩
end Go.Proofs.YtjmekllgnhkodaaGreatDoor
namespace Go.Proofs.YtjmekllgnhkodaaGreatDoor
set_option maxHeartbeats 40000000
set_option maxRecDepth 100000
open Go.RowKit Go.Shelf Go.Sort
def cbN (y:Int):ByteArray:=if y=0 then ⟨#[82,76,67]⟩ else if y=1 then ⟨#[82,82,67]⟩ else if y=2 then ⟨#[82,76]⟩ else if y=3 then ⟨#[82,82]⟩ else if y=4 then ⟨#[83,76,65]⟩ else if y=5 then ⟨#[83,82,65]⟩ else if y=6 then ⟨#[83,76,76]⟩ else ⟨#[83,82,76]⟩
theorem cb_0 (op:Int) (m:Nat) (hm:m < 8) (o:Opd) (h0:0≤op) (h8:op < 256) (hx:op / 64=0) (hy:op / 8 % 8=(m:Int)) (w:World):Calls Tryz.prog 67 #[.int .u8 op,.agg #[.int .i64 o.kind,.int .i64 o.reg,.int .i64 o.n]] w (InsOw w (cbN m) [o]):=by
 have:m=0∨m=1∨m=2∨m=3∨m=4∨m=5∨m=6∨m=7:=by omega
 rcases this with rfl | rfl | rfl | rfl | rfl | rfl | rfl | rfl
 all_goals
  have HX:=Lib.hid (((Fr.start w).new 90 #[.int .i64 o.kind,.int .i64 o.reg,.int .i64 o.n]).new' 27 #[.string ⟨#[]⟩,.slice none 0 0] (b:=w.heap.size+1) (by rw [World.size_alloc]))
  have H:=Lib.hid HX.out.drew
  have HA:=Lib.hid (HX.out.new' 9 #[.string ⟨#[82,76,67]⟩,.string ⟨#[82,82,67]⟩,.string ⟨#[82,76]⟩,.string ⟨#[82,82]⟩,.string ⟨#[83,76,65]⟩,.string ⟨#[83,82,65]⟩,.string ⟨#[83,76,76]⟩,.string ⟨#[83,82,76]⟩] (b:=w.heap.size+2) (by rw [World.size_alloc,World.size_alloc])).drew
  go_enter Tryz.func67,Tryz.ntmps67
  go_upto_region 4 with fail
  obtain ⟨f0,f1,f2,_,_,_⟩:=(H.out.mem w.heap.size 90 #[.int .i64 o.kind,.int .i64 o.reg,.int .i64 o.n] (by simp)).three
  obtain ⟨e0,e1,d0,d1⟩:=(H.out.mem (w.heap.size+1) 27 #[.string ⟨#[]⟩,.slice none 0 0] (by simp)).two
  have n3:=(H.out.mem (w.heap.size+1) 27 #[.string ⟨#[]⟩,.slice none 0 0] (by simp)).lt
  obtain ⟨p0,p1,p2,_,_,_⟩:=(HA.out.mem w.heap.size 90 #[.int .i64 o.kind,.int .i64 o.reg,.int .i64 o.n] (by simp)).three
  go_region_law ((go_simp;(first
    | (go_at_call 107;refine (frLo (b:=w.heap.size+1) (t:=27) (cs:=#[.string ⟨#[]⟩,.slice none 0 0]) (Lib.hid (HX.out.new' 9 #[.string ⟨#[82,76,67]⟩,.string ⟨#[82,82,67]⟩,.string ⟨#[82,76]⟩,.string ⟨#[82,82]⟩,.string ⟨#[83,76,65]⟩,.string ⟨#[83,82,65]⟩,.string ⟨#[83,76,76]⟩,.string ⟨#[83,82,76]⟩] (b:=w.heap.size+2) (by rw [World.size_alloc,World.size_alloc])).drew) (by simp) (one_own _ _)).mono ?_;rintro e w' ⟨va,vc,rfl,HO,Hn⟩;clear f0 f1 f2 e0 e1 d0 d1 n3;clear H;have H:=Hn;clear Hn;have HS:=Lib.hid (H.out.blk 0 rfl);have s0:=HS.out.cell 0;have s1:=HS.out.cell 1;have s2:=HS.out.cell 2;have s3:=HS.out.cell 3;have s4:=HS.out.cell 4;have s5:=HS.out.cell 5;have s6:=HS.out.cell 6;have s7:=HS.out.cell 7;obtain ⟨f0,f1,f2,_,_,_⟩:=(H.out.mem w.heap.size 90 #[.int .i64 o.kind,.int .i64 o.reg,.int .i64 o.n] (by simp)).three;obtain ⟨e0,e1,d0,d1⟩:=(H.out.mem (w.heap.size+1) 27 #[.string ⟨#[]⟩,.slice none 0 0] (by simp)).two;have n3:=(H.out.mem (w.heap.size+1) 27 #[.string ⟨#[]⟩,.slice none 0 0] (by simp)).lt)
    | (go_at_call 107;refine (frLo (b:=w.heap.size+1) (t:=27) (cs:=#[.string ⟨#[]⟩,.slice none 0 0]) H (by simp) (one_own _ _)).mono ?_;rintro e w' ⟨va,vc,rfl,HO,Hn⟩;clear f0 f1 f2 e0 e1 d0 d1 n3;clear H;have H:=Hn;clear Hn;obtain ⟨f0,f1,f2,_,_,_⟩:=(H.out.mem w.heap.size 90 #[.int .i64 o.kind,.int .i64 o.reg,.int .i64 o.n] (by simp)).three;obtain ⟨e0,e1,d0,d1⟩:=(H.out.mem (w.heap.size+1) 27 #[.string ⟨#[]⟩,.slice none 0 0] (by simp)).two;have n3:=(H.out.mem (w.heap.size+1) 27 #[.string ⟨#[]⟩,.slice none 0 0] (by simp)).lt)
    | (go_at_call 103;refine (frIo H (ins_own _ _ _ _ _ HO.out)).mono ?_;rintro e w' ⟨rfl,HOn,Hn⟩;clear f0 f1 f2 e0 e1 d0 d1 n3;clear HO H;have HO:=HOn;have H:=Hn;clear HOn Hn;obtain ⟨f0,f1,f2,_,_,_⟩:=(H.out.mem w.heap.size 90 #[.int .i64 o.kind,.int .i64 o.reg,.int .i64 o.n] (by simp)).three;obtain ⟨e0,e1,d0,d1⟩:=(H.out.mem (w.heap.size+1) 27 #[.string ⟨#[]⟩,.slice none 0 0] (by simp)).two;have n3:=(H.out.mem (w.heap.size+1) 27 #[.string ⟨#[]⟩,.slice none 0 0] (by simp)).lt)
    | (go_at_call 103;refine (frIo (Lib.hid (H.out.alloc _)) (ins_own _ _ _ _ _ (HO.out.below ((Below.refl _ _).alloc (Nat.le_refl _) _)))).mono ?_;rintro e w' ⟨rfl,HOn,Hn⟩;clear f0 f1 f2 e0 e1 d0 d1 n3;clear HO H;have HO:=HOn;have H:=Hn;clear HOn Hn;obtain ⟨f0,f1,f2,_,_,_⟩:=(H.out.mem w.heap.size 90 #[.int .i64 o.kind,.int .i64 o.reg,.int .i64 o.n] (by simp)).three;obtain ⟨e0,e1,d0,d1⟩:=(H.out.mem (w.heap.size+1) 27 #[.string ⟨#[]⟩,.slice none 0 0] (by simp)).two;have n3:=(H.out.mem (w.heap.size+1) 27 #[.string ⟨#[]⟩,.slice none 0 0] (by simp)).lt));dsimp only))
  all_goals go_wp2
  all_goals have hpo:=fun x=>put_own (x:=x) (y:=.slice va 1 vc) H.out.below HO.out (Nat.lt_succ_self _) (Nat.le_succ _)
  all_goals exact bodyPost_ret (ins_end rfl rfl (((H.out.mem (w.heap.size+1) 27 #[.string ⟨#[]⟩,.slice none 0 0] (by simp)).set 0 _).set 1 _)) rfl ⟨_,rfl,(hpo _).1,(hpo _).2⟩
theorem s7_t1 {P:Prop} (h:P:=by
  have H:=Lib.hid (((Fr.start w).new 90 #[.int .i64 o.kind,.int .i64 o.reg,.int .i64 o.n]).new' 27 #[.string ⟨#[]⟩,.slice none 0 0] (b:=w.heap.size+1) (by rw [World.size_alloc])).drew
  go_enter Tryz.func67,Tryz.ntmps67
  first
   | ((have _:=Ma0);(go_upto_region 6 with fail))
   | ((have _:=Ma1);(go_upto_region 8 with fail))
   | (go_upto_region 9 with fail)
  obtain ⟨f0,f1,f2,_,_,_⟩:=(H.out.blk 1 rfl).three
  obtain ⟨e0,e1,d0,d1⟩:=(H.out.blk 0 rfl).two
  go_region_held3 (fun w'=>w'.cell? ⟨w.heap.size,0,none⟩=some (.int .i64 o.kind)∧w'.cell? ⟨w.heap.size,1,none⟩=some (.int .i64 o.reg)∧w'.cell? ⟨w.heap.size,2,none⟩=some (.int .i64 o.n)) (go_keep)
   (first
    | (go_at_call 108;refine (frO H (imm9_any _ _)).mono ?_;rintro e w' ⟨rfl,H⟩;obtain ⟨f0,f1,f2,_,_,_⟩:=(H.out.blk 1 rfl).three)
    | (go_at_call 104;refine (frLo (b:=w.heap.size+1) (t:=27) (cs:=#[.string ⟨#[]⟩,.slice none 0 0]) H (by simp) (two_own _ _ _)).mono ?_;rintro e w' ⟨va,vc,rfl,HO,H⟩;obtain ⟨f0,f1,f2,_,_,_⟩:=(H.out.blk 1 rfl).three)
    | (go_at_call 103;refine (frIo H (ins_own _ _ _ _ _ HO.out)).mono ?_;rintro e w' ⟨rfl,HO,H⟩;obtain ⟨e0,e1,d0,d1⟩:=(H.out.blk 0 rfl).two;obtain ⟨f0,f1,f2,_,_,_⟩:=(H.out.blk 1 rfl).three))
  go_wp2
  have hpo:=fun x=>put_own (x:=x) (y:=.slice va 2 vc) H.out.below HO.out (Nat.lt_succ_self _) (Nat.le_succ _)
  exact bodyPost_ret (ins_end rfl rfl (((H.out.blk 0 rfl).set 0 _).set 1 _)) rfl ⟨_,rfl,(hpo _).1,(hpo _).2⟩):P:=h
theorem cb_1 (op y:Int) (o:Opd) (h0:0≤op) (h8:op < 256) (hx:op / 64=1) (hy:op / 8 % 8=y) (w:World):Calls Tryz.prog 67 #[.int .u8 op,.agg #[.int .i64 o.kind,.int .i64 o.reg,.int .i64 o.n]] w (InsOw w ⟨#[66,73,84]⟩ [immO y,o]):=by
 have Ma0:=trivial
 exact s7_t1
theorem cb_2 (op y:Int) (o:Opd) (h0:0≤op) (h8:op < 256) (hx:op / 64=2) (hy:op / 8 % 8=y) (w:World):Calls Tryz.prog 67 #[.int .u8 op,.agg #[.int .i64 o.kind,.int .i64 o.reg,.int .i64 o.n]] w (InsOw w ⟨#[82,69,83]⟩ [immO y,o]):=by
 have Ma1:=trivial
 exact s7_t1
theorem cb_3 (op y:Int) (o:Opd) (h0:0≤op) (h8:op < 256) (hx:op / 64=3) (hy:op / 8 % 8=y) (w:World):Calls Tryz.prog 67 #[.int .u8 op,.agg #[.int .i64 o.kind,.int .i64 o.reg,.int .i64 o.n]] w (InsOw w ⟨#[83,69,84]⟩ [immO y,o]):=s7_t1
def cbF (op:Int) (o:Opd):ByteArray × List Opd:=
 if op / 64=0 then (cbN (op / 8 % 8),[o]) else if op / 64=1 then (⟨#[66,73,84]⟩,[immO (op / 8 % 8),o]) else if op / 64=2 then (⟨#[82,69,83]⟩,[immO (op / 8 % 8),o]) else (⟨#[83,69,84]⟩,[immO (op / 8 % 8),o])
theorem cb9_any (op:Int) (o:Opd) (h0:0≤op) (h8:op < 256) (w:World):Calls Tryz.prog 67 #[.int .u8 op,.agg #[.int .i64 o.kind,.int .i64 o.reg,.int .i64 o.n]] w (InsOw w (cbF op o).1 (cbF op o).2):=by
 have hx:op / 64=0∨op / 64=1∨op / 64=2∨op / 64=3:=by omega
 rcases hx with hx | hx | hx | hx
 ·obtain ⟨m,hm⟩:=Int.eq_ofNat_of_zero_le (show 0≤op / 8 % 8 by omega)
  have e:cbF op o=(cbN m,[o]):=by unfold cbF;rw [if_pos hx,hm]
  rw [e]
  exact cb_0 op m (by omega) o h0 h8 hx hm w
 ·have e:cbF op o=(⟨#[66,73,84]⟩,[immO (op / 8 % 8),o]):=by unfold cbF;rw [if_neg (show ¬op / 64=0 by omega),if_pos hx]
  rw [e]
  exact cb_1 op _ o h0 h8 hx rfl w
 ·have e:cbF op o=(⟨#[82,69,83]⟩,[immO (op / 8 % 8),o]):=by unfold cbF;rw [if_neg (show ¬op / 64=0 by omega),if_neg (show ¬op / 64=1 by omega),if_pos hx]
  rw [e]
  exact cb_2 op _ o h0 h8 hx rfl w
 ·have e:cbF op o=(⟨#[83,69,84]⟩,[immO (op / 8 % 8),o]):=by unfold cbF;rw [if_neg (show ¬op / 64=0 by omega),if_neg (show ¬op / 64=1 by omega),if_neg (show ¬op / 64=2 by omega)]
  rw [e]
  exact cb_3 op _ o h0 h8 hx rfl w
end Go.Proofs.YtjmekllgnhkodaaGreatDoor
namespace Go.Proofs.YtjmekllgnhkodaaGreatDoor
set_option maxHeartbeats 40000000
set_option maxRecDepth 100000
open Go.RowKit Go.Shelf Go.Sort
def InsA (w:World) (s:ByteArray) (l:List Opd) (ex:ByteArray) (al:Bool) (e:Ending) (w':World):Prop:=∃v,e=.returned (.tuple #[.agg #[.string s,v],.string ex,.bool al])∧OpdOwn w' (fun b=>w.heap.size≤b) v l∧Below w.heap.size w w'
theorem two_lit (a b c d e f:Int) (w:World):Calls Tryz.prog 104 #[.agg #[.int .i64 a,.int .i64 b,.int .i64 c],.agg #[.int .i64 d,.int .i64 e,.int .i64 f]] w fun e' w'=>∃v,e'=.returned v∧OpdOwn w' (fun b=>w.heap.size≤b) v [⟨a,b,c⟩,⟨d,e,f⟩]∧Below w.heap.size w w':=two_any ⟨a,b,c⟩ ⟨d,e,f⟩ w
def ctlI:Opd:=⟨9,0,0⟩
def ctlR:Opd:=⟨9,1,0⟩
theorem insA_end {fn:Func} {p u t:Tmp} (h:fn.results=#[.cell p 27,.tmp u,.tmp t]) {tmps:Array Value} {w':World} {s v:Value} {g:Nat} (hp:tmps.getD p undef=.pointer (some ⟨g,0,none⟩))
  (hg:Blk w' g 27 #[s,v]):(results fn tmps).run Tryz.prog w'=.ok (.tuple #[.agg #[s,v],tmps.getD u undef,tmps.getD t undef]) w':=
 results_row_tmp2 h tmps w' g 27 _ (0,0) _ hp hg Tryz.underlying27 rfl (by kernel_rfl)
theorem s8_t1 {P:Prop} (h:P:=by
  have H:=Lib.hid ((Fr.start w).new' 27 #[.string ⟨#[]⟩,.slice none 0 0] rfl)
  go_enter Tryz.func69,Tryz.ntmps69
  go_wp2_with (go_at_call 103;refine (frI (Lib.hid (H.out.next (by (repeat' (first | (with_reducible exact Below.refl _ _) | (with_reducible assumption) | (with_reducible refine Below.alloc ?_ ?_ _) | (with_reducible refine Below.drew ?_) | (with_reducible refine Below.setCell ?_ ?_ _) | (with_reducible exact Nat.le_refl _) | omega | (simp;done) | (simp;omega)))))) (ins9_any _ none 0 0 _ (opdOwn_none _ (fun k=>w.heap.size < k)))).mono ?_;rintro e w' ⟨rfl,HO,H⟩;obtain ⟨e0,e1,d0,d1⟩:=(H.out.blk 0 rfl).two)
  have hpo:=fun x=>put_ins (x:=x) (y:=.slice none 0 0) H.out.below HO.out (fun k hk=>hk) (Nat.le_refl _)
  exact bodyPost_ret (insA_end rfl rfl (((H.out.blk 0 rfl).set 0 _).set 1 _)) rfl ⟨_,rfl,(hpo _).1,(hpo _).2⟩):P:=h
theorem ed_a_4_0 (op:Int) (_h0:0≤op) (_h8:op < 256) (hx:op / 64=2) (hy:op / 8 % 8=4) (hz:op % 8=0) (w:World):Calls Tryz.prog 69 #[.int .u8 op] w (InsA w ⟨#[76,68,73]⟩ [] ⟨#[]⟩ false):=s8_t1
theorem ed_a_4_1 (op:Int) (_h0:0≤op) (_h8:op < 256) (hx:op / 64=2) (hy:op / 8 % 8=4) (hz:op % 8=1) (w:World):Calls Tryz.prog 69 #[.int .u8 op] w (InsA w ⟨#[67,80,73]⟩ [] ⟨#[]⟩ false):=s8_t1
theorem ed_a_4_2 (op:Int) (_h0:0≤op) (_h8:op < 256) (hx:op / 64=2) (hy:op / 8 % 8=4) (hz:op % 8=2) (w:World):Calls Tryz.prog 69 #[.int .u8 op] w (InsA w ⟨#[73,78,73]⟩ [] ⟨#[]⟩ false):=s8_t1
theorem ed_a_4_3 (op:Int) (_h0:0≤op) (_h8:op < 256) (hx:op / 64=2) (hy:op / 8 % 8=4) (hz:op % 8=3) (w:World):Calls Tryz.prog 69 #[.int .u8 op] w (InsA w ⟨#[79,85,84,73]⟩ [] ⟨#[]⟩ false):=s8_t1
theorem ed_a_5_0 (op:Int) (_h0:0≤op) (_h8:op < 256) (hx:op / 64=2) (hy:op / 8 % 8=5) (hz:op % 8=0) (w:World):Calls Tryz.prog 69 #[.int .u8 op] w (InsA w ⟨#[76,68,68]⟩ [] ⟨#[]⟩ false):=s8_t1
theorem ed_a_5_1 (op:Int) (_h0:0≤op) (_h8:op < 256) (hx:op / 64=2) (hy:op / 8 % 8=5) (hz:op % 8=1) (w:World):Calls Tryz.prog 69 #[.int .u8 op] w (InsA w ⟨#[67,80,68]⟩ [] ⟨#[]⟩ false):=s8_t1
theorem ed_a_5_2 (op:Int) (_h0:0≤op) (_h8:op < 256) (hx:op / 64=2) (hy:op / 8 % 8=5) (hz:op % 8=2) (w:World):Calls Tryz.prog 69 #[.int .u8 op] w (InsA w ⟨#[73,78,68]⟩ [] ⟨#[]⟩ false):=s8_t1
theorem ed_a_5_3 (op:Int) (_h0:0≤op) (_h8:op < 256) (hx:op / 64=2) (hy:op / 8 % 8=5) (hz:op % 8=3) (w:World):Calls Tryz.prog 69 #[.int .u8 op] w (InsA w ⟨#[79,85,84,68]⟩ [] ⟨#[]⟩ false):=s8_t1
theorem ed_a_6_0 (op:Int) (_h0:0≤op) (_h8:op < 256) (hx:op / 64=2) (hy:op / 8 % 8=6) (hz:op % 8=0) (w:World):Calls Tryz.prog 69 #[.int .u8 op] w (InsA w ⟨#[76,68,73,82]⟩ [] ⟨#[]⟩ false):=s8_t1
theorem ed_a_6_1 (op:Int) (_h0:0≤op) (_h8:op < 256) (hx:op / 64=2) (hy:op / 8 % 8=6) (hz:op % 8=1) (w:World):Calls Tryz.prog 69 #[.int .u8 op] w (InsA w ⟨#[67,80,73,82]⟩ [] ⟨#[]⟩ false):=s8_t1
theorem ed_a_6_2 (op:Int) (_h0:0≤op) (_h8:op < 256) (hx:op / 64=2) (hy:op / 8 % 8=6) (hz:op % 8=2) (w:World):Calls Tryz.prog 69 #[.int .u8 op] w (InsA w ⟨#[73,78,73,82]⟩ [] ⟨#[]⟩ false):=s8_t1
theorem ed_a_6_3 (op:Int) (_h0:0≤op) (_h8:op < 256) (hx:op / 64=2) (hy:op / 8 % 8=6) (hz:op % 8=3) (w:World):Calls Tryz.prog 69 #[.int .u8 op] w (InsA w ⟨#[79,84,73,82]⟩ [] ⟨#[]⟩ false):=s8_t1
theorem ed_a_7_0 (op:Int) (_h0:0≤op) (_h8:op < 256) (hx:op / 64=2) (hy:op / 8 % 8=7) (hz:op % 8=0) (w:World):Calls Tryz.prog 69 #[.int .u8 op] w (InsA w ⟨#[76,68,68,82]⟩ [] ⟨#[]⟩ false):=s8_t1
theorem ed_a_7_1 (op:Int) (_h0:0≤op) (_h8:op < 256) (hx:op / 64=2) (hy:op / 8 % 8=7) (hz:op % 8=1) (w:World):Calls Tryz.prog 69 #[.int .u8 op] w (InsA w ⟨#[67,80,68,82]⟩ [] ⟨#[]⟩ false):=s8_t1
theorem ed_a_7_2 (op:Int) (_h0:0≤op) (_h8:op < 256) (hx:op / 64=2) (hy:op / 8 % 8=7) (hz:op % 8=2) (w:World):Calls Tryz.prog 69 #[.int .u8 op] w (InsA w ⟨#[73,78,68,82]⟩ [] ⟨#[]⟩ false):=s8_t1
theorem ed_a_7_3 (op:Int) (_h0:0≤op) (_h8:op < 256) (hx:op / 64=2) (hy:op / 8 % 8=7) (hz:op % 8=3) (w:World):Calls Tryz.prog 69 #[.int .u8 op] w (InsA w ⟨#[79,84,68,82]⟩ [] ⟨#[]⟩ false):=s8_t1
theorem ed_b_0 (op y z:Int) (_h0:0≤op) (_h8:op < 256) (_hy:op / 8 % 8=y) (_hz:op % 8=z) (_hy0:0≤y) (_hy8:y < 8) (_hz0:0≤z) (_hz8:z < 8) (k:Int) (hx:op / 64=k) (hk1:k≠1) (hk2:k≠2) (w:World):Calls Tryz.prog 69 #[.int .u8 op] w (InsA w ⟨#[]⟩ [] ⟨#[]⟩ false):=by
 have H:=Lib.hid ((Fr.start w).new' 27 #[.string ⟨#[]⟩,.slice none 0 0] rfl)
 have k1:(k != 1)=true:=by rw [bne_iff_ne];exact hk1
 have k2:(k==2)=false:=by rw [beq_eq_false_iff_ne];exact hk2
 go_enter Tryz.func69,Tryz.ntmps69
 go_wp2
 exact bodyPost_ret (insA_end rfl rfl (H.out.blk 0 rfl)) rfl ⟨_,rfl,opdOwn_none _ _,H.out.below⟩
theorem s8_t2 {P:Prop} (h:P:=by
  have H:=Lib.hid ((Fr.start w).new' 27 #[.string ⟨#[]⟩,.slice none 0 0] rfl)
  go_enter Tryz.func69,Tryz.ntmps69
  go_wp2
  exact bodyPost_ret (insA_end rfl rfl (H.out.blk 0 rfl)) rfl ⟨_,rfl,opdOwn_none _ _,H.out.below⟩):P:=h
theorem ed_b_1 (op y z:Int) (_h0:0≤op) (_h8:op < 256) (_hy:op / 8 % 8=y) (_hz:op % 8=z) (_hy0:0≤y) (_hy8:y < 8) (_hz0:0≤z) (_hz8:z < 8) (hx:op / 64=2) (hz4:4≤z) (w:World):Calls Tryz.prog 69 #[.int .u8 op] w (InsA w ⟨#[]⟩ [] ⟨#[]⟩ false):=s8_t2
theorem ed_b_2 (op y z:Int) (_h0:0≤op) (_h8:op < 256) (_hy:op / 8 % 8=y) (_hz:op % 8=z) (_hy0:0≤y) (_hy8:y < 8) (_hz0:0≤z) (_hz8:z < 8) (hx:op / 64=2) (hz4:z < 4) (hy4:y < 4) (w:World):Calls Tryz.prog 69 #[.int .u8 op] w (InsA w ⟨#[]⟩ [] ⟨#[]⟩ false):=s8_t2
theorem ed_0a (op y z:Int) (_h0:0≤op) (_h8:op < 256) (_hy:op / 8 % 8=y) (_hz:op % 8=z) (_hy0:0≤y) (_hy8:y < 8) (_hz0:0≤z) (_hz8:z < 8) (hx:op / 64=1) (hz':z=0) (h6:y=6) (w:World):Calls Tryz.prog 69 #[.int .u8 op] w (InsA w ⟨#[73,78]⟩ [indO 8] ⟨#[]⟩ false):=by
 have H:=Lib.hid ((Fr.start w).new' 27 #[.string ⟨#[]⟩,.slice none 0 0] rfl)
 subst hz' h6
 go_enter Tryz.func69,Tryz.ntmps69
 go_wp2_with fail
 refine (rp_o _ _ _).mono ?_
 rintro e w1 ⟨o1,rfl,hb⟩
 have LT1:=Lib.hid ((H.out.next hb).blk 0 rfl).lt
 have H1:=Lib.hid ((H.out.next hb).new' 90 #[.int .i64 o1.kind,.int .i64 o1.reg,.int .i64 o1.n] rfl)
 clear hb H
 go_wp2_with fail
 refine (rp_o _ _ _).mono ?_
 rintro e w2 ⟨o2,rfl,hb⟩
 have LT2:=Lib.hid ((H1.out.next hb).blk 0 rfl).lt
 have H:=Lib.hid ((H1.out.next hb).new' 90 #[.int .i64 o2.kind,.int .i64 o2.reg,.int .i64 o2.n] rfl)
 obtain ⟨e0,e1,d0,d1⟩:=(H.out.blk 2 rfl).two
 clear hb H1
 go_wp2_with (first
  | (go_at_call 110;refine (frO H (ind9_any _ _)).mono ?_;rintro e w' ⟨rfl,H⟩)
  | (go_at_call 107;refine (frL H 2 rfl (one_any _ _)).mono ?_;rintro e w' ⟨va,vc,rfl,HO,H⟩)
  | (go_at_call 103;refine (frI H (ins9_any _ _ _ _ _ HO.out)).mono ?_;rintro e w' ⟨rfl,HO,H⟩;obtain ⟨e0,e1,d0,d1⟩:=(H.out.blk 2 rfl).two))
 have hpo:=fun x=>put_ins (x:=x) (y:=.slice va 1 vc) H.out.below HO.out (fun k hk=>hk) (Nat.le_refl _)
 exact bodyPost_ret (insA_end rfl rfl (((H.out.blk 2 rfl).set 0 _).set 1 _)) rfl ⟨_,rfl,(hpo _).1,(hpo _).2⟩
theorem s8_t3 {P:Prop} (h:P:=by
  have H:=Lib.hid ((Fr.start w).new' 27 #[.string ⟨#[]⟩,.slice none 0 0] rfl)
  subst hz'
  go_enter Tryz.func69,Tryz.ntmps69
  go_wp2_with fail
  refine (rp_o _ _ _).mono ?_
  rintro e w1 ⟨o1,rfl,hb⟩
  have LT1:=Lib.hid ((H.out.next hb).blk 0 rfl).lt
  have H1:=Lib.hid ((H.out.next hb).new' 90 #[.int .i64 o1.kind,.int .i64 o1.reg,.int .i64 o1.n] rfl)
  clear hb H
  go_wp2_with fail
  refine (rp_o _ _ _).mono ?_
  rintro e w2 ⟨o2,rfl,hb⟩
  have LT2:=Lib.hid ((H1.out.next hb).blk 0 rfl).lt
  have H:=Lib.hid ((H1.out.next hb).new' 90 #[.int .i64 o2.kind,.int .i64 o2.reg,.int .i64 o2.n] rfl)
  obtain ⟨e0,e1,d0,d1⟩:=(H.out.blk 2 rfl).two
  clear hb H1
  go_wp2_with (first
   | (go_at_call 68;refine (frO H (r_any _ _)).mono ?_;rintro e w' ⟨rfl,H⟩)
   | (go_at_call 110;refine (frO H (ind9_any _ _)).mono ?_;rintro e w' ⟨rfl,H⟩)
   | (go_at_call 104;refine (frL H 2 rfl (two_any _ _ _)).mono ?_;rintro e w' ⟨va,vc,rfl,HO,H⟩)
   | (go_at_call 103;refine (frI H (ins9_any _ _ _ _ _ HO.out)).mono ?_;rintro e w' ⟨rfl,HO,H⟩;obtain ⟨e0,e1,d0,d1⟩:=(H.out.blk 2 rfl).two))
  have hpo:=fun x=>put_ins (x:=x) (y:=.slice va 2 vc) H.out.below HO.out (fun k hk=>hk) (Nat.le_refl _)
  exact bodyPost_ret (insA_end rfl rfl (((H.out.blk 2 rfl).set 0 _).set 1 _)) rfl ⟨_,rfl,(hpo _).1,(hpo _).2⟩):P:=h
theorem ed_0b (op y z:Int) (_h0:0≤op) (_h8:op < 256) (_hy:op / 8 % 8=y) (_hz:op % 8=z) (_hy0:0≤y) (_hy8:y < 8) (_hz0:0≤z) (_hz8:z < 8) (hx:op / 64=1) (hz':z=0) (h6:¬y=6) (w:World):Calls Tryz.prog 69 #[.int .u8 op] w (InsA w ⟨#[73,78]⟩ [rF y,indO 8] ⟨#[]⟩ false):=s8_t3
theorem ed_1a (op y z:Int) (_h0:0≤op) (_h8:op < 256) (_hy:op / 8 % 8=y) (_hz:op % 8=z) (_hy0:0≤y) (_hy8:y < 8) (_hz0:0≤z) (_hz8:z < 8) (hx:op / 64=1) (hz':z=1) (h6:y=6) (w:World):Calls Tryz.prog 69 #[.int .u8 op] w (InsA w ⟨#[79,85,84]⟩ [indO 8,immO 0] ⟨#[]⟩ false):=by
 have H:=Lib.hid ((Fr.start w).new' 27 #[.string ⟨#[]⟩,.slice none 0 0] rfl)
 subst hz' h6
 go_enter Tryz.func69,Tryz.ntmps69
 go_wp2_with fail
 refine (rp_o _ _ _).mono ?_
 rintro e w1 ⟨o1,rfl,hb⟩
 have LT1:=Lib.hid ((H.out.next hb).blk 0 rfl).lt
 have H1:=Lib.hid ((H.out.next hb).new' 90 #[.int .i64 o1.kind,.int .i64 o1.reg,.int .i64 o1.n] rfl)
 clear hb H
 go_wp2_with fail
 refine (rp_o _ _ _).mono ?_
 rintro e w2 ⟨o2,rfl,hb⟩
 have LT2:=Lib.hid ((H1.out.next hb).blk 0 rfl).lt
 have H:=Lib.hid ((H1.out.next hb).new' 90 #[.int .i64 o2.kind,.int .i64 o2.reg,.int .i64 o2.n] rfl)
 obtain ⟨e0,e1,d0,d1⟩:=(H.out.blk 2 rfl).two
 clear hb H1
 go_wp2_with (first
  | (go_at_call 108;refine (frO H (imm9_any _ _)).mono ?_;rintro e w' ⟨rfl,H⟩)
  | (go_at_call 110;refine (frO H (ind9_any _ _)).mono ?_;rintro e w' ⟨rfl,H⟩)
  | (go_at_call 104;refine (frL H 2 rfl (two_any _ _ _)).mono ?_;rintro e w' ⟨va,vc,rfl,HO,H⟩)
  | (go_at_call 103;refine (frI H (ins9_any _ _ _ _ _ HO.out)).mono ?_;rintro e w' ⟨rfl,HO,H⟩;obtain ⟨e0,e1,d0,d1⟩:=(H.out.blk 2 rfl).two))
 have hpo:=fun x=>put_ins (x:=x) (y:=.slice va 2 vc) H.out.below HO.out (fun k hk=>hk) (Nat.le_refl _)
 exact bodyPost_ret (insA_end rfl rfl (((H.out.blk 2 rfl).set 0 _).set 1 _)) rfl ⟨_,rfl,(hpo _).1,(hpo _).2⟩
theorem ed_1b (op y z:Int) (_h0:0≤op) (_h8:op < 256) (_hy:op / 8 % 8=y) (_hz:op % 8=z) (_hy0:0≤y) (_hy8:y < 8) (_hz0:0≤z) (_hz8:z < 8) (hx:op / 64=1) (hz':z=1) (h6:¬y=6) (w:World):Calls Tryz.prog 69 #[.int .u8 op] w (InsA w ⟨#[79,85,84]⟩ [indO 8,rF y] ⟨#[]⟩ false):=s8_t3
theorem ed_2_0 (op y z:Int) (_h0:0≤op) (_h8:op < 256) (_hy:op / 8 % 8=y) (_hz:op % 8=z) (_hy0:0≤y) (_hy8:y < 8) (_hz0:0≤z) (_hz8:z < 8) (hx:op / 64=1) (hz':z=2) (hq:y % 2=0) (w:World):Calls Tryz.prog 69 #[.int .u8 op] w (InsA w ⟨#[83,66,67]⟩ [rpF 2 3,rpF (y / 2) 3] ⟨#[]⟩ false):=by
 have H:=Lib.hid ((Fr.start w).new' 27 #[.string ⟨#[]⟩,.slice none 0 0] rfl)
 subst hz'
 go_enter Tryz.func69,Tryz.ntmps69
 go_wp2_with fail
 refine (rp_any 2 3 _).mono ?_
 rintro e w1 ⟨rfl,hb⟩
 have LT1:=Lib.hid ((H.out.next hb).blk 0 rfl).lt
 have H1:=Lib.hid ((H.out.next hb).new' 90 #[.int .i64 (rpF 2 3).kind,.int .i64 (rpF 2 3).reg,.int .i64 (rpF 2 3).n] rfl)
 clear hb H
 go_wp2_with fail
 refine (rp_any (y / 2) 3 _).mono ?_
 rintro e w2 ⟨rfl,hb⟩
 have LT2:=Lib.hid ((H1.out.next hb).blk 0 rfl).lt
 have H:=Lib.hid ((H1.out.next hb).new' 90 #[.int .i64 (rpF (y / 2) 3).kind,.int .i64 (rpF (y / 2) 3).reg,.int .i64 (rpF (y / 2) 3).n] rfl)
 obtain ⟨f0,f1,f2,x0,x1,x2⟩:=(H.out.blk 0 rfl).three
 obtain ⟨g0,g1,g2,_,_,_⟩:=(H.out.blk 1 rfl).three
 obtain ⟨e0,e1,d0,d1⟩:=(H.out.blk 2 rfl).two
 clear hb H1
 have HX:=H
 have Hn:=Lib.hid H.out.drew
 clear H x0 x1 x2
 have H:=Hn
 clear Hn
 have HA:=Lib.hid (HX.out.new' 9 #[.string ⟨#[83,66,67]⟩,.string ⟨#[65,68,67]⟩] (b:=w2.heap.size+1) (by rw [World.size_alloc])).drew
 go_upto_region 22 with fail
 obtain ⟨f0,f1,f2,_,_,_⟩:=(H.out.mem w1.heap.size 90 #[.int .i64 (rpF 2 3).kind,.int .i64 (rpF 2 3).reg,.int .i64 (rpF 2 3).n] (by simp)).three
 obtain ⟨g0,g1,g2,_,_,_⟩:=(H.out.mem w2.heap.size 90 #[.int .i64 (rpF (y / 2) 3).kind,.int .i64 (rpF (y / 2) 3).reg,.int .i64 (rpF (y / 2) 3).n] (by simp)).three
 obtain ⟨e0,e1,d0,d1⟩:=(H.out.mem w.heap.size 27 #[.string ⟨#[]⟩,.slice none 0 0] (by simp)).two
 have n3:=(H.out.mem w.heap.size 27 #[.string ⟨#[]⟩,.slice none 0 0] (by simp)).lt
 obtain ⟨p0,p1,p2,_,_,_⟩:=(HA.out.mem w1.heap.size 90 #[.int .i64 (rpF 2 3).kind,.int .i64 (rpF 2 3).reg,.int .i64 (rpF 2 3).n] (by simp)).three
 obtain ⟨q0,q1,q2,_,_,_⟩:=(HA.out.mem w2.heap.size 90 #[.int .i64 (rpF (y / 2) 3).kind,.int .i64 (rpF (y / 2) 3).reg,.int .i64 (rpF (y / 2) 3).n] (by simp)).three
 go_region_law ((go_simp;(first
   | (go_at_call 104;refine (two_any _ _ _).mono ?_;rintro e w' ⟨v,rfl,ho,hb⟩;obtain ⟨va,vc,rfl⟩:=ho.form;have HO:=Lib.hid (ho.mono (r:=fun k=>w.heap.size < k) (fun k hk=>Nat.lt_of_lt_of_le (H.out.mem w.heap.size 27 #[.string ⟨#[]⟩,.slice none 0 0] (by simp)).lt (Nat.le_trans (by first | (with_reducible exact Nat.le_refl _) | (simp only [World.size_drew,World.size_alloc];omega)) hk)));clear ho;clear f0 f1 f2 g0 g1 g2 e0 e1 d0 d1 n3;have Hn:=Lib.hid ((HX.out.new' 9 #[.string ⟨#[83,66,67]⟩,.string ⟨#[65,68,67]⟩] (b:=w2.heap.size+1) (by rw [World.size_alloc])).drew.next hb);clear H hb;have H:=Hn;clear Hn;have HS:=Lib.hid (H.out.blk 0 rfl);have s0:=HS.out.cell 0;obtain ⟨f0,f1,f2,_,_,_⟩:=(H.out.mem w1.heap.size 90 #[.int .i64 (rpF 2 3).kind,.int .i64 (rpF 2 3).reg,.int .i64 (rpF 2 3).n] (by simp)).three;obtain ⟨g0,g1,g2,_,_,_⟩:=(H.out.mem w2.heap.size 90 #[.int .i64 (rpF (y / 2) 3).kind,.int .i64 (rpF (y / 2) 3).reg,.int .i64 (rpF (y / 2) 3).n] (by simp)).three;obtain ⟨e0,e1,d0,d1⟩:=(H.out.mem w.heap.size 27 #[.string ⟨#[]⟩,.slice none 0 0] (by simp)).two;have n3:=(H.out.mem w.heap.size 27 #[.string ⟨#[]⟩,.slice none 0 0] (by simp)).lt)
   | (go_at_call 104;refine (two_any _ _ _).mono ?_;rintro e w' ⟨v,rfl,ho,hb⟩;obtain ⟨va,vc,rfl⟩:=ho.form;have HO:=Lib.hid (ho.mono (r:=fun k=>w.heap.size < k) (fun k hk=>Nat.lt_of_lt_of_le (H.out.mem w.heap.size 27 #[.string ⟨#[]⟩,.slice none 0 0] (by simp)).lt (Nat.le_trans (by first | (with_reducible exact Nat.le_refl _) | (simp only [World.size_drew,World.size_alloc];omega)) hk)));clear ho;clear f0 f1 f2 g0 g1 g2 e0 e1 d0 d1 n3;have Hn:=Lib.hid (H.out.next hb);clear H hb;have H:=Hn;clear Hn;obtain ⟨f0,f1,f2,_,_,_⟩:=(H.out.mem w1.heap.size 90 #[.int .i64 (rpF 2 3).kind,.int .i64 (rpF 2 3).reg,.int .i64 (rpF 2 3).n] (by simp)).three;obtain ⟨g0,g1,g2,_,_,_⟩:=(H.out.mem w2.heap.size 90 #[.int .i64 (rpF (y / 2) 3).kind,.int .i64 (rpF (y / 2) 3).reg,.int .i64 (rpF (y / 2) 3).n] (by simp)).three;obtain ⟨e0,e1,d0,d1⟩:=(H.out.mem w.heap.size 27 #[.string ⟨#[]⟩,.slice none 0 0] (by simp)).two;have n3:=(H.out.mem w.heap.size 27 #[.string ⟨#[]⟩,.slice none 0 0] (by simp)).lt)
   | (go_at_call 103;refine (ins9_any _ _ _ _ _ HO.out).mono ?_;rintro e w' ⟨rfl,ho,hb⟩;have HOn:=Lib.hid ho;clear HO ho;have HO:=HOn;clear HOn;clear f0 f1 f2 g0 g1 g2 e0 e1 d0 d1 n3;have Hn:=Lib.hid (H.out.next hb);clear H hb;have H:=Hn;clear Hn;obtain ⟨f0,f1,f2,_,_,_⟩:=(H.out.mem w1.heap.size 90 #[.int .i64 (rpF 2 3).kind,.int .i64 (rpF 2 3).reg,.int .i64 (rpF 2 3).n] (by simp)).three;obtain ⟨g0,g1,g2,_,_,_⟩:=(H.out.mem w2.heap.size 90 #[.int .i64 (rpF (y / 2) 3).kind,.int .i64 (rpF (y / 2) 3).reg,.int .i64 (rpF (y / 2) 3).n] (by simp)).three;obtain ⟨e0,e1,d0,d1⟩:=(H.out.mem w.heap.size 27 #[.string ⟨#[]⟩,.slice none 0 0] (by simp)).two;have n3:=(H.out.mem w.heap.size 27 #[.string ⟨#[]⟩,.slice none 0 0] (by simp)).lt)
   | (go_at_call 103;refine (ins9_any _ _ _ _ _ (HO.out.below ((Below.refl _ _).alloc (Nat.le_refl _) _))).mono ?_;rintro e w' ⟨rfl,ho,hb⟩;have HOn:=Lib.hid ho;clear HO ho;have HO:=HOn;clear HOn;clear f0 f1 f2 g0 g1 g2 e0 e1 d0 d1 n3;have Hn:=Lib.hid ((H.out.alloc _).next hb);clear H hb;have H:=Hn;clear Hn;obtain ⟨f0,f1,f2,_,_,_⟩:=(H.out.mem w1.heap.size 90 #[.int .i64 (rpF 2 3).kind,.int .i64 (rpF 2 3).reg,.int .i64 (rpF 2 3).n] (by simp)).three;obtain ⟨g0,g1,g2,_,_,_⟩:=(H.out.mem w2.heap.size 90 #[.int .i64 (rpF (y / 2) 3).kind,.int .i64 (rpF (y / 2) 3).reg,.int .i64 (rpF (y / 2) 3).n] (by simp)).three;obtain ⟨e0,e1,d0,d1⟩:=(H.out.mem w.heap.size 27 #[.string ⟨#[]⟩,.slice none 0 0] (by simp)).two;have n3:=(H.out.mem w.heap.size 27 #[.string ⟨#[]⟩,.slice none 0 0] (by simp)).lt));dsimp only))
 all_goals go_wp2
 all_goals have hpo:=fun x=>put_ins (x:=x) (y:=.slice va 2 vc) H.out.below HO.out (fun k hk=>hk) (Nat.le_refl _)
 all_goals exact bodyPost_ret (insA_end rfl rfl (((H.out.mem w.heap.size 27 #[.string ⟨#[]⟩,.slice none 0 0] (by simp)).set 0 _).set 1 _)) rfl ⟨_,rfl,(hpo _).1,(hpo _).2⟩
theorem ed_2_1 (op y z:Int) (_h0:0≤op) (_h8:op < 256) (_hy:op / 8 % 8=y) (_hz:op % 8=z) (_hy0:0≤y) (_hy8:y < 8) (_hz0:0≤z) (_hz8:z < 8) (hx:op / 64=1) (hz':z=2) (hq:y % 2=1) (w:World):Calls Tryz.prog 69 #[.int .u8 op] w (InsA w ⟨#[65,68,67]⟩ [rpF 2 3,rpF (y / 2) 3] ⟨#[]⟩ false):=by
 have H:=Lib.hid ((Fr.start w).new' 27 #[.string ⟨#[]⟩,.slice none 0 0] rfl)
 subst hz'
 go_enter Tryz.func69,Tryz.ntmps69
 go_wp2_with fail
 refine (rp_any 2 3 _).mono ?_
 rintro e w1 ⟨rfl,hb⟩
 have LT1:=Lib.hid ((H.out.next hb).blk 0 rfl).lt
 have H1:=Lib.hid ((H.out.next hb).new' 90 #[.int .i64 (rpF 2 3).kind,.int .i64 (rpF 2 3).reg,.int .i64 (rpF 2 3).n] rfl)
 clear hb H
 go_wp2_with fail
 refine (rp_any (y / 2) 3 _).mono ?_
 rintro e w2 ⟨rfl,hb⟩
 have LT2:=Lib.hid ((H1.out.next hb).blk 0 rfl).lt
 have H:=Lib.hid ((H1.out.next hb).new' 90 #[.int .i64 (rpF (y / 2) 3).kind,.int .i64 (rpF (y / 2) 3).reg,.int .i64 (rpF (y / 2) 3).n] rfl)
 obtain ⟨f0,f1,f2,x0,x1,x2⟩:=(H.out.blk 0 rfl).three
 obtain ⟨g0,g1,g2,_,_,_⟩:=(H.out.blk 1 rfl).three
 obtain ⟨e0,e1,d0,d1⟩:=(H.out.blk 2 rfl).two
 clear hb H1
 have HX:=H
 have Hn:=Lib.hid H.out.drew
 clear H x0 x1 x2
 have H:=Hn
 clear Hn
 have HA:=Lib.hid (HX.out.new' 9 #[.string ⟨#[83,66,67]⟩,.string ⟨#[65,68,67]⟩] (b:=w2.heap.size+1) (by rw [World.size_alloc])).drew
 go_upto_region 22 with fail
 obtain ⟨f0,f1,f2,_,_,_⟩:=(H.out.mem w1.heap.size 90 #[.int .i64 (rpF 2 3).kind,.int .i64 (rpF 2 3).reg,.int .i64 (rpF 2 3).n] (by simp)).three
 obtain ⟨g0,g1,g2,_,_,_⟩:=(H.out.mem w2.heap.size 90 #[.int .i64 (rpF (y / 2) 3).kind,.int .i64 (rpF (y / 2) 3).reg,.int .i64 (rpF (y / 2) 3).n] (by simp)).three
 obtain ⟨e0,e1,d0,d1⟩:=(H.out.mem w.heap.size 27 #[.string ⟨#[]⟩,.slice none 0 0] (by simp)).two
 have n3:=(H.out.mem w.heap.size 27 #[.string ⟨#[]⟩,.slice none 0 0] (by simp)).lt
 obtain ⟨p0,p1,p2,_,_,_⟩:=(HA.out.mem w1.heap.size 90 #[.int .i64 (rpF 2 3).kind,.int .i64 (rpF 2 3).reg,.int .i64 (rpF 2 3).n] (by simp)).three
 obtain ⟨q0,q1,q2,_,_,_⟩:=(HA.out.mem w2.heap.size 90 #[.int .i64 (rpF (y / 2) 3).kind,.int .i64 (rpF (y / 2) 3).reg,.int .i64 (rpF (y / 2) 3).n] (by simp)).three
 go_region_law ((go_simp;(first
   | (go_at_call 104;refine (two_any _ _ _).mono ?_;rintro e w' ⟨v,rfl,ho,hb⟩;obtain ⟨va,vc,rfl⟩:=ho.form;have HO:=Lib.hid (ho.mono (r:=fun k=>w.heap.size < k) (fun k hk=>Nat.lt_of_lt_of_le (H.out.mem w.heap.size 27 #[.string ⟨#[]⟩,.slice none 0 0] (by simp)).lt (Nat.le_trans (by first | (with_reducible exact Nat.le_refl _) | (simp only [World.size_drew,World.size_alloc];omega)) hk)));clear ho;clear f0 f1 f2 g0 g1 g2 e0 e1 d0 d1 n3;have Hn:=Lib.hid ((HX.out.new' 9 #[.string ⟨#[83,66,67]⟩,.string ⟨#[65,68,67]⟩] (b:=w2.heap.size+1) (by rw [World.size_alloc])).drew.next hb);clear H hb;have H:=Hn;clear Hn;have HS:=Lib.hid (H.out.blk 0 rfl);have s0:=HS.out.cell 1;obtain ⟨f0,f1,f2,_,_,_⟩:=(H.out.mem w1.heap.size 90 #[.int .i64 (rpF 2 3).kind,.int .i64 (rpF 2 3).reg,.int .i64 (rpF 2 3).n] (by simp)).three;obtain ⟨g0,g1,g2,_,_,_⟩:=(H.out.mem w2.heap.size 90 #[.int .i64 (rpF (y / 2) 3).kind,.int .i64 (rpF (y / 2) 3).reg,.int .i64 (rpF (y / 2) 3).n] (by simp)).three;obtain ⟨e0,e1,d0,d1⟩:=(H.out.mem w.heap.size 27 #[.string ⟨#[]⟩,.slice none 0 0] (by simp)).two;have n3:=(H.out.mem w.heap.size 27 #[.string ⟨#[]⟩,.slice none 0 0] (by simp)).lt)
   | (go_at_call 104;refine (two_any _ _ _).mono ?_;rintro e w' ⟨v,rfl,ho,hb⟩;obtain ⟨va,vc,rfl⟩:=ho.form;have HO:=Lib.hid (ho.mono (r:=fun k=>w.heap.size < k) (fun k hk=>Nat.lt_of_lt_of_le (H.out.mem w.heap.size 27 #[.string ⟨#[]⟩,.slice none 0 0] (by simp)).lt (Nat.le_trans (by first | (with_reducible exact Nat.le_refl _) | (simp only [World.size_drew,World.size_alloc];omega)) hk)));clear ho;clear f0 f1 f2 g0 g1 g2 e0 e1 d0 d1 n3;have Hn:=Lib.hid (H.out.next hb);clear H hb;have H:=Hn;clear Hn;obtain ⟨f0,f1,f2,_,_,_⟩:=(H.out.mem w1.heap.size 90 #[.int .i64 (rpF 2 3).kind,.int .i64 (rpF 2 3).reg,.int .i64 (rpF 2 3).n] (by simp)).three;obtain ⟨g0,g1,g2,_,_,_⟩:=(H.out.mem w2.heap.size 90 #[.int .i64 (rpF (y / 2) 3).kind,.int .i64 (rpF (y / 2) 3).reg,.int .i64 (rpF (y / 2) 3).n] (by simp)).three;obtain ⟨e0,e1,d0,d1⟩:=(H.out.mem w.heap.size 27 #[.string ⟨#[]⟩,.slice none 0 0] (by simp)).two;have n3:=(H.out.mem w.heap.size 27 #[.string ⟨#[]⟩,.slice none 0 0] (by simp)).lt)
   | (go_at_call 103;refine (ins9_any _ _ _ _ _ HO.out).mono ?_;rintro e w' ⟨rfl,ho,hb⟩;have HOn:=Lib.hid ho;clear HO ho;have HO:=HOn;clear HOn;clear f0 f1 f2 g0 g1 g2 e0 e1 d0 d1 n3;have Hn:=Lib.hid (H.out.next hb);clear H hb;have H:=Hn;clear Hn;obtain ⟨f0,f1,f2,_,_,_⟩:=(H.out.mem w1.heap.size 90 #[.int .i64 (rpF 2 3).kind,.int .i64 (rpF 2 3).reg,.int .i64 (rpF 2 3).n] (by simp)).three;obtain ⟨g0,g1,g2,_,_,_⟩:=(H.out.mem w2.heap.size 90 #[.int .i64 (rpF (y / 2) 3).kind,.int .i64 (rpF (y / 2) 3).reg,.int .i64 (rpF (y / 2) 3).n] (by simp)).three;obtain ⟨e0,e1,d0,d1⟩:=(H.out.mem w.heap.size 27 #[.string ⟨#[]⟩,.slice none 0 0] (by simp)).two;have n3:=(H.out.mem w.heap.size 27 #[.string ⟨#[]⟩,.slice none 0 0] (by simp)).lt)
   | (go_at_call 103;refine (ins9_any _ _ _ _ _ (HO.out.below ((Below.refl _ _).alloc (Nat.le_refl _) _))).mono ?_;rintro e w' ⟨rfl,ho,hb⟩;have HOn:=Lib.hid ho;clear HO ho;have HO:=HOn;clear HOn;clear f0 f1 f2 g0 g1 g2 e0 e1 d0 d1 n3;have Hn:=Lib.hid ((H.out.alloc _).next hb);clear H hb;have H:=Hn;clear Hn;obtain ⟨f0,f1,f2,_,_,_⟩:=(H.out.mem w1.heap.size 90 #[.int .i64 (rpF 2 3).kind,.int .i64 (rpF 2 3).reg,.int .i64 (rpF 2 3).n] (by simp)).three;obtain ⟨g0,g1,g2,_,_,_⟩:=(H.out.mem w2.heap.size 90 #[.int .i64 (rpF (y / 2) 3).kind,.int .i64 (rpF (y / 2) 3).reg,.int .i64 (rpF (y / 2) 3).n] (by simp)).three;obtain ⟨e0,e1,d0,d1⟩:=(H.out.mem w.heap.size 27 #[.string ⟨#[]⟩,.slice none 0 0] (by simp)).two;have n3:=(H.out.mem w.heap.size 27 #[.string ⟨#[]⟩,.slice none 0 0] (by simp)).lt));dsimp only))
 all_goals go_wp2
 all_goals have hpo:=fun x=>put_ins (x:=x) (y:=.slice va 2 vc) H.out.below HO.out (fun k hk=>hk) (Nat.le_refl _)
 all_goals exact bodyPost_ret (insA_end rfl rfl (((H.out.mem w.heap.size 27 #[.string ⟨#[]⟩,.slice none 0 0] (by simp)).set 0 _).set 1 _)) rfl ⟨_,rfl,(hpo _).1,(hpo _).2⟩
theorem s8_t4 {P:Prop} (h:P:=by
  have H:=Lib.hid ((Fr.start w).new' 27 #[.string ⟨#[]⟩,.slice none 0 0] rfl)
  go_enter Tryz.func69,Tryz.ntmps69
  go_wp2_with fail
  refine (rp_any 2 3 _).mono ?_
  rintro e w1 ⟨rfl,hb⟩
  have LT1:=Lib.hid ((H.out.next hb).blk 0 rfl).lt
  have H1:=Lib.hid ((H.out.next hb).new' 90 #[.int .i64 (rpF 2 3).kind,.int .i64 (rpF 2 3).reg,.int .i64 (rpF 2 3).n] rfl)
  clear hb H
  go_wp2_with fail
  refine (rp_any 2 3 _).mono ?_
  rintro e w2 ⟨rfl,hb⟩
  have LT2:=Lib.hid ((H1.out.next hb).blk 0 rfl).lt
  have H:=Lib.hid ((H1.out.next hb).new' 90 #[.int .i64 (rpF 2 3).kind,.int .i64 (rpF 2 3).reg,.int .i64 (rpF 2 3).n] rfl)
  obtain ⟨f0,f1,f2,x0,x1,x2⟩:=(H.out.blk 0 rfl).three
  obtain ⟨g0,g1,g2,_,_,_⟩:=(H.out.blk 1 rfl).three
  obtain ⟨e0,e1,d0,d1⟩:=(H.out.blk 2 rfl).two
  clear hb H1
  have Hn:=Lib.hid H.out.drew
  clear H x0 x1 x2
  have H:=Hn
  clear Hn
  have n1:¬w2.heap.size=w.heap.size:=by have:=LT1.out;have:=LT2.out;omega
  have n2:¬w.heap.size=w2.heap.size:=fun e=>n1 e.symm
  first
   | ((have _:=Ma0);(go_upto_region 25 with fail))
   | (go_upto_region 26 with fail)
  obtain ⟨f0,f1,f2,_,_,_⟩:=(H.out.blk 0 rfl).three
  obtain ⟨e0,e1,d0,d1⟩:=(H.out.blk 2 rfl).two
  go_region_held3 (fun w'=>w'.cell? ⟨w2.heap.size,0,none⟩=some (.int .i64 (rpF 2 3).kind)∧w'.cell? ⟨w2.heap.size,1,none⟩=some (.int .i64 (rpF 2 3).reg)∧w'.cell? ⟨w2.heap.size,2,none⟩=some (.int .i64 (rpF 2 3).n)) (go_keep)
   (first
    | (go_at_call 111;refine (frO H (mem9_any _)).mono ?_;rintro e w' ⟨rfl,H⟩;obtain ⟨f0,f1,f2,_,_,_⟩:=(H.out.blk 0 rfl).three)
    | (go_at_call 104;refine (frL H 2 rfl (two_any _ _ _)).mono ?_;rintro e w' ⟨va,vc,rfl,HO,H⟩;obtain ⟨f0,f1,f2,_,_,_⟩:=(H.out.blk 0 rfl).three)
    | (go_at_call 103;refine (frI H (ins9_any _ _ _ _ _ HO.out)).mono ?_;rintro e w' ⟨rfl,HO,H⟩;obtain ⟨e0,e1,d0,d1⟩:=(H.out.blk 2 rfl).two;obtain ⟨f0,f1,f2,_,_,_⟩:=(H.out.blk 0 rfl).three))
  go_wp2
  have hpo:=fun x=>put_ins (x:=x) (y:=.slice va 2 vc) H.out.below HO.out (fun k hk=>hk) (Nat.le_refl _)
  exact bodyPost_ret (insA_end rfl rfl (((H.out.blk 2 rfl).set 0 _).set 1 _)) rfl ⟨_,rfl,(hpo _).1,(hpo _).2⟩):P:=h
theorem ed_3_0t (op:Int) (_h0:0≤op) (_h8:op < 256) (hx:op / 64=1) (hy:op / 8 % 8=4) (hz:op % 8=3) (w:World):Calls Tryz.prog 69 #[.int .u8 op] w (InsA w ⟨#[76,68]⟩ [memO,rpF 2 3] ⟨#[119]⟩ true):=by
 have Ma0:=trivial
 exact s8_t4
theorem s8_t5 {P:Prop} (h:P:=by
  have H:=Lib.hid ((Fr.start w).new' 27 #[.string ⟨#[]⟩,.slice none 0 0] rfl)
  subst hz'
  go_enter Tryz.func69,Tryz.ntmps69
  go_wp2_with fail
  refine (rp_o _ _ _).mono ?_
  rintro e w1 ⟨o1,rfl,hb⟩
  have LT1:=Lib.hid ((H.out.next hb).blk 0 rfl).lt
  have H1:=Lib.hid ((H.out.next hb).new' 90 #[.int .i64 o1.kind,.int .i64 o1.reg,.int .i64 o1.n] rfl)
  clear hb H
  go_wp2_with fail
  refine (rp_any (y / 2) 3 _).mono ?_
  rintro e w2 ⟨rfl,hb⟩
  have LT2:=Lib.hid ((H1.out.next hb).blk 0 rfl).lt
  have H:=Lib.hid ((H1.out.next hb).new' 90 #[.int .i64 (rpF (y / 2) 3).kind,.int .i64 (rpF (y / 2) 3).reg,.int .i64 (rpF (y / 2) 3).n] rfl)
  obtain ⟨f0,f1,f2,x0,x1,x2⟩:=(H.out.blk 0 rfl).three
  obtain ⟨g0,g1,g2,_,_,_⟩:=(H.out.blk 1 rfl).three
  obtain ⟨e0,e1,d0,d1⟩:=(H.out.blk 2 rfl).two
  clear hb H1
  have Hn:=Lib.hid H.out.drew
  clear H x0 x1 x2
  have H:=Hn
  clear Hn
  have n1:¬w2.heap.size=w.heap.size:=by have:=LT1.out;have:=LT2.out;omega
  have n2:¬w.heap.size=w2.heap.size:=fun e=>n1 e.symm
  first
   | ((have _:=Ma0);(go_upto_region 25 with fail))
   | (go_upto_region 26 with fail)
  obtain ⟨f0,f1,f2,_,_,_⟩:=(H.out.blk 0 rfl).three
  obtain ⟨e0,e1,d0,d1⟩:=(H.out.blk 2 rfl).two
  go_region_held3 (fun w'=>w'.cell? ⟨w2.heap.size,0,none⟩=some (.int .i64 (rpF (y / 2) 3).kind)∧w'.cell? ⟨w2.heap.size,1,none⟩=some (.int .i64 (rpF (y / 2) 3).reg)∧w'.cell? ⟨w2.heap.size,2,none⟩=some (.int .i64 (rpF (y / 2) 3).n)) (go_keep)
   (first
    | (go_at_call 111;refine (frO H (mem9_any _)).mono ?_;rintro e w' ⟨rfl,H⟩;obtain ⟨f0,f1,f2,_,_,_⟩:=(H.out.blk 0 rfl).three)
    | (go_at_call 104;refine (frL H 2 rfl (two_any _ _ _)).mono ?_;rintro e w' ⟨va,vc,rfl,HO,H⟩;obtain ⟨f0,f1,f2,_,_,_⟩:=(H.out.blk 0 rfl).three)
    | (go_at_call 103;refine (frI H (ins9_any _ _ _ _ _ HO.out)).mono ?_;rintro e w' ⟨rfl,HO,H⟩;obtain ⟨e0,e1,d0,d1⟩:=(H.out.blk 2 rfl).two;obtain ⟨f0,f1,f2,_,_,_⟩:=(H.out.blk 0 rfl).three))
  go_wp2
  have hpo:=fun x=>put_ins (x:=x) (y:=.slice va 2 vc) H.out.below HO.out (fun k hk=>hk) (Nat.le_refl _)
  exact bodyPost_ret (insA_end rfl rfl (((H.out.blk 2 rfl).set 0 _).set 1 _)) rfl ⟨_,rfl,(hpo _).1,(hpo _).2⟩):P:=h
theorem ed_3_0f (op y z:Int) (_h0:0≤op) (_h8:op < 256) (_hy:op / 8 % 8=y) (_hz:op % 8=z) (_hy0:0≤y) (_hy8:y < 8) (_hz0:0≤z) (_hz8:z < 8) (hx:op / 64=1) (hz':z=3) (hq:y % 2=0) (hal:(y==4)=false) (w:World):Calls Tryz.prog 69 #[.int .u8 op] w (InsA w ⟨#[76,68]⟩ [memO,rpF (y / 2) 3] ⟨#[119]⟩ false):=by
 have Ma0:=trivial
 exact s8_t5
theorem ed_3_1t (op:Int) (_h0:0≤op) (_h8:op < 256) (hx:op / 64=1) (hy:op / 8 % 8=5) (hz:op % 8=3) (w:World):Calls Tryz.prog 69 #[.int .u8 op] w (InsA w ⟨#[76,68]⟩ [rpF 2 3,memO] ⟨#[119]⟩ true):=s8_t4
theorem ed_3_1f (op y z:Int) (_h0:0≤op) (_h8:op < 256) (_hy:op / 8 % 8=y) (_hz:op % 8=z) (_hy0:0≤y) (_hy8:y < 8) (_hz0:0≤z) (_hz8:z < 8) (hx:op / 64=1) (hz':z=3) (hq:y % 2=1) (hal:(y==5)=false) (w:World):Calls Tryz.prog 69 #[.int .u8 op] w (InsA w ⟨#[76,68]⟩ [rpF (y / 2) 3,memO] ⟨#[119]⟩ false):=s8_t5
end Go.Proofs.YtjmekllgnhkodaaGreatDoor
