/-
  The reference's operands and operations; its instructions of x = 0. Conditions: none.
-/
import Derived.Test.YtnbmbcjnncbaiaaGreatDoorPA
import Derived.Test.YtnbmbcjnncbaiaaGreatDoorPE
namespace Go.Proofs.YtnbmbcjnncbaiaaGreatDoor
set_option maxHeartbeats 4000000
set_option maxRecDepth 100000
open Go.RowKit
structure Fr (w0:World) (L:List (Nat × TypeId × Array Value)) (w:World):Prop where
 below:Below w0.heap.size w0 w
 at':∀x∈L,Blk w x.1 x.2.1 x.2.2
theorem Fr.start (w:World):Fr w [] w:=⟨Below.refl _ _,fun _ h=>by cases h⟩
theorem Fr.blk {w0 w:World} {L:List (Nat × TypeId × Array Value)} (h:Fr w0 L w) (i:Nat) {b:Nat} {t:TypeId} {cs:Array Value} (hi:L[i]?=some (b,t,cs)):Blk w b t cs:=h.at' _ (List.mem_of_getElem? hi)
theorem Fr.mem {w0 w:World} {L:List (Nat × TypeId × Array Value)} (h:Fr w0 L w) (b:Nat) (t:TypeId) (cs:Array Value) (hi:(b,t,cs)∈L):Blk w b t cs:=h.at' _ hi
theorem Fr.next {w0 W w1:World} {L:List (Nat × TypeId × Array Value)} (h:Fr w0 L W) (hb:Below W.heap.size W w1):Fr w0 L w1:=
 ⟨h.below.trans (hb.mono h.below.size),fun x hx=>(h.at' x hx).below hb (h.at' x hx).lt⟩
theorem Fr.drew {w0 W:World} {L:List (Nat × TypeId × Array Value)} (h:Fr w0 L W):Fr w0 L W.drew:=h.next (Below.refl _ _).drew
theorem Fr.drewN {w0 W:World} {L:List (Nat × TypeId × Array Value)} (h:Fr w0 L W) (n:Nat):Fr w0 L (W.drewN n):=h.next (below_dN (Below.refl _ _) n)
theorem Fr.alloc {w0 W:World} {L:List (Nat × TypeId × Array Value)} (h:Fr w0 L W) (o:Obj):Fr w0 L (W.alloc o):=h.next ((Below.refl _ _).alloc (Nat.le_refl _) o)
theorem Fr.new {w0 W:World} {L:List (Nat × TypeId × Array Value)} (h:Fr w0 L W) (t:TypeId) (cs:Array Value):Fr w0 ((W.heap.size,t,cs)::L) (W.alloc (.cells cs t)):=
 ⟨(h.alloc _).below,fun x hx=>by
  rcases List.mem_cons.1 hx with rfl | hx
  ·exact Blk.new W t cs
  ·exact (h.alloc _).at' x hx⟩
theorem Fr.new' {w0 W:World} {L:List (Nat × TypeId × Array Value)} (h:Fr w0 L W) (t:TypeId) (cs:Array Value) {b:Nat} (hb:W.heap.size=b):Fr w0 ((b,t,cs)::L) (W.alloc (.cells cs t)):=by
 subst hb;exact h.new t cs
theorem Fr.set {w0 W:World} {L:List (Nat × TypeId × Array Value)} {b:Nat} {t:TypeId} {cs:Array Value} (h:Fr w0 ((b,t,cs)::L) W) (hb:w0.heap.size≤b) (hn:∀x∈L,x.1≠b) (i:Nat) (u:Value):Fr w0 ((b,t,cs.setIfInBounds i u)::L) (W.setCell ⟨b,i,none⟩ u):=
 ⟨h.below.setCell hb _,fun x hx=>by
  rcases List.mem_cons.1 hx with rfl | hx
  ·exact (h.blk 0 rfl).set i u
  ·exact (h.at' x (by simp [hx])).far (hn x hx) u⟩
theorem Fr.set3 {w0 W:World} {L:List (Nat × TypeId × Array Value)} {b:Nat} {t:TypeId} {x y z:Value} (h:Fr w0 ((b,t,#[x,y,z])::L) W) (hb:w0.heap.size≤b) (hn:∀x∈L,x.1≠b) (u0 u1 u2:Value):
  Fr w0 ((b,t,#[u0,u1,u2])::L) (((W.setCell ⟨b,0,none⟩ u0).setCell ⟨b,1,none⟩ u1).setCell ⟨b,2,none⟩ u2):=((h.set hb hn 0 u0).set hb hn 1 u1).set hb hn 2 u2
theorem Fr.drop {w0 W:World} {x:Nat × TypeId × Array Value} {L:List (Nat × TypeId × Array Value)} (h:Fr w0 (x::L) W):Fr w0 L W:=⟨h.below,fun y hy=>h.at' y (by simp [hy])⟩
theorem Fr.sub {w0 W:World} {L M:List (Nat × TypeId × Array Value)} (h:Fr w0 L W) (hs:∀x∈M,x∈L):Fr w0 M W:=⟨h.below,fun y hy=>h.at' y (hs y hy)⟩
theorem Fr.size {w0 W:World} {L:List (Nat × TypeId × Array Value)} (h:Fr w0 L W):w0.heap.size≤W.heap.size:=h.below.size
end Go.Proofs.YtnbmbcjnncbaiaaGreatDoor
namespace Go.Proofs.YtnbmbcjnncbaiaaGreatDoor
set_option maxHeartbeats 4000000
set_option maxRecDepth 100000
open Go.RowKit Go.Shelf Go.Sort
def rF (n:Int):Opd:=if n=6 then ⟨4,2,0⟩ else ⟨1,n,0⟩
def rpF (n last:Int):Opd:=if n=3 then ⟨3,last,0⟩ else ⟨3,n,0⟩
def immO (n:Int):Opd:=⟨6,0,n⟩
def memO:Opd:=⟨7,0,0⟩
def ccO (n:Int):Opd:=⟨8,n,0⟩
def indO (n:Int):Opd:=⟨4,n,0⟩
def relO:Opd:=⟨10,0,0⟩
def accO:Opd:=⟨1,7,0⟩
theorem rF_6:rF 6=⟨4,2,0⟩:=rfl
theorem rF_n {n:Int} (h:n≠6):rF n=⟨1,n,0⟩:=if_neg h
theorem rpF_3 (last:Int):rpF 3 last=⟨3,last,0⟩:=rfl
theorem rpF_n {n:Int} (last:Int) (h:n≠3):rpF n last=⟨3,n,0⟩:=if_neg h
def OpdP (o:Opd) (w:World) (e:Ending) (w':World):Prop:=e=.returned (.agg #[.int .i64 o.kind,.int .i64 o.reg,.int .i64 o.n])∧Below w.heap.size w w'
theorem opd_end {fn:Func} {p:Tmp} (h:fn.results=#[.cell p 93]) {tmps:Array Value} {w':World} {o:Opd} {g:Nat} (hp:tmps.getD p undef=.pointer (some ⟨g,0,none⟩))
  (hg:Blk w' g 93 #[.int .i64 o.kind,.int .i64 o.reg,.int .i64 o.n]):(results fn tmps).run Tryz.prog w'=.ok (.agg #[.int .i64 o.kind,.int .i64 o.reg,.int .i64 o.n]) w':=
 results_row1 h tmps w' g 93 _ (0,0) _ hp hg Tryz.underlying93 rfl (by kernel_rfl)
theorem ins_end {fn:Func} {p:Tmp} (h:fn.results=#[.cell p 27]) {tmps:Array Value} {w':World} {s v:Value} {g:Nat} (hp:tmps.getD p undef=.pointer (some ⟨g,0,none⟩))
  (hg:Blk w' g 27 #[s,v]):(results fn tmps).run Tryz.prog w'=.ok (.agg #[s,v]) w':=
 results_row1 h tmps w' g 27 _ (0,0) _ hp hg Tryz.underlying27 rfl (by kernel_rfl)
theorem OpdOwn.form {w:World} {q:Blocks} {v:Value} {l:List Opd} (h:OpdOwn w q v l):∃a c,v=.slice a l.length c:=by obtain ⟨a,c,e,_⟩:=h;exact ⟨a,c,e⟩
theorem OpdOwn.far {w:World} {q:Blocks} {v:Value} {l:List Opd} (h:OpdOwn w q v l) {p:Addr} (hq:∀k,q k→k≠p.block) (u:Value):OpdOwn (w.setCell p u) q v l:=h.keep (Keep.setCell hq u)
theorem opdOwn_none (w:World) (q:Blocks):OpdOwn w q (.slice none 0 0) []:=⟨none,0,rfl,Nat.le_refl _,by omega,fun i x h=>by simp at h⟩
theorem put_ins {w0 w1:World} {q:Blocks} {b:Nat} {v x y:Value} {l:List Opd} (hB:Below w0.heap.size w0 w1) (ho:OpdOwn w1 q v l) (hq:∀k,q k→b < k) (hb:w0.heap.size≤b):
  OpdOwn ((w1.setCell ⟨b,0,none⟩ x).setCell ⟨b,1,none⟩ y) (fun k=>w0.heap.size≤k) v l∧Below w0.heap.size w0 ((w1.setCell ⟨b,0,none⟩ x).setCell ⟨b,1,none⟩ y):=
 ⟨((ho.far (p:=⟨b,0,none⟩) (fun k hk=>Nat.ne_of_gt (hq k hk)) x).far (p:=⟨b,1,none⟩) (fun k hk=>Nat.ne_of_gt (hq k hk)) y).mono (fun k hk=>Nat.le_trans hb (Nat.le_of_lt (hq k hk))),(hB.setCell hb _).setCell hb _⟩
theorem r_any (n:Int) (w:World):Calls Tryz.prog 84 #[.int .i64 n] w (OpdP (rF n) w):=by
 by_cases h:n=6
 ·subst h
  rw [rF_6]
  go_enter Tryz.func84,Tryz.ntmps84
  go_wp2
  refine bodyPost_ret (opd_end (o:=⟨4,2,0⟩) rfl rfl (Blk.new w _ _)) rfl ⟨rfl,(Below.refl _ _).alloc (Nat.le_refl _) _⟩
 ·rw [rF_n h]
  go_enter Tryz.func84,Tryz.ntmps84
  go_wp2
  refine bodyPost_ret (opd_end (o:=⟨1,n,0⟩) rfl rfl (Blk.new w _ _)) rfl ⟨rfl,(Below.refl _ _).alloc (Nat.le_refl _) _⟩
theorem rp_any (n last:Int) (w:World):Calls Tryz.prog 120 #[.int .i64 n,.int .i64 last] w (OpdP (rpF n last) w):=by
 by_cases h:n=3
 ·subst h
  rw [rpF_3]
  go_enter Tryz.func120,Tryz.ntmps120
  go_wp2
  refine bodyPost_ret (opd_end (o:=⟨3,last,0⟩) rfl rfl (Blk.new w _ _)) rfl ⟨rfl,(Below.refl _ _).alloc (Nat.le_refl _) _⟩
 ·rw [rpF_n last h]
  go_enter Tryz.func120,Tryz.ntmps120
  go_wp2
  refine bodyPost_ret (opd_end (o:=⟨3,n,0⟩) rfl rfl (Blk.new w _ _)) rfl ⟨rfl,(Below.refl _ _).alloc (Nat.le_refl _) _⟩
theorem rp_o (n last:Int) (w:World):Calls Tryz.prog 120 #[.int .i64 n,.int .i64 last] w fun e w'=>∃o:Opd,e=.returned (.agg #[.int .i64 o.kind,.int .i64 o.reg,.int .i64 o.n])∧Below w.heap.size w w':=(rp_any n last w).mono fun _ _ h=>⟨_,h⟩
theorem imm9_any (n:Int) (w:World):Calls Tryz.prog 119 #[.int .i64 n] w (OpdP (immO n) w):=by
 go_enter Tryz.func119,Tryz.ntmps119
 go_wp2
 refine bodyPost_ret (opd_end (o:=immO n) rfl rfl (Blk.new w _ _)) rfl ⟨rfl,(Below.refl _ _).alloc (Nat.le_refl _) _⟩
theorem mem9_any (w:World):Calls Tryz.prog 122 #[] w (OpdP (memO) w):=by
 go_enter Tryz.func122,Tryz.ntmps122
 go_wp2
 refine bodyPost_ret (opd_end (o:=memO) rfl rfl (Blk.new w _ _)) rfl ⟨rfl,(Below.refl _ _).alloc (Nat.le_refl _) _⟩
theorem cc9_any (n:Int) (w:World):Calls Tryz.prog 152 #[.int .i64 n] w (OpdP (ccO n) w):=by
 go_enter Tryz.func152,Tryz.ntmps152
 go_wp2
 refine bodyPost_ret (opd_end (o:=ccO n) rfl rfl (Blk.new w _ _)) rfl ⟨rfl,(Below.refl _ _).alloc (Nat.le_refl _) _⟩
theorem ind9_any (n:Int) (w:World):Calls Tryz.prog 121 #[.int .i64 n] w (OpdP (indO n) w):=by
 go_enter Tryz.func121,Tryz.ntmps121
 go_wp2
 refine bodyPost_ret (opd_end (o:=indO n) rfl rfl (Blk.new w _ _)) rfl ⟨rfl,(Below.refl _ _).alloc (Nat.le_refl _) _⟩
theorem rel9_any (w:World):Calls Tryz.prog 151 #[] w (OpdP (relO) w):=by
 go_enter Tryz.func151,Tryz.ntmps151
 go_wp2
 refine bodyPost_ret (opd_end (o:=relO) rfl rfl (Blk.new w _ _)) rfl ⟨rfl,(Below.refl _ _).alloc (Nat.le_refl _) _⟩
theorem acc9_any (w:World):Calls Tryz.prog 123 #[] w (OpdP accO w):=by
 have HR:=Lib.hid (fun W=>r_any 7 W)
 rw [rF_n (by omega)] at HR
 have HF:=Lib.hid (Blk.new w 93 #[.int .i64 0,.int .i64 0,.int .i64 0])
 have HAL:=Lib.hid ((Below.refl w.heap.size w).alloc (Nat.le_refl _) (.cells #[.int .i64 0,.int .i64 0,.int .i64 0] 93))
 go_enter Tryz.func123,Tryz.ntmps123
 go_wp2_with (go_at_call 84;refine (HR.out _).mono ?_;rintro e w1 ⟨rfl,hb⟩;have HB:=Lib.hid (HAL.out.trans (hb.mono HAL.out.size));have HK:=Lib.hid (HF.out.below hb HF.out.lt);obtain ⟨z0,z1,z2,y0,y1,y2⟩:=HK.out.three;clear hb)
 refine bodyPost_ret (opd_end (o:=accO) rfl rfl (((HK.out.set 0 _).set 1 _).set 2 _)) rfl ⟨rfl,?_⟩
 exact ((HB.out.setCell (Nat.le_refl _) _).setCell (Nat.le_refl _) _).setCell (Nat.le_refl _) _
theorem one_any (x:Opd) (w:World):Calls Tryz.prog 118 #[.agg #[.int .i64 x.kind,.int .i64 x.reg,.int .i64 x.n]] w fun e w'=>∃v,e=.returned v∧OpdOwn w' (fun b=>w.heap.size≤b) v [x]∧Below w.heap.size w w':=by
 go_enter Tryz.func118,Tryz.ntmps118
 go_wp2
 go_ret
 refine ⟨_,rfl,opdOwn_new (w:=w.alloc (.cells #[.int .i64 x.kind,.int .i64 x.reg,.int .i64 x.n] 93)) [x] _ _ _ 1 (by simp) rfl rfl (by simp) (by simp),((Below.refl _ _).alloc (Nat.le_refl _) _).alloc (by simp) _⟩
theorem two_any (x y:Opd) (w:World):Calls Tryz.prog 115 #[.agg #[.int .i64 x.kind,.int .i64 x.reg,.int .i64 x.n],.agg #[.int .i64 y.kind,.int .i64 y.reg,.int .i64 y.n]] w fun e w'=>∃v,e=.returned v∧OpdOwn w' (fun b=>w.heap.size≤b) v [x,y]∧Below w.heap.size w w':=by
 go_enter Tryz.func115,Tryz.ntmps115
 go_wp2
 go_ret
 refine ⟨_,rfl,opdOwn_new (w:=(w.alloc (.cells #[.int .i64 x.kind,.int .i64 x.reg,.int .i64 x.n] 93)).alloc (.cells #[.int .i64 y.kind,.int .i64 y.reg,.int .i64 y.n] 93)) [x,y] _ _ _ 2 (by rw [World.size_alloc,World.size_alloc]) rfl rfl (by show w.heap.size≤w.heap.size+1+1;omega) (by simp),(((Below.refl _ _).alloc (Nat.le_refl _) _).alloc (by simp) _).alloc (by rw [World.size_alloc,World.size_alloc];omega) _⟩
theorem ins9_any (s:ByteArray) (a:Option Addr) (n c:Nat) (w:World) {q:Blocks} {l:List Opd} (ho:OpdOwn w q (.slice a n c) l):Calls Tryz.prog 114 #[.string s,.slice a n c] w fun e w'=>e=.returned (.agg #[.string s,.slice a n c])∧OpdOwn w' q (.slice a n c) l∧Below w.heap.size w w':=by
 have HO:=Lib.hid ho
 clear ho
 go_enter Tryz.func114,Tryz.ntmps114
 go_wp2
 have hb:=(Below.refl w.heap.size w).alloc (Nat.le_refl _) (.cells #[.string s,.slice a n c] 27)
 refine bodyPost_ret (ins_end rfl rfl (Blk.new w _ _)) rfl ⟨rfl,HO.out.below hb,hb⟩
theorem frO {f:FuncId} {args:Array Value} {w0 W:World} {L:List (Nat × TypeId × Array Value)} {o:Opd} (H:Hid (Fr w0 L W)) (h:Calls Tryz.prog f args W (OpdP o W)):Calls Tryz.prog f args W fun e w'=>e=.returned (.agg #[.int .i64 o.kind,.int .i64 o.reg,.int .i64 o.n])∧Hid (Fr w0 L w'):=
 h.mono fun _ _ ⟨a,b⟩=>⟨a,Lib.hid (H.out.next b)⟩
theorem frL {f:FuncId} {args:Array Value} {w0 W:World} {L:List (Nat × TypeId × Array Value)} {l:List Opd} {b:Nat} {t:TypeId} {cs:Array Value} (H:Hid (Fr w0 L W)) (i:Nat) (hi:L[i]?=some (b,t,cs))
  (h:Calls Tryz.prog f args W fun e w'=>∃v,e=.returned v∧OpdOwn w' (fun k=>W.heap.size≤k) v l∧Below W.heap.size W w'):Calls Tryz.prog f args W fun e w'=>∃a c,e=.returned (.slice a l.length c)∧Hid (OpdOwn w' (fun k=>b < k) (.slice a l.length c) l)∧Hid (Fr w0 L w'):=
 h.mono fun _ _ ⟨_,hv,ho,hb⟩=>by
  obtain ⟨a,c,rfl⟩:=ho.form
  exact ⟨a,c,hv,Lib.hid (ho.mono fun k hk=>Nat.lt_of_lt_of_le (H.out.blk i hi).lt hk),Lib.hid (H.out.next hb)⟩
theorem frI {f:FuncId} {args:Array Value} {w0 W:World} {L:List (Nat × TypeId × Array Value)} {l:List Opd} {q:Blocks} {v r:Value} (H:Hid (Fr w0 L W))
  (h:Calls Tryz.prog f args W fun e w'=>e=.returned r∧OpdOwn w' q v l∧Below W.heap.size W w'):Calls Tryz.prog f args W fun e w'=>e=.returned r∧Hid (OpdOwn w' q v l)∧Hid (Fr w0 L w'):=
 h.mono fun _ _ ⟨hr,ho,hb⟩=>⟨hr,Lib.hid ho,Lib.hid (H.out.next hb)⟩
end Go.Proofs.YtnbmbcjnncbaiaaGreatDoor
namespace Go.Proofs.YtnbmbcjnncbaiaaGreatDoor
set_option maxHeartbeats 4000000
set_option maxRecDepth 100000
open Go.RowKit Go.Shelf Go.Sort
def InsP (w:World) (s:ByteArray) (l:List Opd) (e:Ending) (w':World):Prop:=∃v,e=.returned (.agg #[.string s,v])∧OpdOwn w' (fun b=>w.heap.size≤b) v l∧Below w.heap.size w w'
theorem sa_t1 {P:Prop} (h:P:=by
  have H:=Lib.hid ((((Fr.start w).new 93 #[.int .i64 o.kind,.int .i64 o.reg,.int .i64 o.n]).new' 27 #[.string ⟨#[]⟩,.slice none 0 0] (b:=w.heap.size+1) (by rw [World.size_alloc])).alloc (.cells #[.string ⟨#[65,68,68]⟩,.string ⟨#[65,68,67]⟩,.string ⟨#[83,85,66]⟩,.string ⟨#[83,66,67]⟩,.string ⟨#[65,78,68]⟩,.string ⟨#[88,79,82]⟩,.string ⟨#[79,82]⟩,.string ⟨#[67,80]⟩] 9)).drew
  obtain ⟨f0,f1,f2,_,_,_⟩:=(H.out.blk 1 rfl).three
  go_enter Tryz.func116,Tryz.ntmps116
  go_upto_region 3 with fail
  go_region_held3 (fun w'=>w'.cell? ⟨w.heap.size,0,none⟩=some (.int .i64 o.kind)∧w'.cell? ⟨w.heap.size,1,none⟩=some (.int .i64 o.reg)∧w'.cell? ⟨w.heap.size,2,none⟩=some (.int .i64 o.n)) (go_keep)
   (first
    | (go_at_call 123;refine (frO H (acc9_any _)).mono ?_;rintro e w' ⟨rfl,H⟩;obtain ⟨f0,f1,f2,_,_,_⟩:=(H.out.blk 1 rfl).three)
    | (go_at_call 115;refine (frL H 0 rfl (two_any _ _ _)).mono ?_;rintro e w' ⟨va,vc,rfl,HO,H⟩;obtain ⟨f0,f1,f2,_,_,_⟩:=(H.out.blk 1 rfl).three)
    | (go_at_call 114;refine (frI H (ins9_any _ _ _ _ _ HO.out)).mono ?_;rintro e w' ⟨rfl,HO,H⟩;obtain ⟨e0,e1,d0,d1⟩:=(H.out.blk 0 rfl).two;obtain ⟨f0,f1,f2,_,_,_⟩:=(H.out.blk 1 rfl).three))
  go_wp2
  have hpo:=fun x=>put_ins (x:=x) (y:=.slice va 2 vc) H.out.below HO.out (fun k hk=>hk) (Nat.le_succ _)
  exact bodyPost_ret (ins_end rfl rfl (((H.out.blk 0 rfl).set 0 _).set 1 _)) rfl ⟨_,rfl,(hpo _).1,(hpo _).2⟩):P:=h
theorem alu_0 (o:Opd) (w:World):Calls Tryz.prog 116 #[.int .i64 0,.agg #[.int .i64 o.kind,.int .i64 o.reg,.int .i64 o.n]] w (InsP w ⟨#[65,68,68]⟩ [accO,o]):=sa_t1
theorem alu_1 (o:Opd) (w:World):Calls Tryz.prog 116 #[.int .i64 1,.agg #[.int .i64 o.kind,.int .i64 o.reg,.int .i64 o.n]] w (InsP w ⟨#[65,68,67]⟩ [accO,o]):=sa_t1
theorem sa_t2 {P:Prop} (h:P:=by
  have H:=Lib.hid ((((Fr.start w).new 93 #[.int .i64 o.kind,.int .i64 o.reg,.int .i64 o.n]).new' 27 #[.string ⟨#[]⟩,.slice none 0 0] (b:=w.heap.size+1) (by rw [World.size_alloc])).alloc (.cells #[.string ⟨#[65,68,68]⟩,.string ⟨#[65,68,67]⟩,.string ⟨#[83,85,66]⟩,.string ⟨#[83,66,67]⟩,.string ⟨#[65,78,68]⟩,.string ⟨#[88,79,82]⟩,.string ⟨#[79,82]⟩,.string ⟨#[67,80]⟩] 9))
  obtain ⟨f0,f1,f2,_,_,_⟩:=(H.out.blk 1 rfl).three
  go_enter Tryz.func116,Tryz.ntmps116
  go_wp2_with (first
   | (go_at_call 118;refine (frL H 0 rfl (one_any _ _)).mono ?_;rintro e w' ⟨va,vc,rfl,HO,H⟩)
   | (go_at_call 114;refine (frI H (ins9_any _ _ _ _ _ HO.out)).mono ?_;rintro e w' ⟨rfl,HO,H⟩;obtain ⟨e0,e1,d0,d1⟩:=(H.out.blk 0 rfl).two))
  have hpo:=fun x=>put_ins (x:=x) (y:=.slice va 1 vc) H.out.below HO.out (fun k hk=>hk) (Nat.le_succ _)
  exact bodyPost_ret (ins_end rfl rfl (((H.out.blk 0 rfl).set 0 _).set 1 _)) rfl ⟨_,rfl,(hpo _).1,(hpo _).2⟩):P:=h
theorem alu_2 (o:Opd) (w:World):Calls Tryz.prog 116 #[.int .i64 2,.agg #[.int .i64 o.kind,.int .i64 o.reg,.int .i64 o.n]] w (InsP w ⟨#[83,85,66]⟩ [o]):=sa_t2
theorem alu_3 (o:Opd) (w:World):Calls Tryz.prog 116 #[.int .i64 3,.agg #[.int .i64 o.kind,.int .i64 o.reg,.int .i64 o.n]] w (InsP w ⟨#[83,66,67]⟩ [accO,o]):=sa_t1
theorem alu_4 (o:Opd) (w:World):Calls Tryz.prog 116 #[.int .i64 4,.agg #[.int .i64 o.kind,.int .i64 o.reg,.int .i64 o.n]] w (InsP w ⟨#[65,78,68]⟩ [o]):=sa_t2
theorem alu_5 (o:Opd) (w:World):Calls Tryz.prog 116 #[.int .i64 5,.agg #[.int .i64 o.kind,.int .i64 o.reg,.int .i64 o.n]] w (InsP w ⟨#[88,79,82]⟩ [o]):=sa_t2
theorem alu_6 (o:Opd) (w:World):Calls Tryz.prog 116 #[.int .i64 6,.agg #[.int .i64 o.kind,.int .i64 o.reg,.int .i64 o.n]] w (InsP w ⟨#[79,82]⟩ [o]):=sa_t2
theorem alu_7 (o:Opd) (w:World):Calls Tryz.prog 116 #[.int .i64 7,.agg #[.int .i64 o.kind,.int .i64 o.reg,.int .i64 o.n]] w (InsP w ⟨#[67,80]⟩ [o]):=sa_t2
end Go.Proofs.YtnbmbcjnncbaiaaGreatDoor
namespace Go.Proofs.YtnbmbcjnncbaiaaGreatDoor
set_option maxHeartbeats 4000000
set_option maxRecDepth 100000
open Go.RowKit Go.Shelf Go.Sort
def Fo (b:Nat) (M:List (Value × List Opd)) (w:World):Prop:=∀x∈M,OpdOwn w (fun k=>b < k) x.1 x.2
theorem Fo.nil (b:Nat) (w:World):Fo b [] w:=fun _ h=>by cases h
theorem Fo.next {b:Nat} {M:List (Value × List Opd)} {W w1:World} (h:Fo b M W) (hb:Below W.heap.size W w1):Fo b M w1:=fun x hx=>(h x hx).below hb
theorem Fo.add {b:Nat} {M:List (Value × List Opd)} {w:World} {v:Value} {l:List Opd} (h:Fo b M w) (ho:OpdOwn w (fun k=>b < k) v l):Fo b ((v,l)::M) w:=fun x hx=>by
 rcases List.mem_cons.1 hx with rfl | hx
 ·exact ho
 ·exact h x hx
theorem Fo.get {b:Nat} {M:List (Value × List Opd)} {w:World} (h:Fo b M w) (i:Nat) {v:Value} {l:List Opd} (hi:M[i]?=some (v,l)):OpdOwn w (fun k=>b < k) v l:=h _ (List.mem_of_getElem? hi)
theorem put_ins2 {w0 w1:World} {q:Blocks} {b:Nat} {v x:Value} {l:List Opd} (hB:Below w0.heap.size w0 w1) (ho:OpdOwn w1 q v l) (hq:∀k,q k→b < k) (hb:w0.heap.size≤b):
  OpdOwn ((w1.setCell ⟨b,0,none⟩ x).setCell ⟨b,1,none⟩ v) (fun k=>w0.heap.size≤k) v l∧Below w0.heap.size w0 ((w1.setCell ⟨b,0,none⟩ x).setCell ⟨b,1,none⟩ v):=put_ins hB ho hq hb
end Go.Proofs.YtnbmbcjnncbaiaaGreatDoor
namespace Go.Proofs.YtnbmbcjnncbaiaaGreatDoor
set_option maxHeartbeats 4000000
set_option maxRecDepth 100000
open Go.RowKit Go.Shelf Go.Sort
def InsE (w:World) (s:ByteArray) (l:List Opd) (ex:ByteArray) (e:Ending) (w':World):Prop:=∃v,e=.returned (.tuple #[.agg #[.string s,v],.string ex])∧OpdOwn w' (fun b=>w.heap.size≤b) v l∧Below w.heap.size w w'
theorem insE_end {fn:Func} {p u:Tmp} (h:fn.results=#[.cell p 27,.tmp u]) {tmps:Array Value} {w':World} {s v:Value} {g:Nat} (hp:tmps.getD p undef=.pointer (some ⟨g,0,none⟩))
  (hg:Blk w' g 27 #[s,v]):(results fn tmps).run Tryz.prog w'=.ok (.tuple #[.agg #[s,v],tmps.getD u undef]) w':=
 results_row_tmp h tmps w' g 27 _ (0,0) _ hp hg Tryz.underlying27 rfl (by kernel_rfl)
theorem low_0_0 (w:World):Calls Tryz.prog 113 #[.int .i64 0,.int .i64 0] w (InsE w ⟨#[78,79,80]⟩ [] ⟨#[]⟩):=by
 have H0:=Lib.hid ((Fr.start w).new' 27 #[.string ⟨#[]⟩,.slice none 0 0] rfl)
 go_enter Tryz.func113,Tryz.ntmps113
 go_wp2_with fail
 refine (rp_o _ _ _).mono ?_
 rintro e w1 ⟨o1,rfl,hb⟩
 have LT1:=Lib.hid (((H0.out.next hb).blk 0 rfl).lt)
 have H1:=Lib.hid ((H0.out.next hb).new' 93 #[.int .i64 o1.kind,.int .i64 o1.reg,.int .i64 o1.n] rfl)
 clear hb
 go_wp2_with fail
 refine (rp_o _ _ _).mono ?_
 rintro e w2 ⟨o2,rfl,hb⟩
 have LT2:=Lib.hid (((H1.out.next hb).blk 0 rfl).lt)
 have H:=Lib.hid ((H1.out.next hb).new' 93 #[.int .i64 o2.kind,.int .i64 o2.reg,.int .i64 o2.n] rfl)
 obtain ⟨e0,e1,d0,d1⟩:=(H.out.blk 2 rfl).two
 clear hb
 go_wp2_with (first
  | (go_at_call 114;refine (frI H (ins9_any _ none 0 0 _ (opdOwn_none _ (fun k=>w.heap.size < k)))).mono ?_;rintro e w' ⟨rfl,HO,H⟩;obtain ⟨e0,e1,d0,d1⟩:=(H.out.blk 2 rfl).two))
 have hpo:=fun x=>put_ins (x:=x) (y:=.slice none 0 0) H.out.below HO.out (fun k hk=>hk) (Nat.le_refl _)
 exact bodyPost_ret (insE_end rfl rfl (((H.out.blk 2 rfl).set 0 _).set 1 _)) rfl ⟨_,rfl,(hpo _).1,(hpo _).2⟩
theorem low_0_1 (w:World):Calls Tryz.prog 113 #[.int .i64 1,.int .i64 0] w (InsE w ⟨#[69,88]⟩ [rpF 3 4,rpF 3 7] ⟨#[]⟩):=by
 have H0:=Lib.hid ((Fr.start w).new' 27 #[.string ⟨#[]⟩,.slice none 0 0] rfl)
 go_enter Tryz.func113,Tryz.ntmps113
 go_wp2_with fail
 refine (rp_o _ _ _).mono ?_
 rintro e w1 ⟨o1,rfl,hb⟩
 have LT1:=Lib.hid (((H0.out.next hb).blk 0 rfl).lt)
 have H1:=Lib.hid ((H0.out.next hb).new' 93 #[.int .i64 o1.kind,.int .i64 o1.reg,.int .i64 o1.n] rfl)
 clear hb
 go_wp2_with fail
 refine (rp_o _ _ _).mono ?_
 rintro e w2 ⟨o2,rfl,hb⟩
 have LT2:=Lib.hid (((H1.out.next hb).blk 0 rfl).lt)
 have H:=Lib.hid ((H1.out.next hb).new' 93 #[.int .i64 o2.kind,.int .i64 o2.reg,.int .i64 o2.n] rfl)
 obtain ⟨e0,e1,d0,d1⟩:=(H.out.blk 2 rfl).two
 clear hb
 go_wp2_with (first
  | (go_at_call 120;refine (frO H (rp_any _ _ _)).mono ?_;rintro e w' ⟨rfl,H⟩)
  | (go_at_call 115;refine (frL H 2 rfl (two_any _ _ _)).mono ?_;rintro e w' ⟨va,vc,rfl,HO,H⟩)
  | (go_at_call 114;refine (frI H (ins9_any _ _ _ _ _ HO.out)).mono ?_;rintro e w' ⟨rfl,HO,H⟩;obtain ⟨e0,e1,d0,d1⟩:=(H.out.blk 2 rfl).two))
 have hpo:=fun x=>put_ins (x:=x) (y:=.slice va 2 vc) H.out.below HO.out (fun k hk=>hk) (Nat.le_refl _)
 exact bodyPost_ret (insE_end rfl rfl (((H.out.blk 2 rfl).set 0 _).set 1 _)) rfl ⟨_,rfl,(hpo _).1,(hpo _).2⟩
theorem s3_t1 {P:Prop} (h:P:=by
  have H0:=Lib.hid ((Fr.start w).new' 27 #[.string ⟨#[]⟩,.slice none 0 0] rfl)
  go_enter Tryz.func113,Tryz.ntmps113
  go_wp2_with fail
  refine (rp_o _ _ _).mono ?_
  rintro e w1 ⟨o1,rfl,hb⟩
  have LT1:=Lib.hid (((H0.out.next hb).blk 0 rfl).lt)
  have H1:=Lib.hid ((H0.out.next hb).new' 93 #[.int .i64 o1.kind,.int .i64 o1.reg,.int .i64 o1.n] rfl)
  clear hb
  go_wp2_with fail
  refine (rp_o _ _ _).mono ?_
  rintro e w2 ⟨o2,rfl,hb⟩
  have LT2:=Lib.hid (((H1.out.next hb).blk 0 rfl).lt)
  have H:=Lib.hid ((H1.out.next hb).new' 93 #[.int .i64 o2.kind,.int .i64 o2.reg,.int .i64 o2.n] rfl)
  obtain ⟨e0,e1,d0,d1⟩:=(H.out.blk 2 rfl).two
  clear hb
  go_wp2_with (first
   | (go_at_call 151;refine (frO H (rel9_any _)).mono ?_;rintro e w' ⟨rfl,H⟩)
   | (go_at_call 118;refine (frL H 2 rfl (one_any _ _)).mono ?_;rintro e w' ⟨va,vc,rfl,HO,H⟩)
   | (go_at_call 114;refine (frI H (ins9_any _ _ _ _ _ HO.out)).mono ?_;rintro e w' ⟨rfl,HO,H⟩;obtain ⟨e0,e1,d0,d1⟩:=(H.out.blk 2 rfl).two))
  have hpo:=fun x=>put_ins (x:=x) (y:=.slice va 1 vc) H.out.below HO.out (fun k hk=>hk) (Nat.le_refl _)
  exact bodyPost_ret (insE_end rfl rfl (((H.out.blk 2 rfl).set 0 _).set 1 _)) rfl ⟨_,rfl,(hpo _).1,(hpo _).2⟩):P:=h
theorem low_0_2 (w:World):Calls Tryz.prog 113 #[.int .i64 2,.int .i64 0] w (InsE w ⟨#[68,74,78,90]⟩ [relO] ⟨#[101]⟩):=s3_t1
theorem low_0_3 (w:World):Calls Tryz.prog 113 #[.int .i64 3,.int .i64 0] w (InsE w ⟨#[74,82]⟩ [relO] ⟨#[101]⟩):=s3_t1
theorem low_0_4 (y:Int) (h4:4≤y) (h8:y < 8) (w:World):Calls Tryz.prog 113 #[.int .i64 y,.int .i64 0] w (InsE w ⟨#[74,82]⟩ [ccO (y - 4),relO] ⟨#[101]⟩):=by
 have H0:=Lib.hid ((Fr.start w).new' 27 #[.string ⟨#[]⟩,.slice none 0 0] rfl)
 go_enter Tryz.func113,Tryz.ntmps113
 go_wp2_with fail
 refine (rp_o _ _ _).mono ?_
 rintro e w1 ⟨o1,rfl,hb⟩
 have LT1:=Lib.hid (((H0.out.next hb).blk 0 rfl).lt)
 have H1:=Lib.hid ((H0.out.next hb).new' 93 #[.int .i64 o1.kind,.int .i64 o1.reg,.int .i64 o1.n] rfl)
 clear hb
 go_wp2_with fail
 refine (rp_o _ _ _).mono ?_
 rintro e w2 ⟨o2,rfl,hb⟩
 have LT2:=Lib.hid (((H1.out.next hb).blk 0 rfl).lt)
 have H:=Lib.hid ((H1.out.next hb).new' 93 #[.int .i64 o2.kind,.int .i64 o2.reg,.int .i64 o2.n] rfl)
 obtain ⟨e0,e1,d0,d1⟩:=(H.out.blk 2 rfl).two
 clear hb
 go_wp2_with (first
  | (go_at_call 152;refine (frO H (cc9_any _ _)).mono ?_;rintro e w' ⟨rfl,H⟩)
  | (go_at_call 151;refine (frO H (rel9_any _)).mono ?_;rintro e w' ⟨rfl,H⟩)
  | (go_at_call 115;refine (frL H 2 rfl (two_any _ _ _)).mono ?_;rintro e w' ⟨va,vc,rfl,HO,H⟩)
  | (go_at_call 114;refine (frI H (ins9_any _ _ _ _ _ HO.out)).mono ?_;rintro e w' ⟨rfl,HO,H⟩;obtain ⟨e0,e1,d0,d1⟩:=(H.out.blk 2 rfl).two))
 have hpo:=fun x=>put_ins (x:=x) (y:=.slice va 2 vc) H.out.below HO.out (fun k hk=>hk) (Nat.le_refl _)
 exact bodyPost_ret (insE_end rfl rfl (((H.out.blk 2 rfl).set 0 _).set 1 _)) rfl ⟨_,rfl,(hpo _).1,(hpo _).2⟩
theorem low_1_0 (y:Int) (h0:0≤y) (h8:y < 8) (hq:y % 2=0) (w:World):Calls Tryz.prog 113 #[.int .i64 y,.int .i64 1] w (InsE w ⟨#[76,68]⟩ [rpF (y / 2) 3,immO 0] ⟨#[119]⟩):=by
 have H0:=Lib.hid ((Fr.start w).new' 27 #[.string ⟨#[]⟩,.slice none 0 0] rfl)
 go_enter Tryz.func113,Tryz.ntmps113
 go_wp2_with fail
 refine (rp_any (y / 2) 3 _).mono ?_
 rintro e w1 ⟨rfl,hb⟩
 have LT1:=Lib.hid (((H0.out.next hb).blk 0 rfl).lt)
 have H1:=Lib.hid ((H0.out.next hb).new' 93 #[.int .i64 (rpF (y / 2) 3).kind,.int .i64 (rpF (y / 2) 3).reg,.int .i64 (rpF (y / 2) 3).n] rfl)
 clear hb
 go_wp2_with fail
 refine (rp_o _ _ _).mono ?_
 rintro e w2 ⟨o2,rfl,hb⟩
 have LT2:=Lib.hid (((H1.out.next hb).blk 0 rfl).lt)
 have H:=Lib.hid ((H1.out.next hb).new' 93 #[.int .i64 o2.kind,.int .i64 o2.reg,.int .i64 o2.n] rfl)
 obtain ⟨e0,e1,d0,d1⟩:=(H.out.blk 2 rfl).two
 obtain ⟨f0,f1,f2,_,_,_⟩:=(H.out.blk 1 rfl).three
 clear hb
 go_upto_region 18 with fail
 have HX:=H
 have H:=Lib.hid H.out.drew
 have n1:¬w1.heap.size=w.heap.size:=by have:=LT1.out;omega
 have n2:¬w.heap.size=w1.heap.size:=fun e=>n1 e.symm
 go_region_held3 (fun w'=>w'.cell? ⟨w1.heap.size,0,none⟩=some (.int .i64 (rpF (y / 2) 3).kind)∧w'.cell? ⟨w1.heap.size,1,none⟩=some (.int .i64 (rpF (y / 2) 3).reg)∧w'.cell? ⟨w1.heap.size,2,none⟩=some (.int .i64 (rpF (y / 2) 3).n)) (go_keep)
  (first
   | (go_at_call 120;refine (frO H (rp_any _ _ _)).mono ?_;rintro e w' ⟨rfl,H⟩;obtain ⟨f0,f1,f2,_,_,_⟩:=(H.out.blk 1 rfl).three)
   | (go_at_call 119;refine (frO H (imm9_any _ _)).mono ?_;rintro e w' ⟨rfl,H⟩;obtain ⟨f0,f1,f2,_,_,_⟩:=(H.out.blk 1 rfl).three)
   | (go_at_call 115;refine (frL H 2 rfl (two_any _ _ _)).mono ?_;rintro e w' ⟨va,vc,rfl,HO,H⟩;obtain ⟨f0,f1,f2,_,_,_⟩:=(H.out.blk 1 rfl).three)
   | (go_at_call 114;refine (frI H (ins9_any _ _ _ _ _ HO.out)).mono ?_;rintro e w' ⟨rfl,HO,H⟩;obtain ⟨e0,e1,d0,d1⟩:=(H.out.blk 2 rfl).two;obtain ⟨f0,f1,f2,_,_,_⟩:=(H.out.blk 1 rfl).three))
 go_wp2
 have hpo:=fun x=>put_ins (x:=x) (y:=.slice va 2 vc) H.out.below HO.out (fun k hk=>hk) (Nat.le_refl _)
 exact bodyPost_ret (insE_end rfl rfl (((H.out.blk 2 rfl).set 0 _).set 1 _)) rfl ⟨_,rfl,(hpo _).1,(hpo _).2⟩
theorem low_1_1 (y:Int) (h0:0≤y) (h8:y < 8) (hq:y % 2=1) (w:World):Calls Tryz.prog 113 #[.int .i64 y,.int .i64 1] w (InsE w ⟨#[65,68,68]⟩ [rpF 2 3,rpF (y / 2) 3] ⟨#[]⟩):=by
 have H0:=Lib.hid ((Fr.start w).new' 27 #[.string ⟨#[]⟩,.slice none 0 0] rfl)
 go_enter Tryz.func113,Tryz.ntmps113
 go_wp2_with fail
 refine (rp_any (y / 2) 3 _).mono ?_
 rintro e w1 ⟨rfl,hb⟩
 have LT1:=Lib.hid (((H0.out.next hb).blk 0 rfl).lt)
 have H1:=Lib.hid ((H0.out.next hb).new' 93 #[.int .i64 (rpF (y / 2) 3).kind,.int .i64 (rpF (y / 2) 3).reg,.int .i64 (rpF (y / 2) 3).n] rfl)
 clear hb
 go_wp2_with fail
 refine (rp_any 2 3 _).mono ?_
 rintro e w2 ⟨rfl,hb⟩
 have LT2:=Lib.hid (((H1.out.next hb).blk 0 rfl).lt)
 have H:=Lib.hid ((H1.out.next hb).new' 93 #[.int .i64 (rpF 2 3).kind,.int .i64 (rpF 2 3).reg,.int .i64 (rpF 2 3).n] rfl)
 obtain ⟨e0,e1,d0,d1⟩:=(H.out.blk 2 rfl).two
 obtain ⟨f0,f1,f2,_,_,_⟩:=(H.out.blk 1 rfl).three
 obtain ⟨g0,g1,g2,_,_,_⟩:=(H.out.blk 0 rfl).three
 clear hb
 go_wp2_with (first
  | (go_at_call 120;refine (frO H (rp_any _ _ _)).mono ?_;rintro e w' ⟨rfl,H⟩)
  | (go_at_call 115;refine (frL H 2 rfl (two_any _ _ _)).mono ?_;rintro e w' ⟨va,vc,rfl,HO,H⟩)
  | (go_at_call 114;refine (frI H (ins9_any _ _ _ _ _ HO.out)).mono ?_;rintro e w' ⟨rfl,HO,H⟩;obtain ⟨e0,e1,d0,d1⟩:=(H.out.blk 2 rfl).two))
 have hpo:=fun x=>put_ins (x:=x) (y:=.slice va 2 vc) H.out.below HO.out (fun k hk=>hk) (Nat.le_refl _)
 exact bodyPost_ret (insE_end rfl rfl (((H.out.blk 2 rfl).set 0 _).set 1 _)) rfl ⟨_,rfl,(hpo _).1,(hpo _).2⟩
theorem s3_t2 {P:Prop} (h:P:=by
  have H0:=Lib.hid ((Fr.start w).new' 27 #[.string ⟨#[]⟩,.slice none 0 0] rfl)
  go_enter Tryz.func113,Tryz.ntmps113
  go_wp2_with fail
  refine (rp_o _ _ _).mono ?_
  rintro e w1 ⟨o1,rfl,hb⟩
  have LT1:=Lib.hid (((H0.out.next hb).blk 0 rfl).lt)
  have H1:=Lib.hid ((H0.out.next hb).new' 93 #[.int .i64 o1.kind,.int .i64 o1.reg,.int .i64 o1.n] rfl)
  clear hb
  go_wp2_with fail
  refine (rp_o _ _ _).mono ?_
  rintro e w2 ⟨o2,rfl,hb⟩
  have LT2:=Lib.hid (((H1.out.next hb).blk 0 rfl).lt)
  have H:=Lib.hid ((H1.out.next hb).new' 93 #[.int .i64 o2.kind,.int .i64 o2.reg,.int .i64 o2.n] rfl)
  obtain ⟨e0,e1,d0,d1⟩:=(H.out.blk 2 rfl).two
  clear hb
  have HP:=Lib.hid (H.out.new' 93 #[.int .i64 0,.int .i64 0,.int .i64 0] (b:=w2.heap.size+1) (by rw [World.size_alloc]))
  have l1:=LT1.out
  have l2:=LT2.out
  go_wp2_with fail
  refine (acc9_any _).mono ?_
  rintro e w3 ⟨rfl,hb⟩
  have l3:=((HP.out.next hb).blk 0 rfl).lt
  have H:=Lib.hid ((HP.out.next hb).new' 93 #[.int .i64 accO.kind,.int .i64 accO.reg,.int .i64 accO.n] rfl)
  clear hb e0 e1 d0 d1
  go_wp2_with fail
  refine (ind9_any (y / 2) _).mono ?_
  rintro e w4 ⟨rfl,hb⟩
  have H:=Lib.hid ((H.out.next hb).sub (M:=(w2.heap.size+1,93,#[.int .i64 0,.int .i64 0,.int .i64 0])::(w3.heap.size,93,#[.int .i64 accO.kind,.int .i64 accO.reg,.int .i64 accO.n])::[(w2.heap.size,93,#[.int .i64 o2.kind,.int .i64 o2.reg,.int .i64 o2.n]),(w1.heap.size,93,#[.int .i64 o1.kind,.int .i64 o1.reg,.int .i64 o1.n]),(w.heap.size,27,#[.string ⟨#[]⟩,.slice none 0 0])]) (by simp))
  obtain ⟨f0,f1,f2,x0,x1,x2⟩:=(H.out.blk 0 rfl).three
  have H:=Lib.hid (H.out.set3 (by omega) (by simp;omega) (.int .i64 (indO (y / 2)).kind) (.int .i64 (indO (y / 2)).reg) (.int .i64 (indO (y / 2)).n))
  clear hb
  obtain ⟨z0,z1,z2,_,_,_⟩:=(H.out.blk 0 rfl).three
  obtain ⟨y0,y1,y2,_,_,_⟩:=(H.out.blk 1 rfl).three
  go_wp2_with (first
   | (go_at_call 121;refine (frO H (ind9_any _ _)).mono ?_;rintro e w' ⟨rfl,H⟩)
   | (go_at_call 123;refine (frO H (acc9_any _)).mono ?_;rintro e w' ⟨rfl,H⟩)
   | (go_at_call 115;refine (frL H 4 rfl (two_any _ _ _)).mono ?_;rintro e w' ⟨va,vc,rfl,HO,H⟩)
   | (go_at_call 114;refine (frI H (ins9_any _ _ _ _ _ HO.out)).mono ?_;rintro e w' ⟨rfl,HO,H⟩;obtain ⟨e0,e1,d0,d1⟩:=(H.out.blk 4 rfl).two))
  have hpo:=fun x=>put_ins (x:=x) (y:=.slice va 2 vc) H.out.below HO.out (fun k hk=>hk) (Nat.le_refl _)
  exact bodyPost_ret (insE_end rfl rfl (((H.out.blk 4 rfl).set 0 _).set 1 _)) rfl ⟨_,rfl,(hpo _).1,(hpo _).2⟩):P:=h
theorem low_2_0a (y:Int) (h0:0≤y) (h4:y < 4) (hq:y % 2=0) (w:World):Calls Tryz.prog 113 #[.int .i64 y,.int .i64 2] w (InsE w ⟨#[76,68]⟩ [indO (y / 2),accO] ⟨#[]⟩):=s3_t2
theorem s3_t3 {P:Prop} (h:P:=by
  have H0:=Lib.hid ((Fr.start w).new' 27 #[.string ⟨#[]⟩,.slice none 0 0] rfl)
  go_enter Tryz.func113,Tryz.ntmps113
  go_wp2_with fail
  refine (rp_o _ _ _).mono ?_
  rintro e w1 ⟨o1,rfl,hb⟩
  have LT1:=Lib.hid (((H0.out.next hb).blk 0 rfl).lt)
  have H1:=Lib.hid ((H0.out.next hb).new' 93 #[.int .i64 o1.kind,.int .i64 o1.reg,.int .i64 o1.n] rfl)
  clear hb
  go_wp2_with fail
  refine (rp_any 2 3 _).mono ?_
  rintro e w2 ⟨rfl,hb⟩
  have LT2:=Lib.hid (((H1.out.next hb).blk 0 rfl).lt)
  have H:=Lib.hid ((H1.out.next hb).new' 93 #[.int .i64 (rpF 2 3).kind,.int .i64 (rpF 2 3).reg,.int .i64 (rpF 2 3).n] rfl)
  obtain ⟨e0,e1,d0,d1⟩:=(H.out.blk 2 rfl).two
  clear hb
  have HP:=Lib.hid (H.out.new' 93 #[.int .i64 0,.int .i64 0,.int .i64 0] (b:=w2.heap.size+1) (by rw [World.size_alloc]))
  have l1:=LT1.out
  have l2:=LT2.out
  go_wp2_with fail
  refine (acc9_any _).mono ?_
  rintro e w3 ⟨rfl,hb⟩
  have l3:=((HP.out.next hb).blk 0 rfl).lt
  have H:=Lib.hid ((HP.out.next hb).new' 93 #[.int .i64 accO.kind,.int .i64 accO.reg,.int .i64 accO.n] rfl)
  clear hb e0 e1 d0 d1
  go_wp2_with fail
  refine (mem9_any _).mono ?_
  rintro e w4 ⟨rfl,hb⟩
  have H:=Lib.hid ((H.out.next hb).sub (M:=(w2.heap.size+1,93,#[.int .i64 0,.int .i64 0,.int .i64 0])::(w3.heap.size,93,#[.int .i64 accO.kind,.int .i64 accO.reg,.int .i64 accO.n])::[(w2.heap.size,93,#[.int .i64 (rpF 2 3).kind,.int .i64 (rpF 2 3).reg,.int .i64 (rpF 2 3).n]),(w1.heap.size,93,#[.int .i64 o1.kind,.int .i64 o1.reg,.int .i64 o1.n]),(w.heap.size,27,#[.string ⟨#[]⟩,.slice none 0 0])]) (by simp))
  obtain ⟨f0,f1,f2,x0,x1,x2⟩:=(H.out.blk 0 rfl).three
  have H:=Lib.hid (H.out.set3 (by omega) (by simp;omega) (.int .i64 memO.kind) (.int .i64 memO.reg) (.int .i64 memO.n))
  clear hb
  obtain ⟨g0,g1,g2,_,_,_⟩:=(H.out.blk 2 rfl).three
  obtain ⟨a0,a1,a2,b0,b1,b2⟩:=(H.out.blk 1 rfl).three
  have H:=Lib.hid ((H.out.sub (M:=(w3.heap.size,93,#[.int .i64 accO.kind,.int .i64 accO.reg,.int .i64 accO.n])::(w2.heap.size+1,93,#[.int .i64 memO.kind,.int .i64 memO.reg,.int .i64 memO.n])::[(w2.heap.size,93,#[.int .i64 (rpF 2 3).kind,.int .i64 (rpF 2 3).reg,.int .i64 (rpF 2 3).n]),(w1.heap.size,93,#[.int .i64 o1.kind,.int .i64 o1.reg,.int .i64 o1.n]),(w.heap.size,27,#[.string ⟨#[]⟩,.slice none 0 0])]) (by simp)).set3 (by omega) (by simp;omega) (.int .i64 (rpF 2 3).kind) (.int .i64 (rpF 2 3).reg) (.int .i64 (rpF 2 3).n))
  obtain ⟨z0,z1,z2,_,_,_⟩:=(H.out.blk 0 rfl).three
  obtain ⟨y0,y1,y2,_,_,_⟩:=(H.out.blk 1 rfl).three
  go_wp2_with (first
   | (go_at_call 120;refine (frO H (rp_any _ _ _)).mono ?_;rintro e w' ⟨rfl,H⟩)
   | (go_at_call 122;refine (frO H (mem9_any _)).mono ?_;rintro e w' ⟨rfl,H⟩)
   | (go_at_call 115;refine (frL H 4 rfl (two_any _ _ _)).mono ?_;rintro e w' ⟨va,vc,rfl,HO,H⟩)
   | (go_at_call 114;refine (frI H (ins9_any _ _ _ _ _ HO.out)).mono ?_;rintro e w' ⟨rfl,HO,H⟩;obtain ⟨e0,e1,d0,d1⟩:=(H.out.blk 4 rfl).two))
  have hpo:=fun x=>put_ins (x:=x) (y:=.slice va 2 vc) H.out.below HO.out (fun k hk=>hk) (Nat.le_refl _)
  exact bodyPost_ret (insE_end rfl rfl (((H.out.blk 4 rfl).set 0 _).set 1 _)) rfl ⟨_,rfl,(hpo _).1,(hpo _).2⟩):P:=h
theorem low_2_0b (y:Int) (h0:4≤y) (h4:y < 6) (hq:y % 2=0) (w:World):Calls Tryz.prog 113 #[.int .i64 y,.int .i64 2] w (InsE w ⟨#[76,68]⟩ [memO,rpF 2 3] ⟨#[119]⟩):=s3_t3
theorem s3_t4 {P:Prop} (h:P:=by
  have H0:=Lib.hid ((Fr.start w).new' 27 #[.string ⟨#[]⟩,.slice none 0 0] rfl)
  go_enter Tryz.func113,Tryz.ntmps113
  go_wp2_with fail
  refine (rp_o _ _ _).mono ?_
  rintro e w1 ⟨o1,rfl,hb⟩
  have LT1:=Lib.hid (((H0.out.next hb).blk 0 rfl).lt)
  have H1:=Lib.hid ((H0.out.next hb).new' 93 #[.int .i64 o1.kind,.int .i64 o1.reg,.int .i64 o1.n] rfl)
  clear hb
  go_wp2_with fail
  refine (rp_o _ _ _).mono ?_
  rintro e w2 ⟨o2,rfl,hb⟩
  have LT2:=Lib.hid (((H1.out.next hb).blk 0 rfl).lt)
  have H:=Lib.hid ((H1.out.next hb).new' 93 #[.int .i64 o2.kind,.int .i64 o2.reg,.int .i64 o2.n] rfl)
  obtain ⟨e0,e1,d0,d1⟩:=(H.out.blk 2 rfl).two
  clear hb
  have HP:=Lib.hid (H.out.new' 93 #[.int .i64 0,.int .i64 0,.int .i64 0] (b:=w2.heap.size+1) (by rw [World.size_alloc]))
  have l1:=LT1.out
  have l2:=LT2.out
  go_wp2_with fail
  refine (acc9_any _).mono ?_
  rintro e w3 ⟨rfl,hb⟩
  have l3:=((HP.out.next hb).blk 0 rfl).lt
  have H:=Lib.hid ((HP.out.next hb).new' 93 #[.int .i64 accO.kind,.int .i64 accO.reg,.int .i64 accO.n] rfl)
  clear hb e0 e1 d0 d1
  go_wp2_with fail
  refine (mem9_any _).mono ?_
  rintro e w4 ⟨rfl,hb⟩
  have H:=Lib.hid ((H.out.next hb).sub (M:=(w2.heap.size+1,93,#[.int .i64 0,.int .i64 0,.int .i64 0])::(w3.heap.size,93,#[.int .i64 accO.kind,.int .i64 accO.reg,.int .i64 accO.n])::[(w2.heap.size,93,#[.int .i64 o2.kind,.int .i64 o2.reg,.int .i64 o2.n]),(w1.heap.size,93,#[.int .i64 o1.kind,.int .i64 o1.reg,.int .i64 o1.n]),(w.heap.size,27,#[.string ⟨#[]⟩,.slice none 0 0])]) (by simp))
  obtain ⟨f0,f1,f2,x0,x1,x2⟩:=(H.out.blk 0 rfl).three
  have H:=Lib.hid (H.out.set3 (by omega) (by simp;omega) (.int .i64 memO.kind) (.int .i64 memO.reg) (.int .i64 memO.n))
  clear hb
  obtain ⟨z0,z1,z2,_,_,_⟩:=(H.out.blk 0 rfl).three
  obtain ⟨y0,y1,y2,_,_,_⟩:=(H.out.blk 1 rfl).three
  go_wp2_with (first
   | (go_at_call 122;refine (frO H (mem9_any _)).mono ?_;rintro e w' ⟨rfl,H⟩)
   | (go_at_call 123;refine (frO H (acc9_any _)).mono ?_;rintro e w' ⟨rfl,H⟩)
   | (go_at_call 115;refine (frL H 4 rfl (two_any _ _ _)).mono ?_;rintro e w' ⟨va,vc,rfl,HO,H⟩)
   | (go_at_call 114;refine (frI H (ins9_any _ _ _ _ _ HO.out)).mono ?_;rintro e w' ⟨rfl,HO,H⟩;obtain ⟨e0,e1,d0,d1⟩:=(H.out.blk 4 rfl).two))
  have hpo:=fun x=>put_ins (x:=x) (y:=.slice va 2 vc) H.out.below HO.out (fun k hk=>hk) (Nat.le_refl _)
  exact bodyPost_ret (insE_end rfl rfl (((H.out.blk 4 rfl).set 0 _).set 1 _)) rfl ⟨_,rfl,(hpo _).1,(hpo _).2⟩):P:=h
theorem low_2_0c (y:Int) (h0:6≤y) (h4:y < 8) (hq:y % 2=0) (w:World):Calls Tryz.prog 113 #[.int .i64 y,.int .i64 2] w (InsE w ⟨#[76,68]⟩ [memO,accO] ⟨#[119]⟩):=s3_t4
theorem low_2_1a (y:Int) (h0:0≤y) (h4:y < 4) (hq:y % 2=1) (w:World):Calls Tryz.prog 113 #[.int .i64 y,.int .i64 2] w (InsE w ⟨#[76,68]⟩ [accO,indO (y / 2)] ⟨#[]⟩):=s3_t2
theorem low_2_1b (y:Int) (h0:4≤y) (h4:y < 6) (hq:y % 2=1) (w:World):Calls Tryz.prog 113 #[.int .i64 y,.int .i64 2] w (InsE w ⟨#[76,68]⟩ [rpF 2 3,memO] ⟨#[119]⟩):=s3_t3
theorem low_2_1c (y:Int) (h0:6≤y) (h4:y < 8) (hq:y % 2=1) (w:World):Calls Tryz.prog 113 #[.int .i64 y,.int .i64 2] w (InsE w ⟨#[76,68]⟩ [accO,memO] ⟨#[119]⟩):=s3_t4
theorem s3_t5 {P:Prop} (h:P:=by
  have H0:=Lib.hid ((Fr.start w).new' 27 #[.string ⟨#[]⟩,.slice none 0 0] rfl)
  go_enter Tryz.func113,Tryz.ntmps113
  go_wp2_with fail
  refine (rp_any (y / 2) 3 _).mono ?_
  rintro e w1 ⟨rfl,hb⟩
  have LT1:=Lib.hid (((H0.out.next hb).blk 0 rfl).lt)
  have H1:=Lib.hid ((H0.out.next hb).new' 93 #[.int .i64 (rpF (y / 2) 3).kind,.int .i64 (rpF (y / 2) 3).reg,.int .i64 (rpF (y / 2) 3).n] rfl)
  clear hb
  go_wp2_with fail
  refine (rp_o _ _ _).mono ?_
  rintro e w2 ⟨o2,rfl,hb⟩
  have LT2:=Lib.hid (((H1.out.next hb).blk 0 rfl).lt)
  have H:=Lib.hid ((H1.out.next hb).new' 93 #[.int .i64 o2.kind,.int .i64 o2.reg,.int .i64 o2.n] rfl)
  obtain ⟨e0,e1,d0,d1⟩:=(H.out.blk 2 rfl).two
  obtain ⟨f0,f1,f2,_,_,_⟩:=(H.out.blk 1 rfl).three
  clear hb
  go_upto_region 34 with fail
  have HX:=H
  have H:=Lib.hid H.out.drew
  have n1:¬w1.heap.size=w.heap.size:=by have:=LT1.out;omega
  have n2:¬w.heap.size=w1.heap.size:=fun e=>n1 e.symm
  obtain ⟨f0,f1,f2,x0,x1,x2⟩:=(H.out.mem w1.heap.size 93 #[.int .i64 (rpF (y / 2) 3).kind,.int .i64 (rpF (y / 2) 3).reg,.int .i64 (rpF (y / 2) 3).n] (by simp)).three
  have HA:=Lib.hid (HX.out.new' 9 #[.string ⟨#[73,78,67]⟩,.string ⟨#[68,69,67]⟩] (b:=w2.heap.size+1) (by rw [World.size_alloc])).drew
  obtain ⟨p0,p1,p2,_,_,_⟩:=(HA.out.mem w1.heap.size 93 #[.int .i64 (rpF (y / 2) 3).kind,.int .i64 (rpF (y / 2) 3).reg,.int .i64 (rpF (y / 2) 3).n] (by simp)).three
  go_region_law ((go_simp;(first
    | (go_at_call 118;refine (one_any _ _).mono ?_;rintro e w' ⟨v,rfl,ho,hb⟩;obtain ⟨va,vc,rfl⟩:=ho.form;have HO:=Lib.hid (ho.mono (r:=fun k=>w.heap.size < k) (fun k hk=>Nat.lt_of_lt_of_le (H.out.mem w.heap.size 27 #[.string ⟨#[]⟩,.slice none 0 0] (by simp)).lt (Nat.le_trans (by first | (with_reducible exact Nat.le_refl _) | (simp only [World.size_drew,World.size_alloc];omega)) hk)));have H:=Lib.hid ((HX.out.new' 9 #[.string ⟨#[73,78,67]⟩,.string ⟨#[68,69,67]⟩] (b:=w2.heap.size+1) (by rw [World.size_alloc])).drew.next hb);obtain ⟨s0,s1,_,_⟩:=(H.out.blk 0 rfl).two;obtain ⟨f0,f1,f2,x0,x1,x2⟩:=(H.out.mem w1.heap.size 93 #[.int .i64 (rpF (y / 2) 3).kind,.int .i64 (rpF (y / 2) 3).reg,.int .i64 (rpF (y / 2) 3).n] (by simp)).three;obtain ⟨e0,e1,d0,d1⟩:=(H.out.mem w.heap.size 27 #[.string ⟨#[]⟩,.slice none 0 0] (by simp)).two;clear ho hb)
    | (go_at_call 118;refine (one_any _ _).mono ?_;rintro e w' ⟨v,rfl,ho,hb⟩;obtain ⟨va,vc,rfl⟩:=ho.form;have HO:=Lib.hid (ho.mono (r:=fun k=>w.heap.size < k) (fun k hk=>Nat.lt_of_lt_of_le (H.out.mem w.heap.size 27 #[.string ⟨#[]⟩,.slice none 0 0] (by simp)).lt (Nat.le_trans (by first | (with_reducible exact Nat.le_refl _) | (simp only [World.size_drew,World.size_alloc];omega)) hk)));have H:=Lib.hid (H.out.next hb);obtain ⟨f0,f1,f2,x0,x1,x2⟩:=(H.out.mem w1.heap.size 93 #[.int .i64 (rpF (y / 2) 3).kind,.int .i64 (rpF (y / 2) 3).reg,.int .i64 (rpF (y / 2) 3).n] (by simp)).three;obtain ⟨e0,e1,d0,d1⟩:=(H.out.mem w.heap.size 27 #[.string ⟨#[]⟩,.slice none 0 0] (by simp)).two;clear ho hb)
    | (go_at_call 114;refine (ins9_any _ _ _ _ _ HO.out).mono ?_;rintro e w' ⟨rfl,ho,hb⟩;have HO:=Lib.hid ho;have H:=Lib.hid (H.out.next hb);obtain ⟨f0,f1,f2,x0,x1,x2⟩:=(H.out.mem w1.heap.size 93 #[.int .i64 (rpF (y / 2) 3).kind,.int .i64 (rpF (y / 2) 3).reg,.int .i64 (rpF (y / 2) 3).n] (by simp)).three;obtain ⟨e0,e1,d0,d1⟩:=(H.out.mem w.heap.size 27 #[.string ⟨#[]⟩,.slice none 0 0] (by simp)).two;clear ho hb)
    | (go_at_call 114;refine (ins9_any _ _ _ _ _ (HO.out.below ((Below.refl _ _).alloc (Nat.le_refl _) _))).mono ?_;rintro e w' ⟨rfl,ho,hb⟩;have HO:=Lib.hid ho;have H:=Lib.hid ((H.out.alloc _).next hb);obtain ⟨f0,f1,f2,x0,x1,x2⟩:=(H.out.mem w1.heap.size 93 #[.int .i64 (rpF (y / 2) 3).kind,.int .i64 (rpF (y / 2) 3).reg,.int .i64 (rpF (y / 2) 3).n] (by simp)).three;obtain ⟨e0,e1,d0,d1⟩:=(H.out.mem w.heap.size 27 #[.string ⟨#[]⟩,.slice none 0 0] (by simp)).two;clear ho hb));dsimp only))
  all_goals go_wp2
  all_goals have hpo:=fun x=>put_ins (x:=x) (y:=.slice va 1 vc) H.out.below HO.out (fun k hk=>hk) (Nat.le_refl _)
  all_goals exact bodyPost_ret (insE_end rfl rfl (((H.out.mem w.heap.size 27 #[.string ⟨#[]⟩,.slice none 0 0] (by simp)).set 0 _).set 1 _)) rfl ⟨_,rfl,(hpo _).1,(hpo _).2⟩):P:=h
theorem low_3_0 (y:Int) (h0:0≤y) (h8:y < 8) (hq:y % 2=0) (w:World):Calls Tryz.prog 113 #[.int .i64 y,.int .i64 3] w (InsE w ⟨#[73,78,67]⟩ [rpF (y / 2) 3] ⟨#[]⟩):=s3_t5
theorem low_3_1 (y:Int) (h0:0≤y) (h8:y < 8) (hq:y % 2=1) (w:World):Calls Tryz.prog 113 #[.int .i64 y,.int .i64 3] w (InsE w ⟨#[68,69,67]⟩ [rpF (y / 2) 3] ⟨#[]⟩):=s3_t5
theorem s3_t6 {P:Prop} (h:P:=by
  have H0:=Lib.hid ((Fr.start w).new' 27 #[.string ⟨#[]⟩,.slice none 0 0] rfl)
  go_enter Tryz.func113,Tryz.ntmps113
  go_wp2_with fail
  refine (rp_o _ _ _).mono ?_
  rintro e w1 ⟨o1,rfl,hb⟩
  have LT1:=Lib.hid (((H0.out.next hb).blk 0 rfl).lt)
  have H1:=Lib.hid ((H0.out.next hb).new' 93 #[.int .i64 o1.kind,.int .i64 o1.reg,.int .i64 o1.n] rfl)
  clear hb
  go_wp2_with fail
  refine (rp_o _ _ _).mono ?_
  rintro e w2 ⟨o2,rfl,hb⟩
  have LT2:=Lib.hid (((H1.out.next hb).blk 0 rfl).lt)
  have H:=Lib.hid ((H1.out.next hb).new' 93 #[.int .i64 o2.kind,.int .i64 o2.reg,.int .i64 o2.n] rfl)
  obtain ⟨e0,e1,d0,d1⟩:=(H.out.blk 2 rfl).two
  clear hb
  go_wp2_with (first
   | (go_at_call 84;refine (frO H (r_any _ _)).mono ?_;rintro e w' ⟨rfl,H⟩)
   | (go_at_call 118;refine (frL H 2 rfl (one_any _ _)).mono ?_;rintro e w' ⟨va,vc,rfl,HO,H⟩)
   | (go_at_call 114;refine (frI H (ins9_any _ _ _ _ _ HO.out)).mono ?_;rintro e w' ⟨rfl,HO,H⟩;obtain ⟨e0,e1,d0,d1⟩:=(H.out.blk 2 rfl).two))
  have hpo:=fun x=>put_ins (x:=x) (y:=.slice va 1 vc) H.out.below HO.out (fun k hk=>hk) (Nat.le_refl _)
  exact bodyPost_ret (insE_end rfl rfl (((H.out.blk 2 rfl).set 0 _).set 1 _)) rfl ⟨_,rfl,(hpo _).1,(hpo _).2⟩):P:=h
theorem low_4 (y:Int) (h0:0≤y) (h8:y < 8) (w:World):Calls Tryz.prog 113 #[.int .i64 y,.int .i64 4] w (InsE w ⟨#[73,78,67]⟩ [rF y] ⟨#[]⟩):=s3_t6
theorem low_5 (y:Int) (h0:0≤y) (h8:y < 8) (w:World):Calls Tryz.prog 113 #[.int .i64 y,.int .i64 5] w (InsE w ⟨#[68,69,67]⟩ [rF y] ⟨#[]⟩):=s3_t6
theorem low_6 (y:Int) (h0:0≤y) (h8:y < 8) (w:World):Calls Tryz.prog 113 #[.int .i64 y,.int .i64 6] w (InsE w ⟨#[76,68]⟩ [rF y,immO 0] ⟨#[110]⟩):=by
 have H0:=Lib.hid ((Fr.start w).new' 27 #[.string ⟨#[]⟩,.slice none 0 0] rfl)
 go_enter Tryz.func113,Tryz.ntmps113
 go_wp2_with fail
 refine (rp_o _ _ _).mono ?_
 rintro e w1 ⟨o1,rfl,hb⟩
 have LT1:=Lib.hid (((H0.out.next hb).blk 0 rfl).lt)
 have H1:=Lib.hid ((H0.out.next hb).new' 93 #[.int .i64 o1.kind,.int .i64 o1.reg,.int .i64 o1.n] rfl)
 clear hb
 go_wp2_with fail
 refine (rp_o _ _ _).mono ?_
 rintro e w2 ⟨o2,rfl,hb⟩
 have LT2:=Lib.hid (((H1.out.next hb).blk 0 rfl).lt)
 have H:=Lib.hid ((H1.out.next hb).new' 93 #[.int .i64 o2.kind,.int .i64 o2.reg,.int .i64 o2.n] rfl)
 obtain ⟨e0,e1,d0,d1⟩:=(H.out.blk 2 rfl).two
 clear hb
 go_wp2_with (first
  | (go_at_call 84;refine (frO H (r_any _ _)).mono ?_;rintro e w' ⟨rfl,H⟩)
  | (go_at_call 119;refine (frO H (imm9_any _ _)).mono ?_;rintro e w' ⟨rfl,H⟩)
  | (go_at_call 115;refine (frL H 2 rfl (two_any _ _ _)).mono ?_;rintro e w' ⟨va,vc,rfl,HO,H⟩)
  | (go_at_call 114;refine (frI H (ins9_any _ _ _ _ _ HO.out)).mono ?_;rintro e w' ⟨rfl,HO,H⟩;obtain ⟨e0,e1,d0,d1⟩:=(H.out.blk 2 rfl).two))
 have hpo:=fun x=>put_ins (x:=x) (y:=.slice va 2 vc) H.out.below HO.out (fun k hk=>hk) (Nat.le_refl _)
 exact bodyPost_ret (insE_end rfl rfl (((H.out.blk 2 rfl).set 0 _).set 1 _)) rfl ⟨_,rfl,(hpo _).1,(hpo _).2⟩
theorem s3_t7 {P:Prop} (h:P:=by
  have H0:=Lib.hid ((Fr.start w).new' 27 #[.string ⟨#[]⟩,.slice none 0 0] rfl)
  go_enter Tryz.func113,Tryz.ntmps113
  go_wp2_with fail
  refine (rp_o _ _ _).mono ?_
  rintro e w1 ⟨o1,rfl,hb⟩
  have LT1:=Lib.hid (((H0.out.next hb).blk 0 rfl).lt)
  have H1:=Lib.hid ((H0.out.next hb).new' 93 #[.int .i64 o1.kind,.int .i64 o1.reg,.int .i64 o1.n] rfl)
  clear hb
  go_wp2_with fail
  refine (rp_o _ _ _).mono ?_
  rintro e w2 ⟨o2,rfl,hb⟩
  have LT2:=Lib.hid (((H1.out.next hb).blk 0 rfl).lt)
  have H:=Lib.hid ((H1.out.next hb).new' 93 #[.int .i64 o2.kind,.int .i64 o2.reg,.int .i64 o2.n] rfl)
  obtain ⟨e0,e1,d0,d1⟩:=(H.out.blk 2 rfl).two
  clear hb
  go_wp2_with (first
   | (go_at_call 114;refine (frI (Lib.hid (H.out.alloc _)) (ins9_any _ none 0 0 _ (opdOwn_none _ (fun k=>w.heap.size < k)))).mono ?_;rintro e w' ⟨rfl,HO,H⟩;obtain ⟨e0,e1,d0,d1⟩:=(H.out.blk 2 rfl).two))
  have hpo:=fun x=>put_ins (x:=x) (y:=.slice none 0 0) H.out.below HO.out (fun k hk=>hk) (Nat.le_refl _)
  exact bodyPost_ret (insE_end rfl rfl (((H.out.blk 2 rfl).set 0 _).set 1 _)) rfl ⟨_,rfl,(hpo _).1,(hpo _).2⟩):P:=h
theorem low_7_0 (w:World):Calls Tryz.prog 113 #[.int .i64 0,.int .i64 7] w (InsE w ⟨#[82,76,67,65]⟩ [] ⟨#[]⟩):=s3_t7
theorem low_7_1 (w:World):Calls Tryz.prog 113 #[.int .i64 1,.int .i64 7] w (InsE w ⟨#[82,82,67,65]⟩ [] ⟨#[]⟩):=s3_t7
theorem low_7_2 (w:World):Calls Tryz.prog 113 #[.int .i64 2,.int .i64 7] w (InsE w ⟨#[82,76,65]⟩ [] ⟨#[]⟩):=s3_t7
theorem low_7_3 (w:World):Calls Tryz.prog 113 #[.int .i64 3,.int .i64 7] w (InsE w ⟨#[82,82,65]⟩ [] ⟨#[]⟩):=s3_t7
theorem low_7_4 (w:World):Calls Tryz.prog 113 #[.int .i64 4,.int .i64 7] w (InsE w ⟨#[68,65,65]⟩ [] ⟨#[]⟩):=s3_t7
theorem low_7_5 (w:World):Calls Tryz.prog 113 #[.int .i64 5,.int .i64 7] w (InsE w ⟨#[67,80,76]⟩ [] ⟨#[]⟩):=s3_t7
theorem low_7_6 (w:World):Calls Tryz.prog 113 #[.int .i64 6,.int .i64 7] w (InsE w ⟨#[83,67,70]⟩ [] ⟨#[]⟩):=s3_t7
theorem low_7_7 (w:World):Calls Tryz.prog 113 #[.int .i64 7,.int .i64 7] w (InsE w ⟨#[67,67,70]⟩ [] ⟨#[]⟩):=s3_t7
end Go.Proofs.YtnbmbcjnncbaiaaGreatDoor
