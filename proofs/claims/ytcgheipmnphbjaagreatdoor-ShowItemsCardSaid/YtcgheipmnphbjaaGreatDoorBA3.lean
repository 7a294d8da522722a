/-
  The references' names of registers, which operands are valid, operand.find. Conditions: none.
-/
import Derived.Test.YtcgheipmnphbjaaGreatDoorBA2
namespace Go.Proofs.YtcgheipmnphbjaaGreatDoor
set_option maxHeartbeats 4000000
open Go.RowKit
def dM (k:Int):List ByteArray:=
 if k==1 then [⟨#[66]⟩,⟨#[67]⟩,⟨#[68]⟩,⟨#[69]⟩,⟨#[72]⟩,⟨#[76]⟩,⟨#[]⟩,⟨#[65]⟩] else if k==2 then [⟨#[73,88,72]⟩,⟨#[73,88,76]⟩,⟨#[73,89,72]⟩,⟨#[73,89,76]⟩] else if k==3 then [⟨#[66,67]⟩,⟨#[68,69]⟩,⟨#[72,76]⟩,⟨#[83,80]⟩,⟨#[65,70]⟩,⟨#[73,88]⟩,⟨#[73,89]⟩,⟨#[65,70,39]⟩] else if k==4 then [⟨#[40,66,67,41]⟩,⟨#[40,68,69,41]⟩,⟨#[40,72,76,41]⟩,⟨#[40,83,80,41]⟩,⟨#[]⟩,⟨#[40,73,88,41]⟩,⟨#[40,73,89,41]⟩,⟨#[]⟩,⟨#[40,67,41]⟩] else if k==5 then [⟨#[]⟩,⟨#[]⟩,⟨#[]⟩,⟨#[]⟩,⟨#[]⟩,⟨#[73,88]⟩,⟨#[73,89]⟩] else if k==8 then [⟨#[78,90]⟩,⟨#[90]⟩,⟨#[78,67]⟩,⟨#[67]⟩,⟨#[80,79]⟩,⟨#[80,69]⟩,⟨#[80]⟩,⟨#[77]⟩] else if k==9 then [⟨#[73]⟩,⟨#[82]⟩] else []
def dZ (l:List ByteArray) (r:Int):ByteArray:=if r < 0 then ⟨#[]⟩ else (l[r.toNat]?).getD ⟨#[]⟩
def aQ (k r:Int):ByteArray:=dZ (dM k) r
def aC (o:Opd):Bool:=
 if o.kind==1 || o.kind==2 || o.kind==3 || o.kind==4 || o.kind==8 || o.kind==9 then !((aQ o.kind o.reg).toList==[])&&o.n==0
 else if o.kind==5 then !((aQ 5 o.reg).toList==[])&&decide (-128≤o.n)&&decide (o.n≤127)
 else if o.kind==6 then o.reg==0&&decide (-32768≤o.n)&&decide (o.n≤65535)
 else if o.kind==7 then o.reg==0&&decide (0≤o.n)&&decide (o.n≤65535)
 else if o.kind==10 then o.reg==0&&decide (-128≤o.n)&&decide (o.n≤127)
 else false
theorem aH {P:Program} {fn:Func} {p u:Tmp} {ty:TypeId} (h:fn.results=#[.cell p ty,.tmp u]) (tmps:Array Value) (w:World) (g:Nat) (t:TypeId) (cs:Array Value) (fr:Nat × Nat) (d:TypeDesc)
  (hp:tmps.getD p undef=.pointer (some ⟨g,0,none⟩)) (hg:w.heap[g]?=some (.cells cs t fr))
  (hu:P.underlying ty=some d) (hd:(match d with | .struct _ | .array _ _=>true | _=>false)=true) (hi:(P.info? ty).map (·.size)=some cs.size):
  (results fn tmps).run P w=.ok (.tuple #[.agg cs,tmps.getD u undef]) w:=by
 have hp':tmps[p]?.getD undef=.pointer (some ⟨g,0,none⟩):=by simpa using hp
 simp [results,h,hp',asAddr,run_loadVar_row w g t ty cs fr d hg hu hd hi]
theorem dD {P:Program} {fn:Func} {p u v:Tmp} {ty:TypeId} (h:fn.results=#[.cell p ty,.tmp u,.tmp v]) (tmps:Array Value) (w:World) (g:Nat) (t:TypeId) (cs:Array Value) (fr:Nat × Nat) (d:TypeDesc)
  (hp:tmps.getD p undef=.pointer (some ⟨g,0,none⟩)) (hg:w.heap[g]?=some (.cells cs t fr))
  (hu:P.underlying ty=some d) (hd:(match d with | .struct _ | .array _ _=>true | _=>false)=true) (hi:(P.info? ty).map (·.size)=some cs.size):
  (results fn tmps).run P w=.ok (.tuple #[.agg cs,tmps.getD u undef,tmps.getD v undef]) w:=by
 have hp':tmps[p]?.getD undef=.pointer (some ⟨g,0,none⟩):=by simpa using hp
 simp [results,h,hp',asAddr,run_loadVar_row w g t ty cs fr d hg hu hd hi]
structure fP where
 names:List ByteArray
 lo:Int
 hi:Int
 form:FuncId
def fP.nm (d:fP) (i:Nat):ByteArray:=(d.names[i]?).getD ⟨#[]⟩
def fP.val (d:fP):Value:=.agg #[.string (d.nm 0),.string (d.nm 1),.string (d.nm 2),.string (d.nm 3),.string (d.nm 4),.string (d.nm 5),.string (d.nm 6),.string (d.nm 7),.string (d.nm 8),.int .i64 d.lo,.int .i64 d.hi,.func (.func d.form) #[] #[]]
def gU:Value:=.agg #[.string ⟨#[]⟩,.string ⟨#[]⟩,.string ⟨#[]⟩,.string ⟨#[]⟩,.string ⟨#[]⟩,.string ⟨#[]⟩,.string ⟨#[]⟩,.string ⟨#[]⟩,.string ⟨#[]⟩,.int .i64 0,.int .i64 0,.nilFunc]
def cR (k:Int):Bool:=k==1 || k==2 || k==3 || k==4 || k==5 || k==6 || k==7 || k==8 || k==9 || k==10
def aG (k:Int):fP:=
 if k==1 then ⟨[⟨#[66]⟩,⟨#[67]⟩,⟨#[68]⟩,⟨#[69]⟩,⟨#[72]⟩,⟨#[76]⟩,⟨#[]⟩,⟨#[65]⟩,⟨#[]⟩],0,0,175⟩ else if k==2 then ⟨[⟨#[73,88,72]⟩,⟨#[73,88,76]⟩,⟨#[73,89,72]⟩,⟨#[73,89,76]⟩,⟨#[]⟩,⟨#[]⟩,⟨#[]⟩,⟨#[]⟩,⟨#[]⟩],0,0,175⟩ else if k==3 then ⟨[⟨#[66,67]⟩,⟨#[68,69]⟩,⟨#[72,76]⟩,⟨#[83,80]⟩,⟨#[65,70]⟩,⟨#[73,88]⟩,⟨#[73,89]⟩,⟨#[65,70,39]⟩,⟨#[]⟩],0,0,175⟩ else if k==4 then ⟨[⟨#[66,67]⟩,⟨#[68,69]⟩,⟨#[72,76]⟩,⟨#[83,80]⟩,⟨#[]⟩,⟨#[73,88]⟩,⟨#[73,89]⟩,⟨#[]⟩,⟨#[67]⟩],0,0,176⟩ else if k==5 then ⟨[⟨#[]⟩,⟨#[]⟩,⟨#[]⟩,⟨#[]⟩,⟨#[]⟩,⟨#[73,88]⟩,⟨#[73,89]⟩,⟨#[]⟩,⟨#[]⟩],-128,127,177⟩ else if k==6 then ⟨[⟨#[42]⟩,⟨#[]⟩,⟨#[]⟩,⟨#[]⟩,⟨#[]⟩,⟨#[]⟩,⟨#[]⟩,⟨#[]⟩,⟨#[]⟩],-32768,65535,179⟩ else if k==7 then ⟨[⟨#[42]⟩,⟨#[]⟩,⟨#[]⟩,⟨#[]⟩,⟨#[]⟩,⟨#[]⟩,⟨#[]⟩,⟨#[]⟩,⟨#[]⟩],0,65535,180⟩ else if k==8 then ⟨[⟨#[78,90]⟩,⟨#[90]⟩,⟨#[78,67]⟩,⟨#[67]⟩,⟨#[80,79]⟩,⟨#[80,69]⟩,⟨#[80]⟩,⟨#[77]⟩,⟨#[]⟩],0,0,175⟩ else if k==9 then ⟨[⟨#[73]⟩,⟨#[82]⟩,⟨#[]⟩,⟨#[]⟩,⟨#[]⟩,⟨#[]⟩,⟨#[]⟩,⟨#[]⟩,⟨#[]⟩],0,0,175⟩ else if k==10 then ⟨[⟨#[42]⟩,⟨#[]⟩,⟨#[]⟩,⟨#[]⟩,⟨#[]⟩,⟨#[]⟩,⟨#[]⟩,⟨#[]⟩,⟨#[]⟩],-128,127,181⟩ else ⟨[],0,0,0⟩
theorem find_1 (w:World):Calls Tryz.prog 145 #[.int .i64 1] w fun e w'=>e=.returned (.tuple #[(aG 1).val,.bool true])∧Below w.heap.size w w':=by
 go_enter Tryz.func145,Tryz.ntmps145
 go_wp2
 refine bodyPost_ret (aH rfl _ _ w.heap.size 147 #[.string ⟨#[66]⟩,.string ⟨#[67]⟩,.string ⟨#[68]⟩,.string ⟨#[69]⟩,.string ⟨#[72]⟩,.string ⟨#[76]⟩,.string ⟨#[]⟩,.string ⟨#[65]⟩,.string ⟨#[]⟩,.int .i64 (0),.int .i64 (0),.func (.func 175) #[] #[]] (0,0) _ rfl (Blk.new w _ _) Tryz.underlying147 rfl (by kernel_rfl)) rfl ⟨rfl,?_⟩
 exact (Below.refl _ _).alloc (Nat.le_refl _) _
theorem find_2 (w:World):Calls Tryz.prog 145 #[.int .i64 2] w fun e w'=>e=.returned (.tuple #[(aG 2).val,.bool true])∧Below w.heap.size w w':=by
 go_enter Tryz.func145,Tryz.ntmps145
 go_wp2
 refine bodyPost_ret (aH rfl _ _ w.heap.size 147 #[.string ⟨#[73,88,72]⟩,.string ⟨#[73,88,76]⟩,.string ⟨#[73,89,72]⟩,.string ⟨#[73,89,76]⟩,.string ⟨#[]⟩,.string ⟨#[]⟩,.string ⟨#[]⟩,.string ⟨#[]⟩,.string ⟨#[]⟩,.int .i64 (0),.int .i64 (0),.func (.func 175) #[] #[]] (0,0) _ rfl (Blk.new w _ _) Tryz.underlying147 rfl (by kernel_rfl)) rfl ⟨rfl,?_⟩
 exact (Below.refl _ _).alloc (Nat.le_refl _) _
theorem find_3 (w:World):Calls Tryz.prog 145 #[.int .i64 3] w fun e w'=>e=.returned (.tuple #[(aG 3).val,.bool true])∧Below w.heap.size w w':=by
 go_enter Tryz.func145,Tryz.ntmps145
 go_wp2
 refine bodyPost_ret (aH rfl _ _ w.heap.size 147 #[.string ⟨#[66,67]⟩,.string ⟨#[68,69]⟩,.string ⟨#[72,76]⟩,.string ⟨#[83,80]⟩,.string ⟨#[65,70]⟩,.string ⟨#[73,88]⟩,.string ⟨#[73,89]⟩,.string ⟨#[65,70,39]⟩,.string ⟨#[]⟩,.int .i64 (0),.int .i64 (0),.func (.func 175) #[] #[]] (0,0) _ rfl (Blk.new w _ _) Tryz.underlying147 rfl (by kernel_rfl)) rfl ⟨rfl,?_⟩
 exact (Below.refl _ _).alloc (Nat.le_refl _) _
theorem find_4 (w:World):Calls Tryz.prog 145 #[.int .i64 4] w fun e w'=>e=.returned (.tuple #[(aG 4).val,.bool true])∧Below w.heap.size w w':=by
 go_enter Tryz.func145,Tryz.ntmps145
 go_wp2
 refine bodyPost_ret (aH rfl _ _ w.heap.size 147 #[.string ⟨#[66,67]⟩,.string ⟨#[68,69]⟩,.string ⟨#[72,76]⟩,.string ⟨#[83,80]⟩,.string ⟨#[]⟩,.string ⟨#[73,88]⟩,.string ⟨#[73,89]⟩,.string ⟨#[]⟩,.string ⟨#[67]⟩,.int .i64 (0),.int .i64 (0),.func (.func 176) #[] #[]] (0,0) _ rfl (Blk.new w _ _) Tryz.underlying147 rfl (by kernel_rfl)) rfl ⟨rfl,?_⟩
 exact (Below.refl _ _).alloc (Nat.le_refl _) _
theorem find_5 (w:World):Calls Tryz.prog 145 #[.int .i64 5] w fun e w'=>e=.returned (.tuple #[(aG 5).val,.bool true])∧Below w.heap.size w w':=by
 go_enter Tryz.func145,Tryz.ntmps145
 go_wp2
 refine bodyPost_ret (aH rfl _ _ w.heap.size 147 #[.string ⟨#[]⟩,.string ⟨#[]⟩,.string ⟨#[]⟩,.string ⟨#[]⟩,.string ⟨#[]⟩,.string ⟨#[73,88]⟩,.string ⟨#[73,89]⟩,.string ⟨#[]⟩,.string ⟨#[]⟩,.int .i64 (-128),.int .i64 (127),.func (.func 177) #[] #[]] (0,0) _ rfl (Blk.new w _ _) Tryz.underlying147 rfl (by kernel_rfl)) rfl ⟨rfl,?_⟩
 exact (Below.refl _ _).alloc (Nat.le_refl _) _
theorem find_6 (w:World):Calls Tryz.prog 145 #[.int .i64 6] w fun e w'=>e=.returned (.tuple #[(aG 6).val,.bool true])∧Below w.heap.size w w':=by
 go_enter Tryz.func145,Tryz.ntmps145
 go_wp2
 refine bodyPost_ret (aH rfl _ _ w.heap.size 147 #[.string ⟨#[42]⟩,.string ⟨#[]⟩,.string ⟨#[]⟩,.string ⟨#[]⟩,.string ⟨#[]⟩,.string ⟨#[]⟩,.string ⟨#[]⟩,.string ⟨#[]⟩,.string ⟨#[]⟩,.int .i64 (-32768),.int .i64 (65535),.func (.func 179) #[] #[]] (0,0) _ rfl (Blk.new w _ _) Tryz.underlying147 rfl (by kernel_rfl)) rfl ⟨rfl,?_⟩
 exact (Below.refl _ _).alloc (Nat.le_refl _) _
theorem find_7 (w:World):Calls Tryz.prog 145 #[.int .i64 7] w fun e w'=>e=.returned (.tuple #[(aG 7).val,.bool true])∧Below w.heap.size w w':=by
 go_enter Tryz.func145,Tryz.ntmps145
 go_wp2
 refine bodyPost_ret (aH rfl _ _ w.heap.size 147 #[.string ⟨#[42]⟩,.string ⟨#[]⟩,.string ⟨#[]⟩,.string ⟨#[]⟩,.string ⟨#[]⟩,.string ⟨#[]⟩,.string ⟨#[]⟩,.string ⟨#[]⟩,.string ⟨#[]⟩,.int .i64 (0),.int .i64 (65535),.func (.func 180) #[] #[]] (0,0) _ rfl (Blk.new w _ _) Tryz.underlying147 rfl (by kernel_rfl)) rfl ⟨rfl,?_⟩
 exact (Below.refl _ _).alloc (Nat.le_refl _) _
theorem find_8 (w:World):Calls Tryz.prog 145 #[.int .i64 8] w fun e w'=>e=.returned (.tuple #[(aG 8).val,.bool true])∧Below w.heap.size w w':=by
 go_enter Tryz.func145,Tryz.ntmps145
 go_wp2
 refine bodyPost_ret (aH rfl _ _ w.heap.size 147 #[.string ⟨#[78,90]⟩,.string ⟨#[90]⟩,.string ⟨#[78,67]⟩,.string ⟨#[67]⟩,.string ⟨#[80,79]⟩,.string ⟨#[80,69]⟩,.string ⟨#[80]⟩,.string ⟨#[77]⟩,.string ⟨#[]⟩,.int .i64 (0),.int .i64 (0),.func (.func 175) #[] #[]] (0,0) _ rfl (Blk.new w _ _) Tryz.underlying147 rfl (by kernel_rfl)) rfl ⟨rfl,?_⟩
 exact (Below.refl _ _).alloc (Nat.le_refl _) _
theorem find_9 (w:World):Calls Tryz.prog 145 #[.int .i64 9] w fun e w'=>e=.returned (.tuple #[(aG 9).val,.bool true])∧Below w.heap.size w w':=by
 go_enter Tryz.func145,Tryz.ntmps145
 go_wp2
 refine bodyPost_ret (aH rfl _ _ w.heap.size 147 #[.string ⟨#[73]⟩,.string ⟨#[82]⟩,.string ⟨#[]⟩,.string ⟨#[]⟩,.string ⟨#[]⟩,.string ⟨#[]⟩,.string ⟨#[]⟩,.string ⟨#[]⟩,.string ⟨#[]⟩,.int .i64 (0),.int .i64 (0),.func (.func 175) #[] #[]] (0,0) _ rfl (Blk.new w _ _) Tryz.underlying147 rfl (by kernel_rfl)) rfl ⟨rfl,?_⟩
 exact (Below.refl _ _).alloc (Nat.le_refl _) _
theorem find_10 (w:World):Calls Tryz.prog 145 #[.int .i64 10] w fun e w'=>e=.returned (.tuple #[(aG 10).val,.bool true])∧Below w.heap.size w w':=by
 go_enter Tryz.func145,Tryz.ntmps145
 go_wp2
 refine bodyPost_ret (aH rfl _ _ w.heap.size 147 #[.string ⟨#[42]⟩,.string ⟨#[]⟩,.string ⟨#[]⟩,.string ⟨#[]⟩,.string ⟨#[]⟩,.string ⟨#[]⟩,.string ⟨#[]⟩,.string ⟨#[]⟩,.string ⟨#[]⟩,.int .i64 (-128),.int .i64 (127),.func (.func 181) #[] #[]] (0,0) _ rfl (Blk.new w _ _) Tryz.underlying147 rfl (by kernel_rfl)) rfl ⟨rfl,?_⟩
 exact (Below.refl _ _).alloc (Nat.le_refl _) _
theorem ME (k:Int) (h1:(k==1)=false) (h2:(k==2)=false) (h3:(k==3)=false) (h4:(k==4)=false) (h5:(k==5)=false) (h6:(k==6)=false) (h7:(k==7)=false) (h8:(k==8)=false) (h9:(k==9)=false) (h10:(k==10)=false) (w:World):Calls Tryz.prog 145 #[.int .i64 k] w fun e w'=>e=.returned (.tuple #[gU,.bool false])∧Below w.heap.size w w':=by
 go_enter Tryz.func145,Tryz.ntmps145
 go_wp2
 refine bodyPost_ret (aH rfl _ _ w.heap.size 147 #[.string ⟨#[]⟩,.string ⟨#[]⟩,.string ⟨#[]⟩,.string ⟨#[]⟩,.string ⟨#[]⟩,.string ⟨#[]⟩,.string ⟨#[]⟩,.string ⟨#[]⟩,.string ⟨#[]⟩,.int .i64 0,.int .i64 0,.nilFunc] (0,0) _ rfl (Blk.new w _ _) Tryz.underlying147 rfl (by kernel_rfl)) rfl ⟨rfl,?_⟩
 exact (Below.refl _ _).alloc (Nat.le_refl _) _
theorem sD (k:Int) (hk:cR k=true) (w:World):Calls Tryz.prog 145 #[.int .i64 k] w fun e w'=>e=.returned (.tuple #[(aG k).val,.bool true])∧Below w.heap.size w w':=by
 by_cases h1:k=1
 ·subst h1;exact find_1 w
 by_cases h2:k=2
 ·subst h2;exact find_2 w
 by_cases h3:k=3
 ·subst h3;exact find_3 w
 by_cases h4:k=4
 ·subst h4;exact find_4 w
 by_cases h5:k=5
 ·subst h5;exact find_5 w
 by_cases h6:k=6
 ·subst h6;exact find_6 w
 by_cases h7:k=7
 ·subst h7;exact find_7 w
 by_cases h8:k=8
 ·subst h8;exact find_8 w
 by_cases h9:k=9
 ·subst h9;exact find_9 w
 by_cases h10:k=10
 ·subst h10;exact find_10 w
 simp [cR,h1,h2,h3,h4,h5,h6,h7,h8,h9,h10] at hk
theorem ZH (k:Int) (hk:cR k=false) (w:World):Calls Tryz.prog 145 #[.int .i64 k] w fun e w'=>e=.returned (.tuple #[gU,.bool false])∧Below w.heap.size w w':=by
 simp only [cR,Bool.or_eq_false_iff] at hk
 obtain ⟨⟨⟨⟨⟨⟨⟨⟨⟨h1,h2⟩,h3⟩,h4⟩,h5⟩,h6⟩,h7⟩,h8⟩,h9⟩,h10⟩:=hk
 exact ME k h1 h2 h3 h4 h5 h6 h7 h8 h9 h10 w
def bG (lo hi n:Int):Bool:=decide (lo≤n)&&decide (n≤hi)
theorem sV (lo hi n:Int) (b:Nat) (w:World) (hc:w.cell? ⟨b,0,none⟩=some (.int .i64 n)):
  Calls Tryz.prog 38 #[.int .i64 lo,.int .i64 hi,.slice (some ⟨b,0,none⟩) 1 1] w fun e w'=>e=.returned (.bool (bG lo hi n))∧w'=w:=by
 cases h1:decide (n < lo)
 ·cases h2:decide (hi < n)
  ·have HV:=aA (show bG lo hi n=true by have:=of_decide_eq_false h1;have:=of_decide_eq_false h2;simp [bG];omega)
   go_enter Tryz.func38,Tryz.ntmps38
   go_wp2
   refine wp_loop_rounds 4 ?_
   rw [rounds_succ]
   go_wp2
   rw [rounds_succ]
   go_wp2
   go_ret
   exact ⟨aF HV.out.symm,rfl⟩
  ·have HV:=aA (show bG lo hi n=false by have:=of_decide_eq_true h2;simp [bG];omega)
   go_enter Tryz.func38,Tryz.ntmps38
   go_wp2
   refine wp_loop_rounds 4 ?_
   rw [rounds_succ]
   go_wp2
   go_ret
   exact ⟨aF HV.out.symm,rfl⟩
 ·have HV:=aA (show bG lo hi n=false by have:=of_decide_eq_true h1;simp [bG];omega)
  go_enter Tryz.func38,Tryz.ntmps38
  go_wp2
  refine wp_loop_rounds 4 ?_
  rw [rounds_succ]
  go_wp2
  go_ret
  exact ⟨aF HV.out.symm,rfl⟩
theorem Blk.set' {w:World} {g:Nat} {t:TypeId} {cs cs':Array Value} (h:Blk w g t cs) (i:Nat) (u:Value) (hc:cs.setIfInBounds i u=cs'):Blk (w.setCell ⟨g,i,none⟩ u) g t cs':=hc ▸ h.set i u
theorem Blk.drew {w:World} {g:Nat} {t:TypeId} {cs:Array Value} (h:Blk w g t cs):Blk w.drew g t cs:=h
theorem Blk.set12 {w:World} {g:Nat} {t:TypeId} {z0 z1 z2 z3 z4 z5 z6 z7 z8 z9 z10 z11:Value} (h:Blk w g t #[z0,z1,z2,z3,z4,z5,z6,z7,z8,z9,z10,z11]) (a0 a1 a2 a3 a4 a5 a6 a7 a8 a9 a10 a11:Value):Blk (((((((((((((w.setCell ⟨g,0,none⟩ a0).setCell ⟨g,1,none⟩ a1).setCell ⟨g,2,none⟩ a2).setCell ⟨g,3,none⟩ a3).setCell ⟨g,4,none⟩ a4).setCell ⟨g,5,none⟩ a5).setCell ⟨g,6,none⟩ a6).setCell ⟨g,7,none⟩ a7).setCell ⟨g,8,none⟩ a8).setCell ⟨g,9,none⟩ a9).setCell ⟨g,10,none⟩ a10).setCell ⟨g,11,none⟩ a11)).drew g t #[a0,a1,a2,a3,a4,a5,a6,a7,a8,a9,a10,a11]:=by
 have h0:=h.set' 0 a0 (cs':=#[a0,z1,z2,z3,z4,z5,z6,z7,z8,z9,z10,z11]) (by simp)
 have h1:=h0.set' 1 a1 (cs':=#[a0,a1,z2,z3,z4,z5,z6,z7,z8,z9,z10,z11]) (by simp)
 have h2:=h1.set' 2 a2 (cs':=#[a0,a1,a2,z3,z4,z5,z6,z7,z8,z9,z10,z11]) (by simp)
 have h3:=h2.set' 3 a3 (cs':=#[a0,a1,a2,a3,z4,z5,z6,z7,z8,z9,z10,z11]) (by simp)
 have h4:=h3.set' 4 a4 (cs':=#[a0,a1,a2,a3,a4,z5,z6,z7,z8,z9,z10,z11]) (by simp)
 have h5:=h4.set' 5 a5 (cs':=#[a0,a1,a2,a3,a4,a5,z6,z7,z8,z9,z10,z11]) (by simp)
 have h6:=h5.set' 6 a6 (cs':=#[a0,a1,a2,a3,a4,a5,a6,z7,z8,z9,z10,z11]) (by simp)
 have h7:=h6.set' 7 a7 (cs':=#[a0,a1,a2,a3,a4,a5,a6,a7,z8,z9,z10,z11]) (by simp)
 have h8:=h7.set' 8 a8 (cs':=#[a0,a1,a2,a3,a4,a5,a6,a7,a8,z9,z10,z11]) (by simp)
 have h9:=h8.set' 9 a9 (cs':=#[a0,a1,a2,a3,a4,a5,a6,a7,a8,a9,z10,z11]) (by simp)
 have h10:=h9.set' 10 a10 (cs':=#[a0,a1,a2,a3,a4,a5,a6,a7,a8,a9,a10,z11]) (by simp)
 have h11:=h10.set' 11 a11 (cs':=#[a0,a1,a2,a3,a4,a5,a6,a7,a8,a9,a10,a11]) (by simp)
 exact h11.drew
theorem AH {w0 w:World} {B g:Nat} (h:Below B w0 w) (hg:B≤g) (a0 a1 a2 a3 a4 a5 a6 a7 a8 a9 a10 a11:Value):Below B w0 (((((((((((((w.setCell ⟨g,0,none⟩ a0).setCell ⟨g,1,none⟩ a1).setCell ⟨g,2,none⟩ a2).setCell ⟨g,3,none⟩ a3).setCell ⟨g,4,none⟩ a4).setCell ⟨g,5,none⟩ a5).setCell ⟨g,6,none⟩ a6).setCell ⟨g,7,none⟩ a7).setCell ⟨g,8,none⟩ a8).setCell ⟨g,9,none⟩ a9).setCell ⟨g,10,none⟩ a10).setCell ⟨g,11,none⟩ a11)).drew:=
 ((((((((((((h.setCell (p:=⟨g,0,none⟩) hg a0).setCell (p:=⟨g,1,none⟩) hg a1).setCell (p:=⟨g,2,none⟩) hg a2).setCell (p:=⟨g,3,none⟩) hg a3).setCell (p:=⟨g,4,none⟩) hg a4).setCell (p:=⟨g,5,none⟩) hg a5).setCell (p:=⟨g,6,none⟩) hg a6).setCell (p:=⟨g,7,none⟩) hg a7).setCell (p:=⟨g,8,none⟩) hg a8).setCell (p:=⟨g,9,none⟩) hg a9).setCell (p:=⟨g,10,none⟩) hg a10).setCell (p:=⟨g,11,none⟩) hg a11).drew
def aZ (o:Opd):Bool:=cR o.kind&&decide (0≤o.reg)&&decide (o.reg < 9)&&!(((aG o.kind).nm o.reg.toNat).toList==[])&&bG (aG o.kind).lo (aG o.kind).hi o.n
theorem KK (k r n:Int) (hk:cR k=false) (w:World):Calls Tryz.prog 109 #[.agg #[.int .i64 k,.int .i64 r,.int .i64 n]] w fun e w'=>e=.returned (.tuple #[gU,.string ⟨#[]⟩,.bool false])∧Below w.heap.size w w':=by
 have HK:Hid (Blk (w.alloc (.cells #[.int .i64 k,.int .i64 r,.int .i64 n] 49)) w.heap.size 49 #[.int .i64 k,.int .i64 r,.int .i64 n]):=Blk.new w _ _
 obtain ⟨W,hW⟩:∃W:World,W=(w.alloc (.cells #[.int .i64 k,.int .i64 r,.int .i64 n] 49)).alloc (.cells #[.string ⟨#[]⟩,.string ⟨#[]⟩,.string ⟨#[]⟩,.string ⟨#[]⟩,.string ⟨#[]⟩,.string ⟨#[]⟩,.string ⟨#[]⟩,.string ⟨#[]⟩,.string ⟨#[]⟩,.int .i64 0,.int .i64 0,.nilFunc] 147):=⟨_,rfl⟩
 have HBW:Hid (Below w.heap.size w W):=hW ▸ ((Below.refl _ _).alloc (Nat.le_refl _) _).alloc (by simp) _
 have HKW:Hid (Blk W w.heap.size 49 #[.int .i64 k,.int .i64 r,.int .i64 n]):=hW ▸ HK.out.alloc _
 have HZW:Hid (Blk W (w.heap.size+1) 147 #[.string ⟨#[]⟩,.string ⟨#[]⟩,.string ⟨#[]⟩,.string ⟨#[]⟩,.string ⟨#[]⟩,.string ⟨#[]⟩,.string ⟨#[]⟩,.string ⟨#[]⟩,.string ⟨#[]⟩,.int .i64 0,.int .i64 0,.nilFunc]):=aA (by rw [hW];exact (by simpa using Blk.new (w.alloc (.cells #[.int .i64 k,.int .i64 r,.int .i64 n] 49)) 147 #[.string ⟨#[]⟩,.string ⟨#[]⟩,.string ⟨#[]⟩,.string ⟨#[]⟩,.string ⟨#[]⟩,.string ⟨#[]⟩,.string ⟨#[]⟩,.string ⟨#[]⟩,.string ⟨#[]⟩,.int .i64 0,.int .i64 0,.nilFunc]))
 have HFI:=aA (ZH k hk W)
 simp only [gU] at HFI
 go_enter Tryz.func109,Tryz.ntmps109
 go_wp2_with fail
 rw [←hW]
 clear hW HK
 refine HFI.out.mono ?_
 rintro e w1 ⟨rfl,hb⟩
 have HB:=aA hb
 have b0:w1.cell? ⟨w.heap.size,0,none⟩=some (.int .i64 k):=(hb.cell (p:=⟨w.heap.size,0,none⟩) HKW.out.lt).trans (HKW.out.cell 0)
 have b1:w1.cell? ⟨w.heap.size,1,none⟩=some (.int .i64 r):=(hb.cell (p:=⟨w.heap.size,1,none⟩) HKW.out.lt).trans (HKW.out.cell 1)
 have b2:w1.cell? ⟨w.heap.size,2,none⟩=some (.int .i64 n):=(hb.cell (p:=⟨w.heap.size,2,none⟩) HKW.out.lt).trans (HKW.out.cell 2)
 have HZ:=aA (HZW.out.below hb HZW.out.lt)
 have hlt1:w.heap.size < w1.heap.size:=Nat.lt_of_lt_of_le HKW.out.lt hb.size
 have hlt2:w.heap.size+1 < w1.heap.size:=Nat.lt_of_lt_of_le HZW.out.lt hb.size
 clear hb
 go_upto_region 3 with fail
 go_wp2_with (refine wpList_store_row rfl 147 _ _ rfl (w.heap.size+1) #[.string ⟨#[]⟩,.string ⟨#[]⟩,.string ⟨#[]⟩,.string ⟨#[]⟩,.string ⟨#[]⟩,.string ⟨#[]⟩,.string ⟨#[]⟩,.string ⟨#[]⟩,.string ⟨#[]⟩,.int .i64 0,.int .i64 0,.nilFunc] rfl rfl 147 _ (HZ.out.alloc _) (by kernel_rfl) rfl (by kernel_rfl) ?_)
 refine bodyPost_ret (dD rfl _ _ (w.heap.size+1) 147 #[.string ⟨#[]⟩,.string ⟨#[]⟩,.string ⟨#[]⟩,.string ⟨#[]⟩,.string ⟨#[]⟩,.string ⟨#[]⟩,.string ⟨#[]⟩,.string ⟨#[]⟩,.string ⟨#[]⟩,.int .i64 0,.int .i64 0,.nilFunc] (0,0) _ rfl (setRow_heap _ _ _ _ _ _ (HZ.out.alloc _)) Tryz.underlying147 rfl (by kernel_rfl)) rfl ⟨rfl,?_⟩
 exact below_setRow ((HBW.out.trans (HB.out.mono HBW.out.size)).alloc (Nat.le_trans HBW.out.size HB.out.size) _) (by omega) _
theorem k3_t1 {P:Prop} (h:P:=by
  have HK:Hid (Blk (w.alloc (.cells #[.int .i64 k,.int .i64 r,.int .i64 n] 49)) w.heap.size 49 #[.int .i64 k,.int .i64 r,.int .i64 n]):=Blk.new w _ _
  obtain ⟨W,hW⟩:∃W:World,W=(w.alloc (.cells #[.int .i64 k,.int .i64 r,.int .i64 n] 49)).alloc (.cells #[.string ⟨#[]⟩,.string ⟨#[]⟩,.string ⟨#[]⟩,.string ⟨#[]⟩,.string ⟨#[]⟩,.string ⟨#[]⟩,.string ⟨#[]⟩,.string ⟨#[]⟩,.string ⟨#[]⟩,.int .i64 0,.int .i64 0,.nilFunc] 147):=⟨_,rfl⟩
  have HBW:Hid (Below w.heap.size w W):=hW ▸ ((Below.refl _ _).alloc (Nat.le_refl _) _).alloc (by simp) _
  have HKW:Hid (Blk W w.heap.size 49 #[.int .i64 k,.int .i64 r,.int .i64 n]):=hW ▸ HK.out.alloc _
  have HZW:Hid (Blk W (w.heap.size+1) 147 #[.string ⟨#[]⟩,.string ⟨#[]⟩,.string ⟨#[]⟩,.string ⟨#[]⟩,.string ⟨#[]⟩,.string ⟨#[]⟩,.string ⟨#[]⟩,.string ⟨#[]⟩,.string ⟨#[]⟩,.int .i64 0,.int .i64 0,.nilFunc]):=aA (by rw [hW];exact (by simpa using Blk.new (w.alloc (.cells #[.int .i64 k,.int .i64 r,.int .i64 n] 49)) 147 #[.string ⟨#[]⟩,.string ⟨#[]⟩,.string ⟨#[]⟩,.string ⟨#[]⟩,.string ⟨#[]⟩,.string ⟨#[]⟩,.string ⟨#[]⟩,.string ⟨#[]⟩,.string ⟨#[]⟩,.int .i64 0,.int .i64 0,.nilFunc]))
  have HFI:=aA (sD k hk W)
  simp only [fP.val] at HFI
  have HC:Hid (∀(wx:World) (b:Nat),b=wx.heap.size→(wx.alloc (.cells #[.int .i64 n] 3)).cell? ⟨b,0,none⟩=some (.int .i64 n)):=fun wx b hb=>by rw [hb];exact (Blk.new wx _ _).cell 0
  go_enter Tryz.func109,Tryz.ntmps109
  go_wp2_with fail
  rw [←hW]
  clear hW HK
  refine HFI.out.mono ?_
  rintro e w1 ⟨rfl,hb⟩
  have HB:=aA hb
  have b0:w1.cell? ⟨w.heap.size,0,none⟩=some (.int .i64 k):=(hb.cell (p:=⟨w.heap.size,0,none⟩) HKW.out.lt).trans (HKW.out.cell 0)
  have b1:w1.cell? ⟨w.heap.size,1,none⟩=some (.int .i64 r):=(hb.cell (p:=⟨w.heap.size,1,none⟩) HKW.out.lt).trans (HKW.out.cell 1)
  have b2:w1.cell? ⟨w.heap.size,2,none⟩=some (.int .i64 n):=(hb.cell (p:=⟨w.heap.size,2,none⟩) HKW.out.lt).trans (HKW.out.cell 2)
  have HZ:=aA (HZW.out.below hb HZW.out.lt)
  have hlt1:w.heap.size < w1.heap.size:=Nat.lt_of_lt_of_le HKW.out.lt hb.size
  have hlt2:w.heap.size+1 < w1.heap.size:=Nat.lt_of_lt_of_le HZW.out.lt hb.size
  clear hb
  go_upto_region 3 with fail
  go_wp2_with (refine wpList_store_row rfl 147 _ _ rfl (w.heap.size+1) #[.string ⟨#[]⟩,.string ⟨#[]⟩,.string ⟨#[]⟩,.string ⟨#[]⟩,.string ⟨#[]⟩,.string ⟨#[]⟩,.string ⟨#[]⟩,.string ⟨#[]⟩,.string ⟨#[]⟩,.int .i64 0,.int .i64 0,.nilFunc] rfl rfl 147 _ (HZ.out.alloc _) (by kernel_rfl) rfl (by kernel_rfl) ?_)
  refine bodyPost_ret (dD rfl _ _ (w.heap.size+1) 147 #[.string ⟨#[]⟩,.string ⟨#[]⟩,.string ⟨#[]⟩,.string ⟨#[]⟩,.string ⟨#[]⟩,.string ⟨#[]⟩,.string ⟨#[]⟩,.string ⟨#[]⟩,.string ⟨#[]⟩,.int .i64 0,.int .i64 0,.nilFunc] (0,0) _ rfl (setRow_heap _ _ _ _ _ _ (HZ.out.alloc _)) Tryz.underlying147 rfl (by kernel_rfl)) rfl ⟨rfl,?_⟩
  exact below_setRow ((HBW.out.trans (HB.out.mono HBW.out.size)).alloc (Nat.le_trans HBW.out.size HB.out.size) _) (by omega) _):P:=h
theorem of_neg (k r n:Int) (hk:cR k=true) (h0:decide (r < 0)=true) (w:World):Calls Tryz.prog 109 #[.agg #[.int .i64 k,.int .i64 r,.int .i64 n]] w fun e w'=>e=.returned (.tuple #[gU,.string ⟨#[]⟩,.bool false])∧Below w.heap.size w w':=k3_t1
theorem of_big (k r n:Int) (hk:cR k=true) (h0:decide (r < 0)=false) (h9:decide (9≤r)=true) (w:World):Calls Tryz.prog 109 #[.agg #[.int .i64 k,.int .i64 r,.int .i64 n]] w fun e w'=>e=.returned (.tuple #[gU,.string ⟨#[]⟩,.bool false])∧Below w.heap.size w w':=k3_t1
end Go.Proofs.YtcgheipmnphbjaaGreatDoor
