/-
  The references' names of registers, valid operands, the two Checks. Conditions: sizes.
-/
import Derived.Test.YtnbmbcjnncbaiaaGreatDoorPB
import Derived.Laws.EntriesVeiled
import Derived.Deep.DeepCutAuto
import Derived.Laws.CopyOwn
import Derived.Maps.Own
import Derived.Maps.Views
import Derived.WalkKit
import Derived.Lib.QuietBelow
import Derived.Deep.RegionHeld3
namespace Go.Proofs.YtnbmbcjnncbaiaaGreatDoor
set_option maxHeartbeats 2000000
open Go.RowKit
def regsL (k:Int):List ByteArray:=
 if k==1 then [⟨#[66]⟩,⟨#[67]⟩,⟨#[68]⟩,⟨#[69]⟩,⟨#[72]⟩,⟨#[76]⟩,⟨#[]⟩,⟨#[65]⟩] else if k==2 then [⟨#[73,88,72]⟩,⟨#[73,88,76]⟩,⟨#[73,89,72]⟩,⟨#[73,89,76]⟩] else if k==3 then [⟨#[66,67]⟩,⟨#[68,69]⟩,⟨#[72,76]⟩,⟨#[83,80]⟩,⟨#[65,70]⟩,⟨#[73,88]⟩,⟨#[73,89]⟩,⟨#[65,70,39]⟩] else if k==4 then [⟨#[40,66,67,41]⟩,⟨#[40,68,69,41]⟩,⟨#[40,72,76,41]⟩,⟨#[40,83,80,41]⟩,⟨#[]⟩,⟨#[40,73,88,41]⟩,⟨#[40,73,89,41]⟩,⟨#[]⟩,⟨#[40,67,41]⟩] else if k==5 then [⟨#[]⟩,⟨#[]⟩,⟨#[]⟩,⟨#[]⟩,⟨#[]⟩,⟨#[73,88]⟩,⟨#[73,89]⟩] else if k==8 then [⟨#[78,90]⟩,⟨#[90]⟩,⟨#[78,67]⟩,⟨#[67]⟩,⟨#[80,79]⟩,⟨#[80,69]⟩,⟨#[80]⟩,⟨#[77]⟩] else if k==9 then [⟨#[73]⟩,⟨#[82]⟩] else []
def nameL (l:List ByteArray) (r:Int):ByteArray:=if r < 0 then ⟨#[]⟩ else (l[r.toNat]?).getD ⟨#[]⟩
def nameOf (k r:Int):ByteArray:=nameL (regsL k) r
end Go.Proofs.YtnbmbcjnncbaiaaGreatDoor
namespace Go.Proofs.YtnbmbcjnncbaiaaGreatDoor
set_option maxHeartbeats 2000000
open Go.RowKit
def validOpd (o:Opd):Bool:=
 if o.kind==1 || o.kind==2 || o.kind==3 || o.kind==4 || o.kind==8 || o.kind==9 then !((nameOf o.kind o.reg).toList==[])&&o.n==0
 else if o.kind==5 then !((nameOf 5 o.reg).toList==[])&&decide (-128≤o.n)&&decide (o.n≤127)
 else if o.kind==6 then o.reg==0&&decide (-32768≤o.n)&&decide (o.n≤65535)
 else if o.kind==7 then o.reg==0&&decide (0≤o.n)&&decide (o.n≤65535)
 else if o.kind==10 then o.reg==0&&decide (-128≤o.n)&&decide (o.n≤127)
 else false
end Go.Proofs.YtnbmbcjnncbaiaaGreatDoor
namespace Go.Proofs.YtnbmbcjnncbaiaaGreatDoor
set_option maxHeartbeats 2000000
open Go.RowKit
theorem results_row_tmp {P:Program} {fn:Func} {p u:Tmp} {ty:TypeId} (h:fn.results=#[.cell p ty,.tmp u]) (tmps:Array Value) (w:World) (g:Nat) (t:TypeId) (cs:Array Value) (fr:Nat × Nat) (d:TypeDesc)
  (hp:tmps.getD p undef=.pointer (some ⟨g,0,none⟩)) (hg:w.heap[g]?=some (.cells cs t fr))
  (hu:P.underlying ty=some d) (hd:(match d with | .struct _ | .array _ _=>true | _=>false)=true) (hi:(P.info? ty).map (·.size)=some cs.size):
  (results fn tmps).run P w=.ok (.tuple #[.agg cs,tmps.getD u undef]) w:=by
 have hp':tmps[p]?.getD undef=.pointer (some ⟨g,0,none⟩):=by simpa using hp
 simp [results,h,hp',asAddr,run_loadVar_row w g t ty cs fr d hg hu hd hi]
theorem results_row_tmp2 {P:Program} {fn:Func} {p u v:Tmp} {ty:TypeId} (h:fn.results=#[.cell p ty,.tmp u,.tmp v]) (tmps:Array Value) (w:World) (g:Nat) (t:TypeId) (cs:Array Value) (fr:Nat × Nat) (d:TypeDesc)
  (hp:tmps.getD p undef=.pointer (some ⟨g,0,none⟩)) (hg:w.heap[g]?=some (.cells cs t fr))
  (hu:P.underlying ty=some d) (hd:(match d with | .struct _ | .array _ _=>true | _=>false)=true) (hi:(P.info? ty).map (·.size)=some cs.size):
  (results fn tmps).run P w=.ok (.tuple #[.agg cs,tmps.getD u undef,tmps.getD v undef]) w:=by
 have hp':tmps[p]?.getD undef=.pointer (some ⟨g,0,none⟩):=by simpa using hp
 simp [results,h,hp',asAddr,run_loadVar_row w g t ty cs fr d hg hu hd hi]
structure KindD where
 names:List ByteArray
 lo:Int
 hi:Int
 form:FuncId
def KindD.nm (d:KindD) (i:Nat):ByteArray:=(d.names[i]?).getD ⟨#[]⟩
def KindD.val (d:KindD):Value:=.agg #[.string (d.nm 0),.string (d.nm 1),.string (d.nm 2),.string (d.nm 3),.string (d.nm 4),.string (d.nm 5),.string (d.nm 6),.string (d.nm 7),.string (d.nm 8),.int .i64 d.lo,.int .i64 d.hi,.func (.func d.form) #[] #[]]
def kindOk (k:Int):Bool:=k==1 || k==2 || k==3 || k==4 || k==5 || k==6 || k==7 || k==8 || k==9 || k==10
def kindD (k:Int):KindD:=
 if k==1 then ⟨[⟨#[66]⟩,⟨#[67]⟩,⟨#[68]⟩,⟨#[69]⟩,⟨#[72]⟩,⟨#[76]⟩,⟨#[]⟩,⟨#[65]⟩,⟨#[]⟩],0,0,207⟩ else if k==2 then ⟨[⟨#[73,88,72]⟩,⟨#[73,88,76]⟩,⟨#[73,89,72]⟩,⟨#[73,89,76]⟩,⟨#[]⟩,⟨#[]⟩,⟨#[]⟩,⟨#[]⟩,⟨#[]⟩],0,0,207⟩ else if k==3 then ⟨[⟨#[66,67]⟩,⟨#[68,69]⟩,⟨#[72,76]⟩,⟨#[83,80]⟩,⟨#[65,70]⟩,⟨#[73,88]⟩,⟨#[73,89]⟩,⟨#[65,70,39]⟩,⟨#[]⟩],0,0,207⟩ else if k==4 then ⟨[⟨#[66,67]⟩,⟨#[68,69]⟩,⟨#[72,76]⟩,⟨#[83,80]⟩,⟨#[]⟩,⟨#[73,88]⟩,⟨#[73,89]⟩,⟨#[]⟩,⟨#[67]⟩],0,0,208⟩ else if k==5 then ⟨[⟨#[]⟩,⟨#[]⟩,⟨#[]⟩,⟨#[]⟩,⟨#[]⟩,⟨#[73,88]⟩,⟨#[73,89]⟩,⟨#[]⟩,⟨#[]⟩],-128,127,209⟩ else if k==6 then ⟨[⟨#[42]⟩,⟨#[]⟩,⟨#[]⟩,⟨#[]⟩,⟨#[]⟩,⟨#[]⟩,⟨#[]⟩,⟨#[]⟩,⟨#[]⟩],-32768,65535,211⟩ else if k==7 then ⟨[⟨#[42]⟩,⟨#[]⟩,⟨#[]⟩,⟨#[]⟩,⟨#[]⟩,⟨#[]⟩,⟨#[]⟩,⟨#[]⟩,⟨#[]⟩],0,65535,213⟩ else if k==8 then ⟨[⟨#[78,90]⟩,⟨#[90]⟩,⟨#[78,67]⟩,⟨#[67]⟩,⟨#[80,79]⟩,⟨#[80,69]⟩,⟨#[80]⟩,⟨#[77]⟩,⟨#[]⟩],0,0,207⟩ else if k==9 then ⟨[⟨#[73]⟩,⟨#[82]⟩,⟨#[]⟩,⟨#[]⟩,⟨#[]⟩,⟨#[]⟩,⟨#[]⟩,⟨#[]⟩,⟨#[]⟩],0,0,207⟩ else if k==10 then ⟨[⟨#[42]⟩,⟨#[]⟩,⟨#[]⟩,⟨#[]⟩,⟨#[]⟩,⟨#[]⟩,⟨#[]⟩,⟨#[]⟩,⟨#[]⟩],-128,127,214⟩ else ⟨[],0,0,0⟩
theorem find_1 (w:World):Calls Tryz.prog 182 #[.int .i64 1] w fun e w'=>e=.returned (.tuple #[(kindD 1).val,.bool true])∧Below w.heap.size w w':=by
 go_enter Tryz.func182,Tryz.ntmps182
 go_wp2
 refine bodyPost_ret (results_row_tmp rfl _ _ w.heap.size 199 #[.string ⟨#[66]⟩,.string ⟨#[67]⟩,.string ⟨#[68]⟩,.string ⟨#[69]⟩,.string ⟨#[72]⟩,.string ⟨#[76]⟩,.string ⟨#[]⟩,.string ⟨#[65]⟩,.string ⟨#[]⟩,.int .i64 (0),.int .i64 (0),.func (.func 207) #[] #[]] (0,0) _ rfl (Blk.new w _ _) Tryz.underlying199 rfl (by kernel_rfl)) rfl ⟨rfl,?_⟩
 exact (Below.refl _ _).alloc (Nat.le_refl _) _
theorem find_2 (w:World):Calls Tryz.prog 182 #[.int .i64 2] w fun e w'=>e=.returned (.tuple #[(kindD 2).val,.bool true])∧Below w.heap.size w w':=by
 go_enter Tryz.func182,Tryz.ntmps182
 go_wp2
 refine bodyPost_ret (results_row_tmp rfl _ _ w.heap.size 199 #[.string ⟨#[73,88,72]⟩,.string ⟨#[73,88,76]⟩,.string ⟨#[73,89,72]⟩,.string ⟨#[73,89,76]⟩,.string ⟨#[]⟩,.string ⟨#[]⟩,.string ⟨#[]⟩,.string ⟨#[]⟩,.string ⟨#[]⟩,.int .i64 (0),.int .i64 (0),.func (.func 207) #[] #[]] (0,0) _ rfl (Blk.new w _ _) Tryz.underlying199 rfl (by kernel_rfl)) rfl ⟨rfl,?_⟩
 exact (Below.refl _ _).alloc (Nat.le_refl _) _
theorem find_3 (w:World):Calls Tryz.prog 182 #[.int .i64 3] w fun e w'=>e=.returned (.tuple #[(kindD 3).val,.bool true])∧Below w.heap.size w w':=by
 go_enter Tryz.func182,Tryz.ntmps182
 go_wp2
 refine bodyPost_ret (results_row_tmp rfl _ _ w.heap.size 199 #[.string ⟨#[66,67]⟩,.string ⟨#[68,69]⟩,.string ⟨#[72,76]⟩,.string ⟨#[83,80]⟩,.string ⟨#[65,70]⟩,.string ⟨#[73,88]⟩,.string ⟨#[73,89]⟩,.string ⟨#[65,70,39]⟩,.string ⟨#[]⟩,.int .i64 (0),.int .i64 (0),.func (.func 207) #[] #[]] (0,0) _ rfl (Blk.new w _ _) Tryz.underlying199 rfl (by kernel_rfl)) rfl ⟨rfl,?_⟩
 exact (Below.refl _ _).alloc (Nat.le_refl _) _
theorem find_4 (w:World):Calls Tryz.prog 182 #[.int .i64 4] w fun e w'=>e=.returned (.tuple #[(kindD 4).val,.bool true])∧Below w.heap.size w w':=by
 go_enter Tryz.func182,Tryz.ntmps182
 go_wp2
 refine bodyPost_ret (results_row_tmp rfl _ _ w.heap.size 199 #[.string ⟨#[66,67]⟩,.string ⟨#[68,69]⟩,.string ⟨#[72,76]⟩,.string ⟨#[83,80]⟩,.string ⟨#[]⟩,.string ⟨#[73,88]⟩,.string ⟨#[73,89]⟩,.string ⟨#[]⟩,.string ⟨#[67]⟩,.int .i64 (0),.int .i64 (0),.func (.func 208) #[] #[]] (0,0) _ rfl (Blk.new w _ _) Tryz.underlying199 rfl (by kernel_rfl)) rfl ⟨rfl,?_⟩
 exact (Below.refl _ _).alloc (Nat.le_refl _) _
theorem find_5 (w:World):Calls Tryz.prog 182 #[.int .i64 5] w fun e w'=>e=.returned (.tuple #[(kindD 5).val,.bool true])∧Below w.heap.size w w':=by
 go_enter Tryz.func182,Tryz.ntmps182
 go_wp2
 refine bodyPost_ret (results_row_tmp rfl _ _ w.heap.size 199 #[.string ⟨#[]⟩,.string ⟨#[]⟩,.string ⟨#[]⟩,.string ⟨#[]⟩,.string ⟨#[]⟩,.string ⟨#[73,88]⟩,.string ⟨#[73,89]⟩,.string ⟨#[]⟩,.string ⟨#[]⟩,.int .i64 (-128),.int .i64 (127),.func (.func 209) #[] #[]] (0,0) _ rfl (Blk.new w _ _) Tryz.underlying199 rfl (by kernel_rfl)) rfl ⟨rfl,?_⟩
 exact (Below.refl _ _).alloc (Nat.le_refl _) _
theorem find_6 (w:World):Calls Tryz.prog 182 #[.int .i64 6] w fun e w'=>e=.returned (.tuple #[(kindD 6).val,.bool true])∧Below w.heap.size w w':=by
 go_enter Tryz.func182,Tryz.ntmps182
 go_wp2
 refine bodyPost_ret (results_row_tmp rfl _ _ w.heap.size 199 #[.string ⟨#[42]⟩,.string ⟨#[]⟩,.string ⟨#[]⟩,.string ⟨#[]⟩,.string ⟨#[]⟩,.string ⟨#[]⟩,.string ⟨#[]⟩,.string ⟨#[]⟩,.string ⟨#[]⟩,.int .i64 (-32768),.int .i64 (65535),.func (.func 211) #[] #[]] (0,0) _ rfl (Blk.new w _ _) Tryz.underlying199 rfl (by kernel_rfl)) rfl ⟨rfl,?_⟩
 exact (Below.refl _ _).alloc (Nat.le_refl _) _
theorem find_7 (w:World):Calls Tryz.prog 182 #[.int .i64 7] w fun e w'=>e=.returned (.tuple #[(kindD 7).val,.bool true])∧Below w.heap.size w w':=by
 go_enter Tryz.func182,Tryz.ntmps182
 go_wp2
 refine bodyPost_ret (results_row_tmp rfl _ _ w.heap.size 199 #[.string ⟨#[42]⟩,.string ⟨#[]⟩,.string ⟨#[]⟩,.string ⟨#[]⟩,.string ⟨#[]⟩,.string ⟨#[]⟩,.string ⟨#[]⟩,.string ⟨#[]⟩,.string ⟨#[]⟩,.int .i64 (0),.int .i64 (65535),.func (.func 213) #[] #[]] (0,0) _ rfl (Blk.new w _ _) Tryz.underlying199 rfl (by kernel_rfl)) rfl ⟨rfl,?_⟩
 exact (Below.refl _ _).alloc (Nat.le_refl _) _
theorem find_8 (w:World):Calls Tryz.prog 182 #[.int .i64 8] w fun e w'=>e=.returned (.tuple #[(kindD 8).val,.bool true])∧Below w.heap.size w w':=by
 go_enter Tryz.func182,Tryz.ntmps182
 go_wp2
 refine bodyPost_ret (results_row_tmp rfl _ _ w.heap.size 199 #[.string ⟨#[78,90]⟩,.string ⟨#[90]⟩,.string ⟨#[78,67]⟩,.string ⟨#[67]⟩,.string ⟨#[80,79]⟩,.string ⟨#[80,69]⟩,.string ⟨#[80]⟩,.string ⟨#[77]⟩,.string ⟨#[]⟩,.int .i64 (0),.int .i64 (0),.func (.func 207) #[] #[]] (0,0) _ rfl (Blk.new w _ _) Tryz.underlying199 rfl (by kernel_rfl)) rfl ⟨rfl,?_⟩
 exact (Below.refl _ _).alloc (Nat.le_refl _) _
theorem find_9 (w:World):Calls Tryz.prog 182 #[.int .i64 9] w fun e w'=>e=.returned (.tuple #[(kindD 9).val,.bool true])∧Below w.heap.size w w':=by
 go_enter Tryz.func182,Tryz.ntmps182
 go_wp2
 refine bodyPost_ret (results_row_tmp rfl _ _ w.heap.size 199 #[.string ⟨#[73]⟩,.string ⟨#[82]⟩,.string ⟨#[]⟩,.string ⟨#[]⟩,.string ⟨#[]⟩,.string ⟨#[]⟩,.string ⟨#[]⟩,.string ⟨#[]⟩,.string ⟨#[]⟩,.int .i64 (0),.int .i64 (0),.func (.func 207) #[] #[]] (0,0) _ rfl (Blk.new w _ _) Tryz.underlying199 rfl (by kernel_rfl)) rfl ⟨rfl,?_⟩
 exact (Below.refl _ _).alloc (Nat.le_refl _) _
theorem find_10 (w:World):Calls Tryz.prog 182 #[.int .i64 10] w fun e w'=>e=.returned (.tuple #[(kindD 10).val,.bool true])∧Below w.heap.size w w':=by
 go_enter Tryz.func182,Tryz.ntmps182
 go_wp2
 refine bodyPost_ret (results_row_tmp rfl _ _ w.heap.size 199 #[.string ⟨#[42]⟩,.string ⟨#[]⟩,.string ⟨#[]⟩,.string ⟨#[]⟩,.string ⟨#[]⟩,.string ⟨#[]⟩,.string ⟨#[]⟩,.string ⟨#[]⟩,.string ⟨#[]⟩,.int .i64 (-128),.int .i64 (127),.func (.func 214) #[] #[]] (0,0) _ rfl (Blk.new w _ _) Tryz.underlying199 rfl (by kernel_rfl)) rfl ⟨rfl,?_⟩
 exact (Below.refl _ _).alloc (Nat.le_refl _) _
theorem find_ok (k:Int) (hk:kindOk k=true) (w:World):Calls Tryz.prog 182 #[.int .i64 k] w fun e w'=>e=.returned (.tuple #[(kindD k).val,.bool true])∧Below w.heap.size w w':=by
 by_cases h1:k=1
 ·subst h1;exact find_1 w
 by_cases h2:k=2
 ·subst h2;exact find_2 w
 by_cases h3:k=3
 ·subst h3;exact find_3 w
 by_cases h4:k=4
 ·subst h4;exact find_4 w
 by_cases h5:k=5
 ·subst h5;exact find_5 w
 by_cases h6:k=6
 ·subst h6;exact find_6 w
 by_cases h7:k=7
 ·subst h7;exact find_7 w
 by_cases h8:k=8
 ·subst h8;exact find_8 w
 by_cases h9:k=9
 ·subst h9;exact find_9 w
 by_cases h10:k=10
 ·subst h10;exact find_10 w
 simp [kindOk,h1,h2,h3,h4,h5,h6,h7,h8,h9,h10] at hk
end Go.Proofs.YtnbmbcjnncbaiaaGreatDoor
namespace Go.Proofs.YtnbmbcjnncbaiaaGreatDoor
set_option maxHeartbeats 2000000
open Go.RowKit
def fitsB (lo hi n:Int):Bool:=decide (lo≤n)&&decide (n≤hi)
theorem fits_any (lo hi n:Int) (b:Nat) (w:World) (hc:w.cell? ⟨b,0,none⟩=some (.int .i64 n)):
  Calls Tryz.prog 183 #[.int .i64 lo,.int .i64 hi,.slice (some ⟨b,0,none⟩) 1 1] w fun e w'=>e=.returned (.bool (fitsB lo hi n))∧w'=w:=by
 cases h1:decide (n < lo)
 ·cases h2:decide (hi < n)
  ·have HV:=Lib.hid (show fitsB lo hi n=true by have:=of_decide_eq_false h1;have:=of_decide_eq_false h2;simp [fitsB];omega)
   go_enter Tryz.func183,Tryz.ntmps183
   go_wp2
   refine wp_loop_rounds 4 ?_
   rw [rounds_succ]
   go_wp2
   rw [rounds_succ]
   go_wp2
   go_ret
   exact ⟨ret_bool HV.out.symm,rfl⟩
  ·have HV:=Lib.hid (show fitsB lo hi n=false by have:=of_decide_eq_true h2;simp [fitsB];omega)
   go_enter Tryz.func183,Tryz.ntmps183
   go_wp2
   refine wp_loop_rounds 4 ?_
   rw [rounds_succ]
   go_wp2
   go_ret
   exact ⟨ret_bool HV.out.symm,rfl⟩
 ·have HV:=Lib.hid (show fitsB lo hi n=false by have:=of_decide_eq_true h1;simp [fitsB];omega)
  go_enter Tryz.func183,Tryz.ntmps183
  go_wp2
  refine wp_loop_rounds 4 ?_
  rw [rounds_succ]
  go_wp2
  go_ret
  exact ⟨ret_bool HV.out.symm,rfl⟩
end Go.Proofs.YtnbmbcjnncbaiaaGreatDoor
namespace Go.Proofs.YtnbmbcjnncbaiaaGreatDoor
set_option maxHeartbeats 2000000
open Go.RowKit
theorem Blk.drew {w:World} {g:Nat} {t:TypeId} {cs:Array Value} (h:Blk w g t cs):Blk w.drew g t cs:=h
def okOpd (o:Opd):Bool:=kindOk o.kind&&decide (0≤o.reg)&&decide (o.reg < 9)&&!(((kindD o.kind).nm o.reg.toNat).toList==[])&&fitsB (kindD o.kind).lo (kindD o.kind).hi o.n
end Go.Proofs.YtnbmbcjnncbaiaaGreatDoor
namespace Go.Proofs.YtnbmbcjnncbaiaaGreatDoor
set_option maxHeartbeats 2000000
open Go.RowKit
end Go.Proofs.YtnbmbcjnncbaiaaGreatDoor
namespace Go.Proofs.YtnbmbcjnncbaiaaGreatDoor
set_option maxHeartbeats 2000000
open Go.RowKit
end Go.Proofs.YtnbmbcjnncbaiaaGreatDoor
namespace Go.Proofs.YtnbmbcjnncbaiaaGreatDoor
set_option maxHeartbeats 2000000
open Go.RowKit
end Go.Proofs.YtnbmbcjnncbaiaaGreatDoor
namespace Go.Proofs.YtnbmbcjnncbaiaaGreatDoor
set_option maxHeartbeats 2000000
open Go.RowKit
def opsL:List ByteArray:=[⟨#[65,68,67]⟩,⟨#[65,68,68]⟩,⟨#[65,78,68]⟩,⟨#[66,73,84]⟩,⟨#[67,65,76,76]⟩,⟨#[67,67,70]⟩,⟨#[67,80]⟩,⟨#[67,80,68]⟩,⟨#[67,80,68,82]⟩,⟨#[67,80,73]⟩,⟨#[67,80,73,82]⟩,⟨#[67,80,76]⟩,⟨#[68,65,65]⟩,⟨#[68,69,67]⟩,⟨#[68,73]⟩,⟨#[68,74,78,90]⟩,⟨#[69,73]⟩,⟨#[69,88]⟩,⟨#[69,88,88]⟩,⟨#[72,65,76,84]⟩,⟨#[73,77]⟩,⟨#[73,78]⟩,⟨#[73,78,67]⟩,⟨#[73,78,68]⟩,⟨#[73,78,68,82]⟩,⟨#[73,78,73]⟩,⟨#[73,78,73,82]⟩,⟨#[74,80]⟩,⟨#[74,82]⟩,⟨#[76,68]⟩,⟨#[76,68,68]⟩,⟨#[76,68,68,82]⟩,⟨#[76,68,73]⟩,⟨#[76,68,73,82]⟩,⟨#[78,69,71]⟩,⟨#[78,79,80]⟩,⟨#[79,82]⟩,⟨#[79,84,68,82]⟩,⟨#[79,84,73,82]⟩,⟨#[79,85,84]⟩,⟨#[79,85,84,68]⟩,⟨#[79,85,84,73]⟩,⟨#[80,79,80]⟩,⟨#[80,85,83,72]⟩,⟨#[82,69,83]⟩,⟨#[82,69,84]⟩,⟨#[82,69,84,73]⟩,⟨#[82,69,84,78]⟩,⟨#[82,76]⟩,⟨#[82,76,65]⟩,⟨#[82,76,67]⟩,⟨#[82,76,67,65]⟩,⟨#[82,76,68]⟩,⟨#[82,82]⟩,⟨#[82,82,65]⟩,⟨#[82,82,67]⟩,⟨#[82,82,67,65]⟩,⟨#[82,82,68]⟩,⟨#[82,83,84]⟩,⟨#[83,66,67]⟩,⟨#[83,67,70]⟩,⟨#[83,69,84]⟩,⟨#[83,76,65]⟩,⟨#[83,76,76]⟩,⟨#[83,82,65]⟩,⟨#[83,82,76]⟩,⟨#[83,85,66]⟩,⟨#[88,79,82]⟩]
end Go.Proofs.YtnbmbcjnncbaiaaGreatDoor
namespace Go.Proofs.YtnbmbcjnncbaiaaGreatDoor
set_option maxHeartbeats 2000000
open Go.RowKit
end Go.Proofs.YtnbmbcjnncbaiaaGreatDoor
namespace Go.Proofs.YtnbmbcjnncbaiaaGreatDoor
set_option maxHeartbeats 2000000
open Go.RowKit
end Go.Proofs.YtnbmbcjnncbaiaaGreatDoor
