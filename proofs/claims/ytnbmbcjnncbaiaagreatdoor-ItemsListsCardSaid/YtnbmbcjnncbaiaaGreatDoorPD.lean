/-
  The canonical form, the program's and the reference's. Conditions: sizes.
-/
import Derived.Test.YtnbmbcjnncbaiaaGreatDoorPC
import Derived.Test.YtnbmbcjnncbaiaaGreatDoorPB
import Derived.Laws.CopyOwn
import Derived.Lib.Join
import Derived.Lib.Strings
import Derived.Test.YtnbmbcjnncbaiaaGreatDoorShelf
import Derived.Deep.RegionHeld3
import Derived.Deep.DeepCutAuto
namespace Go.Proofs.YtnbmbcjnncbaiaaGreatDoor
open Go.RowKit
end Go.Proofs.YtnbmbcjnncbaiaaGreatDoor
namespace Go.Proofs.YtnbmbcjnncbaiaaGreatDoor
open Go.RowKit
def paren (s:ByteArray):ByteArray:=⟨#[40]⟩++s++⟨#[41]⟩
def regText (o:Opd):ByteArray:=if okOpd o then (kindD o.kind).nm o.reg.toNat else ⟨#[]⟩
def indText (o:Opd):ByteArray:=if okOpd o then paren ((kindD o.kind).nm o.reg.toNat) else ⟨#[]⟩
end Go.Proofs.YtnbmbcjnncbaiaaGreatDoor
namespace Go.Proofs.YtnbmbcjnncbaiaaGreatDoor
open Go.RowKit
def hasNum (o:Opd):Bool:=o.kind==5 || o.kind==6 || o.kind==7 || o.kind==10
def idxText (r:Int):ByteArray:=⟨#[40]⟩++regText ⟨3,r,0⟩++⟨#[43,100,41]⟩
def markS (o:Opd):ByteArray:=if o.kind==5 then idxText o.reg else if o.kind==6 then ⟨#[110]⟩ else if o.kind==7 then ⟨#[40,110,41]⟩ else if o.kind==10 then ⟨#[101]⟩ else ⟨#[]⟩
end Go.Proofs.YtnbmbcjnncbaiaaGreatDoor
namespace Go.Proofs.YtnbmbcjnncbaiaaGreatDoor
open Go.RowKit
theorem Own.stay {α:Type} {R:Rep α} {w w':World} {B:Nat} {e:TypeId} {v:Value} {xs:List α} (h:Own R w B e NoB v xs) (hb:Below w.heap.size w w'):Own R w' B e NoB v xs:=
 h.keep (Keep.of_below hb (fun k hk=>by rcases hk with hk | hk;exact hk.elim;exact (h.lt k hk).2))
end Go.Proofs.YtnbmbcjnncbaiaaGreatDoor
namespace Go.Proofs.YtnbmbcjnncbaiaaGreatDoor
open Go.RowKit
end Go.Proofs.YtnbmbcjnncbaiaaGreatDoor
namespace Go.Proofs.YtnbmbcjnncbaiaaGreatDoor
open Go.RowKit
end Go.Proofs.YtnbmbcjnncbaiaaGreatDoor
namespace Go.Proofs.YtnbmbcjnncbaiaaGreatDoor
open Go.RowKit
def textOf (o:Opd):ByteArray:=if o.kind==4 then indText o else regText o
def markP (o:Opd):ByteArray:=if hasNum o then markS o else textOf o
end Go.Proofs.YtnbmbcjnncbaiaaGreatDoor
namespace Go.Proofs.YtnbmbcjnncbaiaaGreatDoor
open Go.RowKit
end Go.Proofs.YtnbmbcjnncbaiaaGreatDoor
namespace Go.Proofs.YtnbmbcjnncbaiaaGreatDoor
open Go.RowKit
end Go.Proofs.YtnbmbcjnncbaiaaGreatDoor
namespace Go.Proofs.YtnbmbcjnncbaiaaGreatDoor
open Go.RowKit
end Go.Proofs.YtnbmbcjnncbaiaaGreatDoor
namespace Go.Proofs.YtnbmbcjnncbaiaaGreatDoor
open Go.RowKit
end Go.Proofs.YtnbmbcjnncbaiaaGreatDoor
namespace Go.Proofs.YtnbmbcjnncbaiaaGreatDoor
open Go.RowKit
end Go.Proofs.YtnbmbcjnncbaiaaGreatDoor
namespace Go.Proofs.YtnbmbcjnncbaiaaGreatDoor
open Go.RowKit
structure ShH (w0:World) (x:Ins) (b0 bm:Nat) (va vm:Value) (k:Nat) (w:World):Prop where
 below:Below w0.heap.size w0 w
 lt:w0.heap.size≤bm
 sx:SlR opdR w (fun b=>b < bm) va x.args
 blk:Blk w b0 27 #[.string x.op,va]
 lt0:b0 < bm
 mks:Blk w bm 42 #[vm]
 own:Own strR w (bm+1) 9 NoB vm ((x.args.take k).map markP)
theorem ShH.step {w0 w w':World} {x:Ins} {b0 bm k:Nat} {va vm v':Value} (h:ShH w0 x b0 bm va vm k w) (hk:k < x.args.length) (hb:Below bm w w') (hm:Blk w' bm 42 #[v'])
  (ho:Own strR w' (bm+1) 9 NoB v' ((x.args.take k).map markP++[markP x.args[k]])):ShH w0 x b0 bm va v' (k+1) w':=
 ⟨h.below.trans (hb.mono h.lt),h.lt,h.sx.keep (Keep.of_below hb fun _ hk=>hk),h.blk.below hb h.lt0,h.lt0,hm,by
  rw [List.take_succ_eq_append_getElem hk,List.map_append];exact ho⟩
theorem ShH.drew {w0 w:World} {x:Ins} {b0 bm k:Nat} {va vm:Value} (h:ShH w0 x b0 bm va vm k w):ShH w0 x b0 bm va vm k w.drew:=
 ⟨⟨h.below.os,h.below.tape,h.below.output,h.below.size,h.below.block⟩,h.lt,h.sx.drew,h.blk,h.lt0,h.mks,h.own.keep fun _ _=>rfl⟩
end Go.Proofs.YtnbmbcjnncbaiaaGreatDoor
namespace Go.Proofs.YtnbmbcjnncbaiaaGreatDoor
open Go.RowKit Go.Sort
def wSub:List ByteArray:=[⟨#[83,85,66]⟩,⟨#[65,78,68]⟩,⟨#[88,79,82]⟩,⟨#[79,82]⟩,⟨#[67,80]⟩]
def wAdd:List ByteArray:=[⟨#[65,68,68]⟩,⟨#[65,68,67]⟩,⟨#[83,66,67]⟩]
def regA:Opd:=⟨1,7,0⟩
end Go.Proofs.YtnbmbcjnncbaiaaGreatDoor
namespace Go.Proofs.YtnbmbcjnncbaiaaGreatDoor
open Go.RowKit
def setL (w:World) (b:Nat):List (Nat × Value)→World
 | []=>w
 | p::l=>setL (w.setCell ⟨b,p.1,none⟩ p.2) b l
def look (j:Nat) (v:Value):List (Nat × Value)→Value
 | []=>v
 | p::l=>look j (if p.1=j then p.2 else v) l
theorem setL_below {w0:World} {B b:Nat} (hB:B≤b):∀(l:List (Nat × Value)) {w:World},Below B w0 w→Below B w0 (setL w b l)
 | [],_,h=>h
 | p::l,_,h=>setL_below hB l (h.setCell (p:=⟨b,p.1,none⟩) hB _)
theorem setL_keep {b k:Nat} (hk:k≠b):∀(l:List (Nat × Value)) (w:World),(setL w b l).heap[k]?=w.heap[k]?
 | [],_=>rfl
 | _::l,_=>(setL_keep hk l _).trans (Below.heap_setCell _ _ _ _ hk)
theorem setL_size {b:Nat}:∀(l:List (Nat × Value)) (w:World),(setL w b l).heap.size=w.heap.size
 | [],_=>rfl
 | _::l,_=>(setL_size l _).trans (by simp [World.setCell])
theorem setL_frozen {b:Nat} (a:Addr):∀(l:List (Nat × Value)) (w:World),(setL w b l).frozen? a=w.frozen? a
 | [],_=>rfl
 | _::l,_=>(setL_frozen a l _).trans (World.frozen?_setCell _ _ _ _)
theorem setL_cell {b j:Nat}:∀(l:List (Nat × Value)) {w:World} {v:Value},w.cell? ⟨b,j,none⟩=some v→(setL w b l).cell? ⟨b,j,none⟩=some (look j v l)
 | [],_,_,h=>h
 | p::l,w,v,h=>setL_cell l (by
   by_cases he:p.1=j
   ·subst he;rw [if_pos rfl];exact World.cell?_setCell_same' _ _ _ (by rw [h];rfl)
   ·rw [if_neg he,World.cell?_setCell_other _ _ _ _ (by simp)];exact h)
def swaps (o:Nat) (x y:Opd):List (Nat × Value):=
 [(o,.int .i64 y.kind),(o+1,.int .i64 y.reg),(o+2,.int .i64 y.n),(o+3,.int .i64 x.kind),(o+3+1,.int .i64 x.reg),(o+3+2,.int .i64 x.n)]
theorem swap_own {w:World} {q:Blocks} {b o c:Nat} {x y:Opd} (h:OpdOwn w q (.slice (some ⟨b,o,none⟩) 2 c) [x,y]):OpdOwn (setL w b (swaps o x y)) q (.slice (some ⟨b,o,none⟩) 2 c) [y,x]:=by
 obtain ⟨a',c',e,h1,h2,h3⟩:=h
 injection e with e1 e2 e3
 subst e1 e3
 obtain ⟨b',o',eb,hq,hb,c0,c1,c2,f⟩:=h3 0 x rfl
 injection eb with eb
 injection eb with eb1 eb2
 subst eb1 eb2
 obtain ⟨b',o',eb,_,_,d0,d1,d2,_⟩:=h3 1 y rfl
 injection eb with eb
 injection eb with eb1 eb2
 subst eb1 eb2
 simp only [Nat.zero_mul,Nat.add_zero,Nat.one_mul] at c0 c1 c2 d0 d1 d2
 have hfr:∀j,(setL w b (swaps o x y)).frozen? ⟨b,j,none⟩=false:=fun j=>(setL_frozen _ _ _).trans (f j)
 have e0:=(setL_cell (swaps o x y) c0).trans (congrArg some (show _=Value.int .i64 y.kind by simp only [swaps,look];repeat first | rw [if_pos rfl] | rw [if_pos trivial] | rw [if_neg (by omega)]))
 have e1:=(setL_cell (swaps o x y) c1).trans (congrArg some (show _=Value.int .i64 y.reg by simp only [swaps,look];repeat first | rw [if_pos rfl] | rw [if_pos trivial] | rw [if_neg (by omega)]))
 have e2:=(setL_cell (swaps o x y) c2).trans (congrArg some (show _=Value.int .i64 y.n by simp only [swaps,look];repeat first | rw [if_pos rfl] | rw [if_pos trivial] | rw [if_neg (by omega)]))
 have g0:=(setL_cell (swaps o x y) d0).trans (congrArg some (show _=Value.int .i64 x.kind by simp only [swaps,look];repeat first | rw [if_pos rfl] | rw [if_pos trivial] | rw [if_neg (by omega)]))
 have g1:=(setL_cell (swaps o x y) d1).trans (congrArg some (show _=Value.int .i64 x.reg by simp only [swaps,look];repeat first | rw [if_pos rfl] | rw [if_pos trivial] | rw [if_neg (by omega)]))
 have g2:=(setL_cell (swaps o x y) d2).trans (congrArg some (show _=Value.int .i64 x.n by simp only [swaps,look];repeat first | rw [if_pos rfl] | rw [if_pos trivial] | rw [if_neg (by omega)]))
 have hsz:b < (setL w b (swaps o x y)).heap.size:=by rw [setL_size];exact hb
 refine ⟨_,c,rfl,h1,h2,fun i z hz=>?_⟩
 match i,hz with
 | 0,hz=>
  simp at hz
  subst hz
  refine ⟨b,o,rfl,hq,hsz,?_,?_,?_,hfr⟩
  ·rw [Nat.zero_mul,Nat.add_zero];exact e0
  ·rw [Nat.zero_mul,Nat.add_zero];exact e1
  ·rw [Nat.zero_mul,Nat.add_zero];exact e2
 | 1,hz=>
  simp at hz
  subst hz
  refine ⟨b,o,rfl,hq,hsz,?_,?_,?_,hfr⟩
  ·rw [Nat.one_mul];exact g0
  ·rw [Nat.one_mul];exact g1
  ·rw [Nat.one_mul];exact g2
 | i+2,hz=>simp at hz
end Go.Proofs.YtnbmbcjnncbaiaaGreatDoor
namespace Go.Proofs.YtnbmbcjnncbaiaaGreatDoor
open Go.RowKit Go.Sort
theorem Wr.swap {w0 w:World} {bw b o c:Nat} {s:ByteArray} {x y:Opd} (h:Wr w0 w bw s (.slice (some ⟨b,o,none⟩) 2 c) [x,y]) (hq:w0.heap.size≤b∧b≠bw):Wr w0 (setL w b (swaps o x y)) bw s (.slice (some ⟨b,o,none⟩) 2 c) [y,x]:=
 ⟨(setL_keep (Ne.symm hq.2) _ _).trans h.blk,swap_own h.own,h.old,setL_below hq.1 _ h.below,h.spc0⟩
end Go.Proofs.YtnbmbcjnncbaiaaGreatDoor
namespace Go.Proofs.YtnbmbcjnncbaiaaGreatDoor
open Go.RowKit
end Go.Proofs.YtnbmbcjnncbaiaaGreatDoor
namespace Go.Proofs.YtnbmbcjnncbaiaaGreatDoor
open Go.RowKit
end Go.Proofs.YtnbmbcjnncbaiaaGreatDoor
namespace Go.Proofs.YtnbmbcjnncbaiaaGreatDoor
open Go.RowKit
end Go.Proofs.YtnbmbcjnncbaiaaGreatDoor
namespace Go.Proofs.YtnbmbcjnncbaiaaGreatDoor
open Go.RowKit
end Go.Proofs.YtnbmbcjnncbaiaaGreatDoor
namespace Go.Proofs.YtnbmbcjnncbaiaaGreatDoor
open Go.RowKit
end Go.Proofs.YtnbmbcjnncbaiaaGreatDoor
namespace Go.Proofs.YtnbmbcjnncbaiaaGreatDoor
open Go.RowKit
end Go.Proofs.YtnbmbcjnncbaiaaGreatDoor
namespace Go.Proofs.YtnbmbcjnncbaiaaGreatDoor
open Go.RowKit
end Go.Proofs.YtnbmbcjnncbaiaaGreatDoor
namespace Go.Proofs.YtnbmbcjnncbaiaaGreatDoor
open Go.RowKit
end Go.Proofs.YtnbmbcjnncbaiaaGreatDoor
namespace Go.Proofs.YtnbmbcjnncbaiaaGreatDoor
open Go.RowKit
end Go.Proofs.YtnbmbcjnncbaiaaGreatDoor
namespace Go.Proofs.YtnbmbcjnncbaiaaGreatDoor
open Go.RowKit
end Go.Proofs.YtnbmbcjnncbaiaaGreatDoor
namespace Go.Proofs.YtnbmbcjnncbaiaaGreatDoor
open Go.RowKit
end Go.Proofs.YtnbmbcjnncbaiaaGreatDoor
namespace Go.Proofs.YtnbmbcjnncbaiaaGreatDoor
open Go.RowKit
end Go.Proofs.YtnbmbcjnncbaiaaGreatDoor
namespace Go.Proofs.YtnbmbcjnncbaiaaGreatDoor
open Go.RowKit
end Go.Proofs.YtnbmbcjnncbaiaaGreatDoor
namespace Go.Proofs.YtnbmbcjnncbaiaaGreatDoor
open Go.RowKit
end Go.Proofs.YtnbmbcjnncbaiaaGreatDoor
namespace Go.Proofs.YtnbmbcjnncbaiaaGreatDoor
open Go.RowKit
end Go.Proofs.YtnbmbcjnncbaiaaGreatDoor
namespace Go.Proofs.YtnbmbcjnncbaiaaGreatDoor
open Go.RowKit
end Go.Proofs.YtnbmbcjnncbaiaaGreatDoor
namespace Go.Proofs.YtnbmbcjnncbaiaaGreatDoor
open Go.RowKit
end Go.Proofs.YtnbmbcjnncbaiaaGreatDoor
namespace Go.Proofs.YtnbmbcjnncbaiaaGreatDoor
open Go.RowKit
end Go.Proofs.YtnbmbcjnncbaiaaGreatDoor
namespace Go.Proofs.YtnbmbcjnncbaiaaGreatDoor
open Go.RowKit
structure Ro (w wx:World) (s:ByteArray) (vi v:Value) (l:List Opd):Prop where
 b1:Blk wx w.heap.size 27 #[.string s,vi]
 b2:Blk wx (w.heap.size+1) 27 #[.string ⟨#[]⟩,.slice none 0 0]
 b3:Blk wx (w.heap.size+1+1) 93 #[.int .i64 1,.int .i64 7,.int .i64 0]
 own:OpdOwn wx (fun b=>w.heap.size+1+1+1≤b) v l
 below:Below w.heap.size w wx
theorem Ro.later {w wx w':World} {s:ByteArray} {vi v:Value} {l:List Opd} (h:Ro w wx s vi v l) (hb:Below wx.heap.size wx w'):Ro w w' s vi v l:=
 ⟨h.b1.below hb h.b1.lt,h.b2.below hb h.b2.lt,h.b3.below hb h.b3.lt,h.own.below hb,h.below.trans (hb.mono h.below.size)⟩
theorem Ro.alloc {w wx:World} {s:ByteArray} {vi v:Value} {l:List Opd} (h:Ro w wx s vi v l) (o:Obj):Ro w (wx.alloc o) s vi v l:=h.later ((Below.refl _ _).alloc (Nat.le_refl _) o)
theorem Ro.drew {w wx:World} {s:ByteArray} {vi v:Value} {l:List Opd} (h:Ro w wx s vi v l):Ro w wx.drew s vi v l:=h.later ⟨rfl,rfl,rfl,Nat.le_refl _,fun _ _=>rfl⟩
theorem Ro.setN {w wx:World} {s:ByteArray} {vi:Value} {b o n c k:Nat} {l:List Opd} {x:Opd} {m:Int} (h:Ro w wx s vi (.slice (some ⟨b,o,none⟩) n c) l) (hx:l[k]?=some x) (hq:w.heap.size+1+1+1≤b):
  Ro w (wx.setCell ⟨b,o+k * 3+2,none⟩ (.int .i64 m)) s vi (.slice (some ⟨b,o,none⟩) n c) (l.set k {x with n:=m}):=
 ⟨h.b1.far (by show w.heap.size≠b;omega) _,h.b2.far (by show w.heap.size+1≠b;omega) _,h.b3.far (by show w.heap.size+1+1≠b;omega) _,h.own.setN hx,h.below.setCell (by show w.heap.size≤b;omega) _⟩
def t1 (s:ByteArray) (l:List Opd):Bool:=inL wSub s&&(match l with | [x,_]=>opdEq x regA | _=>false)
end Go.Proofs.YtnbmbcjnncbaiaaGreatDoor
