/-
  encode and its reference. Conditions: the library's table as its initialiser lays it.
-/
import Derived.Test.YtjmekllgnhkodaaGreatDoorQQ
import Derived.MapKept
import Derived.Laws.RangeString
import Derived.Test.YtjmekllgnhkodaaGreatDoorShelfT
namespace Go.Proofs.YtjmekllgnhkodaaGreatDoor
set_option maxHeartbeats 16000000
set_option maxRecDepth 100000
open Go.RowKit
def lowB (n:Int):UInt8:=UInt8.ofNat (n % 256).toNat
theorem lowB_is (n:Int):((lowB n).toNat:Int)=n % 256:=by
 unfold lowB
 rw [UInt8.toNat_ofNat']
 omega
theorem low_byte (n:Int):(#[Value.int .u8 (n % 256)]:Array Value)=[Value.int .u8 ((lowB n).toNat:Int)].toArray:=by rw [lowB_is]
theorem low_take {l:List Int} {xs:List UInt8} {k:Nat} {c:Int} (hx:xs=(l.take k).map lowB) (HT:l.take (k+1)=l.take k++[c]):xs++[lowB c]=(l.take (k+1)).map lowB:=by
 rw [HT,List.map_append,List.map_singleton,hx]
theorem Low_any (p:Blocks) (v:Value) (l:List Int) (w:World) (h:SlR intR w p v l) (hn:l.length≤1000000):
  Calls Tryz.prog 164 #[v] w fun e w'=>∃v',e=.returned v'∧Own byteR w' w.heap.size 5 NoB v' (l.map lowB)∧Below w.heap.size w w':=by
 obtain ⟨a,c,rfl,_⟩:=h.int
 have HSL:=Lib.hid h
 clear h
 go_enter Tryz.func164,Tryz.ntmps164
 go_wp2
 go_loopw [3,8] (fun v i wr=>∃k:Nat,k≤l.length∧i=.int .i64 k∧Own byteR wr w.heap.size 5 NoB v ((l.take k).map lowB)∧Below w.heap.size w wr) (fun _ i _=>l.length - (intOf i).toNat)
 case atStart=>exact ⟨0,Nat.zero_le _,rfl,Own.nil _ _ _ _ _,Below.refl _ _⟩
 case round=>
  obtain ⟨k,hk,rfl,ho,hb⟩:=hrel
  by_cases hlt:k < l.length
  ·have HT:Hid (l.take (k+1)=l.take k++[l[k]]):=List.take_succ_eq_append_getElem hlt
   obtain ⟨ad,cd,hv,_,_,g⟩:=(HSL.out.below hb).int
   obtain ⟨rfl,_,rfl⟩:a=ad∧l.length=l.length∧c=cd:=by injection hv with h1 h2 h3;exact ⟨h1,h2,h3⟩
   obtain ⟨b1,o1,rfl,_,hc⟩:=g k l[k] (List.getElem?_eq_getElem hlt)
   clear g hv
   have hlm:((l.take k).map lowB).length=k:=by simp;omega
   generalize hx:(l.take k).map lowB=xs at *
   have HX:=Lib.hid (low_take hx.symm HT.out)
   have HLM:=Lib.hid hlm
   have HO:=Lib.hid ho
   have HB:=Lib.hid hb
   have HN:=Lib.hid hn
   obtain ⟨oa,oc,rfl⟩:=ho.form
   clear hx hlm ho HT
   generalize l[k]=y at *
   have HC1:Hid ((xs.length+1) * 1≤140737488355328):=by have:=HLM.out;show _≤_;have:=HN.out;omega
   have HC2:Hid (xs.length+1≤9223372036854775807):=by have:=HLM.out;show _≤_;have:=HN.out;omega
   have HC:=Lib.hid (low_byte y)
   go_wp2_with (at_builtin;refine wpList_push rfl (.tmp 12) (.tmp 15) 22 rfl w.heap.size 5 1 elByte _ xs (lowB y) _ rfl rfl HO.out HC.out HC1.out HC2.out HB.out.size ?_;intro a' c' w' hp;have HP:=Lib.hid hp;clear hp)
   go_roundw
   case rel=>exact ⟨k+1,by omega,by go_num,by rw [←HX.out];exact HP.out.1,HB.out.grown HP.out.2 HB.out.size (fun j hj=>(HO.out.lt j hj).1)⟩
   case measure=>simp [intOf];omega
  ·have hk':k=l.length:=by omega
   subst hk'
   rw [List.take_length] at ho
   have HO:=Lib.hid ho
   have HB:=Lib.hid hb
   clear ho hb
   go_wp2
   go_ret
   exact ⟨_,rfl,HO.out,HB.out⟩
end Go.Proofs.YtjmekllgnhkodaaGreatDoor
namespace Go.Proofs.YtjmekllgnhkodaaGreatDoor
set_option maxHeartbeats 16000000
set_option maxRecDepth 100000
open Go.RowKit Go.Shelf Go.Sort
def wtrC (p1 o1:Int) (s1:ByteArray) (a:Option Addr) (m c:Nat) (s2:ByteArray) (f:Bool) (d n:Int) (vo:Value):Array Value:=#[.int .i64 p1,.int .u8 o1,.string s1,.slice a m c,.string s2,.bool f,.int .i64 d,.int .i64 n,vo]
structure Wtr (B g:Nat) (E:Value→Array Value) (vo:Value) (L:List UInt8) (w:World):Prop where
 blk:Blk w g 113 (E vo)
 own:Own byteR w B 5 NoB vo L
 lt:g < B
 sz:B≤w.heap.size
def Kq (w w':World):Prop:=∀(k:Nat) (o:Obj),w.heap[k]?=some o→o.isCells=false→w'.heap[k]?=some o
theorem Kq.trans {a b c:World} (h:Kq a b) (k:Kq b c):Kq a c:=fun i o ho hc=>k i o (h i o ho hc) hc
theorem Kq.below {w w':World} (h:Below w.heap.size w w'):Kq w w':=fun k _ ho _=>(h.block k (Array.getElem?_eq_some_iff.1 ho).1).trans ho
theorem Kq.setCell {w:World} {b:Nat} {t:TypeId} {cs:Array Value} (h:Blk w b t cs) (j:Nat) (v:Value):Kq w (w.setCell ⟨b,j,none⟩ v):=fun k o ho hc=>by
 by_cases e:k=b
 ·subst e
  have h2:some o=some (Obj.cells cs t (0,0)):=ho.symm.trans h
  obtain rfl:=Option.some.inj h2
  cases hc
 ·exact (Below.heap_setCell w ⟨b,j,none⟩ v k e).trans ho
theorem Own.isCells {α:Type} {R:Rep α} {w:World} {B:Nat} {e:TypeId} {p:Blocks} {v:Value} {xs:List α} (h:Own R w B e p v xs):∀k,v.ownBlock=some k→∃o,w.heap[k]?=some o∧o.isCells=true:=by
 obtain ⟨cs,hrow,hels⟩:=h
 intro k hk
 rcases hrow.2 with ⟨rfl,hn⟩ | ⟨g,cap,cur,rfl,hb,hg,_⟩
 ·cases hk
 ·obtain rfl:g=k:=by simpa [Value.ownBlock] using hk
  exact ⟨_,hg,rfl⟩
theorem Kq.grown {w w':World} {row:Option Nat} (hg:w.grownBy w' row) (hr:∀k,row=some k→∃o,w.heap[k]?=some o∧o.isCells=true):Kq w w':=fun k o ho hc=>by
 refine (hg.block k (Array.getElem?_eq_some_iff.1 ho).1 (fun e=>?_)).trans ho
 obtain ⟨o2,h1,h2⟩:=hr k e.symm
 have:=Option.some.inj (ho.symm.trans h1)
 subst this
 rw [hc] at h2;cases h2
theorem Blk.cellAt {w:World} {b:Nat} {t:TypeId} {cs:Array Value} (h:Blk w b t cs) {i:Nat} {v:Value} (hv:cs[i]?=some v):w.cell? ⟨b,i,none⟩=some v:=by
 exact (h.cell i).trans hv
theorem Wtr.app {B g:Nat} {E:Value→Array Value} {vo v2:Value} {L M:List UInt8} {w W1 w2:World} (h:Wtr B g E vo L w) (hE:∀u v,(E u).setIfInBounds 8 v=E v) (hE8:∀u,(E u)[8]?=some u) (hb1:Below w.heap.size w W1) (hx:SlR byteR w2 (fun k=>w.heap.size≤k) v2 M) (hb2:Below W1.heap.size W1 w2) (hL:L.length≤1000000) (hM:M.length≤1000000):
  ∃qa qm qc w3,(Builtin.append_ #[22,22] 22 #[vo,v2]).run Tryz.prog w2=.ok (.slice qa qm qc) w3∧w2.cell? ⟨g,8,none⟩=some vo∧w3.cell? ⟨g,8,none⟩=some vo∧w3.frozen? ⟨g,8,none⟩=false∧
   Wtr B g E (.slice qa qm qc) (L++M) (w3.setCell ⟨g,8,none⟩ (.slice qa qm qc))∧Below g w (w3.setCell ⟨g,8,none⟩ (.slice qa qm qc))∧Kq w (w3.setCell ⟨g,8,none⟩ (.slice qa qm qc)):=by
 have hb:=hb1.trans (hb2.mono hb1.size)
 have hK:=h.blk.below hb h.blk.lt
 have hO:=h.own.stay hb
 have hs1:=hb1.size
 have hs2:=hb2.size
 have hsz:=h.sz
 have hlt:=h.lt
 obtain ⟨v3,w3,hrun,ho3,hg3,hv3⟩:=run_append_R (P:=Tryz.prog) (R:=byteR) (w:=w2) B 22 22 5 1 elByte (p:=NoB) (q:=fun k=>w.heap.size≤k) hO hx (fun _ hk=>hk.elim) (fun k hk e=>by have:=(h.own.lt k e.symm).2;omega) (by omega) (by omega) (by omega)
 have hK3:Blk w3 g _ (E vo):=hK.grown hg3 (fun e=>by have:=(h.own.lt g e.symm).1;omega)
 obtain ⟨qa,qc,rfl⟩:=(ho3.flat NoB).form
 refine ⟨qa,_,qc,w3,hrun,?_,?_,hK3.free 8,⟨?_,?_,hlt,?_⟩,?_,?_⟩
 ·exact hK.cellAt (hE8 vo)
 ·exact hK3.cellAt (hE8 vo)
 ·have:=hK3.set 8 (.slice qa (L++M).length qc);rw [hE] at this;exact this
 ·exact Own.keep (ho3.flat NoB) (Keep.setCell (fun k hk=>by rcases hk with hk | hk;exact hk.elim;have:=((ho3.flat NoB).lt k hk).1;show k≠g;omega) _)
 ·rw [World.size_setCell];have:=hg3.size;omega
 ·exact ((hb.mono (Nat.le_of_lt h.blk.lt)).grown hg3 (by have:=h.blk.lt;omega) (fun k e=>by have:=(h.own.lt k e).1;omega)).setCell (p:=⟨g,8,none⟩) (Nat.le_refl _) _
 ·exact ((Kq.below hb).trans (Kq.grown hg3 hO.isCells)).trans (Kq.setCell hK3 _ _)
theorem disp_any (B g:Nat) (p1 o1:Int) (s1:ByteArray) (a:Option Addr) (m c:Nat) (s2:ByteArray) (f:Bool) (d n:Int) (vo:Value) (L:List UInt8) (w:World) (h:Wtr B g (wtrC p1 o1 s1 a m c s2 f d n) vo L w) (hL:L.length≤1000000):
  Calls Tryz.prog 116 #[.pointer (some ⟨g,0,none⟩)] w fun e w'=>e=.returned (.tuple #[])∧(∃vo',Wtr B g (wtrC p1 o1 s1 a m c s2 f d n) vo' (L++[lowB d]) w')∧Below g w w'∧Kq w w':=by
 have H:=Lib.hid h
 have hb:=h.blk
 unfold wtrC at hb
 obtain ⟨oa,oc,rfl⟩:=h.own.form
 have HL:=Lib.hid hL
 have e6:=hb.cell 6
 have e7:=hb.cell 7
 have e8:=hb.cell 8
 have HK:=Lib.hid (fun W (h1:RowKit.Below w.heap.size w W)=>(hb.below h1 hb.lt).cell 8)
 have x8:=(hb.alloc (.cells #[.int .i64 d] 3)).cell 8
 clear hb hL h
 go_enter Tryz.func116,Tryz.ntmps116
 go_region_law ((first
  | (refine step_app_run (by rfl) (.tmp 6) (.tmp 12) 22 (by rfl) _ _ _ (by rfl) (by rfl) HRUN.out ?_)
  | (go_simp;go_at_call 164;refine (Low_any (fun _=>True) _ [d] _ ((slR_lit w _ (fun _=>True) [d] #[.int .i64 d] 1 rfl rfl (by simp) (fun _ _=>trivial)).below (Below.refl _ _).drew) (by simp)).mono ?_;rintro e w2 ⟨v2,rfl,ho2,hb2⟩;obtain ⟨qa,qm,qc,w3,hrun,c8,r8,z8,hw,hb3,hq3⟩:=H.out.app (fun _ _=>rfl) (fun _=>rfl) ((Below.refl _ _).alloc (Nat.le_refl _) _).drew (ho2.slR (fun _ h=>h.elim) (fun k hk=>Nat.le_trans (((Below.refl w.heap.size w).alloc (Nat.le_refl _) _).drew).size hk)) hb2 HL.out (by simp);have HRUN:=Lib.hid hrun;have HW:=Lib.hid hw;have HB3:=Lib.hid hb3;have HQ3:=Lib.hid hq3;clear hrun hw hb3 hq3 ho2 hb2 e6 e7 e8)))
 all_goals go_wp2
 all_goals
  go_end0
  exact ⟨rfl,⟨_,HW.out⟩,HB3.out,HQ3.out⟩
theorem numb_any (B g:Nat) (p1 o1:Int) (s1:ByteArray) (a:Option Addr) (m c:Nat) (s2:ByteArray) (f:Bool) (d n:Int) (vo:Value) (L:List UInt8) (w:World) (h:Wtr B g (wtrC p1 o1 s1 a m c s2 f d n) vo L w) (hL:L.length≤1000000):
  Calls Tryz.prog 118 #[.pointer (some ⟨g,0,none⟩)] w fun e w'=>e=.returned (.tuple #[])∧(∃vo',Wtr B g (wtrC p1 o1 s1 a m c s2 f d n) vo' (L++[lowB n]) w')∧Below g w w'∧Kq w w':=by
 have H:=Lib.hid h
 have hb:=h.blk
 unfold wtrC at hb
 obtain ⟨oa,oc,rfl⟩:=h.own.form
 have HL:=Lib.hid hL
 have e6:=hb.cell 6
 have e7:=hb.cell 7
 have e8:=hb.cell 8
 have HK:=Lib.hid (fun W (h1:RowKit.Below w.heap.size w W)=>(hb.below h1 hb.lt).cell 8)
 have x8:=(hb.alloc (.cells #[.int .i64 n] 3)).cell 8
 clear hb hL h
 go_enter Tryz.func118,Tryz.ntmps118
 go_region_law ((first
  | (refine step_app_run (by rfl) (.tmp 6) (.tmp 12) 22 (by rfl) _ _ _ (by rfl) (by rfl) HRUN.out ?_)
  | (go_simp;go_at_call 164;refine (Low_any (fun _=>True) _ [n] _ ((slR_lit w _ (fun _=>True) [n] #[.int .i64 n] 1 rfl rfl (by simp) (fun _ _=>trivial)).below (Below.refl _ _).drew) (by simp)).mono ?_;rintro e w2 ⟨v2,rfl,ho2,hb2⟩;obtain ⟨qa,qm,qc,w3,hrun,c8,r8,z8,hw,hb3,hq3⟩:=H.out.app (fun _ _=>rfl) (fun _=>rfl) ((Below.refl _ _).alloc (Nat.le_refl _) _).drew (ho2.slR (fun _ h=>h.elim) (fun k hk=>Nat.le_trans (((Below.refl w.heap.size w).alloc (Nat.le_refl _) _).drew).size hk)) hb2 HL.out (by simp);have HRUN:=Lib.hid hrun;have HW:=Lib.hid hw;have HB3:=Lib.hid hb3;have HQ3:=Lib.hid hq3;clear hrun hw hb3 hq3 ho2 hb2 e6 e7 e8)))
 all_goals go_wp2
 all_goals
  go_end0
  exact ⟨rfl,⟨_,HW.out⟩,HB3.out,HQ3.out⟩
theorem wword_any (B g:Nat) (p1 o1:Int) (s1:ByteArray) (a:Option Addr) (m c:Nat) (s2:ByteArray) (f:Bool) (d n:Int) (vo:Value) (L:List UInt8) (w:World) (h:Wtr B g (wtrC p1 o1 s1 a m c s2 f d n) vo L w) (hL:L.length≤1000000):
  Calls Tryz.prog 119 #[.pointer (some ⟨g,0,none⟩)] w fun e w'=>e=.returned (.tuple #[])∧(∃vo',Wtr B g (wtrC p1 o1 s1 a m c s2 f d n) vo' (L++[lowB n,lowB (n / 256)]) w')∧Below g w w'∧Kq w w':=by
 have H:=Lib.hid h
 have hb:=h.blk
 unfold wtrC at hb
 obtain ⟨oa,oc,rfl⟩:=h.own.form
 have HL:=Lib.hid hL
 have e7:=hb.cell 7
 have e8:=hb.cell 8
 have x8:=(hb.alloc (.cells #[.int .i64 n,.int .i64 (n / 256)] 3)).cell 8
 clear hb hL h
 go_enter Tryz.func119,Tryz.ntmps119
 go_region_law ((first
  | (refine step_app_run (by rfl) (.tmp 6) (.tmp 17) 22 (by rfl) _ _ _ (by rfl) (by rfl) HRUN.out ?_)
  | (go_simp;go_at_call 164;refine (Low_any (fun _=>True) _ [n,n / 256] _ ((slR_lit w _ (fun _=>True) [n,n / 256] #[.int .i64 n,.int .i64 (n / 256)] 2 rfl rfl (by simp) (fun _ _=>trivial)).below (Below.refl _ _).drew) (by simp)).mono ?_;rintro e w2 ⟨v2,rfl,ho2,hb2⟩;obtain ⟨qa,qm,qc,w3,hrun,c8,r8,z8,hw,hb3,hq3⟩:=H.out.app (fun _ _=>rfl) (fun _=>rfl) ((Below.refl _ _).alloc (Nat.le_refl _) _).drew (ho2.slR (fun _ h=>h.elim) (fun k hk=>Nat.le_trans (((Below.refl w.heap.size w).alloc (Nat.le_refl _) _).drew).size hk)) hb2 HL.out (by simp);have HRUN:=Lib.hid hrun;have HW:=Lib.hid hw;have HB3:=Lib.hid hb3;have HQ3:=Lib.hid hq3;clear hrun hw hb3 hq3 ho2 hb2 e7 e8)))
 all_goals go_wp2
 all_goals
  go_end0
  exact ⟨rfl,⟨_,HW.out⟩,HB3.out,HQ3.out⟩
end Go.Proofs.YtjmekllgnhkodaaGreatDoor
namespace Go.Proofs.YtjmekllgnhkodaaGreatDoor
set_option maxHeartbeats 16000000
set_option maxRecDepth 100000
open Go.RowKit Go.Shelf Go.Sort
abbrev tM:TypeId:=173
theorem und_map:Tryz.prog.underlying tM=some (.map 21 1):=by kernel_rfl
theorem und_rune:Tryz.prog.underlying 21=some (.int .i32):=by kernel_rfl
theorem run_mapUp {W:World} {mb:Nat} {es:Array MapEntry} {n:Nat} (k:Int) (v:Value) (h:W.heap[mb]?=some (.map es n)) (hk:Instr.findNow (.int .i32) (.int .i32 k) es.toList 0=some none):
  (Instr.mapUpdate tM (.map (some mb)) (.int .i32 k) v).run Tryz.prog W=.ok () (W.putObj mb (.map (es.push ⟨.int .i32 k,v,n⟩) (n+1))):=by
 have hc:=fun e=>MapKept.run_checkKey (w:=W) und_rune (k:=.int .i32 k) (by trivial) e 9999
 simp [Instr.mapUpdate,run_underlying und_map,run_underlying und_rune,MapKept.run_getObj_map h,hc,Instr.findKey,hk,MapKept.run_setObj_map _ h,Result.andThen,World.putObj]
theorem run_look {W:World} {mb:Nat} {es:Array MapEntry} {n i:Nat} (k:Int) (v:Value) (h:W.heap[mb]?=some (.map es n)) (hk:Instr.findNow (.int .i32) (.int .i32 k) es.toList 0=some (some (i,v))):
  (Instr.lookup tM (.map (some mb)) (.int .i32 k) false).run Tryz.prog W=.ok v W:=by
 have hc:=fun e=>MapKept.run_checkKey (w:=W) und_rune (k:=.int .i32 k) (by trivial) e 9999
 simp [Instr.lookup,run_underlying und_map,run_underlying und_rune,MapKept.run_getObj_map h,hc,Instr.findKey,hk,Result.andThen]
def mapE (f1 f2 f3 f4:Value):Array MapEntry:=#[⟨.int .i32 100,f1,0⟩,⟨.int .i32 101,f2,1⟩,⟨.int .i32 110,f3,2⟩,⟨.int .i32 119,f4,3⟩]
theorem below_put {W:World} {B b:Nat} (o:Obj) (hb:B≤b):Below B W (W.putObj b o):=
 ⟨rfl,rfl,rfl,by rw [World.putObj_size];exact Nat.le_refl _,fun k hk=>World.putObj_heap_other (by omega)⟩
theorem map4 (W:World) (f1 f2 f3 f4:Value):∃W1 W2 W3 W4 W5:World,(Instr.makeMap tM none).run Tryz.prog W=.ok (.map (some W.heap.size)) W1∧(Instr.mapUpdate tM (.map (some W.heap.size)) (.int .i32 100) f1).run Tryz.prog W1=.ok () W2∧(Instr.mapUpdate tM (.map (some W.heap.size)) (.int .i32 101) f2).run Tryz.prog W2=.ok () W3∧
  (Instr.mapUpdate tM (.map (some W.heap.size)) (.int .i32 110) f3).run Tryz.prog W3=.ok () W4∧(Instr.mapUpdate tM (.map (some W.heap.size)) (.int .i32 119) f4).run Tryz.prog W4=.ok () W5∧W5.heap[W.heap.size]?=some (.map (mapE f1 f2 f3 f4) 4)∧Below W.heap.size W W5:=by
 have h1:(W.alloc (.map #[] 0)).heap[W.heap.size]?=some (.map #[] 0):=World.alloc_heap_new W _
 have b1:Below W.heap.size W (W.alloc (.map #[] 0)):=(Below.refl _ _).alloc (Nat.le_refl _) _
 have l1:W.heap.size < (W.alloc (.map #[] 0)).heap.size:=by rw [World.size_alloc];omega
 have h2:=World.putObj_heap_same (w:=W.alloc (.map #[] 0)) (r:=W.heap.size) (o:=.map #[⟨.int .i32 100,f1,0⟩] 1) l1
 have h3:=World.putObj_heap_same (w:=(W.alloc (.map #[] 0)).putObj W.heap.size (.map #[⟨.int .i32 100,f1,0⟩] 1)) (r:=W.heap.size) (o:=.map #[⟨.int .i32 100,f1,0⟩,⟨.int .i32 101,f2,1⟩] 2) (by simp)
 have h4:=World.putObj_heap_same (w:=((W.alloc (.map #[] 0)).putObj W.heap.size (.map #[⟨.int .i32 100,f1,0⟩] 1)).putObj W.heap.size (.map #[⟨.int .i32 100,f1,0⟩,⟨.int .i32 101,f2,1⟩] 2)) (r:=W.heap.size) (o:=.map #[⟨.int .i32 100,f1,0⟩,⟨.int .i32 101,f2,1⟩,⟨.int .i32 110,f3,2⟩] 3) (by simp)
 have h5:=World.putObj_heap_same (w:=(((W.alloc (.map #[] 0)).putObj W.heap.size (.map #[⟨.int .i32 100,f1,0⟩] 1)).putObj W.heap.size (.map #[⟨.int .i32 100,f1,0⟩,⟨.int .i32 101,f2,1⟩] 2)).putObj W.heap.size (.map #[⟨.int .i32 100,f1,0⟩,⟨.int .i32 101,f2,1⟩,⟨.int .i32 110,f3,2⟩] 3)) (r:=W.heap.size) (o:=.map (mapE f1 f2 f3 f4) 4) (by simp)
 exact ⟨_,_,_,_,_,rfl,run_mapUp 100 f1 h1 rfl,run_mapUp 101 f2 h2 rfl,run_mapUp 110 f3 h3 rfl,run_mapUp 119 f4 h4 rfl,h5,(((b1.trans (below_put _ (Nat.le_refl _))).trans (below_put _ (Nat.le_refl _))).trans (below_put _ (Nat.le_refl _))).trans (below_put _ (Nat.le_refl _))⟩
theorem run_next_at {W:World} {b:Nat} {s:ByteArray} {pos:Nat} (ty:TypeId) (hb:W.heap[b]?=some (.stringIter s pos)) (h:pos < s.size) (ha:(s[pos]'h).toNat < 128):
  (Instr.next (.pointer (some ⟨b,0,none⟩)) true ty).run Tryz.prog W=.ok (.tuple #[.bool true,.int .i64 pos,.int .i32 (s[pos]'h).toNat]) (W.putObj b (.stringIter s (pos+1))):=by
 simp only [Instr.next,getObj,setObj,Sem.run_bind,Sem.run,hb,Result.andThen,h,if_true,decode_ascii s pos h ha]
 simp [goInt,World.putObj]
theorem run_next_stop {W:World} {b:Nat} {s:ByteArray} {pos:Nat} (ty:TypeId) (hb:W.heap[b]?=some (.stringIter s pos)) (h:¬pos < s.size):
  (Instr.next (.pointer (some ⟨b,0,none⟩)) true ty).run Tryz.prog W=.ok (.tuple #[.bool false]) W:=by
 simp [Instr.next,getObj,Sem.run,hb,h]
end Go.Proofs.YtjmekllgnhkodaaGreatDoor
namespace Go.Proofs.YtjmekllgnhkodaaGreatDoor
set_option maxHeartbeats 16000000
set_option maxRecDepth 100000
open Go.RowKit Go.Shelf Go.Sort
def letB (d n:Int) (b:UInt8):List UInt8:=if b=100 then [lowB d] else if b=119 then [lowB n,lowB (n / 256)] else [lowB n]
theorem letB_len (d n:Int) (b:UInt8):(letB d n b).length≤2:=by
 unfold letB
 split
 ·simp
 ·split<;>simp
theorem lets_len (d n:Int):∀l:List UInt8,(l.flatMap (letB d n)).length≤2 * l.length
 | []=>by simp
 | b::l=>by
  have:=letB_len d n b
  have:=lets_len d n l
  rw [List.flatMap_cons,List.length_append,List.length_cons];omega
theorem bs_take {α:Type} (f:UInt8→List α) (s:ByteArray) (k:Nat) (h:k < s.size):(s.data.toList.take (k+1)).flatMap f=(s.data.toList.take k).flatMap f++f s[k]:=by
 have h2:k < s.data.toList.length:=by simpa using h
 rw [List.take_succ_eq_append_getElem h2,List.flatMap_append]
 simp
 rfl
def okLet (b:UInt8):Prop:=b=100∨b=101∨b=110∨b=119
def iterLeft (w:World) (b:Nat):Nat:=match w.heap[b]? with | some (.stringIter s k)=>s.size - k | _=>0
theorem iterLeft_eq {w:World} {b k:Nat} {s:ByteArray} (h:w.heap[b]?=some (.stringIter s k)):iterLeft w b=s.size - k:=by unfold iterLeft;rw [h]
theorem Wtr.next {B g:Nat} {E:Value→Array Value} {vo:Value} {L:List UInt8} {w w':World} (h:Wtr B g E vo L w) (hb:Below w.heap.size w w'):Wtr B g E vo L w':=
 ⟨h.blk.below hb h.blk.lt,h.own.stay hb,h.lt,Nat.le_trans h.sz hb.size⟩
theorem Wtr.put {B g b:Nat} {E:Value→Array Value} {vo:Value} {L:List UInt8} {w:World} {o o':Obj} (h:Wtr B g E vo L w) (hb:w.heap[b]?=some o) (ho:o.isCells=false):Wtr B g E vo L (w.putObj b o'):=by
 have hbg:b≠g:=fun e=>by
  subst e
  have h2:=Option.some.inj (hb.symm.trans h.blk)
  subst h2
  cases ho
 have hbo:∀k,vo.ownBlock=some k→k≠b:=fun k hk e=>by
  subst e
  obtain ⟨o2,h1,h2⟩:=h.own.isCells k hk
  have:=Option.some.inj (hb.symm.trans h1)
  subst this
  rw [ho] at h2;cases h2
 refine ⟨?_,?_,h.lt,by rw [World.putObj_size];exact h.sz⟩
 ·exact (World.putObj_heap_other (fun e=>hbg e.symm)).trans h.blk
 ·exact h.own.keep (Keep.grown (put_grown o') (fun k hk=>by
   rcases hk with hk | hk
   ·exact hk.elim
   ·exact ⟨(h.own.lt k hk).2,fun e=>hbo k hk (Option.some.inj e)⟩))
theorem prefF_len9 (p:Int):(prefF p).length≤2:=by
 unfold prefF
 repeat' split
 all_goals simp
theorem wbytes_any (g:Nat) (p1:Int) (ob:UInt8) (s1:ByteArray) (a:Option Addr) (m c:Nat) (s2:ByteArray) (f:Bool) (d n:Int) (w:World) (h:Blk w g 113 (wtrC p1 ob.toNat s1 a m c s2 f d n (.slice none 0 0))) (rest:ByteArray) (L0:List UInt8) (hhi:5≤p1→rest=⟨(Lib.trimPrefix s2.data.toList [100]).toArray⟩∧L0=prefF p1++[lowB d]) (hlo:p1 < 5→rest=s2∧L0=prefF p1) (hs:rest.size≤1000) (hL0:L0.length≤1000) (hl:∀k (h:k < rest.size),okLet rest[k]):
  Calls Tryz.prog 73 #[.pointer (some ⟨g,0,none⟩)] w fun e w'=>∃v,e=.returned v∧Own byteR w' w.heap.size 5 NoB v (L0++[ob]++rest.data.toList.flatMap (letB d n))∧Below g w w':=by
 have HP:=Lib.hid (fun W=>Prefixes_any p1 W)
 have HK:=Lib.hid h
 unfold wtrC at HK
 have e0:=HK.out.cell 0
 have e4:=HK.out.cell 4
 have z8:=HK.out.free 8
 have e8:=HK.out.cell 8
 have hlt:=h.lt
 clear h
 have HLT:=Lib.hid hl
 have HSZ:=Lib.hid hs
 have HL0:=Lib.hid hL0
 clear hl hs hL0
 go_enter Tryz.func73,Tryz.ntmps73
 go_upto_region 2 with (go_at_call 75;refine (HP.out _).mono ?_;rintro e w1 ⟨v1,rfl,ho,hb⟩;obtain ⟨oa,oc,rfl⟩:=ho.form;have HO1:=Lib.hid ho;have HK1:=Lib.hid (HK.out.below hb HK.out.lt);have HB1:=Lib.hid hb;clear ho hb e0 e4 z8 e8;have e8:=HK1.out.cell 8;have z8:=HK1.out.free 8)
 have HW2:Hid (Wtr w.heap.size g (wtrC p1 ob.toNat s1 a m c s2 f d n) (.slice oa (prefF p1).length oc) (prefF p1) (w1.setCell ⟨g,8,none⟩ (.slice oa (prefF p1).length oc))):=Lib.hid ⟨HK1.out.set 8 _,Own.keep HO1.out (Keep.setCell (fun k hk=>by rcases hk with hk | hk;exact hk.elim;have:=(HO1.out.lt k hk).1;show k≠g;omega) _),hlt,by rw [World.size_setCell];exact HB1.out.size⟩
 have HB2:Hid (RowKit.Below g w (w1.setCell ⟨g,8,none⟩ (.slice oa (prefF p1).length oc))):=Lib.hid ((HB1.out.mono (Nat.le_of_lt hlt)).setCell (p:=⟨g,8,none⟩) (Nat.le_refl _) _)
 generalize (prefF p1).length=pl at *
 generalize w1.setCell ⟨g,8,none⟩ (.slice oa pl oc)=W2 at *
 clear HK1 HB1 HO1 e8 z8 HK HP
 have HK2:=Lib.hid HW2.out.blk
 unfold wtrC at HK2
 have e0:=HK2.out.cell 0
 have e1:=HK2.out.cell 1
 have e4:=HK2.out.cell 4
 have e8:=HK2.out.cell 8
 go_upto_region 3 with fail
 iterate 22 (first | go_values | go_skip | go_guarded | go_step | go_upon | go_back)
 go_cut [3] (fun s3 wx=>s3=.string rest∧∃vo,Wtr w.heap.size g (wtrC p1 ob.toNat s1 a m c s2 f d n) vo L0 wx∧Below g w wx)
 case first=>
  by_cases h5:5≤p1
  ·obtain ⟨rfl,rfl⟩:=hhi h5
   go_wp2_with (first
    | (go_at_call 116;refine (disp_any _ g p1 ob.toNat s1 a m c s2 f d n _ _ _ HW2.out (by have:=prefF_len9 p1;omega)).mono ?_;rintro e w3 ⟨rfl,⟨vo3,hw3⟩,hb3,_⟩;have HW3:=Lib.hid hw3;have HB3:=Lib.hid (HB2.out.trans hb3);clear hw3 hb3)
    | (go_at_call 117;refine (Tryz.strings_TrimPrefix _ _ _).mono ?_;rintro e w4 ⟨rfl,rfl⟩))
   go_meet
   case rel=>exact ⟨rfl,_,HW3.out,HB3.out⟩
  ·obtain ⟨rfl,rfl⟩:=hlo (by omega)
   go_wp2
   go_meet
   case rel=>exact ⟨rfl,_,HW2.out,HB2.out⟩
 case rest=>
  obtain ⟨rfl,vo2,hw2,hb2⟩:=hcut
  clear HW2 HB2 HK2 e0 e1 e4 e8
  have HW2:=Lib.hid hw2
  have HB2:=Lib.hid hb2
  clear hw2 hb2 hhi hlo
  have HK2:=Lib.hid HW2.out.blk
  unfold wtrC at HK2
  have e1:=HK2.out.cell 1
  have e8:=HK2.out.cell 8
  obtain ⟨oa,pl,oc,rfl⟩:∃a n c,vo2=.slice a n c:=by obtain ⟨qa,qc,e⟩:=HW2.out.own.form;exact ⟨_,_,_,e⟩
  go_upto_region 6 with fail
  go_cut [3] (fun s3 wx=>s3=.string rest∧∃vo,Wtr w.heap.size g (wtrC p1 ob.toNat s1 a m c s2 f d n) vo (L0++[ob]) wx∧Below g w wx)
  case first=>
   have x8:=(HK2.out.alloc (.cells #[.int .u8 ob.toNat] 5)).cell 8
   obtain ⟨qa,qm,qc,W3,hrun,c8,r8,z8,hw,hb3,hq3⟩:=HW2.out.app (fun _ _=>rfl) (fun _=>rfl) ((Below.refl _ _).alloc (Nat.le_refl _) (.cells #[.int .u8 ob.toNat] 5)).drew (SlR.below (slR_lit wc 5 (fun k=>wc.heap.size≤k) [ob] #[.int .u8 ob.toNat] 1 rfl rfl (by simp) (fun _ h=>h)) (Below.refl _ _).drew) (Below.refl _ _) (by have:=HL0.out;omega) (by simp)
   have HRUN:=Lib.hid hrun
   have HW3:=Lib.hid hw
   have HB3:=Lib.hid (HB2.out.trans hb3)
   clear hrun hw hb3 hq3
   go_region_law ((refine step_app_run (by rfl) (.tmp 35) (.tmp 41) 22 (by rfl) _ _ _ (by rfl) (by rfl) HRUN.out ?_))
   all_goals
    go_wp2_with fail
    go_meet
    case rel=>exact ⟨rfl,_,HW3.out,HB3.out⟩
  case rest=>
   obtain ⟨rfl,vo,hw,hb⟩:=hcut
   have HW:=Lib.hid hw
   have HB:=Lib.hid hb
   clear hw hb HW2 HB2 HK2 e1 e8
   obtain ⟨W1,W2,W3,W4,W5,m1,m2,m3,m4,m5,hmh,hmb⟩:=map4 wc (.func (.func 116) #[.pointer (some ⟨g,0,none⟩)] #[]) (.func (.func 118) #[.pointer (some ⟨g,0,none⟩)] #[]) (.func (.func 118) #[.pointer (some ⟨g,0,none⟩)] #[]) (.func (.func 119) #[.pointer (some ⟨g,0,none⟩)] #[])
   have hmf:∀(fn:Fn) (first cap:Array Value) (w:World),(Instr.makeFunc fn first cap).run Tryz.prog w=.ok (.func fn first cap) w:=fun _ _ _ _=>rfl
   unfold tM at m1 m2 m3 m4 m5
   go_upto_region 8 with fail
   have HMP:=Lib.hid hmh
   have HW5:=Lib.hid (HW.out.next hmb)
   have HB5:=Lib.hid (HB.out.trans (hmb.mono (by have:=HW.out.blk.lt;omega)))
   generalize wc.heap.size=mb at *
   clear m1 m2 m3 m4 m5 hmh hmb hmf HW HB
   go_wp2
   have HI6:Hid ((W5.iter rest 0).heap[W5.heap.size]?=some (.stringIter rest 0)):=World.iter_heap W5 rest 0
   have hai:Below W5.heap.size W5 (W5.iter rest 0):=(Below.refl _ _).alloc (Nat.le_refl _) _
   have HW6:=Lib.hid (HW5.out.next hai)
   have HB6:=Lib.hid (HB5.out.trans (hai.mono (by have:=HW5.out.blk.lt;omega)))
   have HM6:Hid ((W5.iter rest 0).heap[mb]?=some (.map (mapE (.func (.func 116) #[.pointer (some ⟨g,0,none⟩)] #[]) (.func (.func 118) #[.pointer (some ⟨g,0,none⟩)] #[]) (.func (.func 118) #[.pointer (some ⟨g,0,none⟩)] #[]) (.func (.func 119) #[.pointer (some ⟨g,0,none⟩)] #[])) 4)):=Lib.hid ((hai.block mb (Array.getElem?_eq_some_iff.1 HMP.out).1).trans HMP.out)
   have HGI:Hid (g≤W5.heap.size):=Lib.hid (Nat.le_of_lt HW5.out.blk.lt)
   generalize W5.iter rest 0=W6 at *
   generalize W5.heap.size=ib at *
   clear hai HW5 HB5 HMP
   go_loopw [6] (fun _ wr=>∃k vo,k≤rest.size∧wr.heap[ib]?=some (.stringIter rest k)∧wr.heap[mb]?=some (.map (mapE (.func (.func 116) #[.pointer (some ⟨g,0,none⟩)] #[]) (.func (.func 118) #[.pointer (some ⟨g,0,none⟩)] #[]) (.func (.func 118) #[.pointer (some ⟨g,0,none⟩)] #[]) (.func (.func 119) #[.pointer (some ⟨g,0,none⟩)] #[])) 4)∧Wtr w.heap.size g (wtrC p1 ob.toNat s1 a m c s2 f d n) vo (L0++[ob]++(rest.data.toList.take k).flatMap (letB d n)) wr∧Below g w wr) (fun _ wr=>iterLeft wr ib)
   case atStart=>exact ⟨0,vo,Nat.zero_le _,HI6.out,HM6.out,by rw [List.take_zero,List.flatMap_nil,List.append_nil];exact HW6.out,HB6.out⟩
   case round=>
    obtain ⟨k,vo2,hk,hi,hm,hw,hb⟩:=hrel
    clear HI6 HW6 HB6 HM6
    have HM:=Lib.hid hm
    have HW:=Lib.hid hw
    have HB:=Lib.hid hb
    have HI:=Lib.hid hi
    have HML:=Lib.hid (iterLeft_eq hi)
    clear hm hw hb
    by_cases hlt:k < rest.size
    ·have hlet:=HLT.out k hlt
     have hle:(rest.data.toList.take k).length≤1000:=by have:=HSZ.out;rw [List.length_take];omega
     have hL9:(L0++[ob]++(rest.data.toList.take k).flatMap (letB d n)).length≤1000000:=by
      have:=HL0.out
      have:=lets_len d n (rest.data.toList.take k)
      rw [List.length_append,List.length_append,List.length_singleton];omega
     have HL9:=Lib.hid hL9
     have hnx:=fun ty=>run_next_at (W:=wr) ty hi hlt (by rcases hlet with e | e | e | e<;>rw [e]<;>decide)
     have hp9:(wr.putObj ib (.stringIter rest (k+1))).heap[ib]?=some (.stringIter rest (k+1)):=World.putObj_heap_same (Array.getElem?_eq_some_iff.1 hi).1
     have HI9:=Lib.hid hp9
     have hmi:mb≠ib:=fun e=>by
      have:=HM.out
      rw [e,hi] at this
      cases this
     have HM9:=Lib.hid ((World.putObj_heap_other (w:=wr) (o:=.stringIter rest (k+1)) hmi).trans HM.out)
     have HW9:=Lib.hid (HW.out.put (o':=.stringIter rest (k+1)) hi rfl)
     have hgi:g≤ib:=HGI.out
     have HB9:=Lib.hid (HB.out.trans (below_put (.stringIter rest (k+1)) hgi))
     generalize hW9:wr.putObj ib (.stringIter rest (k+1))=W9 at *
     clear hi hp9 hle hL9 HI HM HW HB hmi hgi hk
     generalize hb9:rest[k]=b9 at *
     have HLE:Hid (letB d n rest[k]=letB d n b9):=Lib.hid (by rw [hb9])
     rcases hlet with rfl | rfl | rfl | rfl
     ·have HLK:=Lib.hid (run_look 100 (.func (.func 116) #[.pointer (some ⟨g,0,none⟩)] #[]) HM9.out rfl)
      have hlk:=HLK.out
      unfold tM at hlk
      go_wp2_with (go_at_call 116;refine (disp_any _ g p1 ob.toNat s1 a m c s2 f d n vo2 _ _ HW9.out HL9.out).mono ?_;rintro e w10 ⟨rfl,⟨vo3,hw3⟩,hb3,hq3⟩;have HW10:=Lib.hid hw3;have HB10:=Lib.hid (HB9.out.trans hb3);have HI10:=Lib.hid (hq3 _ _ HI9.out rfl);have HM10:=Lib.hid (hq3 _ _ HM9.out rfl);clear hw3 hb3 hq3)
      go_round
      case rel=>exact ⟨k+1,vo3,hlt,HI10.out,HM10.out,by rw [bs_take _ _ _ hlt,HLE.out,←List.append_assoc];exact HW10.out,HB10.out⟩
      case measure=>rw [iterLeft_eq HI10.out,HML.out];omega
     ·have HLK:=Lib.hid (run_look 101 (.func (.func 118) #[.pointer (some ⟨g,0,none⟩)] #[]) HM9.out rfl)
      have hlk:=HLK.out
      unfold tM at hlk
      go_wp2_with (go_at_call 118;refine (numb_any _ g p1 ob.toNat s1 a m c s2 f d n vo2 _ _ HW9.out HL9.out).mono ?_;rintro e w10 ⟨rfl,⟨vo3,hw3⟩,hb3,hq3⟩;have HW10:=Lib.hid hw3;have HB10:=Lib.hid (HB9.out.trans hb3);have HI10:=Lib.hid (hq3 _ _ HI9.out rfl);have HM10:=Lib.hid (hq3 _ _ HM9.out rfl);clear hw3 hb3 hq3)
      go_round
      case rel=>exact ⟨k+1,vo3,hlt,HI10.out,HM10.out,by rw [bs_take _ _ _ hlt,HLE.out,←List.append_assoc];exact HW10.out,HB10.out⟩
      case measure=>rw [iterLeft_eq HI10.out,HML.out];omega
     ·have HLK:=Lib.hid (run_look 110 (.func (.func 118) #[.pointer (some ⟨g,0,none⟩)] #[]) HM9.out rfl)
      have hlk:=HLK.out
      unfold tM at hlk
      go_wp2_with (go_at_call 118;refine (numb_any _ g p1 ob.toNat s1 a m c s2 f d n vo2 _ _ HW9.out HL9.out).mono ?_;rintro e w10 ⟨rfl,⟨vo3,hw3⟩,hb3,hq3⟩;have HW10:=Lib.hid hw3;have HB10:=Lib.hid (HB9.out.trans hb3);have HI10:=Lib.hid (hq3 _ _ HI9.out rfl);have HM10:=Lib.hid (hq3 _ _ HM9.out rfl);clear hw3 hb3 hq3)
      go_round
      case rel=>exact ⟨k+1,vo3,hlt,HI10.out,HM10.out,by rw [bs_take _ _ _ hlt,HLE.out,←List.append_assoc];exact HW10.out,HB10.out⟩
      case measure=>rw [iterLeft_eq HI10.out,HML.out];omega
     ·have HLK:=Lib.hid (run_look 119 (.func (.func 119) #[.pointer (some ⟨g,0,none⟩)] #[]) HM9.out rfl)
      have hlk:=HLK.out
      unfold tM at hlk
      go_wp2_with (go_at_call 119;refine (wword_any _ g p1 ob.toNat s1 a m c s2 f d n vo2 _ _ HW9.out HL9.out).mono ?_;rintro e w10 ⟨rfl,⟨vo3,hw3⟩,hb3,hq3⟩;have HW10:=Lib.hid hw3;have HB10:=Lib.hid (HB9.out.trans hb3);have HI10:=Lib.hid (hq3 _ _ HI9.out rfl);have HM10:=Lib.hid (hq3 _ _ HM9.out rfl);clear hw3 hb3 hq3)
      go_round
      case rel=>exact ⟨k+1,vo3,hlt,HI10.out,HM10.out,by rw [bs_take _ _ _ hlt,HLE.out,←List.append_assoc];exact HW10.out,HB10.out⟩
      case measure=>rw [iterLeft_eq HI10.out,HML.out];omega
    ·obtain rfl:k=rest.size:=by omega
     have hnx:=fun ty=>run_next_stop (W:=wr) ty hi hlt
     have e8:=HW.out.blk.cellAt (i:=8) (v:=vo2) rfl
     have HTK:Hid (rest.data.toList.take rest.size=rest.data.toList):=Lib.hid (List.take_of_length_le (by simp))
     obtain ⟨qa,qn,qc,rfl⟩:∃a n c,vo2=.slice a n c:=by obtain ⟨qa,qc,e⟩:=HW.out.own.form;exact ⟨_,_,_,e⟩
     clear hi HI
     go_wp2
     go_ret
     exact ⟨_,rfl,by rw [←HTK.out];exact HW.out.own,HB.out⟩
end Go.Proofs.YtjmekllgnhkodaaGreatDoor
namespace Go.Proofs.YtjmekllgnhkodaaGreatDoor
set_option maxHeartbeats 16000000
set_option maxRecDepth 100000
open Go.RowKit Go.Shelf Go.Sort
def chkW (p:Int) (x:Nat):Bool:=match (atF p x).1 with
 | some e=>(e.pg==p)&&(decide (e.op=x)&&(e.ex.all (fun b=>b==100 || (b==101 || (b==110 || b==119)))&&(decide (e.ex.length≤10)&&(decide (p < 5) || e.ex==[100]))))
 | none=>true
theorem ckw:∀p:Fin 7,∀x:Fin 256,chkW p.val x.val=true:=by decide+kernel
structure EntW (x:EntV):Prop where
 op:x.op < 256
 lets:∀b∈x.ex,okLet b
 hi:5≤x.pg→x.ex=[100]
 len:x.ex.length≤10
theorem entW_at {p x:Nat} (hp:p < 7) (hx:x < 256) {e:EntV} (he:(atF p x).1=some e):EntW e∧e.pg=p∧e.op=x:=by
 have h:=ckw ⟨p,hp⟩ ⟨x,hx⟩
 unfold chkW at h
 dsimp only at h
 rw [he] at h
 obtain ⟨h1,h⟩:=Bool.and_eq_true_iff.1 h
 obtain ⟨h2,h⟩:=Bool.and_eq_true_iff.1 h
 obtain ⟨h3,h⟩:=Bool.and_eq_true_iff.1 h
 obtain ⟨h4,h5⟩:=Bool.and_eq_true_iff.1 h
 have h1:=eq_of_beq h1
 have h2:=of_decide_eq_true h2
 refine ⟨⟨by omega,fun b hb=>?_,fun h6=>?_,of_decide_eq_true h4⟩,h1,h2⟩
 ·have:=List.all_eq_true.1 h3 b hb
  rcases Bool.or_eq_true_iff.1 this with e | e
  ·exact .inl (eq_of_beq e)
  ·rcases Bool.or_eq_true_iff.1 e with e | e
   ·exact .inr (.inl (eq_of_beq e))
   ·rcases Bool.or_eq_true_iff.1 e with e | e
    ·exact .inr (.inr (.inl (eq_of_beq e)))
    ·exact .inr (.inr (.inr (eq_of_beq e)))
 ·rcases Bool.or_eq_true_iff.1 h5 with e | e
  ·have:=of_decide_eq_true e;omega
  ·exact eq_of_beq e
def encF (x:EntV) (d n:Int):List UInt8:=
 if 5≤x.pg then prefF x.pg++[lowB d]++[UInt8.ofNat x.op] else prefF x.pg++[UInt8.ofNat x.op]++x.ex.flatMap (letB d n)
def bytF (x:EntV) (d n:Int):Option (List UInt8):=if (fillF x.ex x.args d n).isSome=true then some (encF x d n) else none
def BytP (w:World) (r:Option (List UInt8)) (e:Ending) (w':World):Prop:=
 (match r with | some l=>∃v,e=.returned (.tuple #[v,.bool true])∧Own byteR w' w.heap.size 5 NoB v l | none=>e=.returned (.tuple #[.slice none 0 0,.bool false]))∧Below w.heap.size w w'
theorem wbytes_ent (g:Nat) (x:EntV) (hx:EntW x) (a:Option Addr) (m c:Nat) (d n:Int) (w:World) (h:Blk w g 113 (wtrC x.pg x.op ⟨x.iop.toArray⟩ a m c ⟨x.ex.toArray⟩ x.al d n (.slice none 0 0))):
  Calls Tryz.prog 73 #[.pointer (some ⟨g,0,none⟩)] w fun e w'=>∃v,e=.returned v∧Own byteR w' w.heap.size 5 NoB v (encF x d n)∧Below g w w':=by
 have ho:((UInt8.ofNat x.op).toNat:Int)=x.op:=by rw [UInt8.toNat_ofNat',Nat.mod_eq_of_lt hx.op]
 rw [←ho] at h
 have hlen:=hx.len
 by_cases h5:5≤x.pg
 ·have he:=hx.hi h5
  have hE:encF x d n=prefF x.pg++[lowB d]++[UInt8.ofNat x.op]++(⟨#[]⟩:ByteArray).data.toList.flatMap (letB d n):=by unfold encF;rw [if_pos h5];simp
  rw [hE]
  exact wbytes_any g x.pg _ _ a m c _ _ d n w h ⟨#[]⟩ (prefF x.pg++[lowB d]) (fun _=>⟨by rw [he];rfl,rfl⟩) (fun h=>absurd h5 (by omega)) (by decide) (by have:=prefF_len9 x.pg;rw [List.length_append,List.length_singleton];omega) (fun k hk=>absurd hk (Nat.not_lt_zero _))
 ·have hE:encF x d n=prefF x.pg++[UInt8.ofNat x.op]++(⟨x.ex.toArray⟩:ByteArray).data.toList.flatMap (letB d n):=by unfold encF;rw [if_neg h5]
  rw [hE]
  refine wbytes_any g x.pg _ _ a m c _ _ d n w h ⟨x.ex.toArray⟩ (prefF x.pg) (fun h=>absurd h h5) (fun _=>⟨rfl,rfl⟩) ?_ (by have:=prefF_len9 x.pg;omega) (fun k hk=>hx.lets _ ?_)
  ·show x.ex.toArray.size≤1000;rw [List.size_toArray];omega
  ·have hk3:(⟨x.ex.toArray⟩:ByteArray).size=x.ex.length:=by show x.ex.toArray.size=_;rw [List.size_toArray]
   have hk2:k < x.ex.length:=by omega
   have e:(⟨x.ex.toArray⟩:ByteArray)[k]=x.ex[k]:=by show x.ex.toArray[k]=_;simp
   rw [e];exact List.getElem_mem hk2
theorem Bytes_any (x:EntV) (hok:EntOk x) (hx:EntW x) (d n:Int) (p:Blocks) (v:Value) (w:World) (h:SlR opdR w p v x.args):
  Calls Tryz.prog 35 #[entVal x v,.int .i64 d,.int .i64 n] w (BytP w (bytF x d n)):=by
 have hz:=hok.size
 have hfe:fillS x.ex x.args d n=fillF x.ex x.args d n:=fill_eq hok.var
 have hup:=hok.up
 have HWB:=Lib.hid (fun g a m c W h=>wbytes_ent g x hx a m c d n W h)
 have HBF:Hid (bytF x d n=if (fillF x.ex x.args d n).isSome=true then some (encF x d n) else none):=Lib.hid rfl
 generalize bytF x d n=R at *
 generalize encF x d n=EN at *
 obtain ⟨p1,o1,i1,l1,s1,f1⟩:=x
 dsimp only at *
 have hl1:l1.length≤1000000:=by have:=hz.2;omega
 have hi1:(⟨i1.toArray⟩:ByteArray).size≤9223372036854775807:=by have:=hz.1;omega
 have HFS:=Lib.hid (fun W (hb:RowKit.Below w.heap.size w W)=>FillS_any p1 o1 d n ⟨i1.toArray⟩ ⟨s1.toArray⟩ f1 l1 p v W (h.below hb) hl1 hi1)
 rw [show (⟨s1.toArray⟩:ByteArray).data.toList=s1 from rfl,hup,hfe] at HFS
 obtain ⟨va,vc,rfl⟩:∃a c,v=.slice a l1.length c:=by obtain ⟨a,c,e,_⟩:=h;exact ⟨a,c,e⟩
 clear hok hx hz hup hfe hl1 hi1 h
 unfold entVal
 dsimp only
 have HI:=Lib.hid ((Fr.start w).new 50 #[.int .i64 p1,.int .u8 o1,.string ⟨i1.toArray⟩,.slice va l1.length vc,.string ⟨s1.toArray⟩,.bool f1])
 obtain ⟨W0,hW0⟩:∃W:World,W=w.alloc (.cells #[.int .i64 p1,.int .u8 o1,.string ⟨i1.toArray⟩,.slice va l1.length vc,.string ⟨s1.toArray⟩,.bool f1] 50):=⟨_,rfl⟩
 rw [←hW0] at HI
 go_enter Tryz.func35,Tryz.ntmps35
 go_upto_region 1 with fail
 rw [←hW0]
 clear hW0
 obtain ⟨c0,c1,c2,c3,c4,c5⟩:=(HI.out.blk 0 rfl).six
 generalize fillF s1 l1 d n=F at *
 cases F with
 | none=>
  go_wp2_with (go_at_call 72;refine (HFS.out _ HI.out.below).mono ?_;rintro e w3 ⟨rfl,hb⟩;have H3:=Lib.hid ((HI.out.next hb).alloc (.cells #[.string ⟨#[]⟩,.slice none 0 0] 27));clear hb)
  go_ret2
  exact (by rw [HBF.out];exact ⟨rfl,H3.out.below⟩)
 | some cn=>
  go_upto_region 4 with (go_at_call 72;refine (HFS.out _ HI.out.below).mono ?_;rintro e w3 ⟨⟨v3,rfl,ho3⟩,hb⟩;obtain ⟨va3,vc3,rfl⟩:=ho3.form;have H3:=Lib.hid ((HI.out.next hb).alloc (.cells #[.string ⟨i1.toArray⟩,.slice va3 cn.length vc3] 27));clear hb ho3 c0 c1 c2 c3 c4 c5)
  generalize w3.alloc (.cells #[.string ⟨i1.toArray⟩,.slice va3 cn.length vc3] 27)=W3 at *
  obtain ⟨c0,c1,c2,c3,c4,c5⟩:=(H3.out.blk 0 rfl).six
  have HK:=Lib.hid (Blk.new W3 113 (wtrC p1 o1 ⟨i1.toArray⟩ va l1.length vc ⟨s1.toArray⟩ f1 d n (.slice none 0 0)))
  go_wp2_with (go_at_call 73;refine (HWB.out _ _ _ _ _ HK.out).mono ?_;rintro e w4 ⟨v4,rfl,ho4,hb4⟩;obtain ⟨va4,vc4,rfl⟩:=ho4.form;have HO4:=Lib.hid ho4;have HB4:=Lib.hid ((H3.out.below.alloc H3.out.below.size _).trans (hb4.mono H3.out.below.size));clear ho4 hb4)
  go_ret2
  exact (by rw [HBF.out];exact ⟨⟨_,rfl,Own.base HO4.out (by rw [World.size_alloc];have:=H3.out.below.size;omega)⟩,HB4.out⟩)
end Go.Proofs.YtjmekllgnhkodaaGreatDoor
namespace Go.Proofs.YtjmekllgnhkodaaGreatDoor
set_option maxHeartbeats 16000000
set_option maxRecDepth 100000
open Go.RowKit Go.Shelf Go.Sort
theorem page_of {p:Int} {k:Nat} {x:EntV} (h:(atF p k).1=some x):∃q:Nat,q < 7∧p=q:=by
 by_cases h0:0≤p∧p < 7
 ·exact ⟨p.toNat,by omega,by omega⟩
 have e:atF p k=(none,0):=by
  unfold atF;rw [if_neg (by omega),if_neg (by omega),if_neg (by omega),if_neg (by omega),if_neg (by omega)]
 rw [e] at h;cases h
theorem found_W {x:Ins} {e:EntV} {k:Int} (h:findR x=(some e,k)):EntW e:=by
 obtain ⟨p,j,hj,he⟩:=cand_mem (findR_mem h).1
 obtain ⟨q,hq,rfl⟩:=page_of he
 exact (entW_at hq hj he).1
def numD (e:EntV) (c:List Opd):Int:=dAt c (Dof e.ex e.args)
def numN (e:EntV) (c:List Opd):Int:=dAt c (Jof e.ex e.args)
def encR (x:Ins):Option (List UInt8) × Int:=match findR x with
 | (some e,k)=>(some (encF e (numD e (canonOf x).args) (numN e (canonOf x).args)),k)
 | (none,k)=>(none,k)
def EncQ (w:World) (r:Option (List UInt8) × Int) (e:Ending) (w':World):Prop:=
 (match r.1 with | some l=>∃v,e=.returned (.tuple #[v,.int .i64 r.2])∧Own byteR w' w.heap.size 5 NoB v l | none=>e=.returned (.tuple #[.slice none 0 0,.int .i64 r.2]))∧Below w.heap.size w w'
theorem found_num {x:Ins} {e:EntV} {k:Int} (h:findR x=(some e,k)):EntOk e∧k=0∧fitsS ⟨e.iop.toArray⟩ x.op e.ex e.args (canonOf x).args=(numD e (canonOf x).args,numN e (canonOf x).args,true)∧bytF e (numD e (canonOf x).args) (numN e (canonOf x).args)=some (encF e (numD e (canonOf x).args) (numN e (canonOf x).args)):=by
 obtain ⟨hok,hk,hop,_,_,d,n,h1,h2⟩:=back_plain h
 have hfc:fitsC ⟨e.iop.toArray⟩ x.op e.ex e.args (canonOf x).args=true:=by rw [←fits_ok hok,h1]
 have hv:=fits_val hok hfc
 refine ⟨hok,hk,hv,?_⟩
 rw [h1] at hv
 injection hv with hd hv
 injection hv with hn _
 unfold bytF numD numN
 rw [←hd,←hn,←fill_eq hok.var,h2]
 rfl
theorem Encode_any (x:Ins) (m:Mild x) (p:Blocks) (v:Value) (w:World) (h:SlR opdR w p v x.args) (hT:Spc w):
  Calls Tryz.prog 28 #[.agg #[.string x.op,v]] w (EncQ w (encR x)):=by
 have HX:=Lib.hid (fun W (hb:RowKit.Below w.heap.size w W)=>m.find p v W (h.below hb) (hT.below hb))
 obtain ⟨va,vc,rfl⟩:∃a c,v=.slice a x.args.length c:=by obtain ⟨a,c,e,_⟩:=h;exact ⟨a,c,e⟩
 have HI:=Lib.hid ((Fr.start w).new 27 #[.string x.op,.slice va x.args.length vc])
 obtain ⟨W0,hW0⟩:∃W:World,W=w.alloc (.cells #[.string x.op,.slice va x.args.length vc] 27):=⟨_,rfl⟩
 rw [←hW0] at HI
 cases hR:findR x with
 | mk o k=>
 rw [hR] at HX
 cases o with
 | none=>
  have hk:¬k=0:=findR_none hR
  have HR:Hid (encR x=(none,k)):=Lib.hid (by unfold encR;rw [hR])
  clear m h hT hR
  generalize encR x=R at *
  obtain ⟨t,l⟩:=x
  dsimp only at *
  go_enter Tryz.func28,Tryz.ntmps28
  go_upto_region 1 with fail
  rw [←hW0]
  clear hW0
  obtain ⟨a0,a1⟩:=(HI.out.blk 0 rfl).pair
  go_wp2_with (go_at_call 57;refine (HX.out _ HI.out.below).mono ?_;rintro e w4 ⟨rfl,hb⟩;have H4:=Lib.hid ((HI.out.next hb).alloc (.cells #[.int .i64 0,.int .u8 0,.string ⟨#[]⟩,.slice none 0 0,.string ⟨#[]⟩,.bool false] 50));clear hb a0 a1;unfold ent0)
  go_ret2
  exact (by rw [HR.out];exact ⟨rfl,H4.out.below⟩)
 | some e=>
  obtain ⟨hok,rfl,hfs,hby⟩:=found_num hR
  have hW:=found_W hR
  have hz:=hok.size
  have HR:Hid (encR x=(some (encF e (numD e (canonOf x).args) (numN e (canonOf x).args)),0)):=Lib.hid (by unfold encR;rw [hR])
  have hcl:(canonOf x).args.length≤1000000:=by have:=m.n;have:=canon_len10 x;omega
  have HBY:=Lib.hid (fun p v W h=>Bytes_any e hok hW (numD e (canonOf x).args) (numN e (canonOf x).args) p v W h)
  rw [hby] at HBY
  have HVA:=Lib.hid (fun p2 v2 W h2 (hb:RowKit.Below w.heap.size w W)=>ValuesS_any e.pg e.op ⟨e.iop.toArray⟩ ⟨e.ex.toArray⟩ e.al e.args x p2 p v2 (.slice va x.args.length vc) W h2 (h.below hb) (hT.below hb) (by have:=hz.2;omega) (by have:=m.n;omega) hcl m.f (by have:=hz.1;omega) (by have:=m.op;omega))
  rw [show (⟨e.ex.toArray⟩:ByteArray).data.toList=e.ex from rfl,hfs] at HVA
  clear hok hfs hby hW hz hcl hR h hT m
  generalize encR x=R at *
  generalize encF e (numD e (canonOf x).args) (numN e (canonOf x).args)=EN at *
  generalize numD e (canonOf x).args=d at *
  generalize numN e (canonOf x).args=n at *
  obtain ⟨t,l⟩:=x
  obtain ⟨p1,o1,i1,l1,s1,f1⟩:=e
  dsimp only [entVal] at *
  go_enter Tryz.func28,Tryz.ntmps28
  go_upto_region 1 with fail
  rw [←hW0]
  clear hW0
  obtain ⟨a0,a1⟩:=(HI.out.blk 0 rfl).pair
  go_upto_region 4 with (go_at_call 57;refine (HX.out _ HI.out.below).mono ?_;rintro e w4 ⟨⟨v4,q4,rfl,hs⟩,hb⟩;obtain ⟨va4,vc4,rfl⟩:∃a c,v4=.slice a l1.length c:=(by obtain ⟨a,c,e,_⟩:=hs;exact ⟨a,c,e⟩);have H4:=Lib.hid ((HI.out.next hb).new 50 #[.int .i64 p1,.int .u8 o1,.string ⟨i1.toArray⟩,.slice va4 l1.length vc4,.string ⟨s1.toArray⟩,.bool f1]);have HS4:=Lib.hid (hs.alloc (.cells #[.int .i64 p1,.int .u8 o1,.string ⟨i1.toArray⟩,.slice va4 l1.length vc4,.string ⟨s1.toArray⟩,.bool f1] 50));clear hb hs a0 a1;dsimp only [entVal])
  generalize hg4:w4.heap.size=g4 at *
  obtain ⟨W4,hW4⟩:∃W:World,W=w4.alloc (.cells #[.int .i64 p1,.int .u8 o1,.string ⟨i1.toArray⟩,.slice va4 l1.length vc4,.string ⟨s1.toArray⟩,.bool f1] 50):=⟨_,rfl⟩
  rw [←hW4] at H4 HS4 ⊢
  clear hW4 hg4 HI HX
  obtain ⟨c0,c1,c2,c3,c4,c5⟩:=(H4.out.blk 0 rfl).six
  obtain ⟨a0,a1⟩:=(H4.out.blk 1 rfl).pair
  go_upto_region 5 with (go_at_call 58;refine (HVA.out _ _ _ HS4.out H4.out.below).mono ?_;rintro e w5 ⟨rfl,hb⟩;have H5:=Lib.hid (H4.out.next hb);have HS5:=Lib.hid (HS4.out.below hb);clear hb c0 c1 c2 c3 c4 c5 a0 a1)
  obtain ⟨c0,c1,c2,c3,c4,c5⟩:=(H5.out.blk 0 rfl).six
  go_wp2_with (go_at_call 35;refine (HBY.out _ _ _ HS5.out).mono ?_;rintro e w6 ⟨⟨v6,rfl,ho⟩,hb⟩;obtain ⟨va6,vc6,rfl⟩:=ho.form;have HO6:=Lib.hid ho;have H6:=Lib.hid (H5.out.next hb);clear hb ho)
  go_ret2
  exact (by rw [HR.out];exact ⟨⟨_,rfl,Own.base HO6.out H5.out.size⟩,H6.out.below⟩)
end Go.Proofs.YtjmekllgnhkodaaGreatDoor
namespace Go.Proofs.YtjmekllgnhkodaaGreatDoor
set_option maxHeartbeats 16000000
set_option maxRecDepth 100000
open Go.RowKit Go.Shelf Go.Sort
def insB1:Ins:=⟨⟨#[76,68]⟩,[⟨5,5,-1⟩,⟨6,0,7⟩]⟩
def insB2:Ins:=⟨⟨#[82,69,83]⟩,[⟨6,0,5⟩,⟨5,5,1⟩,⟨1,0,0⟩]⟩
theorem encB1:encR insB1=(some [221,54,255,7],0):=by decide+kernel
theorem encB2:encR insB2=(some [221,203,1,168],0):=by decide+kernel
theorem mildB1:Mild insB1:=⟨by decide,by decide,by intro y hy;simp [insB1] at hy;rcases hy with rfl | rfl<;>exact ⟨by decide,by decide⟩⟩
theorem mildB2:Mild insB2:=⟨by decide,by decide,by intro y hy;simp [insB2] at hy;rcases hy with rfl | rfl | rfl<;>exact ⟨by decide,by decide⟩⟩
theorem upper_RES:upper ⟨#[82,69,83]⟩=⟨#[82,69,83]⟩:=by decide+kernel
theorem slR_byte4 (w:World) (a b c d:UInt8):SlR byteR (w.alloc (.cells #[.int .u8 a.toNat,.int .u8 b.toNat,.int .u8 c.toNat,.int .u8 d.toNat] 5)) (fun _=>True) (.slice (some ⟨w.heap.size,0,none⟩) 4 4) [a,b,c,d]:=slR_lit w _ _ [a,b,c,d] _ 4 rfl rfl (by simp) (fun _ _=>trivial)
theorem slR_b1 (w:World):SlR byteR (w.alloc (.cells #[.int .u8 221,.int .u8 54,.int .u8 255,.int .u8 7] 5)) (fun _=>True) (.slice (some ⟨w.heap.size,0,none⟩) 4 4) [221,54,255,7]:=slR_byte4 w 221 54 255 7
theorem slR_b2 (w:World):SlR byteR (w.alloc (.cells #[.int .u8 221,.int .u8 203,.int .u8 1,.int .u8 168] 5)) (fun _=>True) (.slice (some ⟨w.heap.size,0,none⟩) 4 4) [221,203,1,168]:=slR_byte4 w 221 203 1 168
theorem alive11_any (w:World) (hT:Spc w):Calls Tryz.prog 27 #[] w fun e w'=>e=.returned (.bool true)∧Below w.heap.size w w':=by
 have HT:=Lib.hid hT
 have HE1:=Lib.hid (fun p v W h hT=>Encode_any insB1 mildB1 p v W h hT)
 have HE2:=Lib.hid (fun p v W h hT=>Encode_any insB2 mildB2 p v W h hT)
 rw [encB1] at HE1
 rw [encB2] at HE2
 dsimp only [insB1,insB2] at HE1 HE2
 have HM1:=Lib.hid (fun p v W h=>Make_any p ⟨#[76,68]⟩ v [⟨5,5,-1⟩,⟨6,0,7⟩] W h (by decide) (by decide))
 have HM2:=Lib.hid (fun p v W h=>Make_any p ⟨#[82,69,83]⟩ v [⟨6,0,5⟩,⟨5,5,1⟩,⟨1,0,0⟩] W h (by decide) (by decide))
 rw [upper_LD] at HM1
 rw [upper_RES] at HM2
 have HQ:=Lib.hid (fun p q v1 v2 l1 l2 W h1 h2=>EqualByte_any p q v1 v2 l1 l2 W h1 h2)
 clear hT
 have HX1:=Lib.hid (HM1.out _ _ _ (slR_opd w (fun _=>True) [⟨5,5,-1⟩,⟨6,0,7⟩] #[.int .i64 5,.int .i64 5,.int .i64 (-1),.int .i64 6,.int .i64 0,.int .i64 7] 2 rfl rfl (by decide) (fun _ _=>trivial)))
 have HA:=Lib.hid ((Fr.start w).alloc (.cells #[.int .i64 5,.int .i64 5,.int .i64 (-1),.int .i64 6,.int .i64 0,.int .i64 7] 90))
 go_enter Tryz.func27,Tryz.ntmps27
 go_upto_region 2 with (first
  | (go_at_call 56;refine HX1.out.mono ?_;rintro e w1 ⟨v1,rfl,ho1,hb1⟩;obtain ⟨a1,c1,rfl⟩:=ho1.form;have HB1:=Lib.hid (HA.out.next hb1);have HO1:=Lib.hid (Own.slR (q:=fun _=>True) ho1 (fun _ h=>h.elim) (fun _ _=>trivial));clear ho1 hb1)
  | (go_at_call 28;refine (HE1.out _ _ _ HO1.out (HT.out.below HB1.out.below)).mono ?_;rintro e w2 ⟨⟨v2,rfl,ho⟩,hb⟩;obtain ⟨va2,vc2,rfl⟩:=ho.form;have HB2:=Lib.hid (HB1.out.next hb);have HO2:=Lib.hid (Own.slR (q:=fun _=>True) ho (fun _ h=>h.elim) (fun _ _=>trivial));clear hb ho))
 have HX2:=Lib.hid (HM2.out _ _ _ (slR_opd w2 (fun _=>True) [⟨6,0,5⟩,⟨5,5,1⟩,⟨1,0,0⟩] #[.int .i64 6,.int .i64 0,.int .i64 5,.int .i64 5,.int .i64 5,.int .i64 1,.int .i64 1,.int .i64 0,.int .i64 0] 3 rfl rfl (by decide) (fun _ _=>trivial)))
 have HA2:=Lib.hid (HB2.out.alloc (.cells #[.int .i64 6,.int .i64 0,.int .i64 5,.int .i64 5,.int .i64 5,.int .i64 1,.int .i64 1,.int .i64 0,.int .i64 0] 90))
 have HO2a:=Lib.hid (HO2.out.alloc (.cells #[.int .i64 6,.int .i64 0,.int .i64 5,.int .i64 5,.int .i64 5,.int .i64 1,.int .i64 1,.int .i64 0,.int .i64 0] 90))
 go_upto_region 3 with (first
  | (go_at_call 56;refine HX2.out.mono ?_;rintro e w3 ⟨v3,rfl,ho1,hb1⟩;obtain ⟨a3,c3,rfl⟩:=ho1.form;have HB3:=Lib.hid (HA2.out.next hb1);have HO3:=Lib.hid (Own.slR (q:=fun _=>True) ho1 (fun _ h=>h.elim) (fun _ _=>trivial));have HO23:=Lib.hid (HO2a.out.below hb1);clear ho1 hb1)
  | (go_at_call 28;refine (HE2.out _ _ _ HO3.out (HT.out.below HB3.out.below)).mono ?_;rintro e w4 ⟨⟨v4,rfl,ho⟩,hb⟩;obtain ⟨va4,vc4,rfl⟩:=ho.form;have HB4:=Lib.hid (HB3.out.next hb);have HO4:=Lib.hid (Own.slR (q:=fun _=>True) ho (fun _ h=>h.elim) (fun _ _=>trivial));have HO24:=Lib.hid (HO23.out.below hb);clear hb ho))
 have HS1:=Lib.hid (slR_b1 w4)
 have HB5:=Lib.hid (HB4.out.alloc (.cells #[.int .u8 221,.int .u8 54,.int .u8 255,.int .u8 7] 5))
 have HO25:=Lib.hid (HO24.out.alloc (.cells #[.int .u8 221,.int .u8 54,.int .u8 255,.int .u8 7] 5))
 have HO45:=Lib.hid (HO4.out.alloc (.cells #[.int .u8 221,.int .u8 54,.int .u8 255,.int .u8 7] 5))
 dsimp only [List.length_cons,List.length_nil] at HO25 HO45
 go_wp2_with (first
  | (go_at_call 31;with_reducible refine (HQ.out _ _ _ _ [221,54,255,7] [221,54,255,7] _ HO25.out HS1.out).mono ?_;rw [decide_eq_true rfl];rintro e w5 ⟨rfl,n5,hw5⟩;have hb5:RowKit.Below (w4.alloc (.cells #[.int .u8 221,.int .u8 54,.int .u8 255,.int .u8 7] 5)).heap.size (w4.alloc (.cells #[.int .u8 221,.int .u8 54,.int .u8 255,.int .u8 7] 5)) w5:=(by rw [hw5];exact below_dN (Below.refl _ _) n5);clear hw5;have HB6:=Lib.hid (HB5.out.next hb5);have HO46:=Lib.hid ((HO45.out.below hb5).alloc (.cells #[.int .u8 221,.int .u8 203,.int .u8 1,.int .u8 168] 5));have HS2:=Lib.hid (slR_b2 w5);clear hb5;have HB7:=Lib.hid (HB6.out.alloc (.cells #[.int .u8 221,.int .u8 203,.int .u8 1,.int .u8 168] 5)))
  | (go_at_call 31;with_reducible refine (HQ.out _ _ _ _ [221,203,1,168] [221,203,1,168] _ HO46.out HS2.out).mono ?_;rw [decide_eq_true rfl];rintro e w6 ⟨rfl,n6,rfl⟩;have HB8:=Lib.hid (HB7.out.drewN n6)))
 go_ret
 exact ⟨rfl,HB8.out.below⟩
end Go.Proofs.YtjmekllgnhkodaaGreatDoor
namespace Go.Proofs.YtjmekllgnhkodaaGreatDoor
set_option maxHeartbeats 16000000
set_option maxRecDepth 100000
open Go.RowKit Go.Shelf Go.Sort
end Go.Proofs.YtjmekllgnhkodaaGreatDoor
namespace Go.Proofs.YtjmekllgnhkodaaGreatDoor
set_option maxHeartbeats 16000000
set_option maxRecDepth 100000
open Go.RowKit Go.Shelf Go.Sort
theorem RefPrefixes_any (p:Int) (w:World):
  Calls Tryz.prog 74 #[.int .i64 p] w fun e w'=>∃v,e=.returned v∧Own byteR w' w.heap.size 5 NoB v (prefF p)∧Below w.heap.size w w':=by
 have hal:∀c:UInt8,Own byteR (w.alloc (.cells #[.int .u8 c.toNat] 5)) w.heap.size 5 NoB (.slice (some ⟨w.heap.size,0,none⟩) 1 1) [c]:=fun c=>Own.lit w _ [c] _ 1 rfl rfl (by simp)
 have hal2:∀c d:UInt8,Own byteR (w.alloc (.cells #[.int .u8 c.toNat,.int .u8 d.toNat] 5)) w.heap.size 5 NoB (.slice (some ⟨w.heap.size,0,none⟩) 2 2) [c,d]:=fun c d=>Own.lit w _ [c,d] _ 2 rfl rfl (by simp)
 have hb:∀o:Obj,Below w.heap.size w (w.alloc o):=fun o=>(Below.refl _ w).alloc (Nat.le_refl _) o
 have HAL:=Lib.hid hal
 have HAL2:=Lib.hid hal2
 have HB:=Lib.hid hb
 clear hal hb hal2
 by_cases h1:p=1
 ·subst h1
  go_enter Tryz.func74,Tryz.ntmps74
  go_wp2
  go_ret
  exact ⟨_,rfl,HAL.out 203,HB.out _⟩
 by_cases h2:p=2
 ·subst h2
  go_enter Tryz.func74,Tryz.ntmps74
  go_wp2
  go_ret
  exact ⟨_,rfl,HAL.out 237,HB.out _⟩
 by_cases h3:p=3
 ·subst h3
  go_enter Tryz.func74,Tryz.ntmps74
  go_wp2
  go_ret
  exact ⟨_,rfl,HAL.out 221,HB.out _⟩
 by_cases h4:p=4
 ·subst h4
  go_enter Tryz.func74,Tryz.ntmps74
  go_wp2
  go_ret
  exact ⟨_,rfl,HAL.out 253,HB.out _⟩
 by_cases h5:p=5
 ·subst h5
  go_enter Tryz.func74,Tryz.ntmps74
  go_wp2
  go_ret
  exact ⟨_,rfl,HAL2.out 221 203,HB.out _⟩
 by_cases h6:p=6
 ·subst h6
  go_enter Tryz.func74,Tryz.ntmps74
  go_wp2
  go_ret
  exact ⟨_,rfl,HAL2.out 253 203,HB.out _⟩
 have hf:prefF p=[]:=by rw [prefF,if_neg h1,if_neg h2,if_neg h3,if_neg h4,if_neg h5,if_neg h6]
 have b1:(p==1)=false:=by rw [beq_eq_false_iff_ne];exact h1
 have b2:(p==2)=false:=by rw [beq_eq_false_iff_ne];exact h2
 have b3:(p==3)=false:=by rw [beq_eq_false_iff_ne];exact h3
 have b4:(p==4)=false:=by rw [beq_eq_false_iff_ne];exact h4
 have b5:(p==5)=false:=by rw [beq_eq_false_iff_ne];exact h5
 have b6:(p==6)=false:=by rw [beq_eq_false_iff_ne];exact h6
 rw [hf]
 clear hf h1 h2 h3 h4 h5 h6
 go_enter Tryz.func74,Tryz.ntmps74
 go_wp2
 go_ret
 exact ⟨_,rfl,Own.nil _ _ _ _ _,Below.refl _ _⟩
theorem i64_and255 (n:Int):bits .and .i64 n 255=n % 256:=by
 have h255:(BitVec.ofInt 64 255).toNat=2 ^ 8 - 1:=by decide
 have key:(BitVec.ofInt 64 n&&& BitVec.ofInt 64 255).toNat=(n % ((2 ^ 64:Nat):Int)).toNat % 2 ^ 8:=by
  rw [BitVec.toNat_and,BitVec.toNat_ofInt,h255,Nat.and_two_pow_sub_one_eq_mod]
 show IntKind.i64.wrap ((BitVec.ofInt 64 n&&& BitVec.ofInt 64 255).toNat:Nat)=n % 256
 rw [key,IntKind.wrap_i64]
 omega
theorem wpList_append_run {P:Program} {ops:Array Oper} {rest:List Oper} {o:Oper} {a:Act} {w:World} {Q:Exit→Act→World→Prop} (hgd:o.guard=none) (s x:Operand) (t:TypeId)
  (ho:o.op=.call {callee:=.builtin .append,args:=#[s,x],argTypes:=#[t,t]}) {v vx r:Value} {w':World} (hs:a.eval s=v) (hxe:a.eval x=vx) (hrun:(Builtin.append_ #[t,t] o.type #[v,vx]).run P w=.ok r w')
  (h:wpList P ops Q rest (a.put o.dst r) w'):wpList P ops Q (o::rest) a w:=
 wpList_plain hgd fun _ hK=>by
  unfold Oper.wp execOp
  simp only [ho,resolve,invoke,builtin,Sem.run_bind,Sem.run_pure,Result.andThen_ok,List.map_toArray,List.map_cons,List.map_nil,hs,hxe,hrun]
  exact hK _ _ h
theorem byt_app {B:Nat} {vo vx:Value} {L M:List UInt8} {w W:World} {q:Blocks} (ho:Own byteR w B 5 NoB vo L) (hb:Below w.heap.size w W) (hx:SlR byteR W q vx M) (hq:∀k,q k→w.heap.size≤k) (hB:B≤w.heap.size) (hL:L.length≤1000000) (hM:M.length≤1000000):
  ∃qa qm qc w3,(Builtin.append_ #[22,22] 22 #[vo,vx]).run Tryz.prog W=.ok (.slice qa qm qc) w3∧Own byteR w3 B 5 NoB (.slice qa qm qc) (L++M)∧Below B w w3∧W.heap.size≤w3.heap.size:=by
 have hs:=hb.size
 obtain ⟨v3,w3,hrun,ho3,hg3,hv3⟩:=run_append_R (P:=Tryz.prog) (R:=byteR) (w:=W) B 22 22 5 1 elByte (p:=NoB) (q:=q) (ho.stay hb) hx (fun _ hk=>hk.elim) (fun k hk e=>by have:=(ho.lt k e.symm).2;have:=hq k hk;omega) (by omega) (by omega) (by omega)
 obtain ⟨qa,qc,rfl⟩:=(ho3.flat NoB).form
 exact ⟨qa,_,qc,w3,hrun,ho3.flat NoB,(hb.mono hB).grown hg3 (by omega) (fun k e=>(ho.lt k e).1),hg3.size⟩
theorem byt_lit (w:World) (l:List UInt8) (cs:Array Value) (m:Nat) (hm:m=l.length) (hcs:cs.toList=l.flatMap fun b=>[.int .u8 b.toNat]) (hl:l.length≤1000000):SlR byteR (w.alloc (.cells cs 5)) (fun k=>w.heap.size≤k) (.slice (some ⟨w.heap.size,0,none⟩) m m) l:=slR_lit w _ _ l cs m hm hcs hl (fun _ h=>h)
theorem bytes11_low (p1:Int) (ob:UInt8) (s1:ByteArray) (a:Option Addr) (m c:Nat) (s2:ByteArray) (f:Bool) (d n:Int) (R:Option (List Opd)) (w:World) (hp:¬p1 ≥ 5) (hs:s2.size≤1000) (hl:∀k (h:k < s2.size),okLet s2[k])
  (hF:∀W,RowKit.Below w.heap.size w W→Calls Tryz.prog 54 #[.agg #[.int .i64 p1,.int .u8 ob.toNat,.string s1,.slice a m c,.string s2,.bool f],.int .i64 d,.int .i64 n] W (FilP W s1 R)):
  Calls Tryz.prog 36 #[.agg #[.int .i64 p1,.int .u8 ob.toNat,.string s1,.slice a m c,.string s2,.bool f],.int .i64 d,.int .i64 n] w (BytP w (if R.isSome=true then some (prefF p1++[ob]++s2.data.toList.flatMap (letB d n)) else none)):=by
 have A1:=i64_and255 d
 have A2:=i64_and255 n
 have A3:=i64_and255 (n / 256)
 have HF:=Lib.hid hF
 have HLT:=Lib.hid hl
 have HSZ:=Lib.hid hs
 have HP:=Lib.hid (fun W=>RefPrefixes_any p1 W)
 clear hF hl hs
 have HI:=Lib.hid ((Fr.start w).new 53 #[.int .i64 p1,.int .u8 ob.toNat,.string s1,.slice a m c,.string s2,.bool f])
 obtain ⟨W0,hW0⟩:∃W:World,W=w.alloc (.cells #[.int .i64 p1,.int .u8 ob.toNat,.string s1,.slice a m c,.string s2,.bool f] 53):=⟨_,rfl⟩
 rw [←hW0] at HI
 go_enter Tryz.func36,Tryz.ntmps36
 go_upto_region 1 with fail
 rw [←hW0]
 clear hW0
 obtain ⟨c0,c1,c2,c3,c4,c5⟩:=(HI.out.blk 0 rfl).six
 cases R with
 | none=>
  go_wp2_with (go_at_call 54;refine (HF.out _ HI.out.below).mono ?_;rintro e w3 ⟨rfl,hb⟩;have H3:=Lib.hid ((HI.out.next hb).alloc (.cells #[.string ⟨#[]⟩,.slice none 0 0] 27));clear hb)
  go_ret2
  exact ⟨rfl,H3.out.below⟩
 | some cn=>
  go_upto_region 4 with (go_at_call 54;refine (HF.out _ HI.out.below).mono ?_;rintro e w3 ⟨⟨v3,rfl,ho3⟩,hb⟩;obtain ⟨va3,vc3,rfl⟩:=ho3.form;have H3:=Lib.hid ((HI.out.next hb).alloc (.cells #[.string s1,.slice va3 cn.length vc3] 27));clear hb ho3 c0 c1 c2 c3 c4 c5)
  generalize w3.alloc (.cells #[.string s1,.slice va3 cn.length vc3] 27)=W3 at *
  have HW3:=Lib.hid H3.out.size
  have hl3:=(H3.out.blk 0 rfl).lt
  obtain ⟨c0,c1,c2,c3,c4,c5⟩:=((H3.out.alloc (.cells #[] 5)).blk 0 rfl).six
  have HM:=Lib.hid (Own.made (R:=byteR) W3 5 NoB)
  go_upto_region 5 with (first
   | (go_at_call 74;refine (HP.out _).mono ?_;rintro e w4 ⟨v4,rfl,ho4,hb4⟩;obtain ⟨qa,qm,qc,w5,hrun,ho5,hb5,hs5⟩:=byt_app HM.out hb4 (ho4.slR (fun _ h=>h.elim) (fun k h=>h)) (fun _ h=>h) (by rw [World.size_alloc];omega) (by simp) (by have:=prefF_len9 p1;omega);have HRUN:=Lib.hid hrun;have HO5:=Lib.hid ho5;have HB5:=Lib.hid (((Below.refl W3.heap.size W3).alloc (Nat.le_refl _) _).trans hb5);clear hrun ho5 hb5 hs5 ho4 hb4 c0 c1 c2 c3 c4 c5)
   | (at_builtin;refine wpList_append_run rfl (.tmp 21) (.tmp 24) 22 rfl rfl rfl HRUN.out ?_))
  have H5:=Lib.hid (H3.out.next HB5.out)
  obtain ⟨c0,c1,c2,c3,c4,c5⟩:=(H5.out.blk 0 rfl).six
  obtain ⟨ra,rm,rc,w6,hrun6,ho6,hb6,_⟩:=byt_app HO5.out ((Below.refl w5.heap.size w5).alloc (Nat.le_refl _) _) (byt_lit w5 [ob] #[.int .u8 ob.toNat] 1 rfl rfl (by simp)) (fun _ h=>h) HB5.out.size (by have:=prefF_len9 p1;rw [List.nil_append];omega) (by simp)
  have HRUN6:=Lib.hid hrun6
  have HO6:=Lib.hid ho6
  have HB6:=Lib.hid (HB5.out.trans hb6)
  clear hrun6 ho6 hb6 HRUN
  have HH3:=Lib.hid H3.out
  go_wp2_with (at_builtin;refine wpList_append_run rfl (.tmp 37) (.tmp 40) 22 rfl rfl rfl HRUN6.out ?_)
  clear c0 c1 c2 c3 c4 c5 H5 HB5 HO5 HRUN6
  go_loopw [10,11] (fun u i wr=>∃k:Nat,k≤s2.size∧i=.int .i64 k∧Own byteR wr W3.heap.size 5 NoB u (prefF p1++[ob]++(s2.data.toList.take k).flatMap (letB d n))∧Below W3.heap.size W3 wr) (fun _ i _=>s2.size - (intOf i).toNat)
  case atStart=>exact ⟨0,Nat.zero_le _,rfl,by rw [List.take_zero,List.flatMap_nil,List.append_nil];exact HO6.out,HB6.out⟩
  case round=>
   obtain ⟨k,hk,rfl,ho,hb⟩:=hrel
   clear HO6 HB6
   obtain ⟨oa,om,oc,rfl⟩:∃a n c,u10=.slice a n c:=by obtain ⟨qa,qc,e⟩:=ho.form;exact ⟨_,_,_,e⟩
   have HO:=Lib.hid ho
   have HBW:=Lib.hid hb
   clear ho hb
   have HK:=Lib.hid (HH3.out.next HBW.out)
   obtain ⟨c0,c1,c2,c3,c4,c5⟩:=(HK.out.blk 0 rfl).six
   by_cases hlt:k < s2.size
   ·have hlet:=HLT.out k hlt
    have hle:(s2.data.toList.take k).length≤1000:=by have:=HSZ.out;rw [List.length_take];omega
    have HL9:Hid ((prefF p1++[ob]++(s2.data.toList.take k).flatMap (letB d n)).length≤1000000):=Lib.hid (by
     have:=prefF_len9 p1
     have:=lets_len d n (s2.data.toList.take k)
     rw [List.length_append,List.length_append,List.length_singleton];omega)
    clear hle
    rcases hlet with hlet | hlet | hlet | hlet
    ·have b100:((s2[k].toNat:Int)==100)=true:=by rw [hlet];decide
     have b119:((s2[k].toNat:Int)==119)=false:=by rw [hlet];decide
     have HLE:Hid (letB d n s2[k]=[lowB d]):=Lib.hid (by rw [hlet];rfl)
     obtain ⟨qa,qm,qc,w8,hrun,ho8,hb8,_⟩:=byt_app HO.out ((Below.refl wr.heap.size wr).alloc (Nat.le_refl _) _) (byt_lit wr [lowB d] #[.int .u8 (d % 256)] 1 rfl (by simp [lowB_is]) (by simp)) (fun _ h=>h) HBW.out.size HL9.out (by simp)
     have HRUN:=Lib.hid hrun
     have HO8:=Lib.hid ho8
     have HB8:=Lib.hid (HBW.out.trans hb8)
     clear hrun ho8 hb8 hlet
     have hsz:=HSZ.out
     go_wp2_with (at_builtin;refine wpList_append_run rfl (.tmp 61) (.tmp 65) 22 rfl rfl rfl HRUN.out ?_)
     go_round
     case rel=>exact ⟨k+1,hlt,by go_num,by rw [bs_take _ _ _ hlt,HLE.out,←List.append_assoc];exact HO8.out,HB8.out⟩
     case measure=>simp [intOf];omega
    ·have b100:((s2[k].toNat:Int)==100)=false:=by rw [hlet];decide
     have b119:((s2[k].toNat:Int)==119)=false:=by rw [hlet];decide
     have HLE:Hid (letB d n s2[k]=[lowB n]):=Lib.hid (by rw [hlet];rfl)
     obtain ⟨qa,qm,qc,w8,hrun,ho8,hb8,_⟩:=byt_app HO.out ((Below.refl wr.heap.size wr).alloc (Nat.le_refl _) _) (byt_lit wr [lowB n] #[.int .u8 (n % 256)] 1 rfl (by simp [lowB_is]) (by simp)) (fun _ h=>h) HBW.out.size HL9.out (by simp)
     have HRUN:=Lib.hid hrun
     have HO8:=Lib.hid ho8
     have HB8:=Lib.hid (HBW.out.trans hb8)
     clear hrun ho8 hb8 hlet
     have hsz:=HSZ.out
     go_wp2_with (at_builtin;refine wpList_append_run rfl (.tmp 53) (.tmp 57) 22 rfl rfl rfl HRUN.out ?_)
     go_round
     case rel=>exact ⟨k+1,hlt,by go_num,by rw [bs_take _ _ _ hlt,HLE.out,←List.append_assoc];exact HO8.out,HB8.out⟩
     case measure=>simp [intOf];omega
    ·have b100:((s2[k].toNat:Int)==100)=false:=by rw [hlet];decide
     have b119:((s2[k].toNat:Int)==119)=false:=by rw [hlet];decide
     have HLE:Hid (letB d n s2[k]=[lowB n]):=Lib.hid (by rw [hlet];rfl)
     obtain ⟨qa,qm,qc,w8,hrun,ho8,hb8,_⟩:=byt_app HO.out ((Below.refl wr.heap.size wr).alloc (Nat.le_refl _) _) (byt_lit wr [lowB n] #[.int .u8 (n % 256)] 1 rfl (by simp [lowB_is]) (by simp)) (fun _ h=>h) HBW.out.size HL9.out (by simp)
     have HRUN:=Lib.hid hrun
     have HO8:=Lib.hid ho8
     have HB8:=Lib.hid (HBW.out.trans hb8)
     clear hrun ho8 hb8 hlet
     have hsz:=HSZ.out
     go_wp2_with (at_builtin;refine wpList_append_run rfl (.tmp 53) (.tmp 57) 22 rfl rfl rfl HRUN.out ?_)
     go_round
     case rel=>exact ⟨k+1,hlt,by go_num,by rw [bs_take _ _ _ hlt,HLE.out,←List.append_assoc];exact HO8.out,HB8.out⟩
     case measure=>simp [intOf];omega
    ·have b100:((s2[k].toNat:Int)==100)=false:=by rw [hlet];decide
     have b119:((s2[k].toNat:Int)==119)=true:=by rw [hlet];decide
     have HLE:Hid (letB d n s2[k]=[lowB n,lowB (n / 256)]):=Lib.hid (by rw [hlet];rfl)
     obtain ⟨qa,qm,qc,w8,hrun,ho8,hb8,_⟩:=byt_app HO.out ((Below.refl wr.heap.size wr).alloc (Nat.le_refl _) _) (byt_lit wr [lowB n,lowB (n / 256)] #[.int .u8 (n % 256),.int .u8 (n / 256 % 256)] 2 rfl (by simp [lowB_is]) (by simp)) (fun _ h=>h) HBW.out.size HL9.out (by simp)
     have HRUN:=Lib.hid hrun
     have HO8:=Lib.hid ho8
     have HB8:=Lib.hid (HBW.out.trans hb8)
     clear hrun ho8 hb8 hlet
     have hsz:=HSZ.out
     go_wp2_with (at_builtin;refine wpList_append_run rfl (.tmp 69) (.tmp 77) 22 rfl rfl rfl HRUN.out ?_)
     go_round
     case rel=>exact ⟨k+1,hlt,by go_num,by rw [bs_take _ _ _ hlt,HLE.out,←List.append_assoc];exact HO8.out,HB8.out⟩
     case measure=>simp [intOf];omega
   ·obtain rfl:k=s2.size:=by omega
    have HTK:Hid (s2.data.toList.take s2.size=s2.data.toList):=Lib.hid (List.take_of_length_le (by simp))
    go_wp2
    go_ret2
    exact ⟨⟨_,rfl,by have h9:=Own.base HO.out HW3.out;rw [List.append_assoc,HTK.out] at h9;exact h9⟩,HK.out.below⟩
end Go.Proofs.YtjmekllgnhkodaaGreatDoor
namespace Go.Proofs.YtjmekllgnhkodaaGreatDoor
set_option maxHeartbeats 16000000
set_option maxRecDepth 100000
open Go.RowKit Go.Shelf Go.Sort
theorem bytes11_high (p1:Int) (ob:UInt8) (s1:ByteArray) (a:Option Addr) (m c:Nat) (s2:ByteArray) (f:Bool) (d n:Int) (R:Option (List Opd)) (w:World) (hp:p1 ≥ 5)
  (hF:∀W,RowKit.Below w.heap.size w W→Calls Tryz.prog 54 #[.agg #[.int .i64 p1,.int .u8 ob.toNat,.string s1,.slice a m c,.string s2,.bool f],.int .i64 d,.int .i64 n] W (FilP W s1 R)):
  Calls Tryz.prog 36 #[.agg #[.int .i64 p1,.int .u8 ob.toNat,.string s1,.slice a m c,.string s2,.bool f],.int .i64 d,.int .i64 n] w (BytP w (if R.isSome=true then some (prefF p1++[lowB d]++[ob]) else none)):=by
 have A1:=i64_and255 d
 have HF:=Lib.hid hF
 have HP:=Lib.hid (fun W=>RefPrefixes_any p1 W)
 clear hF
 have HI:=Lib.hid ((Fr.start w).new 53 #[.int .i64 p1,.int .u8 ob.toNat,.string s1,.slice a m c,.string s2,.bool f])
 obtain ⟨W0,hW0⟩:∃W:World,W=w.alloc (.cells #[.int .i64 p1,.int .u8 ob.toNat,.string s1,.slice a m c,.string s2,.bool f] 53):=⟨_,rfl⟩
 rw [←hW0] at HI
 go_enter Tryz.func36,Tryz.ntmps36
 go_upto_region 1 with fail
 rw [←hW0]
 clear hW0
 obtain ⟨c0,c1,c2,c3,c4,c5⟩:=(HI.out.blk 0 rfl).six
 cases R with
 | none=>
  go_wp2_with (go_at_call 54;refine (HF.out _ HI.out.below).mono ?_;rintro e w3 ⟨rfl,hb⟩;have H3:=Lib.hid ((HI.out.next hb).alloc (.cells #[.string ⟨#[]⟩,.slice none 0 0] 27));clear hb)
  go_ret2
  exact ⟨rfl,H3.out.below⟩
 | some cn=>
  go_upto_region 4 with (go_at_call 54;refine (HF.out _ HI.out.below).mono ?_;rintro e w3 ⟨⟨v3,rfl,ho3⟩,hb⟩;obtain ⟨va3,vc3,rfl⟩:=ho3.form;have H3:=Lib.hid ((HI.out.next hb).alloc (.cells #[.string s1,.slice va3 cn.length vc3] 27));clear hb ho3 c0 c1 c2 c3 c4 c5)
  generalize w3.alloc (.cells #[.string s1,.slice va3 cn.length vc3] 27)=W3 at *
  have HW3:=Lib.hid H3.out.size
  have hl3:=(H3.out.blk 0 rfl).lt
  obtain ⟨c0,c1,c2,c3,c4,c5⟩:=((H3.out.alloc (.cells #[] 5)).blk 0 rfl).six
  have HM:=Lib.hid (Own.made (R:=byteR) W3 5 NoB)
  go_upto_region 5 with (first
   | (go_at_call 74;refine (HP.out _).mono ?_;rintro e w4 ⟨v4,rfl,ho4,hb4⟩;obtain ⟨qa,qm,qc,w5,hrun,ho5,hb5,hs5⟩:=byt_app HM.out hb4 (ho4.slR (fun _ h=>h.elim) (fun k h=>h)) (fun _ h=>h) (by rw [World.size_alloc];omega) (by simp) (by have:=prefF_len9 p1;omega);have HRUN:=Lib.hid hrun;have HO5:=Lib.hid ho5;have HB5:=Lib.hid (((Below.refl W3.heap.size W3).alloc (Nat.le_refl _) _).trans hb5);clear hrun ho5 hb5 hs5 ho4 hb4 c0 c1 c2 c3 c4 c5)
   | (at_builtin;refine wpList_append_run rfl (.tmp 21) (.tmp 24) 22 rfl rfl rfl HRUN.out ?_))
  have H5:=Lib.hid (H3.out.next HB5.out)
  obtain ⟨c0,c1,c2,c3,c4,c5⟩:=(H5.out.blk 0 rfl).six
  obtain ⟨ra,rm,rc,w6,hrun6,ho6,hb6,_⟩:=byt_app HO5.out ((Below.refl w5.heap.size w5).alloc (Nat.le_refl _) _) (byt_lit w5 [lowB d,ob] #[.int .u8 (d % 256),.int .u8 ob.toNat] 2 rfl (by simp [lowB_is]) (by simp)) (fun _ h=>h) HB5.out.size (by have:=prefF_len9 p1;rw [List.nil_append];omega) (by simp)
  have HRUN6:=Lib.hid hrun6
  have HO6:=Lib.hid ho6
  have HB6:=Lib.hid (HB5.out.trans hb6)
  have H6:=Lib.hid (H3.out.next HB6.out)
  clear hrun6 ho6 hb6 HRUN
  go_wp2_with (at_builtin;refine wpList_append_run rfl (.tmp 29) (.tmp 35) 22 rfl rfl rfl HRUN6.out ?_)
  go_ret2
  exact ⟨⟨_,rfl,by have h9:=Own.base HO6.out HW3.out;rw [List.nil_append] at h9;exact h9⟩,H6.out.below⟩
theorem Bytes11_any (x:EntV) (hok:EntOk x) (hx:EntW x) (d n:Int) (p:Blocks) (v:Value) (w:World) (h:SlR opdR w p v x.args):
  Calls Tryz.prog 36 #[entVal x v,.int .i64 d,.int .i64 n] w (BytP w (bytF x d n)):=by
 have hz:=hok.size
 have ho:((UInt8.ofNat x.op).toNat:Int)=x.op:=by rw [UInt8.toNat_ofNat',Nat.mod_eq_of_lt hx.op]
 have hlen:=hx.len
 have hF:=fun W (hb:RowKit.Below w.heap.size w W)=>Fill10_any x.pg (UInt8.ofNat x.op).toNat d n ⟨x.iop.toArray⟩ ⟨x.ex.toArray⟩ x.al x.args p v W (h.below hb) (by have:=hz.2;omega) (by show x.ex.toArray.size≤_;rw [List.size_toArray];omega)
 rw [show (⟨x.ex.toArray⟩:ByteArray).data.toList=x.ex from rfl] at hF
 obtain ⟨va,vc,rfl⟩:∃a c,v=.slice a x.args.length c:=by obtain ⟨a,c,e,_⟩:=h;exact ⟨a,c,e⟩
 unfold entVal bytF
 rw [←ho]
 by_cases h5:5≤x.pg
 ·have hE:encF x d n=prefF x.pg++[lowB d]++[UInt8.ofNat x.op]:=by unfold encF;rw [if_pos h5]
  rw [hE]
  exact bytes11_high x.pg _ _ va _ vc _ _ d n _ w h5 hF
 ·have hE:encF x d n=prefF x.pg++[UInt8.ofNat x.op]++(⟨x.ex.toArray⟩:ByteArray).data.toList.flatMap (letB d n):=by unfold encF;rw [if_neg h5]
  rw [hE]
  refine bytes11_low x.pg _ _ va _ vc _ _ d n _ w h5 ?_ (fun k hk=>hx.lets _ ?_) hF
  ·show x.ex.toArray.size≤1000;rw [List.size_toArray];omega
  ·have hk3:(⟨x.ex.toArray⟩:ByteArray).size=x.ex.length:=by show x.ex.toArray.size=_;rw [List.size_toArray]
   have hk2:k < x.ex.length:=by omega
   have e:(⟨x.ex.toArray⟩:ByteArray)[k]=x.ex[k]:=by show x.ex.toArray[k]=_;simp
   rw [e];exact List.getElem_mem hk2
end Go.Proofs.YtjmekllgnhkodaaGreatDoor
namespace Go.Proofs.YtjmekllgnhkodaaGreatDoor
set_option maxHeartbeats 16000000
set_option maxRecDepth 100000
open Go.RowKit Go.Shelf Go.Sort
theorem short11_any (p:Blocks) (x:Ins) (v:Value) (w:World) (h:SlR opdR w p v x.args):
  Calls Tryz.prog 26 #[.agg #[.string x.op,v]] w fun e w'=>e=.returned (.bool (short8 x))∧Below w.heap.size w w':=by
 obtain ⟨s,l⟩:=x
 dsimp only at *
 obtain ⟨a,c,rfl,_⟩:=h.opd
 clear h
 have HB:Hid (Below w.heap.size w (w.alloc (.cells #[.string s,.slice a l.length c] 27))):=(Below.refl _ _).alloc (Nat.le_refl _) _
 have HL0:Hid (decide ((s.size:Int)≤100)=false→short8 ⟨s,l⟩=false):=fun h1=>by
  have h1:=of_decide_eq_false h1;simp [short8];omega
 have HL1:Hid (∀b,decide ((s.size:Int)≤100)=true→decide ((l.length:Int)≤20)=b→short8 ⟨s,l⟩=b):=fun b h1 h2=>by
  subst h2;have h1:=of_decide_eq_true h1;simp [short8];rw [decide_eq_true (show s.size≤100 by omega)];simp;omega
 cases h1:decide ((s.size:Int)≤100)
 ·go_enter Tryz.func26,Tryz.ntmps26
  go_wp2
  go_ret
  exact ⟨ret_bool (HL0.out h1).symm,HB.out⟩
 ·cases h2:decide ((l.length:Int)≤20)
  all_goals
   go_enter Tryz.func26,Tryz.ntmps26
   go_wp2
   go_ret
   exact ⟨ret_bool (HL1.out _ h1 h2).symm,HB.out⟩
theorem encR_none {x:Ins} {k:Int} (h:encR x=(none,k)):¬k=0:=by
 unfold encR at h
 cases hR:findR x with
 | mk o j=>
 rw [hR] at h
 cases o with
 | none=>injection h with _ h;subst h;exact findR_none hR
 | some e=>cases h
theorem encR_some {x:Ins} {A:List UInt8} {k:Int} (h:encR x=(some A,k)):k=0:=by
 unfold encR at h
 cases hR:findR x with
 | mk o j=>
 rw [hR] at h
 cases o with
 | none=>cases h
 | some e=>injection h with _ h;rw [←h];exact (back_plain hR).2.1
end Go.Proofs.YtjmekllgnhkodaaGreatDoor
