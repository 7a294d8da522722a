/-
  The next letter of a string, as a run; what is known of every entry. search.Fits, Values. num.Low; the writer of bytes. encode's writer: displacement, number, word. A map of four functions, and the next letter of a string, as runs. encode's writer: bytes. encode.Bytes. encode.Encode. A row of bytes in one cell. Conditions: at most a million operands; numbers in int's range; sizes; the letters of an entry; an entry of the table; a short instruction; the library's table as its initialiser lays it.
-/
import Derived.Test.YtmpmciccgempeaaGreatDoorBC1
import Derived.Test.YtmpmciccgempeaaGreatDoorBE3
namespace Go.Proofs.YtmpmciccgempeaaGreatDoor
open Go.RowKit Go.Shelf Go.Sort
theorem kA {W:World} {B b:Nat} (o:Obj) (hb:B≤b):Below B W (W.putObj b o):=
 ⟨rfl,rfl,rfl,by rw [World.putObj_size];exact Nat.le_refl _,fun k hk=>World.putObj_heap_other (by omega)⟩
theorem Blk.cellAt {w:World} {b:Nat} {t:TypeId} {cs:Array Value} (h:Blk w b t cs) {i:Nat} {v:Value} (hv:cs[i]?=some v):w.cell? ⟨b,i,none⟩=some v:=by
 exact (h.cell i).trans hv
set_option maxHeartbeats 4000000
set_option maxRecDepth 100000
theorem BS (pg op:Int) (s ex:ByteArray) (al:Bool) (l:List Opd) (x:Ins) (p q:aB) (v u:Value) (w:World) (h:SlR aM w p v l) (g:SlR aM w q u x.args) (hT:Spc w) (hl:l.length≤1000000) (hm:x.args.length≤1000000) (hc:(aE x).args.length≤1000000) (hf:∀y∈x.args,cN y.n) (hs:s.size≤9223372036854775807) (ht:x.op.size≤9223372036854775807):
  Calls Tryz.prog 79 #[.agg #[.int .i64 pg,.int .u8 op,.string s,v,.string ex,.bool al],.agg #[.string x.op,u]] w fun e w'=>e=.returned (.tuple #[.int .i64 (fQ s x.op ex.data.toList l (aE x).args).1,.int .i64 (fQ s x.op ex.data.toList l (aE x).args).2.1])∧Below w.heap.size w w':=by
 have HOf:=aA (fun W (hb:RowKit.Below w.heap.size w W)=>EB q x u W (g.below hb) (hT.below hb) hm hf)
 have HFT:=aA (fun p2 u2 W (hb:RowKit.Below w.heap.size w W) h2=>wM pg op s ex x.op al l (aE x).args p p2 v u2 W (h.below hb) h2 hl hc hs ht)
 obtain ⟨va,vc,rfl⟩:∃a c,v=.slice a l.length c:=by obtain ⟨a,c,e,_⟩:=h;exact ⟨a,c,e⟩
 obtain ⟨ua,uc,rfl⟩:∃a c,u=.slice a x.args.length c:=by obtain ⟨a,c,e,_⟩:=g;exact ⟨a,c,e⟩
 obtain ⟨t,m⟩:=x
 dsimp only at *
 have HF:=aA (((Fr.start w).new 107 #[.int .i64 pg,.int .u8 op,.string s,.slice va l.length vc,.string ex,.bool al]).new' 24 #[.string t,.slice ua m.length uc] (World.size_alloc _ _))
 clear h g hl hm hc hf hs ht hT
 generalize (aE ⟨t,m⟩).args=cn at *
 generalize fQ s t ex.data.toList l cn=R at *
 obtain ⟨W0,hW0⟩:∃W0:World,W0=((w.alloc (.cells #[.int .i64 pg,.int .u8 op,.string s,.slice va l.length vc,.string ex,.bool al] 107)).alloc (.cells #[.string t,.slice ua m.length uc] 24)):=⟨_,rfl⟩
 rw [←hW0] at HF
 go_enter Tryz.func79,Tryz.ntmps79
 go_upto_region 1 with fail
 rw [←hW0]
 clear hW0
 have e0:=(HF.out.blk 1 rfl).cell 0
 have e1:=(HF.out.blk 1 rfl).cell 1
 have e2:=(HF.out.blk 1 rfl).cell 2
 have e3:=(HF.out.blk 1 rfl).cell 3
 have e4:=(HF.out.blk 1 rfl).cell 4
 have e5:=(HF.out.blk 1 rfl).cell 5
 have c0:=(HF.out.blk 0 rfl).cell 0
 have c1:=(HF.out.blk 0 rfl).cell 1
 have HD:=aA HF.out.drew
 go_region_held3 (fun w'=>w'.cell? ⟨w.heap.size,0,none⟩=some (.int .i64 pg)∧w'.cell? ⟨w.heap.size,1,none⟩=some (.int .u8 op)∧w'.cell? ⟨w.heap.size,2,none⟩=some (.string s)∧w'.cell? ⟨w.heap.size,3,none⟩=some (.slice va l.length vc)∧w'.cell? ⟨w.heap.size,4,none⟩=some (.string ex)∧w'.cell? ⟨w.heap.size,5,none⟩=some (.bool al)∧w'.cell? ⟨w.heap.size+1,0,none⟩=some (.string t)∧w'.cell? ⟨w.heap.size+1,1,none⟩=some (.slice ua m.length uc)) (go_keep)
  (first
   | (go_at_call 97;refine (HOf.out _ HD.out.below).mono ?_;rintro e w1 ⟨u1,rfl,ho1,hb1⟩;have HO1:=aA ho1.slR;have HF1:=aA (HD.out.next hb1);have e0:=(HF1.out.blk 1 rfl).cell 0;have e1:=(HF1.out.blk 1 rfl).cell 1;have e2:=(HF1.out.blk 1 rfl).cell 2;have e3:=(HF1.out.blk 1 rfl).cell 3;have e4:=(HF1.out.blk 1 rfl).cell 4;have e5:=(HF1.out.blk 1 rfl).cell 5;have c0:=(HF1.out.blk 0 rfl).cell 0;have c1:=(HF1.out.blk 0 rfl).cell 1;clear ho1 hb1)
   | (go_at_call 142;refine (HFT.out _ _ _ HF1.out.below HO1.out).mono ?_;rintro e w2 ⟨rfl,hb2⟩;have HF2:=aA (HF1.out.next hb2);have e0:=(HF2.out.blk 1 rfl).cell 0;have e1:=(HF2.out.blk 1 rfl).cell 1;have e2:=(HF2.out.blk 1 rfl).cell 2;have e3:=(HF2.out.blk 1 rfl).cell 3;have e4:=(HF2.out.blk 1 rfl).cell 4;have e5:=(HF2.out.blk 1 rfl).cell 5;have c0:=(HF2.out.blk 0 rfl).cell 0;have c1:=(HF2.out.blk 0 rfl).cell 1;clear hb2))
 go_wp2
 go_ret2
 exact ⟨rfl,HF2.out.below⟩
end Go.Proofs.YtmpmciccgempeaaGreatDoor
namespace Go.Proofs.YtmpmciccgempeaaGreatDoor
set_option maxHeartbeats 1000000
set_option maxRecDepth 100000
open Go.RowKit
def eW (n:Int):UInt8:=UInt8.ofNat (n % 256).toNat
theorem mP (n:Int):((eW n).toNat:Int)=n % 256:=by
 unfold eW
 rw [UInt8.toNat_ofNat']
 omega
theorem XF (n:Int):(#[Value.int .u8 (n % 256)]:Array Value)=[Value.int .u8 ((eW n).toNat:Int)].toArray:=by rw [mP]
theorem UK {l:List Int} {xs:List UInt8} {k:Nat} {c:Int} (hx:xs=(l.take k).map eW) (HT:l.take (k+1)=l.take k++[c]):xs++[eW c]=(l.take (k+1)).map eW:=by
 rw [HT,List.map_append,List.map_singleton,hx]
theorem yY (p:aB) (v:Value) (l:List Int) (w:World) (h:SlR oO w p v l) (hn:l.length≤1000000):
  Calls Tryz.prog 245 #[v] w fun e w'=>∃v',e=.returned v'∧Own aI w' w.heap.size 5 NoB v' (l.map eW)∧Below w.heap.size w w':=by
 obtain ⟨a,c,rfl,_⟩:=h.int
 have HSL:=aA h
 clear h
 go_enter Tryz.func245,Tryz.ntmps245
 go_wp2
 go_loopw [3,8] (fun v i wr=>∃k:Nat,k≤l.length∧i=.int .i64 k∧Own aI wr w.heap.size 5 NoB v ((l.take k).map eW)∧Below w.heap.size w wr) (fun _ i _=>l.length - (intOf i).toNat)
 case atStart=>exact ⟨0,Nat.zero_le _,rfl,Own.nil _ _ _ _ _,Below.refl _ _⟩
 case round=>
  obtain ⟨k,hk,rfl,ho,hb⟩:=hrel
  by_cases hlt:k < l.length
  ·have HT:Hid (l.take (k+1)=l.take k++[l[k]]):=List.take_succ_eq_append_getElem hlt
   obtain ⟨ad,cd,hv,_,_,g⟩:=(HSL.out.below hb).int
   obtain ⟨rfl,_,rfl⟩:a=ad∧l.length=l.length∧c=cd:=by injection hv with h1 h2 h3;exact ⟨h1,h2,h3⟩
   obtain ⟨b1,o1,rfl,_,hc⟩:=g k l[k] (List.getElem?_eq_getElem hlt)
   clear g hv
   have hlm:((l.take k).map eW).length=k:=by simp;omega
   generalize hx:(l.take k).map eW=xs at *
   have HX:=aA (UK hx.symm HT.out)
   have HLM:=aA hlm
   have HO:=aA ho
   have HB:=aA hb
   have HN:=aA hn
   obtain ⟨oa,oc,rfl⟩:=ho.form
   clear hx hlm ho HT
   generalize l[k]=y at *
   have HC1:Hid ((xs.length+1) * 1≤140737488355328):=by have:=HLM.out;show _≤_;have:=HN.out;omega
   have HC2:Hid (xs.length+1≤9223372036854775807):=by have:=HLM.out;show _≤_;have:=HN.out;omega
   have HC:=aA (XF y)
   go_wp2_with (at_builtin;refine cK rfl (.tmp 12) (.tmp 15) 32 rfl w.heap.size 5 1 mH _ xs (eW y) _ rfl rfl HO.out HC.out HC1.out HC2.out HB.out.size ?_;intro a' c' w' hp;have HP:=aA hp;clear hp)
   go_roundw
   case rel=>exact ⟨k+1,by omega,by go_num,by rw [←HX.out];exact HP.out.1,HB.out.grown HP.out.2 HB.out.size (fun j hj=>(HO.out.lt j hj).1)⟩
   case measure=>simp [intOf];omega
  ·have hk':k=l.length:=by omega
   subst hk'
   rw [List.take_length] at ho
   have HO:=aA ho
   have HB:=aA hb
   clear ho hb
   go_wp2
   go_ret
   exact ⟨_,rfl,HO.out,HB.out⟩
end Go.Proofs.YtmpmciccgempeaaGreatDoor
namespace Go.Proofs.YtmpmciccgempeaaGreatDoor
set_option maxHeartbeats 4000000
set_option maxRecDepth 100000
open Go.RowKit Go.Shelf Go.Sort
def kN (p1 o1:Int) (s1:ByteArray) (a:Option Addr) (m c:Nat) (s2:ByteArray) (f:Bool) (d n:Int) (vo:Value):Array Value:=#[.int .i64 p1,.int .u8 o1,.string s1,.slice a m c,.string s2,.bool f,.int .i64 d,.int .i64 n,vo]
structure Wtr (B g:Nat) (E:Value→Array Value) (vo:Value) (L:List UInt8) (w:World):Prop where
 blk:Blk w g 190 (E vo)
 own:Own aI w B 5 NoB vo L
 lt:g < B
 sz:B≤w.heap.size
def Kq (w w':World):Prop:=∀(k:Nat) (o:Obj),w.heap[k]?=some o→o.isCells=false→w'.heap[k]?=some o
theorem Kq.trans {a b c:World} (h:Kq a b) (k:Kq b c):Kq a c:=fun i o ho hc=>k i o (h i o ho hc) hc
theorem Kq.below {w w':World} (h:Below w.heap.size w w'):Kq w w':=fun k _ ho _=>(h.block k (Array.getElem?_eq_some_iff.1 ho).1).trans ho
theorem Kq.setCell {w:World} {b:Nat} {t:TypeId} {cs:Array Value} (h:Blk w b t cs) (j:Nat) (v:Value):Kq w (w.setCell ⟨b,j,none⟩ v):=fun k o ho hc=>by
 by_cases e:k=b
 ·subst e
  have h2:some o=some (Obj.cells cs t (0,0)):=ho.symm.trans h
  obtain rfl:=Option.some.inj h2
  cases hc
 ·exact (Below.heap_setCell w ⟨b,j,none⟩ v k e).trans ho
theorem Own.isCells {α:Type} {R:Rep α} {w:World} {B:Nat} {e:TypeId} {p:aB} {v:Value} {xs:List α} (h:Own R w B e p v xs):∀k,v.ownBlock=some k→∃o,w.heap[k]?=some o∧o.isCells=true:=by
 obtain ⟨cs,hrow,hels⟩:=h
 intro k hk
 rcases hrow.2 with ⟨rfl,hn⟩ | ⟨g,cap,cur,rfl,hb,hg,_⟩
 ·cases hk
 ·obtain rfl:g=k:=by simpa [Value.ownBlock] using hk
  exact ⟨_,hg,rfl⟩
theorem Kq.grown {w w':World} {row:Option Nat} (hg:w.grownBy w' row) (hr:∀k,row=some k→∃o,w.heap[k]?=some o∧o.isCells=true):Kq w w':=fun k o ho hc=>by
 refine (hg.block k (Array.getElem?_eq_some_iff.1 ho).1 (fun e=>?_)).trans ho
 obtain ⟨o2,h1,h2⟩:=hr k e.symm
 have:=Option.some.inj (ho.symm.trans h1)
 subst this
 rw [hc] at h2;cases h2
theorem Wtr.app {B g:Nat} {E:Value→Array Value} {vo v2:Value} {L M:List UInt8} {w W1 w2:World} (h:Wtr B g E vo L w) (hE:∀u v,(E u).setIfInBounds 8 v=E v) (hE8:∀u,(E u)[8]?=some u) (hb1:Below w.heap.size w W1) (hx:SlR aI w2 (fun k=>w.heap.size≤k) v2 M) (hb2:Below W1.heap.size W1 w2) (hL:L.length≤1000000) (hM:M.length≤1000000):
  ∃qa qm qc w3,(Builtin.append_ #[32,32] 32 #[vo,v2]).run Tryz.prog w2=.ok (.slice qa qm qc) w3∧w2.cell? ⟨g,8,none⟩=some vo∧w3.cell? ⟨g,8,none⟩=some vo∧w3.frozen? ⟨g,8,none⟩=false∧
   Wtr B g E (.slice qa qm qc) (L++M) (w3.setCell ⟨g,8,none⟩ (.slice qa qm qc))∧Below g w (w3.setCell ⟨g,8,none⟩ (.slice qa qm qc))∧Kq w (w3.setCell ⟨g,8,none⟩ (.slice qa qm qc)):=by
 have hb:=hb1.trans (hb2.mono hb1.size)
 have hK:=h.blk.below hb h.blk.lt
 have hO:=h.own.stay hb
 have hs1:=hb1.size
 have hs2:=hb2.size
 have hsz:=h.sz
 have hlt:=h.lt
 obtain ⟨v3,w3,hrun,ho3,hg3,hv3⟩:=fD (P:=Tryz.prog) (R:=aI) (w:=w2) B 32 32 5 1 mH (p:=NoB) (q:=fun k=>w.heap.size≤k) hO hx (fun _ hk=>hk.elim) (fun k hk e=>by have:=(h.own.lt k e.symm).2;omega) (by omega) (by omega) (by omega)
 have hK3:Blk w3 g _ (E vo):=hK.grown hg3 (fun e=>by have:=(h.own.lt g e.symm).1;omega)
 obtain ⟨qa,qc,rfl⟩:=(ho3.flat NoB).form
 refine ⟨qa,_,qc,w3,hrun,?_,?_,hK3.free 8,⟨?_,?_,hlt,?_⟩,?_,?_⟩
 ·exact hK.cellAt (hE8 vo)
 ·exact hK3.cellAt (hE8 vo)
 ·have:=hK3.set 8 (.slice qa (L++M).length qc);rw [hE] at this;exact this
 ·exact Own.keep (ho3.flat NoB) (aS.setCell (fun k hk=>by rcases hk with hk | hk;exact hk.elim;have:=((ho3.flat NoB).lt k hk).1;show k≠g;omega) _)
 ·rw [World.size_setCell];have:=hg3.size;omega
 ·exact ((hb.mono (Nat.le_of_lt h.blk.lt)).grown hg3 (by have:=h.blk.lt;omega) (fun k e=>by have:=(h.own.lt k e).1;omega)).setCell (p:=⟨g,8,none⟩) (Nat.le_refl _) _
 ·exact ((Kq.below hb).trans (Kq.grown hg3 hO.isCells)).trans (Kq.setCell hK3 _ _)
theorem BB (B g:Nat) (p1 o1:Int) (s1:ByteArray) (a:Option Addr) (m c:Nat) (s2:ByteArray) (f:Bool) (d n:Int) (vo:Value) (L:List UInt8) (w:World) (h:Wtr B g (kN p1 o1 s1 a m c s2 f d n) vo L w) (hL:L.length≤1000000):
  Calls Tryz.prog 202 #[.pointer (some ⟨g,0,none⟩)] w fun e w'=>e=.returned (.tuple #[])∧(∃vo',Wtr B g (kN p1 o1 s1 a m c s2 f d n) vo' (L++[eW d]) w')∧Below g w w'∧Kq w w':=by
 have H:=aA h
 have hb:=h.blk
 unfold kN at hb
 obtain ⟨oa,oc,rfl⟩:=h.own.form
 have HL:=aA hL
 have e6:=hb.cell 6
 have e7:=hb.cell 7
 have e8:=hb.cell 8
 have HK:=aA (fun W (h1:RowKit.Below w.heap.size w W)=>(hb.below h1 hb.lt).cell 8)
 have x8:=(hb.alloc (.cells #[.int .i64 d] 3)).cell 8
 clear hb hL h
 go_enter Tryz.func202,Tryz.ntmps202
 go_region_law ((first
  | (refine cZ (by rfl) (.tmp 6) (.tmp 12) 32 (by rfl) _ _ _ (by rfl) (by rfl) HRUN.out ?_)
  | (go_simp;go_at_call 245;refine (yY (fun _=>True) _ [d] _ ((fS w _ (fun _=>True) [d] #[.int .i64 d] 1 rfl rfl (by simp) (fun _ _=>trivial)).below (Below.refl _ _).drew) (by simp)).mono ?_;rintro e w2 ⟨v2,rfl,ho2,hb2⟩;obtain ⟨qa,qm,qc,w3,hrun,c8,r8,z8,hw,hb3,hq3⟩:=H.out.app (fun _ _=>rfl) (fun _=>rfl) ((Below.refl _ _).alloc (Nat.le_refl _) _).drew (ho2.slR (fun _ h=>h.elim) (fun k hk=>Nat.le_trans (((Below.refl w.heap.size w).alloc (Nat.le_refl _) _).drew).size hk)) hb2 HL.out (by simp);have HRUN:=aA hrun;have HW:=aA hw;have HB3:=aA hb3;have HQ3:=aA hq3;clear hrun hw hb3 hq3 ho2 hb2 e6 e7 e8)))
 all_goals go_wp2
 all_goals
  go_end0
  exact ⟨rfl,⟨_,HW.out⟩,HB3.out,HQ3.out⟩
theorem CE (B g:Nat) (p1 o1:Int) (s1:ByteArray) (a:Option Addr) (m c:Nat) (s2:ByteArray) (f:Bool) (d n:Int) (vo:Value) (L:List UInt8) (w:World) (h:Wtr B g (kN p1 o1 s1 a m c s2 f d n) vo L w) (hL:L.length≤1000000):
  Calls Tryz.prog 204 #[.pointer (some ⟨g,0,none⟩)] w fun e w'=>e=.returned (.tuple #[])∧(∃vo',Wtr B g (kN p1 o1 s1 a m c s2 f d n) vo' (L++[eW n]) w')∧Below g w w'∧Kq w w':=by
 have H:=aA h
 have hb:=h.blk
 unfold kN at hb
 obtain ⟨oa,oc,rfl⟩:=h.own.form
 have HL:=aA hL
 have e6:=hb.cell 6
 have e7:=hb.cell 7
 have e8:=hb.cell 8
 have HK:=aA (fun W (h1:RowKit.Below w.heap.size w W)=>(hb.below h1 hb.lt).cell 8)
 have x8:=(hb.alloc (.cells #[.int .i64 n] 3)).cell 8
 clear hb hL h
 go_enter Tryz.func204,Tryz.ntmps204
 go_region_law ((first
  | (refine cZ (by rfl) (.tmp 6) (.tmp 12) 32 (by rfl) _ _ _ (by rfl) (by rfl) HRUN.out ?_)
  | (go_simp;go_at_call 245;refine (yY (fun _=>True) _ [n] _ ((fS w _ (fun _=>True) [n] #[.int .i64 n] 1 rfl rfl (by simp) (fun _ _=>trivial)).below (Below.refl _ _).drew) (by simp)).mono ?_;rintro e w2 ⟨v2,rfl,ho2,hb2⟩;obtain ⟨qa,qm,qc,w3,hrun,c8,r8,z8,hw,hb3,hq3⟩:=H.out.app (fun _ _=>rfl) (fun _=>rfl) ((Below.refl _ _).alloc (Nat.le_refl _) _).drew (ho2.slR (fun _ h=>h.elim) (fun k hk=>Nat.le_trans (((Below.refl w.heap.size w).alloc (Nat.le_refl _) _).drew).size hk)) hb2 HL.out (by simp);have HRUN:=aA hrun;have HW:=aA hw;have HB3:=aA hb3;have HQ3:=aA hq3;clear hrun hw hb3 hq3 ho2 hb2 e6 e7 e8)))
 all_goals go_wp2
 all_goals
  go_end0
  exact ⟨rfl,⟨_,HW.out⟩,HB3.out,HQ3.out⟩
theorem NC (B g:Nat) (p1 o1:Int) (s1:ByteArray) (a:Option Addr) (m c:Nat) (s2:ByteArray) (f:Bool) (d n:Int) (vo:Value) (L:List UInt8) (w:World) (h:Wtr B g (kN p1 o1 s1 a m c s2 f d n) vo L w) (hL:L.length≤1000000):
  Calls Tryz.prog 205 #[.pointer (some ⟨g,0,none⟩)] w fun e w'=>e=.returned (.tuple #[])∧(∃vo',Wtr B g (kN p1 o1 s1 a m c s2 f d n) vo' (L++[eW n,eW (n / 256)]) w')∧Below g w w'∧Kq w w':=by
 have H:=aA h
 have hb:=h.blk
 unfold kN at hb
 obtain ⟨oa,oc,rfl⟩:=h.own.form
 have HL:=aA hL
 have e7:=hb.cell 7
 have e8:=hb.cell 8
 have x8:=(hb.alloc (.cells #[.int .i64 n,.int .i64 (n / 256)] 3)).cell 8
 clear hb hL h
 go_enter Tryz.func205,Tryz.ntmps205
 go_region_law ((first
  | (refine cZ (by rfl) (.tmp 6) (.tmp 17) 32 (by rfl) _ _ _ (by rfl) (by rfl) HRUN.out ?_)
  | (go_simp;go_at_call 245;refine (yY (fun _=>True) _ [n,n / 256] _ ((fS w _ (fun _=>True) [n,n / 256] #[.int .i64 n,.int .i64 (n / 256)] 2 rfl rfl (by simp) (fun _ _=>trivial)).below (Below.refl _ _).drew) (by simp)).mono ?_;rintro e w2 ⟨v2,rfl,ho2,hb2⟩;obtain ⟨qa,qm,qc,w3,hrun,c8,r8,z8,hw,hb3,hq3⟩:=H.out.app (fun _ _=>rfl) (fun _=>rfl) ((Below.refl _ _).alloc (Nat.le_refl _) _).drew (ho2.slR (fun _ h=>h.elim) (fun k hk=>Nat.le_trans (((Below.refl w.heap.size w).alloc (Nat.le_refl _) _).drew).size hk)) hb2 HL.out (by simp);have HRUN:=aA hrun;have HW:=aA hw;have HB3:=aA hb3;have HQ3:=aA hq3;clear hrun hw hb3 hq3 ho2 hb2 e7 e8)))
 all_goals go_wp2
 all_goals
  go_end0
  exact ⟨rfl,⟨_,HW.out⟩,HB3.out,HQ3.out⟩
abbrev tM:TypeId:=253
theorem GM:Tryz.prog.underlying tM=some (.map 21 1):=by kernel_rfl
theorem oZ:Tryz.prog.underlying 21=some (.int .i32):=by kernel_rfl
theorem mO {W:World} {mb:Nat} {es:Array MapEntry} {n:Nat} (k:Int) (v:Value) (h:W.heap[mb]?=some (.map es n)) (hk:Instr.findNow (.int .i32) (.int .i32 k) es.toList 0=some none):
  (Instr.mapUpdate tM (.map (some mb)) (.int .i32 k) v).run Tryz.prog W=.ok () (W.putObj mb (.map (es.push ⟨.int .i32 k,v,n⟩) (n+1))):=by
 have hc:=fun e=>MapKept.run_checkKey (w:=W) oZ (k:=.int .i32 k) (by trivial) e 9999
 simp [Instr.mapUpdate,run_underlying GM,run_underlying oZ,MapKept.run_getObj_map h,hc,Instr.findKey,hk,MapKept.run_setObj_map _ h,Result.andThen,World.putObj]
theorem oM {W:World} {mb:Nat} {es:Array MapEntry} {n i:Nat} (k:Int) (v:Value) (h:W.heap[mb]?=some (.map es n)) (hk:Instr.findNow (.int .i32) (.int .i32 k) es.toList 0=some (some (i,v))):
  (Instr.lookup tM (.map (some mb)) (.int .i32 k) false).run Tryz.prog W=.ok v W:=by
 have hc:=fun e=>MapKept.run_checkKey (w:=W) oZ (k:=.int .i32 k) (by trivial) e 9999
 simp [Instr.lookup,run_underlying GM,run_underlying oZ,MapKept.run_getObj_map h,hc,Instr.findKey,hk,Result.andThen]
def ZX (f1 f2 f3 f4:Value):Array MapEntry:=#[⟨.int .i32 100,f1,0⟩,⟨.int .i32 101,f2,1⟩,⟨.int .i32 110,f3,2⟩,⟨.int .i32 119,f4,3⟩]
theorem map4 (W:World) (f1 f2 f3 f4:Value):∃W1 W2 W3 W4 W5:World,(Instr.makeMap tM none).run Tryz.prog W=.ok (.map (some W.heap.size)) W1∧(Instr.mapUpdate tM (.map (some W.heap.size)) (.int .i32 100) f1).run Tryz.prog W1=.ok () W2∧(Instr.mapUpdate tM (.map (some W.heap.size)) (.int .i32 101) f2).run Tryz.prog W2=.ok () W3∧
  (Instr.mapUpdate tM (.map (some W.heap.size)) (.int .i32 110) f3).run Tryz.prog W3=.ok () W4∧(Instr.mapUpdate tM (.map (some W.heap.size)) (.int .i32 119) f4).run Tryz.prog W4=.ok () W5∧W5.heap[W.heap.size]?=some (.map (ZX f1 f2 f3 f4) 4)∧Below W.heap.size W W5:=by
 have h1:(W.alloc (.map #[] 0)).heap[W.heap.size]?=some (.map #[] 0):=World.alloc_heap_new W _
 have b1:Below W.heap.size W (W.alloc (.map #[] 0)):=(Below.refl _ _).alloc (Nat.le_refl _) _
 have l1:W.heap.size < (W.alloc (.map #[] 0)).heap.size:=by rw [World.size_alloc];omega
 have h2:=World.putObj_heap_same (w:=W.alloc (.map #[] 0)) (r:=W.heap.size) (o:=.map #[⟨.int .i32 100,f1,0⟩] 1) l1
 have h3:=World.putObj_heap_same (w:=(W.alloc (.map #[] 0)).putObj W.heap.size (.map #[⟨.int .i32 100,f1,0⟩] 1)) (r:=W.heap.size) (o:=.map #[⟨.int .i32 100,f1,0⟩,⟨.int .i32 101,f2,1⟩] 2) (by simp)
 have h4:=World.putObj_heap_same (w:=((W.alloc (.map #[] 0)).putObj W.heap.size (.map #[⟨.int .i32 100,f1,0⟩] 1)).putObj W.heap.size (.map #[⟨.int .i32 100,f1,0⟩,⟨.int .i32 101,f2,1⟩] 2)) (r:=W.heap.size) (o:=.map #[⟨.int .i32 100,f1,0⟩,⟨.int .i32 101,f2,1⟩,⟨.int .i32 110,f3,2⟩] 3) (by simp)
 have h5:=World.putObj_heap_same (w:=(((W.alloc (.map #[] 0)).putObj W.heap.size (.map #[⟨.int .i32 100,f1,0⟩] 1)).putObj W.heap.size (.map #[⟨.int .i32 100,f1,0⟩,⟨.int .i32 101,f2,1⟩] 2)).putObj W.heap.size (.map #[⟨.int .i32 100,f1,0⟩,⟨.int .i32 101,f2,1⟩,⟨.int .i32 110,f3,2⟩] 3)) (r:=W.heap.size) (o:=.map (ZX f1 f2 f3 f4) 4) (by simp)
 exact ⟨_,_,_,_,_,rfl,mO 100 f1 h1 rfl,mO 101 f2 h2 rfl,mO 110 f3 h3 rfl,mO 119 f4 h4 rfl,h5,(((b1.trans (kA _ (Nat.le_refl _))).trans (kA _ (Nat.le_refl _))).trans (kA _ (Nat.le_refl _))).trans (kA _ (Nat.le_refl _))⟩
set_option maxHeartbeats 16000000
def jN (d n:Int) (b:UInt8):List UInt8:=if b=100 then [eW d] else if b=119 then [eW n,eW (n / 256)] else [eW n]
theorem UO (d n:Int) (b:UInt8):(jN d n b).length≤2:=by
 unfold jN
 split
 ·simp
 ·split<;>simp
theorem oT (d n:Int):∀l:List UInt8,(l.flatMap (jN d n)).length≤2 * l.length
 | []=>by simp
 | b::l=>by
  have:=UO d n b
  have:=oT d n l
  rw [List.flatMap_cons,List.length_append,List.length_cons];omega
theorem jU {α:Type} (f:UInt8→List α) (s:ByteArray) (k:Nat) (h:k < s.size):(s.data.toList.take (k+1)).flatMap f=(s.data.toList.take k).flatMap f++f s[k]:=by
 have h2:k < s.data.toList.length:=by simpa using h
 rw [List.take_succ_eq_append_getElem h2,List.flatMap_append]
 simp
 rfl
theorem Wtr.next {B g:Nat} {E:Value→Array Value} {vo:Value} {L:List UInt8} {w w':World} (h:Wtr B g E vo L w) (hb:Below w.heap.size w w'):Wtr B g E vo L w':=
 ⟨h.blk.below hb h.blk.lt,h.own.stay hb,h.lt,Nat.le_trans h.sz hb.size⟩
theorem Wtr.put {B g b:Nat} {E:Value→Array Value} {vo:Value} {L:List UInt8} {w:World} {o o':Obj} (h:Wtr B g E vo L w) (hb:w.heap[b]?=some o) (ho:o.isCells=false):Wtr B g E vo L (w.putObj b o'):=by
 have hbg:b≠g:=fun e=>by
  subst e
  have h2:=Option.some.inj (hb.symm.trans h.blk)
  subst h2
  cases ho
 have hbo:∀k,vo.ownBlock=some k→k≠b:=fun k hk e=>by
  subst e
  obtain ⟨o2,h1,h2⟩:=h.own.isCells k hk
  have:=Option.some.inj (hb.symm.trans h1)
  subst this
  rw [ho] at h2;cases h2
 refine ⟨?_,?_,h.lt,by rw [World.putObj_size];exact h.sz⟩
 ·exact (World.putObj_heap_other (fun e=>hbg e.symm)).trans h.blk
 ·exact h.own.keep (aS.grown (cU o') (fun k hk=>by
   rcases hk with hk | hk
   ·exact hk.elim
   ·exact ⟨(h.own.lt k hk).2,fun e=>hbo k hk (Option.some.inj e)⟩))
theorem vB (g:Nat) (p1:Int) (ob:UInt8) (s1:ByteArray) (a:Option Addr) (m c:Nat) (s2:ByteArray) (f:Bool) (d n:Int) (w:World) (h:Blk w g 190 (kN p1 ob.toNat s1 a m c s2 f d n (.slice none 0 0))) (rest:ByteArray) (L0:List UInt8) (hhi:5≤p1→rest=⟨(Lib.trimPrefix s2.data.toList [100]).toArray⟩∧L0=aR p1++[eW d]) (hlo:p1 < 5→rest=s2∧L0=aR p1) (hs:rest.size≤1000) (hL0:L0.length≤1000) (hl:∀k (h:k < rest.size),rN rest[k]):
  Calls Tryz.prog 144 #[.pointer (some ⟨g,0,none⟩)] w fun e w'=>∃v,e=.returned v∧Own aI w' w.heap.size 5 NoB v (L0++[ob]++rest.data.toList.flatMap (jN d n))∧Below g w w':=by
 have HP:=aA (fun W=>pS p1 W)
 have HK:=aA h
 unfold kN at HK
 have e0:=HK.out.cell 0
 have e4:=HK.out.cell 4
 have z8:=HK.out.free 8
 have e8:=HK.out.cell 8
 have hlt:=h.lt
 clear h
 have HLT:=aA hl
 have HSZ:=aA hs
 have HL0:=aA hL0
 clear hl hs hL0
 go_enter Tryz.func144,Tryz.ntmps144
 go_upto_region 2 with (go_at_call 171;refine (HP.out _).mono ?_;rintro e w1 ⟨v1,rfl,ho,hb⟩;obtain ⟨oa,oc,rfl⟩:=ho.form;have HO1:=aA ho;have HK1:=aA (HK.out.below hb HK.out.lt);have HB1:=aA hb;clear ho hb e0 e4 z8 e8;have e8:=HK1.out.cell 8;have z8:=HK1.out.free 8)
 have HW2:Hid (Wtr w.heap.size g (kN p1 ob.toNat s1 a m c s2 f d n) (.slice oa (aR p1).length oc) (aR p1) (w1.setCell ⟨g,8,none⟩ (.slice oa (aR p1).length oc))):=aA ⟨HK1.out.set 8 _,Own.keep HO1.out (aS.setCell (fun k hk=>by rcases hk with hk | hk;exact hk.elim;have:=(HO1.out.lt k hk).1;show k≠g;omega) _),hlt,by rw [World.size_setCell];exact HB1.out.size⟩
 have HB2:Hid (RowKit.Below g w (w1.setCell ⟨g,8,none⟩ (.slice oa (aR p1).length oc))):=aA ((HB1.out.mono (Nat.le_of_lt hlt)).setCell (p:=⟨g,8,none⟩) (Nat.le_refl _) _)
 generalize (aR p1).length=pl at *
 generalize w1.setCell ⟨g,8,none⟩ (.slice oa pl oc)=W2 at *
 clear HK1 HB1 HO1 e8 z8 HK HP
 have HK2:=aA HW2.out.blk
 unfold kN at HK2
 have e0:=HK2.out.cell 0
 have e1:=HK2.out.cell 1
 have e4:=HK2.out.cell 4
 have e8:=HK2.out.cell 8
 go_upto_region 3 with fail
 iterate 22 (first | go_values | go_skip | go_guarded | go_step | go_upon | go_back)
 go_cut [3] (fun s3 wx=>s3=.string rest∧∃vo,Wtr w.heap.size g (kN p1 ob.toNat s1 a m c s2 f d n) vo L0 wx∧Below g w wx)
 case first=>
  by_cases h5:5≤p1
  ·obtain ⟨rfl,rfl⟩:=hhi h5
   go_wp2_with (first
    | (go_at_call 202;refine (BB _ g p1 ob.toNat s1 a m c s2 f d n _ _ _ HW2.out (by have:=cW p1;omega)).mono ?_;rintro e w3 ⟨rfl,⟨vo3,hw3⟩,hb3,_⟩;have HW3:=aA hw3;have HB3:=aA (HB2.out.trans hb3);clear hw3 hb3)
    | (go_at_call 203;refine (Tryz.strings_TrimPrefix _ _ _).mono ?_;rintro e w4 ⟨rfl,rfl⟩))
   go_meet
   case rel=>exact ⟨rfl,_,HW3.out,HB3.out⟩
  ·obtain ⟨rfl,rfl⟩:=hlo (by omega)
   go_wp2
   go_meet
   case rel=>exact ⟨rfl,_,HW2.out,HB2.out⟩
 case rest=>
  obtain ⟨rfl,vo2,hw2,hb2⟩:=hcut
  clear HW2 HB2 HK2 e0 e1 e4 e8
  have HW2:=aA hw2
  have HB2:=aA hb2
  clear hw2 hb2 hhi hlo
  have HK2:=aA HW2.out.blk
  unfold kN at HK2
  have e1:=HK2.out.cell 1
  have e8:=HK2.out.cell 8
  obtain ⟨oa,pl,oc,rfl⟩:∃a n c,vo2=.slice a n c:=by obtain ⟨qa,qc,e⟩:=HW2.out.own.form;exact ⟨_,_,_,e⟩
  go_upto_region 6 with fail
  go_cut [3] (fun s3 wx=>s3=.string rest∧∃vo,Wtr w.heap.size g (kN p1 ob.toNat s1 a m c s2 f d n) vo (L0++[ob]) wx∧Below g w wx)
  case first=>
   have x8:=(HK2.out.alloc (.cells #[.int .u8 ob.toNat] 5)).cell 8
   obtain ⟨qa,qm,qc,W3,hrun,c8,r8,z8,hw,hb3,hq3⟩:=HW2.out.app (fun _ _=>rfl) (fun _=>rfl) ((Below.refl _ _).alloc (Nat.le_refl _) (.cells #[.int .u8 ob.toNat] 5)).drew (SlR.below (fS wc 5 (fun k=>wc.heap.size≤k) [ob] #[.int .u8 ob.toNat] 1 rfl rfl (by simp) (fun _ h=>h)) (Below.refl _ _).drew) (Below.refl _ _) (by have:=HL0.out;omega) (by simp)
   have HRUN:=aA hrun
   have HW3:=aA hw
   have HB3:=aA (HB2.out.trans hb3)
   clear hrun hw hb3 hq3
   go_region_law ((refine cZ (by rfl) (.tmp 35) (.tmp 41) 32 (by rfl) _ _ _ (by rfl) (by rfl) HRUN.out ?_))
   all_goals
    go_wp2_with fail
    go_meet
    case rel=>exact ⟨rfl,_,HW3.out,HB3.out⟩
  case rest=>
   obtain ⟨rfl,vo,hw,hb⟩:=hcut
   have HW:=aA hw
   have HB:=aA hb
   clear hw hb HW2 HB2 HK2 e1 e8
   obtain ⟨W1,W2,W3,W4,W5,m1,m2,m3,m4,m5,hmh,hmb⟩:=map4 wc (.func (.func 202) #[.pointer (some ⟨g,0,none⟩)] #[]) (.func (.func 204) #[.pointer (some ⟨g,0,none⟩)] #[]) (.func (.func 204) #[.pointer (some ⟨g,0,none⟩)] #[]) (.func (.func 205) #[.pointer (some ⟨g,0,none⟩)] #[])
   have hmf:∀(fn:Fn) (first cap:Array Value) (w:World),(Instr.makeFunc fn first cap).run Tryz.prog w=.ok (.func fn first cap) w:=fun _ _ _ _=>rfl
   unfold tM at m1 m2 m3 m4 m5
   go_upto_region 8 with fail
   have HMP:=aA hmh
   have HW5:=aA (HW.out.next hmb)
   have HB5:=aA (HB.out.trans (hmb.mono (by have:=HW.out.blk.lt;omega)))
   generalize wc.heap.size=mb at *
   clear m1 m2 m3 m4 m5 hmh hmb hmf HW HB
   go_wp2
   have HI6:Hid ((W5.iter rest 0).heap[W5.heap.size]?=some (.stringIter rest 0)):=World.iter_heap W5 rest 0
   have hai:Below W5.heap.size W5 (W5.iter rest 0):=(Below.refl _ _).alloc (Nat.le_refl _) _
   have HW6:=aA (HW5.out.next hai)
   have HB6:=aA (HB5.out.trans (hai.mono (by have:=HW5.out.blk.lt;omega)))
   have HM6:Hid ((W5.iter rest 0).heap[mb]?=some (.map (ZX (.func (.func 202) #[.pointer (some ⟨g,0,none⟩)] #[]) (.func (.func 204) #[.pointer (some ⟨g,0,none⟩)] #[]) (.func (.func 204) #[.pointer (some ⟨g,0,none⟩)] #[]) (.func (.func 205) #[.pointer (some ⟨g,0,none⟩)] #[])) 4)):=aA ((hai.block mb (Array.getElem?_eq_some_iff.1 HMP.out).1).trans HMP.out)
   have HGI:Hid (g≤W5.heap.size):=aA (Nat.le_of_lt HW5.out.blk.lt)
   generalize W5.iter rest 0=W6 at *
   generalize W5.heap.size=ib at *
   clear hai HW5 HB5 HMP
   go_loopw [6] (fun _ wr=>∃k vo,k≤rest.size∧wr.heap[ib]?=some (.stringIter rest k)∧wr.heap[mb]?=some (.map (ZX (.func (.func 202) #[.pointer (some ⟨g,0,none⟩)] #[]) (.func (.func 204) #[.pointer (some ⟨g,0,none⟩)] #[]) (.func (.func 204) #[.pointer (some ⟨g,0,none⟩)] #[]) (.func (.func 205) #[.pointer (some ⟨g,0,none⟩)] #[])) 4)∧Wtr w.heap.size g (kN p1 ob.toNat s1 a m c s2 f d n) vo (L0++[ob]++(rest.data.toList.take k).flatMap (jN d n)) wr∧Below g w wr) (fun _ wr=>pK wr ib)
   case atStart=>exact ⟨0,vo,Nat.zero_le _,HI6.out,HM6.out,by rw [List.take_zero,List.flatMap_nil,List.append_nil];exact HW6.out,HB6.out⟩
   case round=>
    obtain ⟨k,vo2,hk,hi,hm,hw,hb⟩:=hrel
    clear HI6 HW6 HB6 HM6
    have HM:=aA hm
    have HW:=aA hw
    have HB:=aA hb
    have HI:=aA hi
    have HML:=aA (dA hi)
    clear hm hw hb
    by_cases hlt:k < rest.size
    ·have hlet:=HLT.out k hlt
     have hle:(rest.data.toList.take k).length≤1000:=by have:=HSZ.out;rw [List.length_take];omega
     have hL9:(L0++[ob]++(rest.data.toList.take k).flatMap (jN d n)).length≤1000000:=by
      have:=HL0.out
      have:=oT d n (rest.data.toList.take k)
      rw [List.length_append,List.length_append,List.length_singleton];omega
     have HL9:=aA hL9
     have hnx:=fun ty=>rS (W:=wr) ty hi hlt (by rcases hlet with e | e | e | e<;>rw [e]<;>decide)
     have hp9:(wr.putObj ib (.stringIter rest (k+1))).heap[ib]?=some (.stringIter rest (k+1)):=World.putObj_heap_same (Array.getElem?_eq_some_iff.1 hi).1
     have HI9:=aA hp9
     have hmi:mb≠ib:=fun e=>by
      have:=HM.out
      rw [e,hi] at this
      cases this
     have HM9:=aA ((World.putObj_heap_other (w:=wr) (o:=.stringIter rest (k+1)) hmi).trans HM.out)
     have HW9:=aA (HW.out.put (o':=.stringIter rest (k+1)) hi rfl)
     have hgi:g≤ib:=HGI.out
     have HB9:=aA (HB.out.trans (kA (.stringIter rest (k+1)) hgi))
     generalize hW9:wr.putObj ib (.stringIter rest (k+1))=W9 at *
     clear hi hp9 hle hL9 HI HM HW HB hmi hgi hk
     generalize hb9:rest[k]=b9 at *
     have HLE:Hid (jN d n rest[k]=jN d n b9):=aA (by rw [hb9])
     rcases hlet with rfl | rfl | rfl | rfl
     ·have HLK:=aA (oM 100 (.func (.func 202) #[.pointer (some ⟨g,0,none⟩)] #[]) HM9.out rfl)
      have hlk:=HLK.out
      unfold tM at hlk
      go_wp2_with (go_at_call 202;refine (BB _ g p1 ob.toNat s1 a m c s2 f d n vo2 _ _ HW9.out HL9.out).mono ?_;rintro e w10 ⟨rfl,⟨vo3,hw3⟩,hb3,hq3⟩;have HW10:=aA hw3;have HB10:=aA (HB9.out.trans hb3);have HI10:=aA (hq3 _ _ HI9.out rfl);have HM10:=aA (hq3 _ _ HM9.out rfl);clear hw3 hb3 hq3)
      go_round
      case rel=>exact ⟨k+1,vo3,hlt,HI10.out,HM10.out,by rw [jU _ _ _ hlt,HLE.out,←List.append_assoc];exact HW10.out,HB10.out⟩
      case measure=>rw [dA HI10.out,HML.out];omega
     ·have HLK:=aA (oM 101 (.func (.func 204) #[.pointer (some ⟨g,0,none⟩)] #[]) HM9.out rfl)
      have hlk:=HLK.out
      unfold tM at hlk
      go_wp2_with (go_at_call 204;refine (CE _ g p1 ob.toNat s1 a m c s2 f d n vo2 _ _ HW9.out HL9.out).mono ?_;rintro e w10 ⟨rfl,⟨vo3,hw3⟩,hb3,hq3⟩;have HW10:=aA hw3;have HB10:=aA (HB9.out.trans hb3);have HI10:=aA (hq3 _ _ HI9.out rfl);have HM10:=aA (hq3 _ _ HM9.out rfl);clear hw3 hb3 hq3)
      go_round
      case rel=>exact ⟨k+1,vo3,hlt,HI10.out,HM10.out,by rw [jU _ _ _ hlt,HLE.out,←List.append_assoc];exact HW10.out,HB10.out⟩
      case measure=>rw [dA HI10.out,HML.out];omega
     ·have HLK:=aA (oM 110 (.func (.func 204) #[.pointer (some ⟨g,0,none⟩)] #[]) HM9.out rfl)
      have hlk:=HLK.out
      unfold tM at hlk
      go_wp2_with (go_at_call 204;refine (CE _ g p1 ob.toNat s1 a m c s2 f d n vo2 _ _ HW9.out HL9.out).mono ?_;rintro e w10 ⟨rfl,⟨vo3,hw3⟩,hb3,hq3⟩;have HW10:=aA hw3;have HB10:=aA (HB9.out.trans hb3);have HI10:=aA (hq3 _ _ HI9.out rfl);have HM10:=aA (hq3 _ _ HM9.out rfl);clear hw3 hb3 hq3)
      go_round
      case rel=>exact ⟨k+1,vo3,hlt,HI10.out,HM10.out,by rw [jU _ _ _ hlt,HLE.out,←List.append_assoc];exact HW10.out,HB10.out⟩
      case measure=>rw [dA HI10.out,HML.out];omega
     ·have HLK:=aA (oM 119 (.func (.func 205) #[.pointer (some ⟨g,0,none⟩)] #[]) HM9.out rfl)
      have hlk:=HLK.out
      unfold tM at hlk
      go_wp2_with (go_at_call 205;refine (NC _ g p1 ob.toNat s1 a m c s2 f d n vo2 _ _ HW9.out HL9.out).mono ?_;rintro e w10 ⟨rfl,⟨vo3,hw3⟩,hb3,hq3⟩;have HW10:=aA hw3;have HB10:=aA (HB9.out.trans hb3);have HI10:=aA (hq3 _ _ HI9.out rfl);have HM10:=aA (hq3 _ _ HM9.out rfl);clear hw3 hb3 hq3)
      go_round
      case rel=>exact ⟨k+1,vo3,hlt,HI10.out,HM10.out,by rw [jU _ _ _ hlt,HLE.out,←List.append_assoc];exact HW10.out,HB10.out⟩
      case measure=>rw [dA HI10.out,HML.out];omega
    ·obtain rfl:k=rest.size:=by omega
     have hnx:=fun ty=>mZ (W:=wr) ty hi hlt
     have e8:=HW.out.blk.cellAt (i:=8) (v:=vo2) rfl
     have HTK:Hid (rest.data.toList.take rest.size=rest.data.toList):=aA (List.take_of_length_le (by simp))
     obtain ⟨qa,qn,qc,rfl⟩:∃a n c,vo2=.slice a n c:=by obtain ⟨qa,qc,e⟩:=HW.out.own.form;exact ⟨_,_,_,e⟩
     clear hi HI
     go_wp2
     go_ret
     exact ⟨_,rfl,by rw [←HTK.out];exact HW.out.own,HB.out⟩
set_option maxHeartbeats 4000000
def kI (x:aL) (d n:Int):List UInt8:=
 if 5≤x.pg then aR x.pg++[eW d]++[UInt8.ofNat x.op] else aR x.pg++[UInt8.ofNat x.op]++x.ex.flatMap (jN d n)
def zW (x:aL) (d n:Int):Option (List UInt8):=if (fN x.ex x.args d n).isSome=true then some (kI x d n) else none
def ZP (w:World) (r:Option (List UInt8)) (e:Ending) (w':World):Prop:=
 (match r with | some l=>∃v,e=.returned (.tuple #[v,.bool true])∧Own aI w' w.heap.size 5 NoB v l | none=>e=.returned (.tuple #[.slice none 0 0,.bool false]))∧Below w.heap.size w w'
theorem FV (g:Nat) (x:aL) (hx:zD x) (a:Option Addr) (m c:Nat) (d n:Int) (w:World) (h:Blk w g 190 (kN x.pg x.op ⟨x.iop.toArray⟩ a m c ⟨x.ex.toArray⟩ x.al d n (.slice none 0 0))):
  Calls Tryz.prog 144 #[.pointer (some ⟨g,0,none⟩)] w fun e w'=>∃v,e=.returned v∧Own aI w' w.heap.size 5 NoB v (kI x d n)∧Below g w w':=by
 have ho:((UInt8.ofNat x.op).toNat:Int)=x.op:=by rw [UInt8.toNat_ofNat',Nat.mod_eq_of_lt hx.op]
 rw [←ho] at h
 have hlen:=hx.len
 by_cases h5:5≤x.pg
 ·have he:=hx.hi h5
  have hE:kI x d n=aR x.pg++[eW d]++[UInt8.ofNat x.op]++(⟨#[]⟩:ByteArray).data.toList.flatMap (jN d n):=by unfold kI;rw [if_pos h5];simp
  rw [hE]
  exact vB g x.pg _ _ a m c _ _ d n w h ⟨#[]⟩ (aR x.pg++[eW d]) (fun _=>⟨by rw [he];rfl,rfl⟩) (fun h=>absurd h5 (by omega)) (by decide) (by have:=cW x.pg;rw [List.length_append,List.length_singleton];omega) (fun k hk=>absurd hk (Nat.not_lt_zero _))
 ·have hE:kI x d n=aR x.pg++[UInt8.ofNat x.op]++(⟨x.ex.toArray⟩:ByteArray).data.toList.flatMap (jN d n):=by unfold kI;rw [if_neg h5]
  rw [hE]
  refine vB g x.pg _ _ a m c _ _ d n w h ⟨x.ex.toArray⟩ (aR x.pg) (fun h=>absurd h h5) (fun _=>⟨rfl,rfl⟩) ?_ (by have:=cW x.pg;omega) (fun k hk=>hx.lets _ ?_)
  ·show x.ex.toArray.size≤1000;rw [List.size_toArray];omega
  ·have hk3:(⟨x.ex.toArray⟩:ByteArray).size=x.ex.length:=by show x.ex.toArray.size=_;rw [List.size_toArray]
   have hk2:k < x.ex.length:=by omega
   have e:(⟨x.ex.toArray⟩:ByteArray)[k]=x.ex[k]:=by show x.ex.toArray[k]=_;simp
   rw [e];exact List.getElem_mem hk2
theorem PT (x:aL) (hok:fA x) (hx:zD x) (d n:Int) (p:aB) (v:Value) (w:World) (h:SlR aM w p v x.args):
  Calls Tryz.prog 80 #[bQ x v,.int .i64 d,.int .i64 n] w (ZP w (zW x d n)):=by
 have hz:=hok.size
 have hfe:tH x.ex x.args d n=fN x.ex x.args d n:=sH hok.var
 have hup:=hok.up
 have HWB:=aA (fun g a m c W h=>FV g x hx a m c d n W h)
 have HBF:Hid (zW x d n=if (fN x.ex x.args d n).isSome=true then some (kI x d n) else none):=aA rfl
 generalize zW x d n=R at *
 generalize kI x d n=EN at *
 obtain ⟨p1,o1,i1,l1,s1,f1⟩:=x
 dsimp only at *
 have hl1:l1.length≤1000000:=by have:=hz.2;omega
 have hi1:(⟨i1.toArray⟩:ByteArray).size≤9223372036854775807:=by have:=hz.1;omega
 have HFS:=aA (fun W (hb:RowKit.Below w.heap.size w W)=>xM p1 o1 d n ⟨i1.toArray⟩ ⟨s1.toArray⟩ f1 l1 p v W (h.below hb) hl1 hi1)
 rw [show (⟨s1.toArray⟩:ByteArray).data.toList=s1 from rfl,hup,hfe] at HFS
 obtain ⟨va,vc,rfl⟩:∃a c,v=.slice a l1.length c:=by obtain ⟨a,c,e,_⟩:=h;exact ⟨a,c,e⟩
 clear hok hx hz hup hfe hl1 hi1 h
 unfold bQ
 dsimp only
 have HI:=aA ((Fr.start w).new 107 #[.int .i64 p1,.int .u8 o1,.string ⟨i1.toArray⟩,.slice va l1.length vc,.string ⟨s1.toArray⟩,.bool f1])
 obtain ⟨W0,hW0⟩:∃W:World,W=w.alloc (.cells #[.int .i64 p1,.int .u8 o1,.string ⟨i1.toArray⟩,.slice va l1.length vc,.string ⟨s1.toArray⟩,.bool f1] 107):=⟨_,rfl⟩
 rw [←hW0] at HI
 go_enter Tryz.func80,Tryz.ntmps80
 go_upto_region 1 with fail
 rw [←hW0]
 clear hW0
 obtain ⟨c0,c1,c2,c3,c4,c5⟩:=(HI.out.blk 0 rfl).six
 generalize fN s1 l1 d n=F at *
 cases F with
 | none=>
  go_wp2_with (go_at_call 143;refine (HFS.out _ HI.out.below).mono ?_;rintro e w3 ⟨rfl,hb⟩;have H3:=aA ((HI.out.next hb).alloc (.cells #[.string ⟨#[]⟩,.slice none 0 0] 24));clear hb)
  go_ret2
  exact (by rw [HBF.out];exact ⟨rfl,H3.out.below⟩)
 | some cn=>
  go_upto_region 4 with (go_at_call 143;refine (HFS.out _ HI.out.below).mono ?_;rintro e w3 ⟨⟨v3,rfl,ho3⟩,hb⟩;obtain ⟨va3,vc3,rfl⟩:=ho3.form;have H3:=aA ((HI.out.next hb).alloc (.cells #[.string ⟨i1.toArray⟩,.slice va3 cn.length vc3] 24));clear hb ho3 c0 c1 c2 c3 c4 c5)
  generalize w3.alloc (.cells #[.string ⟨i1.toArray⟩,.slice va3 cn.length vc3] 24)=W3 at *
  obtain ⟨c0,c1,c2,c3,c4,c5⟩:=(H3.out.blk 0 rfl).six
  have HK:=aA (Blk.new W3 190 (kN p1 o1 ⟨i1.toArray⟩ va l1.length vc ⟨s1.toArray⟩ f1 d n (.slice none 0 0)))
  go_wp2_with (go_at_call 144;refine (HWB.out _ _ _ _ _ HK.out).mono ?_;rintro e w4 ⟨v4,rfl,ho4,hb4⟩;obtain ⟨va4,vc4,rfl⟩:=ho4.form;have HO4:=aA ho4;have HB4:=aA ((H3.out.below.alloc H3.out.below.size _).trans (hb4.mono H3.out.below.size));clear ho4 hb4)
  go_ret2
  exact (by rw [HBF.out];exact ⟨⟨_,rfl,Own.base HO4.out (by rw [World.size_alloc];have:=H3.out.below.size;omega)⟩,HB4.out⟩)
theorem GT {x:Ins} {e:aL} {k:Int} (h:cQ x=(some e,k)):zD e:=by
 obtain ⟨p,j,hj,he⟩:=jG (kJ h).1
 obtain ⟨q,hq,rfl⟩:=sG he
 exact (kZ hq hj he).1
def jM (x:Ins):Option (List UInt8) × Int:=match cQ x with
 | (some e,k)=>(some (kI e (mF e (aE x).args) (lM e (aE x).args)),k)
 | (none,k)=>(none,k)
def EncQ (w:World) (r:Option (List UInt8) × Int) (e:Ending) (w':World):Prop:=
 (match r.1 with | some l=>∃v,e=.returned (.tuple #[v,.int .i64 r.2])∧Own aI w' w.heap.size 5 NoB v l | none=>e=.returned (.tuple #[.slice none 0 0,.int .i64 r.2]))∧Below w.heap.size w w'
theorem NQ {x:Ins} {e:aL} {k:Int} (h:cQ x=(some e,k)):fA e∧k=0∧fQ ⟨e.iop.toArray⟩ x.op e.ex e.args (aE x).args=(mF e (aE x).args,lM e (aE x).args,true)∧zW e (mF e (aE x).args) (lM e (aE x).args)=some (kI e (mF e (aE x).args) (lM e (aE x).args)):=by
 obtain ⟨hok,hk,hop,_,_,d,n,h1,h2⟩:=kT h
 have hfc:dB ⟨e.iop.toArray⟩ x.op e.ex e.args (aE x).args=true:=by rw [←kP hok,h1]
 have hv:=tK hok hfc
 refine ⟨hok,hk,hv,?_⟩
 rw [h1] at hv
 injection hv with hd hv
 injection hv with hn _
 unfold zW mF lM
 rw [←hd,←hn,←sH hok.var,h2]
 rfl
theorem GC (x:Ins) (m:CV x) (p:aB) (v:Value) (w:World) (h:SlR aM w p v x.args) (hT:Spc w):
  Calls Tryz.prog 24 #[.agg #[.string x.op,v]] w (EncQ w (jM x)):=by
 have HX:=aA (fun W (hb:RowKit.Below w.heap.size w W)=>m.find p v W (h.below hb) (hT.below hb))
 obtain ⟨va,vc,rfl⟩:∃a c,v=.slice a x.args.length c:=by obtain ⟨a,c,e,_⟩:=h;exact ⟨a,c,e⟩
 have HI:=aA ((Fr.start w).new 24 #[.string x.op,.slice va x.args.length vc])
 obtain ⟨W0,hW0⟩:∃W:World,W=w.alloc (.cells #[.string x.op,.slice va x.args.length vc] 24):=⟨_,rfl⟩
 rw [←hW0] at HI
 cases hR:cQ x with
 | mk o k=>
 rw [hR] at HX
 cases o with
 | none=>
  have hk:¬k=0:=oA hR
  have HR:Hid (jM x=(none,k)):=aA (by unfold jM;rw [hR])
  clear m h hT hR
  generalize jM x=R at *
  obtain ⟨t,l⟩:=x
  dsimp only at *
  go_enter Tryz.func24,Tryz.ntmps24
  go_upto_region 1 with fail
  rw [←hW0]
  clear hW0
  obtain ⟨a0,a1⟩:=(HI.out.blk 0 rfl).pair
  go_wp2_with (go_at_call 78;refine (HX.out _ HI.out.below).mono ?_;rintro e w4 ⟨rfl,hb⟩;have H4:=aA ((HI.out.next hb).alloc (.cells #[.int .i64 0,.int .u8 0,.string ⟨#[]⟩,.slice none 0 0,.string ⟨#[]⟩,.bool false] 107));clear hb a0 a1;unfold mX)
  go_ret2
  exact (by rw [HR.out];exact ⟨rfl,H4.out.below⟩)
 | some e=>
  obtain ⟨hok,rfl,hfs,hby⟩:=NQ hR
  have hW:=GT hR
  have hz:=hok.size
  have HR:Hid (jM x=(some (kI e (mF e (aE x).args) (lM e (aE x).args)),0)):=aA (by unfold jM;rw [hR])
  have hcl:(aE x).args.length≤1000000:=by have:=m.n;have:=mB x;omega
  have HBY:=aA (fun p v W h=>PT e hok hW (mF e (aE x).args) (lM e (aE x).args) p v W h)
  rw [hby] at HBY
  have HVA:=aA (fun p2 v2 W h2 (hb:RowKit.Below w.heap.size w W)=>BS e.pg e.op ⟨e.iop.toArray⟩ ⟨e.ex.toArray⟩ e.al e.args x p2 p v2 (.slice va x.args.length vc) W h2 (h.below hb) (hT.below hb) (by have:=hz.2;omega) (by have:=m.n;omega) hcl m.f (by have:=hz.1;omega) (by have:=m.op;omega))
  rw [show (⟨e.ex.toArray⟩:ByteArray).data.toList=e.ex from rfl,hfs] at HVA
  clear hok hfs hby hW hz hcl hR h hT m
  generalize jM x=R at *
  generalize kI e (mF e (aE x).args) (lM e (aE x).args)=EN at *
  generalize mF e (aE x).args=d at *
  generalize lM e (aE x).args=n at *
  obtain ⟨t,l⟩:=x
  obtain ⟨p1,o1,i1,l1,s1,f1⟩:=e
  dsimp only [bQ] at *
  go_enter Tryz.func24,Tryz.ntmps24
  go_upto_region 1 with fail
  rw [←hW0]
  clear hW0
  obtain ⟨a0,a1⟩:=(HI.out.blk 0 rfl).pair
  go_upto_region 4 with (go_at_call 78;refine (HX.out _ HI.out.below).mono ?_;rintro e w4 ⟨⟨v4,q4,rfl,hs⟩,hb⟩;obtain ⟨va4,vc4,rfl⟩:∃a c,v4=.slice a l1.length c:=(by obtain ⟨a,c,e,_⟩:=hs;exact ⟨a,c,e⟩);have H4:=aA ((HI.out.next hb).new 107 #[.int .i64 p1,.int .u8 o1,.string ⟨i1.toArray⟩,.slice va4 l1.length vc4,.string ⟨s1.toArray⟩,.bool f1]);have HS4:=aA (hs.alloc (.cells #[.int .i64 p1,.int .u8 o1,.string ⟨i1.toArray⟩,.slice va4 l1.length vc4,.string ⟨s1.toArray⟩,.bool f1] 107));clear hb hs a0 a1;dsimp only [bQ])
  generalize hg4:w4.heap.size=g4 at *
  obtain ⟨W4,hW4⟩:∃W:World,W=w4.alloc (.cells #[.int .i64 p1,.int .u8 o1,.string ⟨i1.toArray⟩,.slice va4 l1.length vc4,.string ⟨s1.toArray⟩,.bool f1] 107):=⟨_,rfl⟩
  rw [←hW4] at H4 HS4 ⊢
  clear hW4 hg4 HI HX
  obtain ⟨c0,c1,c2,c3,c4,c5⟩:=(H4.out.blk 0 rfl).six
  obtain ⟨a0,a1⟩:=(H4.out.blk 1 rfl).pair
  go_upto_region 5 with (go_at_call 79;refine (HVA.out _ _ _ HS4.out H4.out.below).mono ?_;rintro e w5 ⟨rfl,hb⟩;have H5:=aA (H4.out.next hb);have HS5:=aA (HS4.out.below hb);clear hb c0 c1 c2 c3 c4 c5 a0 a1)
  obtain ⟨c0,c1,c2,c3,c4,c5⟩:=(H5.out.blk 0 rfl).six
  go_wp2_with (go_at_call 80;refine (HBY.out _ _ _ HS5.out).mono ?_;rintro e w6 ⟨⟨v6,rfl,ho⟩,hb⟩;obtain ⟨va6,vc6,rfl⟩:=ho.form;have HO6:=aA ho;have H6:=aA (H5.out.next hb);clear hb ho)
  go_ret2
  exact (by rw [HR.out];exact ⟨⟨_,rfl,Own.base HO6.out H5.out.size⟩,H6.out.below⟩)
end Go.Proofs.YtmpmciccgempeaaGreatDoor
namespace Go.Proofs.YtmpmciccgempeaaGreatDoor
open Go.RowKit
def qJ:Rep (List UInt8) where
 size:=1
 rel:=fun w p cs x=>∃v,cs=[v]∧SlR aI w p v x
 len:=fun ⟨_,e,_⟩=>by subst e;rfl
 keep:=fun hk ⟨v,e,h⟩=>⟨v,e,h.keep hk⟩
 mono:=fun hp ⟨v,e,h⟩=>⟨v,e,h.mono hp⟩
 old:=fun ⟨v,e,h⟩=>⟨v,e,h.old⟩
 one:=fun ⟨v,e,a,cap,hv,_⟩ u hu=>by subst e;subst hv;simp at hu;subst hu;rfl
theorem SlR.row {w:World} {p:aB} {v:Value} {l:List (List UInt8)} (h:SlR qJ w p v l):∃a cap,v=.slice a l.length cap∧l.length≤cap∧cap≤9223372036854775807∧
  ∀i x,l[i]?=some x→∃b o va vc,a=some ⟨b,o,none⟩∧b < w.heap.size∧w.cell? ⟨b,o+i,none⟩=some (.slice va x.length vc)∧SlR aI w p (.slice va x.length vc) x:=by
 obtain ⟨a,cap,e,h1,h2,h3⟩:=h
 refine ⟨a,cap,e,h1,h2,fun i x hx=>?_⟩
 obtain ⟨b,o,cs,ea,_,hb,hc,v2,hr,hs⟩:=h3 i x hx
 subst hr
 obtain ⟨va,vc,rfl⟩:∃a c,v2=.slice a x.length c:=by obtain ⟨a,c,e,_⟩:=hs;exact ⟨a,c,e⟩
 have:=hc 0 _ rfl
 rw [show o+i * qJ.size+0=o+i from by show o+i * 1+0=_;omega] at this
 exact ⟨b,o,va,vc,ea,hb,this,hs⟩
end Go.Proofs.YtmpmciccgempeaaGreatDoor
