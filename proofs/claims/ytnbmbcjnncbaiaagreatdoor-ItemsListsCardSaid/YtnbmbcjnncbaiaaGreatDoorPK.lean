/-
  The reference's indexed instructions. Conditions: the opcode is a byte.
-/
import Derived.Test.YtnbmbcjnncbaiaaGreatDoorPG
import Derived.Test.YtnbmbcjnncbaiaaGreatDoorPF
import Derived.Test.YtnbmbcjnncbaiaaGreatDoorPI
namespace Go.Proofs.YtnbmbcjnncbaiaaGreatDoor
set_option maxHeartbeats 8000000
set_option maxRecDepth 100000
open Go.RowKit Go.Shelf Go.Sort
def rx (reg:Int) (o:Opd):Opd:=
 if opdEq o ⟨3,2,0⟩=true then ⟨3,reg,0⟩ else if opdEq o ⟨1,4,0⟩=true then ⟨2,2 * (reg - 5),0⟩ else if opdEq o ⟨1,5,0⟩=true then ⟨2,2 * (reg - 5)+5 - 4,0⟩
 else if opdEq o ⟨4,2,0⟩=true then ⟨4,reg,0⟩ else o
def rmix (reg:Int) (l:List Opd) (k:Nat):List Opd:=(l.take k).map (rx reg)++l.drop k
def rany (reg:Int) (l:List Opd):Bool:=l.any fun o=>!opdEq (rx reg o) o
theorem rmix_len (reg:Int) (l:List Opd) (k:Nat):(rmix reg l k).length=l.length:=by
 unfold rmix;rw [List.length_append,List.length_map,List.length_take,List.length_drop];omega
theorem rmix_zero (reg:Int) (l:List Opd):rmix reg l 0=l:=by unfold rmix;simp
theorem rmix_all (reg:Int) (l:List Opd) (k:Nat) (h:l.length≤k):rmix reg l k=l.map (rx reg):=by
 unfold rmix;rw [List.take_of_length_le h,List.drop_of_length_le h,List.append_nil]
theorem rmix_at (reg:Int) (l:List Opd) (k:Nat) (h:k < l.length):(rmix reg l k)[k]?=some l[k]:=by
 have h1:((l.take k).map (rx reg)).length=k:=by rw [List.length_map,List.length_take];omega
 unfold rmix
 rw [List.getElem?_append_right (by omega),h1,Nat.sub_self,List.getElem?_drop]
 simp [h]
theorem rmix_step (reg:Int) (l:List Opd) (k:Nat) (h:k < l.length):rmix reg l (k+1)=(rmix reg l k).set k (rx reg l[k]):=by
 have h1:((l.take k).map (rx reg)).length=k:=by rw [List.length_map,List.length_take];omega
 unfold rmix
 rw [List.set_append_right _ _ (by omega),h1,Nat.sub_self,List.drop_eq_getElem_cons h,List.set_cons_zero,List.take_succ_eq_append_getElem h,List.map_append,List.append_assoc]
 rfl
theorem rany_step (reg:Int) (l:List Opd) (k:Nat) (h:k < l.length):rany reg (l.take (k+1))=(rany reg (l.take k) || !opdEq (rx reg l[k]) l[k]):=by
 rw [List.take_succ_eq_append_getElem h];unfold rany;rw [List.any_append];simp
structure RxI (w:World) (g:Nat) (op:ByteArray) (v va:Value) (l:List Opd) (wr:World):Prop where
 blk3:Blk wr w.heap.size 27 #[.string op,v]
 blk6:Blk wr (w.heap.size+1) 27 #[.string ⟨#[]⟩,.slice none 0 0]
 blk8:Blk wr g 27 #[.string op,va]
 own:OpdOwn wr (fun b=>w.heap.size+2≤b∧b≠g) va l
 below:Below w.heap.size w wr
 lo:w.heap.size+2≤g
theorem RxI.later {w wr w':World} {g:Nat} {op:ByteArray} {v va:Value} {l:List Opd} (h:RxI w g op v va l wr) (hb:Below wr.heap.size wr w'):RxI w g op v va l w':=
 ⟨h.blk3.below hb h.blk3.lt,h.blk6.below hb h.blk6.lt,h.blk8.below hb h.blk8.lt,h.own.below hb,h.below.trans (hb.mono h.below.size),h.lo⟩
theorem RxI.put {w wr:World} {g b o n c k:Nat} {op:ByteArray} {v:Value} {l:List Opd} (y:Opd) (h:RxI w g op v (.slice (some ⟨b,o,none⟩) n c) l wr) (hb:w.heap.size+2≤b∧b≠g) (hk:k < l.length):
  RxI w g op v (.slice (some ⟨b,o,none⟩) n c) (l.set k y) (((wr.setCell ⟨b,o+k * 3,none⟩ (.int .i64 y.kind)).setCell ⟨b,o+k * 3+1,none⟩ (.int .i64 y.reg)).setCell ⟨b,o+k * 3+2,none⟩ (.int .i64 y.n)):=
 ⟨((h.blk3.far (by show _≠b;omega) _).far (by show _≠b;omega) _).far (by show _≠b;omega) _,((h.blk6.far (by show _≠b;omega) _).far (by show _≠b;omega) _).far (by show _≠b;omega) _,((h.blk8.far (by show _≠b;omega) _).far (by show _≠b;omega) _).far (by show _≠b;omega) _,
  h.own.put y hk,((h.below.setCell (by show _≤b;omega) _).setCell (by show _≤b;omega) _).setCell (by show _≤b;omega) _,h.lo⟩
def ixR (reg:Int) (op:ByteArray) (l:List Opd) (ex:ByteArray):ByteArray × List Opd × ByteArray:=
 if 0≤posO ⟨4,2,0⟩ 0 l∧¬op=⟨#[74,80]⟩ then (op,l.set (posO ⟨4,2,0⟩ 0 l).toNat ⟨5,reg,0⟩,⟨#[100]⟩++ex)
 else if rany reg l=false∨insEq ⟨op,l⟩ ⟨⟨#[69,88]⟩,[rpF 1 3,rpF 2 3]⟩=true then (⟨#[]⟩,[],⟨#[]⟩) else (op,l.map (rx reg),ex)
theorem at_w {P:Program} {ops:Array Oper} {o:Oper} {a:Act} {K:Act→World→Prop} {Q:Exit→Act→World→Prop} {E:Prop} (w:World) (h:if Region.wanted o (yielded ops a.tmps)=true then Oper.wp P o a w K Q else E):if Region.wanted o (yielded ops a.tmps)=true then Oper.wp P o a w K Q else E:=h
theorem run_onto {W1:World} {B b:Nat} {p:Blocks} {v:Value} {l:List Opd} (hown:Own opdR W1 B 93 NoB (.slice (some ⟨b,0,none⟩) 0 0) []) (h:SlR opdR W1 p v l) (hp:∀k,p k→k≠b) (hB:B≤W1.heap.size) (hl:l.length≤1000000) (ty:TypeId):
  ∃a c w',(Builtin.append_ #[25,25] ty #[.slice (some ⟨b,0,none⟩) 0 0,v]).run Tryz.prog W1=.ok (.slice a l.length c) w'∧Own opdR w' B 93 NoB (.slice a l.length c) l∧W1.grownBy w' (some b)∧(∀k,Value.ownBlock (.slice a l.length c)=some k→k=b∨k=W1.heap.size):=by
 obtain ⟨v',w',hrun,ho,hg,hv⟩:=run_append_R (P:=Tryz.prog) (R:=opdR) (w:=W1) B 25 ty 93 24 elOpd (p:=NoB) (q:=p) hown h (fun _ hk=>hk.elim) (fun k hk e=>hp k hk (by simpa [Value.ownBlock] using e)) (by simp;omega) (by simp;omega) hB
 have ho2:=ho.flat NoB
 rw [List.nil_append] at ho2
 obtain ⟨a,c,rfl⟩:=ho2.form
 refine ⟨a,c,w',hrun,ho2,hg,fun k hk=>?_⟩
 rcases hv with e | e
 ·exact .inl (Option.some.inj (hk.symm.trans e))
 ·exact .inr (Option.some.inj (hk.symm.trans e))
theorem ind_lit (n:Int) (w:World):Calls Tryz.prog 121 #[.int .i64 n] w fun e w'=>e=.returned (.agg #[.int .i64 4,.int .i64 n,.int .i64 0])∧Below w.heap.size w w':=ind9_any n w
def Nf (op:ByteArray) (l:List Opd) (k:Nat):Prop:=¬op=⟨#[74,80]⟩→posO ⟨4,2,0⟩ 0 l=posO ⟨4,2,0⟩ k (l.drop k)
theorem opdEq_comm (x y:Opd):opdEq x y=opdEq y x:=by unfold opdEq;rw [Bool.eq_iff_iff,decide_eq_true_iff,decide_eq_true_iff];exact eq_comm
theorem Nf.step {op:ByteArray} {l:List Opd} {k:Nat} (h:Nf op l k) (hk:k < l.length) (hn:¬op=⟨#[74,80]⟩→opdEq l[k] ⟨4,2,0⟩=false):Nf op l (k+1):=fun hj=>by
 rw [h hj,List.drop_eq_getElem_cons hk,posO,if_neg (by rw [opdEq_comm,hn hj];exact Bool.false_ne_true)]
theorem Nf.here {op:ByteArray} {l:List Opd} {k:Nat} (h:Nf op l k) (hk:k < l.length) (hj:¬op=⟨#[74,80]⟩) (hy:opdEq l[k] ⟨4,2,0⟩=true):posO ⟨4,2,0⟩ 0 l=k:=by
 rw [h hj,List.drop_eq_getElem_cons hk,posO,if_pos (by rw [opdEq_comm];exact hy)]
theorem Nf.gone {op:ByteArray} {l:List Opd} {k:Nat} (h:Nf op l k) (hk:l.length≤k):¬(0≤posO ⟨4,2,0⟩ 0 l∧¬op=⟨#[74,80]⟩):=fun ⟨h0,hj⟩=>by
 rw [h hj,List.drop_of_length_le hk] at h0
 exact absurd h0 (by rw [posO];decide)
theorem opd3 {a b c d e f:Int} (h:opdEq ⟨a,b,c⟩ ⟨d,e,f⟩=true):a=d∧b=e∧c=f:=by
 have:=opdEq_iff.1 h
 injection this with h1 h2 h3
 exact ⟨h1,h2,h3⟩
theorem set_same9 {α:Type} {l:List α} {k:Nat} {y:α} (h:l[k]?=some y):l.set k y=l:=by
 obtain ⟨hk,rfl⟩:=List.getElem?_eq_some_iff.1 h
 exact List.set_getElem_self hk
theorem RxI.setRg {w wr:World} {g b o n c k:Nat} {op:ByteArray} {v:Value} {l:List Opd} {x:Opd} (m:Int) (h:RxI w g op v (.slice (some ⟨b,o,none⟩) n c) l wr) (hb:w.heap.size+2≤b∧b≠g) (hx:l[k]?=some x):
  RxI w g op v (.slice (some ⟨b,o,none⟩) n c) (l.set k {x with reg:=m}) (wr.setCell ⟨b,o+k * 3+1,none⟩ (.int .i64 m)):=
 ⟨h.blk3.far (by show _≠b;omega) _,h.blk6.far (by show _≠b;omega) _,h.blk8.far (by show _≠b;omega) _,h.own.setRg hx,h.below.setCell (by show _≤b;omega) _,h.lo⟩
theorem RxI.fin {w wr:World} {g:Nat} {op s:ByteArray} {v va:Value} {l:List Opd} (h:RxI w g op v va l wr):
  OpdOwn ((wr.setCell ⟨w.heap.size+1,0,none⟩ (.string s)).setCell ⟨w.heap.size+1,1,none⟩ va) (fun k=>w.heap.size≤k) va l∧Below w.heap.size w ((wr.setCell ⟨w.heap.size+1,0,none⟩ (.string s)).setCell ⟨w.heap.size+1,1,none⟩ va):=
 put_ins h.below h.own (fun k hk=>by have:=hk.1;omega) (Nat.le_succ _)
theorem RxI.el {w wr:World} {g:Nat} {op:ByteArray} {v:Value} {a:Option Addr} {n c k:Nat} {l:List Opd} {y:Opd} (h:RxI w g op v (.slice a n c) l wr) (hy:l[k]?=some y):∃b o,a=some ⟨b,o,none⟩∧(w.heap.size+2≤b∧b≠g)∧b < wr.heap.size∧wr.cell? ⟨b,o+k * 3,none⟩=some (.int .i64 y.kind)∧wr.cell? ⟨b,o+k * 3+1,none⟩=some (.int .i64 y.reg)∧wr.cell? ⟨b,o+k * 3+2,none⟩=some (.int .i64 y.n)∧∀j,wr.frozen? ⟨b,j,none⟩=false:=by
 obtain ⟨a9,c9,e9,_,_,g9⟩:=h.own
 injection e9 with e9
 subst e9
 exact g9 k y hy
theorem indexed9_any (reg:Int) (op ex:ByteArray) (l:List Opd) (p:Blocks) (v:Value) (w:World) (h:SlR opdR w p v l) (hr5:5≤reg) (hr6:reg≤6) (hn:l.length≤1000) (hop:op.size≤1000) (hex:ex.size≤1000):
  Calls Tryz.prog 86 #[.agg #[.string op,v],.string ex,.int .i64 reg] w (InsE w (ixR reg op l ex).1 (ixR reg op l ex).2.1 (ixR reg op l ex).2.2):=by
 obtain ⟨ca,cc,rfl⟩:∃a c,v=.slice a l.length c:=by obtain ⟨a,c,e,_⟩:=h;exact ⟨a,c,e⟩
 obtain ⟨W,hW⟩:∃W:World,W=(w.alloc (.cells #[.string op,.slice ca l.length cc] 27)).alloc (.cells #[.string ⟨#[]⟩,.slice none 0 0] 27):=⟨_,rfl⟩
 have hf:Fr w [(w.heap.size+1,27,#[.string ⟨#[]⟩,.slice none 0 0]),(w.heap.size,27,#[.string op,.slice ca l.length cc])] W:=by
  rw [hW];exact ((Fr.start w).new 27 #[.string op,.slice ca l.length cc]).new' 27 #[.string ⟨#[]⟩,.slice none 0 0] (b:=w.heap.size+1) (by rw [World.size_alloc])
 have hs:SlR opdR W (fun k=>p k∧k < w.heap.size) (.slice ca l.length cc) l:=by rw [hW];exact (h.old.alloc _).alloc _
 have hz:W.heap.size=w.heap.size+2:=by rw [hW,World.size_alloc,World.size_alloc]
 have HZ:=Lib.hid hz
 have HN0:=Lib.hid hn
 have HR5:=Lib.hid hr5
 have HR6:=Lib.hid hr6
 have HSV0:=Lib.hid h
 have hl:l.length≤1000000:=by omega
 have z1:(W.alloc (.cells #[] 93)).heap.size=w.heap.size+2+1:=by rw [World.size_alloc,hz]
 have z2:(W.alloc (.cells #[.string ⟨#[]⟩,.slice none 0 0] 27)).heap.size=w.heap.size+2+1:=by rw [World.size_alloc,hz]
 have om1:Own opdR (W.alloc (.cells #[] 93)) (w.heap.size+2) 93 NoB (.slice (some ⟨w.heap.size+2,0,none⟩) 0 0) ([]:List Opd):=by
  have:=Own.made (R:=opdR) W 93 NoB
  rwa [hz] at this
 have om3:Own opdR ((W.alloc (.cells #[.string ⟨#[]⟩,.slice none 0 0] 27)).alloc (.cells #[] 93)) (w.heap.size+2) 93 NoB (.slice (some ⟨w.heap.size+2+1,0,none⟩) 0 0) ([]:List Opd):=by
  have:=(Own.made (R:=opdR) (W.alloc (.cells #[.string ⟨#[]⟩,.slice none 0 0] 27)) 93 NoB).base (B':=w.heap.size+2) (by omega)
  rwa [z2] at this
 obtain ⟨a1,c1,u1,r1,o1,g1,q1⟩:=run_onto (W1:=(W.alloc (.cells #[] 93)).drew) (B:=w.heap.size+2) (om1.stay (Below.refl _ _).drew) ((hs.alloc _).drew) (fun k hk=>by omega) (by rw [World.size_drew,z1];omega) hl 25
 obtain ⟨a2,c2,u2,r2,o2,g2,q2⟩:=run_onto (W1:=((W.alloc (.cells #[] 93)).alloc (.cells #[.string ⟨#[]⟩,.slice none 0 0] 27)).drew) (B:=w.heap.size+2) ((om1.stay ((Below.refl _ _).alloc (Nat.le_refl _) _)).stay (Below.refl _ _).drew) (((hs.alloc _).alloc _).drew) (fun k hk=>by omega) (by rw [World.size_drew,World.size_alloc,z1];omega) hl 25
 obtain ⟨a3,c3,u3,r3,o3,g3,q3⟩:=run_onto (W1:=((W.alloc (.cells #[.string ⟨#[]⟩,.slice none 0 0] 27)).alloc (.cells #[] 93)).drew) (B:=w.heap.size+2) (om3.stay (Below.refl _ _).drew) (((hs.alloc _).alloc _).drew) (fun k hk=>by omega) (by rw [World.size_drew,World.size_alloc,z2];omega) hl 25
 have b3W:Blk W w.heap.size 27 #[.string op,.slice ca l.length cc]:=hf.blk 1 rfl
 have b6W:Blk W (w.heap.size+1) 27 #[.string ⟨#[]⟩,.slice none 0 0]:=hf.blk 0 rfl
 have HI1:Hid (RxI w u1.heap.size op (.slice ca l.length cc) (.slice a1 l.length c1) l (u1.alloc (.cells #[.string op,.slice a1 l.length c1] 27))):=by
  have hs1:=g1.size
  rw [World.size_drew,z1] at hs1
  refine ⟨(Blk.grown (w:=(W.alloc (.cells #[] 93)).drew) ((b3W.alloc _).drew) g1 (fun e=>by injection e with e;omega)).alloc _,(Blk.grown (w:=(W.alloc (.cells #[] 93)).drew) ((b6W.alloc _).drew) g1 (fun e=>by injection e with e;omega)).alloc _,Blk.new u1 _ _,(o1.opdOwn (fun k hk=>⟨(o1.lt k hk).1,Nat.ne_of_lt (o1.lt k hk).2⟩)).below ((Below.refl _ _).alloc (Nat.le_refl _) _),?_,by omega⟩
  exact (((hf.below.alloc (by omega) _).drew).grown g1 (by rw [World.size_drew,z1];omega) (fun k hk=>by cases hk;omega)).alloc (by omega) _
 have HI2:Hid (RxI w (w.heap.size+2+1) op (.slice ca l.length cc) (.slice a2 l.length c2) l ((u2.setCell ⟨w.heap.size+2+1,0,none⟩ (.string op)).setCell ⟨w.heap.size+2+1,1,none⟩ (.slice a2 l.length c2))):=by
  have hz2:((W.alloc (.cells #[] 93)).alloc (.cells #[.string ⟨#[]⟩,.slice none 0 0] 27)).drew.heap.size=w.heap.size+2+1+1:=by rw [World.size_drew,World.size_alloc,z1]
  have b8:=Blk.new (W.alloc (.cells #[] 93)) 27 #[.string ⟨#[]⟩,.slice none 0 0]
  rw [z1] at b8
  have k3:=Blk.grown (((b3W.alloc (.cells #[] 93)).alloc (.cells #[.string ⟨#[]⟩,.slice none 0 0] 27)).drew) g2 (fun e=>by injection e with e;omega)
  have k6:=Blk.grown (((b6W.alloc (.cells #[] 93)).alloc (.cells #[.string ⟨#[]⟩,.slice none 0 0] 27)).drew) g2 (fun e=>by injection e with e;omega)
  have k8:=Blk.grown b8.drew g2 (fun e=>by injection e with e;omega)
  have hq:∀k,Value.ownBlock (.slice a2 l.length c2)=some k→w.heap.size+2≤k∧k≠w.heap.size+2+1:=fun k hk=>⟨(o2.lt k hk).1,by have:=q2 k hk;rw [hz2] at this;omega⟩
  refine ⟨(k3.far (by show _≠w.heap.size+2+1;omega) _).far (by show _≠w.heap.size+2+1;omega) _,(k6.far (by show _≠w.heap.size+2+1;omega) _).far (by show _≠w.heap.size+2+1;omega) _,(k8.set 0 _).set 1 _,((o2.opdOwn hq).far (fun k hk=>hk.2) _).far (fun k hk=>hk.2) _,?_,by omega⟩
  exact (((((hf.below.alloc (by omega) _).alloc (by omega) _).drew).grown g2 (by rw [hz2];omega) (fun k hk=>by cases hk;omega)).setCell (by show _≤w.heap.size+2+1;omega) _).setCell (by show _≤w.heap.size+2+1;omega) _
 have HI3:Hid (RxI w (w.heap.size+2) op (.slice ca l.length cc) (.slice a3 l.length c3) l ((u3.setCell ⟨w.heap.size+2,0,none⟩ (.string op)).setCell ⟨w.heap.size+2,1,none⟩ (.slice a3 l.length c3))):=by
  have hz2:((W.alloc (.cells #[.string ⟨#[]⟩,.slice none 0 0] 27)).alloc (.cells #[] 93)).drew.heap.size=w.heap.size+2+1+1:=by rw [World.size_drew,World.size_alloc,z2]
  have b8:=(Blk.new W 27 #[.string ⟨#[]⟩,.slice none 0 0]).alloc (.cells #[] 93)
  rw [hz] at b8
  have k3:=Blk.grown (((b3W.alloc (.cells #[.string ⟨#[]⟩,.slice none 0 0] 27)).alloc (.cells #[] 93)).drew) g3 (fun e=>by injection e with e;omega)
  have k6:=Blk.grown (((b6W.alloc (.cells #[.string ⟨#[]⟩,.slice none 0 0] 27)).alloc (.cells #[] 93)).drew) g3 (fun e=>by injection e with e;omega)
  have k8:=Blk.grown b8.drew g3 (fun e=>by injection e with e;omega)
  have hq:∀k,Value.ownBlock (.slice a3 l.length c3)=some k→w.heap.size+2≤k∧k≠w.heap.size+2:=fun k hk=>⟨(o3.lt k hk).1,by have:=q3 k hk;rw [hz2] at this;omega⟩
  refine ⟨(k3.far (by show _≠w.heap.size+2;omega) _).far (by show _≠w.heap.size+2;omega) _,(k6.far (by show _≠w.heap.size+2;omega) _).far (by show _≠w.heap.size+2;omega) _,(k8.set 0 _).set 1 _,((o3.opdOwn hq).far (fun k hk=>hk.2) _).far (fun k hk=>hk.2) _,?_,by omega⟩
  exact (((((hf.below.alloc (by omega) _).alloc (by omega) _).drew).grown g3 (by rw [hz2];omega) (fun k hk=>by cases hk;omega)).setCell (by show _≤w.heap.size+2;omega) _).setCell (by show _≤w.heap.size+2;omega) _
 have m1:Blk u1 w.heap.size 27 #[.string op,.slice ca l.length cc]:=Blk.grown (w:=(W.alloc (.cells #[] 93)).drew) ((b3W.alloc _).drew) g1 (fun e=>by injection e with e;omega)
 have m2:Blk u2 w.heap.size 27 #[.string op,.slice ca l.length cc]:=Blk.grown (w:=((W.alloc (.cells #[] 93)).alloc (.cells #[.string ⟨#[]⟩,.slice none 0 0] 27)).drew) (((b3W.alloc _).alloc _).drew) g2 (fun e=>by injection e with e;omega)
 have m3:Blk u3 w.heap.size 27 #[.string op,.slice ca l.length cc]:=Blk.grown (w:=((W.alloc (.cells #[.string ⟨#[]⟩,.slice none 0 0] 27)).alloc (.cells #[] 93)).drew) (((b3W.alloc _).alloc _).drew) g3 (fun e=>by injection e with e;omega)
 have HR1:=Lib.hid r1
 have HR2:=Lib.hid r2
 have HR3:=Lib.hid r3
 have p0:=m1.cell 0
 have p1:=m1.cell 1
 have p2:=m2.cell 0
 have p3:=m2.cell 1
 have p4:=m3.cell 0
 have p5:=m3.cell 1
 have k0:=b3W.cell 0
 have k1:=b3W.cell 1
 have j0:=HI2.out.blk8
 have hu2:Blk u2 (w.heap.size+2+1) 27 #[.string ⟨#[]⟩,.slice none 0 0]:=by
  have b8:=Blk.new (W.alloc (.cells #[] 93)) 27 #[.string ⟨#[]⟩,.slice none 0 0]
  rw [z1] at b8
  exact Blk.grown b8.drew g2 (fun e=>by injection e with e;omega)
 have hu3:Blk u3 (w.heap.size+2) 27 #[.string ⟨#[]⟩,.slice none 0 0]:=by
  have b8:=(Blk.new W 27 #[.string ⟨#[]⟩,.slice none 0 0]).alloc (.cells #[] 93)
  rw [hz] at b8
  exact Blk.grown b8.drew g3 (fun e=>by injection e with e;omega)
 obtain ⟨t0,t1,t2,t3⟩:=hu2.two
 obtain ⟨s0,s1,s2,s3⟩:=hu3.two
 have HW:=Lib.hid hW
 have hbw:=b3W.lt
 have hbu:=m1.lt
 clear j0 hu2 hu3 m1 m2 m3 b3W b6W om1 om3 r1 r2 r3 o1 o2 o3 g1 g2 g3 q1 q2 q3 hf hs hl z1 z2 h hW hn
 go_enter Tryz.func86,Tryz.ntmps86
 go_upto_region 1 with fail
 rw [←HW.out]
 go_cut [8] (fun s8 wx=>∃g a c,s8=.pointer (some ⟨g,0,none⟩)∧RxI w g op (.slice ca l.length cc) (.slice a l.length c) l wx)
 case first=>
  go_region_law ((first | (refine at_w ((W.alloc (.cells #[] 93)).drew) ?_;refine step_app_run (by rfl) (.tmp 15) (.tmp 17) 25 (by rfl) _ _ _ (by rfl) (by rfl) HR1.out ?_) | (refine at_w (((W.alloc (.cells #[] 93)).alloc (.cells #[.string ⟨#[]⟩,.slice none 0 0] 27)).drew) ?_;refine step_app_run (by rfl) (.tmp 15) (.tmp 17) 25 (by rfl) _ _ _ (by rfl) (by rfl) HR2.out ?_) | (refine at_w (((W.alloc (.cells #[.string ⟨#[]⟩,.slice none 0 0] 27)).alloc (.cells #[] 93)).drew) ?_;refine step_app_run (by rfl) (.tmp 15) (.tmp 17) 25 (by rfl) _ _ _ (by rfl) (by rfl) HR3.out ?_)))
  all_goals
   go_wp2_with fail
   go_meet
   case rel=>first | exact ⟨_,_,_,rfl,HI1.out⟩ | exact ⟨_,_,_,rfl,HI2.out⟩ | exact ⟨_,_,_,rfl,HI3.out⟩
 case rest=>
  clear p0 p1 p2 p3 p4 p5 k0 k1 t0 t1 t2 t3 s0 s1 s2 s3 HR1 HR2 HR3 HI1 HI2 HI3 hbw hbu HZ hz HW
  obtain ⟨g,va,vc,rfl,hI⟩:=hcut
  have HI0:=Lib.hid hI
  have HGO:=Lib.hid hI.lo
  have HLN:Hid (l.length≤1000):=HN0.out
  clear hI
  have hll:l.length≤1000:=HLN.out
  go_wp2
  go_loopw [9] (fun i wr=>∃k:Nat,k≤l.length∧i=.int .i64 k∧Nf op l k∧RxI w g op (.slice ca l.length cc) (.slice va l.length vc) l wr) (fun i _=>l.length - (intOf i).toNat)
  case atStart=>exact ⟨0,Nat.zero_le _,rfl,fun _=>rfl,HI0.out⟩
  case round=>
   clear HI0
   obtain ⟨k,hk,rfl,hnf,hI⟩:=hrel
   by_cases hlt:k < l.length
   ·obtain ⟨b,o,rfl,hq,hbl,c0,c1,c2,f⟩:=hI.el (List.getElem?_eq_getElem hlt)
    have HST:=Lib.hid (hnf.step hlt)
    have HHE:=Lib.hid (hnf.here hlt)
    have HI:=Lib.hid hI
    have HQ:=Lib.hid hq
    have e0:=hI.blk3.cell 0
    have g0:=hI.blk8.cell 0
    have g1:=hI.blk8.cell 1
    have hop:=run_eqOpd
    generalize l[k]=y at *
    obtain ⟨yk,yr,yn⟩:=y
    dsimp only at c0 c1 c2
    clear hnf hI hq
    by_cases hjp:op=⟨#[74,80]⟩
    ·subst hjp
     go_wp2
     go_quiet (fail)
     go_wp2
     go_roundw
     case rel=>exact ⟨k+1,by omega,by go_num,HST.out (fun h=>absurd (by trivial) h),HI.out.later (below_dN (Below.refl _ _) _)⟩
     case measure=>simp [intOf];omega
    ·have hj1:(op.toList==[74,80])=false:=by
      rw [beq_eq_false_iff_ne];intro e;exact hjp (toList_inj (by rw [e];exact (Go.ByteArray.toList_eq (⟨#[74,80]⟩:ByteArray)).symm))
     have hj2:(op.toList != [74,80])=true:=by rw [bne,hj1];rfl
     have f0:=f (o+k * 3)
     have f1:=f (o+k * 3+1)
     have f2:=f (o+k * 3+2)
     have n1:¬b=w.heap.size+1:=by have:=HQ.out.1;omega
     have n2:¬w.heap.size+1=b:=fun e=>n1 e.symm
     have n3:¬b=g:=HQ.out.2
     have n4:¬g=b:=fun e=>n3 e.symm
     clear f
     cases hy:opdEq ⟨yk,yr,yn⟩ ⟨4,2,0⟩
     ·go_wp2
      go_region_held3 (fun w'=>w'.cell? ⟨w.heap.size,0,none⟩=some (.string op)∧w'.cell? ⟨g,1,none⟩=some (.slice (some ⟨b,o,none⟩) l.length vc)∧w'.cell? ⟨b,o+k * 3,none⟩=some (.int .i64 yk)∧w'.cell? ⟨b,o+k * 3+1,none⟩=some (.int .i64 yr)∧w'.cell? ⟨b,o+k * 3+2,none⟩=some (.int .i64 yn)) (go_keep)
       ((go_at_call 121;refine (ind_lit _ _).mono ?_;rintro e w' ⟨rfl,hb⟩;have HIn:=Lib.hid ((HI.out.later (Below.refl _ _).drew).later hb);have c0:=(hb.cell (p:=⟨b,o+k * 3,none⟩) hbl).trans c0;have c1:=(hb.cell (p:=⟨b,o+k * 3+1,none⟩) hbl).trans c1;have c2:=(hb.cell (p:=⟨b,o+k * 3+2,none⟩) hbl).trans c2;have e0:=HIn.out.blk3.cell 0;have g1:=HIn.out.blk8.cell 1;clear hb))
      go_wp2
      go_roundw
      case rel=>exact ⟨k+1,by omega,by go_num,HST.out (fun _=>hy),HIn.out⟩
      case measure=>simp [intOf];omega
     ·have HK:=Lib.hid (HHE.out hjp hy)
      have HLT:=Lib.hid hlt
      go_wp2
      go_region_held3 (fun w'=>w'.cell? ⟨w.heap.size,0,none⟩=some (.string op)∧w'.cell? ⟨g,1,none⟩=some (.slice (some ⟨b,o,none⟩) l.length vc)∧w'.cell? ⟨b,o+k * 3,none⟩=some (.int .i64 yk)∧w'.cell? ⟨b,o+k * 3+1,none⟩=some (.int .i64 yr)∧w'.cell? ⟨b,o+k * 3+2,none⟩=some (.int .i64 yn)) (go_keep)
       ((go_at_call 121;refine (ind_lit _ _).mono ?_;rintro e w' ⟨rfl,hb⟩;have HIn:=Lib.hid ((HI.out.later (Below.refl _ _).drew).later hb);have c0:=(hb.cell (p:=⟨b,o+k * 3,none⟩) hbl).trans c0;have c1:=(hb.cell (p:=⟨b,o+k * 3+1,none⟩) hbl).trans c1;have c2:=(hb.cell (p:=⟨b,o+k * 3+2,none⟩) hbl).trans c2;have f0:=(hb.frozen (p:=⟨b,o+k * 3,none⟩) hbl).trans f0;have f1:=(hb.frozen (p:=⟨b,o+k * 3+1,none⟩) hbl).trans f1;have f2:=(hb.frozen (p:=⟨b,o+k * 3+2,none⟩) hbl).trans f2;have e0:=HIn.out.blk3.cell 0;have g0:=HIn.out.blk8.cell 0;have g1:=HIn.out.blk8.cell 1;obtain ⟨d0,d1,d2,d3⟩:=HIn.out.blk6.two;clear hb))
      go_wp2
      have hP:=HIn.out.put ⟨5,reg,0⟩ HQ.out HLT.out
      obtain ⟨h1,h2⟩:=hP.fin (s:=op)
      have e:ixR reg op l ex=(op,l.set k ⟨5,reg,0⟩,⟨#[100]⟩++ex):=by unfold ixR;rw [if_pos ⟨by rw [HK.out];omega,hjp⟩,HK.out];rfl
      rw [e]
      exact bodyPost_ret (insE_end rfl rfl ((hP.blk6.set 0 _).set 1 _)) rfl ⟨_,rfl,h1,h2⟩
   ·have HGN:=Lib.hid (hnf.gone (by omega))
    have HI0:=Lib.hid hI
    clear hnf hI
    have g1:=HI0.out.blk8.cell 1
    go_wp2
    clear g1
    go_loopw [10,11] (fun c i wr=>∃k:Nat,k≤l.length∧i=.int .i64 k∧c=.bool (rany reg (l.take k))∧RxI w g op (.slice ca l.length cc) (.slice va l.length vc) (rmix reg l k) wr) (fun _ i _=>l.length - (intOf i).toNat)
    case atStart=>exact ⟨0,Nat.zero_le _,rfl,rfl,by rw [rmix_zero];exact HI0.out⟩
    case round=>
     clear HI0 hlt hk
     obtain ⟨k,hk,rfl,rfl,hI⟩:=hrel
     by_cases hlt:k < l.length
     ·obtain ⟨b,o,rfl,hq,hbl,c0,c1,c2,f⟩:=hI.el (rmix_at reg l k hlt)
      have HXS:=Lib.hid (rmix_step reg l k hlt)
      have HXA:=Lib.hid (rany_step reg l k hlt)
      have HMA:=Lib.hid (rmix_at reg l k hlt)
      have HKX:Hid (k < (rmix reg l k).length):=by show _ < _;rw [rmix_len];exact hlt
      have HSA:=Lib.hid (set_same9 (rmix_at reg l k hlt))
      have HI:=Lib.hid hI
      have HQ:=Lib.hid hq
      have g1:=hI.blk8.cell 1
      have hg:=hI.blk8.lt
      have hop:=run_eqOpd
      have hnp:=run_neqOpd
      generalize l[k]=y at *
      obtain ⟨yk,yr,yn⟩:=y
      dsimp only at c0 c1 c2
      generalize rmix reg l k=L at *
      generalize rany reg (l.take k)=ch at *
      have f0:=f (o+k * 3)
      have f1:=f (o+k * 3+1)
      have f2:=f (o+k * 3+2)
      have n1:¬b=wr.heap.size:=Nat.ne_of_lt hbl
      have n2:¬wr.heap.size=b:=fun e=>n1 e.symm
      have n3:¬b=g:=HQ.out.2
      have n4:¬g=b:=fun e=>n3 e.symm
      clear f hI hq
      have HC0:Hid (∀cs,(wr.alloc (.cells cs 93)).cell? ⟨b,o+k * 3,none⟩=some (.int .i64 yk)):=fun cs=>(((Below.refl _ wr).alloc (Nat.le_refl _) _).cell (p:=⟨b,o+k * 3,none⟩) hbl).trans c0
      have HC1:Hid (∀cs,(wr.alloc (.cells cs 93)).cell? ⟨b,o+k * 3+1,none⟩=some (.int .i64 yr)):=fun cs=>(((Below.refl _ wr).alloc (Nat.le_refl _) _).cell (p:=⟨b,o+k * 3+1,none⟩) hbl).trans c1
      have HC2:Hid (∀cs,(wr.alloc (.cells cs 93)).cell? ⟨b,o+k * 3+2,none⟩=some (.int .i64 yn)):=fun cs=>(((Below.refl _ wr).alloc (Nat.le_refl _) _).cell (p:=⟨b,o+k * 3+2,none⟩) hbl).trans c2
      have HF0:Hid (∀cs,(wr.alloc (.cells cs 93)).frozen? ⟨b,o+k * 3,none⟩=false):=fun cs=>(((Below.refl _ wr).alloc (Nat.le_refl _) _).frozen (p:=⟨b,o+k * 3,none⟩) hbl).trans f0
      have HF1:Hid (∀cs,(wr.alloc (.cells cs 93)).frozen? ⟨b,o+k * 3+1,none⟩=false):=fun cs=>(((Below.refl _ wr).alloc (Nat.le_refl _) _).frozen (p:=⟨b,o+k * 3+1,none⟩) hbl).trans f1
      have HF2:Hid (∀cs,(wr.alloc (.cells cs 93)).frozen? ⟨b,o+k * 3+2,none⟩=false):=fun cs=>(((Below.refl _ wr).alloc (Nat.le_refl _) _).frozen (p:=⟨b,o+k * 3+2,none⟩) hbl).trans f2
      have hR5:5≤reg:=HR5.out
      have hR6:reg≤6:=HR6.out
      cases hA:opdEq ⟨yk,yr,yn⟩ ⟨3,2,0⟩
      ·skip
       cases hB:opdEq ⟨yk,yr,yn⟩ ⟨1,4,0⟩
       ·skip
        cases hC:opdEq ⟨yk,yr,yn⟩ ⟨1,5,0⟩
        ·skip
         cases hD:opdEq ⟨yk,yr,yn⟩ ⟨4,2,0⟩
         ·skip
          have hx:rx reg ⟨yk,yr,yn⟩=⟨yk,yr,yn⟩:=by unfold rx;rw [if_neg (by rw [hA];exact Bool.false_ne_true),if_neg (by rw [hB];exact Bool.false_ne_true),if_neg (by rw [hC];exact Bool.false_ne_true),if_neg (by rw [hD];exact Bool.false_ne_true)]
          have hne:opdEq ⟨yk,yr,yn⟩ ⟨yk,yr,yn⟩=true:=by rw [opdEq_iff]
          have HX:=Lib.hid hx
          have HNE:=Lib.hid hne
          clear hx
          rw [HX.out] at HXS HXA
          rw [HSA.out] at HXS
          cases ch
          ·skip
           have HA:=Lib.hid (HI.out.later ((Below.refl _ _).alloc (Nat.le_refl _) (.cells #[.int .i64 yk,.int .i64 yr,.int .i64 yn] 93)))
           have HB:=Lib.hid (Blk.new wr 93 #[.int .i64 yk,.int .i64 yr,.int .i64 yn])
           go_wp2_with (go_at_call 121;refine (ind_lit _ _).mono ?_;rintro e w' ⟨rfl,hb⟩;have HJ:=Lib.hid (HA.out.later hb);have hbl':b < (wr.alloc (.cells #[.int .i64 yk,.int .i64 yr,.int .i64 yn] 93)).heap.size:=(by rw [World.size_alloc];omega);have c0:=(hb.cell (p:=⟨b,o+k * 3,none⟩) hbl').trans (HC0.out _);have c1:=(hb.cell (p:=⟨b,o+k * 3+1,none⟩) hbl').trans (HC1.out _);have c2:=(hb.cell (p:=⟨b,o+k * 3+2,none⟩) hbl').trans (HC2.out _);have f0:=(hb.frozen (p:=⟨b,o+k * 3,none⟩) hbl').trans (HF0.out _);have f1:=(hb.frozen (p:=⟨b,o+k * 3+1,none⟩) hbl').trans (HF1.out _);have f2:=(hb.frozen (p:=⟨b,o+k * 3+2,none⟩) hbl').trans (HF2.out _);have g1:=HJ.out.blk8.cell 1;obtain ⟨t0,t1,t2,_,_,_⟩:=(HB.out.below hb HB.out.lt).three;clear hb hbl')
           go_quiet (fail)
           go_wp2
           go_roundw
           case rel=>exact ⟨k+1,by omega,by go_num,by rw [HXA.out,HNE.out];rfl,by rw [HXS.out];exact HJ.out.later (below_dN (Below.refl _ _) _)⟩
           case measure=>simp [intOf];omega
          ·skip
           have HA:=Lib.hid (HI.out.later ((Below.refl _ _).alloc (Nat.le_refl _) (.cells #[.int .i64 yk,.int .i64 yr,.int .i64 yn] 93)))
           have HB:=Lib.hid (Blk.new wr 93 #[.int .i64 yk,.int .i64 yr,.int .i64 yn])
           go_wp2_with (go_at_call 121;refine (ind_lit _ _).mono ?_;rintro e w' ⟨rfl,hb⟩;have HJ:=Lib.hid (HA.out.later hb);have hbl':b < (wr.alloc (.cells #[.int .i64 yk,.int .i64 yr,.int .i64 yn] 93)).heap.size:=(by rw [World.size_alloc];omega);have c0:=(hb.cell (p:=⟨b,o+k * 3,none⟩) hbl').trans (HC0.out _);have c1:=(hb.cell (p:=⟨b,o+k * 3+1,none⟩) hbl').trans (HC1.out _);have c2:=(hb.cell (p:=⟨b,o+k * 3+2,none⟩) hbl').trans (HC2.out _);have f0:=(hb.frozen (p:=⟨b,o+k * 3,none⟩) hbl').trans (HF0.out _);have f1:=(hb.frozen (p:=⟨b,o+k * 3+1,none⟩) hbl').trans (HF1.out _);have f2:=(hb.frozen (p:=⟨b,o+k * 3+2,none⟩) hbl').trans (HF2.out _);have g1:=HJ.out.blk8.cell 1;obtain ⟨t0,t1,t2,_,_,_⟩:=(HB.out.below hb HB.out.lt).three;clear hb hbl')
           go_quiet (fail)
           go_wp2
           go_roundw
           case rel=>exact ⟨k+1,by omega,by go_num,by rw [HXA.out,HNE.out];rfl,by rw [HXS.out];exact HJ.out.later (below_dN (Below.refl _ _) _)⟩
           case measure=>simp [intOf];omega
         ·obtain ⟨rfl,rfl,rfl⟩:=opd3 hD
          have hx:rx reg ⟨4,2,0⟩=⟨4,reg,0⟩:=by unfold rx;rw [if_neg (by rw [hA];exact Bool.false_ne_true),if_neg (by rw [hB];exact Bool.false_ne_true),if_neg (by rw [hC];exact Bool.false_ne_true),if_pos hD]
          have hne:opdEq ⟨4,reg,0⟩ ⟨4,2,0⟩=false:=by rw [opdEq_no];intro e;injection e with e1 e2 e3;omega
          have HX:=Lib.hid hx
          have HNE:=Lib.hid hne
          clear hx
          rw [HX.out] at HXS HXA
          cases ch
          ·skip
           have HA:=Lib.hid (HI.out.later ((Below.refl _ _).alloc (Nat.le_refl _) (.cells #[.int .i64 4,.int .i64 2,.int .i64 0] 93)))
           have HB:=Lib.hid (Blk.new wr 93 #[.int .i64 4,.int .i64 2,.int .i64 0])
           go_wp2_with (go_at_call 121;refine (ind_lit _ _).mono ?_;rintro e w' ⟨rfl,hb⟩;have HJ:=Lib.hid (HA.out.later hb);have hbl':b < (wr.alloc (.cells #[.int .i64 4,.int .i64 2,.int .i64 0] 93)).heap.size:=(by rw [World.size_alloc];omega);have c0:=(hb.cell (p:=⟨b,o+k * 3,none⟩) hbl').trans (HC0.out _);have c1:=(hb.cell (p:=⟨b,o+k * 3+1,none⟩) hbl').trans (HC1.out _);have c2:=(hb.cell (p:=⟨b,o+k * 3+2,none⟩) hbl').trans (HC2.out _);have f0:=(hb.frozen (p:=⟨b,o+k * 3,none⟩) hbl').trans (HF0.out _);have f1:=(hb.frozen (p:=⟨b,o+k * 3+1,none⟩) hbl').trans (HF1.out _);have f2:=(hb.frozen (p:=⟨b,o+k * 3+2,none⟩) hbl').trans (HF2.out _);have g1:=HJ.out.blk8.cell 1;obtain ⟨t0,t1,t2,_,_,_⟩:=(HB.out.below hb HB.out.lt).three;clear hb hbl')
           go_quiet (fail)
           go_wp2
           go_roundw
           case rel=>exact ⟨k+1,by omega,by go_num,by rw [HXA.out,HNE.out];rfl,by rw [HXS.out];exact (HJ.out.setRg reg HQ.out HMA.out).later (below_dN (Below.refl _ _) _)⟩
           case measure=>simp [intOf];omega
          ·skip
           have HA:=Lib.hid (HI.out.later ((Below.refl _ _).alloc (Nat.le_refl _) (.cells #[.int .i64 4,.int .i64 2,.int .i64 0] 93)))
           have HB:=Lib.hid (Blk.new wr 93 #[.int .i64 4,.int .i64 2,.int .i64 0])
           go_wp2_with (go_at_call 121;refine (ind_lit _ _).mono ?_;rintro e w' ⟨rfl,hb⟩;have HJ:=Lib.hid (HA.out.later hb);have hbl':b < (wr.alloc (.cells #[.int .i64 4,.int .i64 2,.int .i64 0] 93)).heap.size:=(by rw [World.size_alloc];omega);have c0:=(hb.cell (p:=⟨b,o+k * 3,none⟩) hbl').trans (HC0.out _);have c1:=(hb.cell (p:=⟨b,o+k * 3+1,none⟩) hbl').trans (HC1.out _);have c2:=(hb.cell (p:=⟨b,o+k * 3+2,none⟩) hbl').trans (HC2.out _);have f0:=(hb.frozen (p:=⟨b,o+k * 3,none⟩) hbl').trans (HF0.out _);have f1:=(hb.frozen (p:=⟨b,o+k * 3+1,none⟩) hbl').trans (HF1.out _);have f2:=(hb.frozen (p:=⟨b,o+k * 3+2,none⟩) hbl').trans (HF2.out _);have g1:=HJ.out.blk8.cell 1;obtain ⟨t0,t1,t2,_,_,_⟩:=(HB.out.below hb HB.out.lt).three;clear hb hbl')
           go_quiet (fail)
           go_wp2
           go_roundw
           case rel=>exact ⟨k+1,by omega,by go_num,by rw [HXA.out,HNE.out];rfl,by rw [HXS.out];exact (HJ.out.setRg reg HQ.out HMA.out).later (below_dN (Below.refl _ _) _)⟩
           case measure=>simp [intOf];omega
        ·obtain ⟨rfl,rfl,rfl⟩:=opd3 hC
         have hx:rx reg ⟨1,5,0⟩=⟨2,2 * (reg - 5)+5 - 4,0⟩:=by unfold rx;rw [if_neg (by rw [hA];exact Bool.false_ne_true),if_neg (by rw [hB];exact Bool.false_ne_true),if_pos hC]
         have hne:opdEq ⟨2,2 * (reg - 5)+5 - 4,0⟩ ⟨1,5,0⟩=false:=by rw [opdEq_no];intro e;injection e with e1 e2 e3;omega
         have HX:=Lib.hid hx
         have HNE:=Lib.hid hne
         clear hx
         rw [HX.out] at HXS HXA
         cases ch
         ·skip
          go_wp2
          go_quiet (fail)
          go_wp2
          go_roundw
          case rel=>exact ⟨k+1,by omega,by go_num,by rw [HXA.out,HNE.out];rfl,by rw [HXS.out];exact ((HI.out.put ⟨2,2 * (reg - 5)+5 - 4,0⟩ HQ.out HKX.out).later ((Below.refl _ _).alloc (Nat.le_refl _) (.cells #[.int .i64 1,.int .i64 5,.int .i64 0] 93))).later (below_dN (Below.refl _ _) _)⟩
          case measure=>simp [intOf];omega
         ·skip
          go_wp2
          go_quiet (fail)
          go_wp2
          go_roundw
          case rel=>exact ⟨k+1,by omega,by go_num,by rw [HXA.out,HNE.out];rfl,by rw [HXS.out];exact ((HI.out.put ⟨2,2 * (reg - 5)+5 - 4,0⟩ HQ.out HKX.out).later ((Below.refl _ _).alloc (Nat.le_refl _) (.cells #[.int .i64 1,.int .i64 5,.int .i64 0] 93))).later (below_dN (Below.refl _ _) _)⟩
          case measure=>simp [intOf];omega
       ·obtain ⟨rfl,rfl,rfl⟩:=opd3 hB
        have hx:rx reg ⟨1,4,0⟩=⟨2,2 * (reg - 5),0⟩:=by unfold rx;rw [if_neg (by rw [hA];exact Bool.false_ne_true),if_pos hB]
        have hne:opdEq ⟨2,2 * (reg - 5),0⟩ ⟨1,4,0⟩=false:=by rw [opdEq_no];intro e;injection e with e1 e2 e3;omega
        have HX:=Lib.hid hx
        have HNE:=Lib.hid hne
        clear hx
        rw [HX.out] at HXS HXA
        cases ch
        ·skip
         go_wp2
         go_quiet (fail)
         go_wp2
         go_roundw
         case rel=>exact ⟨k+1,by omega,by go_num,by rw [HXA.out,HNE.out];rfl,by rw [HXS.out];exact ((HI.out.put ⟨2,2 * (reg - 5),0⟩ HQ.out HKX.out).later ((Below.refl _ _).alloc (Nat.le_refl _) (.cells #[.int .i64 1,.int .i64 4,.int .i64 0] 93))).later (below_dN (Below.refl _ _) _)⟩
         case measure=>simp [intOf];omega
        ·skip
         go_wp2
         go_quiet (fail)
         go_wp2
         go_roundw
         case rel=>exact ⟨k+1,by omega,by go_num,by rw [HXA.out,HNE.out];rfl,by rw [HXS.out];exact ((HI.out.put ⟨2,2 * (reg - 5),0⟩ HQ.out HKX.out).later ((Below.refl _ _).alloc (Nat.le_refl _) (.cells #[.int .i64 1,.int .i64 4,.int .i64 0] 93))).later (below_dN (Below.refl _ _) _)⟩
         case measure=>simp [intOf];omega
      ·obtain ⟨rfl,rfl,rfl⟩:=opd3 hA
       have hx:rx reg ⟨3,2,0⟩=⟨3,reg,0⟩:=by unfold rx;rw [if_pos hA]
       have hne:opdEq ⟨3,reg,0⟩ ⟨3,2,0⟩=false:=by rw [opdEq_no];intro e;injection e with e1 e2 e3;omega
       have HX:=Lib.hid hx
       have HNE:=Lib.hid hne
       clear hx
       rw [HX.out] at HXS HXA
       cases ch
       ·skip
        go_wp2
        go_quiet (fail)
        go_wp2
        go_roundw
        case rel=>exact ⟨k+1,by omega,by go_num,by rw [HXA.out,HNE.out];rfl,by rw [HXS.out];exact ((HI.out.setRg reg HQ.out HMA.out).later ((Below.refl _ _).alloc (Nat.le_refl _) (.cells #[.int .i64 3,.int .i64 2,.int .i64 0] 93))).later (below_dN (Below.refl _ _) _)⟩
        case measure=>simp [intOf];omega
       ·skip
        go_wp2
        go_quiet (fail)
        go_wp2
        go_roundw
        case rel=>exact ⟨k+1,by omega,by go_num,by rw [HXA.out,HNE.out];rfl,by rw [HXS.out];exact ((HI.out.setRg reg HQ.out HMA.out).later ((Below.refl _ _).alloc (Nat.le_refl _) (.cells #[.int .i64 3,.int .i64 2,.int .i64 0] 93))).later (below_dN (Below.refl _ _) _)⟩
        case measure=>simp [intOf];omega
     ·have HTK:rany reg (l.take k)=rany reg l:=by rw [List.take_of_length_le (by omega)]
      rw [rmix_all reg l k (by omega)] at hI
      have HI:=Lib.hid hI
      have g1:=hI.blk8.cell 1
      clear hI
      cases hch:rany reg (l.take k)
      ·have hE:ixR reg op l ex=(⟨#[]⟩,[],⟨#[]⟩):=by unfold ixR;rw [if_neg HGN.out,if_pos (.inl (HTK.symm.trans hch))]
       have HE:=Lib.hid hE
       clear HTK hch hE
       go_wp2
       go_quiet (fail)
       have HJ:=Lib.hid (HI.out.later (below_dN (Below.refl _ _) nq))
       obtain ⟨d0,d1,d2,d3⟩:=HI.out.blk6.two
       go_wp2
       obtain ⟨h1,h2⟩:=put_ins (x:=.string ⟨#[]⟩) (y:=.slice none 0 0) HJ.out.below (opdOwn_none _ (fun k=>w.heap.size+1 < k)) (fun k hk=>hk) (Nat.le_succ _)
       rw [HE.out]
       exact bodyPost_ret (insE_end rfl rfl ((HJ.out.blk6.set 0 _).set 1 _)) rfl ⟨_,rfl,h1,h2⟩
      ·have HSV:=HSV0
       have hR:rany reg l=true:=HTK.symm.trans hch
       have HH:=Lib.hid hR
       clear HTK hch hR g1
       have HJ:=Lib.hid (HI.out.later (Below.refl _ _).drew)
       cases hq:insEq ⟨op,l⟩ ⟨⟨#[69,88]⟩,[rpF 1 3,rpF 2 3]⟩
       all_goals
        have e0:=HI.out.blk3.cell 0
        have e1:=HI.out.blk3.cell 1
        have HSM:=Lib.hid (fun q r v2 W h1 h2=>ref07Same_any q r ⟨op,l⟩ ⟨⟨#[69,88]⟩,[rpF 1 3,rpF 2 3]⟩ (.slice ca l.length cc) v2 W h1 h2)
        rw [hq] at HSM
        have HQQ:=Lib.hid hq
        clear hq
        have g1:=HI.out.blk8.cell 1
        go_wp2
        clear g1
        go_region_held3 (fun w'=>w'.cell? ⟨w.heap.size,0,none⟩=some (.string op)∧w'.cell? ⟨w.heap.size,1,none⟩=some (.slice ca l.length cc)) (go_keep)
         (first
          | (go_at_call 120;refine (rp_any _ _ _).mono ?_;rintro e w' ⟨rfl,hb⟩;have HJ:=Lib.hid (HJ.out.later hb);have e0:=HJ.out.blk3.cell 0;have e1:=HJ.out.blk3.cell 1;clear hb)
          | (go_at_call 115;refine (two_any _ _ _).mono ?_;rintro e w' ⟨v2,rfl,ho,hb⟩;obtain ⟨va2,vc2,rfl⟩:=ho.form;have HO:=Lib.hid ho;have HJ:=Lib.hid (HJ.out.later hb);have e0:=HJ.out.blk3.cell 0;have e1:=HJ.out.blk3.cell 1;clear ho hb)
          | (go_at_call 114;refine (ins9_any _ _ _ _ _ HO.out).mono ?_;rintro e w' ⟨rfl,ho,hb⟩;have HO:=Lib.hid ho;have HJ:=Lib.hid (HJ.out.later hb);have e0:=HJ.out.blk3.cell 0;have e1:=HJ.out.blk3.cell 1;clear ho hb)
          | (go_at_call 22;refine (HSM.out _ _ _ _ (HSV.out.below HJ.out.below) HO.out.slR).mono ?_;rintro e w' ⟨rfl,hb⟩;have HJ:=Lib.hid (HJ.out.later hb);have e0:=HJ.out.blk3.cell 0;have e1:=HJ.out.blk3.cell 1;clear hb))
        obtain ⟨d0,d1,d2,d3⟩:=HJ.out.blk6.two
        have g0:=HJ.out.blk8.cell 0
        have g1:=HJ.out.blk8.cell 1
        go_wp2
       ·have hE:ixR reg op l ex=(op,l.map (rx reg),ex):=by unfold ixR;rw [if_neg HGN.out,if_neg (fun h=>h.elim (fun h=>by rw [HH.out] at h;cases h) (fun h=>by rw [HQQ.out] at h;cases h))]
        rw [hE]
        obtain ⟨h1,h2⟩:=HJ.out.fin (s:=op)
        exact bodyPost_ret (insE_end rfl rfl ((HJ.out.blk6.set 0 _).set 1 _)) rfl ⟨_,rfl,h1,h2⟩
       ·have hE:ixR reg op l ex=(⟨#[]⟩,[],⟨#[]⟩):=by unfold ixR;rw [if_neg HGN.out,if_pos (.inr HQQ.out)]
        rw [hE]
        obtain ⟨h1,h2⟩:=put_ins (x:=.string ⟨#[]⟩) (y:=.slice none 0 0) HJ.out.below (opdOwn_none _ (fun k=>w.heap.size+1 < k)) (fun k hk=>hk) (Nat.le_succ _)
        exact bodyPost_ret (insE_end rfl rfl ((HJ.out.blk6.set 0 _).set 1 _)) rfl ⟨_,rfl,h1,h2⟩
end Go.Proofs.YtnbmbcjnncbaiaaGreatDoor
namespace Go.Proofs.YtnbmbcjnncbaiaaGreatDoor
set_option maxHeartbeats 8000000
set_option maxRecDepth 100000
open Go.RowKit Go.Shelf Go.Sort
theorem cb_lit (op a b c:Int) (h0:0≤op) (h8:op < 256) (w:World):Calls Tryz.prog 83 #[.int .u8 op,.agg #[.int .i64 a,.int .i64 b,.int .i64 c]] w (InsOw w (cbF op ⟨a,b,c⟩).1 (cbF op ⟨a,b,c⟩).2):=cb9_any op ⟨a,b,c⟩ h0 h8 w
theorem entry6g {w:World} {g:Nat} {t:TypeId} {z0 z1 z2 z3 z4 z5:Value} (h:Blk w g t #[z0,z1,z2,z3,z4,z5]) (a0 a1 a2 a3 a4 a5:Value):Blk (set6 w g a0 a1 a2 a3 a4 a5) g t #[a0,a1,a2,a3,a4,a5]:=(((((h.set 0 _).set 1 _).set 2 _).set 3 _).set 4 _).set 5 _
theorem Fr.grown {w0 W w':World} {L:List (Nat × TypeId × Array Value)} {row:Option Nat} (h:Fr w0 L W) (hg:W.grownBy w' row) (hr:∀k,row=some k→w0.heap.size≤k∧∀x∈L,x.1≠k):Fr w0 L w':=
 ⟨h.below.grown hg h.below.size (fun k e=>(hr k e).1),fun x hx=>(h.at' x hx).grown hg (fun e=>(hr x.1 e.symm).2 x hx rfl)⟩
def EntP (w:World) (pg:Int) (op:Int) (s:ByteArray) (l:List Opd) (ex:ByteArray) (al:Bool) (e:Ending) (w':World):Prop:=
 ∃v,e=.returned (.agg #[.int .i64 pg,.int .u8 op,.string s,v,.string ex,.bool al])∧OpdOwn w' (fun b=>w.heap.size≤b) v l∧Below w.heap.size w w'
def both9F (pg op:Int):ByteArray × List Opd × Bool:=
 if op % 8=6 then ((cbF op ⟨5,pg,0⟩).1,(cbF op ⟨5,pg,0⟩).2,false) else if op / 64=1 then ((cbF op ⟨5,pg,0⟩).1,(cbF op ⟨5,pg,0⟩).2,true)
 else ((cbF op ⟨5,pg,0⟩).1,(cbF op ⟨5,pg,0⟩).2++[rF (op % 8)],false)
theorem OwO.set6 {w:World} {B g:Nat} {v:Value} {l:List Opd} (h:OwO w B v l) (hg:g < B) (a0 a1 a2 a3 a4 a5:Value):OwO (set6 w g a0 a1 a2 a3 a4 a5) B v l:=
 (((((h.far (p:=⟨g,0,none⟩) hg _).far (p:=⟨g,1,none⟩) hg _).far (p:=⟨g,2,none⟩) hg _).far (p:=⟨g,3,none⟩) hg _).far (p:=⟨g,4,none⟩) hg _).far (p:=⟨g,5,none⟩) hg _
theorem OwO.opd {w:World} {B C:Nat} {v:Value} {l:List Opd} (h:OwO w B v l) (hC:C≤B):OpdOwn w (fun b=>C≤b) v l:=Own.opdOwn h (fun k hk=>Nat.le_trans hC (Own.lt h k hk).1)
theorem both9_a (pg op:Int) (h0:0≤op) (h8:op < 256) (hl:(cbF op ⟨5,pg,0⟩).2.length≤100) (_h6:op % 8=6) (w:World):Calls Tryz.prog 87 #[.int .i64 pg,.int .u8 op] w (EntP w pg op (cbF op ⟨5,pg,0⟩).1 (cbF op ⟨5,pg,0⟩).2 ⟨#[100]⟩ false):=by
 have HCB:=Lib.hid (fun W=>cb_lit op 5 pg 0 h0 h8 W)
 have HF:=Lib.hid (((Fr.start w).new 85 #[.int .i64 0,.int .u8 0,.string ⟨#[]⟩,.slice none 0 0,.string ⟨#[]⟩,.bool false]).new' 85 #[.int .i64 pg,.int .u8 op,.string ⟨#[]⟩,.slice none 0 0,.string ⟨#[100]⟩,.bool false] (b:=w.heap.size+1) (by rw [World.size_alloc]))
 have HL:=Lib.hid hl
 clear hl
 generalize (cbF op ⟨5,pg,0⟩).1=s at *
 generalize (cbF op ⟨5,pg,0⟩).2=l at *
 go_enter Tryz.func87,Tryz.ntmps87
 go_wp2_with fail
 refine (HCB.out _).mono ?_
 rintro e w1 ⟨v,rfl,ho,hb⟩
 obtain ⟨va,vc,rfl⟩:=ho.form
 have HO0:=Lib.hid ho
 have H:=Lib.hid (HF.out.next hb)
 have hs1:w.heap.size+2≤w1.heap.size:=by have:=(H.out.blk 0 rfl).lt;omega
 have HO:Hid (OwO w1 (w.heap.size+2) (.slice va l.length vc) l):=Own.base ho (by rw [World.size_alloc,World.size_alloc];omega)
 clear ho hb HO0
 have e0:=(H.out.blk 0 rfl).cell 0
 have e1:=(H.out.blk 0 rfl).cell 1
 have e2:=(H.out.blk 0 rfl).cell 2
 have e3:=(H.out.blk 0 rfl).cell 3
 have e4:=(H.out.blk 0 rfl).cell 4
 have e5:=(H.out.blk 0 rfl).cell 5
 have z2:=(H.out.blk 0 rfl).free 2
 have z3:=(H.out.blk 0 rfl).free 3
 have z5:=(H.out.blk 0 rfl).free 5
 have r0:=(H.out.blk 1 rfl).cell 0
 have r1:=(H.out.blk 1 rfl).cell 1
 have r2:=(H.out.blk 1 rfl).cell 2
 have r3:=(H.out.blk 1 rfl).cell 3
 have r4:=(H.out.blk 1 rfl).cell 4
 have r5:=(H.out.blk 1 rfl).cell 5
 have y0:=(H.out.blk 1 rfl).free 0
 have y1:=(H.out.blk 1 rfl).free 1
 have y2:=(H.out.blk 1 rfl).free 2
 have y3:=(H.out.blk 1 rfl).free 3
 have y4:=(H.out.blk 1 rfl).free 4
 have y5:=(H.out.blk 1 rfl).free 5
 have HW:Hid (OwO ((w1.setCell ⟨w.heap.size+1,2,none⟩ (.string s)).setCell ⟨w.heap.size+1,3,none⟩ (.slice va l.length vc)) (w.heap.size+2) (.slice va l.length vc) l):=(HO.out.far (p:=⟨w.heap.size+1,2,none⟩) (Nat.lt_succ_self _) _).far (p:=⟨w.heap.size+1,3,none⟩) (Nat.lt_succ_self _) _
 have HB:Hid (Below w.heap.size w ((w1.setCell ⟨w.heap.size+1,2,none⟩ (.string s)).setCell ⟨w.heap.size+1,3,none⟩ (.slice va l.length vc))):=(H.out.below.setCell (p:=⟨w.heap.size+1,2,none⟩) (Nat.le_succ _) _).setCell (p:=⟨w.heap.size+1,3,none⟩) (Nat.le_succ _) _
 have HR:Hid (Blk ((w1.setCell ⟨w.heap.size+1,2,none⟩ (.string s)).setCell ⟨w.heap.size+1,3,none⟩ (.slice va l.length vc)) w.heap.size 85 #[.int .i64 0,.int .u8 0,.string ⟨#[]⟩,.slice none 0 0,.string ⟨#[]⟩,.bool false]):=((H.out.blk 1 rfl).far (p:=⟨w.heap.size+1,2,none⟩) (Nat.ne_of_lt (Nat.lt_succ_self _)) _).far (p:=⟨w.heap.size+1,3,none⟩) (Nat.ne_of_lt (Nat.lt_succ_self _)) _
 go_wp2
 exact bodyPost_ret (results_row1 rfl _ _ w.heap.size 85 #[.int .i64 pg,.int .u8 op,.string s,.slice va l.length vc,.string ⟨#[100]⟩,.bool false] (0,0) _ rfl (entry6g HR.out _ _ _ _ _ _) Tryz.underlying85 rfl (by kernel_rfl)) rfl ⟨_,rfl,(HW.out.set6 (by omega) _ _ _ _ _ _).opd (by omega),set6_below HB.out (Nat.le_refl _) _ _ _ _ _ _⟩
theorem both9_b (pg op:Int) (h0:0≤op) (h8:op < 256) (hl:(cbF op ⟨5,pg,0⟩).2.length≤100) (h6:¬op % 8=6) (_h64:op / 64=1) (w:World):Calls Tryz.prog 87 #[.int .i64 pg,.int .u8 op] w (EntP w pg op (cbF op ⟨5,pg,0⟩).1 (cbF op ⟨5,pg,0⟩).2 ⟨#[100]⟩ true):=by
 have HCB:=Lib.hid (fun W=>cb_lit op 5 pg 0 h0 h8 W)
 have HF:=Lib.hid (((Fr.start w).new 85 #[.int .i64 0,.int .u8 0,.string ⟨#[]⟩,.slice none 0 0,.string ⟨#[]⟩,.bool false]).new' 85 #[.int .i64 pg,.int .u8 op,.string ⟨#[]⟩,.slice none 0 0,.string ⟨#[100]⟩,.bool false] (b:=w.heap.size+1) (by rw [World.size_alloc]))
 have HL:=Lib.hid hl
 clear hl
 generalize (cbF op ⟨5,pg,0⟩).1=s at *
 generalize (cbF op ⟨5,pg,0⟩).2=l at *
 go_enter Tryz.func87,Tryz.ntmps87
 go_wp2_with fail
 refine (HCB.out _).mono ?_
 rintro e w1 ⟨v,rfl,ho,hb⟩
 obtain ⟨va,vc,rfl⟩:=ho.form
 have HO0:=Lib.hid ho
 have H:=Lib.hid (HF.out.next hb)
 have hs1:w.heap.size+2≤w1.heap.size:=by have:=(H.out.blk 0 rfl).lt;omega
 have HO:Hid (OwO w1 (w.heap.size+2) (.slice va l.length vc) l):=Own.base ho (by rw [World.size_alloc,World.size_alloc];omega)
 clear ho hb HO0
 have e0:=(H.out.blk 0 rfl).cell 0
 have e1:=(H.out.blk 0 rfl).cell 1
 have e2:=(H.out.blk 0 rfl).cell 2
 have e3:=(H.out.blk 0 rfl).cell 3
 have e4:=(H.out.blk 0 rfl).cell 4
 have e5:=(H.out.blk 0 rfl).cell 5
 have z2:=(H.out.blk 0 rfl).free 2
 have z3:=(H.out.blk 0 rfl).free 3
 have z5:=(H.out.blk 0 rfl).free 5
 have r0:=(H.out.blk 1 rfl).cell 0
 have r1:=(H.out.blk 1 rfl).cell 1
 have r2:=(H.out.blk 1 rfl).cell 2
 have r3:=(H.out.blk 1 rfl).cell 3
 have r4:=(H.out.blk 1 rfl).cell 4
 have r5:=(H.out.blk 1 rfl).cell 5
 have y0:=(H.out.blk 1 rfl).free 0
 have y1:=(H.out.blk 1 rfl).free 1
 have y2:=(H.out.blk 1 rfl).free 2
 have y3:=(H.out.blk 1 rfl).free 3
 have y4:=(H.out.blk 1 rfl).free 4
 have y5:=(H.out.blk 1 rfl).free 5
 have HW:Hid (OwO ((w1.setCell ⟨w.heap.size+1,2,none⟩ (.string s)).setCell ⟨w.heap.size+1,3,none⟩ (.slice va l.length vc)) (w.heap.size+2) (.slice va l.length vc) l):=(HO.out.far (p:=⟨w.heap.size+1,2,none⟩) (Nat.lt_succ_self _) _).far (p:=⟨w.heap.size+1,3,none⟩) (Nat.lt_succ_self _) _
 have HB:Hid (Below w.heap.size w ((w1.setCell ⟨w.heap.size+1,2,none⟩ (.string s)).setCell ⟨w.heap.size+1,3,none⟩ (.slice va l.length vc))):=(H.out.below.setCell (p:=⟨w.heap.size+1,2,none⟩) (Nat.le_succ _) _).setCell (p:=⟨w.heap.size+1,3,none⟩) (Nat.le_succ _) _
 have HR:Hid (Blk ((w1.setCell ⟨w.heap.size+1,2,none⟩ (.string s)).setCell ⟨w.heap.size+1,3,none⟩ (.slice va l.length vc)) w.heap.size 85 #[.int .i64 0,.int .u8 0,.string ⟨#[]⟩,.slice none 0 0,.string ⟨#[]⟩,.bool false]):=((H.out.blk 1 rfl).far (p:=⟨w.heap.size+1,2,none⟩) (Nat.ne_of_lt (Nat.lt_succ_self _)) _).far (p:=⟨w.heap.size+1,3,none⟩) (Nat.ne_of_lt (Nat.lt_succ_self _)) _
 have h6':(op % 8==6)=false:=by rw [beq_eq_false_iff_ne];exact h6
 have HW2:=Lib.hid (HW.out.far (p:=⟨w.heap.size+1,5,none⟩) (Nat.lt_succ_self _) (.bool true))
 have HB2:=Lib.hid (HB.out.setCell (p:=⟨w.heap.size+1,5,none⟩) (Nat.le_succ _) (.bool true))
 have HR2:=Lib.hid (HR.out.far (p:=⟨w.heap.size+1,5,none⟩) (Nat.ne_of_lt (Nat.lt_succ_self _)) (.bool true))
 go_wp2
 exact bodyPost_ret (results_row1 rfl _ _ w.heap.size 85 #[.int .i64 pg,.int .u8 op,.string s,.slice va l.length vc,.string ⟨#[100]⟩,.bool true] (0,0) _ rfl (entry6g HR2.out _ _ _ _ _ _) Tryz.underlying85 rfl (by kernel_rfl)) rfl ⟨_,rfl,(HW2.out.set6 (by omega) _ _ _ _ _ _).opd (by omega),set6_below HB2.out (Nat.le_refl _) _ _ _ _ _ _⟩
theorem both9_c (pg op:Int) (h0:0≤op) (h8:op < 256) (hl:(cbF op ⟨5,pg,0⟩).2.length≤100) (h6:¬op % 8=6) (h64:¬op / 64=1) (w:World):Calls Tryz.prog 87 #[.int .i64 pg,.int .u8 op] w (EntP w pg op (cbF op ⟨5,pg,0⟩).1 ((cbF op ⟨5,pg,0⟩).2++[rF (op % 8)]) ⟨#[100]⟩ false):=by
 have HCB:=Lib.hid (fun W=>cb_lit op 5 pg 0 h0 h8 W)
 have HF:=Lib.hid (((Fr.start w).new 85 #[.int .i64 0,.int .u8 0,.string ⟨#[]⟩,.slice none 0 0,.string ⟨#[]⟩,.bool false]).new' 85 #[.int .i64 pg,.int .u8 op,.string ⟨#[]⟩,.slice none 0 0,.string ⟨#[100]⟩,.bool false] (b:=w.heap.size+1) (by rw [World.size_alloc]))
 have HL:=Lib.hid hl
 clear hl
 generalize (cbF op ⟨5,pg,0⟩).1=s at *
 generalize (cbF op ⟨5,pg,0⟩).2=l at *
 go_enter Tryz.func87,Tryz.ntmps87
 go_wp2_with fail
 refine (HCB.out _).mono ?_
 rintro e w1 ⟨v,rfl,ho,hb⟩
 obtain ⟨va,vc,rfl⟩:=ho.form
 have HO0:=Lib.hid ho
 have H:=Lib.hid (HF.out.next hb)
 have hs1:w.heap.size+2≤w1.heap.size:=by have:=(H.out.blk 0 rfl).lt;omega
 have HO:Hid (OwO w1 (w.heap.size+2) (.slice va l.length vc) l):=Own.base ho (by rw [World.size_alloc,World.size_alloc];omega)
 clear ho hb HO0
 have e0:=(H.out.blk 0 rfl).cell 0
 have e1:=(H.out.blk 0 rfl).cell 1
 have e2:=(H.out.blk 0 rfl).cell 2
 have e3:=(H.out.blk 0 rfl).cell 3
 have e4:=(H.out.blk 0 rfl).cell 4
 have e5:=(H.out.blk 0 rfl).cell 5
 have z2:=(H.out.blk 0 rfl).free 2
 have z3:=(H.out.blk 0 rfl).free 3
 have z5:=(H.out.blk 0 rfl).free 5
 have r0:=(H.out.blk 1 rfl).cell 0
 have r1:=(H.out.blk 1 rfl).cell 1
 have r2:=(H.out.blk 1 rfl).cell 2
 have r3:=(H.out.blk 1 rfl).cell 3
 have r4:=(H.out.blk 1 rfl).cell 4
 have r5:=(H.out.blk 1 rfl).cell 5
 have y0:=(H.out.blk 1 rfl).free 0
 have y1:=(H.out.blk 1 rfl).free 1
 have y2:=(H.out.blk 1 rfl).free 2
 have y3:=(H.out.blk 1 rfl).free 3
 have y4:=(H.out.blk 1 rfl).free 4
 have y5:=(H.out.blk 1 rfl).free 5
 have HW:Hid (OwO ((w1.setCell ⟨w.heap.size+1,2,none⟩ (.string s)).setCell ⟨w.heap.size+1,3,none⟩ (.slice va l.length vc)) (w.heap.size+2) (.slice va l.length vc) l):=(HO.out.far (p:=⟨w.heap.size+1,2,none⟩) (Nat.lt_succ_self _) _).far (p:=⟨w.heap.size+1,3,none⟩) (Nat.lt_succ_self _) _
 have HB:Hid (Below w.heap.size w ((w1.setCell ⟨w.heap.size+1,2,none⟩ (.string s)).setCell ⟨w.heap.size+1,3,none⟩ (.slice va l.length vc))):=(H.out.below.setCell (p:=⟨w.heap.size+1,2,none⟩) (Nat.le_succ _) _).setCell (p:=⟨w.heap.size+1,3,none⟩) (Nat.le_succ _) _
 have HR:Hid (Blk ((w1.setCell ⟨w.heap.size+1,2,none⟩ (.string s)).setCell ⟨w.heap.size+1,3,none⟩ (.slice va l.length vc)) w.heap.size 85 #[.int .i64 0,.int .u8 0,.string ⟨#[]⟩,.slice none 0 0,.string ⟨#[]⟩,.bool false]):=((H.out.blk 1 rfl).far (p:=⟨w.heap.size+1,2,none⟩) (Nat.ne_of_lt (Nat.lt_succ_self _)) _).far (p:=⟨w.heap.size+1,3,none⟩) (Nat.ne_of_lt (Nat.lt_succ_self _)) _
 have h6':(op % 8==6)=false:=by rw [beq_eq_false_iff_ne];exact h6
 have h64':(op / 64==1)=false:=by rw [beq_eq_false_iff_ne];exact h64
 have HE:Hid (Blk ((w1.setCell ⟨w.heap.size+1,2,none⟩ (.string s)).setCell ⟨w.heap.size+1,3,none⟩ (.slice va l.length vc)) (w.heap.size+1) 85 #[.int .i64 pg,.int .u8 op,.string s,.slice va l.length vc,.string ⟨#[100]⟩,.bool false]):=((H.out.blk 0 rfl).set 2 _).set 3 _
 have hsz:Hid (w.heap.size+2≤((w1.setCell ⟨w.heap.size+1,2,none⟩ (.string s)).setCell ⟨w.heap.size+1,3,none⟩ (.slice va l.length vc)).heap.size):=by show _≤_;rw [World.size_setCell,World.size_setCell];exact hs1
 go_wp2
 clear e0 e1 e2 e3 e4 e5 z2 z3 z5 r0 r1 r2 r3 r4 r5 y0 y1 y2 y3 y4 y5
 generalize (w1.setCell ⟨w.heap.size+1,2,none⟩ (.string s)).setCell ⟨w.heap.size+1,3,none⟩ (.slice va l.length vc)=W1 at *
 clear H HO hs1
 have e3:=HE.out.cell 3
 have hll:l.length≤100:=HL.out
 have hm1:op.tmod 8=op % 8:=Int.tmod_eq_emod_of_nonneg h0
 have hm2:IntKind.i64.wrap (op % 8)=op % 8:=IntWalk.i64_in _ (by omega)
 go_region_law ((first
  | (refine step_app_run (by rfl) (.tmp 25) (.tmp 30) 25 (by rfl) _ _ _ (by rfl) (by rfl) HRUN.out ?_)
  | (go_simp;go_at_call 84;refine (r_any _ _).mono ?_;rintro e w2 ⟨rfl,hb⟩;obtain ⟨a3,c3,w3,hrun,hp,hg⟩:=Own.pushed (P:=Tryz.prog) (ty:=25) elOpd (h:=(HW.out.below (Below.refl _ _).drew).below hb) (x:=rF (op % 8)) #[.int .i64 (rF (op % 8)).kind,.int .i64 (rF (op % 8)).reg,.int .i64 (rF (op % 8)).n] rfl (by omega) (by omega) (Nat.le_trans hsz.out hb.size);have HRUN:=Lib.hid hrun;have HP:=Lib.hid hp;have HE2:=Lib.hid (HE.out.drew.below hb HE.out.lt);have q3:=HE2.out.cell 3;have hq:=HE2.out.lt;have hrow:∀k,Value.ownBlock (.slice va l.length vc)=some k→w.heap.size+2≤k:=(fun k hk=>(Own.lt HW.out k hk).1);have HE3:=Lib.hid (HE2.out.grown hg (fun e=>by have:=hrow _ e.symm;omega));have HR3:=Lib.hid ((HR.out.drew.below hb HR.out.lt).grown hg (fun e=>by have:=hrow _ e.symm;omega));have HB3:=Lib.hid (((HB.out.drew).trans (hb.mono (by have:=hsz.out;show _≤W1.heap.size;omega))).grown hg (by have:=hsz.out;have:=hb.size;have:W1.heap.size≤w2.heap.size:=hb.size;omega) (fun k hk=>by have:=hrow k hk;omega));have x0:=HE3.out.cell 0;have x1:=HE3.out.cell 1;have x2:=HE3.out.cell 2;have x3:=HE3.out.cell 3;have x4:=HE3.out.cell 4;have x5:=HE3.out.cell 5;have u3:=HE3.out.free 3;have r0:=HR3.out.cell 0;have r1:=HR3.out.cell 1;have r2:=HR3.out.cell 2;have r3:=HR3.out.cell 3;have r4:=HR3.out.cell 4;have r5:=HR3.out.cell 5;have y0:=HR3.out.free 0;have y1:=HR3.out.free 1;have y2:=HR3.out.free 2;have y3:=HR3.out.free 3;have y4:=HR3.out.free 4;have y5:=HR3.out.free 5;clear hb hrun hp hg hrow;dsimp only)))
 all_goals go_wp2
 all_goals
  have hp:OwO w3 (w.heap.size+2) (.slice a3 (l.length+1) c3) (l++[rF (op % 8)]):=HP.out
  exact bodyPost_ret (results_row1 rfl _ _ w.heap.size 85 #[.int .i64 pg,.int .u8 op,.string s,.slice a3 (l.length+1) c3,.string ⟨#[100]⟩,.bool false] (0,0) _ rfl (entry6g (HR3.out.far (p:=⟨w.heap.size+1,3,none⟩) (Nat.ne_of_lt (Nat.lt_succ_self _)) _) _ _ _ _ _ _) Tryz.underlying85 rfl (by kernel_rfl)) rfl ⟨_,rfl,((hp.far (p:=⟨w.heap.size+1,3,none⟩) (Nat.lt_succ_self _) _).set6 (by omega) _ _ _ _ _ _).opd (by omega),set6_below (HB3.out.setCell (p:=⟨w.heap.size+1,3,none⟩) (Nat.le_succ _) _) (Nat.le_refl _) _ _ _ _ _ _⟩
theorem both9_any (pg op:Int) (h0:0≤op) (h8:op < 256) (hl:(cbF op ⟨5,pg,0⟩).2.length≤100) (w:World):Calls Tryz.prog 87 #[.int .i64 pg,.int .u8 op] w (EntP w pg op (both9F pg op).1 (both9F pg op).2.1 ⟨#[100]⟩ (both9F pg op).2.2):=by
 unfold both9F
 by_cases h6:op % 8=6
 ·rw [if_pos h6]
  exact both9_a pg op h0 h8 hl h6 w
 ·rw [if_neg h6]
  by_cases h64:op / 64=1
  ·rw [if_pos h64]
   exact both9_b pg op h0 h8 hl h6 h64 w
  ·rw [if_neg h64]
   exact both9_c pg op h0 h8 hl h6 h64 w
end Go.Proofs.YtnbmbcjnncbaiaaGreatDoor
