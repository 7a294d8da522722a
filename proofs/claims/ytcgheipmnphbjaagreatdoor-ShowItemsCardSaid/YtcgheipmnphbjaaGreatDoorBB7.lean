/-
  The reference's instruction for an index register. Conditions: sizes.
-/
import Derived.Test.YtcgheipmnphbjaaGreatDoorBA13
import Derived.Test.YtcgheipmnphbjaaGreatDoorBB3
namespace Go.Proofs.YtcgheipmnphbjaaGreatDoor
set_option maxHeartbeats 8000000
set_option maxRecDepth 100000
open Go.RowKit Go.Shelf Go.Sort
def rx (reg:Int) (o:Opd):Opd:=
 if aP o ⟨3,2,0⟩=true then ⟨3,reg,0⟩ else if aP o ⟨1,4,0⟩=true then ⟨2,2 * (reg - 5),0⟩ else if aP o ⟨1,5,0⟩=true then ⟨2,2 * (reg - 5)+5 - 4,0⟩
 else if aP o ⟨4,2,0⟩=true then ⟨4,reg,0⟩ else o
def pC (reg:Int) (l:List Opd) (k:Nat):List Opd:=(l.take k).map (rx reg)++l.drop k
def vN (reg:Int) (l:List Opd):Bool:=l.any fun o=>!aP (rx reg o) o
theorem VT (reg:Int) (l:List Opd) (k:Nat):(pC reg l k).length=l.length:=by
 unfold pC;rw [List.length_append,List.length_map,List.length_take,List.length_drop];omega
theorem ML (reg:Int) (l:List Opd):pC reg l 0=l:=by unfold pC;simp
theorem QO (reg:Int) (l:List Opd) (k:Nat) (h:l.length≤k):pC reg l k=l.map (rx reg):=by
 unfold pC;rw [List.take_of_length_le h,List.drop_of_length_le h,List.append_nil]
theorem yV (reg:Int) (l:List Opd) (k:Nat) (h:k < l.length):(pC reg l k)[k]?=some l[k]:=by
 have h1:((l.take k).map (rx reg)).length=k:=by rw [List.length_map,List.length_take];omega
 unfold pC
 rw [List.getElem?_append_right (by omega),h1,Nat.sub_self,List.getElem?_drop]
 simp [h]
theorem PV (reg:Int) (l:List Opd) (k:Nat) (h:k < l.length):pC reg l (k+1)=(pC reg l k).set k (rx reg l[k]):=by
 have h1:((l.take k).map (rx reg)).length=k:=by rw [List.length_map,List.length_take];omega
 unfold pC
 rw [List.set_append_right _ _ (by omega),h1,Nat.sub_self,List.drop_eq_getElem_cons h,List.set_cons_zero,List.take_succ_eq_append_getElem h,List.map_append,List.append_assoc]
 rfl
theorem LC (reg:Int) (l:List Opd) (k:Nat) (h:k < l.length):vN reg (l.take (k+1))=(vN reg (l.take k) || !aP (rx reg l[k]) l[k]):=by
 rw [List.take_succ_eq_append_getElem h];unfold vN;rw [List.any_append];simp
theorem RxI.later {w wr w':World} {g:Nat} {op:ByteArray} {v va:Value} {l:List Opd} (h:RxI w g op v va l wr) (hb:Below wr.heap.size wr w'):RxI w g op v va l w':=
 ⟨h.blk3.below hb h.blk3.lt,h.blk6.below hb h.blk6.lt,h.blk8.below hb h.blk8.lt,h.own.below hb,h.below.trans (hb.mono h.below.size),h.lo⟩
def ixR (reg:Int) (op:ByteArray) (l:List Opd) (ex:ByteArray):ByteArray × List Opd × ByteArray:=
 if 0≤eV ⟨4,2,0⟩ 0 l∧¬op=⟨#[74,80]⟩ then (op,l.set (eV ⟨4,2,0⟩ 0 l).toNat ⟨5,reg,0⟩,⟨#[100]⟩++ex)
 else if vN reg l=false∨fG ⟨op,l⟩ ⟨⟨#[69,88]⟩,[rpF 1 3,rpF 2 3]⟩=true then (⟨#[]⟩,[],⟨#[]⟩) else (op,l.map (rx reg),ex)
theorem at_w {P:Program} {ops:Array Oper} {o:Oper} {a:Act} {K:Act→World→Prop} {Q:Exit→Act→World→Prop} {E:Prop} (w:World) (h:if Region.wanted o (yielded ops a.tmps)=true then Oper.wp P o a w K Q else E):if Region.wanted o (yielded ops a.tmps)=true then Oper.wp P o a w K Q else E:=h
theorem vC {W1:World} {B b:Nat} {p:aB} {v:Value} {l:List Opd} (hown:Own aM W1 B 49 NoB (.slice (some ⟨b,0,none⟩) 0 0) []) (h:SlR aM W1 p v l) (hp:∀k,p k→k≠b) (hB:B≤W1.heap.size) (hl:l.length≤1000000) (ty:TypeId):
  ∃a c w',(Builtin.append_ #[22,22] ty #[.slice (some ⟨b,0,none⟩) 0 0,v]).run Tryz.prog W1=.ok (.slice a l.length c) w'∧Own aM w' B 49 NoB (.slice a l.length c) l∧W1.grownBy w' (some b)∧(∀k,Value.ownBlock (.slice a l.length c)=some k→k=b∨k=W1.heap.size):=by
 obtain ⟨v',w',hrun,ho,hg,hv⟩:=fD (P:=Tryz.prog) (R:=aM) (w:=W1) B 22 ty 49 24 lH (p:=NoB) (q:=p) hown h (fun _ hk=>hk.elim) (fun k hk e=>hp k hk (by simpa [Value.ownBlock] using e)) (by simp;omega) (by simp;omega) hB
 have ho2:=ho.flat NoB
 rw [List.nil_append] at ho2
 obtain ⟨a,c,rfl⟩:=ho2.form
 refine ⟨a,c,w',hrun,ho2,hg,fun k hk=>?_⟩
 rcases hv with e | e
 ·exact .inl (Option.some.inj (hk.symm.trans e))
 ·exact .inr (Option.some.inj (hk.symm.trans e))
theorem mL (n:Int) (w:World):Calls Tryz.prog 95 #[.int .i64 n] w fun e w'=>e=.returned (.agg #[.int .i64 4,.int .i64 n,.int .i64 0])∧Below w.heap.size w w':=gM n w
def Nf (op:ByteArray) (l:List Opd) (k:Nat):Prop:=¬op=⟨#[74,80]⟩→eV ⟨4,2,0⟩ 0 l=eV ⟨4,2,0⟩ k (l.drop k)
theorem tE (x y:Opd):aP x y=aP y x:=by unfold aP;rw [Bool.eq_iff_iff,decide_eq_true_iff,decide_eq_true_iff];exact eq_comm
theorem Nf.step {op:ByteArray} {l:List Opd} {k:Nat} (h:Nf op l k) (hk:k < l.length) (hn:¬op=⟨#[74,80]⟩→aP l[k] ⟨4,2,0⟩=false):Nf op l (k+1):=fun hj=>by
 rw [h hj,List.drop_eq_getElem_cons hk,eV,if_neg (by rw [tE,hn hj];exact Bool.false_ne_true)]
theorem Nf.here {op:ByteArray} {l:List Opd} {k:Nat} (h:Nf op l k) (hk:k < l.length) (hj:¬op=⟨#[74,80]⟩) (hy:aP l[k] ⟨4,2,0⟩=true):eV ⟨4,2,0⟩ 0 l=k:=by
 rw [h hj,List.drop_eq_getElem_cons hk,eV,if_pos (by rw [tE];exact hy)]
theorem Nf.gone {op:ByteArray} {l:List Opd} {k:Nat} (h:Nf op l k) (hk:l.length≤k):¬(0≤eV ⟨4,2,0⟩ 0 l∧¬op=⟨#[74,80]⟩):=fun ⟨h0,hj⟩=>by
 rw [h hj,List.drop_of_length_le hk] at h0
 exact absurd h0 (by rw [eV];decide)
theorem opd3 {a b c d e f:Int} (h:aP ⟨a,b,c⟩ ⟨d,e,f⟩=true):a=d∧b=e∧c=f:=by
 have:=fF.1 h
 injection this with h1 h2 h3
 exact ⟨h1,h2,h3⟩
theorem LY {α:Type} {l:List α} {k:Nat} {y:α} (h:l[k]?=some y):l.set k y=l:=by
 obtain ⟨hk,rfl⟩:=List.getElem?_eq_some_iff.1 h
 exact List.set_getElem_self hk
theorem RxI.setRg {w wr:World} {g b o n c k:Nat} {op:ByteArray} {v:Value} {l:List Opd} {x:Opd} (m:Int) (h:RxI w g op v (.slice (some ⟨b,o,none⟩) n c) l wr) (hb:w.heap.size+2≤b∧b≠g) (hx:l[k]?=some x):
  RxI w g op v (.slice (some ⟨b,o,none⟩) n c) (l.set k {x with reg:=m}) (wr.setCell ⟨b,o+k * 3+1,none⟩ (.int .i64 m)):=
 ⟨h.blk3.far (by show _≠b;omega) _,h.blk6.far (by show _≠b;omega) _,h.blk8.far (by show _≠b;omega) _,h.own.setRg hx,h.below.setCell (by show _≤b;omega) _,h.lo⟩
theorem RxI.fin {w wr:World} {g:Nat} {op s:ByteArray} {v va:Value} {l:List Opd} (h:RxI w g op v va l wr):
  aD ((wr.setCell ⟨w.heap.size+1,0,none⟩ (.string s)).setCell ⟨w.heap.size+1,1,none⟩ va) (fun k=>w.heap.size≤k) va l∧Below w.heap.size w ((wr.setCell ⟨w.heap.size+1,0,none⟩ (.string s)).setCell ⟨w.heap.size+1,1,none⟩ va):=
 aW h.below h.own (fun k hk=>by have:=hk.1;omega) (Nat.le_succ _)
theorem oK (reg:Int) (op ex:ByteArray) (l:List Opd) (p:aB) (v:Value) (w:World) (h:SlR aM w p v l) (hr5:5≤reg) (hr6:reg≤6) (hn:l.length≤1000) (hop:op.size≤1000) (hex:ex.size≤1000):
  Calls Tryz.prog 59 #[.agg #[.string op,v],.string ex,.int .i64 reg] w (cL w (ixR reg op l ex).1 (ixR reg op l ex).2.1 (ixR reg op l ex).2.2):=by
 obtain ⟨ca,cc,rfl⟩:∃a c,v=.slice a l.length c:=by obtain ⟨a,c,e,_⟩:=h;exact ⟨a,c,e⟩
 obtain ⟨W,hW⟩:∃W:World,W=(w.alloc (.cells #[.string op,.slice ca l.length cc] 24)).alloc (.cells #[.string ⟨#[]⟩,.slice none 0 0] 24):=⟨_,rfl⟩
 have hf:Fr w [(w.heap.size+1,24,#[.string ⟨#[]⟩,.slice none 0 0]),(w.heap.size,24,#[.string op,.slice ca l.length cc])] W:=by
  rw [hW];exact ((Fr.start w).new 24 #[.string op,.slice ca l.length cc]).new' 24 #[.string ⟨#[]⟩,.slice none 0 0] (b:=w.heap.size+1) (by rw [World.size_alloc])
 have hs:SlR aM W (fun k=>p k∧k < w.heap.size) (.slice ca l.length cc) l:=by rw [hW];exact (h.old.alloc _).alloc _
 have hz:W.heap.size=w.heap.size+2:=by rw [hW,World.size_alloc,World.size_alloc]
 have HZ:=aA hz
 have HN0:=aA hn
 have HR5:=aA hr5
 have HR6:=aA hr6
 have HSV0:=aA h
 have hl:l.length≤1000000:=by omega
 have z1:(W.alloc (.cells #[] 49)).heap.size=w.heap.size+2+1:=by rw [World.size_alloc,hz]
 have z2:(W.alloc (.cells #[.string ⟨#[]⟩,.slice none 0 0] 24)).heap.size=w.heap.size+2+1:=by rw [World.size_alloc,hz]
 have om1:Own aM (W.alloc (.cells #[] 49)) (w.heap.size+2) 49 NoB (.slice (some ⟨w.heap.size+2,0,none⟩) 0 0) ([]:List Opd):=by
  have:=Own.made (R:=aM) W 49 NoB
  rwa [hz] at this
 have om3:Own aM ((W.alloc (.cells #[.string ⟨#[]⟩,.slice none 0 0] 24)).alloc (.cells #[] 49)) (w.heap.size+2) 49 NoB (.slice (some ⟨w.heap.size+2+1,0,none⟩) 0 0) ([]:List Opd):=by
  have:=(Own.made (R:=aM) (W.alloc (.cells #[.string ⟨#[]⟩,.slice none 0 0] 24)) 49 NoB).base (B':=w.heap.size+2) (by omega)
  rwa [z2] at this
 obtain ⟨a1,c1,u1,r1,o1,g1,q1⟩:=vC (W1:=(W.alloc (.cells #[] 49)).drew) (B:=w.heap.size+2) (om1.stay (Below.refl _ _).drew) ((hs.alloc _).drew) (fun k hk=>by omega) (by rw [World.size_drew,z1];omega) hl 22
 obtain ⟨a2,c2,u2,r2,o2,g2,q2⟩:=vC (W1:=((W.alloc (.cells #[] 49)).alloc (.cells #[.string ⟨#[]⟩,.slice none 0 0] 24)).drew) (B:=w.heap.size+2) ((om1.stay ((Below.refl _ _).alloc (Nat.le_refl _) _)).stay (Below.refl _ _).drew) (((hs.alloc _).alloc _).drew) (fun k hk=>by omega) (by rw [World.size_drew,World.size_alloc,z1];omega) hl 22
 obtain ⟨a3,c3,u3,r3,o3,g3,q3⟩:=vC (W1:=((W.alloc (.cells #[.string ⟨#[]⟩,.slice none 0 0] 24)).alloc (.cells #[] 49)).drew) (B:=w.heap.size+2) (om3.stay (Below.refl _ _).drew) (((hs.alloc _).alloc _).drew) (fun k hk=>by omega) (by rw [World.size_drew,World.size_alloc,z2];omega) hl 22
 have b3W:Blk W w.heap.size 24 #[.string op,.slice ca l.length cc]:=hf.blk 1 rfl
 have b6W:Blk W (w.heap.size+1) 24 #[.string ⟨#[]⟩,.slice none 0 0]:=hf.blk 0 rfl
 have HI1:Hid (RxI w u1.heap.size op (.slice ca l.length cc) (.slice a1 l.length c1) l (u1.alloc (.cells #[.string op,.slice a1 l.length c1] 24))):=by
  have hs1:=g1.size
  rw [World.size_drew,z1] at hs1
  refine ⟨(Blk.grown (w:=(W.alloc (.cells #[] 49)).drew) ((b3W.alloc _).drew) g1 (fun e=>by injection e with e;omega)).alloc _,(Blk.grown (w:=(W.alloc (.cells #[] 49)).drew) ((b6W.alloc _).drew) g1 (fun e=>by injection e with e;omega)).alloc _,Blk.new u1 _ _,(o1.opdOwn (fun k hk=>⟨(o1.lt k hk).1,Nat.ne_of_lt (o1.lt k hk).2⟩)).below ((Below.refl _ _).alloc (Nat.le_refl _) _),?_,by omega⟩
  exact (((hf.below.alloc (by omega) _).drew).grown g1 (by rw [World.size_drew,z1];omega) (fun k hk=>by cases hk;omega)).alloc (by omega) _
 have HI2:Hid (RxI w (w.heap.size+2+1) op (.slice ca l.length cc) (.slice a2 l.length c2) l ((u2.setCell ⟨w.heap.size+2+1,0,none⟩ (.string op)).setCell ⟨w.heap.size+2+1,1,none⟩ (.slice a2 l.length c2))):=by
  have hz2:((W.alloc (.cells #[] 49)).alloc (.cells #[.string ⟨#[]⟩,.slice none 0 0] 24)).drew.heap.size=w.heap.size+2+1+1:=by rw [World.size_drew,World.size_alloc,z1]
  have b8:=Blk.new (W.alloc (.cells #[] 49)) 24 #[.string ⟨#[]⟩,.slice none 0 0]
  rw [z1] at b8
  have k3:=Blk.grown (((b3W.alloc (.cells #[] 49)).alloc (.cells #[.string ⟨#[]⟩,.slice none 0 0] 24)).drew) g2 (fun e=>by injection e with e;omega)
  have k6:=Blk.grown (((b6W.alloc (.cells #[] 49)).alloc (.cells #[.string ⟨#[]⟩,.slice none 0 0] 24)).drew) g2 (fun e=>by injection e with e;omega)
  have k8:=Blk.grown b8.drew g2 (fun e=>by injection e with e;omega)
  have hq:∀k,Value.ownBlock (.slice a2 l.length c2)=some k→w.heap.size+2≤k∧k≠w.heap.size+2+1:=fun k hk=>⟨(o2.lt k hk).1,by have:=q2 k hk;rw [hz2] at this;omega⟩
  refine ⟨(k3.far (by show _≠w.heap.size+2+1;omega) _).far (by show _≠w.heap.size+2+1;omega) _,(k6.far (by show _≠w.heap.size+2+1;omega) _).far (by show _≠w.heap.size+2+1;omega) _,(k8.set 0 _).set 1 _,((o2.opdOwn hq).far (fun k hk=>hk.2) _).far (fun k hk=>hk.2) _,?_,by omega⟩
  exact (((((hf.below.alloc (by omega) _).alloc (by omega) _).drew).grown g2 (by rw [hz2];omega) (fun k hk=>by cases hk;omega)).setCell (by show _≤w.heap.size+2+1;omega) _).setCell (by show _≤w.heap.size+2+1;omega) _
 have HI3:Hid (RxI w (w.heap.size+2) op (.slice ca l.length cc) (.slice a3 l.length c3) l ((u3.setCell ⟨w.heap.size+2,0,none⟩ (.string op)).setCell ⟨w.heap.size+2,1,none⟩ (.slice a3 l.length c3))):=by
  have hz2:((W.alloc (.cells #[.string ⟨#[]⟩,.slice none 0 0] 24)).alloc (.cells #[] 49)).drew.heap.size=w.heap.size+2+1+1:=by rw [World.size_drew,World.size_alloc,z2]
  have b8:=(Blk.new W 24 #[.string ⟨#[]⟩,.slice none 0 0]).alloc (.cells #[] 49)
  rw [hz] at b8
  have k3:=Blk.grown (((b3W.alloc (.cells #[.string ⟨#[]⟩,.slice none 0 0] 24)).alloc (.cells #[] 49)).drew) g3 (fun e=>by injection e with e;omega)
  have k6:=Blk.grown (((b6W.alloc (.cells #[.string ⟨#[]⟩,.slice none 0 0] 24)).alloc (.cells #[] 49)).drew) g3 (fun e=>by injection e with e;omega)
  have k8:=Blk.grown b8.drew g3 (fun e=>by injection e with e;omega)
  have hq:∀k,Value.ownBlock (.slice a3 l.length c3)=some k→w.heap.size+2≤k∧k≠w.heap.size+2:=fun k hk=>⟨(o3.lt k hk).1,by have:=q3 k hk;rw [hz2] at this;omega⟩
  refine ⟨(k3.far (by show _≠w.heap.size+2;omega) _).far (by show _≠w.heap.size+2;omega) _,(k6.far (by show _≠w.heap.size+2;omega) _).far (by show _≠w.heap.size+2;omega) _,(k8.set 0 _).set 1 _,((o3.opdOwn hq).far (fun k hk=>hk.2) _).far (fun k hk=>hk.2) _,?_,by omega⟩
  exact (((((hf.below.alloc (by omega) _).alloc (by omega) _).drew).grown g3 (by rw [hz2];omega) (fun k hk=>by cases hk;omega)).setCell (by show _≤w.heap.size+2;omega) _).setCell (by show _≤w.heap.size+2;omega) _
 have m1:Blk u1 w.heap.size 24 #[.string op,.slice ca l.length cc]:=Blk.grown (w:=(W.alloc (.cells #[] 49)).drew) ((b3W.alloc _).drew) g1 (fun e=>by injection e with e;omega)
 have m2:Blk u2 w.heap.size 24 #[.string op,.slice ca l.length cc]:=Blk.grown (w:=((W.alloc (.cells #[] 49)).alloc (.cells #[.string ⟨#[]⟩,.slice none 0 0] 24)).drew) (((b3W.alloc _).alloc _).drew) g2 (fun e=>by injection e with e;omega)
 have m3:Blk u3 w.heap.size 24 #[.string op,.slice ca l.length cc]:=Blk.grown (w:=((W.alloc (.cells #[.string ⟨#[]⟩,.slice none 0 0] 24)).alloc (.cells #[] 49)).drew) (((b3W.alloc _).alloc _).drew) g3 (fun e=>by injection e with e;omega)
 have HR1:=aA r1
 have HR2:=aA r2
 have HR3:=aA r3
 have p0:=m1.cell 0
 have p1:=m1.cell 1
 have p2:=m2.cell 0
 have p3:=m2.cell 1
 have p4:=m3.cell 0
 have p5:=m3.cell 1
 have k0:=b3W.cell 0
 have k1:=b3W.cell 1
 have j0:=HI2.out.blk8
 have hu2:Blk u2 (w.heap.size+2+1) 24 #[.string ⟨#[]⟩,.slice none 0 0]:=by
  have b8:=Blk.new (W.alloc (.cells #[] 49)) 24 #[.string ⟨#[]⟩,.slice none 0 0]
  rw [z1] at b8
  exact Blk.grown b8.drew g2 (fun e=>by injection e with e;omega)
 have hu3:Blk u3 (w.heap.size+2) 24 #[.string ⟨#[]⟩,.slice none 0 0]:=by
  have b8:=(Blk.new W 24 #[.string ⟨#[]⟩,.slice none 0 0]).alloc (.cells #[] 49)
  rw [hz] at b8
  exact Blk.grown b8.drew g3 (fun e=>by injection e with e;omega)
 obtain ⟨t0,t1,t2,t3⟩:=hu2.two
 obtain ⟨s0,s1,s2,s3⟩:=hu3.two
 have HW:=aA hW
 have hbw:=b3W.lt
 have hbu:=m1.lt
 clear j0 hu2 hu3 m1 m2 m3 b3W b6W om1 om3 r1 r2 r3 o1 o2 o3 g1 g2 g3 q1 q2 q3 hf hs hl z1 z2 h hW hn
 go_enter Tryz.func59,Tryz.ntmps59
 go_upto_region 1 with fail
 rw [←HW.out]
 go_cut [8] (fun s8 wx=>∃g a c,s8=.pointer (some ⟨g,0,none⟩)∧RxI w g op (.slice ca l.length cc) (.slice a l.length c) l wx)
 case first=>
  go_region_law ((first | (refine at_w ((W.alloc (.cells #[] 49)).drew) ?_;refine cZ (by rfl) (.tmp 15) (.tmp 17) 22 (by rfl) _ _ _ (by rfl) (by rfl) HR1.out ?_) | (refine at_w (((W.alloc (.cells #[] 49)).alloc (.cells #[.string ⟨#[]⟩,.slice none 0 0] 24)).drew) ?_;refine cZ (by rfl) (.tmp 15) (.tmp 17) 22 (by rfl) _ _ _ (by rfl) (by rfl) HR2.out ?_) | (refine at_w (((W.alloc (.cells #[.string ⟨#[]⟩,.slice none 0 0] 24)).alloc (.cells #[] 49)).drew) ?_;refine cZ (by rfl) (.tmp 15) (.tmp 17) 22 (by rfl) _ _ _ (by rfl) (by rfl) HR3.out ?_)))
  all_goals
   go_wp2_with fail
   go_meet
   case rel=>first | exact ⟨_,_,_,rfl,HI1.out⟩ | exact ⟨_,_,_,rfl,HI2.out⟩ | exact ⟨_,_,_,rfl,HI3.out⟩
 case rest=>
  clear p0 p1 p2 p3 p4 p5 k0 k1 t0 t1 t2 t3 s0 s1 s2 s3 HR1 HR2 HR3 HI1 HI2 HI3 hbw hbu HZ hz HW
  obtain ⟨g,va,vc,rfl,hI⟩:=hcut
  have HI0:=aA hI
  have HGO:=aA hI.lo
  have HLN:Hid (l.length≤1000):=HN0.out
  clear hI
  have hll:l.length≤1000:=HLN.out
  go_wp2
  go_loopw [9] (fun i wr=>∃k:Nat,k≤l.length∧i=.int .i64 k∧Nf op l k∧RxI w g op (.slice ca l.length cc) (.slice va l.length vc) l wr) (fun i _=>l.length - (intOf i).toNat)
  case atStart=>exact ⟨0,Nat.zero_le _,rfl,fun _=>rfl,HI0.out⟩
  case round=>
   clear HI0
   obtain ⟨k,hk,rfl,hnf,hI⟩:=hrel
   by_cases hlt:k < l.length
   ·obtain ⟨b,o,rfl,hq,hbl,c0,c1,c2,f⟩:=hI.el (List.getElem?_eq_getElem hlt)
    have HST:=aA (hnf.step hlt)
    have HHE:=aA (hnf.here hlt)
    have HI:=aA hI
    have HQ:=aA hq
    have e0:=hI.blk3.cell 0
    have g0:=hI.blk8.cell 0
    have g1:=hI.blk8.cell 1
    have hop:=gD
    generalize l[k]=y at *
    obtain ⟨yk,yr,yn⟩:=y
    dsimp only at c0 c1 c2
    clear hnf hI hq
    by_cases hjp:op=⟨#[74,80]⟩
    ·subst hjp
     go_wp2
     go_quiet (fail)
     go_wp2
     go_roundw
     case rel=>exact ⟨k+1,by omega,by go_num,HST.out (fun h=>absurd (by trivial) h),HI.out.later (aY (Below.refl _ _) _)⟩
     case measure=>simp [intOf];omega
    ·have hj1:(op.toList==[74,80])=false:=by
      rw [beq_eq_false_iff_ne];intro e;exact hjp (gA (by rw [e];exact (Go.ByteArray.toList_eq (⟨#[74,80]⟩:ByteArray)).symm))
     have hj2:(op.toList != [74,80])=true:=by rw [bne,hj1];rfl
     have f0:=f (o+k * 3)
     have f1:=f (o+k * 3+1)
     have f2:=f (o+k * 3+2)
     have n1:¬b=w.heap.size+1:=by have:=HQ.out.1;omega
     have n2:¬w.heap.size+1=b:=fun e=>n1 e.symm
     have n3:¬b=g:=HQ.out.2
     have n4:¬g=b:=fun e=>n3 e.symm
     clear f
     cases hy:aP ⟨yk,yr,yn⟩ ⟨4,2,0⟩
     ·go_wp2
      go_region_held3 (fun w'=>w'.cell? ⟨w.heap.size,0,none⟩=some (.string op)∧w'.cell? ⟨g,1,none⟩=some (.slice (some ⟨b,o,none⟩) l.length vc)∧w'.cell? ⟨b,o+k * 3,none⟩=some (.int .i64 yk)∧w'.cell? ⟨b,o+k * 3+1,none⟩=some (.int .i64 yr)∧w'.cell? ⟨b,o+k * 3+2,none⟩=some (.int .i64 yn)) (go_keep)
       ((go_at_call 95;refine (mL _ _).mono ?_;rintro e w' ⟨rfl,hb⟩;have HIn:=aA ((HI.out.later (Below.refl _ _).drew).later hb);have c0:=(hb.cell (p:=⟨b,o+k * 3,none⟩) hbl).trans c0;have c1:=(hb.cell (p:=⟨b,o+k * 3+1,none⟩) hbl).trans c1;have c2:=(hb.cell (p:=⟨b,o+k * 3+2,none⟩) hbl).trans c2;have e0:=HIn.out.blk3.cell 0;have g1:=HIn.out.blk8.cell 1;clear hb))
      go_wp2
      go_roundw
      case rel=>exact ⟨k+1,by omega,by go_num,HST.out (fun _=>hy),HIn.out⟩
      case measure=>simp [intOf];omega
     ·have HK:=aA (HHE.out hjp hy)
      have HLT:=aA hlt
      go_wp2
      go_region_held3 (fun w'=>w'.cell? ⟨w.heap.size,0,none⟩=some (.string op)∧w'.cell? ⟨g,1,none⟩=some (.slice (some ⟨b,o,none⟩) l.length vc)∧w'.cell? ⟨b,o+k * 3,none⟩=some (.int .i64 yk)∧w'.cell? ⟨b,o+k * 3+1,none⟩=some (.int .i64 yr)∧w'.cell? ⟨b,o+k * 3+2,none⟩=some (.int .i64 yn)) (go_keep)
       ((go_at_call 95;refine (mL _ _).mono ?_;rintro e w' ⟨rfl,hb⟩;have HIn:=aA ((HI.out.later (Below.refl _ _).drew).later hb);have c0:=(hb.cell (p:=⟨b,o+k * 3,none⟩) hbl).trans c0;have c1:=(hb.cell (p:=⟨b,o+k * 3+1,none⟩) hbl).trans c1;have c2:=(hb.cell (p:=⟨b,o+k * 3+2,none⟩) hbl).trans c2;have f0:=(hb.frozen (p:=⟨b,o+k * 3,none⟩) hbl).trans f0;have f1:=(hb.frozen (p:=⟨b,o+k * 3+1,none⟩) hbl).trans f1;have f2:=(hb.frozen (p:=⟨b,o+k * 3+2,none⟩) hbl).trans f2;have e0:=HIn.out.blk3.cell 0;have g0:=HIn.out.blk8.cell 0;have g1:=HIn.out.blk8.cell 1;obtain ⟨d0,d1,d2,d3⟩:=HIn.out.blk6.two;clear hb))
      go_wp2
      have hP:=HIn.out.put ⟨5,reg,0⟩ HQ.out HLT.out
      obtain ⟨h1,h2⟩:=hP.fin (s:=op)
      have e:ixR reg op l ex=(op,l.set k ⟨5,reg,0⟩,⟨#[100]⟩++ex):=by unfold ixR;rw [if_pos ⟨by rw [HK.out];omega,hjp⟩,HK.out];rfl
      rw [e]
      exact bodyPost_ret (aN rfl rfl ((hP.blk6.set 0 _).set 1 _)) rfl ⟨_,rfl,h1,h2⟩
   ·have HGN:=aA (hnf.gone (by omega))
    have HI0:=aA hI
    clear hnf hI
    have g1:=HI0.out.blk8.cell 1
    go_wp2
    clear g1
    go_loopw [10,11] (fun c i wr=>∃k:Nat,k≤l.length∧i=.int .i64 k∧c=.bool (vN reg (l.take k))∧RxI w g op (.slice ca l.length cc) (.slice va l.length vc) (pC reg l k) wr) (fun _ i _=>l.length - (intOf i).toNat)
    case atStart=>exact ⟨0,Nat.zero_le _,rfl,rfl,by rw [ML];exact HI0.out⟩
    case round=>
     clear HI0 hlt hk
     obtain ⟨k,hk,rfl,rfl,hI⟩:=hrel
     by_cases hlt:k < l.length
     ·obtain ⟨b,o,rfl,hq,hbl,c0,c1,c2,f⟩:=hI.el (yV reg l k hlt)
      have HXS:=aA (PV reg l k hlt)
      have HXA:=aA (LC reg l k hlt)
      have HMA:=aA (yV reg l k hlt)
      have HKX:Hid (k < (pC reg l k).length):=by show _ < _;rw [VT];exact hlt
      have HSA:=aA (LY (yV reg l k hlt))
      have HI:=aA hI
      have HQ:=aA hq
      have g1:=hI.blk8.cell 1
      have hg:=hI.blk8.lt
      have hop:=gD
      have hnp:=nW
      generalize l[k]=y at *
      obtain ⟨yk,yr,yn⟩:=y
      dsimp only at c0 c1 c2
      generalize pC reg l k=L at *
      generalize vN reg (l.take k)=ch at *
      have f0:=f (o+k * 3)
      have f1:=f (o+k * 3+1)
      have f2:=f (o+k * 3+2)
      have n1:¬b=wr.heap.size:=Nat.ne_of_lt hbl
      have n2:¬wr.heap.size=b:=fun e=>n1 e.symm
      have n3:¬b=g:=HQ.out.2
      have n4:¬g=b:=fun e=>n3 e.symm
      clear f hI hq
      have HC0:Hid (∀cs,(wr.alloc (.cells cs 49)).cell? ⟨b,o+k * 3,none⟩=some (.int .i64 yk)):=fun cs=>(((Below.refl _ wr).alloc (Nat.le_refl _) _).cell (p:=⟨b,o+k * 3,none⟩) hbl).trans c0
      have HC1:Hid (∀cs,(wr.alloc (.cells cs 49)).cell? ⟨b,o+k * 3+1,none⟩=some (.int .i64 yr)):=fun cs=>(((Below.refl _ wr).alloc (Nat.le_refl _) _).cell (p:=⟨b,o+k * 3+1,none⟩) hbl).trans c1
      have HC2:Hid (∀cs,(wr.alloc (.cells cs 49)).cell? ⟨b,o+k * 3+2,none⟩=some (.int .i64 yn)):=fun cs=>(((Below.refl _ wr).alloc (Nat.le_refl _) _).cell (p:=⟨b,o+k * 3+2,none⟩) hbl).trans c2
      have HF0:Hid (∀cs,(wr.alloc (.cells cs 49)).frozen? ⟨b,o+k * 3,none⟩=false):=fun cs=>(((Below.refl _ wr).alloc (Nat.le_refl _) _).frozen (p:=⟨b,o+k * 3,none⟩) hbl).trans f0
      have HF1:Hid (∀cs,(wr.alloc (.cells cs 49)).frozen? ⟨b,o+k * 3+1,none⟩=false):=fun cs=>(((Below.refl _ wr).alloc (Nat.le_refl _) _).frozen (p:=⟨b,o+k * 3+1,none⟩) hbl).trans f1
      have HF2:Hid (∀cs,(wr.alloc (.cells cs 49)).frozen? ⟨b,o+k * 3+2,none⟩=false):=fun cs=>(((Below.refl _ wr).alloc (Nat.le_refl _) _).frozen (p:=⟨b,o+k * 3+2,none⟩) hbl).trans f2
      have hR5:5≤reg:=HR5.out
      have hR6:reg≤6:=HR6.out
      cases hA:aP ⟨yk,yr,yn⟩ ⟨3,2,0⟩
      ·skip
       cases hB:aP ⟨yk,yr,yn⟩ ⟨1,4,0⟩
       ·skip
        cases hC:aP ⟨yk,yr,yn⟩ ⟨1,5,0⟩
        ·skip
         cases hD:aP ⟨yk,yr,yn⟩ ⟨4,2,0⟩
         ·skip
          have hx:rx reg ⟨yk,yr,yn⟩=⟨yk,yr,yn⟩:=by unfold rx;rw [if_neg (by rw [hA];exact Bool.false_ne_true),if_neg (by rw [hB];exact Bool.false_ne_true),if_neg (by rw [hC];exact Bool.false_ne_true),if_neg (by rw [hD];exact Bool.false_ne_true)]
          have hne:aP ⟨yk,yr,yn⟩ ⟨yk,yr,yn⟩=true:=by rw [fF]
          have HX:=aA hx
          have HNE:=aA hne
          clear hx
          rw [HX.out] at HXS HXA
          rw [HSA.out] at HXS
          cases ch
          ·skip
           have HA:=aA (HI.out.later ((Below.refl _ _).alloc (Nat.le_refl _) (.cells #[.int .i64 yk,.int .i64 yr,.int .i64 yn] 49)))
           have HB:=aA (Blk.new wr 49 #[.int .i64 yk,.int .i64 yr,.int .i64 yn])
           go_wp2_with (go_at_call 95;refine (mL _ _).mono ?_;rintro e w' ⟨rfl,hb⟩;have HJ:=aA (HA.out.later hb);have hbl':b < (wr.alloc (.cells #[.int .i64 yk,.int .i64 yr,.int .i64 yn] 49)).heap.size:=(by rw [World.size_alloc];omega);have c0:=(hb.cell (p:=⟨b,o+k * 3,none⟩) hbl').trans (HC0.out _);have c1:=(hb.cell (p:=⟨b,o+k * 3+1,none⟩) hbl').trans (HC1.out _);have c2:=(hb.cell (p:=⟨b,o+k * 3+2,none⟩) hbl').trans (HC2.out _);have f0:=(hb.frozen (p:=⟨b,o+k * 3,none⟩) hbl').trans (HF0.out _);have f1:=(hb.frozen (p:=⟨b,o+k * 3+1,none⟩) hbl').trans (HF1.out _);have f2:=(hb.frozen (p:=⟨b,o+k * 3+2,none⟩) hbl').trans (HF2.out _);have g1:=HJ.out.blk8.cell 1;obtain ⟨t0,t1,t2,_,_,_⟩:=(HB.out.below hb HB.out.lt).three;clear hb hbl')
           go_quiet (fail)
           go_wp2
           go_roundw
           case rel=>exact ⟨k+1,by omega,by go_num,by rw [HXA.out,HNE.out];rfl,by rw [HXS.out];exact HJ.out.later (aY (Below.refl _ _) _)⟩
           case measure=>simp [intOf];omega
          ·skip
           have HA:=aA (HI.out.later ((Below.refl _ _).alloc (Nat.le_refl _) (.cells #[.int .i64 yk,.int .i64 yr,.int .i64 yn] 49)))
           have HB:=aA (Blk.new wr 49 #[.int .i64 yk,.int .i64 yr,.int .i64 yn])
           go_wp2_with (go_at_call 95;refine (mL _ _).mono ?_;rintro e w' ⟨rfl,hb⟩;have HJ:=aA (HA.out.later hb);have hbl':b < (wr.alloc (.cells #[.int .i64 yk,.int .i64 yr,.int .i64 yn] 49)).heap.size:=(by rw [World.size_alloc];omega);have c0:=(hb.cell (p:=⟨b,o+k * 3,none⟩) hbl').trans (HC0.out _);have c1:=(hb.cell (p:=⟨b,o+k * 3+1,none⟩) hbl').trans (HC1.out _);have c2:=(hb.cell (p:=⟨b,o+k * 3+2,none⟩) hbl').trans (HC2.out _);have f0:=(hb.frozen (p:=⟨b,o+k * 3,none⟩) hbl').trans (HF0.out _);have f1:=(hb.frozen (p:=⟨b,o+k * 3+1,none⟩) hbl').trans (HF1.out _);have f2:=(hb.frozen (p:=⟨b,o+k * 3+2,none⟩) hbl').trans (HF2.out _);have g1:=HJ.out.blk8.cell 1;obtain ⟨t0,t1,t2,_,_,_⟩:=(HB.out.below hb HB.out.lt).three;clear hb hbl')
           go_quiet (fail)
           go_wp2
           go_roundw
           case rel=>exact ⟨k+1,by omega,by go_num,by rw [HXA.out,HNE.out];rfl,by rw [HXS.out];exact HJ.out.later (aY (Below.refl _ _) _)⟩
           case measure=>simp [intOf];omega
         ·obtain ⟨rfl,rfl,rfl⟩:=opd3 hD
          have hx:rx reg ⟨4,2,0⟩=⟨4,reg,0⟩:=by unfold rx;rw [if_neg (by rw [hA];exact Bool.false_ne_true),if_neg (by rw [hB];exact Bool.false_ne_true),if_neg (by rw [hC];exact Bool.false_ne_true),if_pos hD]
          have hne:aP ⟨4,reg,0⟩ ⟨4,2,0⟩=false:=by rw [kF];intro e;injection e with e1 e2 e3;omega
          have HX:=aA hx
          have HNE:=aA hne
          clear hx
          rw [HX.out] at HXS HXA
          cases ch
          ·skip
           have HA:=aA (HI.out.later ((Below.refl _ _).alloc (Nat.le_refl _) (.cells #[.int .i64 4,.int .i64 2,.int .i64 0] 49)))
           have HB:=aA (Blk.new wr 49 #[.int .i64 4,.int .i64 2,.int .i64 0])
           go_wp2_with (go_at_call 95;refine (mL _ _).mono ?_;rintro e w' ⟨rfl,hb⟩;have HJ:=aA (HA.out.later hb);have hbl':b < (wr.alloc (.cells #[.int .i64 4,.int .i64 2,.int .i64 0] 49)).heap.size:=(by rw [World.size_alloc];omega);have c0:=(hb.cell (p:=⟨b,o+k * 3,none⟩) hbl').trans (HC0.out _);have c1:=(hb.cell (p:=⟨b,o+k * 3+1,none⟩) hbl').trans (HC1.out _);have c2:=(hb.cell (p:=⟨b,o+k * 3+2,none⟩) hbl').trans (HC2.out _);have f0:=(hb.frozen (p:=⟨b,o+k * 3,none⟩) hbl').trans (HF0.out _);have f1:=(hb.frozen (p:=⟨b,o+k * 3+1,none⟩) hbl').trans (HF1.out _);have f2:=(hb.frozen (p:=⟨b,o+k * 3+2,none⟩) hbl').trans (HF2.out _);have g1:=HJ.out.blk8.cell 1;obtain ⟨t0,t1,t2,_,_,_⟩:=(HB.out.below hb HB.out.lt).three;clear hb hbl')
           go_quiet (fail)
           go_wp2
           go_roundw
           case rel=>exact ⟨k+1,by omega,by go_num,by rw [HXA.out,HNE.out];rfl,by rw [HXS.out];exact (HJ.out.setRg reg HQ.out HMA.out).later (aY (Below.refl _ _) _)⟩
           case measure=>simp [intOf];omega
          ·skip
           have HA:=aA (HI.out.later ((Below.refl _ _).alloc (Nat.le_refl _) (.cells #[.int .i64 4,.int .i64 2,.int .i64 0] 49)))
           have HB:=aA (Blk.new wr 49 #[.int .i64 4,.int .i64 2,.int .i64 0])
           go_wp2_with (go_at_call 95;refine (mL _ _).mono ?_;rintro e w' ⟨rfl,hb⟩;have HJ:=aA (HA.out.later hb);have hbl':b < (wr.alloc (.cells #[.int .i64 4,.int .i64 2,.int .i64 0] 49)).heap.size:=(by rw [World.size_alloc];omega);have c0:=(hb.cell (p:=⟨b,o+k * 3,none⟩) hbl').trans (HC0.out _);have c1:=(hb.cell (p:=⟨b,o+k * 3+1,none⟩) hbl').trans (HC1.out _);have c2:=(hb.cell (p:=⟨b,o+k * 3+2,none⟩) hbl').trans (HC2.out _);have f0:=(hb.frozen (p:=⟨b,o+k * 3,none⟩) hbl').trans (HF0.out _);have f1:=(hb.frozen (p:=⟨b,o+k * 3+1,none⟩) hbl').trans (HF1.out _);have f2:=(hb.frozen (p:=⟨b,o+k * 3+2,none⟩) hbl').trans (HF2.out _);have g1:=HJ.out.blk8.cell 1;obtain ⟨t0,t1,t2,_,_,_⟩:=(HB.out.below hb HB.out.lt).three;clear hb hbl')
           go_quiet (fail)
           go_wp2
           go_roundw
           case rel=>exact ⟨k+1,by omega,by go_num,by rw [HXA.out,HNE.out];rfl,by rw [HXS.out];exact (HJ.out.setRg reg HQ.out HMA.out).later (aY (Below.refl _ _) _)⟩
           case measure=>simp [intOf];omega
        ·obtain ⟨rfl,rfl,rfl⟩:=opd3 hC
         have hx:rx reg ⟨1,5,0⟩=⟨2,2 * (reg - 5)+5 - 4,0⟩:=by unfold rx;rw [if_neg (by rw [hA];exact Bool.false_ne_true),if_neg (by rw [hB];exact Bool.false_ne_true),if_pos hC]
         have hne:aP ⟨2,2 * (reg - 5)+5 - 4,0⟩ ⟨1,5,0⟩=false:=by rw [kF];intro e;injection e with e1 e2 e3;omega
         have HX:=aA hx
         have HNE:=aA hne
         clear hx
         rw [HX.out] at HXS HXA
         cases ch
         ·skip
          go_wp2
          go_quiet (fail)
          go_wp2
          go_roundw
          case rel=>exact ⟨k+1,by omega,by go_num,by rw [HXA.out,HNE.out];rfl,by rw [HXS.out];exact ((HI.out.put ⟨2,2 * (reg - 5)+5 - 4,0⟩ HQ.out HKX.out).later ((Below.refl _ _).alloc (Nat.le_refl _) (.cells #[.int .i64 1,.int .i64 5,.int .i64 0] 49))).later (aY (Below.refl _ _) _)⟩
          case measure=>simp [intOf];omega
         ·skip
          go_wp2
          go_quiet (fail)
          go_wp2
          go_roundw
          case rel=>exact ⟨k+1,by omega,by go_num,by rw [HXA.out,HNE.out];rfl,by rw [HXS.out];exact ((HI.out.put ⟨2,2 * (reg - 5)+5 - 4,0⟩ HQ.out HKX.out).later ((Below.refl _ _).alloc (Nat.le_refl _) (.cells #[.int .i64 1,.int .i64 5,.int .i64 0] 49))).later (aY (Below.refl _ _) _)⟩
          case measure=>simp [intOf];omega
       ·obtain ⟨rfl,rfl,rfl⟩:=opd3 hB
        have hx:rx reg ⟨1,4,0⟩=⟨2,2 * (reg - 5),0⟩:=by unfold rx;rw [if_neg (by rw [hA];exact Bool.false_ne_true),if_pos hB]
        have hne:aP ⟨2,2 * (reg - 5),0⟩ ⟨1,4,0⟩=false:=by rw [kF];intro e;injection e with e1 e2 e3;omega
        have HX:=aA hx
        have HNE:=aA hne
        clear hx
        rw [HX.out] at HXS HXA
        cases ch
        ·skip
         go_wp2
         go_quiet (fail)
         go_wp2
         go_roundw
         case rel=>exact ⟨k+1,by omega,by go_num,by rw [HXA.out,HNE.out];rfl,by rw [HXS.out];exact ((HI.out.put ⟨2,2 * (reg - 5),0⟩ HQ.out HKX.out).later ((Below.refl _ _).alloc (Nat.le_refl _) (.cells #[.int .i64 1,.int .i64 4,.int .i64 0] 49))).later (aY (Below.refl _ _) _)⟩
         case measure=>simp [intOf];omega
        ·skip
         go_wp2
         go_quiet (fail)
         go_wp2
         go_roundw
         case rel=>exact ⟨k+1,by omega,by go_num,by rw [HXA.out,HNE.out];rfl,by rw [HXS.out];exact ((HI.out.put ⟨2,2 * (reg - 5),0⟩ HQ.out HKX.out).later ((Below.refl _ _).alloc (Nat.le_refl _) (.cells #[.int .i64 1,.int .i64 4,.int .i64 0] 49))).later (aY (Below.refl _ _) _)⟩
         case measure=>simp [intOf];omega
      ·obtain ⟨rfl,rfl,rfl⟩:=opd3 hA
       have hx:rx reg ⟨3,2,0⟩=⟨3,reg,0⟩:=by unfold rx;rw [if_pos hA]
       have hne:aP ⟨3,reg,0⟩ ⟨3,2,0⟩=false:=by rw [kF];intro e;injection e with e1 e2 e3;omega
       have HX:=aA hx
       have HNE:=aA hne
       clear hx
       rw [HX.out] at HXS HXA
       cases ch
       ·skip
        go_wp2
        go_quiet (fail)
        go_wp2
        go_roundw
        case rel=>exact ⟨k+1,by omega,by go_num,by rw [HXA.out,HNE.out];rfl,by rw [HXS.out];exact ((HI.out.setRg reg HQ.out HMA.out).later ((Below.refl _ _).alloc (Nat.le_refl _) (.cells #[.int .i64 3,.int .i64 2,.int .i64 0] 49))).later (aY (Below.refl _ _) _)⟩
        case measure=>simp [intOf];omega
       ·skip
        go_wp2
        go_quiet (fail)
        go_wp2
        go_roundw
        case rel=>exact ⟨k+1,by omega,by go_num,by rw [HXA.out,HNE.out];rfl,by rw [HXS.out];exact ((HI.out.setRg reg HQ.out HMA.out).later ((Below.refl _ _).alloc (Nat.le_refl _) (.cells #[.int .i64 3,.int .i64 2,.int .i64 0] 49))).later (aY (Below.refl _ _) _)⟩
        case measure=>simp [intOf];omega
     ·have HTK:vN reg (l.take k)=vN reg l:=by rw [List.take_of_length_le (by omega)]
      rw [QO reg l k (by omega)] at hI
      have HI:=aA hI
      have g1:=hI.blk8.cell 1
      clear hI
      cases hch:vN reg (l.take k)
      ·have hE:ixR reg op l ex=(⟨#[]⟩,[],⟨#[]⟩):=by unfold ixR;rw [if_neg HGN.out,if_pos (.inl (HTK.symm.trans hch))]
       have HE:=aA hE
       clear HTK hch hE
       go_wp2
       go_quiet (fail)
       have HJ:=aA (HI.out.later (aY (Below.refl _ _) nq))
       obtain ⟨d0,d1,d2,d3⟩:=HI.out.blk6.two
       go_wp2
       obtain ⟨h1,h2⟩:=aW (x:=.string ⟨#[]⟩) (y:=.slice none 0 0) HJ.out.below (aV _ (fun k=>w.heap.size+1 < k)) (fun k hk=>hk) (Nat.le_succ _)
       rw [HE.out]
       exact bodyPost_ret (aN rfl rfl ((HJ.out.blk6.set 0 _).set 1 _)) rfl ⟨_,rfl,h1,h2⟩
      ·have HSV:=HSV0
       have hR:vN reg l=true:=HTK.symm.trans hch
       have HH:=aA hR
       clear HTK hch hR g1
       have HJ:=aA (HI.out.later (Below.refl _ _).drew)
       cases hq:fG ⟨op,l⟩ ⟨⟨#[69,88]⟩,[rpF 1 3,rpF 2 3]⟩
       all_goals
        have e0:=HI.out.blk3.cell 0
        have e1:=HI.out.blk3.cell 1
        have HSM:=aA (fun q r v2 W h1 h2=>nB q r ⟨op,l⟩ ⟨⟨#[69,88]⟩,[rpF 1 3,rpF 2 3]⟩ (.slice ca l.length cc) v2 W h1 h2)
        rw [hq] at HSM
        have HQQ:=aA hq
        clear hq
        have g1:=HI.out.blk8.cell 1
        go_wp2
        clear g1
        go_region_held3 (fun w'=>w'.cell? ⟨w.heap.size,0,none⟩=some (.string op)∧w'.cell? ⟨w.heap.size,1,none⟩=some (.slice ca l.length cc)) (go_keep)
         (first
          | (go_at_call 94;refine (cY _ _ _).mono ?_;rintro e w' ⟨rfl,hb⟩;have HJ:=aA (HJ.out.later hb);have e0:=HJ.out.blk3.cell 0;have e1:=HJ.out.blk3.cell 1;clear hb)
          | (go_at_call 89;refine (cC _ _ _).mono ?_;rintro e w' ⟨v2,rfl,ho,hb⟩;obtain ⟨va2,vc2,rfl⟩:=ho.form;have HO:=aA ho;have HJ:=aA (HJ.out.later hb);have e0:=HJ.out.blk3.cell 0;have e1:=HJ.out.blk3.cell 1;clear ho hb)
          | (go_at_call 88;refine (aO _ _ _ _ _ HO.out).mono ?_;rintro e w' ⟨rfl,ho,hb⟩;have HO:=aA ho;have HJ:=aA (HJ.out.later hb);have e0:=HJ.out.blk3.cell 0;have e1:=HJ.out.blk3.cell 1;clear ho hb)
          | (go_at_call 10;refine (HSM.out _ _ _ _ (HSV.out.below HJ.out.below) HO.out.slR).mono ?_;rintro e w' ⟨rfl,hb⟩;have HJ:=aA (HJ.out.later hb);have e0:=HJ.out.blk3.cell 0;have e1:=HJ.out.blk3.cell 1;clear hb))
        obtain ⟨d0,d1,d2,d3⟩:=HJ.out.blk6.two
        have g0:=HJ.out.blk8.cell 0
        have g1:=HJ.out.blk8.cell 1
        go_wp2
       ·have hE:ixR reg op l ex=(op,l.map (rx reg),ex):=by unfold ixR;rw [if_neg HGN.out,if_neg (fun h=>h.elim (fun h=>by rw [HH.out] at h;cases h) (fun h=>by rw [HQQ.out] at h;cases h))]
        rw [hE]
        obtain ⟨h1,h2⟩:=HJ.out.fin (s:=op)
        exact bodyPost_ret (aN rfl rfl ((HJ.out.blk6.set 0 _).set 1 _)) rfl ⟨_,rfl,h1,h2⟩
       ·have hE:ixR reg op l ex=(⟨#[]⟩,[],⟨#[]⟩):=by unfold ixR;rw [if_neg HGN.out,if_pos (.inr HQQ.out)]
        rw [hE]
        obtain ⟨h1,h2⟩:=aW (x:=.string ⟨#[]⟩) (y:=.slice none 0 0) HJ.out.below (aV _ (fun k=>w.heap.size+1 < k)) (fun k hk=>hk) (Nat.le_succ _)
        exact bodyPost_ret (aN rfl rfl ((HJ.out.blk6.set 0 _).set 1 _)) rfl ⟨_,rfl,h1,h2⟩
end Go.Proofs.YtcgheipmnphbjaaGreatDoor
