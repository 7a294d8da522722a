/-
  table.At on the pages without index; the loop of indexed. The reference's instruction for an index register. table.indexed, its loop, walked. table.both; table.At: nothing found, and both. Conditions: sizes; the library's table as its initialiser lays it.
-/
import Derived.Test.YtpigbggoiipmhaaGreatDoorBA12
namespace Go.Proofs.YtpigbggoiipmhaaGreatDoor
set_option maxHeartbeats 4000000
set_option maxRecDepth 100000
open Go.RowKit Go.Shelf Go.Sort
theorem DZ (pg:Int) (s:ByteArray) (op:Nat) (w:World) (hop:op < 256) (hs:s.size<=1000000) (hl:dV op (aU s.data.toList)=none):
  Calls Tryz.prog 211 #[.int .i64 pg,.string s,.int .u8 op] w λe w'=>e=.returned (.tuple #[mX,.bool false])/\Below w.heap.size w w':=by
 have hb0:=(zY w.heap.size w).alloc (zI _) (.cells #[.int .i64 0,.int .u8 0,.string ⟨#[]⟩,.slice none 0 0,.string ⟨#[]⟩,.bool false] 158);have HB0:=aA hb0;have HF0:=aA (Blk.new w 158 #[.int .i64 0,.int .u8 0,.string ⟨#[]⟩,.slice none 0 0,.string ⟨#[]⟩,.bool false]);have HLK:=aA (λW=>oE s op hop W hs);rw [hl] at HLK;unfold JV at HLK;dsimp only at HLK;clear hb0 hl hs hop;go_enter Tryz.func211,Tryz.ntmps211;go_wp2_with (go_at_call 234;refine (HLK.out _).mono ?_;rintro e w2 ⟨rfl,hb⟩;have HB2:=aA (HB0.out.trans (hb.mono HB0.out.size));have hF2:=HF0.out.below hb HF0.out.lt;have e0:=hF2.cell 0;have e1:=hF2.cell 1;have e2:=hF2.cell 2;have e3:=hF2.cell 3;have e4:=hF2.cell 4;have e5:=hF2.cell 5;have z0:=hF2.free 0;have z1:=hF2.free 1;have z2:=hF2.free 2;have z3:=hF2.free 3;have z4:=hF2.free 4;have z5:=hF2.free 5;have HF2:=aA hF2;clear hb hF2);refine yR (aH rfl _ _ w.heap.size 158 #[.int .i64 0,.int .u8 0,.string ⟨#[]⟩,.slice none 0 0,.string ⟨#[]⟩,.bool false] (0,0) _ rfl (jW HF2.out _ _ _ _ _ _) Tryz.underlying158 rfl (by kernel_rfl)) rfl ⟨rfl,?_⟩;exact bE HB2.out (zI _) _ _ _ _ _ _
def pU (reg:Int) (o:Opd):Option Opd:=
 if aP o ⟨4,2,0⟩=true then some ⟨4,reg,0⟩ else if aP o ⟨3,2,0⟩=true then some ⟨3,reg,0⟩
 else if o.kind=1/\o.reg=4 then some ⟨2,2 * (reg - 5),0⟩ else if o.kind=1/\o.reg=5 then some ⟨2,2 * (reg - 5)+1,0⟩ else none
def qZ (reg:Int) (l:List Opd):List Opd:=l.map λo=>(pU reg o).getD o
def yI (reg:Int) (l:List Opd):Bool:=l.any λo=>(pU reg o).isSome
def pV (reg:Int) (l:List Opd) (k:Nat):List Opd:=qZ reg (l.take k)++l.drop k
theorem XH (reg:Int) (l:List Opd) (k:Nat):(pV reg l k).length=l.length:=by unfold pV qZ;rw [YL,z0B,JX,JS];omega
theorem KL (reg:Int) (l:List Opd):pV reg l 0=l:=by unfold pV qZ;simp
theorem VO (reg:Int) (l:List Opd) (k:Nat) (h:l.length<=k):pV reg l k=qZ reg l:=by unfold pV;rw [QD h,VA h,z1E]
theorem GK (reg:Int) (l:List Opd) (k:Nat) (h:k < l.length):(pV reg l k)[k]?=some l[k]:=by
 have h1:(qZ reg (l.take k)).length=k:=by unfold qZ;rw [z0B,JX];omega
 unfold pV;exact tX7e
theorem PI (reg:Int) (l:List Opd) (k:Nat) (h:k < l.length):pV reg l (k+1)=(pV reg l k).set k ((pU reg l[k]).getD l[k]):=by
 have h1:(qZ reg (l.take k)).length=k:=by unfold qZ;rw [z0B,JX];omega
 unfold pV;rw [z2L _ _ (by omega),h1,z2I,ZX h,jM,ZP h];unfold qZ;rw [z0O,JP];rfl
theorem LP (reg:Int) (l:List Opd) (k:Nat) (h:k < l.length):yI reg (l.take (k+1))=(yI reg (l.take k) || (pU reg l[k]).isSome):=by rw [ZP h];unfold yI;rw [List.any_append];simp
structure IxI (w:World) (S:Nat) (page:Int) (op:Nat) (iop exB:ByteArray) (al:Bool) (va:Value) (l:List Opd) (wr:World):Prop where
 blkE:Blk wr w.heap.size 158 #[.int .i64 page,.int .u8 op,.string iop,va,.string exB,.bool al]
 blkR:Blk wr (w.heap.size+1) 158 #[.int .i64 0,.int .u8 0,.string ⟨#[]⟩,.slice none 0 0,.string ⟨#[]⟩,.bool false]
 blkM:Blk wr (w.heap.size+2) 52 #[.int .i64 4,.int .i64 2,.int .i64 0]
 own:aD wr (λb=>w.heap.size+3<=b/\b < S) va l
 below:Below w.heap.size w wr
 size:S<=wr.heap.size
theorem IxI.later {w wr w':World} {S op:Nat} {page:Int} {iop exB:ByteArray} {al:Bool} {va:Value} {l:List Opd} (h:IxI w S page op iop exB al va l wr) (hb:Below wr.heap.size wr w'):IxI w S page op iop exB al va l w':=⟨h.blkE.below hb h.blkE.lt,h.blkR.below hb h.blkR.lt,h.blkM.below hb h.blkM.lt,h.own.below hb,h.below.trans (hb.mono h.below.size),qJ h.size hb.size⟩
theorem IxI.put {w wr:World} {S op b o n c k:Nat} {page:Int} {iop exB:ByteArray} {al:Bool} {l:List Opd} (y:Opd) (h:IxI w S page op iop exB al (.slice (some ⟨b,o,none⟩) n c) l wr) (hb:w.heap.size+3<=b) (hk:k < l.length):
  IxI w S page op iop exB al (.slice (some ⟨b,o,none⟩) n c) (l.set k y) (((wr.setCell ⟨b,o+k * 3,none⟩ (.int .i64 y.kind)).setCell ⟨b,o+k * 3+1,none⟩ (.int .i64 y.reg)).setCell ⟨b,o+k * 3+2,none⟩ (.int .i64 y.n)):=
 ⟨((h.blkE.far (by show _≠b;omega) _).far (by show _≠b;omega) _).far (by show _≠b;omega) _,((h.blkR.far (by show _≠b;omega) _).far (by show _≠b;omega) _).far (by show _≠b;omega) _,((h.blkM.far (by show _≠b;omega) _).far (by show _≠b;omega) _).far (by show _≠b;omega) _,
  h.own.put y hk,((h.below.setCell (by show _<=b;omega) _).setCell (by show _<=b;omega) _).setCell (by show _<=b;omega) _,by rw [yY,yY,yY];exact h.size⟩
structure RxI (w:World) (g:Nat) (op:ByteArray) (v va:Value) (l:List Opd) (wr:World):Prop where
 blk3:Blk wr w.heap.size 30 #[.string op,v]
 blk6:Blk wr (w.heap.size+1) 30 #[.string ⟨#[]⟩,.slice none 0 0]
 blk8:Blk wr g 30 #[.string op,va]
 own:aD wr (λb=>w.heap.size+2<=b/\b≠g) va l
 below:Below w.heap.size w wr
 lo:w.heap.size+2<=g
theorem RxI.put {w wr:World} {g b o n c k:Nat} {op:ByteArray} {v:Value} {l:List Opd} (y:Opd) (h:RxI w g op v (.slice (some ⟨b,o,none⟩) n c) l wr) (hb:w.heap.size+2<=b/\b≠g) (hk:k < l.length):
  RxI w g op v (.slice (some ⟨b,o,none⟩) n c) (l.set k y) (((wr.setCell ⟨b,o+k * 3,none⟩ (.int .i64 y.kind)).setCell ⟨b,o+k * 3+1,none⟩ (.int .i64 y.reg)).setCell ⟨b,o+k * 3+2,none⟩ (.int .i64 y.n)):=
 ⟨((h.blk3.far (by show _≠b;omega) _).far (by show _≠b;omega) _).far (by show _≠b;omega) _,((h.blk6.far (by show _≠b;omega) _).far (by show _≠b;omega) _).far (by show _≠b;omega) _,((h.blk8.far (by show _≠b;omega) _).far (by show _≠b;omega) _).far (by show _≠b;omega) _,
  h.own.put y hk,((h.below.setCell (by show _<=b;omega) _).setCell (by show _<=b;omega) _).setCell (by show _<=b;omega) _,h.lo⟩
theorem RxI.el {w wr:World} {g:Nat} {op:ByteArray} {v:Value} {a:Option Addr} {n c k:Nat} {l:List Opd} {y:Opd} (h:RxI w g op v (.slice a n c) l wr) (hy:l[k]?=some y):∃b o,a=some ⟨b,o,none⟩/\(w.heap.size+2<=b/\b≠g)/\b < wr.heap.size/\wr.cell? ⟨b,o+k * 3,none⟩=some (.int .i64 y.kind)/\wr.cell? ⟨b,o+k * 3+1,none⟩=some (.int .i64 y.reg)/\wr.cell? ⟨b,o+k * 3+2,none⟩=some (.int .i64 y.n)/\∀j,wr.frozen? ⟨b,j,none⟩=false:=by obtain ⟨a9,c9,e9,_,_,g9⟩:=h.own;injection e9 with e9;subst e9;exact g9 k y hy
set_option maxHeartbeats 16000000
theorem VX {α:Type} {l:List α} {k:Nat} {y:α} (h:l[k]?=some y):l.set k y=l:=by obtain ⟨hk,rfl⟩:=ZV.1 h;exact List.set_getElem_self hk
theorem yH (page:Int) (hpg:page=3\/page=4) (x:aL) (p:aB) (v:Value) (w:World) (h:SlR aM w p v x.args) (hm:eV ⟨4,2,0⟩ 0 x.args=-1\/(0<=eV ⟨4,2,0⟩ 0 x.args/\x.iop=[74,80])) (hop9:x.op < 256) (hn:x.args.length<=1000)
  (hup:dG ⟨x.iop.toArray⟩=⟨x.iop.toArray⟩) (his:x.iop.length<=1000) (hex:x.ex.length<=1000):
  Calls Tryz.prog 212 #[bQ x v,.int .i64 page] w λe w'=>∃v',e=.returned (.tuple (if x.op=235 then #[mX,.bool false] else #[bQ ⟨page,x.op,x.iop,qZ (page+2) x.args,x.ex,x.al⟩ v',.bool (yI (page+2) x.args)]))/\aD w' (λb=>w.heap.size<=b) v' (qZ (page+2) x.args)/\Below w.heap.size w w':=by
 obtain ⟨reg,hreg⟩:∃r,r=page+2:=⟨_,rfl⟩;rw [<-hreg];have hw1:IntKind.i64.wrap (page - 3)=page - 3:=by rcases hpg with rfl | rfl<;>rfl
 have hw2:IntKind.i64.wrap (page - 3+5)=reg:=by subst hreg;rcases hpg with rfl | rfl<;>rfl
 have hw3:IntKind.i64.wrap (reg - 5)=reg - 5:=by subst hreg;rcases hpg with rfl | rfl<;>rfl
 have hw4:IntKind.i64.wrap (2 * (reg - 5))=2 * (reg - 5):=by subst hreg;rcases hpg with rfl | rfl<;>rfl
 have hw5:IntKind.i64.wrap (2 * (reg - 5)+4)=2 * (reg - 5)+4:=by subst hreg;rcases hpg with rfl | rfl<;>rfl
 have hw6:IntKind.i64.wrap (2 * (reg - 5)+4 - 4)=2 * (reg - 5):=by subst hreg;rcases hpg with rfl | rfl<;>rfl
 have hw7:IntKind.i64.wrap (2 * (reg - 5)+5)=2 * (reg - 5)+5:=by subst hreg;rcases hpg with rfl | rfl<;>rfl
 have hw8:IntKind.i64.wrap (2 * (reg - 5)+5 - 4)=2 * (reg - 5)+1:=by subst hreg;rcases hpg with rfl | rfl<;>rfl
 have HP:=aA hpg;clear hpg hreg;obtain ⟨pg,op,iop,args,ex,al⟩:=x;dsimp only at *;obtain ⟨ca,cc,rfl⟩:∃a c,v=.slice a args.length c:=by obtain ⟨a,c,e,_⟩:=h;exact ⟨a,c,e⟩
 have HMK:=aA (λW (h:SlR aM W p (.slice ca args.length cc) args)=>mC p ⟨iop.toArray⟩ _ args W h (by omega) (by show iop.toArray.size<=_;rw [XF];omega));rw [hup] at HMK;obtain ⟨exB,hexB⟩:∃b:ByteArray,b=⟨ex.toArray⟩:=⟨_,rfl⟩;have qG:exB.size<=1000:=by rw [hexB];show ex.toArray.size<=_;rw [XF];exact hex
 have HEX:=aA hexB;have hsz:(((w.alloc (.cells #[.int .i64 pg,.int .u8 op,.string ⟨iop.toArray⟩,.slice ca args.length cc,.string exB,.bool al] 158)).alloc (.cells #[.int .i64 0,.int .u8 0,.string ⟨#[]⟩,.slice none 0 0,.string ⟨#[]⟩,.bool false] 158)).alloc (.cells #[.int .i64 4,.int .i64 2,.int .i64 0] 52)).heap.size=w.heap.size+3:=by rw [zW,zW,zW]
 have HSZ:=aA hsz;have hE:Blk (((w.alloc (.cells #[.int .i64 pg,.int .u8 op,.string ⟨iop.toArray⟩,.slice ca args.length cc,.string exB,.bool al] 158)).alloc (.cells #[.int .i64 0,.int .u8 0,.string ⟨#[]⟩,.slice none 0 0,.string ⟨#[]⟩,.bool false] 158)).alloc (.cells #[.int .i64 4,.int .i64 2,.int .i64 0] 52)) w.heap.size 158 #[.int .i64 pg,.int .u8 op,.string ⟨iop.toArray⟩,.slice ca args.length cc,.string exB,.bool al]:=((Blk.new w _ _).alloc _).alloc _;have hR:Blk (((w.alloc (.cells #[.int .i64 pg,.int .u8 op,.string ⟨iop.toArray⟩,.slice ca args.length cc,.string exB,.bool al] 158)).alloc (.cells #[.int .i64 0,.int .u8 0,.string ⟨#[]⟩,.slice none 0 0,.string ⟨#[]⟩,.bool false] 158)).alloc (.cells #[.int .i64 4,.int .i64 2,.int .i64 0] 52)) (w.heap.size+1) 158 #[.int .i64 0,.int .u8 0,.string ⟨#[]⟩,.slice none 0 0,.string ⟨#[]⟩,.bool false]:=by exact tX1a
 have hM:Blk (((w.alloc (.cells #[.int .i64 pg,.int .u8 op,.string ⟨iop.toArray⟩,.slice ca args.length cc,.string exB,.bool al] 158)).alloc (.cells #[.int .i64 0,.int .u8 0,.string ⟨#[]⟩,.slice none 0 0,.string ⟨#[]⟩,.bool false] 158)).alloc (.cells #[.int .i64 4,.int .i64 2,.int .i64 0] 52)) (w.heap.size+2) 52 #[.int .i64 4,.int .i64 2,.int .i64 0]:=by exact tX18
 have HE0:=aA hE;have HR0:=aA hR;have HM0:=aA hM;have HB0:=aA ((((zY w.heap.size w).alloc (zI _) (.cells #[.int .i64 pg,.int .u8 op,.string ⟨iop.toArray⟩,.slice ca args.length cc,.string exB,.bool al] 158)).alloc (by rw [zW];omega) (.cells #[.int .i64 0,.int .u8 0,.string ⟨#[]⟩,.slice none 0 0,.string ⟨#[]⟩,.bool false] 158)).alloc (by rw [zW,zW];omega) (.cells #[.int .i64 4,.int .i64 2,.int .i64 0] 52));have HS:=aA (((h.alloc (.cells #[.int .i64 pg,.int .u8 op,.string ⟨iop.toArray⟩,.slice ca args.length cc,.string exB,.bool al] 158)).alloc (.cells #[.int .i64 0,.int .u8 0,.string ⟨#[]⟩,.slice none 0 0,.string ⟨#[]⟩,.bool false] 158)).alloc (.cells #[.int .i64 4,.int .i64 2,.int .i64 0] 52));have HIX:=aA (λq v W (h:SlR aM W q v args)=>oW q v args ⟨4,2,0⟩ W h);have HMM:=aA hm;clear h hup hsz hE hR hM hm;generalize eV ⟨4,2,0⟩ 0 args=i0 at *;unfold bQ;dsimp only;rw [<-hexB];clear hexB;go_enter Tryz.func212,Tryz.ntmps212;go_wp2_with fail;refine (HMK.out _ HS.out).mono ?_;rintro e w1 ⟨v1,rfl,ho,hb⟩;rw [HSZ.out] at ho hb;obtain ⟨va,vc,rfl⟩:=ho.form;have HE1:=aA (HE0.out.below hb (by omega));have HR1:=aA (HR0.out.below hb (by omega));have HM1:=aA (HM0.out.below hb (by omega));have HB1:=aA (HB0.out.trans (hb.mono (by omega)));have HO1:=aA ho;obtain ⟨m0,m1,m2,_,_,_⟩:=HM1.out.three;have e0:=HE1.out.cell 0;have e2:=HE1.out.cell 2;have e3:=HE1.out.cell 3;have z0:=HE1.out.free 0;have z2:=HE1.out.free 2;have z3:=HE1.out.free 3;have hlt1:=HE1.out.lt;clear ho hb HB0 HE0 HR0 HM0 HS HMK;go_wp2_with fail;have how:Own aM (((w1.setCell ⟨w.heap.size,0,none⟩ (.int .i64 page)).setCell ⟨w.heap.size,2,none⟩ (.string ⟨iop.toArray⟩)).setCell ⟨w.heap.size,3,none⟩ (.slice va args.length vc)) (w.heap.size+3) 52 NoB (.slice va args.length vc) args:=HO1.out.keep (λj hj=>by
  have hne:j≠w.heap.size:=by
   rcases hj with hj | hj
   ·exact hj.elim
   ·have:=(HO1.out.lt j hj).1;omega
  rw [xV _ _ _ _ hne,xV _ _ _ _ hne,xV _ _ _ _ hne])
 refine (HIX.out (λj=>w.heap.size+3<=j) _ _ (how.slR (λ_ h=>h.elim) (λ_ h=>h))).mono ?_;rintro e w2 ⟨rfl,hb2⟩;have ho2:Own aM w2 (w.heap.size+3) 52 NoB (.slice va args.length vc) args:=how.keep (aS.of_below hb2 (λj hj=>by rcases hj with hj | hj;exact hj.elim;exact (how.lt j hj).2));have HI0:Hid (IxI w w2.heap.size page op ⟨iop.toArray⟩ exB al (.slice va args.length vc) args w2):=by
  refine ⟨(((HE1.out.set 0 _).set 2 _).set 3 _).below hb2 (by rw [yY,yY,yY];exact HE1.out.lt),?_,?_,ho2.opdOwn (λj hj=>ho2.lt j hj),?_,zI _⟩
  ·exact (((HR1.out.far (p:=⟨w.heap.size,0,none⟩) (by simp) (.int .i64 page)).far (p:=⟨w.heap.size,2,none⟩) (by simp) (.string ⟨iop.toArray⟩)).far (p:=⟨w.heap.size,3,none⟩) (by simp) (.slice va args.length vc)).below hb2 (by rw [yY,yY,yY];exact HR1.out.lt)
  ·exact (((HM1.out.far (p:=⟨w.heap.size,0,none⟩) (by simp) (.int .i64 page)).far (p:=⟨w.heap.size,2,none⟩) (by simp) (.string ⟨iop.toArray⟩)).far (p:=⟨w.heap.size,3,none⟩) (by simp) (.slice va args.length vc)).below hb2 (by rw [yY,yY,yY];exact HM1.out.lt)
  ·exact (((HB1.out.setCell (p:=⟨w.heap.size,0,none⟩) (zI _) (.int .i64 page)).setCell (p:=⟨w.heap.size,2,none⟩) (zI _) (.string ⟨iop.toArray⟩)).setCell (p:=⟨w.heap.size,3,none⟩) (zI _) (.slice va args.length vc)).trans (hb2.mono (by rw [yY,yY,yY];exact z0I HE1.out.lt))
 have HSB:Hid (w.heap.size+3<=w2.heap.size):=by have h1:=HM1.out.lt;have h2:=hb2.size;rw [yY,yY,yY] at h2;show _<=_;omega
 clear ho2 how hb2 e0 e2 e3 z0 z2 z3 hlt1 m0 m1 m2 HE1 HR1 HM1 HB1 HO1 HIX;have e3:=HI0.out.blkE.cell 3;have e2:=HI0.out.blkE.cell 2;generalize hS:w2.heap.size=S at *;clear hS;go_upto_region 5 with fail;go_cut [38] (λs38 wx=>s38=.bool false/\wx=w2);case first=>
  rcases HMM.out with rfl | ⟨hj1,hj2⟩
  ·go_wp2;go_meet;case rel=>exact ⟨rfl,rfl⟩
  ·have hjb:(iop==[74,80])=true:=(by rw [hj2];rfl);have hj0:decide (0<=i0)=true:=z0P hj1;clear hj2;go_wp2;go_meet;case rel=>exact ⟨rfl,rfl⟩
 case rest=>
 obtain ⟨rfl,rfl⟩:=hcut;go_wp2;go_loopw [9,55] (λc i wr=>∃k:Nat,k<=args.length/\i=.int .i64 k/\c=.bool (yI reg (args.take k))/\IxI w S page op ⟨iop.toArray⟩ exB al (.slice va args.length vc) (pV reg args k) wr) (λ_ i _=>args.length - (intOf i).toNat);case atStart=>exact ⟨0,YD _,rfl,rfl,by rw [KL];exact HI0.out⟩
 case round=>
  clear HI0 e3 e2;obtain ⟨k,hk,rfl,rfl,hI⟩:=hrel;by_cases hlt:k < args.length
  ·obtain ⟨b,o,rfl,hq,hbl,c0,c1,c2,f⟩:∃b o,va=some ⟨b,o,none⟩/\(w.heap.size+3<=b/\b < S)/\b < wr.heap.size/\wr.cell? ⟨b,o+k * 3,none⟩=some (.int .i64 args[k].kind)/\wr.cell? ⟨b,o+k * 3+1,none⟩=some (.int .i64 args[k].reg)/\wr.cell? ⟨b,o+k * 3+2,none⟩=some (.int .i64 args[k].n)/\∀j,wr.frozen? ⟨b,j,none⟩=false:=(by obtain ⟨a9,c9,e9,_,_,g9⟩:=hI.own;injection e9 with e9;subst e9;exact g9 k args[k] (GK reg args k hlt));have HXS:=aA (PI reg args k hlt);have HSA:=aA (VX (GK reg args k hlt));have HXA:=aA (LP reg args k hlt);have HI:=aA hI;have HQ:=aA hq;have HKX:Hid (k < (pV reg args k).length):=(by show _ < _;rw [XH];exact hlt);generalize args[k]=y at *;obtain ⟨yk,yr,yn⟩:=y;dsimp only at c0 c1 c2;generalize pV reg args k=L at *;generalize yI reg (args.take k)=ch at *;have f0:=f (o+k * 3);have f1:=f (o+k * 3+1);have f2:=f (o+k * 3+2);have e3:=HI.out.blkE.cell 3;have m0:=HI.out.blkM.cell 0;have m1:=HI.out.blkM.cell 1;have m2:=HI.out.blkM.cell 2;have hmb:w.heap.size+2 < wr.heap.size:=HI.out.blkM.lt;have hm0:w.heap.size < wr.heap.size:=HI.out.blkE.lt;have n1:¬b=w.heap.size+2:=(by omega);have n2:¬b=wr.heap.size:=YX hbl;have n3:¬b=w.heap.size:=(by omega);clear hI hq f;have hop:=gD;have HW:=aA (λcs=>HI.out.later ((zY _ wr).alloc (zI _) (.cells cs 52)));by_cases ha:aP ⟨yk,yr,yn⟩ ⟨4,2,0⟩=true
   ·have hx:pU reg ⟨yk,yr,yn⟩=some ⟨4,reg,0⟩:=(by unfold pU;rw [if_pos ha]);obtain ⟨rfl,rfl,rfl⟩:yk=4/\yr=2/\yn=0:=(by have:=fF.1 ha;injection this with h1 h2 h3;exact ⟨h1,h2,h3⟩);rw [hx] at HXS HXA;clear hx;go_wp2;go_roundw;case rel=>exact ⟨k+1,by omega,by go_num,by rw [HXA.out,Option.isSome_some,Bool.or_true],by rw [HXS.out];exact (HI.out.put ⟨4,reg,0⟩ HQ.out.1 HKX.out).later ((zY _ _).alloc (zI _) _)⟩
    case measure=>simp [intOf];omega
   have ha':aP ⟨yk,yr,yn⟩ ⟨4,2,0⟩=false:=(by simpa using ha);by_cases hb:aP ⟨yk,yr,yn⟩ ⟨3,2,0⟩=true
   ·have hx:pU reg ⟨yk,yr,yn⟩=some ⟨3,reg,0⟩:=(by unfold pU;rw [if_neg ha,if_pos hb]);obtain ⟨rfl,rfl,rfl⟩:yk=3/\yr=2/\yn=0:=(by have:=fF.1 hb;injection this with h1 h2 h3;exact ⟨h1,h2,h3⟩);rw [hx] at HXS HXA;clear hx ha;go_wp2;go_roundw;case rel=>exact ⟨k+1,by omega,by go_num,by rw [HXA.out,Option.isSome_some,Bool.or_true],by rw [HXS.out];exact (HI.out.put ⟨3,reg,0⟩ HQ.out.1 HKX.out).later ((zY _ _).alloc (zI _) _)⟩
    case measure=>simp [intOf];omega
   have hb':aP ⟨yk,yr,yn⟩ ⟨3,2,0⟩=false:=(by simpa using hb);by_cases hc:yk=1/\yr=4
   ·have hx:pU reg ⟨yk,yr,yn⟩=some ⟨2,2 * (reg - 5),0⟩:=(by unfold pU;rw [if_neg ha,if_neg hb,if_pos hc]);obtain ⟨rfl,rfl⟩:=hc;rw [hx] at HXS HXA;clear hx ha hb;go_wp2;go_roundw;case rel=>exact ⟨k+1,by omega,by go_num,by rw [HXA.out,Option.isSome_some,Bool.or_true],by rw [HXS.out];exact (HI.out.put ⟨2,2 * (reg - 5),0⟩ HQ.out.1 HKX.out).later ((zY _ _).alloc (zI _) _)⟩
    case measure=>simp [intOf];omega
   by_cases hd:yk=1/\yr=5
   ·have hx:pU reg ⟨yk,yr,yn⟩=some ⟨2,2 * (reg - 5)+1,0⟩:=(by unfold pU;rw [if_neg ha,if_neg hb,if_neg hc,if_pos hd]);obtain ⟨rfl,rfl⟩:=hd;rw [hx] at HXS HXA;clear hx ha hb hc;go_wp2;go_roundw;case rel=>exact ⟨k+1,by omega,by go_num,by rw [HXA.out,Option.isSome_some,Bool.or_true],by rw [HXS.out];exact (HI.out.put ⟨2,2 * (reg - 5)+1,0⟩ HQ.out.1 HKX.out).later ((zY _ _).alloc (zI _) _)⟩
    case measure=>simp [intOf];omega
   have hx:pU reg ⟨yk,yr,yn⟩=none:=(by unfold pU;rw [if_neg ha,if_neg hb,if_neg hc,if_neg hd]);rw [hx] at HXS HXA;have HL:Hid (L.set k ⟨yk,yr,yn⟩=L):=HSA.out;clear hx ha hb;by_cases hk1:yk=1
   ·subst hk1;have r4:(yr==4)=false:=(by rw [yW];exact λe=>hc ⟨rfl,e⟩);have r5:(yr==5)=false:=(by rw [yW];exact λe=>hd ⟨rfl,e⟩);clear hc hd;exact tX32
   ·have r1:(yk==1)=false:=(by rw [yW];exact hk1);clear hc hd hk1;exact tX32
  ·obtain rfl:k=args.length:=(by omega);rw [VO reg args _ (zI _)] at hI;rw [QD (zI _)];have HI:=aA hI;have e0:=HI.out.blkE.cell 0;have e1:=HI.out.blkE.cell 1;have e2:=HI.out.blkE.cell 2;have e3:=HI.out.blkE.cell 3;have e4:=HI.out.blkE.cell 4;have e5:=HI.out.blkE.cell 5;have r0:=HI.out.blkR.cell 0;have r1:=HI.out.blkR.cell 1;have r2:=HI.out.blkR.cell 2;have r3:=HI.out.blkR.cell 3;have r4:=HI.out.blkR.cell 4;have r5:=HI.out.blkR.cell 5;have y0:=HI.out.blkR.free 0;have y1:=HI.out.blkR.free 1;have y2:=HI.out.blkR.free 2;have y3:=HI.out.blkR.free 3;have y4:=HI.out.blkR.free 4;have y5:=HI.out.blkR.free 5;clear hI hk;by_cases h235:op=235
   ·subst h235;go_wp2;unfold mX;refine yR (aH rfl _ _ (w.heap.size+1) 158 #[.int .i64 0,.int .u8 0,.string ⟨#[]⟩,.slice none 0 0,.string ⟨#[]⟩,.bool false] (0,0) _ rfl (jW HI.out.blkR _ _ _ _ _ _) Tryz.underlying158 rfl (by kernel_rfl)) rfl ⟨rfl,⟨_,(HI.out.own.keep (λj hj=>eH _ _ _ _ _ _ _ _ j (by have:=hj.1;omega))).mono (λj hj=>by have:=hj.1;omega)⟩,bE HI.out.below (jQ _) _ _ _ _ _ _⟩
   ·have hq:((op:Int)==235)=false:=(by rw [yW];omega);have H235:=aA h235;clear h235;go_wp2;refine yR (aH rfl _ _ (w.heap.size+1) 158 #[.int .i64 page,.int .u8 op,.string ⟨iop.toArray⟩,.slice va args.length vc,.string exB,.bool al] (0,0) _ rfl (jW HI.out.blkR _ _ _ _ _ _) Tryz.underlying158 rfl (by kernel_rfl)) rfl ⟨_,rfl,(HI.out.own.keep (λj hj=>eH _ _ _ _ _ _ _ _ j (by have:=hj.1;omega))).mono (λj hj=>by have:=hj.1;omega),bE HI.out.below (jQ _) _ _ _ _ _ _⟩
set_option maxHeartbeats 8000000
theorem BA {α:Type} {n:Nat} {enc:α->List Value} {h0:∀x,(enc x).length=n} {h1:∀x,∀u∈enc x,u.oneCell'=true} {w:World} {p:aB}:∀{xs:List α} {cs:List Value},Els (Rep.flat n enc h0 h1) w p cs xs->cs=xs.flatMap enc
 | [],_,h=>h
 | x::xs,_,⟨c1,c2,e,hr,h2⟩=>by have hr:c1=enc x:=hr;rw [e,hr,BA h2];rfl
theorem CG {α:Type} {n:Nat} {enc:α->List Value} {h0:∀x,(enc x).length=n} {h1:∀x,∀u∈enc x,u.oneCell'=true} {w:World} {p:aB}:∀(xs:List α),Els (Rep.flat n enc h0 h1) w p (xs.flatMap enc) xs
 | []=>rfl
 | x::xs=>⟨enc x,xs.flatMap enc,rfl,rfl,CG xs⟩
theorem qA:∀(l:List Opd) (k:Nat) (y:Opd),k < l.length->(((l.flatMap Opd.cells).set (k * 3) (.int .i64 y.kind)).set (k * 3+1) (.int .i64 y.reg)).set (k * 3+2) (.int .i64 y.n)=(l.set k y).flatMap Opd.cells
 | [],k,y,h=>by cases h
 | x::l,0,y,_=>by simp [Opd.cells]
 | x::l,k+1,y,h=>by have ih:=qA l k y (by simpa using h);rw [vT,z1M,z1M,<-ih];show (((([.int .i64 x.kind,.int .i64 x.reg,.int .i64 x.n]:List Value)++l.flatMap Opd.cells).set ((k+1) * 3) _).set ((k+1) * 3+1) _).set ((k+1) * 3+2) _=[.int .i64 x.kind,.int .i64 x.reg,.int .i64 x.n]++_;rw [show (k+1) * 3+2=(k * 3+2)+3 by omega,show (k+1) * 3+1=(k * 3+1)+3 by omega,show (k+1) * 3=k * 3+3 by omega];rfl
theorem Own.putO {w:World} {B:Nat} {e:TypeId} {b n c k:Nat} {l:List Opd} (y:Opd) (h:Own aM w B e NoB (.slice (some ⟨b,0,none⟩) n c) l) (hk:k < l.length):
  Own aM (((w.setCell ⟨b,k * 3,none⟩ (.int .i64 y.kind)).setCell ⟨b,k * 3+1,none⟩ (.int .i64 y.reg)).setCell ⟨b,k * 3+2,none⟩ (.int .i64 y.n)) B e NoB (.slice (some ⟨b,0,none⟩) n c) (l.set k y):=by
 obtain ⟨cs,hrow,hels⟩:=h;have hcs:cs=l.flatMap Opd.cells:=BA hels;subst hcs;refine ⟨(l.set k y).flatMap Opd.cells,⟨?_,?_⟩,CG _⟩
 ·rw [<-qA l k y hk,QQ,QQ,QQ,QQ];exact hrow.1
 ·rcases hrow.2 with ⟨hv,_⟩ | ⟨g,cap,cur,hv,hbg,hg,hc1,hc2,hc3,hc4⟩
  ·cases hv
  ·injection hv with hv1 hv2 hv3;injection hv1 with hv1;injection hv1 with hv1;subst hv1 hv2 hv3;refine .inr ⟨b,c,((cur.setIfInBounds (k * 3) (.int .i64 y.kind)).setIfInBounds (k * 3+1) (.int .i64 y.reg)).setIfInBounds (k * 3+2) (.int .i64 y.n),by rw [QQ],hbg,?_,by rw [QQ];exact hc1,hc2,by rw [Array.size_setIfInBounds,Array.size_setIfInBounds,Array.size_setIfInBounds];exact hc3,?_⟩
   ·exact ((show Blk w b e cur from hg).set (k * 3) _ |>.set (k * 3+1) _).set (k * 3+2) _
   ·rw [Array.toList_setIfInBounds,Array.toList_setIfInBounds,Array.toList_setIfInBounds,QQ,List.take_set,List.take_set,List.take_set,hc4];exact qA l k y hk
theorem or6_u8:∀x:Fin 256,bits .or .u8 (bits .andNot .u8 (x.val:Int) 7) 6=((x.val / 8 * 8+6:Nat):Int):=by decide+kernel
theorem ZN:∀x:Fin 256,bits .and .u8 (x.val:Int) 7=((x.val % 8:Nat):Int):=by decide+kernel
def BN (page:Int) (op:Nat) (r:rM) (os:List Opd):aL:=⟨page,op,r.op,if op % 8=6\/r.op=[66,73,84] then os.set (os.length - 1) ⟨5,page,0⟩ else os.set (os.length - 1) ⟨5,page,0⟩++[⟨1,((op % 8:Nat):Int),0⟩],[100],if op % 8=6 then r.alias else if r.op=[66,73,84] then true else r.alias⟩
theorem Own.at0 {w:World} {B:Nat} {e:TypeId} {v:Value} {l:List Opd} {k:Nat} {y:Opd} (h:Own aM w B e NoB v l) (hk:l[k]?=some y):∃b c,v=.slice (some ⟨b,0,none⟩) l.length c/\B<=b/\b < w.heap.size/\w.cell? ⟨b,k * 3,none⟩=some (.int .i64 y.kind)/\w.cell? ⟨b,k * 3+1,none⟩=some (.int .i64 y.reg)/\w.cell? ⟨b,k * 3+2,none⟩=some (.int .i64 y.n)/\∀j,w.frozen? ⟨b,j,none⟩=false:=by
 have ho:=h.opdOwn (q:=λj=>B<=j) (λj hj=>(h.lt j hj).1);obtain ⟨a,c,rfl,_,_,g⟩:=ho;obtain ⟨b,o,rfl,hq,hb,c0,c1,c2,f⟩:=g k y hk;obtain ⟨cs,hrow,_⟩:=h;rcases hrow.2 with ⟨hv,_⟩ | ⟨g,cap,cur,hv,_⟩
 ·cases hv
 ·injection hv with hv;injection hv with hv;injection hv with hv1 hv2;subst hv1 hv2;rw [z2H] at c0 c1 c2;exact ⟨b,c,rfl,hq,hb,c0,c1,c2,f⟩
theorem Own.ne_blk {α:Type} {R:Rep α} {w:World} {B g:Nat} {e t:TypeId} {p:aB} {v:Value} {xs:List α} {cs:Array Value} (h:Own R w B e p v xs) (hb:Blk w g t cs) (hte:t≠e):∀j,v.ownBlock=some j->j≠g:=by
 intro j hj hjg;subst hjg;obtain ⟨cs2,hrow,_⟩:=h;rcases hrow.2 with ⟨rfl,_⟩ | ⟨g,cap,cur,rfl,_,hg,_⟩
 ·cases hj
 ·obtain rfl:g=j:=ZS hj;have:=hg.symm.trans (show w.heap[g]?=some (.cells cs t (0,0)) from hb);injection this with this;injection this with h1 h2;exact hte h2.symm
theorem WS (page:Int) (hpg:page=5\/page=6) (op:Nat) (t:List UInt8) (r:rM) (os:List Opd) (ex:List UInt8) (w:World) (hop:op < 256) (hl:dV (op / 8 * 8+6) (aU cbB.data.toList)=some t) (hr:tX t=some r) (ha:lG r.bits (op / 8 * 8+6) r.args=some (os,ex)) (hok:okT t r) (hos:0 < os.length) (hos2:os.length<=100) (hT:Spc w):
  Calls Tryz.prog 213 #[.int .i64 page,.int .u8 op] w λe w'=>∃v',e=.returned (bQ (BN page op r os) v')/\Own aM w' w.heap.size 52 NoB v' (BN page op r os).args/\Below w.heap.size w w':=by
 have hw1:IntKind.i64.wrap (page - 5)=page - 5:=by rcases hpg with rfl | rfl<;>rfl
 have hw2:IntKind.i64.wrap (page - 5+5)=page:=by rcases hpg with rfl | rfl<;>rfl
 have hw3:IntKind.i64.wrap page=page:=by rcases hpg with rfl | rfl<;>rfl
 clear hpg;have HFI:=aA (λW hT=>vS page cbB (op / 8 * 8+6) t r os ex W (by omega) (by decide+kernel) hl hr ha hok hT);have h6:=or6_u8 ⟨op,hop⟩;have h7:=ZN ⟨op,hop⟩;dsimp only at h6 h7;have hB0:=(zY w.heap.size w).alloc (zI _) (.cells #[.int .i64 0,.int .u8 0,.string ⟨#[]⟩,.slice none 0 0,.string ⟨#[]⟩,.bool false] 158);have HT0:=aA (hT.below hB0);have HB0:=aA hB0;have HR0:=aA (Blk.new w 158 #[.int .i64 0,.int .u8 0,.string ⟨#[]⟩,.slice none 0 0,.string ⟨#[]⟩,.bool false]);have HSZ:Hid ((w.alloc (.cells #[.int .i64 0,.int .u8 0,.string ⟨#[]⟩,.slice none 0 0,.string ⟨#[]⟩,.bool false] 158)).heap.size=w.heap.size+1):=zW _ _;obtain ⟨m,hm⟩:∃m,os.length=m+1:=⟨os.length - 1,by omega⟩;have HM:=aA hm;have HM2:Hid (m<=100):=by show _<=_;omega
 obtain ⟨y,hy⟩:∃y,os[m]?=some y:=⟨_,zL (by omega)⟩;have HY:=aA hy;obtain ⟨rb,ro,ra,ral⟩:=r;unfold BN;rw [hm,Nat.add_sub_cancel];dsimp only at *;have hs8:op % 8 < 8:=z2F _ (by decide);clear hl hr ha hok hT hB0 hos hos2 hy hm;generalize op / 8 * 8+6=op2 at *;generalize op % 8=sl at *;go_enter Tryz.func213,Tryz.ntmps213;go_wp2_with fail;refine (HFI.out _ HT0.out).mono ?_;rintro e w1 ⟨v1,rfl,ho,hb⟩;rw [HSZ.out] at ho hb;obtain ⟨b,vc,hv,hbb,hbs,c0,c1,c2,f⟩:=ho.at0 HY.out;subst hv;rw [HM.out] at ho ⊢;have HR1:=aA (HR0.out.below hb (by omega));have HB1:=aA (HB0.out.trans (hb.mono (by omega)));have HO1:=aA ho;have f0:=f (m * 3);have f1:=f (m * 3+1);have f2:=f (m * 3+2);have r0:=HR1.out.cell 0;have r1:=HR1.out.cell 1;have r2:=HR1.out.cell 2;have r3:=HR1.out.cell 3;have r4:=HR1.out.cell 4;have r5:=HR1.out.cell 5;have y0:=HR1.out.free 0;have y1:=HR1.out.free 1;have y2:=HR1.out.free 2;have y3:=HR1.out.free 3;have y4:=HR1.out.free 4;have y5:=HR1.out.free 5;have n1:¬b=w1.heap.size:=YX hbs;have n2:¬b=w.heap.size:=by omega
 have n3:w.heap.size < w1.heap.size:=HR1.out.lt;have HBB:=aA hbb;have hm2:m<=100:=HM2.out;have hm3:(m:Int)<=100:=by omega
 clear ho hb hbb f HB0 HR0 HFI h6;unfold bQ;dsimp only;have HO2:Hid (Own aM (((w1.setCell ⟨b,m * 3,none⟩ (.int .i64 5)).setCell ⟨b,m * 3+1,none⟩ (.int .i64 page)).setCell ⟨b,m * 3+2,none⟩ (.int .i64 0)) (w.heap.size+1) 52 NoB (.slice (some ⟨b,0,none⟩) (m+1) vc) (os.set m ⟨5,page,0⟩)):=HO1.out.putO ⟨5,page,0⟩ (by rw [HM.out];omega);have HR2:Hid (Blk (((w1.setCell ⟨b,m * 3,none⟩ (.int .i64 5)).setCell ⟨b,m * 3+1,none⟩ (.int .i64 page)).setCell ⟨b,m * 3+2,none⟩ (.int .i64 0)) w.heap.size 158 #[.int .i64 0,.int .u8 0,.string ⟨#[]⟩,.slice none 0 0,.string ⟨#[]⟩,.bool false]):=((HR1.out.far (p:=⟨b,m * 3,none⟩) (Ne.symm n2) _).far (p:=⟨b,m * 3+1,none⟩) (Ne.symm n2) _).far (p:=⟨b,m * 3+2,none⟩) (Ne.symm n2) _;have HB2:Hid (Below w.heap.size w (((w1.setCell ⟨b,m * 3,none⟩ (.int .i64 5)).setCell ⟨b,m * 3+1,none⟩ (.int .i64 page)).setCell ⟨b,m * 3+2,none⟩ (.int .i64 0))):=((HB1.out.setCell (p:=⟨b,_,none⟩) (by have:=HBB.out;show _<=b;omega) _).setCell (p:=⟨b,_,none⟩) (by have:=HBB.out;show _<=b;omega) _).setCell (p:=⟨b,_,none⟩) (by have:=HBB.out;show _<=b;omega) _;by_cases hs:sl=6
 ·subst hs;go_wp2;refine yR (aJ rfl _ _ w.heap.size 158 #[.int .i64 page,.int .u8 op,.string ⟨ro.toArray⟩,.slice (some ⟨b,0,none⟩) (m+1) vc,.string ⟨#[100]⟩,.bool ral] (0,0) _ rfl ((jW HR2.out _ _ _ _ _ _).alloc _) Tryz.underlying158 rfl (by kernel_rfl)) rfl ⟨_,rfl,((HO2.out.keep (λj hj=>eH _ _ _ _ _ _ _ _ j (by
   rcases hj with hj | hj
   ·exact hj.elim
   ·have:=(HO2.out.lt j hj).1;omega))).stay ((zY _ _).alloc (zI _) _)).base (by omega),(bE HB2.out (zI _) _ _ _ _ _ _).alloc (by show _<=(rB _ _ _ _ _ _ _ _).heap.size;rw [qL,yY,yY,yY];omega) _⟩
 have hs2:((sl:Int)==6)=false:=by rw [yW];omega
 by_cases hbit:ro=[66,73,84]
 ·subst hbit;go_wp2;refine yR (aJ rfl _ _ w.heap.size 158 #[.int .i64 page,.int .u8 op,.string ⟨#[66,73,84]⟩,.slice (some ⟨b,0,none⟩) (m+1) vc,.string ⟨#[100]⟩,.bool true] (0,0) _ rfl ((jW HR2.out _ _ _ _ _ _).alloc _) Tryz.underlying158 rfl (by kernel_rfl)) rfl ⟨_,rfl,((HO2.out.keep (λj hj=>eH _ _ _ _ _ _ _ _ j (by
   rcases hj with hj | hj
   ·exact hj.elim
   ·have:=(HO2.out.lt j hj).1;omega))).stay ((zY _ _).alloc (zI _) _)).base (by omega),(bE HB2.out (zI _) _ _ _ _ _ _).alloc (by show _<=(rB _ _ _ _ _ _ _ _).heap.size;rw [qL,yY,yY,yY];omega) _⟩
 have hb2:(ro==[66,73,84])=false:=by rw [yW];exact hbit
 have HL2:Hid ((os.set m ⟨5,page,0⟩).length=m+1):=by show _=_;rw [QQ,HM.out]
 have HO3:=aA (HO2.out.stay ((zY _ _).alloc (zI _) (.cells #[.int .i64 page,.int .u8 op,.string ⟨ro.toArray⟩,.slice (some ⟨b,0,none⟩) (m+1) vc,.string ⟨#[100]⟩,.bool ral] 158)));have hE3:Blk ((((w1.setCell ⟨b,m * 3,none⟩ (.int .i64 5)).setCell ⟨b,m * 3+1,none⟩ (.int .i64 page)).setCell ⟨b,m * 3+2,none⟩ (.int .i64 0)).alloc (.cells #[.int .i64 page,.int .u8 op,.string ⟨ro.toArray⟩,.slice (some ⟨b,0,none⟩) (m+1) vc,.string ⟨#[100]⟩,.bool ral] 158)) w1.heap.size 158 #[.int .i64 page,.int .u8 op,.string ⟨ro.toArray⟩,.slice (some ⟨b,0,none⟩) (m+1) vc,.string ⟨#[100]⟩,.bool ral]:=by have h:=Blk.new (((w1.setCell ⟨b,m * 3,none⟩ (.int .i64 5)).setCell ⟨b,m * 3+1,none⟩ (.int .i64 page)).setCell ⟨b,m * 3+2,none⟩ (.int .i64 0)) 158 #[.int .i64 page,.int .u8 op,.string ⟨ro.toArray⟩,.slice (some ⟨b,0,none⟩) (m+1) vc,.string ⟨#[100]⟩,.bool ral];rw [yY,yY,yY] at h;exact h
 have HE3:=aA hE3;have HR3:=aA (HR2.out.alloc (.cells #[.int .i64 page,.int .u8 op,.string ⟨ro.toArray⟩,.slice (some ⟨b,0,none⟩) (m+1) vc,.string ⟨#[100]⟩,.bool ral] 158));have HB3:=aA (HB2.out.alloc (by rw [yY,yY,yY];omega) (.cells #[.int .i64 page,.int .u8 op,.string ⟨ro.toArray⟩,.slice (some ⟨b,0,none⟩) (m+1) vc,.string ⟨#[100]⟩,.bool ral] 158));have HZ3:Hid (w.heap.size+1<=((((w1.setCell ⟨b,m * 3,none⟩ (.int .i64 5)).setCell ⟨b,m * 3+1,none⟩ (.int .i64 page)).setCell ⟨b,m * 3+2,none⟩ (.int .i64 0)).alloc (.cells #[.int .i64 page,.int .u8 op,.string ⟨ro.toArray⟩,.slice (some ⟨b,0,none⟩) (m+1) vc,.string ⟨#[100]⟩,.bool ral] 158)).heap.size):=by show _<=_;rw [zW,yY,yY,yY];omega
 have HLA:Hid (((os.set m ⟨5,page,0⟩).length+1) * 24<=140737488355328):=by show _<=_;rw [HL2.out];omega
 have HLB:Hid ((os.set m ⟨5,page,0⟩).length+1<=9223372036854775807):=by show _<=_;rw [HL2.out];omega
 clear hE3 r0 r1 r2 r3 r4 r5 y0 y1 y2 y3 y4 y5;go_wp2_with (at_builtin;refine cK rfl (.tmp 37) (.tmp 40) 28 rfl (w.heap.size+1) 52 24 lH _ (os.set m ⟨5,page,0⟩) ⟨1,(sl:Int),0⟩ _ rfl (by show Value.slice (some ⟨w1.heap.size+1,0,none⟩) 1 1=_;rw [zW,yY,yY,yY]) HO3.out rfl HLA.out HLB.out HZ3.out ?_;intro a' c' w' hp;rw [QQ] at hp ⊢;have HP:=aA hp;have hE4:=HE3.out.grown hp.2 (λe=>n1 (by injection e with e;exact e.symm));have hR4:=HR3.out.grown hp.2 (λe=>n2 (by injection e with e;exact e.symm));have HE4:=aA hE4;have HR4:=aA hR4;have e0:=hE4.cell 0;have e1:=hE4.cell 1;have e2:=hE4.cell 2;have e3:=hE4.cell 3;have e4:=hE4.cell 4;have e5:=hE4.cell 5;have z3:=hE4.free 3;have r0:=hR4.cell 0;have r1:=hR4.cell 1;have r2:=hR4.cell 2;have r3:=hR4.cell 3;have r4:=hR4.cell 4;have r5:=hR4.cell 5;have y0:=hR4.free 0;have y1:=hR4.free 1;have y2:=hR4.free 2;have y3:=hR4.free 3;have y4:=hR4.free 4;have y5:=hR4.free 5;clear hp hE4 hR4);all_goals
  refine yR (aJ rfl _ _ w.heap.size 158 #[.int .i64 page,.int .u8 op,.string ⟨ro.toArray⟩,.slice a' (os.length+1) c',.string ⟨#[100]⟩,.bool ral] (0,0) _ rfl (jW (HR4.out.far (p:=⟨w1.heap.size,3,none⟩) (by show _≠w1.heap.size;omega) _) _ _ _ _ _ _) Tryz.underlying158 rfl (by kernel_rfl)) rfl ⟨_,rfl,(HP.out.1.keep (λj hj=>?_)).base (by omega),?_⟩
  ·have hj2:j≠w1.heap.size/\w.heap.size+1<=j:=by
    rcases hj with hj | hj
    ·exact hj.elim
    ·exact ⟨HP.out.1.ne_blk HE4.out (by decide) j hj,(HP.out.1.lt j hj).1⟩
   exact (eH _ _ _ _ _ _ _ _ j (by omega)).trans (xV _ _ _ _ hj2.1)
  ·exact bE ((HB3.out.grown HP.out.2 (by have:=HZ3.out;omega) (λk e=>by have e:b=k:=ZS e;have:=HBB.out;omega)).setCell (p:=⟨w1.heap.size,3,none⟩) (by show _<=w1.heap.size;omega) _) (zI _) _ _ _ _ _ _
end Go.Proofs.YtpigbggoiipmhaaGreatDoor
