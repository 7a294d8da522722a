/-
  Operands stored in place; entries set; At at 7E. The reference's entry of an opcode of DDCB or FDCB. ref10.Fill. The plain law: how an entry's variable operands are found. The plain law: the program's fits and Fill are the reference's, for an entry whose variable operands are found alike. An accumulator whose elements have blocks of the call's own. Lists of operands of the call's own, held on to. Conditions: sizes; the library's table as its initialiser lays it; the opcode is a byte; the mnemonic is dG case and not empty; the new length's bytes.
-/
import Derived.Test.YtpigbggoiipmhaaGreatDoorBA11
namespace Go.Proofs.YtpigbggoiipmhaaGreatDoor
set_option maxHeartbeats 8000000
set_option maxRecDepth 100000
open Go.RowKit Go.Shelf Go.Sort
theorem aD.setKd {w:World} {q:aB} {b o n c:Nat} {l:List Opd} {k:Nat} {x:Opd} {m:Int} (h:aD w q (.slice (some ⟨b,o,none⟩) n c) l) (hx:l[k]?=some x):aD (w.setCell ⟨b,o+k * 3,none⟩ (.int .i64 m)) q (.slice (some ⟨b,o,none⟩) n c) (l.set k {x with kind:=m}):=by
 obtain ⟨a,cap,e,h1,h2,h3⟩:=h;injection e with e1 e2 e3;subst e1 e3;refine ⟨_,c,by rw [QQ,e2],by rw [QQ];exact h1,h2,λi z hz=>?_⟩;have hk:=(ZV.1 hx).1;have hi:i < l.length:=by have:=(ZV.1 hz).1;simpa using this
 obtain ⟨b',o',eb,hq,hb,c0,c1,c2,f⟩:=h3 i l[i] (zL hi);injection eb with eb;injection eb with eb1 eb2;subst eb1 eb2;have far:∀j v,j≠o+k * 3->w.cell? ⟨b,j,none⟩=some v->(w.setCell ⟨b,o+k * 3,none⟩ (.int .i64 m)).cell? ⟨b,j,none⟩=some v:=λj v hj hv=>by rw [z0D _ _ _ _ (by simp)];exact hv
 refine ⟨b,o,rfl,hq,by simpa [World.setCell] using hb,?_,?_,?_,λj=>(World.frozen?_setCell _ _ _ _).trans (f j)⟩
 ·by_cases hik:k=i
  ·subst hik;rw [z0M hk] at hz;obtain rfl:=ZS hz;exact z1B _ _ _ (by rw [c0];rfl)
  ·rw [z0F hik,zL hi] at hz;obtain rfl:=ZS hz;exact far _ _ (by omega) c0
 ·by_cases hik:k=i
  ·subst hik;exact tX34
  ·rw [z0F hik,zL hi] at hz;obtain rfl:=ZS hz;exact far _ _ (by omega) c1
 ·by_cases hik:k=i
  ·subst hik;exact tX35
  ·rw [z0F hik,zL hi] at hz;obtain rfl:=ZS hz;exact far _ _ (by omega) c2
theorem aD.setRg {w:World} {q:aB} {b o n c:Nat} {l:List Opd} {k:Nat} {x:Opd} {m:Int} (h:aD w q (.slice (some ⟨b,o,none⟩) n c) l) (hx:l[k]?=some x):aD (w.setCell ⟨b,o+k * 3+1,none⟩ (.int .i64 m)) q (.slice (some ⟨b,o,none⟩) n c) (l.set k {x with reg:=m}):=by
 obtain ⟨a,cap,e,h1,h2,h3⟩:=h;injection e with e1 e2 e3;subst e1 e3;refine ⟨_,c,by rw [QQ,e2],by rw [QQ];exact h1,h2,λi z hz=>?_⟩;have hk:=(ZV.1 hx).1;have hi:i < l.length:=by have:=(ZV.1 hz).1;simpa using this
 obtain ⟨b',o',eb,hq,hb,c0,c1,c2,f⟩:=h3 i l[i] (zL hi);injection eb with eb;injection eb with eb1 eb2;subst eb1 eb2;have far:∀j v,j≠o+k * 3+1->w.cell? ⟨b,j,none⟩=some v->(w.setCell ⟨b,o+k * 3+1,none⟩ (.int .i64 m)).cell? ⟨b,j,none⟩=some v:=λj v hj hv=>by rw [z0D _ _ _ _ (by simp)];exact hv
 refine ⟨b,o,rfl,hq,by simpa [World.setCell] using hb,?_,?_,?_,λj=>(World.frozen?_setCell _ _ _ _).trans (f j)⟩
 ·by_cases hik:k=i
  ·subst hik;exact tX33
  ·rw [z0F hik,zL hi] at hz;obtain rfl:=ZS hz;exact far _ _ (by omega) c0
 ·by_cases hik:k=i
  ·subst hik;rw [z0M hk] at hz;obtain rfl:=ZS hz;exact z1B _ _ _ (by rw [c1];rfl)
  ·rw [z0F hik,zL hi] at hz;obtain rfl:=ZS hz;exact far _ _ (by omega) c1
 ·by_cases hik:k=i
  ·subst hik;exact tX35
  ·rw [z0F hik,zL hi] at hz;obtain rfl:=ZS hz;exact far _ _ (by omega) c2
theorem aD.put {w:World} {q:aB} {b o n c:Nat} {l:List Opd} {k:Nat} (y:Opd) (h:aD w q (.slice (some ⟨b,o,none⟩) n c) l) (hk:k < l.length):
  aD (((w.setCell ⟨b,o+k * 3,none⟩ (.int .i64 y.kind)).setCell ⟨b,o+k * 3+1,none⟩ (.int .i64 y.reg)).setCell ⟨b,o+k * 3+2,none⟩ (.int .i64 y.n)) q (.slice (some ⟨b,o,none⟩) n c) (l.set k y):=by
 have h1:=h.setKd (m:=y.kind) (zL hk);have h2:=h1.setRg (m:=y.reg) (x:={l[k] with kind:=y.kind}) (k:=k) (by rw [z0M hk]);have h3:=h2.setN (m:=y.n) (x:={l[k] with kind:=y.kind,reg:=y.reg}) (k:=k) (by rw [z0M (by rw [QQ];exact hk)]);rw [List.set_set,List.set_set] at h3;exact h3
theorem posO_at {x:Opd} {l:List Opd} {k:Nat}:∀{j:Nat},eV x j l=(j+k:Nat)->l[k]?=some x:=by
 intro j h;induction l generalizing j k with
 | nil=>rw [eV] at h;omega
 | cons y r ih=>
  rw [eV] at h;by_cases e:aP x y=true
  ·rw [if_pos e] at h;obtain rfl:k=0:=(by omega);rw [fF.1 e];rfl
  ·rw [if_neg e] at h;cases k with
   | zero=>
    exfalso;have hge:∀(r:List Opd) (j:Nat),eV x j r=-1\/(j:Int)<=eV x j r:=by
     intro r;induction r with
     | nil=>intro j;exact .inl rfl
     | cons z r ih2=>
      intro j;rw [eV];split
      ·exact .inr (Int.le_refl _)
      ·rcases ih2 (j+1) with h | h
       ·exact .inl h
       ·exact .inr (by omega)
    rcases hge r (j+1) with h' | h'<;>omega
   | succ k=>exact ih (j:=j+1) (k:=k) (by rw [h];congr 1;omega)
theorem CI (x:aL) (p:aB) (v:Value) (page:Int) (k:Nat) (w:World) (h:SlR aM w p v x.args) (hpg:page=3\/page=4) (hk:eV ⟨4,2,0⟩ 0 x.args=k) (hn:x.args.length<=1000) (hjp:x.iop≠[74,80])
  (hup:dG ⟨x.iop.toArray⟩=⟨x.iop.toArray⟩) (his:x.iop.length<=1000) (hex:x.ex.length<=1000):
  Calls Tryz.prog 212 #[bQ x v,.int .i64 page] w λe w'=>∃v',e=.returned (.tuple #[bQ ⟨page,x.op,x.iop,x.args.set k ⟨5,page+2,0⟩,100::x.ex,x.al⟩ v',.bool true])/\aD w' (λb=>w.heap.size<=b) v' (x.args.set k ⟨5,page+2,0⟩)/\Below w.heap.size w w':=by
 obtain ⟨pg,op,iop,args,ex,al⟩:=x;dsimp only at *;obtain ⟨ca,cc,rfl⟩:∃a c,v=.slice a args.length c:=by obtain ⟨a,c,e,_⟩:=h;exact ⟨a,c,e⟩
 have hkl:k < args.length:=(ZV.1 (posO_at (j:=0) (by rw [hk];simp))).1;have HKL:=aA hkl;have HMK:=aA (λW (h:SlR aM W p (.slice ca args.length cc) args)=>mC p ⟨iop.toArray⟩ _ args W h (by omega) (by show iop.toArray.size<=_;rw [XF];omega));rw [hup] at HMK;obtain ⟨exB,hexB⟩:∃b:ByteArray,b=⟨ex.toArray⟩:=⟨_,rfl⟩;have qG:exB.size<=1000:=by rw [hexB];show ex.toArray.size<=_;rw [XF];exact hex
 have HEX:=aA hexB;have hcat:Hid ((⟨#[100]⟩++exB:ByteArray)=⟨(100::ex).toArray⟩):=by show _=_;rw [hexB];apply ByteArray.ext;simp
 have hsz:(((w.alloc (.cells #[.int .i64 pg,.int .u8 op,.string ⟨iop.toArray⟩,.slice ca args.length cc,.string exB,.bool al] 158)).alloc (.cells #[.int .i64 0,.int .u8 0,.string ⟨#[]⟩,.slice none 0 0,.string ⟨#[]⟩,.bool false] 158)).alloc (.cells #[.int .i64 4,.int .i64 2,.int .i64 0] 52)).heap.size=w.heap.size+3:=by rw [zW,zW,zW]
 have HSZ:=aA hsz;have hE:Blk (((w.alloc (.cells #[.int .i64 pg,.int .u8 op,.string ⟨iop.toArray⟩,.slice ca args.length cc,.string exB,.bool al] 158)).alloc (.cells #[.int .i64 0,.int .u8 0,.string ⟨#[]⟩,.slice none 0 0,.string ⟨#[]⟩,.bool false] 158)).alloc (.cells #[.int .i64 4,.int .i64 2,.int .i64 0] 52)) w.heap.size 158 #[.int .i64 pg,.int .u8 op,.string ⟨iop.toArray⟩,.slice ca args.length cc,.string exB,.bool al]:=((Blk.new w _ _).alloc _).alloc _;have hR:Blk (((w.alloc (.cells #[.int .i64 pg,.int .u8 op,.string ⟨iop.toArray⟩,.slice ca args.length cc,.string exB,.bool al] 158)).alloc (.cells #[.int .i64 0,.int .u8 0,.string ⟨#[]⟩,.slice none 0 0,.string ⟨#[]⟩,.bool false] 158)).alloc (.cells #[.int .i64 4,.int .i64 2,.int .i64 0] 52)) (w.heap.size+1) 158 #[.int .i64 0,.int .u8 0,.string ⟨#[]⟩,.slice none 0 0,.string ⟨#[]⟩,.bool false]:=by exact tX1a
 have hM:Blk (((w.alloc (.cells #[.int .i64 pg,.int .u8 op,.string ⟨iop.toArray⟩,.slice ca args.length cc,.string exB,.bool al] 158)).alloc (.cells #[.int .i64 0,.int .u8 0,.string ⟨#[]⟩,.slice none 0 0,.string ⟨#[]⟩,.bool false] 158)).alloc (.cells #[.int .i64 4,.int .i64 2,.int .i64 0] 52)) (w.heap.size+2) 52 #[.int .i64 4,.int .i64 2,.int .i64 0]:=by exact tX18
 have HE0:=aA hE;have HR0:=aA hR;have HM0:=aA hM;have HB0:=aA ((((zY w.heap.size w).alloc (zI _) (.cells #[.int .i64 pg,.int .u8 op,.string ⟨iop.toArray⟩,.slice ca args.length cc,.string exB,.bool al] 158)).alloc (by rw [zW];omega) (.cells #[.int .i64 0,.int .u8 0,.string ⟨#[]⟩,.slice none 0 0,.string ⟨#[]⟩,.bool false] 158)).alloc (by rw [zW,zW];omega) (.cells #[.int .i64 4,.int .i64 2,.int .i64 0] 52));have hjb:(iop==[74,80])=false:=by rw [yW];exact hjp
 have HS:=aA (((h.alloc (.cells #[.int .i64 pg,.int .u8 op,.string ⟨iop.toArray⟩,.slice ca args.length cc,.string exB,.bool al] 158)).alloc (.cells #[.int .i64 0,.int .u8 0,.string ⟨#[]⟩,.slice none 0 0,.string ⟨#[]⟩,.bool false] 158)).alloc (.cells #[.int .i64 4,.int .i64 2,.int .i64 0] 52));have HIX:=aA (λq v W (h:SlR aM W q v args)=>oW q v args ⟨4,2,0⟩ W h);rw [hk] at HIX;clear h hk hup hsz hE hR hM;unfold bQ;dsimp only;rw [<-hexB];clear hexB hjp;have hw1:IntKind.i64.wrap (page - 3)=page - 3:=by rcases hpg with rfl | rfl<;>rfl
 have hw2:IntKind.i64.wrap (page - 3+5)=page+2:=by rcases hpg with rfl | rfl<;>rfl
 go_enter Tryz.func212,Tryz.ntmps212;go_wp2_with fail;refine (HMK.out _ HS.out).mono ?_;rintro e w1 ⟨v1,rfl,ho,hb⟩;rw [HSZ.out] at ho hb;obtain ⟨va,vc,rfl⟩:=ho.form;obtain ⟨vb,vo,rfl,hvb⟩:∃b o,va=some ⟨b,o,none⟩/\w.heap.size+3<=b:=by obtain ⟨a3,c3,e3,_,_,g3⟩:=ho.opdOwn (q:=λb=>w.heap.size+3<=b) (λj hj=>(ho.lt j hj).1);injection e3 with e3;subst e3;obtain ⟨b,o,eb,hq,_⟩:=g3 k args[k] (zL HKL.out);exact ⟨b,o,eb,hq⟩
 have HE1:=aA (HE0.out.below hb (by omega));have HR1:=aA (HR0.out.below hb (by omega));have HM1:=aA (HM0.out.below hb (by omega));have HB1:=aA (HB0.out.trans (hb.mono (by omega)));have HO1:=aA ho;have HVB:=aA hvb;obtain ⟨m0,m1,m2,_,_,_⟩:=HM1.out.three;have e0:=HE1.out.cell 0;have e2:=HE1.out.cell 2;have e3:=HE1.out.cell 3;have z0:=HE1.out.free 0;have z2:=HE1.out.free 2;have z3:=HE1.out.free 3;have hlt1:=HE1.out.lt;clear ho hb hvb HB0 HE0 HR0 HM0 HS HMK;go_wp2_with fail;have how:Own aM (((w1.setCell ⟨w.heap.size,0,none⟩ (.int .i64 page)).setCell ⟨w.heap.size,2,none⟩ (.string ⟨iop.toArray⟩)).setCell ⟨w.heap.size,3,none⟩ (.slice (some ⟨vb,vo,none⟩) args.length vc)) (w.heap.size+3) 52 NoB (.slice (some ⟨vb,vo,none⟩) args.length vc) args:=HO1.out.keep (λj hj=>by
  have hne:j≠w.heap.size:=by
   rcases hj with hj | hj
   ·exact hj.elim
   ·have:=(HO1.out.lt j hj).1;omega
  rw [xV _ _ _ _ hne,xV _ _ _ _ hne,xV _ _ _ _ hne])
 refine (HIX.out (λj=>w.heap.size+3<=j) _ _ (how.slR (λ_ h=>h.elim) (λ_ h=>h))).mono ?_;rintro e w2 ⟨rfl,hb2⟩;have hE2:Blk w2 w.heap.size 158 #[.int .i64 page,.int .u8 op,.string ⟨iop.toArray⟩,.slice (some ⟨vb,vo,none⟩) args.length vc,.string exB,.bool al]:=(((HE1.out.set 0 _).set 2 _).set 3 _).below hb2 (by rw [yY,yY,yY];exact HE1.out.lt);have hR2:=(((HR1.out.far (p:=⟨w.heap.size,0,none⟩) (by simp) (.int .i64 page)).far (p:=⟨w.heap.size,2,none⟩) (by simp) (.string ⟨iop.toArray⟩)).far (p:=⟨w.heap.size,3,none⟩) (by simp) (.slice (some ⟨vb,vo,none⟩) args.length vc)).below hb2 (by rw [yY,yY,yY];exact HR1.out.lt);have ho2:Own aM w2 (w.heap.size+3) 52 NoB (.slice (some ⟨vb,vo,none⟩) args.length vc) args:=how.keep (aS.of_below hb2 (λj hj=>by rcases hj with hj | hj;exact hj.elim;exact (how.lt j hj).2));have HO2:=aA (ho2.opdOwn (q:=λb=>w.heap.size+3<=b) (λj hj=>(ho2.lt j hj).1));have HB2:=aA ((((HB1.out.setCell (p:=⟨w.heap.size,0,none⟩) (zI _) (.int .i64 page)).setCell (p:=⟨w.heap.size,2,none⟩) (zI _) (.string ⟨iop.toArray⟩)).setCell (p:=⟨w.heap.size,3,none⟩) (zI _) (.slice (some ⟨vb,vo,none⟩) args.length vc)).trans (hb2.mono (by rw [yY,yY,yY];exact z0I HE1.out.lt)));obtain ⟨b9,o9,e9,_,_,d0,d1,d2,df⟩:∃b o,some (⟨vb,vo,none⟩:Addr)=some ⟨b,o,none⟩/\w.heap.size+3<=b/\b < w2.heap.size/\w2.cell? ⟨b,o+k * 3,none⟩=some (.int .i64 args[k].kind)/\w2.cell? ⟨b,o+k * 3+1,none⟩=some (.int .i64 args[k].reg)/\w2.cell? ⟨b,o+k * 3+2,none⟩=some (.int .i64 args[k].n)/\∀j,w2.frozen? ⟨b,j,none⟩=false:=by obtain ⟨a3,c3,e3,_,_,g3⟩:=HO2.out;injection e3 with e3;subst e3;exact g3 k args[k] (zL HKL.out)
 injection e9 with e9;injection e9 with e9 e10;subst e9 e10;have HE2:=aA hE2;have HR2:=aA hR2;clear hE2 hR2 ho2 how hb2 e0 e2 e3 z0 z2 z3 hlt1 m0 m1 m2 HE1 HR1 HM1 HB1 HO1;have e0:=HE2.out.cell 0;have e1:=HE2.out.cell 1;have e2:=HE2.out.cell 2;have e3:=HE2.out.cell 3;have e4:=HE2.out.cell 4;have e5:=HE2.out.cell 5;have z4:=HE2.out.free 4;have r0:=HR2.out.cell 0;have r1:=HR2.out.cell 1;have r2:=HR2.out.cell 2;have r3:=HR2.out.cell 3;have r4:=HR2.out.cell 4;have r5:=HR2.out.cell 5;have y0:=HR2.out.free 0;have y1:=HR2.out.free 1;have y2:=HR2.out.free 2;have y3:=HR2.out.free 3;have y4:=HR2.out.free 4;have y5:=HR2.out.free 5;have f0:=df (vo+k * 3);have f1:=df (vo+k * 3+1);have f2:=df (vo+k * 3+2);have hne:¬vb=w.heap.size:=by have:=HVB.out;omega
 have hne2:¬vb=w.heap.size+1:=by have:=HVB.out;omega
 clear df;go_wp2;rw [hcat.out];have hp:=HO2.out.put ⟨5,page+2,0⟩ HKL.out;refine yR (aH rfl _ _ (w.heap.size+1) 158 #[.int .i64 page,.int .u8 op,.string ⟨iop.toArray⟩,.slice (some ⟨vb,vo,none⟩) args.length vc,.string ⟨(100::ex).toArray⟩,.bool al] (0,0) _ rfl (show Blk _ (w.heap.size+1) 158 #[.int .i64 page,.int .u8 op,.string ⟨iop.toArray⟩,.slice (some ⟨vb,vo,none⟩) args.length vc,.string ⟨(100::ex).toArray⟩,.bool al] from (((((((((HR2.out.far (p:=⟨vb,vo+k * 3,none⟩) (Ne.symm hne2) _).far (p:=⟨vb,vo+k * 3+1,none⟩) (Ne.symm hne2) _).far (p:=⟨vb,vo+k * 3+2,none⟩) (Ne.symm hne2) _).far (p:=⟨w.heap.size,4,none⟩) (by simp) _).set 0 _).set 1 _).set 2 _).set 3 _).set 4 _).set 5 _) Tryz.underlying158 rfl (by kernel_rfl)) rfl ⟨_,rfl,(hp.keep (λj hj=>?_)).mono (λj hj=>by have hj:w.heap.size+3<=j:=hj;omega),?_⟩
 ·have hj:w.heap.size+3<=j:=hj;have n1:j≠w.heap.size:=by omega
  have n2:j≠w.heap.size+1:=by omega
  rw [xV _ _ _ _ n2,xV _ _ _ _ n2,xV _ _ _ _ n2,xV _ _ _ _ n2,xV _ _ _ _ n2,xV _ _ _ _ n2,xV _ _ _ _ n1]
 ·have hv:w.heap.size<=vb:=by have:=HVB.out;omega
  exact (((((((((HB2.out.setCell (p:=⟨vb,_,none⟩) hv _).setCell (p:=⟨vb,_,none⟩) hv _).setCell (p:=⟨vb,_,none⟩) hv _).setCell (p:=⟨w.heap.size,4,none⟩) (zI _) _).setCell (p:=⟨w.heap.size+1,_,none⟩) (jQ _) _).setCell (p:=⟨w.heap.size+1,_,none⟩) (jQ _) _).setCell (p:=⟨w.heap.size+1,_,none⟩) (jQ _) _).setCell (p:=⟨w.heap.size+1,_,none⟩) (jQ _) _).setCell (p:=⟨w.heap.size+1,_,none⟩) (jQ _) _).setCell (p:=⟨w.heap.size+1,_,none⟩) (jQ _) _
def lQ:ByteArray:=⟨#[48,48,48,48,48,48,48,48,32,78,79,80,59,48,48,48,48,49,48,48,48,32,69,88,32,65,70,44,65,70,39,59,48,48,48,49,48,48,48,48,32,68,74,78,90,32,101,59,48,48,48,49,49,48,48,48,32,74,82,32,101,59,48,48,49,107,107,48,48,48,32,74,82,32,107,44,101,59,48,48,112,112,48,48,48,49,32,76,68,32,112,44,119,59,48,48,112,112,49,48,48,49,32,65,68,68,32,72,76,44,112,59,48,48,48,48,48,48,49,48,32,76,68,32,40,66,67,41,44,65,59,48,48,48,49,48,48,49,48,32,76,68,32,40,68,69,41,44,65,59,48,48,49,48,48,48,49,48,32,76,68,32,40,119,41,44,72,76,59,48,48,49,49,48,48,49,48,32,76,68,32,40,119,41,44,65,59,48,48,48,48,49,48,49,48,32,76,68,32,65,44,40,66,67,41,59,48,48,48,49,49,48,49,48,32,76,68,32,65,44,40,68,69,41,59,48,48,49,48,49,48,49,48,32,76,68,32,72,76,44,40,119,41,59,48,48,49,49,49,48,49,48,32,76,68,32,65,44,40,119,41,59,48,48,112,112,48,48,49,49,32,73,78,67,32,112,59,48,48,112,112,49,48,49,49,32,68,69,67,32,112,59,48,48,114,114,114,49,48,48,32,73,78,67,32,114,59,48,48,114,114,114,49,48,49,32,68,69,67,32,114,59,48,48,114,114,114,49,49,48,32,76,68,32,114,44,110,59,48,48,48,48,48,49,49,49,32,82,76,67,65,59,48,48,48,48,49,49,49,49,32,82,82,67,65,59,48,48,48,49,48,49,49,49,32,82,76,65,59,48,48,48,49,49,49,49,49,32,82,82,65,59,48,48,49,48,48,49,49,49,32,68,65,65,59,48,48,49,48,49,49,49,49,32,67,80,76,59,48,48,49,49,48,49,49,49,32,83,67,70,59,48,48,49,49,49,49,49,49,32,67,67,70,59,48,49,49,49,48,49,49,48,32,72,65,76,84,59,48,49,114,114,114,115,115,115,32,76,68,32,114,44,115,59,49,48,48,48,48,115,115,115,32,65,68,68,32,65,44,115,59,49,48,48,48,49,115,115,115,32,65,68,67,32,65,44,115,59,49,48,48,49,48,115,115,115,32,83,85,66,32,115,59,49,48,48,49,49,115,115,115,32,83,66,67,32,65,44,115,59,49,48,49,48,48,115,115,115,32,65,78,68,32,115,59,49,48,49,48,49,115,115,115,32,88,79,82,32,115,59,49,48,49,49,48,115,115,115,32,79,82,32,115,59,49,48,49,49,49,115,115,115,32,67,80,32,115,59,49,49,99,99,99,48,48,48,32,82,69,84,32,99,59,49,49,113,113,48,48,48,49,32,80,79,80,32,113,59,49,49,48,48,49,48,48,49,32,82,69,84,59,49,49,48,49,49,48,48,49,32,69,88,88,59,49,49,49,48,49,48,48,49,32,74,80,32,40,72,76,41,59,49,49,49,49,49,48,48,49,32,76,68,32,83,80,44,72,76,59,49,49,99,99,99,48,49,48,32,74,80,32,99,44,119,59,49,49,48,48,48,48,49,49,32,74,80,32,119,59,49,49,48,49,48,48,49,49,32,79,85,84,32,40,110,41,44,65,59,49,49,48,49,49,48,49,49,32,73,78,32,65,44,40,110,41,59,49,49,49,48,48,48,49,49,32,69,88,32,40,83,80,41,44,72,76,59,49,49,49,48,49,48,49,49,32,69,88,32,68,69,44,72,76,59,49,49,49,49,48,48,49,49,32,68,73,59,49,49,49,49,49,48,49,49,32,69,73,59,49,49,99,99,99,49,48,48,32,67,65,76,76,32,99,44,119,59,49,49,113,113,48,49,48,49,32,80,85,83,72,32,113,59,49,49,48,48,49,49,48,49,32,67,65,76,76,32,119,59,49,49,48,48,48,49,49,48,32,65,68,68,32,65,44,110,59,49,49,48,48,49,49,49,48,32,65,68,67,32,65,44,110,59,49,49,48,49,48,49,49,48,32,83,85,66,32,110,59,49,49,48,49,49,49,49,48,32,83,66,67,32,65,44,110,59,49,49,49,48,48,49,49,48,32,65,78,68,32,110,59,49,49,49,48,49,49,49,48,32,88,79,82,32,110,59,49,49,49,49,48,49,49,48,32,79,82,32,110,59,49,49,49,49,49,49,49,48,32,67,80,32,110,59,49,49,116,116,116,49,49,49,32,82,83,84,32,116]⟩
def cbB:ByteArray:=⟨#[48,48,48,48,48,115,115,115,32,82,76,67,32,115,59,48,48,48,48,49,115,115,115,32,82,82,67,32,115,59,48,48,48,49,48,115,115,115,32,82,76,32,115,59,48,48,48,49,49,115,115,115,32,82,82,32,115,59,48,48,49,48,48,115,115,115,32,83,76,65,32,115,59,48,48,49,48,49,115,115,115,32,83,82,65,32,115,59,48,48,49,49,48,115,115,115,32,83,76,76,32,115,59,48,48,49,49,49,115,115,115,32,83,82,76,32,115,59,48,49,98,98,98,115,115,115,32,66,73,84,32,98,44,115,59,49,48,98,98,98,115,115,115,32,82,69,83,32,98,44,115,59,49,49,98,98,98,115,115,115,32,83,69,84,32,98,44,115]⟩
def edB:ByteArray:=⟨#[48,49,49,49,48,48,48,48,32,73,78,32,40,67,41,59,48,49,114,114,114,48,48,48,32,73,78,32,114,44,40,67,41,59,48,49,49,49,48,48,48,49,32,79,85,84,32,40,67,41,44,48,59,48,49,114,114,114,48,48,49,32,79,85,84,32,40,67,41,44,114,59,48,49,112,112,48,48,49,48,32,83,66,67,32,72,76,44,112,59,48,49,112,112,49,48,49,48,32,65,68,67,32,72,76,44,112,59,48,49,49,48,48,48,49,49,32,76,68,32,40,119,41,44,72,76,32,42,59,48,49,49,48,49,48,49,49,32,76,68,32,72,76,44,40,119,41,32,42,59,48,49,112,112,48,48,49,49,32,76,68,32,40,119,41,44,112,59,48,49,112,112,49,48,49,49,32,76,68,32,112,44,40,119,41,59,48,49,48,48,48,49,48,48,32,78,69,71,59,48,49,120,120,120,49,48,48,32,78,69,71,32,42,59,48,49,48,48,49,49,48,49,32,82,69,84,73,59,48,49,48,48,48,49,48,49,32,82,69,84,78,59,48,49,120,120,120,49,48,49,32,82,69,84,78,32,42,59,48,49,48,48,48,49,49,48,32,73,77,32,48,59,48,49,48,49,48,49,49,48,32,73,77,32,49,59,48,49,48,49,49,49,49,48,32,73,77,32,50,59,48,49,120,48,120,49,49,48,32,73,77,32,48,32,42,59,48,49,49,49,48,49,49,48,32,73,77,32,49,32,42,59,48,49,49,49,49,49,49,48,32,73,77,32,50,32,42,59,48,49,48,48,48,49,49,49,32,76,68,32,73,44,65,59,48,49,48,48,49,49,49,49,32,76,68,32,82,44,65,59,48,49,48,49,48,49,49,49,32,76,68,32,65,44,73,59,48,49,48,49,49,49,49,49,32,76,68,32,65,44,82,59,48,49,49,48,48,49,49,49,32,82,82,68,59,48,49,49,48,49,49,49,49,32,82,76,68,59,49,48,49,48,48,48,48,48,32,76,68,73,59,49,48,49,48,48,48,48,49,32,67,80,73,59,49,48,49,48,48,48,49,48,32,73,78,73,59,49,48,49,48,48,48,49,49,32,79,85,84,73,59,49,48,49,48,49,48,48,48,32,76,68,68,59,49,48,49,48,49,48,48,49,32,67,80,68,59,49,48,49,48,49,48,49,48,32,73,78,68,59,49,48,49,48,49,48,49,49,32,79,85,84,68,59,49,48,49,49,48,48,48,48,32,76,68,73,82,59,49,48,49,49,48,48,48,49,32,67,80,73,82,59,49,48,49,49,48,48,49,48,32,73,78,73,82,59,49,48,49,49,48,48,49,49,32,79,84,73,82,59,49,48,49,49,49,48,48,48,32,76,68,68,82,59,49,48,49,49,49,48,48,49,32,67,80,68,82,59,49,48,49,49,49,48,49,48,32,73,78,68,82,59,49,48,49,49,49,48,49,49,32,79,84,68,82]⟩
def sJ:List (List UInt8):=aU lQ.data.toList
theorem EY:lQ.size<=1000000:=by decide+kernel
theorem jW {w:World} {g:Nat} {z0 z1 z2 z3 z4 z5:Value} (h:Blk w g 158 #[z0,z1,z2,z3,z4,z5]) (a0 a1 a2 a3 a4 a5:Value):
  Blk ((((((w.setCell ⟨g,0,none⟩ a0).setCell ⟨g,1,none⟩ a1).setCell ⟨g,2,none⟩ a2).setCell ⟨g,3,none⟩ a3).setCell ⟨g,4,none⟩ a4).setCell ⟨g,5,none⟩ a5) g 158 #[a0,a1,a2,a3,a4,a5]:=(((((h.set 0 _).set 1 _).set 2 _).set 3 _).set 4 _).set 5 _
def rB (w:World) (g:Nat) (a0 a1 a2 a3 a4 a5:Value):World:=((((((w.setCell ⟨g,0,none⟩ a0).setCell ⟨g,1,none⟩ a1).setCell ⟨g,2,none⟩ a2).setCell ⟨g,3,none⟩ a3).setCell ⟨g,4,none⟩ a4).setCell ⟨g,5,none⟩ a5)
theorem qL (w:World) (g:Nat) (a0 a1 a2 a3 a4 a5:Value):(rB w g a0 a1 a2 a3 a4 a5).heap.size=w.heap.size:=by unfold rB;rw [yY,yY,yY,yY,yY,yY]
theorem eH (w:World) (g:Nat) (a0 a1 a2 a3 a4 a5:Value) (j:Nat) (h:j≠g):(rB w g a0 a1 a2 a3 a4 a5).heap[j]?=w.heap[j]?:=by unfold rB;rw [xV _ _ _ _ h,xV _ _ _ _ h,xV _ _ _ _ h,xV _ _ _ _ h,xV _ _ _ _ h,xV _ _ _ _ h]
theorem bE {B:Nat} {w0 w:World} {g:Nat} (h:Below B w0 w) (hg:B<=g) (a0 a1 a2 a3 a4 a5:Value):Below B w0 (rB w g a0 a1 a2 a3 a4 a5):=(((((h.setCell (p:=⟨g,0,none⟩) hg _).setCell (p:=⟨g,1,none⟩) hg _).setCell (p:=⟨g,2,none⟩) hg _).setCell (p:=⟨g,3,none⟩) hg _).setCell (p:=⟨g,4,none⟩) hg _).setCell (p:=⟨g,5,none⟩) hg _
theorem Fr.grown {w0 W w':World} {L:List (Nat × TypeId × Array Value)} {row:Option Nat} (h:Fr w0 L W) (hg:W.grownBy w' row) (hr:∀k,row=some k->w0.heap.size<=k/\∀x∈L,x.1≠k):Fr w0 L w':=⟨h.below.grown hg h.below.size (λk e=>(hr k e).1),λx hx=>(h.at' x hx).grown hg (λe=>(hr x.1 e.symm).2 x hx rfl)⟩
def oAt (l:List Opd) (k:Nat):Opd:=match l[k]? with | some o=>o | none=>⟨0,0,0⟩
def filN (L d n x:Int):Int:=if L=100 then d else if L=101\/L=110\/L=119 then n else x
def AC (L d n:Int) (o:Opd):Opd:=⟨o.kind,o.reg,filN L d n o.n⟩
def lK (ex:List UInt8) (l:List Opd) (d n:Int):Nat->List Opd
 | 0=>[]
 | k+1=>lK ex l d n k++[AC (eQ l ex k) d n (oAt l k)]
def okL (ex:List UInt8) (l:List Opd) (d n:Int):Nat->Bool
 | 0=>true
 | k+1=>okL ex l d n k&&((eQ l ex k==0) || cE (eQ l ex k) (AC (eQ l ex k) d n (oAt l k)).n)
def usD (ex:List UInt8) (l:List Opd) (d:Int):Nat->Bool
 | 0=>d==0
 | k+1=>usD ex l d k || (eQ l ex k==100)
def usN (ex:List UInt8) (l:List Opd) (n:Int):Nat->Bool
 | 0=>n==0
 | k+1=>usN ex l n k || ((eQ l ex k==101) || (eQ l ex k==110) || (eQ l ex k==119))
def fN (ex:List UInt8) (l:List Opd) (d n:Int):Option (List Opd):=if okL ex l d n l.length=true then (if usD ex l d l.length=true then (if usN ex l n l.length=true then some (lK ex l d n l.length) else none) else none) else none
theorem iH (ex:List UInt8) (l:List Opd) (d n:Int):∀k,(lK ex l d n k).length=k
 | 0=>rfl
 | k+1=>by rw [lK,YL,iH ex l d n k];rfl
structure uE (ex:List UInt8) (l:List Opd) (D J:Option Nat) (L lo hi:Int):Prop where
 d1:∀i,D=some i->(cO ex 100&&decide (0<=bU [5] l l.length))=true/\bU [5] l l.length=i/\i < l.length/\nAt l i=0
 d0:D=none->(cO ex 100&&decide (0<=bU [5] l l.length))=false
 j1:∀j,J=some j->cX ex l=((j:Int),lo,hi,true)/\j < l.length/\nAt l j=0
 j0:J=none->(cX ex l).2.2.2=false
 ne:∀i,D=some i->J≠some i
 wi:∀n,cE L n=bG lo hi n
 ll:L=101\/L=110\/L=119
 le:∀k,k < l.length->eQ l ex k=if D=some k then 100 else if J=some k then L else 0
theorem yL {i:Nat} {lo hi n:Int} {c:List Opd} {x:Opd} (hx:c[i]?=some x):qK (i:Int) lo hi true n c=(bG lo hi n,c.set i {x with n:=n}):=by unfold qK;rw [if_pos rfl,z0X,hx]
theorem vD {idx lo hi n:Int} {c:List Opd}:qK idx lo hi false n c=(n==0,c):=if_neg (by decide)
def okN (D:Option Nat) (lo hi n:Int):Bool:=match D with | some _=>bG lo hi n | none=>n==0
theorem okL_var {ex:List UInt8} {l:List Opd} {D J:Option Nat} {L lo hi d n:Int} (V:uE ex l D J L lo hi):∀m,m<=l.length->(okL ex l d n m=true↔(∀i,D=some i->i < m->bG (-128) 127 d=true)/\(∀j,J=some j->j < m->bG lo hi n=true)):=by
 intro m;induction m with
 | zero=>intro _;simp [okL]
 | succ m ih=>
  intro hm;have ih:=ih (by omega);have hL:L=101\/L=110\/L=119:=V.ll;have hL0:(L==0)=false:=by rw [yW];omega
  have hd:cE 100 d=bG (-128) 127 d:=by unfold cE bG;rw [if_pos (Or.inl rfl)]
  rw [okL,xS,ih,V.le m (by omega)];unfold AC filN;dsimp only;by_cases e1:D=some m
  ·rw [if_pos e1,if_pos rfl,show ((100:Int)==0)=false from rfl,Bool.false_or,hd];constructor
   ·rintro ⟨⟨h1,h2⟩,h3⟩;refine ⟨λi hi hlt=>h3,λj hj hlt=>h2 j hj ?_⟩;have:=V.ne m e1;have:j≠m:=λe=>this (by rw [hj,e]);omega
   ·rintro ⟨h1,h2⟩;exact ⟨⟨λi hi hlt=>h1 i hi (by omega),λj hj hlt=>h2 j hj (by omega)⟩,h1 m e1 (by omega)⟩
  rw [if_neg e1];by_cases e2:J=some m
  ·rw [if_pos e2,if_neg (by omega),if_pos hL,hL0,Bool.false_or,V.wi];constructor
   ·rintro ⟨⟨h1,h2⟩,h3⟩;refine ⟨λi hi hlt=>h1 i hi ?_,λj hj hlt=>h3⟩;have:i≠m:=λe=>e1 (by rw [hi,e]);omega
   ·rintro ⟨h1,h2⟩;exact ⟨⟨λi hi hlt=>h1 i hi (by omega),λj hj hlt=>h2 j hj (by omega)⟩,h2 m e2 (by omega)⟩
  rw [if_neg e2];constructor
  ·rintro ⟨⟨h1,h2⟩,h3⟩;refine ⟨λi hi hlt=>h1 i hi ?_,λj hj hlt=>h2 j hj ?_⟩
   ·have:i≠m:=λe=>e1 (by rw [hi,e]);omega
   ·have:j≠m:=λe=>e2 (by rw [hj,e]);omega
  ·rintro ⟨h1,h2⟩;exact ⟨⟨λi hi hlt=>h1 i hi (by omega),λj hj hlt=>h2 j hj (by omega)⟩,rfl⟩
theorem usD_var {ex:List UInt8} {l:List Opd} {D J:Option Nat} {L lo hi d:Int} (V:uE ex l D J L lo hi):∀m,m<=l.length->(usD ex l d m=true↔d=0\/∃i,D=some i/\i < m):=by
 intro m;induction m with
 | zero=>intro _;simp [usD]
 | succ m ih=>
  intro hm;have hL:L=101\/L=110\/L=119:=V.ll;rw [usD,z1R,ih (by omega),V.le m (by omega),z2E];by_cases e1:D=some m
  ·rw [if_pos e1];exact ⟨λ_=>Or.inr ⟨m,e1,by omega⟩,λ_=>Or.inr rfl⟩
  rw [if_neg e1];constructor
  ·rintro ((h | ⟨i,h1,h2⟩) | h)
   ·exact Or.inl h
   ·exact Or.inr ⟨i,h1,by omega⟩
   ·split at h<;>omega
  ·rintro (h | ⟨i,h1,h2⟩)
   ·exact Or.inl (Or.inl h)
   ·refine Or.inl (Or.inr ⟨i,h1,?_⟩);have:i≠m:=λe=>e1 (by rw [h1,e]);omega
theorem usN_var {ex:List UInt8} {l:List Opd} {D J:Option Nat} {L lo hi n:Int} (V:uE ex l D J L lo hi):∀m,m<=l.length->(usN ex l n m=true↔n=0\/∃i,J=some i/\i < m):=by
 intro m;induction m with
 | zero=>intro _;simp [usN]
 | succ m ih=>
  intro hm;have hL:L=101\/L=110\/L=119:=V.ll;rw [usN,z1R,ih (by omega),V.le m (by omega)];by_cases e1:D=some m
  ·rw [if_pos e1];have e2:=V.ne m e1;constructor
   ·rintro ((h | ⟨i,h1,h2⟩) | h)
    ·exact Or.inl h
    ·exact Or.inr ⟨i,h1,by omega⟩
    ·exact absurd h (by decide)
   ·rintro (h | ⟨i,h1,h2⟩)
    ·exact Or.inl (Or.inl h)
    ·refine Or.inl (Or.inr ⟨i,h1,?_⟩);have:i≠m:=λe=>e2 (by rw [h1,e]);omega
  rw [if_neg e1];by_cases e2:J=some m
  ·rw [if_pos e2];refine ⟨λ_=>Or.inr ⟨m,e2,by omega⟩,λ_=>Or.inr ?_⟩;rcases hL with rfl | rfl | rfl<;>rfl
  rw [if_neg e2];constructor
  ·rintro ((h | ⟨i,h1,h2⟩) | h)
   ·exact Or.inl h
   ·exact Or.inr ⟨i,h1,by omega⟩
   ·exact absurd h (by decide)
  ·rintro (h | ⟨i,h1,h2⟩)
   ·exact Or.inl (Or.inl h)
   ·refine Or.inl (Or.inr ⟨i,h1,?_⟩);have:i≠m:=λe=>e2 (by rw [h1,e]);omega
theorem xY (ex:List UInt8) (l:List Opd) (d n:Int):∀m k,k < m->(lK ex l d n m)[k]?=some (AC (eQ l ex k) d n (oAt l k))
 | 0,k,h=>absurd h (Nat.not_lt_zero _)
 | m+1,k,h=>by
  rw [lK];by_cases e:k=m
  ·subst e;rw [z0G (by rw [iH];omega),iH];simp
  ·rw [z1F (by rw [iH];omega)];exact xY ex l d n m k (by omega)
theorem xN {ex:List UInt8} {l:List Opd} {D J:Option Nat} {L lo hi d n:Int} (V:uE ex l D J L lo hi):
  fN ex l d n=if (okN J lo hi n&&okN D (-128) 127 d)=true then some (lK ex l d n l.length) else none:=by
 have h1:=okL_var V (d:=d) (n:=n) l.length (zI _);have h2:=usD_var V (d:=d) l.length (zI _);have h3:=usN_var V (n:=n) l.length (zI _);have hD:okN D (-128) 127 d=true↔(∀i,D=some i->bG (-128) 127 d=true)/\(d=0\/∃i,D=some i):=by
  cases D with
  | none=>simp [okN]
  | some i=>simp [okN]
 have hJ:okN J lo hi n=true↔(∀i,J=some i->bG lo hi n=true)/\(n=0\/∃i,J=some i):=by
  cases J with
  | none=>simp [okN]
  | some i=>simp [okN]
 have hlD:∀i,D=some i->i < l.length:=λi h=>(V.d1 i h).2.2.1;have hlJ:∀j,J=some j->j < l.length:=λj h=>(V.j1 j h).2.1;by_cases h:(okN J lo hi n&&okN D (-128) 127 d)=true
 ·rw [if_pos h];obtain ⟨a,b⟩:=xS.1 h;obtain ⟨b1,b2⟩:=hD.1 b;obtain ⟨a1,a2⟩:=hJ.1 a;unfold fN;rw [if_pos (h1.2 ⟨λi hi _=>b1 i hi,λj hj _=>a1 j hj⟩),if_pos (h2.2 (b2.imp id (λ⟨i,hi⟩=>⟨i,hi,hlD i hi⟩))),if_pos (h3.2 (a2.imp id (λ⟨i,hi⟩=>⟨i,hi,hlJ i hi⟩)))]
 ·rw [if_neg h];unfold fN;by_cases e1:okL ex l d n l.length=true
  ·rw [if_pos e1];by_cases e2:usD ex l d l.length=true
   ·rw [if_pos e2];by_cases e3:usN ex l n l.length=true
    ·exfalso;obtain ⟨b1,a1⟩:=h1.1 e1;refine h (xS.2 ⟨hJ.2 ⟨λj hj=>a1 j hj (hlJ j hj),(h3.1 e3).imp id (λ⟨i,hi,_⟩=>⟨i,hi⟩)⟩,hD.2 ⟨λi hi=>b1 i hi (hlD i hi),(h2.1 e2).imp id (λ⟨i,hi,_⟩=>⟨i,hi⟩)⟩⟩)
    ·rw [if_neg e3]
   ·rw [if_neg e2]
  ·rw [if_neg e1]
theorem EO {l:List Opd} {k:Nat} (h:k < l.length):oAt l k=l[k]:=by unfold oAt;rw [zL h]
theorem pL {ex:List UInt8} {l:List Opd} {D J:Option Nat} {L lo hi d n:Int} (V:uE ex l D J L lo hi) (m:List Opd) (hm:m.length=l.length) (h:∀k (hk:k < l.length),m[k]?=some (if D=some k then {l[k] with n:=d} else if J=some k then {l[k] with n:=n} else l[k])):lK ex l d n l.length=m:=by
 have hL:L=101\/L=110\/L=119:=V.ll;refine z2J λk=>?_;by_cases hk:k < l.length
 ·rw [xY ex l d n _ k hk,h k hk,V.le k hk,EO hk];congr 1;unfold AC filN;by_cases e1:D=some k
  ·rw [if_pos e1,if_pos e1,if_pos rfl]
  rw [if_neg e1,if_neg e1];by_cases e2:J=some k
  ·rw [if_pos e2,if_pos e2,if_neg (by omega),if_pos hL]
  rw [if_neg e2,if_neg e2,if_neg (by decide),if_neg (by decide)]
 ·rw [z0W (by rw [iH];omega),z0W (by omega)]
theorem sH {ex:List UInt8} {l:List Opd} {D J:Option Nat} {L lo hi d n:Int} (V:uE ex l D J L lo hi):tH ex l d n=fN ex l d n:=by
 rw [xN V];unfold tH;have fin:∀(a b:Bool) (m:List Opd),(a=true->b=true->m=lK ex l d n l.length)->(if a=true then (if b=true then some m else none) else none)=if (a&&b)=true then some (lK ex l d n l.length) else none:=by intro a b m h;cases a<;>cases b<;>simp;exact h rfl rfl
 cases hD:D with
 | none=>
  rw [V.d0 hD,vD];dsimp only;cases hJ:J with
  | none=>rw [V.j0 hJ,vD];refine fin _ _ _ (λ_ _=>(pL V l rfl (λk hk=>?_)).symm);rw [hD,hJ,zL hk];simp
  | some j=>
   obtain ⟨e1,e2,e3⟩:=V.j1 j hJ;rw [e1,yL (zL e2)];refine fin _ _ _ (λ_ _=>(pL V _ (by rw [QQ]) (λk hk=>?_)).symm);rw [hD,hJ,z1L];by_cases h:j=k
   ·subst h;simp [hk]
   ·rw [if_neg h,zL hk];simp [h]
 | some i=>
  obtain ⟨d1,d2,d3,d4⟩:=V.d1 i hD;rw [d1,d2,yL (zL d3)];dsimp only;cases hJ:J with
  | none=>
   rw [V.j0 hJ,vD];refine fin _ _ _ (λ_ _=>(pL V _ (by rw [QQ]) (λk hk=>?_)).symm);rw [hD,hJ,z1L];by_cases h:i=k
   ·subst h;simp [hk]
   ·rw [if_neg h,zL hk];simp [h]
  | some j=>
   obtain ⟨e1,e2,e3⟩:=V.j1 j hJ;have hij:i≠j:=λe=>V.ne i hD (by rw [hJ,e]);rw [e1,yL (x:=l[j]) (by rw [z0F hij];exact zL e2)];refine fin _ _ _ (λ_ _=>(pL V _ (by rw [QQ,QQ]) (λk hk=>?_)).symm);rw [hD,hJ,z1L,z1L];by_cases h:j=k
   ·subst h;have:¬i=j:=hij;simp [hk,this]
   ·rw [if_neg h];by_cases h2:i=k
    ·subst h2;simp [hk]
    ·rw [if_neg h2,zL hk];simp [h,h2]
end Go.Proofs.YtpigbggoiipmhaaGreatDoor
namespace Go.Proofs.YtpigbggoiipmhaaGreatDoor
open Go.RowKit
def Acc {α:Type} (R:Rep α) (w:World) (B:Nat) (e:TypeId) (v:Value) (xs:List α):Prop:=∃p:aB,Own R w B e p v xs/\∀k,p k->B<=k/\k < w.heap.size/\v.ownBlock≠some k
section
variable {α:Type} {R:Rep α}
theorem Acc.nil (w:World) (B:Nat) (e:TypeId):Acc R w B e (.slice none 0 0) ([]:List α):=⟨NoB,Own.nil _ _ _ _ _,λ_ h=>h.elim⟩
theorem Acc.slR {w:World} {B:Nat} {e:TypeId} {v:Value} {xs:List α} (h:Acc R w B e v xs):SlR R w (λk=>B<=k/\k < w.heap.size) v xs:=by exact tX75
theorem Acc.form {w:World} {B:Nat} {e:TypeId} {v:Value} {xs:List α} (h:Acc R w B e v xs):∃a cap,v=.slice a xs.length cap:=by obtain ⟨p,ho,_⟩:=h;exact ho.form
theorem Acc.lt {w:World} {B:Nat} {e:TypeId} {v:Value} {xs:List α} (h:Acc R w B e v xs):∀k,v.ownBlock=some k->B<=k/\k < w.heap.size:=by obtain ⟨p,ho,_⟩:=h;exact ho.lt
theorem Acc.keep {w w':World} {B:Nat} {e:TypeId} {v:Value} {xs:List α} (h:Acc R w B e v xs) (hk:aS (λk=>B<=k/\k < w.heap.size) w w') (hs:w.heap.size<=w'.heap.size):Acc R w' B e v xs:=by
 obtain ⟨p,ho,hp⟩:=h;refine ⟨p,ho.keep (λk hk2=>?_),λk hk2=>⟨(hp k hk2).1,vB (hp k hk2).2.1 hs,(hp k hk2).2.2⟩⟩;rcases hk2 with h2 | h2
 ·exact hk k ⟨(hp k h2).1,(hp k h2).2.1⟩
 ·exact hk k (ho.lt k h2)
theorem Acc.stay {w w':World} {B:Nat} {e:TypeId} {v:Value} {xs:List α} (h:Acc R w B e v xs) (hb:Below w.heap.size w w'):Acc R w' B e v xs:=h.keep (aS.of_below hb λ_ hk=>hk.2) hb.size
theorem Acc.base {w:World} {B B':Nat} {e:TypeId} {v:Value} {xs:List α} (h:Acc R w B e v xs) (hB:B'<=B):Acc R w B' e v xs:=by obtain ⟨p,ho,hp⟩:=h;exact ⟨p,ho.base hB,λk hk=>⟨qJ hB (hp k hk).1,(hp k hk).2⟩⟩
variable {P:Program}
def vM (R:Rep α) (w:World) (B:Nat) (e:TypeId) (row:Option Nat) (zs:List α) (v':Value) (w':World):Prop:=Acc R w' B e v' zs/\w.grownBy w' row/\(v'.ownBlock=row\/∃k,v'.ownBlock=some k/\w.heap.size<=k)
theorem vM.below {w w':World} {B:Nat} {e:TypeId} {v:Value} {xs zs:List α} {v':Value} (h:vM R w B e v.ownBlock zs v' w') (ha:Acc R w B e v xs) (hB:B<=w.heap.size):Below B w w':=(zY _ _).grown h.2.1 hB (λk hk=>(ha.lt k hk).1)
theorem Acc.appended {w:World} {B bytes:Nat} {t ty e:TypeId} {v vx:Value} {xs ys:List α} {q:aB} (hE:ElT P t e R.size bytes) (h:Acc R w B e v xs) (hx:SlR R w q vx ys)
  (hq:∀k,q k->B<=k/\v.ownBlock≠some k) (hbytes:(xs.length+ys.length) * bytes<=140737488355328) (hlen:xs.length+ys.length<=9223372036854775807) (hB:B<=w.heap.size):
  ∃a c w',(Builtin.append_ #[t,t] ty #[v,vx]).run P w=.ok (.slice a (xs.length+ys.length) c) w'/\vM R w B e v.ownBlock (xs++ys) (.slice a (xs.length+ys.length) c) w':=by
 have hlt:=h.lt;obtain ⟨p,ho,hp⟩:=h;obtain ⟨v',w',hrun,ho2,hg,hv⟩:=fD (P:=P) (w:=w) B t ty e bytes hE (p:=p) (q:=λk=>q k/\k < w.heap.size) ho hx.old (λk hk e=>(hp k hk).2.2 e.symm) (λk hk e=>(hq k hk.1).2 e.symm) hbytes hlen hB;obtain ⟨a,c,rfl⟩:=ho2.form;rw [YL] at hrun ho2 hv;have hv3:Value.ownBlock (.slice a (xs.length+ys.length) c)=v.ownBlock\/∃k,Value.ownBlock (.slice a (xs.length+ys.length) c)=some k/\w.heap.size<=k:=hv.imp id (λe=>⟨_,e,zI _⟩);refine ⟨a,c,w',hrun,⟨_,ho2,λk hk=>?_⟩,hg,hv3⟩;have hne:∀k,v.ownBlock≠some k->k < w.heap.size->Value.ownBlock (.slice a (xs.length+ys.length) c)≠some k:=λk hk1 hk2 e=>by
  rcases hv with e2 | e2
  ·rw [e2] at e;exact hk1 e
  ·rw [e2] at e;injection e with e;omega
 have hs:=hg.size;rcases hk with hk | hk
 ·obtain ⟨h1,h2,h3⟩:=hp k hk;exact ⟨h1,by omega,hne k h3 h2⟩
 ·obtain ⟨h1,h2⟩:=hq k hk.1;exact ⟨h1,by have:=hk.2;omega,hne k h2 hk.2⟩
theorem Acc.pushed {w:World} {B bytes:Nat} {t ty e:TypeId} {v:Value} {xs:List α} {x:α} {q:aB} (hE:ElT P t e R.size bytes) (h:Acc R w B e v xs) (cs:Array Value) (hx:R.rel w q cs.toList x)
  (hq:∀k,q k->B<=k/\v.ownBlock≠some k) (hbytes:(xs.length+1) * bytes<=140737488355328) (hlen:xs.length+1<=9223372036854775807) (hB:B<=w.heap.size):
  ∃a c w',(Builtin.append_ #[t,t] ty #[v,.slice (some ⟨w.heap.size,0,none⟩) 1 1]).run P (w.alloc (.cells cs e))=.ok (.slice a (xs.length+1) c) w'/\vM R w B e v.ownBlock (xs++[x]) (.slice a (xs.length+1) c) w':=by
 have hone:=GR hx e;rw [Array.toArray_toList] at hone;obtain ⟨a,c,w',hrun,h1,h2⟩:=Acc.appended (P:=P) (w:=w.alloc (.cells cs e)) (ty:=ty) (ys:=[x]) (q:=λk=>q k\/k=w.heap.size) hE (h.stay ((zY _ _).alloc (zI _) _)) hone
  (λk hk=>by
   rcases hk with hk | rfl
   ·exact hq k hk
   ·exact ⟨hB,λe=>absurd (h.lt _ e).2 (Nat.lt_irrefl _)⟩) (by simpa using hbytes) (by simpa using hlen) (by simp;omega)
 rw [List.length_singleton] at hrun h1 h2;exact ⟨a,c,w',hrun,h1,fZ (World.grownBy_alloc w _ _) h2.1,h2.2.imp id (λ⟨k,e,hk⟩=>⟨k,e,by rw [zW] at hk;omega⟩)⟩
theorem KU {o:Oper} {a:Act} {w:World} {K:Act->World->Prop} {Q:Exit->Act->World->Prop} (s x:Operand) (t:TypeId)
  (ho:o.op=.call {callee:=.builtin .append,args:=#[s,x],argTypes:=#[t,t]})
  (B:Nat) (e:TypeId) (bytes:Nat) (hE:ElT P t e R.size bytes) (v:Value) (xs:List α) (y:α) (cs:Array Value) (q:aB) (hs:a.eval s=v) (hxe:a.eval x=.slice (some ⟨w.heap.size,0,none⟩) 1 1) (hown:Acc R w B e v xs)
  (hx:R.rel w q cs.toList y) (hq:∀k,q k->B<=k/\v.ownBlock≠some k) (hbytes:(xs.length+1) * bytes<=140737488355328) (hlen:xs.length+1<=9223372036854775807) (hB:B<=w.heap.size)
  (h:∀a' c' w',vM R w B e v.ownBlock (xs++[y]) (.slice a' (xs.length+1) c') w'->K (a.put o.dst (.slice a' (xs.length+1) c')) w'):o.wp P a (w.alloc (.cells cs e)) K Q:=by
 obtain ⟨a',c',w',hrun,h2⟩:=hown.pushed (P:=P) (ty:=o.type) hE cs hx hq hbytes hlen hB;unfold Oper.wp execOp;simp only [ho,resolve,invoke,builtin,Sem.run_bind,Sem.run_pure,Result.andThen_ok,List.map_toArray,List.map_cons,List.map_nil,hs,hxe,hrun];exact h a' c' w' h2
theorem eM {ops:Array Oper} {rest:List Oper} {o:Oper} {a:Act} {w:World} {Q:Exit->Act->World->Prop} (hgd:o.guard=none) (s x:Operand) (t:TypeId)
  (ho:o.op=.call {callee:=.builtin .append,args:=#[s,x],argTypes:=#[t,t]})
  (B:Nat) (e:TypeId) (bytes:Nat) (hE:ElT P t e R.size bytes) (v:Value) (xs:List α) (y:α) (cs:Array Value) (q:aB) (hs:a.eval s=v) (hxe:a.eval x=.slice (some ⟨w.heap.size,0,none⟩) 1 1) (hown:Acc R w B e v xs)
  (hx:R.rel w q cs.toList y) (hq:∀k,q k->B<=k/\v.ownBlock≠some k) (hbytes:(xs.length+1) * bytes<=140737488355328) (hlen:xs.length+1<=9223372036854775807) (hB:B<=w.heap.size)
  (h:∀a' c' w',vM R w B e v.ownBlock (xs++[y]) (.slice a' (xs.length+1) c') w'->wpList P ops Q rest (a.put o.dst (.slice a' (xs.length+1) c')) w'):wpList P ops Q (o::rest) a (w.alloc (.cells cs e)):=
 wpList_plain hgd λ_ hK=>KU s x t ho B e bytes hE v xs y cs q hs hxe hown hx hq hbytes hlen hB λa' c' w' h2=>hK _ _ (h a' c' w' h2)
end
end Go.Proofs.YtpigbggoiipmhaaGreatDoor
namespace Go.Proofs.YtpigbggoiipmhaaGreatDoor
open Go.RowKit Go.Shelf Go.Sort
def Fo (b:Nat) (M:List (Value × List Opd)) (w:World):Prop:=∀x∈M,aD w (λk=>b < k) x.1 x.2
theorem Fo.nil (b:Nat) (w:World):Fo b [] w:=λ_ h=>by cases h
theorem Fo.next {b:Nat} {M:List (Value × List Opd)} {W w1:World} (h:Fo b M W) (hb:Below W.heap.size W w1):Fo b M w1:=λx hx=>(h x hx).below hb
end Go.Proofs.YtpigbggoiipmhaaGreatDoor
