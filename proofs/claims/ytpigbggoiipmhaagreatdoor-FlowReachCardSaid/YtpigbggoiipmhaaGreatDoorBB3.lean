/-
  The reference's instructions with the prefix CB. The reference's entry of an opcode of DDCB or FDCB. Lists of operands of the call's own, held on to. The reference's instructions of x = 3. Conditions: the opcode is a byte; the bits.
-/
import Derived.Test.YtpigbggoiipmhaaGreatDoorBB2
import Derived.Test.YtpigbggoiipmhaaGreatDoorBA12
namespace Go.Proofs.YtpigbggoiipmhaaGreatDoor
set_option maxHeartbeats 40000000
set_option maxRecDepth 100000
open Go.RowKit Go.Shelf Go.Sort
def cbN (y:Int):ByteArray:=if y=0 then ⟨#[82,76,67]⟩ else if y=1 then ⟨#[82,82,67]⟩ else if y=2 then ⟨#[82,76]⟩ else if y=3 then ⟨#[82,82]⟩ else if y=4 then ⟨#[83,76,65]⟩ else if y=5 then ⟨#[83,82,65]⟩ else if y=6 then ⟨#[83,76,76]⟩ else ⟨#[83,82,76]⟩
theorem cb_0 (op:Int) (m:Nat) (hm:m < 8) (o:Opd) (h0:0<=op) (h8:op < 256) (hx:op / 64=0) (hy:op / 8 % 8=(m:Int)) (w:World):Calls Tryz.prog 118 #[.int .u8 op,.agg #[.int .i64 o.kind,.int .i64 o.reg,.int .i64 o.n]] w (vV w (cbN m) [o]):=by
 have:m=0\/m=1\/m=2\/m=3\/m=4\/m=5\/m=6\/m=7:=by omega
 rcases this with rfl | rfl | rfl | rfl | rfl | rfl | rfl | rfl;all_goals
  have HX:=aA (((Fr.start w).new 52 #[.int .i64 o.kind,.int .i64 o.reg,.int .i64 o.n]).new' 30 #[.string ⟨#[]⟩,.slice none 0 0] (b:=w.heap.size+1) (by rw [zW]));have H:=aA HX.out.drew;have HA:=aA (HX.out.new' 9 #[.string ⟨#[82,76,67]⟩,.string ⟨#[82,82,67]⟩,.string ⟨#[82,76]⟩,.string ⟨#[82,82]⟩,.string ⟨#[83,76,65]⟩,.string ⟨#[83,82,65]⟩,.string ⟨#[83,76,76]⟩,.string ⟨#[83,82,76]⟩] (b:=w.heap.size+2) (by rw [zW,zW])).drew;go_enter Tryz.func118,Tryz.ntmps118;go_upto_region 4 with fail;obtain ⟨f0,f1,f2,_,_,_⟩:=(H.out.mem w.heap.size 52 #[.int .i64 o.kind,.int .i64 o.reg,.int .i64 o.n] (by simp)).three;obtain ⟨e0,e1,d0,d1⟩:=(H.out.mem (w.heap.size+1) 30 #[.string ⟨#[]⟩,.slice none 0 0] (by simp)).two;have n3:=(H.out.mem (w.heap.size+1) 30 #[.string ⟨#[]⟩,.slice none 0 0] (by simp)).lt;obtain ⟨p0,p1,p2,_,_,_⟩:=(HA.out.mem w.heap.size 52 #[.int .i64 o.kind,.int .i64 o.reg,.int .i64 o.n] (by simp)).three
  go_region_law ((go_simp;(first
    | (go_at_call 170;refine (frLo (b:=w.heap.size+1) (t:=30) (cs:=#[.string ⟨#[]⟩,.slice none 0 0]) (aA (HX.out.new' 9 #[.string ⟨#[82,76,67]⟩,.string ⟨#[82,82,67]⟩,.string ⟨#[82,76]⟩,.string ⟨#[82,82]⟩,.string ⟨#[83,76,65]⟩,.string ⟨#[83,82,65]⟩,.string ⟨#[83,76,76]⟩,.string ⟨#[83,82,76]⟩] (b:=w.heap.size+2) (by rw [zW,zW])).drew) (by simp) (JD _ _)).mono ?_;rintro e w' ⟨va,vc,rfl,HO,Hn⟩;clear f0 f1 f2 e0 e1 d0 d1 n3;clear H;have H:=Hn;clear Hn;have HS:=aA (H.out.blk 0 rfl);have s0:=HS.out.cell 0;have s1:=HS.out.cell 1;have s2:=HS.out.cell 2;have s3:=HS.out.cell 3;have s4:=HS.out.cell 4;have s5:=HS.out.cell 5;have s6:=HS.out.cell 6;have s7:=HS.out.cell 7;obtain ⟨f0,f1,f2,_,_,_⟩:=(H.out.mem w.heap.size 52 #[.int .i64 o.kind,.int .i64 o.reg,.int .i64 o.n] (by simp)).three;obtain ⟨e0,e1,d0,d1⟩:=(H.out.mem (w.heap.size+1) 30 #[.string ⟨#[]⟩,.slice none 0 0] (by simp)).two;have n3:=(H.out.mem (w.heap.size+1) 30 #[.string ⟨#[]⟩,.slice none 0 0] (by simp)).lt)
    | (go_at_call 170;refine (frLo (b:=w.heap.size+1) (t:=30) (cs:=#[.string ⟨#[]⟩,.slice none 0 0]) H (by simp) (JD _ _)).mono ?_;rintro e w' ⟨va,vc,rfl,HO,Hn⟩;clear f0 f1 f2 e0 e1 d0 d1 n3;clear H;have H:=Hn;clear Hn;obtain ⟨f0,f1,f2,_,_,_⟩:=(H.out.mem w.heap.size 52 #[.int .i64 o.kind,.int .i64 o.reg,.int .i64 o.n] (by simp)).three;obtain ⟨e0,e1,d0,d1⟩:=(H.out.mem (w.heap.size+1) 30 #[.string ⟨#[]⟩,.slice none 0 0] (by simp)).two;have n3:=(H.out.mem (w.heap.size+1) 30 #[.string ⟨#[]⟩,.slice none 0 0] (by simp)).lt)
    | (go_at_call 166;refine (frIo H (yF _ _ _ _ _ HO.out)).mono ?_;rintro e w' ⟨rfl,HOn,Hn⟩;clear f0 f1 f2 e0 e1 d0 d1 n3;clear HO H;have HO:=HOn;have H:=Hn;clear HOn Hn;obtain ⟨f0,f1,f2,_,_,_⟩:=(H.out.mem w.heap.size 52 #[.int .i64 o.kind,.int .i64 o.reg,.int .i64 o.n] (by simp)).three;obtain ⟨e0,e1,d0,d1⟩:=(H.out.mem (w.heap.size+1) 30 #[.string ⟨#[]⟩,.slice none 0 0] (by simp)).two;have n3:=(H.out.mem (w.heap.size+1) 30 #[.string ⟨#[]⟩,.slice none 0 0] (by simp)).lt)
    | (go_at_call 166;refine (frIo (aA (H.out.alloc _)) (yF _ _ _ _ _ (HO.out.below ((zY _ _).alloc (zI _) _)))).mono ?_;rintro e w' ⟨rfl,HOn,Hn⟩;clear f0 f1 f2 e0 e1 d0 d1 n3;clear HO H;have HO:=HOn;have H:=Hn;clear HOn Hn;obtain ⟨f0,f1,f2,_,_,_⟩:=(H.out.mem w.heap.size 52 #[.int .i64 o.kind,.int .i64 o.reg,.int .i64 o.n] (by simp)).three;obtain ⟨e0,e1,d0,d1⟩:=(H.out.mem (w.heap.size+1) 30 #[.string ⟨#[]⟩,.slice none 0 0] (by simp)).two;have n3:=(H.out.mem (w.heap.size+1) 30 #[.string ⟨#[]⟩,.slice none 0 0] (by simp)).lt));dsimp only))
  all_goals go_wp2
  all_goals have hpo:=λx=>GY (x:=x) (y:=.slice va 1 vc) H.out.below HO.out (YH _) (jQ _)
  all_goals exact yR (mM rfl rfl (((H.out.mem (w.heap.size+1) 30 #[.string ⟨#[]⟩,.slice none 0 0] (by simp)).set 0 _).set 1 _)) rfl ⟨_,rfl,(hpo _).1,(hpo _).2⟩
theorem VG {P:Prop} (h:P:=by
  have H:=aA (((Fr.start w).new 52 #[.int .i64 o.kind,.int .i64 o.reg,.int .i64 o.n]).new' 30 #[.string ⟨#[]⟩,.slice none 0 0] (b:=w.heap.size+1) (by rw [zW])).drew;go_enter Tryz.func118,Tryz.ntmps118;first
   | ((have _:=Ma0);(go_upto_region 6 with fail))
   | ((have _:=Ma1);(go_upto_region 8 with fail))
   | (go_upto_region 9 with fail)
  obtain ⟨f0,f1,f2,_,_,_⟩:=(H.out.blk 1 rfl).three;obtain ⟨e0,e1,d0,d1⟩:=(H.out.blk 0 rfl).two;go_region_held3 (λw'=>w'.cell? ⟨w.heap.size,0,none⟩=some (.int .i64 o.kind)/\w'.cell? ⟨w.heap.size,1,none⟩=some (.int .i64 o.reg)/\w'.cell? ⟨w.heap.size,2,none⟩=some (.int .i64 o.n)) (go_keep)
   (first
    | (go_at_call 171;refine (frO H (fK _ _)).mono ?_;rintro e w' ⟨rfl,H⟩;obtain ⟨f0,f1,f2,_,_,_⟩:=(H.out.blk 1 rfl).three)
    | (go_at_call 167;refine (frLo (b:=w.heap.size+1) (t:=30) (cs:=#[.string ⟨#[]⟩,.slice none 0 0]) H (by simp) (XT _ _ _)).mono ?_;rintro e w' ⟨va,vc,rfl,HO,H⟩;obtain ⟨f0,f1,f2,_,_,_⟩:=(H.out.blk 1 rfl).three)
    | (go_at_call 166;refine (frIo H (yF _ _ _ _ _ HO.out)).mono ?_;rintro e w' ⟨rfl,HO,H⟩;obtain ⟨e0,e1,d0,d1⟩:=(H.out.blk 0 rfl).two;obtain ⟨f0,f1,f2,_,_,_⟩:=(H.out.blk 1 rfl).three))
  go_wp2;have hpo:=λx=>GY (x:=x) (y:=.slice va 2 vc) H.out.below HO.out (YH _) (jQ _);exact yR (mM rfl rfl (((H.out.blk 0 rfl).set 0 _).set 1 _)) rfl ⟨_,rfl,(hpo _).1,(hpo _).2⟩):P:=h
theorem cb_1 (op y:Int) (o:Opd) (h0:0<=op) (h8:op < 256) (hx:op / 64=1) (hy:op / 8 % 8=y) (w:World):Calls Tryz.prog 118 #[.int .u8 op,.agg #[.int .i64 o.kind,.int .i64 o.reg,.int .i64 o.n]] w (vV w ⟨#[66,73,84]⟩ [cV y,o]):=by have Ma0:=trivial;exact VG
theorem cb_2 (op y:Int) (o:Opd) (h0:0<=op) (h8:op < 256) (hx:op / 64=2) (hy:op / 8 % 8=y) (w:World):Calls Tryz.prog 118 #[.int .u8 op,.agg #[.int .i64 o.kind,.int .i64 o.reg,.int .i64 o.n]] w (vV w ⟨#[82,69,83]⟩ [cV y,o]):=by have Ma1:=trivial;exact VG
theorem cb_3 (op y:Int) (o:Opd) (h0:0<=op) (h8:op < 256) (hx:op / 64=3) (hy:op / 8 % 8=y) (w:World):Calls Tryz.prog 118 #[.int .u8 op,.agg #[.int .i64 o.kind,.int .i64 o.reg,.int .i64 o.n]] w (vV w ⟨#[83,69,84]⟩ [cV y,o]):=VG
def cbF (op:Int) (o:Opd):ByteArray × List Opd:=if op / 64=0 then (cbN (op / 8 % 8),[o]) else if op / 64=1 then (⟨#[66,73,84]⟩,[cV (op / 8 % 8),o]) else if op / 64=2 then (⟨#[82,69,83]⟩,[cV (op / 8 % 8),o]) else (⟨#[83,69,84]⟩,[cV (op / 8 % 8),o])
theorem JM (op:Int) (o:Opd) (h0:0<=op) (h8:op < 256) (w:World):Calls Tryz.prog 118 #[.int .u8 op,.agg #[.int .i64 o.kind,.int .i64 o.reg,.int .i64 o.n]] w (vV w (cbF op o).1 (cbF op o).2):=by
 have hx:op / 64=0\/op / 64=1\/op / 64=2\/op / 64=3:=by omega
 rcases hx with hx | hx | hx | hx
 ·obtain ⟨m,hm⟩:=z1N (show 0<=op / 8 % 8 by omega);have e:cbF op o=(cbN m,[o]):=by unfold cbF;rw [if_pos hx,hm]
  rw [e];exact cb_0 op m (by omega) o h0 h8 hx hm w
 ·have e:cbF op o=(⟨#[66,73,84]⟩,[cV (op / 8 % 8),o]):=by unfold cbF;rw [if_neg (show ¬op / 64=0 by omega),if_pos hx]
  rw [e];exact cb_1 op _ o h0 h8 hx rfl w
 ·have e:cbF op o=(⟨#[82,69,83]⟩,[cV (op / 8 % 8),o]):=by unfold cbF;rw [if_neg (show ¬op / 64=0 by omega),if_neg (show ¬op / 64=1 by omega),if_pos hx]
  rw [e];exact cb_2 op _ o h0 h8 hx rfl w
 ·have e:cbF op o=(⟨#[83,69,84]⟩,[cV (op / 8 % 8),o]):=by unfold cbF;rw [if_neg (show ¬op / 64=0 by omega),if_neg (show ¬op / 64=1 by omega),if_neg (show ¬op / 64=2 by omega)]
  rw [e];exact cb_3 op _ o h0 h8 hx rfl w
set_option maxHeartbeats 8000000
theorem DN (op a b c:Int) (h0:0<=op) (h8:op < 256) (w:World):Calls Tryz.prog 118 #[.int .u8 op,.agg #[.int .i64 a,.int .i64 b,.int .i64 c]] w (vV w (cbF op ⟨a,b,c⟩).1 (cbF op ⟨a,b,c⟩).2):=JM op ⟨a,b,c⟩ h0 h8 w
theorem fV {w:World} {g:Nat} {t:TypeId} {z0 z1 z2 z3 z4 z5:Value} (h:Blk w g t #[z0,z1,z2,z3,z4,z5]) (a0 a1 a2 a3 a4 a5:Value):Blk (rB w g a0 a1 a2 a3 a4 a5) g t #[a0,a1,a2,a3,a4,a5]:=(((((h.set 0 _).set 1 _).set 2 _).set 3 _).set 4 _).set 5 _
def XO (w:World) (pg:Int) (op:Int) (s:ByteArray) (l:List Opd) (ex:ByteArray) (al:Bool) (e:Ending) (w':World):Prop:=∃v,e=.returned (.agg #[.int .i64 pg,.int .u8 op,.string s,v,.string ex,.bool al])/\aD w' (λb=>w.heap.size<=b) v l/\Below w.heap.size w w'
def eF (pg op:Int):ByteArray × List Opd × Bool:=
 if op % 8=6 then ((cbF op ⟨5,pg,0⟩).1,(cbF op ⟨5,pg,0⟩).2,false) else if op / 64=1 then ((cbF op ⟨5,pg,0⟩).1,(cbF op ⟨5,pg,0⟩).2,true)
 else ((cbF op ⟨5,pg,0⟩).1,(cbF op ⟨5,pg,0⟩).2++[rF (op % 8)],false)
theorem OwO.set6 {w:World} {B g:Nat} {v:Value} {l:List Opd} (h:OwO w B v l) (hg:g < B) (a0 a1 a2 a3 a4 a5:Value):OwO (rB w g a0 a1 a2 a3 a4 a5) B v l:=(((((h.far (p:=⟨g,0,none⟩) hg _).far (p:=⟨g,1,none⟩) hg _).far (p:=⟨g,2,none⟩) hg _).far (p:=⟨g,3,none⟩) hg _).far (p:=⟨g,4,none⟩) hg _).far (p:=⟨g,5,none⟩) hg _
theorem OwO.opd {w:World} {B C:Nat} {v:Value} {l:List Opd} (h:OwO w B v l) (hC:C<=B):aD w (λb=>C<=b) v l:=Own.opdOwn h (λk hk=>qJ hC (Own.lt h k hk).1)
theorem ZY (pg op:Int) (h0:0<=op) (h8:op < 256) (hl:(cbF op ⟨5,pg,0⟩).2.length<=100) (_h6:op % 8=6) (w:World):Calls Tryz.prog 122 #[.int .i64 pg,.int .u8 op] w (XO w pg op (cbF op ⟨5,pg,0⟩).1 (cbF op ⟨5,pg,0⟩).2 ⟨#[100]⟩ false):=by
 have HCB:=aA (λW=>DN op 5 pg 0 h0 h8 W);have HF:=aA (((Fr.start w).new 122 #[.int .i64 0,.int .u8 0,.string ⟨#[]⟩,.slice none 0 0,.string ⟨#[]⟩,.bool false]).new' 122 #[.int .i64 pg,.int .u8 op,.string ⟨#[]⟩,.slice none 0 0,.string ⟨#[100]⟩,.bool false] (b:=w.heap.size+1) (by rw [zW]));have HL:=aA hl;clear hl;generalize (cbF op ⟨5,pg,0⟩).1=s at *;generalize (cbF op ⟨5,pg,0⟩).2=l at *;go_enter Tryz.func122,Tryz.ntmps122;go_wp2_with fail;refine (HCB.out _).mono ?_;rintro e w1 ⟨v,rfl,ho,hb⟩;obtain ⟨va,vc,rfl⟩:=ho.form;have HO0:=aA ho;have H:=aA (HF.out.next hb);have hs1:w.heap.size+2<=w1.heap.size:=by have:=(H.out.blk 0 rfl).lt;omega
 have HO:Hid (OwO w1 (w.heap.size+2) (.slice va l.length vc) l):=Own.base ho (by rw [zW,zW];omega);clear ho hb HO0;have e0:=(H.out.blk 0 rfl).cell 0;have e1:=(H.out.blk 0 rfl).cell 1;have e2:=(H.out.blk 0 rfl).cell 2;have e3:=(H.out.blk 0 rfl).cell 3;have e4:=(H.out.blk 0 rfl).cell 4;have e5:=(H.out.blk 0 rfl).cell 5;have z2:=(H.out.blk 0 rfl).free 2;have z3:=(H.out.blk 0 rfl).free 3;have z5:=(H.out.blk 0 rfl).free 5;have r0:=(H.out.blk 1 rfl).cell 0;have r1:=(H.out.blk 1 rfl).cell 1;have r2:=(H.out.blk 1 rfl).cell 2;have r3:=(H.out.blk 1 rfl).cell 3;have r4:=(H.out.blk 1 rfl).cell 4;have r5:=(H.out.blk 1 rfl).cell 5;have y0:=(H.out.blk 1 rfl).free 0;have y1:=(H.out.blk 1 rfl).free 1;have y2:=(H.out.blk 1 rfl).free 2;have y3:=(H.out.blk 1 rfl).free 3;have y4:=(H.out.blk 1 rfl).free 4;have y5:=(H.out.blk 1 rfl).free 5;have HW:Hid (OwO ((w1.setCell ⟨w.heap.size+1,2,none⟩ (.string s)).setCell ⟨w.heap.size+1,3,none⟩ (.slice va l.length vc)) (w.heap.size+2) (.slice va l.length vc) l):=(HO.out.far (p:=⟨w.heap.size+1,2,none⟩) (YH _) _).far (p:=⟨w.heap.size+1,3,none⟩) (YH _) _;have HB:Hid (Below w.heap.size w ((w1.setCell ⟨w.heap.size+1,2,none⟩ (.string s)).setCell ⟨w.heap.size+1,3,none⟩ (.slice va l.length vc))):=(H.out.below.setCell (p:=⟨w.heap.size+1,2,none⟩) (jQ _) _).setCell (p:=⟨w.heap.size+1,3,none⟩) (jQ _) _;have HR:Hid (Blk ((w1.setCell ⟨w.heap.size+1,2,none⟩ (.string s)).setCell ⟨w.heap.size+1,3,none⟩ (.slice va l.length vc)) w.heap.size 122 #[.int .i64 0,.int .u8 0,.string ⟨#[]⟩,.slice none 0 0,.string ⟨#[]⟩,.bool false]):=((H.out.blk 1 rfl).far (p:=⟨w.heap.size+1,2,none⟩) (YX (YH _)) _).far (p:=⟨w.heap.size+1,3,none⟩) (YX (YH _)) _;go_wp2;exact yR (aJ rfl _ _ w.heap.size 122 #[.int .i64 pg,.int .u8 op,.string s,.slice va l.length vc,.string ⟨#[100]⟩,.bool false] (0,0) _ rfl (fV HR.out _ _ _ _ _ _) Tryz.underlying122 rfl (by kernel_rfl)) rfl ⟨_,rfl,(HW.out.set6 (by omega) _ _ _ _ _ _).opd (by omega),bE HB.out (zI _) _ _ _ _ _ _⟩
theorem ZB (pg op:Int) (h0:0<=op) (h8:op < 256) (hl:(cbF op ⟨5,pg,0⟩).2.length<=100) (h6:¬op % 8=6) (_h64:op / 64=1) (w:World):Calls Tryz.prog 122 #[.int .i64 pg,.int .u8 op] w (XO w pg op (cbF op ⟨5,pg,0⟩).1 (cbF op ⟨5,pg,0⟩).2 ⟨#[100]⟩ true):=by
 have HCB:=aA (λW=>DN op 5 pg 0 h0 h8 W);have HF:=aA (((Fr.start w).new 122 #[.int .i64 0,.int .u8 0,.string ⟨#[]⟩,.slice none 0 0,.string ⟨#[]⟩,.bool false]).new' 122 #[.int .i64 pg,.int .u8 op,.string ⟨#[]⟩,.slice none 0 0,.string ⟨#[100]⟩,.bool false] (b:=w.heap.size+1) (by rw [zW]));have HL:=aA hl;clear hl;generalize (cbF op ⟨5,pg,0⟩).1=s at *;generalize (cbF op ⟨5,pg,0⟩).2=l at *;go_enter Tryz.func122,Tryz.ntmps122;go_wp2_with fail;refine (HCB.out _).mono ?_;rintro e w1 ⟨v,rfl,ho,hb⟩;obtain ⟨va,vc,rfl⟩:=ho.form;have HO0:=aA ho;have H:=aA (HF.out.next hb);have hs1:w.heap.size+2<=w1.heap.size:=by have:=(H.out.blk 0 rfl).lt;omega
 have HO:Hid (OwO w1 (w.heap.size+2) (.slice va l.length vc) l):=Own.base ho (by rw [zW,zW];omega);clear ho hb HO0;have e0:=(H.out.blk 0 rfl).cell 0;have e1:=(H.out.blk 0 rfl).cell 1;have e2:=(H.out.blk 0 rfl).cell 2;have e3:=(H.out.blk 0 rfl).cell 3;have e4:=(H.out.blk 0 rfl).cell 4;have e5:=(H.out.blk 0 rfl).cell 5;have z2:=(H.out.blk 0 rfl).free 2;have z3:=(H.out.blk 0 rfl).free 3;have z5:=(H.out.blk 0 rfl).free 5;have r0:=(H.out.blk 1 rfl).cell 0;have r1:=(H.out.blk 1 rfl).cell 1;have r2:=(H.out.blk 1 rfl).cell 2;have r3:=(H.out.blk 1 rfl).cell 3;have r4:=(H.out.blk 1 rfl).cell 4;have r5:=(H.out.blk 1 rfl).cell 5;have y0:=(H.out.blk 1 rfl).free 0;have y1:=(H.out.blk 1 rfl).free 1;have y2:=(H.out.blk 1 rfl).free 2;have y3:=(H.out.blk 1 rfl).free 3;have y4:=(H.out.blk 1 rfl).free 4;have y5:=(H.out.blk 1 rfl).free 5;have HW:Hid (OwO ((w1.setCell ⟨w.heap.size+1,2,none⟩ (.string s)).setCell ⟨w.heap.size+1,3,none⟩ (.slice va l.length vc)) (w.heap.size+2) (.slice va l.length vc) l):=(HO.out.far (p:=⟨w.heap.size+1,2,none⟩) (YH _) _).far (p:=⟨w.heap.size+1,3,none⟩) (YH _) _;have HB:Hid (Below w.heap.size w ((w1.setCell ⟨w.heap.size+1,2,none⟩ (.string s)).setCell ⟨w.heap.size+1,3,none⟩ (.slice va l.length vc))):=(H.out.below.setCell (p:=⟨w.heap.size+1,2,none⟩) (jQ _) _).setCell (p:=⟨w.heap.size+1,3,none⟩) (jQ _) _;have HR:Hid (Blk ((w1.setCell ⟨w.heap.size+1,2,none⟩ (.string s)).setCell ⟨w.heap.size+1,3,none⟩ (.slice va l.length vc)) w.heap.size 122 #[.int .i64 0,.int .u8 0,.string ⟨#[]⟩,.slice none 0 0,.string ⟨#[]⟩,.bool false]):=((H.out.blk 1 rfl).far (p:=⟨w.heap.size+1,2,none⟩) (YX (YH _)) _).far (p:=⟨w.heap.size+1,3,none⟩) (YX (YH _)) _;have h6':(op % 8==6)=false:=by rw [yW];exact h6
 have HW2:=aA (HW.out.far (p:=⟨w.heap.size+1,5,none⟩) (YH _) (.bool true));have HB2:=aA (HB.out.setCell (p:=⟨w.heap.size+1,5,none⟩) (jQ _) (.bool true));have HR2:=aA (HR.out.far (p:=⟨w.heap.size+1,5,none⟩) (YX (YH _)) (.bool true));go_wp2;exact yR (aJ rfl _ _ w.heap.size 122 #[.int .i64 pg,.int .u8 op,.string s,.slice va l.length vc,.string ⟨#[100]⟩,.bool true] (0,0) _ rfl (fV HR2.out _ _ _ _ _ _) Tryz.underlying122 rfl (by kernel_rfl)) rfl ⟨_,rfl,(HW2.out.set6 (by omega) _ _ _ _ _ _).opd (by omega),bE HB2.out (zI _) _ _ _ _ _ _⟩
theorem ZQ (pg op:Int) (h0:0<=op) (h8:op < 256) (hl:(cbF op ⟨5,pg,0⟩).2.length<=100) (h6:¬op % 8=6) (h64:¬op / 64=1) (w:World):Calls Tryz.prog 122 #[.int .i64 pg,.int .u8 op] w (XO w pg op (cbF op ⟨5,pg,0⟩).1 ((cbF op ⟨5,pg,0⟩).2++[rF (op % 8)]) ⟨#[100]⟩ false):=by
 have HCB:=aA (λW=>DN op 5 pg 0 h0 h8 W);have HF:=aA (((Fr.start w).new 122 #[.int .i64 0,.int .u8 0,.string ⟨#[]⟩,.slice none 0 0,.string ⟨#[]⟩,.bool false]).new' 122 #[.int .i64 pg,.int .u8 op,.string ⟨#[]⟩,.slice none 0 0,.string ⟨#[100]⟩,.bool false] (b:=w.heap.size+1) (by rw [zW]));have HL:=aA hl;clear hl;generalize (cbF op ⟨5,pg,0⟩).1=s at *;generalize (cbF op ⟨5,pg,0⟩).2=l at *;go_enter Tryz.func122,Tryz.ntmps122;go_wp2_with fail;refine (HCB.out _).mono ?_;rintro e w1 ⟨v,rfl,ho,hb⟩;obtain ⟨va,vc,rfl⟩:=ho.form;have HO0:=aA ho;have H:=aA (HF.out.next hb);have hs1:w.heap.size+2<=w1.heap.size:=by have:=(H.out.blk 0 rfl).lt;omega
 have HO:Hid (OwO w1 (w.heap.size+2) (.slice va l.length vc) l):=Own.base ho (by rw [zW,zW];omega);clear ho hb HO0;have e0:=(H.out.blk 0 rfl).cell 0;have e1:=(H.out.blk 0 rfl).cell 1;have e2:=(H.out.blk 0 rfl).cell 2;have e3:=(H.out.blk 0 rfl).cell 3;have e4:=(H.out.blk 0 rfl).cell 4;have e5:=(H.out.blk 0 rfl).cell 5;have z2:=(H.out.blk 0 rfl).free 2;have z3:=(H.out.blk 0 rfl).free 3;have z5:=(H.out.blk 0 rfl).free 5;have r0:=(H.out.blk 1 rfl).cell 0;have r1:=(H.out.blk 1 rfl).cell 1;have r2:=(H.out.blk 1 rfl).cell 2;have r3:=(H.out.blk 1 rfl).cell 3;have r4:=(H.out.blk 1 rfl).cell 4;have r5:=(H.out.blk 1 rfl).cell 5;have y0:=(H.out.blk 1 rfl).free 0;have y1:=(H.out.blk 1 rfl).free 1;have y2:=(H.out.blk 1 rfl).free 2;have y3:=(H.out.blk 1 rfl).free 3;have y4:=(H.out.blk 1 rfl).free 4;have y5:=(H.out.blk 1 rfl).free 5;have HW:Hid (OwO ((w1.setCell ⟨w.heap.size+1,2,none⟩ (.string s)).setCell ⟨w.heap.size+1,3,none⟩ (.slice va l.length vc)) (w.heap.size+2) (.slice va l.length vc) l):=(HO.out.far (p:=⟨w.heap.size+1,2,none⟩) (YH _) _).far (p:=⟨w.heap.size+1,3,none⟩) (YH _) _;have HB:Hid (Below w.heap.size w ((w1.setCell ⟨w.heap.size+1,2,none⟩ (.string s)).setCell ⟨w.heap.size+1,3,none⟩ (.slice va l.length vc))):=(H.out.below.setCell (p:=⟨w.heap.size+1,2,none⟩) (jQ _) _).setCell (p:=⟨w.heap.size+1,3,none⟩) (jQ _) _;have HR:Hid (Blk ((w1.setCell ⟨w.heap.size+1,2,none⟩ (.string s)).setCell ⟨w.heap.size+1,3,none⟩ (.slice va l.length vc)) w.heap.size 122 #[.int .i64 0,.int .u8 0,.string ⟨#[]⟩,.slice none 0 0,.string ⟨#[]⟩,.bool false]):=((H.out.blk 1 rfl).far (p:=⟨w.heap.size+1,2,none⟩) (YX (YH _)) _).far (p:=⟨w.heap.size+1,3,none⟩) (YX (YH _)) _;have h6':(op % 8==6)=false:=by rw [yW];exact h6
 have h64':(op / 64==1)=false:=by rw [yW];exact h64
 have HE:Hid (Blk ((w1.setCell ⟨w.heap.size+1,2,none⟩ (.string s)).setCell ⟨w.heap.size+1,3,none⟩ (.slice va l.length vc)) (w.heap.size+1) 122 #[.int .i64 pg,.int .u8 op,.string s,.slice va l.length vc,.string ⟨#[100]⟩,.bool false]):=((H.out.blk 0 rfl).set 2 _).set 3 _;have hsz:Hid (w.heap.size+2<=((w1.setCell ⟨w.heap.size+1,2,none⟩ (.string s)).setCell ⟨w.heap.size+1,3,none⟩ (.slice va l.length vc)).heap.size):=by show _<=_;rw [yY,yY];exact hs1
 go_wp2;clear e0 e1 e2 e3 e4 e5 z2 z3 z5 r0 r1 r2 r3 r4 r5 y0 y1 y2 y3 y4 y5;generalize (w1.setCell ⟨w.heap.size+1,2,none⟩ (.string s)).setCell ⟨w.heap.size+1,3,none⟩ (.slice va l.length vc)=W1 at *;clear H HO hs1;have e3:=HE.out.cell 3;have hll:l.length<=100:=HL.out;have hm1:op.tmod 8=op % 8:=Int.tmod_eq_emod_of_nonneg h0;have hm2:IntKind.i64.wrap (op % 8)=op % 8:=IntWalk.i64_in _ (by omega)
 go_region_law ((first
  | (refine cZ (by rfl) (.tmp 25) (.tmp 30) 28 (by rfl) _ _ _ (by rfl) (by rfl) HRUN.out ?_)
  | (go_simp;go_at_call 119;refine (oX _ _).mono ?_;rintro e w2 ⟨rfl,hb⟩;obtain ⟨a3,c3,w3,hrun,hp,hg⟩:=Own.pushed (P:=Tryz.prog) (ty:=28) lH (h:=(HW.out.below (zY _ _).drew).below hb) (x:=rF (op % 8)) #[.int .i64 (rF (op % 8)).kind,.int .i64 (rF (op % 8)).reg,.int .i64 (rF (op % 8)).n] rfl (by omega) (by omega) (qJ hsz.out hb.size);have HRUN:=aA hrun;have HP:=aA hp;have HE2:=aA (HE.out.drew.below hb HE.out.lt);have q3:=HE2.out.cell 3;have hq:=HE2.out.lt;have hrow:∀k,Value.ownBlock (.slice va l.length vc)=some k->w.heap.size+2<=k:=(λk hk=>(Own.lt HW.out k hk).1);have HE3:=aA (HE2.out.grown hg (λe=>by have:=hrow _ e.symm;omega));have HR3:=aA ((HR.out.drew.below hb HR.out.lt).grown hg (λe=>by have:=hrow _ e.symm;omega));have HB3:=aA (((HB.out.drew).trans (hb.mono (by have:=hsz.out;show _<=W1.heap.size;omega))).grown hg (by have:=hsz.out;have:=hb.size;have:W1.heap.size<=w2.heap.size:=hb.size;omega) (λk hk=>by have:=hrow k hk;omega));have x0:=HE3.out.cell 0;have x1:=HE3.out.cell 1;have x2:=HE3.out.cell 2;have x3:=HE3.out.cell 3;have x4:=HE3.out.cell 4;have x5:=HE3.out.cell 5;have u3:=HE3.out.free 3;have r0:=HR3.out.cell 0;have r1:=HR3.out.cell 1;have r2:=HR3.out.cell 2;have r3:=HR3.out.cell 3;have r4:=HR3.out.cell 4;have r5:=HR3.out.cell 5;have y0:=HR3.out.free 0;have y1:=HR3.out.free 1;have y2:=HR3.out.free 2;have y3:=HR3.out.free 3;have y4:=HR3.out.free 4;have y5:=HR3.out.free 5;clear hb hrun hp hg hrow;dsimp only)))
 all_goals go_wp2
 all_goals have hp:OwO w3 (w.heap.size+2) (.slice a3 (l.length+1) c3) (l++[rF (op % 8)]):=HP.out;exact yR (aJ rfl _ _ w.heap.size 122 #[.int .i64 pg,.int .u8 op,.string s,.slice a3 (l.length+1) c3,.string ⟨#[100]⟩,.bool false] (0,0) _ rfl (fV (HR3.out.far (p:=⟨w.heap.size+1,3,none⟩) (YX (YH _)) _) _ _ _ _ _ _) Tryz.underlying122 rfl (by kernel_rfl)) rfl ⟨_,rfl,((hp.far (p:=⟨w.heap.size+1,3,none⟩) (YH _) _).set6 (by omega) _ _ _ _ _ _).opd (by omega),bE (HB3.out.setCell (p:=⟨w.heap.size+1,3,none⟩) (jQ _) _) (zI _) _ _ _ _ _ _⟩
theorem wI (pg op:Int) (h0:0<=op) (h8:op < 256) (hl:(cbF op ⟨5,pg,0⟩).2.length<=100) (w:World):Calls Tryz.prog 122 #[.int .i64 pg,.int .u8 op] w (XO w pg op (eF pg op).1 (eF pg op).2.1 ⟨#[100]⟩ (eF pg op).2.2):=by
 unfold eF;by_cases h6:op % 8=6
 ·rw [if_pos h6];exact ZY pg op h0 h8 hl h6 w
 ·rw [if_neg h6];by_cases h64:op / 64=1
  ·rw [if_pos h64];exact ZB pg op h0 h8 hl h6 h64 w
  ·rw [if_neg h64];exact ZQ pg op h0 h8 hl h6 h64 w
theorem Fo.add {b:Nat} {M:List (Value × List Opd)} {w:World} {v:Value} {l:List Opd} (h:Fo b M w) (ho:aD w (λk=>b < k) v l):Fo b ((v,l)::M) w:=λx hx=>by
 rcases ZR.1 hx with rfl | hx
 ·exact ho
 ·exact h x hx
theorem Fo.get {b:Nat} {M:List (Value × List Opd)} {w:World} (h:Fo b M w) (i:Nat) {v:Value} {l:List Opd} (hi:M[i]?=some (v,l)):aD w (λk=>b < k) v l:=h _ (VM hi)
theorem cM {w0 w1:World} {q:aB} {b:Nat} {v x:Value} {l:List Opd} (hB:Below w0.heap.size w0 w1) (ho:aD w1 q v l) (hq:∀k,q k->b < k) (hb:w0.heap.size<=b):
  aD ((w1.setCell ⟨b,0,none⟩ x).setCell ⟨b,1,none⟩ v) (λk=>w0.heap.size<=k) v l/\Below w0.heap.size w0 ((w1.setCell ⟨b,0,none⟩ x).setCell ⟨b,1,none⟩ v):=aW hB ho hq hb
set_option maxHeartbeats 4000000
def mV (y:Int):ByteArray × Bool:=if y=0 then (⟨#[65,68,68]⟩,true) else if y=1 then (⟨#[65,68,67]⟩,true) else if y=2 then (⟨#[83,85,66]⟩,false) else if y=3 then (⟨#[83,66,67]⟩,true) else if y=4 then (⟨#[65,78,68]⟩,false) else if y=5 then (⟨#[88,79,82]⟩,false) else if y=6 then (⟨#[79,82]⟩,false) else (⟨#[67,80]⟩,false)
theorem GV (y:Int) (o:Opd) (w:World) (h0:0<=y) (h8:y < 8):Calls Tryz.prog 168 #[.int .i64 y,.agg #[.int .i64 o.kind,.int .i64 o.reg,.int .i64 o.n]] w (zN w (mV y).1 (if (mV y).2 then [bV,o] else [o])):=by
 have:y=0\/y=1\/y=2\/y=3\/y=4\/y=5\/y=6\/y=7:=by omega
 rcases this with rfl | rfl | rfl | rfl | rfl | rfl | rfl | rfl
 ·exact alu_0 o w
 ·exact alu_1 o w
 ·exact alu_2 o w
 ·exact alu_3 o w
 ·exact alu_4 o w
 ·exact alu_5 o w
 ·exact alu_6 o w
 ·exact alu_7 o w
theorem high_0 (y:Int) (h0:0<=y) (h8:y < 8) (w:World):Calls Tryz.prog 169 #[.int .i64 y,.int .i64 0] w (cL w ⟨#[82,69,84]⟩ [ccO y] ⟨#[]⟩):=by
 have H0:=aA ((Fr.start w).new' 30 #[.string ⟨#[]⟩,.slice none 0 0] rfl);go_enter Tryz.func169,Tryz.ntmps169;go_wp2_with fail;refine (dT _ _ _).mono ?_;rintro e w1 ⟨o1,rfl,hb⟩;have LT1:=aA (((H0.out.next hb).blk 0 rfl).lt);have H:=aA ((H0.out.next hb).new' 52 #[.int .i64 o1.kind,.int .i64 o1.reg,.int .i64 o1.n] rfl);obtain ⟨e0,e1,d0,d1⟩:=(H.out.blk 1 rfl).two;clear hb
 go_wp2_with (first
  | (go_at_call 218;refine (frO H (yT _ _)).mono ?_;rintro e w' ⟨rfl,H⟩)
  | (go_at_call 170;refine (frL H 1 rfl (fC _ _)).mono ?_;rintro e w' ⟨va,vc,rfl,HO,H⟩)
  | (go_at_call 166;refine (frI H (aO _ _ _ _ _ HO.out)).mono ?_;rintro e w' ⟨rfl,HO,H⟩;obtain ⟨e0,e1,d0,d1⟩:=(H.out.blk 1 rfl).two))
 have hpo:=λx=>aW (x:=x) (y:=.slice va 1 vc) H.out.below HO.out (λk hk=>hk) (zI _);exact tX6e
theorem s4_t1 {P:Prop} (h:P:=by
  have H0:=aA ((Fr.start w).new' 30 #[.string ⟨#[]⟩,.slice none 0 0] rfl);go_enter Tryz.func169,Tryz.ntmps169;go_wp2_with fail;refine (dT _ _ _).mono ?_;rintro e w1 ⟨o1,rfl,hb⟩;have LT1:=aA (((H0.out.next hb).blk 0 rfl).lt);have H:=aA ((H0.out.next hb).new' 52 #[.int .i64 o1.kind,.int .i64 o1.reg,.int .i64 o1.n] rfl);obtain ⟨e0,e1,d0,d1⟩:=(H.out.blk 1 rfl).two;clear hb
  go_wp2_with (first
   | (go_at_call 172;refine (frO H (cY _ _ _)).mono ?_;rintro e w' ⟨rfl,H⟩)
   | (go_at_call 170;refine (frL H 1 rfl (fC _ _)).mono ?_;rintro e w' ⟨va,vc,rfl,HO,H⟩)
   | (go_at_call 166;refine (frI H (aO _ _ _ _ _ HO.out)).mono ?_;rintro e w' ⟨rfl,HO,H⟩;obtain ⟨e0,e1,d0,d1⟩:=(H.out.blk 1 rfl).two))
  have hpo:=λx=>aW (x:=x) (y:=.slice va 1 vc) H.out.below HO.out (λk hk=>hk) (zI _);exact yR (aN rfl rfl (((H.out.blk 1 rfl).set 0 _).set 1 _)) rfl ⟨_,rfl,(hpo _).1,(hpo _).2⟩):P:=h
theorem SH (y:Int) (h0:0<=y) (h8:y < 8) (hq:y % 2=0) (w:World):Calls Tryz.prog 169 #[.int .i64 y,.int .i64 1] w (cL w ⟨#[80,79,80]⟩ [rpF (y / 2) 4] ⟨#[]⟩):=s4_t1
theorem GJ {P:Prop} (h:P:=by
  have H0:=aA ((Fr.start w).new' 30 #[.string ⟨#[]⟩,.slice none 0 0] rfl);go_enter Tryz.func169,Tryz.ntmps169;go_wp2_with fail;first
   | ((have _:=Ma0);(refine (dT _ _ _).mono ?_);(rintro e w1 ⟨o1,rfl,hb⟩))
   | ((refine (cY 2 3 _).mono ?_);(rintro e w1 ⟨rfl,hb⟩))
  have LT1:=aA (((H0.out.next hb).blk 0 rfl).lt);first
   | ((have _:=Mb0);(have H:=aA ((H0.out.next hb).new' 52 #[.int .i64 o1.kind,.int .i64 o1.reg,.int .i64 o1.n] rfl)))
   | (have H:=aA ((H0.out.next hb).new' 52 #[.int .i64 (rpF 2 3).kind,.int .i64 (rpF 2 3).reg,.int .i64 (rpF 2 3).n] rfl))
  obtain ⟨f0,f1,f2,x0,x1,x2⟩:=(H.out.blk 0 rfl).three;obtain ⟨e0,e1,d0,d1⟩:=(H.out.blk 1 rfl).two;clear hb;go_upto_region 9 with fail;first
   | ((have _:=Mc0);(have HM:=aA (Fo.nil w.heap.size _:Fo w.heap.size [] (w1.alloc (.cells #[.int .i64 o1.kind,.int .i64 o1.reg,.int .i64 o1.n] 52)).drew)))
   | (have HM:=aA (Fo.nil w.heap.size _:Fo w.heap.size [] (w1.alloc (.cells #[.int .i64 (rpF 2 3).kind,.int .i64 (rpF 2 3).reg,.int .i64 (rpF 2 3).n] 52)).drew))
  have Hn:=aA H.out.drew;clear H;have H:=Hn;clear Hn;obtain ⟨f0,f1,f2,_,_,_⟩:=(H.out.blk 0 rfl).three;have n1:¬w1.heap.size=w.heap.size:=by have:=LT1.out;omega
  have n2:¬w.heap.size=w1.heap.size:=λe=>n1 e.symm;obtain ⟨e0,e1,d0,d1⟩:=(H.out.blk 1 rfl).two;have n3:=LT1.out;first
   | ((have _:=Md0);(have k2:IntKind.i64.wrap 0=0:=by decide))
   | ((have _:=Md1);(have k2:IntKind.i64.wrap 1=1:=by decide))
   | ((have _:=Md2);(have k2:IntKind.i64.wrap 2=2:=by decide))
   | (have k2:IntKind.i64.wrap 3=3:=by decide)
  go_region_law ((go_simp;(first
    | (go_at_call 172;refine (cY _ _ _).mono ?_;rintro e w' ⟨rfl,hb⟩;clear f0 f1 f2 e0 e1 d0 d1 n3;have Hn:=aA (H.out.next hb);have HMn:=aA (HM.out.next hb);clear H HM hb;have H:=Hn;have HM:=HMn;clear Hn HMn;obtain ⟨f0,f1,f2,_,_,_⟩:=(H.out.blk 0 rfl).three;obtain ⟨e0,e1,d0,d1⟩:=(H.out.blk 1 rfl).two;have n3:=(H.out.blk 1 rfl).lt)
    | (go_at_call 173;refine (gM _ _).mono ?_;rintro e w' ⟨rfl,hb⟩;clear f0 f1 f2 e0 e1 d0 d1 n3;have Hn:=aA (H.out.next hb);have HMn:=aA (HM.out.next hb);clear H HM hb;have H:=Hn;have HM:=HMn;clear Hn HMn;obtain ⟨f0,f1,f2,_,_,_⟩:=(H.out.blk 0 rfl).three;obtain ⟨e0,e1,d0,d1⟩:=(H.out.blk 1 rfl).two;have n3:=(H.out.blk 1 rfl).lt)
    | (go_at_call 170;refine (fC _ _).mono ?_;rintro e w' ⟨v,rfl,ho,hb⟩;obtain ⟨va,vc,rfl⟩:=ho.form;clear f0 f1 f2 e0 e1 d0 d1 n3;have HMn:=aA ((HM.out.next hb).add (ho.mono (r:=λk=>w.heap.size < k) (λk hk=>vB (H.out.blk 1 rfl).lt hk)));have Hn:=aA (H.out.next hb);clear H HM ho hb;have H:=Hn;have HM:=HMn;clear Hn HMn;obtain ⟨f0,f1,f2,_,_,_⟩:=(H.out.blk 0 rfl).three;obtain ⟨e0,e1,d0,d1⟩:=(H.out.blk 1 rfl).two;have n3:=(H.out.blk 1 rfl).lt)
    | (go_at_call 167;refine (cC _ _ _).mono ?_;rintro e w' ⟨v,rfl,ho,hb⟩;obtain ⟨va,vc,rfl⟩:=ho.form;clear f0 f1 f2 e0 e1 d0 d1 n3;have HMn:=aA ((HM.out.next hb).add (ho.mono (r:=λk=>w.heap.size < k) (λk hk=>vB (H.out.blk 1 rfl).lt hk)));have Hn:=aA (H.out.next hb);clear H HM ho hb;have H:=Hn;have HM:=HMn;clear Hn HMn;obtain ⟨f0,f1,f2,_,_,_⟩:=(H.out.blk 0 rfl).three;obtain ⟨e0,e1,d0,d1⟩:=(H.out.blk 1 rfl).two;have n3:=(H.out.blk 1 rfl).lt)
    | (go_at_call 166;with_reducible refine (aO _ none 0 0 _ (aV _ (λk=>w.heap.size < k))).mono ?_;rintro e w' ⟨rfl,ho,hb⟩;clear f0 f1 f2 e0 e1 d0 d1 n3;clear ho;have Hn:=aA (H.out.next hb);have HMn:=aA (HM.out.next hb);clear H HM hb;have H:=Hn;have HM:=HMn;clear Hn HMn;obtain ⟨f0,f1,f2,_,_,_⟩:=(H.out.blk 0 rfl).three;obtain ⟨e0,e1,d0,d1⟩:=(H.out.blk 1 rfl).two;have n3:=(H.out.blk 1 rfl).lt)
    | (go_at_call 166;with_reducible refine (aO _ _ _ _ _ (HM.out.get 0 rfl)).mono ?_;rintro e w' ⟨rfl,ho,hb⟩;clear f0 f1 f2 e0 e1 d0 d1 n3;clear ho;have Hn:=aA (H.out.next hb);have HMn:=aA (HM.out.next hb);clear H HM hb;have H:=Hn;have HM:=HMn;clear Hn HMn;obtain ⟨f0,f1,f2,_,_,_⟩:=(H.out.blk 0 rfl).three;obtain ⟨e0,e1,d0,d1⟩:=(H.out.blk 1 rfl).two;have n3:=(H.out.blk 1 rfl).lt));dsimp only))
  all_goals go_wp2
  all_goals have n3:=(H.out.blk 1 rfl).lt
  first
   | ((have _:=Me0);(all_goals have HV:aD w' (λk=>w.heap.size < k) (.slice _ 0 _) []:=(aV _ (λk=>w.heap.size < k)));(all_goals obtain ⟨h1,h2⟩:=cM (x:=.string ⟨#[82,69,84]⟩) H.out.below HV (λk hk=>hk) (zI _)))
   | ((have _:=Me1);(all_goals have HV:aD w' (λk=>w.heap.size < k) (.slice _ 0 _) []:=(aV _ (λk=>w.heap.size < k)));(all_goals obtain ⟨h1,h2⟩:=cM (x:=.string ⟨#[69,88,88]⟩) H.out.below HV (λk hk=>hk) (zI _)))
   | ((have _:=Me2);(all_goals have HV:aD w' (λk=>w.heap.size < k) (.slice _ 1 _) [jF 2]:=(HM.out.get 1 rfl));(all_goals obtain ⟨h1,h2⟩:=cM (x:=.string ⟨#[74,80]⟩) H.out.below HV (λk hk=>hk) (zI _)))
   | ((all_goals have HV:aD w' (λk=>w.heap.size < k) (.slice _ 2 _) [rpF 3 3,rpF 2 3]:=(HM.out.get 0 rfl));(all_goals obtain ⟨h1,h2⟩:=cM (x:=.string ⟨#[76,68]⟩) H.out.below HV (λk hk=>hk) (zI _)))
  all_goals refine yR (aN rfl rfl ((((H.out.blk 1 rfl).set 0 _).set 1 _).alloc _).drew) rfl ⟨_,rfl,h1.below ?_,?_⟩
  all_goals (repeat' (first | (with_reducible exact zY _ _) | (with_reducible assumption) | (with_reducible refine Below.alloc ?_ ?_ _) | (with_reducible refine Below.drew ?_) | (with_reducible refine Below.setCell ?_ ?_ _) | (with_reducible exact zI _) | omega | (simp;done) | (simp;omega)))):P:=h
theorem UC (w:World):Calls Tryz.prog 169 #[.int .i64 1,.int .i64 1] w (cL w ⟨#[82,69,84]⟩ [] ⟨#[]⟩):=by have Ma0:=trivial;have Mb0:=trivial;have Mc0:=trivial;have Md0:=trivial;have Me0:=trivial;exact GJ
theorem TX (w:World):Calls Tryz.prog 169 #[.int .i64 3,.int .i64 1] w (cL w ⟨#[69,88,88]⟩ [] ⟨#[]⟩):=by have Ma0:=trivial;have Mb0:=trivial;have Mc0:=trivial;have Md1:=trivial;have Me1:=trivial;exact GJ
theorem WR (w:World):Calls Tryz.prog 169 #[.int .i64 5,.int .i64 1] w (cL w ⟨#[74,80]⟩ [jF 2] ⟨#[]⟩):=by have Ma0:=trivial;have Mb0:=trivial;have Mc0:=trivial;have Md2:=trivial;have Me2:=trivial;exact GJ
theorem WN (w:World):Calls Tryz.prog 169 #[.int .i64 7,.int .i64 1] w (cL w ⟨#[76,68]⟩ [rpF 3 3,rpF 2 3] ⟨#[]⟩):=GJ
theorem s4_t3 {P:Prop} (h:P:=by
  have H0:=aA ((Fr.start w).new' 30 #[.string ⟨#[]⟩,.slice none 0 0] rfl);go_enter Tryz.func169,Tryz.ntmps169;go_wp2_with fail;refine (dT _ _ _).mono ?_;rintro e w1 ⟨o1,rfl,hb⟩;have LT1:=aA (((H0.out.next hb).blk 0 rfl).lt);have H:=aA ((H0.out.next hb).new' 52 #[.int .i64 o1.kind,.int .i64 o1.reg,.int .i64 o1.n] rfl);obtain ⟨e0,e1,d0,d1⟩:=(H.out.blk 1 rfl).two;clear hb
  go_wp2_with (first
   | (go_at_call 171;refine (frO H (fK _ _)).mono ?_;rintro e w' ⟨rfl,H⟩)
   | (go_at_call 218;refine (frO H (yT _ _)).mono ?_;rintro e w' ⟨rfl,H⟩)
   | (go_at_call 167;refine (frL H 1 rfl (cC _ _ _)).mono ?_;rintro e w' ⟨va,vc,rfl,HO,H⟩)
   | (go_at_call 166;refine (frI H (aO _ _ _ _ _ HO.out)).mono ?_;rintro e w' ⟨rfl,HO,H⟩;obtain ⟨e0,e1,d0,d1⟩:=(H.out.blk 1 rfl).two))
  have hpo:=λx=>aW (x:=x) (y:=.slice va 2 vc) H.out.below HO.out (λk hk=>hk) (zI _);exact yR (aN rfl rfl (((H.out.blk 1 rfl).set 0 _).set 1 _)) rfl ⟨_,rfl,(hpo _).1,(hpo _).2⟩):P:=h
theorem high_2 (y:Int) (h0:0<=y) (h8:y < 8) (w:World):Calls Tryz.prog 169 #[.int .i64 y,.int .i64 2] w (cL w ⟨#[74,80]⟩ [ccO y,cV 0] ⟨#[119]⟩):=s4_t3
theorem high_4 (y:Int) (h0:0<=y) (h8:y < 8) (w:World):Calls Tryz.prog 169 #[.int .i64 y,.int .i64 4] w (cL w ⟨#[67,65,76,76]⟩ [ccO y,cV 0] ⟨#[119]⟩):=s4_t3
theorem RU (y:Int) (h0:0<=y) (h8:y < 8) (hq:y % 2=0) (w:World):Calls Tryz.prog 169 #[.int .i64 y,.int .i64 5] w (cL w ⟨#[80,85,83,72]⟩ [rpF (y / 2) 4] ⟨#[]⟩):=s4_t1
theorem s4_t4 {P:Prop} (h:P:=by
  have H0:=aA ((Fr.start w).new' 30 #[.string ⟨#[]⟩,.slice none 0 0] rfl);go_enter Tryz.func169,Tryz.ntmps169;go_wp2_with fail;refine (dT _ _ _).mono ?_;rintro e w1 ⟨o1,rfl,hb⟩;have LT1:=aA (((H0.out.next hb).blk 0 rfl).lt);have H:=aA ((H0.out.next hb).new' 52 #[.int .i64 o1.kind,.int .i64 o1.reg,.int .i64 o1.n] rfl);obtain ⟨e0,e1,d0,d1⟩:=(H.out.blk 1 rfl).two;clear hb
  go_wp2_with (first
   | (go_at_call 171;refine (frO H (fK _ _)).mono ?_;rintro e w' ⟨rfl,H⟩)
   | (go_at_call 170;refine (frL H 1 rfl (fC _ _)).mono ?_;rintro e w' ⟨va,vc,rfl,HO,H⟩)
   | (go_at_call 166;refine (frI H (aO _ _ _ _ _ HO.out)).mono ?_;rintro e w' ⟨rfl,HO,H⟩;obtain ⟨e0,e1,d0,d1⟩:=(H.out.blk 1 rfl).two))
  have hpo:=λx=>aW (x:=x) (y:=.slice va 1 vc) H.out.below HO.out (λk hk=>hk) (zI _);exact yR (aN rfl rfl (((H.out.blk 1 rfl).set 0 _).set 1 _)) rfl ⟨_,rfl,(hpo _).1,(hpo _).2⟩):P:=h
theorem VC (w:World):Calls Tryz.prog 169 #[.int .i64 1,.int .i64 5] w (cL w ⟨#[67,65,76,76]⟩ [cV 0] ⟨#[119]⟩):=s4_t4
theorem SQ (y:Int) (h0:0<=y) (h8:y < 8) (hq:y % 2=1) (hy:y≠1) (w:World):Calls Tryz.prog 169 #[.int .i64 y,.int .i64 5] w (cL w ⟨#[]⟩ [] ⟨#[]⟩):=by
 have H0:=aA ((Fr.start w).new' 30 #[.string ⟨#[]⟩,.slice none 0 0] rfl);have hy1:(y==1)=false:=by rw [yW];exact hy
 go_enter Tryz.func169,Tryz.ntmps169;go_wp2_with fail;refine (dT _ _ _).mono ?_;rintro e w1 ⟨o1,rfl,hb⟩;have LT1:=aA (((H0.out.next hb).blk 0 rfl).lt);have H:=aA ((H0.out.next hb).new' 52 #[.int .i64 o1.kind,.int .i64 o1.reg,.int .i64 o1.n] rfl);obtain ⟨e0,e1,d0,d1⟩:=(H.out.blk 1 rfl).two;clear hb;go_wp2;have HO:=aA (aV w1 (λk=>w.heap.size < k));have hpo:=λx=>aW (x:=x) (y:=.slice none 0 0) H.out.below (aV _ (λk=>w.heap.size < k)) (λk hk=>hk) (zI _);exact tX6e
theorem high_6 (y:Int) (h0:0<=y) (h8:y < 8) (w:World):Calls Tryz.prog 169 #[.int .i64 y,.int .i64 6] w (cL w (mV y).1 (if (mV y).2 then [bV,cV 0] else [cV 0]) ⟨#[110]⟩):=by
 have H0:=aA ((Fr.start w).new' 30 #[.string ⟨#[]⟩,.slice none 0 0] rfl);have HAL:=aA (λW=>GV y (cV 0) W h0 h8);generalize (if (mV y).2 then [bV,cV 0] else [cV 0])=l at *;generalize (mV y).1=s at *;go_enter Tryz.func169,Tryz.ntmps169;go_wp2_with fail;refine (dT _ _ _).mono ?_;rintro e w1 ⟨o1,rfl,hb⟩;have LT1:=aA (((H0.out.next hb).blk 0 rfl).lt);have H:=aA ((H0.out.next hb).new' 52 #[.int .i64 o1.kind,.int .i64 o1.reg,.int .i64 o1.n] rfl);obtain ⟨e0,e1,d0,d1⟩:=(H.out.blk 1 rfl).two;clear hb
 go_wp2_with (first
  | (go_at_call 171;refine (frO H (fK _ _)).mono ?_;rintro e w' ⟨rfl,H⟩)
  | (go_at_call 168;refine (HAL.out _).mono ?_;rintro e w' ⟨v,rfl,ho,hb⟩;obtain ⟨va,vc,rfl⟩:=ho.form;have HO:=aA (ho.mono (r:=λk=>w.heap.size < k) (λk hk=>vB (H.out.blk 1 rfl).lt hk));have H:=aA (H.out.next hb);obtain ⟨e0,e1,d0,d1⟩:=(H.out.blk 1 rfl).two;clear ho hb))
 have hpo:=λx=>aW (x:=x) (y:=.slice va l.length vc) H.out.below HO.out (λk hk=>hk) (zI _);exact tX6e
theorem high_7 (y:Int) (h0:0<=y) (h8:y < 8) (w:World):Calls Tryz.prog 169 #[.int .i64 y,.int .i64 7] w (cL w ⟨#[82,83,84]⟩ [cV (8 * y)] ⟨#[]⟩):=s4_t4
end Go.Proofs.YtpigbggoiipmhaaGreatDoor
