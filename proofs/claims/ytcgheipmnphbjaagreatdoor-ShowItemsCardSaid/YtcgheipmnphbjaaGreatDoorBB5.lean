/-
  The reference's instructions with the prefix ED. Conditions: the opcode is a byte.
-/
import Derived.Test.YtcgheipmnphbjaaGreatDoorBB3
namespace Go.Proofs.YtcgheipmnphbjaaGreatDoor
set_option maxHeartbeats 4000000
set_option maxRecDepth 100000
open Go.RowKit Go.Shelf Go.Sort
def cS (w:World) (s:ByteArray) (l:List Opd) (ex:ByteArray) (al:Bool) (e:Ending) (w':World):Prop:=∃v,e=.returned (.tuple #[.agg #[.string s,v],.string ex,.bool al])∧aD w' (fun b=>w.heap.size≤b) v l∧Below w.heap.size w w'
theorem two_lit (a b c d e f:Int) (w:World):Calls Tryz.prog 89 #[.agg #[.int .i64 a,.int .i64 b,.int .i64 c],.agg #[.int .i64 d,.int .i64 e,.int .i64 f]] w fun e' w'=>∃v,e'=.returned v∧aD w' (fun b=>w.heap.size≤b) v [⟨a,b,c⟩,⟨d,e,f⟩]∧Below w.heap.size w w':=cC ⟨a,b,c⟩ ⟨d,e,f⟩ w
def MH:Opd:=⟨9,0,0⟩
def NE:Opd:=⟨9,1,0⟩
theorem dX {fn:Func} {p u t:Tmp} (h:fn.results=#[.cell p 24,.tmp u,.tmp t]) {tmps:Array Value} {w':World} {s v:Value} {g:Nat} (hp:tmps.getD p undef=.pointer (some ⟨g,0,none⟩))
  (hg:Blk w' g 24 #[s,v]):(results fn tmps).run Tryz.prog w'=.ok (.tuple #[.agg #[s,v],tmps.getD u undef,tmps.getD t undef]) w':=
 dD h tmps w' g 24 _ (0,0) _ hp hg Tryz.underlying24 rfl (by kernel_rfl)
theorem iO {P:Prop} (h:P:=by
  have H:=aA ((Fr.start w).new' 24 #[.string ⟨#[]⟩,.slice none 0 0] rfl)
  go_enter Tryz.func58,Tryz.ntmps58
  go_wp2_with (go_at_call 88;refine (frI (aA (H.out.next (by (repeat' (first | (with_reducible exact Below.refl _ _) | (with_reducible assumption) | (with_reducible refine Below.alloc ?_ ?_ _) | (with_reducible refine Below.drew ?_) | (with_reducible refine Below.setCell ?_ ?_ _) | (with_reducible exact Nat.le_refl _) | omega | (simp;done) | (simp;omega)))))) (aO _ none 0 0 _ (aV _ (fun k=>w.heap.size < k)))).mono ?_;rintro e w' ⟨rfl,HO,H⟩;obtain ⟨e0,e1,d0,d1⟩:=(H.out.blk 0 rfl).two)
  have hpo:=fun x=>aW (x:=x) (y:=.slice none 0 0) H.out.below HO.out (fun k hk=>hk) (Nat.le_refl _)
  exact bodyPost_ret (dX rfl rfl (((H.out.blk 0 rfl).set 0 _).set 1 _)) rfl ⟨_,rfl,(hpo _).1,(hpo _).2⟩):P:=h
theorem VF (op:Int) (_h0:0≤op) (_h8:op < 256) (hx:op / 64=2) (hy:op / 8 % 8=4) (hz:op % 8=0) (w:World):Calls Tryz.prog 58 #[.int .u8 op] w (cS w ⟨#[76,68,73]⟩ [] ⟨#[]⟩ false):=iO
theorem SN (op:Int) (_h0:0≤op) (_h8:op < 256) (hx:op / 64=2) (hy:op / 8 % 8=4) (hz:op % 8=1) (w:World):Calls Tryz.prog 58 #[.int .u8 op] w (cS w ⟨#[67,80,73]⟩ [] ⟨#[]⟩ false):=iO
theorem TL (op:Int) (_h0:0≤op) (_h8:op < 256) (hx:op / 64=2) (hy:op / 8 % 8=4) (hz:op % 8=2) (w:World):Calls Tryz.prog 58 #[.int .u8 op] w (cS w ⟨#[73,78,73]⟩ [] ⟨#[]⟩ false):=iO
theorem VK (op:Int) (_h0:0≤op) (_h8:op < 256) (hx:op / 64=2) (hy:op / 8 % 8=4) (hz:op % 8=3) (w:World):Calls Tryz.prog 58 #[.int .u8 op] w (cS w ⟨#[79,85,84,73]⟩ [] ⟨#[]⟩ false):=iO
theorem QH (op:Int) (_h0:0≤op) (_h8:op < 256) (hx:op / 64=2) (hy:op / 8 % 8=5) (hz:op % 8=0) (w:World):Calls Tryz.prog 58 #[.int .u8 op] w (cS w ⟨#[76,68,68]⟩ [] ⟨#[]⟩ false):=iO
theorem RF (op:Int) (_h0:0≤op) (_h8:op < 256) (hx:op / 64=2) (hy:op / 8 % 8=5) (hz:op % 8=1) (w:World):Calls Tryz.prog 58 #[.int .u8 op] w (cS w ⟨#[67,80,68]⟩ [] ⟨#[]⟩ false):=iO
theorem QP (op:Int) (_h0:0≤op) (_h8:op < 256) (hx:op / 64=2) (hy:op / 8 % 8=5) (hz:op % 8=2) (w:World):Calls Tryz.prog 58 #[.int .u8 op] w (cS w ⟨#[73,78,68]⟩ [] ⟨#[]⟩ false):=iO
theorem QC (op:Int) (_h0:0≤op) (_h8:op < 256) (hx:op / 64=2) (hy:op / 8 % 8=5) (hz:op % 8=3) (w:World):Calls Tryz.prog 58 #[.int .u8 op] w (cS w ⟨#[79,85,84,68]⟩ [] ⟨#[]⟩ false):=iO
theorem UE (op:Int) (_h0:0≤op) (_h8:op < 256) (hx:op / 64=2) (hy:op / 8 % 8=6) (hz:op % 8=0) (w:World):Calls Tryz.prog 58 #[.int .u8 op] w (cS w ⟨#[76,68,73,82]⟩ [] ⟨#[]⟩ false):=iO
theorem QY (op:Int) (_h0:0≤op) (_h8:op < 256) (hx:op / 64=2) (hy:op / 8 % 8=6) (hz:op % 8=1) (w:World):Calls Tryz.prog 58 #[.int .u8 op] w (cS w ⟨#[67,80,73,82]⟩ [] ⟨#[]⟩ false):=iO
theorem WQ (op:Int) (_h0:0≤op) (_h8:op < 256) (hx:op / 64=2) (hy:op / 8 % 8=6) (hz:op % 8=2) (w:World):Calls Tryz.prog 58 #[.int .u8 op] w (cS w ⟨#[73,78,73,82]⟩ [] ⟨#[]⟩ false):=iO
theorem TU (op:Int) (_h0:0≤op) (_h8:op < 256) (hx:op / 64=2) (hy:op / 8 % 8=6) (hz:op % 8=3) (w:World):Calls Tryz.prog 58 #[.int .u8 op] w (cS w ⟨#[79,84,73,82]⟩ [] ⟨#[]⟩ false):=iO
theorem UN (op:Int) (_h0:0≤op) (_h8:op < 256) (hx:op / 64=2) (hy:op / 8 % 8=7) (hz:op % 8=0) (w:World):Calls Tryz.prog 58 #[.int .u8 op] w (cS w ⟨#[76,68,68,82]⟩ [] ⟨#[]⟩ false):=iO
theorem WO (op:Int) (_h0:0≤op) (_h8:op < 256) (hx:op / 64=2) (hy:op / 8 % 8=7) (hz:op % 8=1) (w:World):Calls Tryz.prog 58 #[.int .u8 op] w (cS w ⟨#[67,80,68,82]⟩ [] ⟨#[]⟩ false):=iO
theorem QT (op:Int) (_h0:0≤op) (_h8:op < 256) (hx:op / 64=2) (hy:op / 8 % 8=7) (hz:op % 8=2) (w:World):Calls Tryz.prog 58 #[.int .u8 op] w (cS w ⟨#[73,78,68,82]⟩ [] ⟨#[]⟩ false):=iO
theorem QL (op:Int) (_h0:0≤op) (_h8:op < 256) (hx:op / 64=2) (hy:op / 8 % 8=7) (hz:op % 8=3) (w:World):Calls Tryz.prog 58 #[.int .u8 op] w (cS w ⟨#[79,84,68,82]⟩ [] ⟨#[]⟩ false):=iO
theorem ed_b_0 (op y z:Int) (_h0:0≤op) (_h8:op < 256) (_hy:op / 8 % 8=y) (_hz:op % 8=z) (_hy0:0≤y) (_hy8:y < 8) (_hz0:0≤z) (_hz8:z < 8) (k:Int) (hx:op / 64=k) (hk1:k≠1) (hk2:k≠2) (w:World):Calls Tryz.prog 58 #[.int .u8 op] w (cS w ⟨#[]⟩ [] ⟨#[]⟩ false):=by
 have H:=aA ((Fr.start w).new' 24 #[.string ⟨#[]⟩,.slice none 0 0] rfl)
 have k1:(k != 1)=true:=by rw [bne_iff_ne];exact hk1
 have k2:(k==2)=false:=by rw [beq_eq_false_iff_ne];exact hk2
 go_enter Tryz.func58,Tryz.ntmps58
 go_wp2
 exact bodyPost_ret (dX rfl rfl (H.out.blk 0 rfl)) rfl ⟨_,rfl,aV _ _,H.out.below⟩
theorem s8_t2 {P:Prop} (h:P:=by
  have H:=aA ((Fr.start w).new' 24 #[.string ⟨#[]⟩,.slice none 0 0] rfl)
  go_enter Tryz.func58,Tryz.ntmps58
  go_wp2
  exact bodyPost_ret (dX rfl rfl (H.out.blk 0 rfl)) rfl ⟨_,rfl,aV _ _,H.out.below⟩):P:=h
theorem ed_b_1 (op y z:Int) (_h0:0≤op) (_h8:op < 256) (_hy:op / 8 % 8=y) (_hz:op % 8=z) (_hy0:0≤y) (_hy8:y < 8) (_hz0:0≤z) (_hz8:z < 8) (hx:op / 64=2) (hz4:4≤z) (w:World):Calls Tryz.prog 58 #[.int .u8 op] w (cS w ⟨#[]⟩ [] ⟨#[]⟩ false):=s8_t2
theorem ed_b_2 (op y z:Int) (_h0:0≤op) (_h8:op < 256) (_hy:op / 8 % 8=y) (_hz:op % 8=z) (_hy0:0≤y) (_hy8:y < 8) (_hz0:0≤z) (_hz8:z < 8) (hx:op / 64=2) (hz4:z < 4) (hy4:y < 4) (w:World):Calls Tryz.prog 58 #[.int .u8 op] w (cS w ⟨#[]⟩ [] ⟨#[]⟩ false):=s8_t2
theorem ed_0a (op y z:Int) (_h0:0≤op) (_h8:op < 256) (_hy:op / 8 % 8=y) (_hz:op % 8=z) (_hy0:0≤y) (_hy8:y < 8) (_hz0:0≤z) (_hz8:z < 8) (hx:op / 64=1) (hz':z=0) (h6:y=6) (w:World):Calls Tryz.prog 58 #[.int .u8 op] w (cS w ⟨#[73,78]⟩ [jF 8] ⟨#[]⟩ false):=by
 have H:=aA ((Fr.start w).new' 24 #[.string ⟨#[]⟩,.slice none 0 0] rfl)
 subst hz' h6
 go_enter Tryz.func58,Tryz.ntmps58
 go_wp2_with fail
 refine (dT _ _ _).mono ?_
 rintro e w1 ⟨o1,rfl,hb⟩
 have LT1:=aA ((H.out.next hb).blk 0 rfl).lt
 have H1:=aA ((H.out.next hb).new' 49 #[.int .i64 o1.kind,.int .i64 o1.reg,.int .i64 o1.n] rfl)
 clear hb H
 go_wp2_with fail
 refine (dT _ _ _).mono ?_
 rintro e w2 ⟨o2,rfl,hb⟩
 have LT2:=aA ((H1.out.next hb).blk 0 rfl).lt
 have H:=aA ((H1.out.next hb).new' 49 #[.int .i64 o2.kind,.int .i64 o2.reg,.int .i64 o2.n] rfl)
 obtain ⟨e0,e1,d0,d1⟩:=(H.out.blk 2 rfl).two
 clear hb H1
 go_wp2_with (first
  | (go_at_call 95;refine (frO H (gM _ _)).mono ?_;rintro e w' ⟨rfl,H⟩)
  | (go_at_call 92;refine (frL H 2 rfl (fC _ _)).mono ?_;rintro e w' ⟨va,vc,rfl,HO,H⟩)
  | (go_at_call 88;refine (frI H (aO _ _ _ _ _ HO.out)).mono ?_;rintro e w' ⟨rfl,HO,H⟩;obtain ⟨e0,e1,d0,d1⟩:=(H.out.blk 2 rfl).two))
 have hpo:=fun x=>aW (x:=x) (y:=.slice va 1 vc) H.out.below HO.out (fun k hk=>hk) (Nat.le_refl _)
 exact bodyPost_ret (dX rfl rfl (((H.out.blk 2 rfl).set 0 _).set 1 _)) rfl ⟨_,rfl,(hpo _).1,(hpo _).2⟩
theorem s8_t3 {P:Prop} (h:P:=by
  have H:=aA ((Fr.start w).new' 24 #[.string ⟨#[]⟩,.slice none 0 0] rfl)
  subst hz'
  go_enter Tryz.func58,Tryz.ntmps58
  go_wp2_with fail
  refine (dT _ _ _).mono ?_
  rintro e w1 ⟨o1,rfl,hb⟩
  have LT1:=aA ((H.out.next hb).blk 0 rfl).lt
  have H1:=aA ((H.out.next hb).new' 49 #[.int .i64 o1.kind,.int .i64 o1.reg,.int .i64 o1.n] rfl)
  clear hb H
  go_wp2_with fail
  refine (dT _ _ _).mono ?_
  rintro e w2 ⟨o2,rfl,hb⟩
  have LT2:=aA ((H1.out.next hb).blk 0 rfl).lt
  have H:=aA ((H1.out.next hb).new' 49 #[.int .i64 o2.kind,.int .i64 o2.reg,.int .i64 o2.n] rfl)
  obtain ⟨e0,e1,d0,d1⟩:=(H.out.blk 2 rfl).two
  clear hb H1
  go_wp2_with (first
   | (go_at_call 57;refine (frO H (oX _ _)).mono ?_;rintro e w' ⟨rfl,H⟩)
   | (go_at_call 95;refine (frO H (gM _ _)).mono ?_;rintro e w' ⟨rfl,H⟩)
   | (go_at_call 89;refine (frL H 2 rfl (cC _ _ _)).mono ?_;rintro e w' ⟨va,vc,rfl,HO,H⟩)
   | (go_at_call 88;refine (frI H (aO _ _ _ _ _ HO.out)).mono ?_;rintro e w' ⟨rfl,HO,H⟩;obtain ⟨e0,e1,d0,d1⟩:=(H.out.blk 2 rfl).two))
  have hpo:=fun x=>aW (x:=x) (y:=.slice va 2 vc) H.out.below HO.out (fun k hk=>hk) (Nat.le_refl _)
  exact bodyPost_ret (dX rfl rfl (((H.out.blk 2 rfl).set 0 _).set 1 _)) rfl ⟨_,rfl,(hpo _).1,(hpo _).2⟩):P:=h
theorem ed_0b (op y z:Int) (_h0:0≤op) (_h8:op < 256) (_hy:op / 8 % 8=y) (_hz:op % 8=z) (_hy0:0≤y) (_hy8:y < 8) (_hz0:0≤z) (_hz8:z < 8) (hx:op / 64=1) (hz':z=0) (h6:¬y=6) (w:World):Calls Tryz.prog 58 #[.int .u8 op] w (cS w ⟨#[73,78]⟩ [rF y,jF 8] ⟨#[]⟩ false):=s8_t3
theorem ed_1a (op y z:Int) (_h0:0≤op) (_h8:op < 256) (_hy:op / 8 % 8=y) (_hz:op % 8=z) (_hy0:0≤y) (_hy8:y < 8) (_hz0:0≤z) (_hz8:z < 8) (hx:op / 64=1) (hz':z=1) (h6:y=6) (w:World):Calls Tryz.prog 58 #[.int .u8 op] w (cS w ⟨#[79,85,84]⟩ [jF 8,cV 0] ⟨#[]⟩ false):=by
 have H:=aA ((Fr.start w).new' 24 #[.string ⟨#[]⟩,.slice none 0 0] rfl)
 subst hz' h6
 go_enter Tryz.func58,Tryz.ntmps58
 go_wp2_with fail
 refine (dT _ _ _).mono ?_
 rintro e w1 ⟨o1,rfl,hb⟩
 have LT1:=aA ((H.out.next hb).blk 0 rfl).lt
 have H1:=aA ((H.out.next hb).new' 49 #[.int .i64 o1.kind,.int .i64 o1.reg,.int .i64 o1.n] rfl)
 clear hb H
 go_wp2_with fail
 refine (dT _ _ _).mono ?_
 rintro e w2 ⟨o2,rfl,hb⟩
 have LT2:=aA ((H1.out.next hb).blk 0 rfl).lt
 have H:=aA ((H1.out.next hb).new' 49 #[.int .i64 o2.kind,.int .i64 o2.reg,.int .i64 o2.n] rfl)
 obtain ⟨e0,e1,d0,d1⟩:=(H.out.blk 2 rfl).two
 clear hb H1
 go_wp2_with (first
  | (go_at_call 93;refine (frO H (fK _ _)).mono ?_;rintro e w' ⟨rfl,H⟩)
  | (go_at_call 95;refine (frO H (gM _ _)).mono ?_;rintro e w' ⟨rfl,H⟩)
  | (go_at_call 89;refine (frL H 2 rfl (cC _ _ _)).mono ?_;rintro e w' ⟨va,vc,rfl,HO,H⟩)
  | (go_at_call 88;refine (frI H (aO _ _ _ _ _ HO.out)).mono ?_;rintro e w' ⟨rfl,HO,H⟩;obtain ⟨e0,e1,d0,d1⟩:=(H.out.blk 2 rfl).two))
 have hpo:=fun x=>aW (x:=x) (y:=.slice va 2 vc) H.out.below HO.out (fun k hk=>hk) (Nat.le_refl _)
 exact bodyPost_ret (dX rfl rfl (((H.out.blk 2 rfl).set 0 _).set 1 _)) rfl ⟨_,rfl,(hpo _).1,(hpo _).2⟩
theorem ed_1b (op y z:Int) (_h0:0≤op) (_h8:op < 256) (_hy:op / 8 % 8=y) (_hz:op % 8=z) (_hy0:0≤y) (_hy8:y < 8) (_hz0:0≤z) (_hz8:z < 8) (hx:op / 64=1) (hz':z=1) (h6:¬y=6) (w:World):Calls Tryz.prog 58 #[.int .u8 op] w (cS w ⟨#[79,85,84]⟩ [jF 8,rF y] ⟨#[]⟩ false):=s8_t3
theorem ed_2_0 (op y z:Int) (_h0:0≤op) (_h8:op < 256) (_hy:op / 8 % 8=y) (_hz:op % 8=z) (_hy0:0≤y) (_hy8:y < 8) (_hz0:0≤z) (_hz8:z < 8) (hx:op / 64=1) (hz':z=2) (hq:y % 2=0) (w:World):Calls Tryz.prog 58 #[.int .u8 op] w (cS w ⟨#[83,66,67]⟩ [rpF 2 3,rpF (y / 2) 3] ⟨#[]⟩ false):=by
 have H:=aA ((Fr.start w).new' 24 #[.string ⟨#[]⟩,.slice none 0 0] rfl)
 subst hz'
 go_enter Tryz.func58,Tryz.ntmps58
 go_wp2_with fail
 refine (cY 2 3 _).mono ?_
 rintro e w1 ⟨rfl,hb⟩
 have LT1:=aA ((H.out.next hb).blk 0 rfl).lt
 have H1:=aA ((H.out.next hb).new' 49 #[.int .i64 (rpF 2 3).kind,.int .i64 (rpF 2 3).reg,.int .i64 (rpF 2 3).n] rfl)
 clear hb H
 go_wp2_with fail
 refine (cY (y / 2) 3 _).mono ?_
 rintro e w2 ⟨rfl,hb⟩
 have LT2:=aA ((H1.out.next hb).blk 0 rfl).lt
 have H:=aA ((H1.out.next hb).new' 49 #[.int .i64 (rpF (y / 2) 3).kind,.int .i64 (rpF (y / 2) 3).reg,.int .i64 (rpF (y / 2) 3).n] rfl)
 obtain ⟨f0,f1,f2,x0,x1,x2⟩:=(H.out.blk 0 rfl).three
 obtain ⟨g0,g1,g2,_,_,_⟩:=(H.out.blk 1 rfl).three
 obtain ⟨e0,e1,d0,d1⟩:=(H.out.blk 2 rfl).two
 clear hb H1
 have HX:=H
 have Hn:=aA H.out.drew
 clear H x0 x1 x2
 have H:=Hn
 clear Hn
 have HA:=aA (HX.out.new' 9 #[.string ⟨#[83,66,67]⟩,.string ⟨#[65,68,67]⟩] (b:=w2.heap.size+1) (by rw [World.size_alloc])).drew
 go_upto_region 22 with fail
 obtain ⟨f0,f1,f2,_,_,_⟩:=(H.out.mem w1.heap.size 49 #[.int .i64 (rpF 2 3).kind,.int .i64 (rpF 2 3).reg,.int .i64 (rpF 2 3).n] (by simp)).three
 obtain ⟨g0,g1,g2,_,_,_⟩:=(H.out.mem w2.heap.size 49 #[.int .i64 (rpF (y / 2) 3).kind,.int .i64 (rpF (y / 2) 3).reg,.int .i64 (rpF (y / 2) 3).n] (by simp)).three
 obtain ⟨e0,e1,d0,d1⟩:=(H.out.mem w.heap.size 24 #[.string ⟨#[]⟩,.slice none 0 0] (by simp)).two
 have n3:=(H.out.mem w.heap.size 24 #[.string ⟨#[]⟩,.slice none 0 0] (by simp)).lt
 obtain ⟨p0,p1,p2,_,_,_⟩:=(HA.out.mem w1.heap.size 49 #[.int .i64 (rpF 2 3).kind,.int .i64 (rpF 2 3).reg,.int .i64 (rpF 2 3).n] (by simp)).three
 obtain ⟨q0,q1,q2,_,_,_⟩:=(HA.out.mem w2.heap.size 49 #[.int .i64 (rpF (y / 2) 3).kind,.int .i64 (rpF (y / 2) 3).reg,.int .i64 (rpF (y / 2) 3).n] (by simp)).three
 go_region_law ((go_simp;(first
   | (go_at_call 89;refine (cC _ _ _).mono ?_;rintro e w' ⟨v,rfl,ho,hb⟩;obtain ⟨va,vc,rfl⟩:=ho.form;have HO:=aA (ho.mono (r:=fun k=>w.heap.size < k) (fun k hk=>Nat.lt_of_lt_of_le (H.out.mem w.heap.size 24 #[.string ⟨#[]⟩,.slice none 0 0] (by simp)).lt (Nat.le_trans (by first | (with_reducible exact Nat.le_refl _) | (simp only [World.size_drew,World.size_alloc];omega)) hk)));clear ho;clear f0 f1 f2 g0 g1 g2 e0 e1 d0 d1 n3;have Hn:=aA ((HX.out.new' 9 #[.string ⟨#[83,66,67]⟩,.string ⟨#[65,68,67]⟩] (b:=w2.heap.size+1) (by rw [World.size_alloc])).drew.next hb);clear H hb;have H:=Hn;clear Hn;have HS:=aA (H.out.blk 0 rfl);have s0:=HS.out.cell 0;obtain ⟨f0,f1,f2,_,_,_⟩:=(H.out.mem w1.heap.size 49 #[.int .i64 (rpF 2 3).kind,.int .i64 (rpF 2 3).reg,.int .i64 (rpF 2 3).n] (by simp)).three;obtain ⟨g0,g1,g2,_,_,_⟩:=(H.out.mem w2.heap.size 49 #[.int .i64 (rpF (y / 2) 3).kind,.int .i64 (rpF (y / 2) 3).reg,.int .i64 (rpF (y / 2) 3).n] (by simp)).three;obtain ⟨e0,e1,d0,d1⟩:=(H.out.mem w.heap.size 24 #[.string ⟨#[]⟩,.slice none 0 0] (by simp)).two;have n3:=(H.out.mem w.heap.size 24 #[.string ⟨#[]⟩,.slice none 0 0] (by simp)).lt)
   | (go_at_call 89;refine (cC _ _ _).mono ?_;rintro e w' ⟨v,rfl,ho,hb⟩;obtain ⟨va,vc,rfl⟩:=ho.form;have HO:=aA (ho.mono (r:=fun k=>w.heap.size < k) (fun k hk=>Nat.lt_of_lt_of_le (H.out.mem w.heap.size 24 #[.string ⟨#[]⟩,.slice none 0 0] (by simp)).lt (Nat.le_trans (by first | (with_reducible exact Nat.le_refl _) | (simp only [World.size_drew,World.size_alloc];omega)) hk)));clear ho;clear f0 f1 f2 g0 g1 g2 e0 e1 d0 d1 n3;have Hn:=aA (H.out.next hb);clear H hb;have H:=Hn;clear Hn;obtain ⟨f0,f1,f2,_,_,_⟩:=(H.out.mem w1.heap.size 49 #[.int .i64 (rpF 2 3).kind,.int .i64 (rpF 2 3).reg,.int .i64 (rpF 2 3).n] (by simp)).three;obtain ⟨g0,g1,g2,_,_,_⟩:=(H.out.mem w2.heap.size 49 #[.int .i64 (rpF (y / 2) 3).kind,.int .i64 (rpF (y / 2) 3).reg,.int .i64 (rpF (y / 2) 3).n] (by simp)).three;obtain ⟨e0,e1,d0,d1⟩:=(H.out.mem w.heap.size 24 #[.string ⟨#[]⟩,.slice none 0 0] (by simp)).two;have n3:=(H.out.mem w.heap.size 24 #[.string ⟨#[]⟩,.slice none 0 0] (by simp)).lt)
   | (go_at_call 88;refine (aO _ _ _ _ _ HO.out).mono ?_;rintro e w' ⟨rfl,ho,hb⟩;have HOn:=aA ho;clear HO ho;have HO:=HOn;clear HOn;clear f0 f1 f2 g0 g1 g2 e0 e1 d0 d1 n3;have Hn:=aA (H.out.next hb);clear H hb;have H:=Hn;clear Hn;obtain ⟨f0,f1,f2,_,_,_⟩:=(H.out.mem w1.heap.size 49 #[.int .i64 (rpF 2 3).kind,.int .i64 (rpF 2 3).reg,.int .i64 (rpF 2 3).n] (by simp)).three;obtain ⟨g0,g1,g2,_,_,_⟩:=(H.out.mem w2.heap.size 49 #[.int .i64 (rpF (y / 2) 3).kind,.int .i64 (rpF (y / 2) 3).reg,.int .i64 (rpF (y / 2) 3).n] (by simp)).three;obtain ⟨e0,e1,d0,d1⟩:=(H.out.mem w.heap.size 24 #[.string ⟨#[]⟩,.slice none 0 0] (by simp)).two;have n3:=(H.out.mem w.heap.size 24 #[.string ⟨#[]⟩,.slice none 0 0] (by simp)).lt)
   | (go_at_call 88;refine (aO _ _ _ _ _ (HO.out.below ((Below.refl _ _).alloc (Nat.le_refl _) _))).mono ?_;rintro e w' ⟨rfl,ho,hb⟩;have HOn:=aA ho;clear HO ho;have HO:=HOn;clear HOn;clear f0 f1 f2 g0 g1 g2 e0 e1 d0 d1 n3;have Hn:=aA ((H.out.alloc _).next hb);clear H hb;have H:=Hn;clear Hn;obtain ⟨f0,f1,f2,_,_,_⟩:=(H.out.mem w1.heap.size 49 #[.int .i64 (rpF 2 3).kind,.int .i64 (rpF 2 3).reg,.int .i64 (rpF 2 3).n] (by simp)).three;obtain ⟨g0,g1,g2,_,_,_⟩:=(H.out.mem w2.heap.size 49 #[.int .i64 (rpF (y / 2) 3).kind,.int .i64 (rpF (y / 2) 3).reg,.int .i64 (rpF (y / 2) 3).n] (by simp)).three;obtain ⟨e0,e1,d0,d1⟩:=(H.out.mem w.heap.size 24 #[.string ⟨#[]⟩,.slice none 0 0] (by simp)).two;have n3:=(H.out.mem w.heap.size 24 #[.string ⟨#[]⟩,.slice none 0 0] (by simp)).lt));dsimp only))
 all_goals go_wp2
 all_goals have hpo:=fun x=>aW (x:=x) (y:=.slice va 2 vc) H.out.below HO.out (fun k hk=>hk) (Nat.le_refl _)
 all_goals exact bodyPost_ret (dX rfl rfl (((H.out.mem w.heap.size 24 #[.string ⟨#[]⟩,.slice none 0 0] (by simp)).set 0 _).set 1 _)) rfl ⟨_,rfl,(hpo _).1,(hpo _).2⟩
theorem ed_2_1 (op y z:Int) (_h0:0≤op) (_h8:op < 256) (_hy:op / 8 % 8=y) (_hz:op % 8=z) (_hy0:0≤y) (_hy8:y < 8) (_hz0:0≤z) (_hz8:z < 8) (hx:op / 64=1) (hz':z=2) (hq:y % 2=1) (w:World):Calls Tryz.prog 58 #[.int .u8 op] w (cS w ⟨#[65,68,67]⟩ [rpF 2 3,rpF (y / 2) 3] ⟨#[]⟩ false):=by
 have H:=aA ((Fr.start w).new' 24 #[.string ⟨#[]⟩,.slice none 0 0] rfl)
 subst hz'
 go_enter Tryz.func58,Tryz.ntmps58
 go_wp2_with fail
 refine (cY 2 3 _).mono ?_
 rintro e w1 ⟨rfl,hb⟩
 have LT1:=aA ((H.out.next hb).blk 0 rfl).lt
 have H1:=aA ((H.out.next hb).new' 49 #[.int .i64 (rpF 2 3).kind,.int .i64 (rpF 2 3).reg,.int .i64 (rpF 2 3).n] rfl)
 clear hb H
 go_wp2_with fail
 refine (cY (y / 2) 3 _).mono ?_
 rintro e w2 ⟨rfl,hb⟩
 have LT2:=aA ((H1.out.next hb).blk 0 rfl).lt
 have H:=aA ((H1.out.next hb).new' 49 #[.int .i64 (rpF (y / 2) 3).kind,.int .i64 (rpF (y / 2) 3).reg,.int .i64 (rpF (y / 2) 3).n] rfl)
 obtain ⟨f0,f1,f2,x0,x1,x2⟩:=(H.out.blk 0 rfl).three
 obtain ⟨g0,g1,g2,_,_,_⟩:=(H.out.blk 1 rfl).three
 obtain ⟨e0,e1,d0,d1⟩:=(H.out.blk 2 rfl).two
 clear hb H1
 have HX:=H
 have Hn:=aA H.out.drew
 clear H x0 x1 x2
 have H:=Hn
 clear Hn
 have HA:=aA (HX.out.new' 9 #[.string ⟨#[83,66,67]⟩,.string ⟨#[65,68,67]⟩] (b:=w2.heap.size+1) (by rw [World.size_alloc])).drew
 go_upto_region 22 with fail
 obtain ⟨f0,f1,f2,_,_,_⟩:=(H.out.mem w1.heap.size 49 #[.int .i64 (rpF 2 3).kind,.int .i64 (rpF 2 3).reg,.int .i64 (rpF 2 3).n] (by simp)).three
 obtain ⟨g0,g1,g2,_,_,_⟩:=(H.out.mem w2.heap.size 49 #[.int .i64 (rpF (y / 2) 3).kind,.int .i64 (rpF (y / 2) 3).reg,.int .i64 (rpF (y / 2) 3).n] (by simp)).three
 obtain ⟨e0,e1,d0,d1⟩:=(H.out.mem w.heap.size 24 #[.string ⟨#[]⟩,.slice none 0 0] (by simp)).two
 have n3:=(H.out.mem w.heap.size 24 #[.string ⟨#[]⟩,.slice none 0 0] (by simp)).lt
 obtain ⟨p0,p1,p2,_,_,_⟩:=(HA.out.mem w1.heap.size 49 #[.int .i64 (rpF 2 3).kind,.int .i64 (rpF 2 3).reg,.int .i64 (rpF 2 3).n] (by simp)).three
 obtain ⟨q0,q1,q2,_,_,_⟩:=(HA.out.mem w2.heap.size 49 #[.int .i64 (rpF (y / 2) 3).kind,.int .i64 (rpF (y / 2) 3).reg,.int .i64 (rpF (y / 2) 3).n] (by simp)).three
 go_region_law ((go_simp;(first
   | (go_at_call 89;refine (cC _ _ _).mono ?_;rintro e w' ⟨v,rfl,ho,hb⟩;obtain ⟨va,vc,rfl⟩:=ho.form;have HO:=aA (ho.mono (r:=fun k=>w.heap.size < k) (fun k hk=>Nat.lt_of_lt_of_le (H.out.mem w.heap.size 24 #[.string ⟨#[]⟩,.slice none 0 0] (by simp)).lt (Nat.le_trans (by first | (with_reducible exact Nat.le_refl _) | (simp only [World.size_drew,World.size_alloc];omega)) hk)));clear ho;clear f0 f1 f2 g0 g1 g2 e0 e1 d0 d1 n3;have Hn:=aA ((HX.out.new' 9 #[.string ⟨#[83,66,67]⟩,.string ⟨#[65,68,67]⟩] (b:=w2.heap.size+1) (by rw [World.size_alloc])).drew.next hb);clear H hb;have H:=Hn;clear Hn;have HS:=aA (H.out.blk 0 rfl);have s0:=HS.out.cell 1;obtain ⟨f0,f1,f2,_,_,_⟩:=(H.out.mem w1.heap.size 49 #[.int .i64 (rpF 2 3).kind,.int .i64 (rpF 2 3).reg,.int .i64 (rpF 2 3).n] (by simp)).three;obtain ⟨g0,g1,g2,_,_,_⟩:=(H.out.mem w2.heap.size 49 #[.int .i64 (rpF (y / 2) 3).kind,.int .i64 (rpF (y / 2) 3).reg,.int .i64 (rpF (y / 2) 3).n] (by simp)).three;obtain ⟨e0,e1,d0,d1⟩:=(H.out.mem w.heap.size 24 #[.string ⟨#[]⟩,.slice none 0 0] (by simp)).two;have n3:=(H.out.mem w.heap.size 24 #[.string ⟨#[]⟩,.slice none 0 0] (by simp)).lt)
   | (go_at_call 89;refine (cC _ _ _).mono ?_;rintro e w' ⟨v,rfl,ho,hb⟩;obtain ⟨va,vc,rfl⟩:=ho.form;have HO:=aA (ho.mono (r:=fun k=>w.heap.size < k) (fun k hk=>Nat.lt_of_lt_of_le (H.out.mem w.heap.size 24 #[.string ⟨#[]⟩,.slice none 0 0] (by simp)).lt (Nat.le_trans (by first | (with_reducible exact Nat.le_refl _) | (simp only [World.size_drew,World.size_alloc];omega)) hk)));clear ho;clear f0 f1 f2 g0 g1 g2 e0 e1 d0 d1 n3;have Hn:=aA (H.out.next hb);clear H hb;have H:=Hn;clear Hn;obtain ⟨f0,f1,f2,_,_,_⟩:=(H.out.mem w1.heap.size 49 #[.int .i64 (rpF 2 3).kind,.int .i64 (rpF 2 3).reg,.int .i64 (rpF 2 3).n] (by simp)).three;obtain ⟨g0,g1,g2,_,_,_⟩:=(H.out.mem w2.heap.size 49 #[.int .i64 (rpF (y / 2) 3).kind,.int .i64 (rpF (y / 2) 3).reg,.int .i64 (rpF (y / 2) 3).n] (by simp)).three;obtain ⟨e0,e1,d0,d1⟩:=(H.out.mem w.heap.size 24 #[.string ⟨#[]⟩,.slice none 0 0] (by simp)).two;have n3:=(H.out.mem w.heap.size 24 #[.string ⟨#[]⟩,.slice none 0 0] (by simp)).lt)
   | (go_at_call 88;refine (aO _ _ _ _ _ HO.out).mono ?_;rintro e w' ⟨rfl,ho,hb⟩;have HOn:=aA ho;clear HO ho;have HO:=HOn;clear HOn;clear f0 f1 f2 g0 g1 g2 e0 e1 d0 d1 n3;have Hn:=aA (H.out.next hb);clear H hb;have H:=Hn;clear Hn;obtain ⟨f0,f1,f2,_,_,_⟩:=(H.out.mem w1.heap.size 49 #[.int .i64 (rpF 2 3).kind,.int .i64 (rpF 2 3).reg,.int .i64 (rpF 2 3).n] (by simp)).three;obtain ⟨g0,g1,g2,_,_,_⟩:=(H.out.mem w2.heap.size 49 #[.int .i64 (rpF (y / 2) 3).kind,.int .i64 (rpF (y / 2) 3).reg,.int .i64 (rpF (y / 2) 3).n] (by simp)).three;obtain ⟨e0,e1,d0,d1⟩:=(H.out.mem w.heap.size 24 #[.string ⟨#[]⟩,.slice none 0 0] (by simp)).two;have n3:=(H.out.mem w.heap.size 24 #[.string ⟨#[]⟩,.slice none 0 0] (by simp)).lt)
   | (go_at_call 88;refine (aO _ _ _ _ _ (HO.out.below ((Below.refl _ _).alloc (Nat.le_refl _) _))).mono ?_;rintro e w' ⟨rfl,ho,hb⟩;have HOn:=aA ho;clear HO ho;have HO:=HOn;clear HOn;clear f0 f1 f2 g0 g1 g2 e0 e1 d0 d1 n3;have Hn:=aA ((H.out.alloc _).next hb);clear H hb;have H:=Hn;clear Hn;obtain ⟨f0,f1,f2,_,_,_⟩:=(H.out.mem w1.heap.size 49 #[.int .i64 (rpF 2 3).kind,.int .i64 (rpF 2 3).reg,.int .i64 (rpF 2 3).n] (by simp)).three;obtain ⟨g0,g1,g2,_,_,_⟩:=(H.out.mem w2.heap.size 49 #[.int .i64 (rpF (y / 2) 3).kind,.int .i64 (rpF (y / 2) 3).reg,.int .i64 (rpF (y / 2) 3).n] (by simp)).three;obtain ⟨e0,e1,d0,d1⟩:=(H.out.mem w.heap.size 24 #[.string ⟨#[]⟩,.slice none 0 0] (by simp)).two;have n3:=(H.out.mem w.heap.size 24 #[.string ⟨#[]⟩,.slice none 0 0] (by simp)).lt));dsimp only))
 all_goals go_wp2
 all_goals have hpo:=fun x=>aW (x:=x) (y:=.slice va 2 vc) H.out.below HO.out (fun k hk=>hk) (Nat.le_refl _)
 all_goals exact bodyPost_ret (dX rfl rfl (((H.out.mem w.heap.size 24 #[.string ⟨#[]⟩,.slice none 0 0] (by simp)).set 0 _).set 1 _)) rfl ⟨_,rfl,(hpo _).1,(hpo _).2⟩
theorem s8_t4 {P:Prop} (h:P:=by
  have H:=aA ((Fr.start w).new' 24 #[.string ⟨#[]⟩,.slice none 0 0] rfl)
  go_enter Tryz.func58,Tryz.ntmps58
  go_wp2_with fail
  refine (cY 2 3 _).mono ?_
  rintro e w1 ⟨rfl,hb⟩
  have LT1:=aA ((H.out.next hb).blk 0 rfl).lt
  have H1:=aA ((H.out.next hb).new' 49 #[.int .i64 (rpF 2 3).kind,.int .i64 (rpF 2 3).reg,.int .i64 (rpF 2 3).n] rfl)
  clear hb H
  go_wp2_with fail
  refine (cY 2 3 _).mono ?_
  rintro e w2 ⟨rfl,hb⟩
  have LT2:=aA ((H1.out.next hb).blk 0 rfl).lt
  have H:=aA ((H1.out.next hb).new' 49 #[.int .i64 (rpF 2 3).kind,.int .i64 (rpF 2 3).reg,.int .i64 (rpF 2 3).n] rfl)
  obtain ⟨f0,f1,f2,x0,x1,x2⟩:=(H.out.blk 0 rfl).three
  obtain ⟨g0,g1,g2,_,_,_⟩:=(H.out.blk 1 rfl).three
  obtain ⟨e0,e1,d0,d1⟩:=(H.out.blk 2 rfl).two
  clear hb H1
  have Hn:=aA H.out.drew
  clear H x0 x1 x2
  have H:=Hn
  clear Hn
  have n1:¬w2.heap.size=w.heap.size:=by have:=LT1.out;have:=LT2.out;omega
  have n2:¬w.heap.size=w2.heap.size:=fun e=>n1 e.symm
  first
   | ((have _:=Ma0);(go_upto_region 25 with fail))
   | (go_upto_region 26 with fail)
  obtain ⟨f0,f1,f2,_,_,_⟩:=(H.out.blk 0 rfl).three
  obtain ⟨e0,e1,d0,d1⟩:=(H.out.blk 2 rfl).two
  go_region_held3 (fun w'=>w'.cell? ⟨w2.heap.size,0,none⟩=some (.int .i64 (rpF 2 3).kind)∧w'.cell? ⟨w2.heap.size,1,none⟩=some (.int .i64 (rpF 2 3).reg)∧w'.cell? ⟨w2.heap.size,2,none⟩=some (.int .i64 (rpF 2 3).n)) (go_keep)
   (first
    | (go_at_call 96;refine (frO H (iK _)).mono ?_;rintro e w' ⟨rfl,H⟩;obtain ⟨f0,f1,f2,_,_,_⟩:=(H.out.blk 0 rfl).three)
    | (go_at_call 89;refine (frL H 2 rfl (cC _ _ _)).mono ?_;rintro e w' ⟨va,vc,rfl,HO,H⟩;obtain ⟨f0,f1,f2,_,_,_⟩:=(H.out.blk 0 rfl).three)
    | (go_at_call 88;refine (frI H (aO _ _ _ _ _ HO.out)).mono ?_;rintro e w' ⟨rfl,HO,H⟩;obtain ⟨e0,e1,d0,d1⟩:=(H.out.blk 2 rfl).two;obtain ⟨f0,f1,f2,_,_,_⟩:=(H.out.blk 0 rfl).three))
  go_wp2
  have hpo:=fun x=>aW (x:=x) (y:=.slice va 2 vc) H.out.below HO.out (fun k hk=>hk) (Nat.le_refl _)
  exact bodyPost_ret (dX rfl rfl (((H.out.blk 2 rfl).set 0 _).set 1 _)) rfl ⟨_,rfl,(hpo _).1,(hpo _).2⟩):P:=h
theorem ed_3_0t (op:Int) (_h0:0≤op) (_h8:op < 256) (hx:op / 64=1) (hy:op / 8 % 8=4) (hz:op % 8=3) (w:World):Calls Tryz.prog 58 #[.int .u8 op] w (cS w ⟨#[76,68]⟩ [fH,rpF 2 3] ⟨#[119]⟩ true):=by
 have Ma0:=trivial
 exact s8_t4
theorem s8_t5 {P:Prop} (h:P:=by
  have H:=aA ((Fr.start w).new' 24 #[.string ⟨#[]⟩,.slice none 0 0] rfl)
  subst hz'
  go_enter Tryz.func58,Tryz.ntmps58
  go_wp2_with fail
  refine (dT _ _ _).mono ?_
  rintro e w1 ⟨o1,rfl,hb⟩
  have LT1:=aA ((H.out.next hb).blk 0 rfl).lt
  have H1:=aA ((H.out.next hb).new' 49 #[.int .i64 o1.kind,.int .i64 o1.reg,.int .i64 o1.n] rfl)
  clear hb H
  go_wp2_with fail
  refine (cY (y / 2) 3 _).mono ?_
  rintro e w2 ⟨rfl,hb⟩
  have LT2:=aA ((H1.out.next hb).blk 0 rfl).lt
  have H:=aA ((H1.out.next hb).new' 49 #[.int .i64 (rpF (y / 2) 3).kind,.int .i64 (rpF (y / 2) 3).reg,.int .i64 (rpF (y / 2) 3).n] rfl)
  obtain ⟨f0,f1,f2,x0,x1,x2⟩:=(H.out.blk 0 rfl).three
  obtain ⟨g0,g1,g2,_,_,_⟩:=(H.out.blk 1 rfl).three
  obtain ⟨e0,e1,d0,d1⟩:=(H.out.blk 2 rfl).two
  clear hb H1
  have Hn:=aA H.out.drew
  clear H x0 x1 x2
  have H:=Hn
  clear Hn
  have n1:¬w2.heap.size=w.heap.size:=by have:=LT1.out;have:=LT2.out;omega
  have n2:¬w.heap.size=w2.heap.size:=fun e=>n1 e.symm
  first
   | ((have _:=Ma0);(go_upto_region 25 with fail))
   | (go_upto_region 26 with fail)
  obtain ⟨f0,f1,f2,_,_,_⟩:=(H.out.blk 0 rfl).three
  obtain ⟨e0,e1,d0,d1⟩:=(H.out.blk 2 rfl).two
  go_region_held3 (fun w'=>w'.cell? ⟨w2.heap.size,0,none⟩=some (.int .i64 (rpF (y / 2) 3).kind)∧w'.cell? ⟨w2.heap.size,1,none⟩=some (.int .i64 (rpF (y / 2) 3).reg)∧w'.cell? ⟨w2.heap.size,2,none⟩=some (.int .i64 (rpF (y / 2) 3).n)) (go_keep)
   (first
    | (go_at_call 96;refine (frO H (iK _)).mono ?_;rintro e w' ⟨rfl,H⟩;obtain ⟨f0,f1,f2,_,_,_⟩:=(H.out.blk 0 rfl).three)
    | (go_at_call 89;refine (frL H 2 rfl (cC _ _ _)).mono ?_;rintro e w' ⟨va,vc,rfl,HO,H⟩;obtain ⟨f0,f1,f2,_,_,_⟩:=(H.out.blk 0 rfl).three)
    | (go_at_call 88;refine (frI H (aO _ _ _ _ _ HO.out)).mono ?_;rintro e w' ⟨rfl,HO,H⟩;obtain ⟨e0,e1,d0,d1⟩:=(H.out.blk 2 rfl).two;obtain ⟨f0,f1,f2,_,_,_⟩:=(H.out.blk 0 rfl).three))
  go_wp2
  have hpo:=fun x=>aW (x:=x) (y:=.slice va 2 vc) H.out.below HO.out (fun k hk=>hk) (Nat.le_refl _)
  exact bodyPost_ret (dX rfl rfl (((H.out.blk 2 rfl).set 0 _).set 1 _)) rfl ⟨_,rfl,(hpo _).1,(hpo _).2⟩):P:=h
theorem XW (op y z:Int) (_h0:0≤op) (_h8:op < 256) (_hy:op / 8 % 8=y) (_hz:op % 8=z) (_hy0:0≤y) (_hy8:y < 8) (_hz0:0≤z) (_hz8:z < 8) (hx:op / 64=1) (hz':z=3) (hq:y % 2=0) (hal:(y==4)=false) (w:World):Calls Tryz.prog 58 #[.int .u8 op] w (cS w ⟨#[76,68]⟩ [fH,rpF (y / 2) 3] ⟨#[119]⟩ false):=by
 have Ma0:=trivial
 exact s8_t5
theorem YJ (op:Int) (_h0:0≤op) (_h8:op < 256) (hx:op / 64=1) (hy:op / 8 % 8=5) (hz:op % 8=3) (w:World):Calls Tryz.prog 58 #[.int .u8 op] w (cS w ⟨#[76,68]⟩ [rpF 2 3,fH] ⟨#[119]⟩ true):=s8_t4
theorem XR (op y z:Int) (_h0:0≤op) (_h8:op < 256) (_hy:op / 8 % 8=y) (_hz:op % 8=z) (_hy0:0≤y) (_hy8:y < 8) (_hz0:0≤z) (_hz8:z < 8) (hx:op / 64=1) (hz':z=3) (hq:y % 2=1) (hal:(y==5)=false) (w:World):Calls Tryz.prog 58 #[.int .u8 op] w (cS w ⟨#[76,68]⟩ [rpF (y / 2) 3,fH] ⟨#[119]⟩ false):=s8_t5
end Go.Proofs.YtcgheipmnphbjaaGreatDoor
