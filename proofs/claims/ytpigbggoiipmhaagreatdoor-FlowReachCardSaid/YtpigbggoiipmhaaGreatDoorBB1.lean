/-
  The reference's operands, instructions, operations with the accumulator. ref10: has, within, Letter. Conditions: none.
-/
import Derived.Test.YtpigbggoiipmhaaGreatDoorBA5
namespace Go.Proofs.YtpigbggoiipmhaaGreatDoor
set_option maxHeartbeats 2000000
open Go.RowKit
theorem Fr.mem {w0 w:World} {L:List (Nat × TypeId × Array Value)} (h:Fr w0 L w) (b:Nat) (t:TypeId) (cs:Array Value) (hi:(b,t,cs)∈L):Blk w b t cs:=h.at' _ hi
theorem Fr.set3 {w0 W:World} {L:List (Nat × TypeId × Array Value)} {b:Nat} {t:TypeId} {x y z:Value} (h:Fr w0 ((b,t,#[x,y,z])::L) W) (hb:w0.heap.size<=b) (hn:∀x∈L,x.1≠b) (u0 u1 u2:Value):
  Fr w0 ((b,t,#[u0,u1,u2])::L) (((W.setCell ⟨b,0,none⟩ u0).setCell ⟨b,1,none⟩ u1).setCell ⟨b,2,none⟩ u2):=((h.set hb hn 0 u0).set hb hn 1 u1).set hb hn 2 u2
end Go.Proofs.YtpigbggoiipmhaaGreatDoor
namespace Go.Proofs.YtpigbggoiipmhaaGreatDoor
set_option maxHeartbeats 2000000
open Go.RowKit Go.Shelf Go.Sort
def rF (n:Int):Opd:=if n=6 then ⟨4,2,0⟩ else ⟨1,n,0⟩
def rpF (n last:Int):Opd:=if n=3 then ⟨3,last,0⟩ else ⟨3,n,0⟩
def cV (n:Int):Opd:=⟨6,0,n⟩
def fH:Opd:=⟨7,0,0⟩
def ccO (n:Int):Opd:=⟨8,n,0⟩
def jF (n:Int):Opd:=⟨4,n,0⟩
def CY:Opd:=⟨10,0,0⟩
def bV:Opd:=⟨1,7,0⟩
theorem rF_6:rF 6=⟨4,2,0⟩:=rfl
theorem rF_n {n:Int} (h:n≠6):rF n=⟨1,n,0⟩:=if_neg h
theorem rpF_3 (last:Int):rpF 3 last=⟨3,last,0⟩:=rfl
theorem rpF_n {n:Int} (last:Int) (h:n≠3):rpF n last=⟨3,n,0⟩:=if_neg h
def zM (o:Opd) (w:World) (e:Ending) (w':World):Prop:=e=.returned (.agg #[.int .i64 o.kind,.int .i64 o.reg,.int .i64 o.n])/\Below w.heap.size w w'
theorem iC {fn:Func} {p:Tmp} (h:fn.results=#[.cell p 52]) {tmps:Array Value} {w':World} {o:Opd} {g:Nat} (hp:tmps.getD p undef=.pointer (some ⟨g,0,none⟩))
  (hg:Blk w' g 52 #[.int .i64 o.kind,.int .i64 o.reg,.int .i64 o.n]):(results fn tmps).run Tryz.prog w'=.ok (.agg #[.int .i64 o.kind,.int .i64 o.reg,.int .i64 o.n]) w':=
 aJ h tmps w' g 52 _ (0,0) _ hp hg Tryz.underlying52 rfl (by kernel_rfl)
theorem mM {fn:Func} {p:Tmp} (h:fn.results=#[.cell p 30]) {tmps:Array Value} {w':World} {s v:Value} {g:Nat} (hp:tmps.getD p undef=.pointer (some ⟨g,0,none⟩))
  (hg:Blk w' g 30 #[s,v]):(results fn tmps).run Tryz.prog w'=.ok (.agg #[s,v]) w':=
 aJ h tmps w' g 30 _ (0,0) _ hp hg Tryz.underlying30 rfl (by kernel_rfl)
theorem aV (w:World) (q:aB):aD w q (.slice none 0 0) []:=⟨none,0,rfl,zI _,by omega,λi x h=>by simp at h⟩
theorem aW {w0 w1:World} {q:aB} {b:Nat} {v x y:Value} {l:List Opd} (hB:Below w0.heap.size w0 w1) (ho:aD w1 q v l) (hq:∀k,q k->b < k) (hb:w0.heap.size<=b):
  aD ((w1.setCell ⟨b,0,none⟩ x).setCell ⟨b,1,none⟩ y) (λk=>w0.heap.size<=k) v l/\Below w0.heap.size w0 ((w1.setCell ⟨b,0,none⟩ x).setCell ⟨b,1,none⟩ y):=
 ⟨((ho.far (p:=⟨b,0,none⟩) (λk hk=>Nat.ne_of_gt (hq k hk)) x).far (p:=⟨b,1,none⟩) (λk hk=>Nat.ne_of_gt (hq k hk)) y).mono (λk hk=>qJ hb (z0I (hq k hk))),(hB.setCell hb _).setCell hb _⟩
theorem oX (n:Int) (w:World):Calls Tryz.prog 119 #[.int .i64 n] w (zM (rF n) w):=by
 by_cases h:n=6
 ·subst h;rw [rF_6];go_enter Tryz.func119,Tryz.ntmps119;go_wp2;refine yR (iC (o:=⟨4,2,0⟩) rfl rfl (Blk.new w _ _)) rfl ⟨rfl,(zY _ _).alloc (zI _) _⟩
 ·rw [rF_n h];go_enter Tryz.func119,Tryz.ntmps119;go_wp2;refine yR (iC (o:=⟨1,n,0⟩) rfl rfl (Blk.new w _ _)) rfl ⟨rfl,(zY _ _).alloc (zI _) _⟩
theorem cY (n last:Int) (w:World):Calls Tryz.prog 172 #[.int .i64 n,.int .i64 last] w (zM (rpF n last) w):=by
 by_cases h:n=3
 ·subst h;rw [rpF_3];go_enter Tryz.func172,Tryz.ntmps172;go_wp2;refine yR (iC (o:=⟨3,last,0⟩) rfl rfl (Blk.new w _ _)) rfl ⟨rfl,(zY _ _).alloc (zI _) _⟩
 ·rw [rpF_n last h];go_enter Tryz.func172,Tryz.ntmps172;go_wp2;refine yR (iC (o:=⟨3,n,0⟩) rfl rfl (Blk.new w _ _)) rfl ⟨rfl,(zY _ _).alloc (zI _) _⟩
theorem dT (n last:Int) (w:World):Calls Tryz.prog 172 #[.int .i64 n,.int .i64 last] w λe w'=>∃o:Opd,e=.returned (.agg #[.int .i64 o.kind,.int .i64 o.reg,.int .i64 o.n])/\Below w.heap.size w w':=(cY n last w).mono λ_ _ h=>⟨_,h⟩
theorem fK (n:Int) (w:World):Calls Tryz.prog 171 #[.int .i64 n] w (zM (cV n) w):=by go_enter Tryz.func171,Tryz.ntmps171;go_wp2;refine yR (iC (o:=cV n) rfl rfl (Blk.new w _ _)) rfl ⟨rfl,(zY _ _).alloc (zI _) _⟩
theorem iK (w:World):Calls Tryz.prog 174 #[] w (zM (fH) w):=by go_enter Tryz.func174,Tryz.ntmps174;go_wp2;refine yR (iC (o:=fH) rfl rfl (Blk.new w _ _)) rfl ⟨rfl,(zY _ _).alloc (zI _) _⟩
theorem yT (n:Int) (w:World):Calls Tryz.prog 218 #[.int .i64 n] w (zM (ccO n) w):=by go_enter Tryz.func218,Tryz.ntmps218;go_wp2;refine yR (iC (o:=ccO n) rfl rfl (Blk.new w _ _)) rfl ⟨rfl,(zY _ _).alloc (zI _) _⟩
theorem gM (n:Int) (w:World):Calls Tryz.prog 173 #[.int .i64 n] w (zM (jF n) w):=by go_enter Tryz.func173,Tryz.ntmps173;go_wp2;refine yR (iC (o:=jF n) rfl rfl (Blk.new w _ _)) rfl ⟨rfl,(zY _ _).alloc (zI _) _⟩
theorem AF (w:World):Calls Tryz.prog 217 #[] w (zM (CY) w):=by go_enter Tryz.func217,Tryz.ntmps217;go_wp2;refine yR (iC (o:=CY) rfl rfl (Blk.new w _ _)) rfl ⟨rfl,(zY _ _).alloc (zI _) _⟩
theorem gO (w:World):Calls Tryz.prog 175 #[] w (zM bV w):=by have HR:=aA (λW=>oX 7 W);rw [rF_n (by omega)] at HR;have HF:=aA (Blk.new w 52 #[.int .i64 0,.int .i64 0,.int .i64 0]);have HAL:=aA ((zY w.heap.size w).alloc (zI _) (.cells #[.int .i64 0,.int .i64 0,.int .i64 0] 52));go_enter Tryz.func175,Tryz.ntmps175;go_wp2_with (go_at_call 119;refine (HR.out _).mono ?_;rintro e w1 ⟨rfl,hb⟩;have HB:=aA (HAL.out.trans (hb.mono HAL.out.size));have HK:=aA (HF.out.below hb HF.out.lt);obtain ⟨z0,z1,z2,y0,y1,y2⟩:=HK.out.three;clear hb);refine yR (iC (o:=bV) rfl rfl (((HK.out.set 0 _).set 1 _).set 2 _)) rfl ⟨rfl,?_⟩;exact ((HB.out.setCell (zI _) _).setCell (zI _) _).setCell (zI _) _
theorem fC (x:Opd) (w:World):Calls Tryz.prog 170 #[.agg #[.int .i64 x.kind,.int .i64 x.reg,.int .i64 x.n]] w λe w'=>∃v,e=.returned v/\aD w' (λb=>w.heap.size<=b) v [x]/\Below w.heap.size w w':=by go_enter Tryz.func170,Tryz.ntmps170;go_wp2;go_ret;refine ⟨_,rfl,gZ (w:=w.alloc (.cells #[.int .i64 x.kind,.int .i64 x.reg,.int .i64 x.n] 52)) [x] _ _ _ 1 (by simp) rfl rfl (by simp) (by simp),((zY _ _).alloc (zI _) _).alloc (by simp) _⟩
theorem cC (x y:Opd) (w:World):Calls Tryz.prog 167 #[.agg #[.int .i64 x.kind,.int .i64 x.reg,.int .i64 x.n],.agg #[.int .i64 y.kind,.int .i64 y.reg,.int .i64 y.n]] w λe w'=>∃v,e=.returned v/\aD w' (λb=>w.heap.size<=b) v [x,y]/\Below w.heap.size w w':=by go_enter Tryz.func167,Tryz.ntmps167;go_wp2;go_ret;refine ⟨_,rfl,gZ (w:=(w.alloc (.cells #[.int .i64 x.kind,.int .i64 x.reg,.int .i64 x.n] 52)).alloc (.cells #[.int .i64 y.kind,.int .i64 y.reg,.int .i64 y.n] 52)) [x,y] _ _ _ 2 (by rw [zW,zW]) rfl rfl (by show w.heap.size<=w.heap.size+1+1;omega) (by simp),(((zY _ _).alloc (zI _) _).alloc (by simp) _).alloc (by rw [zW,zW];omega) _⟩
theorem aO (s:ByteArray) (a:Option Addr) (n c:Nat) (w:World) {q:aB} {l:List Opd} (ho:aD w q (.slice a n c) l):Calls Tryz.prog 166 #[.string s,.slice a n c] w λe w'=>e=.returned (.agg #[.string s,.slice a n c])/\aD w' q (.slice a n c) l/\Below w.heap.size w w':=by exact tX21
theorem frO {f:FuncId} {args:Array Value} {w0 W:World} {L:List (Nat × TypeId × Array Value)} {o:Opd} (H:Hid (Fr w0 L W)) (h:Calls Tryz.prog f args W (zM o W)):Calls Tryz.prog f args W λe w'=>e=.returned (.agg #[.int .i64 o.kind,.int .i64 o.reg,.int .i64 o.n])/\Hid (Fr w0 L w'):=h.mono λ_ _ ⟨a,b⟩=>⟨a,aA (H.out.next b)⟩
theorem frL {f:FuncId} {args:Array Value} {w0 W:World} {L:List (Nat × TypeId × Array Value)} {l:List Opd} {b:Nat} {t:TypeId} {cs:Array Value} (H:Hid (Fr w0 L W)) (i:Nat) (hi:L[i]?=some (b,t,cs))
  (h:Calls Tryz.prog f args W λe w'=>∃v,e=.returned v/\aD w' (λk=>W.heap.size<=k) v l/\Below W.heap.size W w'):Calls Tryz.prog f args W λe w'=>∃a c,e=.returned (.slice a l.length c)/\Hid (aD w' (λk=>b < k) (.slice a l.length c) l)/\Hid (Fr w0 L w'):=
 h.mono λ_ _ ⟨_,hv,ho,hb⟩=>by obtain ⟨a,c,rfl⟩:=ho.form;exact ⟨a,c,hv,aA (ho.mono λk hk=>vB (H.out.blk i hi).lt hk),aA (H.out.next hb)⟩
theorem frI {f:FuncId} {args:Array Value} {w0 W:World} {L:List (Nat × TypeId × Array Value)} {l:List Opd} {q:aB} {v r:Value} (H:Hid (Fr w0 L W))
  (h:Calls Tryz.prog f args W λe w'=>e=.returned r/\aD w' q v l/\Below W.heap.size W w'):Calls Tryz.prog f args W λe w'=>e=.returned r/\Hid (aD w' q v l)/\Hid (Fr w0 L w'):=
 h.mono λ_ _ ⟨hr,ho,hb⟩=>⟨hr,aA ho,aA (H.out.next hb)⟩
def zN (w:World) (s:ByteArray) (l:List Opd) (e:Ending) (w':World):Prop:=∃v,e=.returned (.agg #[.string s,v])/\aD w' (λb=>w.heap.size<=b) v l/\Below w.heap.size w w'
theorem XG {P:Prop} (h:P:=by
  have H:=aA ((((Fr.start w).new 52 #[.int .i64 o.kind,.int .i64 o.reg,.int .i64 o.n]).new' 30 #[.string ⟨#[]⟩,.slice none 0 0] (b:=w.heap.size+1) (by rw [zW])).alloc (.cells #[.string ⟨#[65,68,68]⟩,.string ⟨#[65,68,67]⟩,.string ⟨#[83,85,66]⟩,.string ⟨#[83,66,67]⟩,.string ⟨#[65,78,68]⟩,.string ⟨#[88,79,82]⟩,.string ⟨#[79,82]⟩,.string ⟨#[67,80]⟩] 9)).drew;obtain ⟨f0,f1,f2,_,_,_⟩:=(H.out.blk 1 rfl).three;go_enter Tryz.func168,Tryz.ntmps168;go_upto_region 3 with fail;go_region_held3 (λw'=>w'.cell? ⟨w.heap.size,0,none⟩=some (.int .i64 o.kind)/\w'.cell? ⟨w.heap.size,1,none⟩=some (.int .i64 o.reg)/\w'.cell? ⟨w.heap.size,2,none⟩=some (.int .i64 o.n)) (go_keep)
   (first
    | (go_at_call 175;refine (frO H (gO _)).mono ?_;rintro e w' ⟨rfl,H⟩;obtain ⟨f0,f1,f2,_,_,_⟩:=(H.out.blk 1 rfl).three)
    | (go_at_call 167;refine (frL H 0 rfl (cC _ _ _)).mono ?_;rintro e w' ⟨va,vc,rfl,HO,H⟩;obtain ⟨f0,f1,f2,_,_,_⟩:=(H.out.blk 1 rfl).three)
    | (go_at_call 166;refine (frI H (aO _ _ _ _ _ HO.out)).mono ?_;rintro e w' ⟨rfl,HO,H⟩;obtain ⟨e0,e1,d0,d1⟩:=(H.out.blk 0 rfl).two;obtain ⟨f0,f1,f2,_,_,_⟩:=(H.out.blk 1 rfl).three))
  go_wp2;have hpo:=λx=>aW (x:=x) (y:=.slice va 2 vc) H.out.below HO.out (λk hk=>hk) (jQ _);exact yR (mM rfl rfl (((H.out.blk 0 rfl).set 0 _).set 1 _)) rfl ⟨_,rfl,(hpo _).1,(hpo _).2⟩):P:=h
theorem alu_0 (o:Opd) (w:World):Calls Tryz.prog 168 #[.int .i64 0,.agg #[.int .i64 o.kind,.int .i64 o.reg,.int .i64 o.n]] w (zN w ⟨#[65,68,68]⟩ [bV,o]):=XG
theorem alu_1 (o:Opd) (w:World):Calls Tryz.prog 168 #[.int .i64 1,.agg #[.int .i64 o.kind,.int .i64 o.reg,.int .i64 o.n]] w (zN w ⟨#[65,68,67]⟩ [bV,o]):=XG
theorem CR {P:Prop} (h:P:=by
  have H:=aA ((((Fr.start w).new 52 #[.int .i64 o.kind,.int .i64 o.reg,.int .i64 o.n]).new' 30 #[.string ⟨#[]⟩,.slice none 0 0] (b:=w.heap.size+1) (by rw [zW])).alloc (.cells #[.string ⟨#[65,68,68]⟩,.string ⟨#[65,68,67]⟩,.string ⟨#[83,85,66]⟩,.string ⟨#[83,66,67]⟩,.string ⟨#[65,78,68]⟩,.string ⟨#[88,79,82]⟩,.string ⟨#[79,82]⟩,.string ⟨#[67,80]⟩] 9));obtain ⟨f0,f1,f2,_,_,_⟩:=(H.out.blk 1 rfl).three;go_enter Tryz.func168,Tryz.ntmps168;go_wp2_with (first
   | (go_at_call 170;refine (frL H 0 rfl (fC _ _)).mono ?_;rintro e w' ⟨va,vc,rfl,HO,H⟩)
   | (go_at_call 166;refine (frI H (aO _ _ _ _ _ HO.out)).mono ?_;rintro e w' ⟨rfl,HO,H⟩;obtain ⟨e0,e1,d0,d1⟩:=(H.out.blk 0 rfl).two))
  have hpo:=λx=>aW (x:=x) (y:=.slice va 1 vc) H.out.below HO.out (λk hk=>hk) (jQ _);exact yR (mM rfl rfl (((H.out.blk 0 rfl).set 0 _).set 1 _)) rfl ⟨_,rfl,(hpo _).1,(hpo _).2⟩):P:=h
theorem alu_2 (o:Opd) (w:World):Calls Tryz.prog 168 #[.int .i64 2,.agg #[.int .i64 o.kind,.int .i64 o.reg,.int .i64 o.n]] w (zN w ⟨#[83,85,66]⟩ [o]):=CR
theorem alu_3 (o:Opd) (w:World):Calls Tryz.prog 168 #[.int .i64 3,.agg #[.int .i64 o.kind,.int .i64 o.reg,.int .i64 o.n]] w (zN w ⟨#[83,66,67]⟩ [bV,o]):=XG
theorem alu_4 (o:Opd) (w:World):Calls Tryz.prog 168 #[.int .i64 4,.agg #[.int .i64 o.kind,.int .i64 o.reg,.int .i64 o.n]] w (zN w ⟨#[65,78,68]⟩ [o]):=CR
theorem alu_5 (o:Opd) (w:World):Calls Tryz.prog 168 #[.int .i64 5,.agg #[.int .i64 o.kind,.int .i64 o.reg,.int .i64 o.n]] w (zN w ⟨#[88,79,82]⟩ [o]):=CR
theorem alu_6 (o:Opd) (w:World):Calls Tryz.prog 168 #[.int .i64 6,.agg #[.int .i64 o.kind,.int .i64 o.reg,.int .i64 o.n]] w (zN w ⟨#[79,82]⟩ [o]):=CR
theorem alu_7 (o:Opd) (w:World):Calls Tryz.prog 168 #[.int .i64 7,.agg #[.int .i64 o.kind,.int .i64 o.reg,.int .i64 o.n]] w (zN w ⟨#[67,80]⟩ [o]):=CR
theorem XP (s:ByteArray) (c:Int) (w:World) (hl:s.size<=9223372036854775807):Calls Tryz.prog 177 #[.string s,.int .u8 c] w λe w'=>e=.returned (.bool (cO s.data.toList c))/\w'=w:=by
 go_enter Tryz.func177,Tryz.ntmps177;go_wp2;go_loop [5] (λi=>∃k:Nat,k<=s.size/\i=.int .i64 k/\cO (s.data.toList.take k) c=false) (λi=>s.size - (intOf i).toNat);case atStart=>exact ⟨0,YD _,rfl,rfl⟩
 case round=>
  obtain ⟨k,hk,rfl,ht⟩:=hrel;have HT:=aA ht;clear ht;by_cases hlt:k < s.size
  ·have hts:s.data.toList.take (k+1)=s.data.toList.take k++[s[k]]:=(by rw [ZP (by simpa using hlt)];rfl);have hst:cO (s.data.toList.take (k+1)) c=(cO (s.data.toList.take k) c || ((s[k].toNat:Int)==c)):=(by unfold cO;rw [hts,List.any_append];simp);have HST:=aA hst;have hin:((s[k].toNat:Int)==c)=true->cO s.data.toList c=true:=λh=>z0H.2 ⟨s[k],by simp [ByteArray.getElem_eq_getElem_data],h⟩;have HIN:=aA hin;clear hts hst hin;cases hc:((s[k].toNat:Int)==c)
   ·go_wp2;go_round;case rel=>exact ⟨k+1,by omega,by go_num,by rw [HST.out,HT.out,hc];rfl⟩
    case measure=>simp [intOf];omega
   ·go_wp2;go_ret;exact ⟨aF (HIN.out hc).symm,rfl⟩
  ·have hk2:k=s.size:=(by omega);have hno:cO s.data.toList c=false:=(by have:=HT.out;rwa [QD (by simp;omega)] at this);have HNO:=aA hno;clear hk2 hno;go_wp2;go_ret;exact ⟨aF HNO.out.symm,rfl⟩
theorem jH (c n:Int) (w:World):Calls Tryz.prog 125 #[.int .u8 c,.int .i64 n] w λe w'=>e=.returned (.bool (cE c n))/\w'=w:=by
 by_cases h1:c=100\/c=101
 ·have HW:Hid (cE c n=(decide (-128<=n)&&decide (n<=127))):=if_pos h1;generalize cE c n=W at *;rcases h1 with rfl | rfl;all_goals cases h2:decide (-128<=n);all_goals exact tX4a
 have hw:cE c n=(if c=110 then decide (0<=n)&&decide (n<=255) else decide (0<=n)&&decide (n<=65535)):=if_neg h1;have b0:(c==100)=false:=by rw [yW];omega
 have b1:(c==101)=false:=by rw [yW];omega
 by_cases h3:c=110
 ·rw [if_pos h3] at hw;have HW:=aA hw;generalize cE c n=W at *;subst h3;clear hw h1 b0 b1;exact tX31
 ·rw [if_neg h3] at hw;have HW:=aA hw;generalize cE c n=W at *;have b2:(c==110)=false:=by rw [yW];omega
  clear hw h1 h3;exact tX31
end Go.Proofs.YtpigbggoiipmhaaGreatDoor
