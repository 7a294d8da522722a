/-
  Go's data in memory, operands, instructions, append, copies, words of a text. The canonical form: canon.Of and what it computes. Conditions: sizes.
-/
import Derived.Test.YtpigbggoiipmhaaGreatDoorBA1
import Derived.Test.YtpigbggoiipmhaaGreatDoorShelf
namespace Go.Proofs.YtpigbggoiipmhaaGreatDoor
set_option maxHeartbeats 600000
open Go.RowKit
structure Opd where
 kind:Int
 reg:Int
 n:Int
 deriving DecidableEq,Inhabited
def Opd.cells (o:Opd):List Value:=[.int .i64 o.kind,.int .i64 o.reg,.int .i64 o.n]
def aM:Rep Opd:=Rep.flat 3 Opd.cells (λ_=>rfl) (λ_ u hu=>by simp [Opd.cells] at hu;rcases hu with rfl | rfl | rfl<;>rfl)
theorem kC:aM.size=3:=rfl
theorem SlR.opd {w:World} {p:aB} {v:Value} {l:List Opd} (h:SlR aM w p v l):∃a cap,v=.slice a l.length cap/\l.length<=cap/\cap<=9223372036854775807/\
  ∀i x,l[i]?=some x->∃b o,a=some ⟨b,o,none⟩/\p b/\w.cell? ⟨b,o+i * 3,none⟩=some (.int .i64 x.kind)/\w.cell? ⟨b,o+i * 3+1,none⟩=some (.int .i64 x.reg)/\w.cell? ⟨b,o+i * 3+2,none⟩=some (.int .i64 x.n):=by
 obtain ⟨a,cap,e,h1,h2,h3⟩:=h;refine ⟨a,cap,e,h1,by simpa [maxLen] using h2,λi x hx=>?_⟩;obtain ⟨b,o,cs,ea,hb,hbs,hc,hr⟩:=h3 i x hx;have hr:cs=x.cells:=hr;subst hr;exact ⟨b,o,ea,hb,hc 0 _ rfl,hc 1 _ rfl,hc 2 _ rfl⟩
def aP (x y:Opd):Bool:=decide (x=y)
theorem fF {x y:Opd}:aP x y=true↔x=y:=by simp [aP]
theorem kF {x y:Opd}:aP x y=false↔x≠y:=by simp [aP]
theorem gD (a b c d e f:Int) (w:World):(binOp .eql 52 (.agg #[.int .i64 a,.int .i64 b,.int .i64 c]) (.agg #[.int .i64 d,.int .i64 e,.int .i64 f])).run Tryz.prog w=.ok (.bool (aP ⟨a,b,c⟩ ⟨d,e,f⟩)) w:=by
 have hS:Tryz.prog.underlying 52=some (.struct (Tryz.prog.fieldsOf 52)):=by kernel_rfl
 have hp:Tryz.prog.stoodInHeld 52=false:=by kernel_rfl
 rw [run_eql_struct,show (10000:Nat)=9999+1 from rfl,run_equalIn_agg w 9999 52 _ _ hS hp];exact tX58
theorem nW (a b c d e f:Int) (w:World):(binOp .neq 52 (.agg #[.int .i64 a,.int .i64 b,.int .i64 c]) (.agg #[.int .i64 d,.int .i64 e,.int .i64 f])).run Tryz.prog w=.ok (.bool (!aP ⟨a,b,c⟩ ⟨d,e,f⟩)) w:=by
 have hS:Tryz.prog.underlying 52=some (.struct (Tryz.prog.fieldsOf 52)):=by kernel_rfl
 have hp:Tryz.prog.stoodInHeld 52=false:=by kernel_rfl
 rw [run_neq_struct,show (10000:Nat)=9999+1 from rfl,run_equalIn_agg w 9999 52 _ _ hS hp];exact tX58
theorem iV {α:Type} {l1 l2:List α} {k:Nat} (h1:k < l1.length) (h2:k < l2.length) (ht:l1.take k=l2.take k) (he:l1[k]=l2[k]):l1.take (k+1)=l2.take (k+1):=by rw [ZP h1,ZP h2,ht,he]
def inL (l:List ByteArray) (s:ByteArray):Bool:=l.any λx=>x.toList==s.toList
theorem yM {l:List ByteArray} {s:ByteArray}:inL l s=true↔s∈l:=by
 unfold inL;rw [z0H];constructor
 ·rintro ⟨x,hx,he⟩;have e:x=s:=gA (by simpa using he);exact e ▸ hx
 ·intro h;exact ⟨s,h,by simp⟩
structure Ins where
 op:ByteArray
 args:List Opd
def fG (x y:Ins):Bool:=decide (x.op=y.op/\x.args=y.args)
theorem qS {x y:Ins} (h:(x.op.toList==y.op.toList)=true):fG x y=decide (x.args=y.args):=by have:=gA (by simpa using h);simp [fG,this]
theorem sR {x y:Ins} (h:(x.op.toList==y.op.toList)=false):fG x y=false:=by
 have:x.op≠y.op:=λe=>by simp [e] at h
 simp [fG,this]
theorem MI {x y:Ins} (h:x.args.length≠y.args.length):fG x y=false:=by have:x.args≠y.args:=λe=>h (by rw [e]);simp [fG,this]
theorem QZ {x y:Ins} (k:Nat) (h1:k < x.args.length) (h2:k < y.args.length) (h:x.args[k]≠y.args[k]):fG x y=false:=by have:x.args≠y.args:=λe=>h (by simp only [e]);simp [fG,this]
theorem nB (p q:aB) (x y:Ins) (v1 v2:Value) (w:World) (h1:SlR aM w p v1 x.args) (h2:SlR aM w q v2 y.args):
  Calls Tryz.prog 176 #[.agg #[.string x.op,v1],.agg #[.string y.op,v2]] w λe w'=>e=.returned (.bool (fG x y))/\Below w.heap.size w w':=by
 have HB:Below w.heap.size w ((w.alloc (.cells #[.string x.op,v1] 30)).alloc (.cells #[.string y.op,v2] 30)):=((zY _ _).alloc (zI _) _).alloc (by simp) _;obtain ⟨a1,c1,rfl,hc1,hm1,g1⟩:=(h1.below HB).opd;obtain ⟨a2,c2,rfl,hc2,hm2,g2⟩:=(h2.below HB).opd;have HY:Hid _:=@qS x y;have HN:Hid _:=@sR x y;have HL:Hid _:=@MI x y;have HA:Hid _:=@QZ x y;clear h1 h2;have hop:=nW;obtain ⟨s,l1⟩:=x;obtain ⟨t,l2⟩:=y;dsimp only at *;by_cases hs:(s.toList==t.toList)=true
 ·by_cases hl:l1.length=l2.length
  ·have HE:=aA hl;rw [<-hl] at hc2 HB g1 g2 ⊢;clear hl;go_enter Tryz.func176,Tryz.ntmps176;go_wp2;go_loopw [5] (λi wr=>∃k n:Nat,k<=l1.length/\i=.int .i64 k/\wr=((w.alloc (.cells #[.string s,.slice a1 l1.length c1] 30)).alloc (.cells #[.string t,.slice a2 l1.length c2] 30)).drewN n/\l1.take k=l2.take k) (λi _=>l1.length - (intOf i).toNat);case atStart=>exact ⟨0,0,YD _,rfl,rfl,rfl⟩
   case round=>
    obtain ⟨k,n,hk,rfl,rfl,ht⟩:=hrel;have HT:=aA ht;clear ht;by_cases hlt:k < l1.length
    ·have hlt2:k < l2.length:=(by have:=HE.out;omega);obtain ⟨b1,o1,rfl,_,d1,d2,d3⟩:=g1 k l1[k] (zL hlt);obtain ⟨b2,o2,rfl,_,e1,e2,e3⟩:=g2 k l2[k] (zL hlt2);clear g1 g2;have HS:=aA (iV hlt hlt2 HT.out);have HN:Hid _:=HA.out k hlt hlt2;generalize l1[k]=x at *;generalize l2[k]=y at *;by_cases hxy:aP x y=true
     ·go_wp2;exact tX59
     ·have hxy:aP x y=false:=(by simpa using hxy);go_wp2;go_quiet (fail);go_wp2;go_ret;exact ⟨aF (HN.out (kF.1 hxy)).symm,aY (aY HB _) _⟩
    ·go_wp2;go_ret;exact ⟨aF (by rw [HY.out hs];exact (z0P (by have h1:=HT.out;have h2:=HE.out;rwa [QD (by omega),QD (by omega)] at h1)).symm),aY HB _⟩
  ·go_enter Tryz.func176,Tryz.ntmps176;go_wp2;go_ret;exact ⟨aF (HL.out hl).symm,HB⟩
 ·have hs:(s.toList==t.toList)=false:=by simpa using hs
  go_enter Tryz.func176,Tryz.ntmps176;go_wp2;go_ret;exact ⟨aF (HN.out hs).symm,HB⟩
def up (c:UInt8):UInt8:=if 97<=c.toNat/\c.toNat<=122 then c - 32 else c
theorem ZU {l:List UInt8} {k:Nat} {c:UInt8} (hk:k < l.length) (HT:l.take (k+1)=l.take k++[c]) (HD:l.drop k=c::l.drop (k+1)):
  ((l.take k).map up++l.drop k).set k (up c)=(l.take (k+1)).map up++l.drop (k+1):=by
 rw [HT,HD,z2L _ _ (by simp;omega)];simp [List.length_take,Nat.min_eq_left (Nat.le_of_lt hk)]
theorem JI {l:List UInt8} {k:Nat} {c:UInt8} (hc:up c=c) (HT:l.take (k+1)=l.take k++[c]) (HD:l.drop k=c::l.drop (k+1)):
  (l.take k).map up++l.drop k=(l.take (k+1)).map up++l.drop (k+1):=by
 rw [HT,HD];simp [hc]
theorem up_yes {c:UInt8} (h1:97<=c.toNat) (h2:c.toNat<=122):((up c).toNat:Int)=(c.toNat:Int) - 97+65:=by
 have:(up c).toNat=c.toNat - 32:=by unfold up;rw [if_pos ⟨h1,h2⟩,UInt8.toNat_sub_of_le _ _ (by rw [UInt8.le_iff_toNat_le];show 32<=c.toNat;omega)];rfl
 omega
theorem up_no {c:UInt8} (h:¬(97<=c.toNat/\c.toNat<=122)):up c=c:=by unfold up;rw [if_neg h]
def dG (s:ByteArray):ByteArray:=⟨(s.data.toList.map up).toArray⟩
theorem wK (s:ByteArray) (w:World) (hs:s.size<=9223372036854775807):
  Calls Tryz.prog 57 #[.string s] w λe w'=>e=.returned (.string (dG s))/\Below w.heap.size w w':=by
 obtain ⟨cap,w0,hconv,hcap,hb,hsz,hrow⟩:=LV w s;have HSZ:=aA hsz;clear hsz;generalize hl:s.data.toList=l at *;have hlen:l.length=s.size:=by rw [<-hl];simp
 have HL:=aA hl;have HLEN:=aA hlen;clear hl hlen;go_enter Tryz.func57,Tryz.ntmps57;go_wp2;go_loopw [4,5,10] (λ_ _ i wr=>∃k:Nat,k<=s.size/\i=.int .i64 k/\gT wr w.heap.size ((l.take k).map up++l.drop k)/\Below w.heap.size w wr) (λ_ _ i _=>s.size - (intOf i).toNat);case atStart=>exact ⟨0,YD _,rfl,by simpa using hrow,hb⟩
 case round=>
  clear hconv hrow hb;obtain ⟨k,hk,rfl,hrow,hb⟩:=hrel;by_cases hlt:k < s.size
  ·have hlt':k < l.length:=(by have:=HLEN.out;omega);have hc:=hrow.cell k l[k] (by rw [z0G (by simp;omega)];simp [Nat.min_eq_left (Nat.le_of_lt hlt')]);have hf:=hrow.free k (by simp;omega);have HSET:=aA (hrow.set k (up l[k]));have HROW:=aA hrow;have HT:Hid (l.take (k+1)=l.take k++[l[k]]):=ZP hlt';have HD:Hid (l.drop k=l[k]::l.drop (k+1)):=ZX hlt';clear hrow;generalize l[k]=c at *;have hc256:c.toNat < 256:=c.toNat_lt;by_cases h1:97<=c.toNat
   ·by_cases h2:c.toNat<=122
    ·have HU:=aA (up_yes h1 h2);go_wp2;go_roundw;case rel=>exact ⟨k+1,by omega,by go_num,by rw [<-ZU hlt' HT.out HD.out,<-HU.out];exact HSET.out,hb.setCell (p:=⟨w.heap.size,k,none⟩) (zI _) _⟩
     case measure=>simp [intOf];omega
    ·go_wp2;exact tX50
   ·go_wp2;exact tX50
  ·have hk':k=s.size:=(by omega);have hfull:(l.take k).map up++l.drop k=l.map up:=(by have:=HLEN.out;rw [QD (by omega),VA (by omega)];simp);rw [hfull] at hrow;have hstr:=kR wr w.heap.size cap (l.map up) hrow;rw [z0B,HLEN.out,<-HL.out] at hstr;clear hfull hrow hk';go_wp2;go_ret;exact ⟨rfl,hb⟩
theorem lH:ElT Tryz.prog 28 52 aM.size 24:=ElT.mk' (z:=.agg #[.int .i64 0,.int .i64 0,.int .i64 0]) Tryz.underlying28 (by kernel_rfl) rfl (by decide)
theorem Own.opd {w:World} {B:Nat} {e:TypeId} {p:aB} (q:aB) {v:Value} {xs:List Opd} (ho:Own aM w B e p v xs):Own aM w B e q v xs:=Own.flat q ho
theorem kV (p:aB) (v:Value) (l:List Opd) (w:World) (h:SlR aM w p v l) (hn:l.length<=1000000):
  Calls Tryz.prog 58 #[v] w λe w'=>∃v',e=.returned v'/\Own aM w' w.heap.size 52 NoB v' l/\Below w.heap.size w w':=by
 have HN:=aA hn;clear hn;obtain ⟨a,c,rfl,hc,hm,g⟩:=h.opd;have HH:=aA h;clear h;have heq:=λwx a n c=>Lib.run_eql_slice_nil (P:=Tryz.prog) wx 28 52 a n c 0 0 Tryz.underlying28;cases a with
 | none=>
  obtain rfl:l=[]:=by
   cases l with
   | nil=>rfl
   | cons y ys=>obtain ⟨b,o,ea,_⟩:=g 0 y rfl;cases ea
  clear g;go_enter Tryz.func58,Tryz.ntmps58;go_wp2;go_ret;exact ⟨_,rfl,Own.nil _ _ _ _ _,zY _ _⟩
 | some ad=>
  clear g;go_enter Tryz.func58,Tryz.ntmps58;have HB:Below w.heap.size w (w.alloc (.cells #[] 52)):=(zY _ _).alloc (zI _) _;have HX:Hid (SlR aM (w.alloc (.cells #[] 52)) (λk=>p k/\k < w.heap.size) (.slice (some ad) l.length c) l):=HH.out.old.below HB;have HO:Hid (Own aM (w.alloc (.cells #[] 52)) w.heap.size 52 NoB (.slice (some ⟨w.heap.size,0,none⟩) 0 0) []):=Own.made w _ _;have C2:Hid (∀k,p k/\k < w.heap.size->some k≠Value.ownBlock (.slice (some ⟨w.heap.size,0,none⟩) 0 0)):=λk hk e=>by simp [Value.ownBlock] at e;omega
  have C3:Hid (([]:List Opd).length+l.length<=1000000):=by have:=HN.out;simp;omega
  go_wp2_with (at_builtin;refine dJ _ rfl (.tmp 5) (.tmp 6) 28 rfl w.heap.size 52 24 lH NoB _ _ _ [] l rfl rfl HO.out HX.out (λ_ h=>False.elim h) C2.out (by have:=C3.out;omega) (by have:=C3.out;omega) HB.size ?_;intro v' w' hap;have HAP:=aA hap;clear hap);obtain ⟨ho,hg,_⟩:=HAP.out;go_ret;exact ⟨_,rfl,ho.opd NoB,HB.grown hg HB.size (λk hk=>by cases hk;exact zI _)⟩
theorem mC (p:aB) (s:ByteArray) (v:Value) (l:List Opd) (w:World) (h:SlR aM w p v l) (hn:l.length<=1000000) (hs:s.size<=9223372036854775807):
  Calls Tryz.prog 23 #[.string s,v] w λe w'=>∃v',e=.returned (.agg #[.string (dG s),v'])/\Own aM w' w.heap.size 52 NoB v' l/\Below w.heap.size w w':=by
 have HH:=aA h;have HN:=aA hn;clear h hn;go_enter Tryz.func23,Tryz.ntmps23;go_wp2_with fail;refine (wK _ _ hs).mono ?_;rintro e w1 ⟨rfl,hb1⟩;have HB1:=aA hb1;clear hb1;go_wp2_with fail;have hl:SlR aM w1 p v l:=(HH.out.alloc _).below HB1.out;refine (kV p _ _ _ hl HN.out).mono ?_;rintro e w2 ⟨v',rfl,ho,hb2⟩;have hk:Blk w2 w.heap.size 30 #[.string ⟨#[]⟩,.slice none 0 0]:=((Blk.new w _ _).below HB1.out (by simp)).below hb2 (by have:=HB1.out.size;simp at this;omega);obtain ⟨c0,c1,f0,f1⟩:=hk.two;obtain ⟨a',cap',rfl⟩:=ho.form;have HK:=aA ((hk.set 0 (.string (dG s))).set 1 (.slice a' l.length cap'));have HO:=aA ho;have HB2:=aA hb2;clear ho hb2 hk hl;go_wp2;refine yR (results_cell_row rfl _ _ w.heap.size 30 #[.string (dG s),.slice a' l.length cap'] (0,0) _ rfl HK.out Tryz.underlying30 rfl (by kernel_rfl)) rfl ⟨_,rfl,?_,?_⟩
 ·have hsz:=HB1.out.size;simp at hsz;refine (HO.out.keep λk hk=>?_).base (by omega);have hk':w1.heap.size<=k:=hk.elim (λh=>False.elim h) (λh=>(HO.out.lt k h).1);exact tX7c
 ·exact (((zY _ w).alloc (zI _) _).trans ((HB1.out.mono (by simp)).trans (HB2.out.mono (by have:=HB1.out.size;simp at this;omega)))).setCell (zI _) _ |>.setCell (zI _) _
def Spc (w:World):Prop:=Lib.TabIs Tryz.prog w "strings.asciiSpace" .u8 Lib.asciiSpaceTab
theorem Spc.below {w w':World} (h:Spc w) (hb:Below w.heap.size w w'):Spc w':=by
 have hg:Tryz.prog.globalNamed "strings.asciiSpace" =some 1:=by kernel_rfl
 exact var?_below hb hg (QI w _ (h.cell hg 0 (by rw [Lib.asciiSpaceTab_length];decide))) h
def fL (c:ByteArray):List ByteArray:=(Lib.fields c.data.toList).map λl=>⟨l.toArray⟩
end Go.Proofs.YtpigbggoiipmhaaGreatDoor
namespace Go.Proofs.YtpigbggoiipmhaaGreatDoor
open Go.RowKit Go.Sort
def aD (w:World) (q:aB) (v:Value) (l:List Opd):Prop:=
 ∃a cap,v=.slice a l.length cap/\l.length<=cap/\cap<=9223372036854775807/\
  ∀i x,l[i]?=some x->∃b o,a=some ⟨b,o,none⟩/\q b/\b < w.heap.size/\w.cell? ⟨b,o+i * 3,none⟩=some (.int .i64 x.kind)/\w.cell? ⟨b,o+i * 3+1,none⟩=some (.int .i64 x.reg)/\w.cell? ⟨b,o+i * 3+2,none⟩=some (.int .i64 x.n)/\
   ∀j,w.frozen? ⟨b,j,none⟩=false
theorem aD.keep {w w':World} {q:aB} {v:Value} {l:List Opd} (h:aD w q v l) (hk:aS q w w'):aD w' q v l:=by obtain ⟨a,cap,e,h1,h2,h3⟩:=h;refine ⟨a,cap,e,h1,h2,λi x hx=>?_⟩;obtain ⟨b,o,ea,hq,hb,c0,c1,c2,f2⟩:=h3 i x hx;have hh:=hk b hq;have hc:∀j,w'.cell? ⟨b,j,none⟩=w.cell? ⟨b,j,none⟩:=λj=>z0E (w:=w) hh;exact ⟨b,o,ea,hq,GS hb hh,(hc _).trans c0,(hc _).trans c1,(hc _).trans c2,λj=>(World.frozen?_of_block (w:=w) (a:=⟨b,j,none⟩) hh).trans (f2 j)⟩
theorem aD.below {w w':World} {q:aB} {v:Value} {l:List Opd} (h:aD w q v l) (hb:Below w.heap.size w w'):aD w' q v l:=by obtain ⟨a,cap,e,h1,h2,h3⟩:=h;refine ⟨a,cap,e,h1,h2,λi x hx=>?_⟩;obtain ⟨b,o,ea,hq,hbs,c0,c1,c2,f2⟩:=h3 i x hx;have hc:∀j,w'.cell? ⟨b,j,none⟩=w.cell? ⟨b,j,none⟩:=λj=>hb.cell (p:=⟨b,j,none⟩) hbs;exact ⟨b,o,ea,hq,vB hbs hb.size,(hc _).trans c0,(hc _).trans c1,(hc _).trans c2,λj=>(hb.frozen (p:=⟨b,j,none⟩) hbs).trans (f2 j)⟩
theorem aD.mono {w:World} {q r:aB} {v:Value} {l:List Opd} (h:aD w q v l) (hq:∀k,q k->r k):aD w r v l:=by obtain ⟨a,cap,e,h1,h2,h3⟩:=h;refine ⟨a,cap,e,h1,h2,λi x hx=>?_⟩;obtain ⟨b,o,ea,hb,r⟩:=h3 i x hx;exact ⟨b,o,ea,hq _ hb,r⟩
theorem aD.slR {w:World} {q:aB} {v:Value} {l:List Opd} (h:aD w q v l):SlR aM w q v l:=by
 obtain ⟨a,cap,e,h1,h2,h3⟩:=h;refine ⟨a,cap,e,h1,by simpa [maxLen] using h2,λi x hx=>?_⟩;obtain ⟨b,o,ea,hq,hb,c0,c1,c2,f2⟩:=h3 i x hx;refine ⟨b,o,x.cells,ea,hq,hb,λj u hu=>?_,rfl⟩
 match j,hu with
 | 0,hu=>simp [Opd.cells] at hu;subst hu;exact c0
 | 1,hu=>simp [Opd.cells] at hu;subst hu;exact c1
 | 2,hu=>simp [Opd.cells] at hu;subst hu;exact c2
theorem Own.opdOwn {w:World} {B:Nat} {e:TypeId} {p q:aB} {v:Value} {l:List Opd} (h:Own aM w B e p v l) (hq:∀k,v.ownBlock=some k->q k):aD w q v l:=by
 have hs:=h.slR (q:=λk=>p k\/B<=k) (λk hk=>.inl hk) (λk hk=>.inr hk);obtain ⟨cs,hrow,hels⟩:=h;obtain ⟨a,cap,rfl,h1,h2,h3⟩:=hs.opd;refine ⟨a,cap,rfl,h1,h2,λi x hx=>?_⟩;obtain ⟨b,o,ea,hb,c0,c1,c2⟩:=h3 i x hx;subst ea;refine ⟨b,o,rfl,hq b rfl,QI w _ c0,c0,c1,c2,?_⟩;rcases hrow.2 with ⟨hv,_⟩ | ⟨g,cap',cur,hv,hbg,hg,_⟩
 ·cases hv
 ·injection hv with hv;injection hv with hv;injection hv with hv1;subst hv1;exact λj=>frozen_of_row w b j cur e hg
structure Wr (w0 w:World) (bw:Nat) (s:ByteArray) (v:Value) (l:List Opd):Prop where
 blk:Blk w bw 163 #[.string s,v]
 own:aD w (λb=>w0.heap.size<=b/\b≠bw) v l
 old:w0.heap.size<=bw
 below:Below w0.heap.size w0 w
 spc0:Spc w0
theorem Wr.set {w0 w:World} {bw:Nat} {s:ByteArray} {v v':Value} {l l':List Opd} (h:Wr w0 w bw s v l) (ho:aD w (λb=>w0.heap.size<=b/\b≠bw) v' l'):Wr w0 (w.setCell ⟨bw,1,none⟩ v') bw s v' l':=⟨h.blk.set 1 v',ho.keep λ_ hk=>xV _ _ _ _ hk.2,h.old,h.below.setCell h.old _,h.spc0⟩
theorem gZ {w:World} {q:aB} (l:List Opd) (cs:Array Value) (t:TypeId) (b n:Nat) (hb:b=w.heap.size) (hn:n=l.length) (hcs:cs.toList=l.flatMap Opd.cells) (hq:q b) (hl:l.length<=1000000):aD (w.alloc (.cells cs t)) q (.slice (some ⟨b,0,none⟩) n n) l:=by
 subst hb hn;have hels:∀(l:List Opd) (p:aB) (w:World),Els aM w p (l.flatMap Opd.cells) l:=by
  intro l p w;induction l with
  | nil=>rfl
  | cons x l ih=>exact ⟨x.cells,l.flatMap Opd.cells,rfl,rfl,ih⟩
 have hlen:cs.size=l.length * 3:=by have:=(hels l (λ_=>True) w).len;rw [<-hcs] at this;simpa [kC] using this
 have ho:Own aM (w.alloc (.cells cs t)) w.heap.size t (λ_=>True) (.slice (some ⟨w.heap.size,0,none⟩) l.length l.length) l:=⟨cs.toList,⟨by rw [kC];simpa using hlen,.inr ⟨w.heap.size,l.length,cs,rfl,zI _,heap_alloc_new w _,zI _,by unfold maxLen;omega,by rw [kC];exact hlen,QD (by rw [kC,<-hlen,Array.length_toList];exact zI _)⟩⟩,by rw [hcs];exact hels l _ _⟩;exact ho.opdOwn (λk hk=>by cases hk;exact hq)
theorem Wr.later {w0 w w':World} {bw:Nat} {s:ByteArray} {v:Value} {l:List Opd} (h:Wr w0 w bw s v l) (hb:Below w.heap.size w w'):Wr w0 w' bw s v l:=⟨h.blk.below hb h.blk.lt,h.own.below hb,h.old,h.below.trans (hb.mono h.below.size),h.spc0⟩
end Go.Proofs.YtpigbggoiipmhaaGreatDoor
namespace Go.Proofs.YtpigbggoiipmhaaGreatDoor
open Go.RowKit
end Go.Proofs.YtpigbggoiipmhaaGreatDoor
namespace Go.Proofs.YtpigbggoiipmhaaGreatDoor
open Go.RowKit Go.Sort
theorem Wr.drewN {w0 w:World} {bw:Nat} {s:ByteArray} {v:Value} {l:List Opd} (h:Wr w0 w bw s v l) (n:Nat):Wr w0 (w.drewN n) bw s v l:=h.later ⟨rfl,rfl,rfl,zI _,λ_ _=>rfl⟩
theorem Wr.drew {w0 w:World} {bw:Nat} {s:ByteArray} {v:Value} {l:List Opd} (h:Wr w0 w bw s v l):Wr w0 w.drew bw s v l:=h.later ⟨rfl,rfl,rfl,zI _,λ_ _=>rfl⟩
theorem Wr.alloc {w0 w:World} {bw:Nat} {s:ByteArray} {v:Value} {l:List Opd} (h:Wr w0 w bw s v l) (o:Obj):Wr w0 (w.alloc o) bw s v l:=h.later ((zY _ _).alloc (zI _) o)
end Go.Proofs.YtpigbggoiipmhaaGreatDoor
namespace Go.Proofs.YtpigbggoiipmhaaGreatDoor
open Go.RowKit
theorem dK (l:List UInt8):(⟨l.toArray⟩:ByteArray).toList=l:=by rw [Go.ByteArray.toList_eq]
theorem aD.setN {w:World} {q:aB} {b o n c:Nat} {l:List Opd} {k:Nat} {x:Opd} {m:Int} (h:aD w q (.slice (some ⟨b,o,none⟩) n c) l) (hx:l[k]?=some x):aD (w.setCell ⟨b,o+k * 3+2,none⟩ (.int .i64 m)) q (.slice (some ⟨b,o,none⟩) n c) (l.set k {x with n:=m}):=by
 obtain ⟨a,cap,e,h1,h2,h3⟩:=h;injection e with e1 e2 e3;subst e1 e3;refine ⟨_,c,by rw [QQ,e2],by rw [QQ];exact h1,h2,λi z hz=>?_⟩;have hk:=(ZV.1 hx).1;have hi:i < l.length:=by have:=(ZV.1 hz).1;simpa using this
 obtain ⟨b',o',eb,hq,hb,c0,c1,c2,f⟩:=h3 i l[i] (zL hi);injection eb with eb;injection eb with eb1 eb2;subst eb1 eb2;have far:∀j v,j≠o+k * 3+2->w.cell? ⟨b,j,none⟩=some v->(w.setCell ⟨b,o+k * 3+2,none⟩ (.int .i64 m)).cell? ⟨b,j,none⟩=some v:=λj v hj hv=>by rw [z0D _ _ _ _ (by simp)];exact hv
 refine ⟨b,o,rfl,hq,by simpa [World.setCell] using hb,?_,?_,?_,λj=>(World.frozen?_setCell _ _ _ _).trans (f j)⟩
 ·by_cases hik:k=i
  ·subst hik;exact tX33
  ·rw [z0F hik,zL hi] at hz;obtain rfl:=ZS hz;exact far _ _ (by omega) c0
 ·by_cases hik:k=i
  ·subst hik;exact tX34
  ·rw [z0F hik,zL hi] at hz;obtain rfl:=ZS hz;exact far _ _ (by omega) c1
 ·by_cases hik:k=i
  ·subst hik;rw [z0M hk] at hz;obtain rfl:=ZS hz;exact z1B _ _ _ (by rw [c2];rfl)
  ·rw [z0F hik,zL hi] at hz;obtain rfl:=ZS hz;exact far _ _ (by omega) c2
theorem Wr.setN {w0 w:World} {bw b o n c k:Nat} {s:ByteArray} {l:List Opd} {x:Opd} {m:Int} (h:Wr w0 w bw s (.slice (some ⟨b,o,none⟩) n c) l) (hx:l[k]?=some x) (hq:w0.heap.size<=b/\b≠bw):
  Wr w0 (w.setCell ⟨b,o+k * 3+2,none⟩ (.int .i64 m)) bw s (.slice (some ⟨b,o,none⟩) n c) (l.set k {x with n:=m}):=
 ⟨h.blk.far (Ne.symm hq.2) _,h.own.setN hx,h.old,h.below.setCell hq.1 _,h.spc0⟩
def cN (n:Int):Prop:=-9223372036854775808<=n/\n<=9223372036854775807
end Go.Proofs.YtpigbggoiipmhaaGreatDoor
