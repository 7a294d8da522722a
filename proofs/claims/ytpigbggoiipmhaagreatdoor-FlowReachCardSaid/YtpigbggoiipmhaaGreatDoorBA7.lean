/-
  operand.Valid, the mnemonics, the two Checks. Marks, numbers and shapes of instructions, the program's and the references'. Conditions: sizes.
-/
import Derived.Test.YtpigbggoiipmhaaGreatDoorBA6
import Derived.Maps.Own
import Derived.Maps.Views
import Derived.Lib.Join
namespace Go.Proofs.YtpigbggoiipmhaaGreatDoor
set_option maxHeartbeats 2000000
set_option maxRecDepth 100000
open Go.RowKit
theorem of_no (o:Opd) (h:aZ o=false) (w:World):Calls Tryz.prog 151 #[.agg #[.int .i64 o.kind,.int .i64 o.reg,.int .i64 o.n]] w λe w'=>e=.returned (.tuple #[gU,.string ⟨#[]⟩,.bool false])/\Below w.heap.size w w':=by
 obtain ⟨k,r,n⟩:=o;dsimp only;cases hk:cR k
 ·exact KK k r n hk w
 cases h0:decide (r < 0);rotate_left
 ·exact of_neg k r n hk h0 w
 cases h9:decide (9<=r);rotate_left
 ·exact of_big k r n hk h0 h9 w
 have h0':=z0R h0;have h9':=z0R h9;obtain ⟨m,rfl⟩:=z1N (Int.not_lt.1 h0');have hm:m < 9:=by omega
 cases hn:(((aG k).nm m).toList==[])
 ·cases hf:bG (aG k).lo (aG k).hi n
  ·exact WU k n m hm hk hn hf w
  ·exfalso;simp only [aZ,Int.toNat_natCast,hk,hn,hf,decide_eq_true (Int.natCast_nonneg m),decide_eq_true (show (m:Int) < 9 by omega)] at h;exact absurd h (by decide)
 ·exact WP k n m hm hk hn w
theorem GA (o:Opd) (h:aZ o=true) (w:World):Calls Tryz.prog 151 #[.agg #[.int .i64 o.kind,.int .i64 o.reg,.int .i64 o.n]] w λe w'=>e=.returned (.tuple #[(aG o.kind).val,.string ((aG o.kind).nm o.reg.toNat),.bool true])/\Below w.heap.size w w':=by obtain ⟨k,r,n⟩:=o;simp only [aZ,Bool.and_eq_true,decide_eq_true_eq,Bool.not_eq_true'] at h;obtain ⟨⟨⟨⟨hk,h0⟩,h9⟩,hn⟩,hf⟩:=h;dsimp only at *;obtain ⟨m,rfl⟩:=z1N h0;rw [z0X] at hn ⊢;exact of_ok k n m (by omega) hk hn hf w
theorem wH (o:Opd) (w:World):Calls Tryz.prog 196 #[.agg #[.int .i64 o.kind,.int .i64 o.reg,.int .i64 o.n]] w λe w'=>e=.returned (.bool (aZ o))/\Below w.heap.size w w':=by
 have HB0:Hid (Below w.heap.size w (w.alloc (.cells #[.int .i64 o.kind,.int .i64 o.reg,.int .i64 o.n] 52))):=(zY _ _).alloc (zI _) _;cases h:aZ o
 ·have HO:=aA (of_no o h (w.alloc (.cells #[.int .i64 o.kind,.int .i64 o.reg,.int .i64 o.n] 52)));simp only [gU] at HO;exact tX24
 ·have HO:=aA (GA o h (w.alloc (.cells #[.int .i64 o.kind,.int .i64 o.reg,.int .i64 o.n] 52)));simp only [fP.val] at HO;exact tX24
theorem eZ (k:Int):(dM k).length<=9:=by
 unfold dM
 repeat' (first | (split) | (simp))
theorem PJ (r n:Int):aZ ⟨1,r,n⟩=aC ⟨1,r,n⟩:=by
 rw [z0C];by_cases h0:r < 0
 ·have h:¬(0<=r):=by omega
  simp [aZ,aC,aQ,dZ,h0,h]
 by_cases h9:9<=r
 ·have h:¬(r < 9):=by omega
  have hl:(dM 1)[r.toNat]?=none:=by have:=eZ 1;simp;omega
  simp [aZ,aC,aQ,dZ,h0,h,hl]
 exact tX2c
theorem PO (r n:Int):aZ ⟨2,r,n⟩=aC ⟨2,r,n⟩:=by
 rw [z0C];by_cases h0:r < 0
 ·have h:¬(0<=r):=by omega
  simp [aZ,aC,aQ,dZ,h0,h]
 by_cases h9:9<=r
 ·have h:¬(r < 9):=by omega
  have hl:(dM 2)[r.toNat]?=none:=by have:=eZ 2;simp;omega
  simp [aZ,aC,aQ,dZ,h0,h,hl]
 exact tX2c
theorem ND (r n:Int):aZ ⟨3,r,n⟩=aC ⟨3,r,n⟩:=by
 rw [z0C];by_cases h0:r < 0
 ·have h:¬(0<=r):=by omega
  simp [aZ,aC,aQ,dZ,h0,h]
 by_cases h9:9<=r
 ·have h:¬(r < 9):=by omega
  have hl:(dM 3)[r.toNat]?=none:=by have:=eZ 3;simp;omega
  simp [aZ,aC,aQ,dZ,h0,h,hl]
 exact tX2c
theorem LR (r n:Int):aZ ⟨4,r,n⟩=aC ⟨4,r,n⟩:=by
 rw [z0C];by_cases h0:r < 0
 ·have h:¬(0<=r):=by omega
  simp [aZ,aC,aQ,dZ,h0,h]
 by_cases h9:9<=r
 ·have h:¬(r < 9):=by omega
  have hl:(dM 4)[r.toNat]?=none:=by have:=eZ 4;simp;omega
  simp [aZ,aC,aQ,dZ,h0,h,hl]
 exact tX2c
theorem PF (r n:Int):aZ ⟨5,r,n⟩=aC ⟨5,r,n⟩:=by
 rw [z0C];by_cases h0:r < 0
 ·have h:¬(0<=r):=by omega
  simp [aZ,aC,aQ,dZ,h0,h]
 by_cases h9:9<=r
 ·have h:¬(r < 9):=by omega
  have hl:(dM 5)[r.toNat]?=none:=by have:=eZ 5;simp;omega
  simp [aZ,aC,aQ,dZ,h0,h,hl]
 exact tX2c
theorem QG {P:Prop} (h:P:=by
  rw [z0C];by_cases h0:r < 0
  ·have h:¬(0<=r):=(by omega);have h':¬(r=0):=(by omega);simp [aZ,aC,h,h']
  by_cases h9:9<=r
  ·have h:¬(r < 9):=(by omega);have h':¬(r=0):=(by omega);simp [aZ,aC,h,h']
  have hr:r=0\/r=1\/r=2\/r=3\/r=4\/r=5\/r=6\/r=7\/r=8:=by omega
  clear h0 h9;rcases hr with rfl | rfl | rfl | rfl | rfl | rfl | rfl | rfl | rfl;all_goals simp [aZ,aC,cR,aG,fP.nm,bG]
  all_goals omega):P:=h
theorem PC (r n:Int):aZ ⟨6,r,n⟩=aC ⟨6,r,n⟩:=QG
theorem MN (r n:Int):aZ ⟨7,r,n⟩=aC ⟨7,r,n⟩:=QG
theorem LK (r n:Int):aZ ⟨8,r,n⟩=aC ⟨8,r,n⟩:=by
 rw [z0C];by_cases h0:r < 0
 ·have h:¬(0<=r):=by omega
  simp [aZ,aC,aQ,dZ,h0,h]
 by_cases h9:9<=r
 ·have h:¬(r < 9):=by omega
  have hl:(dM 8)[r.toNat]?=none:=by have:=eZ 8;simp;omega
  simp [aZ,aC,aQ,dZ,h0,h,hl]
 exact tX2c
theorem NA (r n:Int):aZ ⟨9,r,n⟩=aC ⟨9,r,n⟩:=by
 rw [z0C];by_cases h0:r < 0
 ·have h:¬(0<=r):=by omega
  simp [aZ,aC,aQ,dZ,h0,h]
 by_cases h9:9<=r
 ·have h:¬(r < 9):=by omega
  have hl:(dM 9)[r.toNat]?=none:=by have:=eZ 9;simp;omega
  simp [aZ,aC,aQ,dZ,h0,h,hl]
 exact tX2c
theorem FK (r n:Int):aZ ⟨10,r,n⟩=aC ⟨10,r,n⟩:=QG
theorem iL (o:Opd):aZ o=aC o:=by
 obtain ⟨k,r,n⟩:=o;by_cases h1:k=1
 ·subst h1;exact PJ r n
 by_cases h2:k=2
 ·subst h2;exact PO r n
 by_cases h3:k=3
 ·subst h3;exact ND r n
 by_cases h4:k=4
 ·subst h4;exact LR r n
 by_cases h5:k=5
 ·subst h5;exact PF r n
 by_cases h6:k=6
 ·subst h6;exact PC r n
 by_cases h7:k=7
 ·subst h7;exact MN r n
 by_cases h8:k=8
 ·subst h8;exact LK r n
 by_cases h9:k=9
 ·subst h9;exact NA r n
 by_cases h10:k=10
 ·subst h10;exact FK r n
 simp [aZ,aC,cR,h1,h2,h3,h4,h5,h6,h7,h8,h9,h10]
def gR:List ByteArray:=[⟨#[65,68,67]⟩,⟨#[65,68,68]⟩,⟨#[65,78,68]⟩,⟨#[66,73,84]⟩,⟨#[67,65,76,76]⟩,⟨#[67,67,70]⟩,⟨#[67,80]⟩,⟨#[67,80,68]⟩,⟨#[67,80,68,82]⟩,⟨#[67,80,73]⟩,⟨#[67,80,73,82]⟩,⟨#[67,80,76]⟩,⟨#[68,65,65]⟩,⟨#[68,69,67]⟩,⟨#[68,73]⟩,⟨#[68,74,78,90]⟩,⟨#[69,73]⟩,⟨#[69,88]⟩,⟨#[69,88,88]⟩,⟨#[72,65,76,84]⟩,⟨#[73,77]⟩,⟨#[73,78]⟩,⟨#[73,78,67]⟩,⟨#[73,78,68]⟩,⟨#[73,78,68,82]⟩,⟨#[73,78,73]⟩,⟨#[73,78,73,82]⟩,⟨#[74,80]⟩,⟨#[74,82]⟩,⟨#[76,68]⟩,⟨#[76,68,68]⟩,⟨#[76,68,68,82]⟩,⟨#[76,68,73]⟩,⟨#[76,68,73,82]⟩,⟨#[78,69,71]⟩,⟨#[78,79,80]⟩,⟨#[79,82]⟩,⟨#[79,84,68,82]⟩,⟨#[79,84,73,82]⟩,⟨#[79,85,84]⟩,⟨#[79,85,84,68]⟩,⟨#[79,85,84,73]⟩,⟨#[80,79,80]⟩,⟨#[80,85,83,72]⟩,⟨#[82,69,83]⟩,⟨#[82,69,84]⟩,⟨#[82,69,84,73]⟩,⟨#[82,69,84,78]⟩,⟨#[82,76]⟩,⟨#[82,76,65]⟩,⟨#[82,76,67]⟩,⟨#[82,76,67,65]⟩,⟨#[82,76,68]⟩,⟨#[82,82]⟩,⟨#[82,82,65]⟩,⟨#[82,82,67]⟩,⟨#[82,82,67,65]⟩,⟨#[82,82,68]⟩,⟨#[82,83,84]⟩,⟨#[83,66,67]⟩,⟨#[83,67,70]⟩,⟨#[83,69,84]⟩,⟨#[83,76,65]⟩,⟨#[83,76,76]⟩,⟨#[83,82,65]⟩,⟨#[83,82,76]⟩,⟨#[83,85,66]⟩,⟨#[88,79,82]⟩]
def bH (x:Ins):Int:=if !inL gR x.op then 12 else if 3 < x.args.length then 11 else if x.args.all aC then 0 else 2
def kU:ByteArray:=⟨#[65,68,67,32,65,68,68,32,65,78,68,32,66,73,84,32,67,65,76,76,32,67,67,70,32,67,80,32,67,80,68,32,67,80,68,82,32,67,80,73,32,67,80,73,82,32,67,80,76,32,68,65,65,32,68,69,67,32,68,73,32,68,74,78,90,32,69,73,32,69,88,32,69,88,88,32,72,65,76,84,32,73,77,32,73,78,32,73,78,67,32,73,78,68,32,73,78,68,82,32,73,78,73,32,73,78,73,82,32,74,80,32,74,82,32,76,68,32,76,68,68,32,76,68,68,82,32,76,68,73,32,76,68,73,82,32,78,69,71,32,78,79,80,32,79,82,32,79,84,68,82,32,79,84,73,82,32,79,85,84,32,79,85,84,68,32,79,85,84,73,32,80,79,80,32,80,85,83,72,32,82,69,83,32,82,69,84,32,82,69,84,73,32,82,69,84,78,32,82,76,32,82,76,65,32,82,76,67,32,82,76,67,65,32,82,76,68,32,82,82,32,82,82,65,32,82,82,67,32,82,82,67,65,32,82,82,68,32,82,83,84,32,83,66,67,32,83,67,70,32,83,69,84,32,83,76,65,32,83,76,76,32,83,82,65,32,83,82,76,32,83,85,66,32,88,79,82]⟩
theorem lV:fL kU=gR:=by decide+kernel
theorem vF:∀(j:Nat) b,kU.data.toList[j]?=some b->b.toNat < 128:=λ_ b h=>(show ∀b∈kU.data.toList,b.toNat < 128 by decide+kernel) b (VM h)
theorem FO (w:World) (hT:Spc w):Calls Tryz.prog 205 #[.string kU] w λe w'=>∃v,e=.returned v/\SlR eN w' (λb=>w.heap.size<=b) v gR/\Below w.heap.size w w':=by
 have hf:=Tryz.strings_Fields kU w (by decide+kernel) vF hT;have hlen:(Lib.fields kU.data.toList).length=gR.length:=by rw [<-lV];simp [fL]
 have hcells:((Lib.fields kU.data.toList).map λl=>Value.string ⟨l.toArray⟩)=gR.map Value.string:=by rw [<-lV];simp [fL]
 rw [hlen,hcells] at hf;refine hf.mono ?_;rintro e w' ⟨rfl,rfl⟩;exact ⟨_,rfl,kB w 9 _ gR _ rfl (zI _) (by decide),(zY _ _).alloc (zI _) _⟩
theorem YT (w:World) (hT:Spc w):Calls Tryz.prog 227 #[] w λe w'=>∃v,e=.returned v/\SlR eN w' (λb=>w.heap.size<=b) v gR/\Below w.heap.size w w':=by have HF:=aA (FO w hT);go_enter Tryz.func227,Tryz.ntmps227;go_wp2_with fail;refine HF.out.mono ?_;rintro e w1 ⟨v,rfl,hs,hb⟩;go_wp2;go_ret;exact ⟨_,rfl,hs,hb⟩
open Go.Maps in
theorem set_any (w:World) (hT:Spc w):Calls Tryz.prog 193 #[] w λe w'=>e=.returned (.map (some w.heap.size))/\
  (∃D:DataW Unit,w'.ownsMap Tryz.prog 9 (plainElem Tryz.prog 4) w.heap.size gR.length D/\∀s:ByteArray,D.atKey (.string s.data.toList) (.lit (.bool false))=.lit (.bool (inL gR s)))/\Below w.heap.size w w':=by
 have hmm:=@run_makeMap Tryz.prog;have ho:=YT (w.alloc (.map #[] 0)) (hT.below ((zY _ _).alloc (zI _) _));have hsz:∀s∈gR,s.size<=maxLen:=by decide+kernel
 have hln:gR.length < maxLen:=by decide
 obtain ⟨l,hl⟩:∃l,l=gR:=⟨_,rfl⟩;rw [<-hl] at ho hsz hln ⊢;clear hl hT;have HO:=aA ho;have HSZ:=aA hsz;have HLN:=aA hln;clear ho hsz hln;go_enter Tryz.func193,Tryz.ntmps193;go_wp2_with fail;refine HO.out.mono ?_;rintro e w1 ⟨v,rfl,hs,hb⟩;have hown0:w1.ownsMap Tryz.prog 9 (plainElem (H:=Unit) Tryz.prog 4) w.heap.size 0 (.map []):=(World.ownsMap_made w Tryz.prog _ _).kept (row:=none) ⟨hb.os,hb.tape,hb.output,hb.size,λk hk _=>hb.block k hk⟩ (by simp);have hbw:Below w.heap.size w w1:=((zY _ _).alloc (zI _) _).trans (hb.mono (by simp));have hs1:SlR eN w1 (λb=>w.heap.size < b) v l:=hs.mono λk hk=>by simp at hk;omega
 obtain ⟨a,c,rfl,_⟩:=hs.str;have HOWN:=aA hown0;have HBW:=aA hbw;have HS1:=aA hs1;clear hown0 hbw hs1 hs hb HO;go_wp2;go_loopw [7] (λi wr=>∃k:Nat,k<=l.length/\i=.int .i64 k/\(∃D:DataW Unit,wr.ownsMap Tryz.prog 9 (plainElem Tryz.prog 4) w.heap.size k D/\IsMap D/\∀s:ByteArray,D.atKey (.string s.data.toList) (.lit (.bool false))=.lit (.bool (inL (l.take k) s)))/\SlR eN wr (λb=>w.heap.size < b) (.slice a l.length c) l/\Below w.heap.size w wr) (λi _=>l.length - (intOf i).toNat);case atStart=>exact ⟨0,YD _,rfl,⟨_,HOWN.out,⟨[],rfl⟩,λs=>rfl⟩,HS1.out,HBW.out⟩
 case round=>
  obtain ⟨k,hk,rfl,⟨D,hown,hm,hD⟩,hs,hb⟩:=hrel;have HS:=aA hs;have HB:=aA hb;have HM:=aA hm;have HD:=aA hD;obtain ⟨a2,c2,hv,_,_,g1⟩:=hs.str;obtain ⟨rfl,_,rfl⟩:a=a2/\l.length=l.length/\c=c2:=by injection hv with h1 h2 h3;exact ⟨h1,h2,h3⟩
  clear hs hb hm hD hv;by_cases hlt:k < l.length
  ·obtain ⟨b1,o1,rfl,_,d1⟩:=g1 k l[k] (zL hlt);clear g1;have HT:=aA (List.take_append_getElem hlt);have hkey:keyOf Tryz.prog 9 (.string l[k])=some (.string l[k].data.toList):=Go.WideMaps.keyOf_string_mk Tryz.underlying9 (HSZ.out _ (z0J _));generalize l[k]=x at *;go_wp2_with (at_mapUpdate;refine wpList_mapUpdate_own _ rfl _ _ _ 254 rfl 9 4 (string_keyed Tryz.underlying9) Tryz.underlying254 (plainElem (H:=Unit) Tryz.prog 4) w.heap.size k _ rfl hown (by have:=HLN.out;omega) _ _ _ rfl rfl hkey _ [] (plainElem_bool Tryz.underlying4 true) ?_;intro w3 hown3 hgrow3;have HOWN3:=aA hown3;have HG3:=aA hgrow3;clear hown3 hgrow3 hown hkey);go_roundw;case rel=>
    refine ⟨k+1,by omega,by go_num,⟨_,HOWN3.out,?_,λs=>?_⟩,?_,HB.out.grown HG3.out HB.out.size (λj hj=>by cases hj;exact zI _)⟩
    ·obtain ⟨es,rfl⟩:=HM.out;exact ⟨_,rfl⟩
    ·rw [<-HT.out];by_cases hs:s=x
     ·subst hs;rw [atKey_put_same HM.out (show WideAt.IsKeyLit (.string s.data.toList) from trivial)];simp [inL]
     ·rw [atKey_put_other (λe=>hs (by cases s;cases x;simp at e;simp [e])),HD.out];have hn:(x.toList==s.toList)=false:=by
       cases hh:(x.toList==s.toList)
       ·rfl
       ·exact absurd (gA (eq_of_beq hh)).symm hs
      simp [inL,hn]
    ·exact HS.out.old.keep (aS.grown HG3.out (λk hk=>⟨hk.2,λe=>by cases e;exact Nat.lt_irrefl _ hk.1⟩)) |>.mono (λk hk=>hk.1)
   case measure=>simp [intOf];omega
  ·clear g1;have hkl:k=l.length:=(by omega);go_wp2;go_ret;subst hkl;exact ⟨rfl,⟨D,hown,λs=>by rw [HD.out,z0L]⟩,HB.out⟩
theorem FL (o:Opd) (w:World):Calls Tryz.prog 195 #[.agg #[.int .i64 o.kind,.int .i64 o.reg,.int .i64 o.n]] w λe w'=>e=.returned (.bool (!aC o))/\Below w.heap.size w w':=by have HB0:Hid (Below w.heap.size w (w.alloc (.cells #[.int .i64 o.kind,.int .i64 o.reg,.int .i64 o.n] 52))):=(zY _ _).alloc (zI _) _;have HV:=aA (wH o (w.alloc (.cells #[.int .i64 o.kind,.int .i64 o.reg,.int .i64 o.n] 52)));rw [<-iL];go_enter Tryz.func195,Tryz.ntmps195;go_wp2_with (go_at_call 196;refine HV.out.mono ?_;rintro e w1 ⟨rfl,hb⟩;have HB:=aA (HB0.out.trans (hb.mono HB0.out.size));clear hb);go_ret;exact ⟨rfl,HB.out⟩
theorem PP (p:aB) (v:Value) (l:List Opd) (w:World) (h:SlR aM w p v l):
  Calls Tryz.prog 135 #[v,.func (.func 195) #[] #[]] w λe w'=>(∃r:Int,e=.returned (.int .i64 r)/\decide (0<=r)=!l.all aC)/\Below w.heap.size w w':=by
 obtain ⟨a,c,rfl,_⟩:=h.opd;have H:=aA h;clear h;go_enter Tryz.func135,Tryz.ntmps135;go_wp2;go_loopw [8] (λi wx=>∃k:Nat,k<=l.length/\i=.int .i64 k/\l.all aC=(l.drop k).all aC/\Below w.heap.size w wx) (λi _=>l.length - (intOf i).toNat);case atStart=>exact ⟨0,YD _,rfl,rfl,zY _ _⟩
 case round=>
  obtain ⟨k,hk,rfl,ht,hb⟩:=hrel;have HT:=aA ht;have HBX:=aA hb;obtain ⟨ad,cd,hv,_,_,g1⟩:=(H.out.below hb).opd;obtain ⟨rfl,_,rfl⟩:a=ad/\l.length=l.length/\c=cd:=by injection hv with h1 h2 h3;exact ⟨h1,h2,h3⟩
  clear ht hb hv;by_cases hlt:k < l.length
  ·obtain ⟨b1,o1,rfl,_,d1,d2,d3⟩:=g1 k l[k] (zL hlt);clear g1;have HD:=aA (ZX hlt);have hva:=λwz=>FL l[k] wz;generalize l[k]=x at *;cases hvx:aC x;all_goals rw [hvx] at hva;have HVA:=aA hva;have HVX:=aA hvx;clear hva hvx
   ·go_wp2_with (go_at_call 195;refine (HVA.out _).mono ?_;rintro e w2 ⟨rfl,hb⟩;have HB2:=aA (HBX.out.trans (hb.mono HBX.out.size));clear hb);go_ret;exact ⟨⟨k,rfl,by rw [HT.out,HD.out,List.all_cons,HVX.out];simp⟩,HB2.out⟩
   ·go_wp2_with (go_at_call 195;refine (HVA.out _).mono ?_;rintro e w2 ⟨rfl,hb⟩;have HB2:=aA (HBX.out.trans (hb.mono HBX.out.size));clear hb);exact tX4f
  ·clear g1;go_wp2;go_ret;exact ⟨⟨-1,rfl,by rw [HT.out,VA (by omega)];simp⟩,HBX.out⟩
theorem yG (p:aB) (v:Value) (l:List Opd) (w:World) (h:SlR aM w p v l):
  Calls Tryz.prog 194 #[v,.func (.func 195) #[] #[]] w λe w'=>e=.returned (.bool (!l.all aC))/\Below w.heap.size w w':=by
 have HI:=aA (PP p v l w h);obtain ⟨a,c,rfl,_⟩:=h.opd;clear h;go_enter Tryz.func194,Tryz.ntmps194;go_wp2_with (go_at_call 135;refine HI.out.mono ?_;rintro e w1 ⟨⟨r,rfl,hr⟩,hb⟩;have HB:=aA hb;have HR:=aA hr;clear hb hr);go_ret;exact ⟨aF HR.out,HB.out⟩
theorem zeroB (w:World):(zeroValue 4).run Tryz.prog w=.ok (.bool false) w:=by kernel_rfl
theorem uV {w:World} {b n:Nat} {D:DataW Unit} (hown:w.ownsMap Tryz.prog 9 (plainElem Tryz.prog 4) b n D) (hD:∀s:ByteArray,D.atKey (.string s.data.toList) (.lit (.bool false))=.lit (.bool (inL gR s)))
  (s:ByteArray) (hs:s.size<=maxLen):(Instr.lookup 254 (.map (some b)) (.string s) false).run Tryz.prog w=.ok (.bool (inL gR s)) w:=by
 obtain ⟨v,ps,hrun,hat⟩:=hown.lookup (Maps.string_keyed Tryz.underlying9) Tryz.underlying254 (zeroB w) (plainElem_bool Tryz.underlying4 false) (WideMaps.keyOf_string_mk Tryz.underlying9 hs);rw [hD] at hat;rw [hrun];cases v<;>simp [plainElem,Tryz.underlying4] at hat;rw [hat.1]
theorem MY (p:aB) (x:Ins) (v:Value) (w:World) (h:SlR aM w p v x.args) (hT:Spc w) (hs:x.op.size<=maxLen):
  Calls Tryz.prog 142 #[.agg #[.string x.op,v]] w λe w'=>e=.returned (.int .i64 (bH x))/\Below w.heap.size w w':=by
 obtain ⟨s,l⟩:=x;dsimp only at *;obtain ⟨a,c,rfl,_⟩:=h.opd;obtain ⟨W,hW⟩:∃W:World,W=w.alloc (.cells #[.string s,.slice a l.length c] 30):=⟨_,rfl⟩;have hbW:Below w.heap.size w W:=hW ▸ (zY _ _).alloc (zI _) _;have k1:Blk W w.heap.size 30 #[.string s,.slice a l.length c]:=hW ▸ Blk.new w _ _;have HBW:Hid (Below w.heap.size w W.drew):=⟨hbW.os,hbW.tape,hbW.output,hbW.size,hbW.block⟩;have HK:=aA k1;have HSL:=aA (h.below hbW).drew;have hset:Calls Tryz.prog 193 #[] W.drew λe w'=>e=.returned (.map (some W.heap.size))/\
  (∃D:DataW Unit,w'.ownsMap Tryz.prog 9 (plainElem Tryz.prog 4) W.heap.size gR.length D/\∀s:ByteArray,D.atKey (.string s.data.toList) (.lit (.bool false))=.lit (.bool (inL gR s)))/\Below W.heap.size W.drew w':=
  set_any W.drew ((hT.below hbW).below ⟨rfl,rfl,rfl,zI _,λ_ _=>rfl⟩)
 have HS:=aA hs;have hs1:w.heap.size < W.heap.size:=k1.lt;obtain ⟨a0,a1,_,_⟩:=k1.two;have HSET:=aA hset;clear h hbW hset k1 hT hs;cases hin:inL gR s
 ·have HV:=aA (show bH ⟨s,l⟩=12 by simp [bH,hin]);have HIN:=aA hin;exact tXc
 ·have HIN:=aA hin;cases hl:decide ((3:Int) < l.length);rotate_left
  ·have HV:=aA (show bH ⟨s,l⟩=11 by have:=jU hl;simp [bH,hin];omega);exact tXc
  ·have hv:bH ⟨s,l⟩=if l.all aC then 0 else 2:=(by have:=z0R hl;simp [bH,hin];omega);cases hall:l.all aC;all_goals
    rw [hall] at hv;have HV:=aA hv;have HALL:=aA hall;clear hv hall;go_enter Tryz.func142,Tryz.ntmps142;go_upto_region 1 with fail;rw [<-hW];clear hW;go_region_held3 (λw'=>w'.cell? ⟨w.heap.size,0,none⟩=some (.string s)/\w'.cell? ⟨w.heap.size,1,none⟩=some (.slice a l.length c)) (go_keep)
     (first | (go_at_call 193;refine HSET.out.mono ?_;rintro e w1 ⟨rfl,⟨D,hown,hD⟩,hb⟩;have HB:=aA hb;have hlook:=uV hown hD s HS.out;rw [HIN.out] at hlook;have b0:w1.cell? ⟨w.heap.size,0,none⟩=some (.string s):=(hb.cell (p:=⟨w.heap.size,0,none⟩) hs1).trans a0;have b1:w1.cell? ⟨w.heap.size,1,none⟩=some (.slice a l.length c):=(hb.cell (p:=⟨w.heap.size,1,none⟩) hs1).trans a1;clear hb hown hD))
    have HSL1:=aA (HSL.out.below HB.out);go_wp2_with (go_at_call 194;refine (yG _ _ _ _ HSL1.out).mono ?_;rw [HALL.out];rintro e w2 ⟨rfl,hb⟩;have HB2:=aA hb;clear hb);go_ret;exact ⟨bK HV.out.symm,(HBW.out.trans (HB.out.mono HBW.out.size)).trans (HB2.out.mono (qJ HBW.out.size HB.out.size))⟩
def JF (s:ByteArray):ByteArray:=⟨#[40]⟩++s++⟨#[41]⟩
def dF (o:Opd):ByteArray:=if aZ o then (aG o.kind).nm o.reg.toNat else ⟨#[]⟩
def iU (o:Opd):ByteArray:=if aZ o then JF ((aG o.kind).nm o.reg.toNat) else ⟨#[]⟩
def mA (o:Opd):Bool:=o.kind==5 || o.kind==6 || o.kind==7 || o.kind==10
def JU (r:Int):ByteArray:=⟨#[40]⟩++dF ⟨3,r,0⟩++⟨#[43,100,41]⟩
def markS (o:Opd):ByteArray:=if o.kind==5 then JU o.reg else if o.kind==6 then ⟨#[110]⟩ else if o.kind==7 then ⟨#[40,110,41]⟩ else if o.kind==10 then ⟨#[101]⟩ else ⟨#[]⟩
theorem Own.stay {α:Type} {R:Rep α} {w w':World} {B:Nat} {e:TypeId} {v:Value} {xs:List α} (h:Own R w B e NoB v xs) (hb:Below w.heap.size w w'):Own R w' B e NoB v xs:=h.keep (aS.of_below hb (λk hk=>by rcases hk with hk | hk;exact hk.elim;exact (h.lt k hk).2))
def zB (o:Opd):ByteArray:=if o.kind==4 then iU o else dF o
def fM (o:Opd):ByteArray:=if mA o then markS o else zB o
theorem elStr:ElT Tryz.prog 24 9 eN.size 16:=ElT.mk' (z:=.string ⟨#[]⟩) Tryz.underlying24 (by kernel_rfl) rfl (by decide)
structure ShH (w0:World) (x:Ins) (b0 bm:Nat) (va vm:Value) (k:Nat) (w:World):Prop where
 below:Below w0.heap.size w0 w
 lt:w0.heap.size<=bm
 sx:SlR aM w (λb=>b < bm) va x.args
 blk:Blk w b0 30 #[.string x.op,va]
 lt0:b0 < bm
 mks:Blk w bm 24 #[vm]
 own:Own eN w (bm+1) 9 NoB vm ((x.args.take k).map fM)
theorem ShH.drew {w0 w:World} {x:Ins} {b0 bm k:Nat} {va vm:Value} (h:ShH w0 x b0 bm va vm k w):ShH w0 x b0 bm va vm k w.drew:=⟨⟨h.below.os,h.below.tape,h.below.output,h.below.size,h.below.block⟩,h.lt,h.sx.drew,h.blk,h.lt0,h.mks,h.own.keep λ_ _=>rfl⟩
end Go.Proofs.YtpigbggoiipmhaaGreatDoor
