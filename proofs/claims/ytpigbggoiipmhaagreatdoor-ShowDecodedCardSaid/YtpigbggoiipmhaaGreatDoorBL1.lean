/-
  Images in memory; image.set.add. breadboardref01.Hex. num.Hex. PLAIN: the order of the lines of a HEX text does not matter. strings.Builder: copyCheck, WriteByte, WriteString. strings.Builder: WriteByte, WriteString, String. Marks, numbers and shapes of instructions, the program's and the references'. breadboardlaw10.SearchFills. Conditions: the new length's bytes; sizes; the library's table as its initialiser lays it.
-/
import Derived.Test.YtpigbggoiipmhaaGreatDoorBN1
import Derived.Test.YtpigbggoiipmhaaGreatDoorBK1
import Derived.Test.YtpigbggoiipmhaaGreatDoorBT0
namespace Go.Proofs.YtpigbggoiipmhaaGreatDoor
open Go.RowKit
abbrev Mem:=Nat->Option UInt8
def dom (m:Mem):Nat->Bool:=λa=>(m a).isSome
set_option maxHeartbeats 2000000
set_option maxRecDepth 100000
def DA:List UInt8:=[48,49,50,51,52,53,54,55,56,57,65,66,67,68,69,70]
def qG (n:Nat):Nat->List UInt8
 | 0=>[]
 | k+1=>qG (n / 16) k++[DA.getD (n % 16) 0]
theorem wX (m j:Nat) (l:List UInt8):qG m (j+1)++l=qG (m / 16) j++(DA.getD (m % 16) 0::l):=by rw [qG,JP];rfl
theorem vX (m:Nat):bits .and .i64 (m:Int) 15=((m % 16:Nat):Int):=by
 have h15:(BitVec.ofInt 64 15).toNat=2 ^ 4 - 1:=by decide
 have key:(BitVec.ofInt 64 (m:Int)&&& BitVec.ofInt 64 15).toNat=((m:Int) % ((2 ^ 64:Nat):Int)).toNat % 2 ^ 4:=by rw [BitVec.toNat_and,BitVec.toNat_ofInt,h15,Nat.and_two_pow_sub_one_eq_mod]
 show IntKind.i64.wrap ((BitVec.ofInt 64 (m:Int)&&& BitVec.ofInt 64 15).toNat:Nat)=((m % 16:Nat):Int);rw [key,IntKind.wrap_i64];omega
def YV (d:Nat):ByteArray:=⟨#[DA.getD d 0]⟩
def MV:ByteArray:=⟨#[48,49,50,51,52,53,54,55,56,57,65,66,67,68,69,70]⟩
theorem dig_cut (d:Nat) (hd:d < 16):MV.extract d (d+1)=YV d:=by
 obtain h | h | h | h | h | h | h | h | h | h | h | h | h | h | h | h:d=0\/d=1\/d=2\/d=3\/d=4\/d=5\/d=6\/d=7\/d=8\/d=9\/d=10\/d=11\/d=12\/d=13\/d=14\/d=15:=by omega
 all_goals subst h;rfl
theorem run_dig (d:Nat) (hd:d < 16) (w:World):(Instr.sliceAt 9 (.string ⟨#[48,49,50,51,52,53,54,55,56,57,65,66,67,68,69,70]⟩) (some (.int .i64 (d:Int))) (some (.int .i64 ((d:Int)+1))) none).run Tryz.prog w=.ok (.string (YV d)) w:=by
 have hu:Tryz.prog.underlying 9=some .string:=by kernel_rfl
 rw [run_sliceAt_string _ _ _ _ _ _ hu,run_slice_string_if _ _ _ _ _ _ _ hu,if_pos ⟨by omega,by show (d:Int)+1<=16;omega⟩,if_pos ⟨by omega,by omega⟩];have e:((d:Int)+1).toNat=d+1:=by omega
 rw [e,z0X,<-dig_cut d hd];rfl
theorem Hex01_any (n k:Nat) (w:World) (hn:n<=1000000) (hk:k<=100):
  Calls Tryz.prog 134 #[.int .i64 n,.int .i64 k] w λe w'=>(∃s:ByteArray,e=.returned (.string s)/\s.data.toList=qG n k)/\w=w':=by
 go_enter Tryz.func134,Tryz.ntmps134;go_wp2;go_loop [0,5,6] (λx y z=>∃(m i:Nat) (s:ByteArray),x=.int .i64 m/\y=.string s/\z=.int .i64 i/\m<=1000000/\i<=k/\s.size=i/\qG n k=qG m (k - i)++s.data.toList) (λ_ _ z=>k - (intOf z).toNat);case atStart=>exact ⟨n,0,⟨#[]⟩,rfl,rfl,rfl,hn,YD _,rfl,by simp⟩
 case round=>
  obtain ⟨m,i,s,rfl,rfl,rfl,hm,hi,hs,hx⟩:=hrel;have HX:=aA hx;have HS:=aA hs;clear hx;by_cases hlt:i < k
  ·have h0:(0:Int)<=(m:Int):=(by omega);have hm1:(m:Int)<=1000000:=(by omega);have hss:s.size<=1000:=(by omega);have hi0:(0:Int)<=(i:Int):=(by omega);have him:(i:Int)<=100:=(by omega);have hand:=vX m;have hd:m % 16 < 16:=z2F _ (by omega);have hrun:=run_dig (m % 16) hd;have HM:=aA (wX m (k - i - 1) s.data.toList);go_upto_region 6 with fail;have hgen:(m:Int) % 16=((m % 16:Nat):Int):=(by omega);rw [hgen];clear hand hgen;generalize m % 16=d at *;have hd0:(0:Int)<=(d:Int):=(by omega);have hd1:(d:Int)<=15:=(by omega);have hds:(YV d).size=1:=rfl;go_wp2;refine ⟨⟨m / 16,i+1,YV d++s,by go_num,rfl,by go_num,by omega,by omega,by rw [ByteArray.size_append,hds,HS.out];omega,?_⟩,by simp [intOf];omega⟩;have e:=HM.out;rw [show k - i - 1+1=k - i by omega] at e;rw [HX.out,e,show k - (i+1)=k - i - 1 by omega,ByteArray.data_append,Array.toList_append];rfl
  ·obtain rfl:i=k:=(by omega);go_wp2;go_ret;exact ⟨⟨s,rfl,by rw [HX.out,z2I];rfl⟩,rfl⟩
theorem RQ (z:Value) {k j:Nat} (hj:j < k):(madeCells #[z] k)[j]?=some z:=by simp [madeCells,hj,Nat.mod_one]
theorem tZ (w:World) (k:Nat) (hk:k<=1000):∃w0,(Instr.makeSlice 22 (.int .i64 (k:Int)) (.int .i64 (k:Int))).run Tryz.prog w=.ok (.slice (some ⟨w.heap.size,0,none⟩) k k) w0/\
  Below w.heap.size w w0/\w.heap.size < w0.heap.size/\gT w0 w.heap.size (List.replicate k 0):=by
 have hm:(Tryz.prog.info? 5).map (λi=>(i.zero,i.size,i.bytes))=some (some (.int .u8 0),1,1):=by kernel_rfl
 cases hq:Tryz.prog.info? 5 with
 | none=>simp [hq] at hm
 | some i=>
  simp only [hq,Option.map_some,Option.some.injEq,Prod.mk.injEq] at hm;obtain ⟨hz,hs,hb⟩:=hm;have e:=run_makeSlice (P:=Tryz.prog) w 22 5 i _ Tryz.underlying22 hq hz .i64 .i64 (k:Int) (k:Int) (by omega) (Int.le_refl _) (by rw [hs];simp;omega) (by rw [hb];omega) (by omega);rw [hs,z0X,Nat.mul_one] at e;refine ⟨_,e,(zY _ _).alloc (zI _) _,by simp,λj x hx=>?_,λj _=>(Blk.new w _ _).free j⟩;rw [z2G] at hx;have hj:j < k:=by
   rcases Nat.lt_or_ge j k with h | h
   ·exact h
   ·rw [if_neg (by omega)] at hx;cases hx
  rw [if_pos hj] at hx;injection hx with hx;have hc:=(Blk.new w 5 (madeCells (Value.cells (.int .u8 0)) k)).cell j;refine hc.trans ((RQ (.int .u8 0) hj).trans ?_);rw [<-hx];rfl
theorem dig_at (d:Nat) (hd:d < 16) (h:d < MV.size):MV[d]=DA.getD d 0:=by
 obtain e | e | e | e | e | e | e | e | e | e | e | e | e | e | e | e:d=0\/d=1\/d=2\/d=3\/d=4\/d=5\/d=6\/d=7\/d=8\/d=9\/d=10\/d=11\/d=12\/d=13\/d=14\/d=15:=by omega
 all_goals subst e;rfl
theorem XY (m:Nat) (w:World):(Instr.index 9 (.string ⟨#[48,49,50,51,52,53,54,55,56,57,65,66,67,68,69,70]⟩) (.int .i64 ((m:Int) % 16))).run Tryz.prog w=.ok (.int .u8 ((DA.getD (m % 16) 0).toNat:Nat)) w:=by
 have hu:Tryz.prog.underlying 9=some .string:=by kernel_rfl
 have h1:0<=(m:Int) % 16/\(m:Int) % 16 < (MV.size:Nat):=⟨by omega,by show (m:Int) % 16 < 16;omega⟩;have e:=run_index_string (P:=Tryz.prog) w 9 MV .i64 ((m:Int) % 16) hu;rw [dif_pos h1] at e;have e2:((m:Int) % 16).toNat=m % 16:=by omega
 have e3:MV[((m:Int) % 16).toNat]'(by show _ < 16;omega)=DA.getD (m % 16) 0:=by have:=dig_at (m % 16) (z2F _ (by omega)) (by show m % 16 < 16;omega);rw [<-this];congr 1
 rw [e3] at e;exact e
theorem JH (c:UInt8) (t:List UInt8):∀j,(List.replicate (j+1) 0++t).set j c=List.replicate j 0++c::t
 | 0=>rfl
 | j+1=>by show (0::(List.replicate (j+1) 0++t)).set (j+1) c=0::(List.replicate j 0++c::t);rw [vT,JH c t j]
theorem Hex_any (n k:Nat) (w:World) (hn:n<=1000000) (hk:k<=100):
  Calls Tryz.prog 61 #[.int .i64 n,.int .i64 k] w λe w'=>e=.returned (.string ⟨(qG n k).toArray⟩)/\Below w.heap.size w w':=by
 obtain ⟨w0,hmk,hb,hlt0,hrow⟩:=tZ w k (by omega);have HB:=aA hb;have HROW:=aA hrow;have HLT0:=aA hlt0;have hk0:(0:Int)<=(k:Int):=by omega
 have hk1:(k:Int)<=100:=by omega
 have hmax:(if (0:Int) > (k:Int) then (0:Int) else (k:Int))=k:=by rw [if_neg (by omega)]
 clear hb hrow hlt0;go_enter Tryz.func61,Tryz.ntmps61;go_wp2;go_loopw [0,6] (λx z wr=>∃(m j:Nat) (ii:Int) (t:List UInt8),x=.int .i64 m/\z=.int .i64 ii/\ii=(j:Int) - 1/\m<=1000000/\t.length+j=k/\qG n k=qG m j++t/\gT wr w.heap.size (List.replicate j 0++t)/\Below w.heap.size w wr) (λ_ z _=>(intOf z+1).toNat);case atStart=>exact ⟨n,k,_,[],rfl,rfl,rfl,hn,by simp,by simp,by simpa using HROW.out,HB.out⟩
 case round=>
  clear hmk;obtain ⟨m,j,ii,t,rfl,rfl,hii,hm,hl,hx,hr,hbw⟩:=hrel;have HX:=aA hx;have HR:=aA hr;have HBW:=aA hbw;have HLL:=aA hl;clear hx hr hbw hl;cases j with
  | succ j=>obtain rfl:ii=(j:Int):=(by omega);clear hmax hii;have h0:(0:Int)<=(m:Int):=(by omega);have hm1:(m:Int)<=1000000:=(by omega);have hj0:(0:Int)<=(j:Int):=(by omega);have hjk:(j:Int) < (k:Int):=(by have:=HLL.out;omega);have hand:bits .and .i64 (m:Int) 15=(m:Int) % 16:=(vX m).trans (by omega);have hidx:=XY m;have hf:=HR.out.free j (by simp;omega);have hc:=HR.out.cell j 0 (by rw [z1F (by simp),z2G,if_pos (by omega)]);go_wp2;rw [<-JL];refine ⟨⟨m / 16,j,_,DA.getD (m % 16) 0::t,by go_num,rfl,rfl,by omega,by have:=HLL.out;simp;omega,HX.out.trans (wX m j t),?_,HBW.out.setCell (p:=⟨w.heap.size,j,none⟩) (zI _) _⟩,by simp [intOf]⟩;rw [<-JH];exact HR.out.set j _
  | zero=>obtain rfl:ii=-1:=(by simpa using hii);have hk2:=HLL.out;rw [z0N] at hk2;have hx2:qG n k=t:=HX.out;have hstr:=kR wr w.heap.size k t HR.out;rw [hk2,<-hx2] at hstr;clear hii hx2 hk2;go_wp2;go_ret;exact ⟨rfl,HBW.out⟩
end Go.Proofs.YtpigbggoiipmhaaGreatDoor
namespace Go.Proofs.YtpigbggoiipmhaaGreatDoor
def Says (d:Nat->Bool) (v:Nat->UInt8) (r:Nat × List UInt8):Prop:=r.1+r.2.length<=65536/\r.2≠[]/\∀i b,r.2[i]?=some b->d (r.1+i)=true/\b=v (r.1+i)
def Dis (r q:Nat × List UInt8):Prop:=r.1+r.2.length<=q.1\/q.1+q.2.length<=r.1
def inRun (r:Nat × List UInt8) (x:Nat):Prop:=r.1<=x/\x < r.1+r.2.length
structure XQ (v:Nat->UInt8) (E:List (Nat × List UInt8)) (S:lJ):Prop where
 dom:∀x,S.1 x=true↔∃r∈E,inRun r x
 val:∀x,S.1 x=true->S.2 x=v x
theorem XQ.put {d:Nat->Bool} {v:Nat->UInt8} {E:List (Nat × List UInt8)} {S:lJ} {r:Nat × List UInt8} (h:XQ v E S) (hr:Says d v r) (hd:∀q∈E,Dis q r):
  cT S.1 r.1 r.2.length=0/\XQ v (E++[r]) (dH S.1 S.2 r.1 r.2):=by
 obtain ⟨a,l⟩:=r;obtain ⟨h1,h2,h3⟩:=hr;have hp:=z1P.2 h2;have h1:a+l.length<=65536:=h1;have hno:∀x,a<=x->x < a+l.length->S.1 x=false:=λx hx1 hx2=>by
  cases e:S.1 x with
  | false=>rfl
  | true=>obtain ⟨q,hq,g1,g2⟩:=(h.dom x).1 e;have hq2:=hd q hq;unfold Dis at hq2;have hq2:q.1+q.2.length<=a\/a+l.length<=q.1:=hq2;omega
 have hc:cT S.1 (a:Int) l.length=0:=by obtain ⟨g1,g2,g3,g4⟩:=kO S.1 true a (by omega);unfold cT;rw [if_neg (by omega),if_neg (by omega),if_neg];intro hx;have hx:dS S.1 true a < a+l.length:=hx;have e:=g4 (by omega);rw [hno _ g1 hx] at e;cases e
 refine ⟨hc,?_⟩;have e:dH S.1 S.2 (a:Int) l=(mY S.1 a l.length,fR S.2 a l):=by unfold dH;rw [hc,if_pos rfl];rfl
 show XQ v _ (dH S.1 S.2 (a:Int) l);rw [e];refine ⟨λx=>?_,λx hx=>?_⟩
 ·show (S.1 x || (decide (a<=x)&&decide (x < a+l.length)))=true↔_;rw [Bool.or_eq_true,z0K,decide_eq_true_iff,decide_eq_true_iff,h.dom x];simp [inRun,or_comm,or_and_right,exists_or]
 ·by_cases hin:a<=x/\x < a+l.length
  ·have hlt:x - a < l.length:=(by omega);show fR S.2 a l x=_;have h4:=(h3 (x - a) _ (zL hlt)).2;rw [show (a,l).1+(x - a)=x from by show a+(x - a)=x;omega] at h4;unfold fR;rw [if_pos hin.1,JL,zL hlt];exact h4
  ·show fR S.2 a l x=_;have hx:(S.1 x || (decide (a<=x)&&decide (x < a+l.length)))=true:=hx;have hf:(decide (a<=x)&&decide (x < a+l.length))=false:=by
    cases h9:(decide (a<=x)&&decide (x < a+l.length)) with
    | false=>rfl
    | true=>rw [z0K,decide_eq_true_iff,decide_eq_true_iff] at h9;exact absurd h9 hin
   rw [hf,Bool.or_false] at hx;rw [pF (by omega)];exact h.val x hx
end Go.Proofs.YtpigbggoiipmhaaGreatDoor
namespace Go.Proofs.YtpigbggoiipmhaaGreatDoor
set_option maxHeartbeats 1000000
set_option maxRecDepth 100000
open Go.RowKit
theorem BI:(Tryz.prog.info? 103).map (·.size)=some 2:=by kernel_rfl
theorem VE:liesAt Tryz.prog Tryz.prog.depth 103 (2 / Tryz.prog.cellsOf 103) 0 103 1=true:=by kernel_rfl
theorem qX:(Tryz.prog.info? 5).map (λi=>(i.zero,i.size,i.bytes))=some (some (.int .u8 0),1,1):=by kernel_rfl
theorem Blk.shape {w:World} {g:Nat} {t:TypeId} {cs:Array Value} (h:Blk w g t cs):w.shape? g=some (t,cs.size):=by unfold Blk at h;simp [World.shape?,h]
theorem uP (b:Nat) (v:Value) (w:World) (h:Blk w b 103 #[.pointer (some ⟨b,0,none⟩),v]):
  Calls Tryz.prog 107 #[.pointer (some ⟨b,0,none⟩)] w λe w'=>e=.returned (.tuple #[])/\w=w':=by
 obtain ⟨j,hj,_⟩:=Option.map_eq_some_iff.1 BI;have h0:=h.cell 0;go_enter Tryz.func107,Tryz.ntmps107;go_wp2;rw [Lib.run_neq_ptr_same w _ Tryz.underlying101 hj];go_wp2;go_end0;exact ⟨rfl,rfl⟩
theorem rZ (b:Nat) (v:Value) (w:World) (h:Blk w b 103 #[.pointer none,v]):
  Calls Tryz.prog 107 #[.pointer (some ⟨b,0,none⟩)] w λe w'=>e=.returned (.tuple #[])/\w'=w.setCell ⟨b,0,none⟩ (.pointer (some ⟨b,0,none⟩)):=by
 obtain ⟨j,hj,hjs⟩:=Option.map_eq_some_iff.1 BI;have h0:=h.cell 0;have hfz:=h.free 0;have hsh:w.shape? b=some (103,2):=h.shape;go_enter Tryz.func107,Tryz.ntmps107;go_wp2;rw [Lib.run_to_unsafe w ⟨b,0,none⟩ Tryz.underlying101 Tryz.underlying217 hj (by rw [hjs];decide) hsh (Nat.zero_lt_succ 1)];simp only [Result.andThen];rw [Oper.upon_value];go_wp2;rw [run_callFunc_extern Tryz.func152 (by kernel_rfl) (by kernel_rfl) (by kernel_rfl) (e:=Extern.AbiNoEscape.same) (by kernel_rfl)];rw [Lib.run_noEscape];simp only [Result.andThen];rw [Oper.upon_value];go_wp2;rw [Lib.run_from_unsafe w ⟨b,0,none⟩ Tryz.underlying217 Tryz.underlying101 hj hsh VE];simp only [Result.andThen];rw [Oper.upon_value];go_wp2;go_end0;exact ⟨rfl,rfl⟩
set_option maxHeartbeats 2000000
theorem XX {w:World} {B:Nat} {e:TypeId} {v:Value} {n:Nat} {xs:List Value} (h:w.ownsRow B e 1 v n xs):∀k,v.ownBlock=some k->B<=k/\k < w.heap.size:=λk hk=>h.lt k hk
theorem KO {w:World} {B:Nat} {e:TypeId} {v:Value} {n:Nat} {xs:List Value} (h:w.ownsRow B e 1 v n xs):∃a n' c,v=.slice a n' c:=by
  rcases h.2 with ⟨hv,_⟩ | ⟨g,cap,cur,hv,_⟩
  · exact ⟨_,_,_,hv⟩
  · exact ⟨_,_,_,hv⟩
theorem vO (B b:Nat) (v:Value) (l:List UInt8) (w:World) (h:Bld w B b v l):
    Calls Tryz.prog 107 #[.pointer (some ⟨b,0,none⟩)] w λe w'=>e=.returned (.tuple #[])/\Bld w' B b v l/\Wrt w w' B b v v/\Blk w' b 103 #[.pointer (some ⟨b,0,none⟩),v]:=by
  obtain ⟨hB,⟨p,hp,hk⟩,ho,hne⟩:=h;rcases hp with rfl | rfl
  · refine (rZ b v w hk).mono ?_;rintro e w' ⟨rfl,rfl⟩;have hk2:Blk (w.setCell ⟨b,0,none⟩ (.pointer (some ⟨b,0,none⟩))) b 103 #[.pointer (some ⟨b,0,none⟩),v]:=hk.set 0 _;refine ⟨rfl,⟨hB,⟨_,.inr rfl,hk2⟩,?_,hne⟩,⟨(zY _ _).setCell (p:=⟨b,0,none⟩) hB _,by simp [World.setCell],λk _ hkb _=>xV _ _ _ _ hkb,.inl rfl⟩,hk2⟩;exact ho.kept (row:=some b) ⟨rfl,rfl,rfl,by simp [World.setCell],λk _ hk=>xV _ _ _ _ (λe=>hk (by simp [e]))⟩ (Or.inr hne)
  · refine (uP b v w hk).mono ?_;rintro e w' ⟨rfl,rfl⟩;exact ⟨rfl,⟨hB,⟨_,.inr rfl,hk⟩,ho,hne⟩,⟨zY _ _,zI _,λ_ _ _ _=>rfl,.inl rfl⟩,hk⟩
theorem Bld.put {w:World} {B b:Nat} {v v':Value} {l:List UInt8} (hB:B<=b) (hk:Blk w b 103 #[.pointer (some ⟨b,0,none⟩),v]) (ho:w.ownsRow B 5 1 v' l.length (Lib.byteCells l)):
    Bld (w.setCell ⟨b,1,none⟩ v') B b v' l:=by
  have hne:v'.ownBlock≠some b:=Lib.ownBlock_ne ho hk (by decide);exact ⟨hB,⟨_,.inr rfl,hk.set 1 _⟩,ho.kept (row:=some b) ⟨rfl,rfl,rfl,by simp [World.setCell],λk _ hk=>xV _ _ _ _ (λe=>hk (by simp [e]))⟩ (Or.inr hne),hne⟩
theorem wrt_put {w w1 w2:World} {B b:Nat} {v v':Value} (h:Wrt w w1 B b v v) (hB:B<=b) (hlt:∀k,v.ownBlock=some k->B<=k/\k < w1.heap.size) (hBw:B<=w.heap.size) (hg:w1.grownBy w2 v.ownBlock) (hr:v'.ownBlock=v.ownBlock\/∃k,v'.ownBlock=some k/\w1.heap.size<=k):
    Wrt w (w2.setCell ⟨b,1,none⟩ v') B b v v':=by
  refine h.trans ⟨((zY _ _).grown hg (qJ hBw h.size) (λk hk=>(hlt k hk).1)).setCell (p:=⟨b,1,none⟩) hB _,?_,λk hk hkb hkv=>?_,hr⟩
  · have:=hg.size;simpa [World.setCell] using this
  · exact (xV _ _ _ _ hkb).trans (hg.block k hk (λe=>hkv e.symm))
theorem str_at {w w':World} {B:Nat} {ty:TypeId} {v v':Value} {n:Nat} {xs:List Value} (hown:w.ownsRow B 5 1 v n xs) (s:ByteArray) (hb:n+s.size<=140737488355328)
    (h:(Builtin.append_ #[22,9] ty #[v,.string s]).run Tryz.prog w=.ok v' w'):v'.ownBlock=v.ownBlock\/∃k,v'.ownBlock=some k/\w.heap.size<=k:=by
  obtain ⟨i0,hi,hz0,hz1,hz2⟩:=info_parts qX;rcases hown.2 with ⟨rfl,rfl⟩ | ⟨g,cap,cur,rfl,hbg,hg,hnc,hcm,hcs,htake⟩
  · by_cases h0:s.size=0
    · have hf:=Lib.run_firstCells_string (P:=Tryz.prog) w 1 s;rw [h0] at hf;have:(Builtin.append_ #[22,9] ty #[.slice none 0 0,.string s]).run Tryz.prog w=.ok (.slice none 0 0) w:=(by simp [Builtin.append_,run_underlying Tryz.underlying22,run_underlying Tryz.underlying9,sizeOf,typeInfo,hi,hz1,Builtin.lenOf,h0,hf]);rw [this] at h;injection h with h _;exact .inl (by rw [<-h])
    · have hr:=run_append_nil_string (P:=Tryz.prog) w 22 9 ty 5 i0 (.int .u8 0) Tryz.underlying22 Tryz.underlying9 hi hz0 s (by omega) (by omega) (by rw [hz2];omega);rw [hr] at h;injection h with h _;exact .inr ⟨w.heap.size,by rw [<-h];rfl,zI _⟩
  · have hcs':cur.size=cap:=(by simpa using hcs);by_cases hroom:n+s.size<=cap
    · have hr:=Lib.run_append_room_string (P:=Tryz.prog) w 22 9 ty 5 i0 Tryz.underlying22 Tryz.underlying9 hi hz1 g n cap cur hg s hroom (by omega);rw [hr] at h;injection h with h _;exact .inl (by rw [<-h];rfl)
    · have hxl:xs.length=n:=(by simpa using hown.1);have holds:∀j u,xs[j]?=some u->w.cell? ((⟨g,0,none⟩:Addr).add j)=some u:=hown.cells (g:=g) rfl;have hr:=Lib.run_append_grow_string (P:=Tryz.prog) w 22 9 ty 5 i0 (.int .u8 0) Tryz.underlying22 Tryz.underlying9 hi hz0 ⟨g,0,none⟩ n cap xs (by rw [hz1];simpa using hxl) holds s (by omega) (by omega) (by rw [hz2];exact growslice_fits (by omega) (by omega));rw [hr] at h;injection h with h _;exact .inr ⟨w.heap.size,by rw [<-h];rfl,zI _⟩
theorem vK {w:World} {ops:Array Oper} {rest:List Oper} {o:Oper} {a:Act} {Q:Exit->Act->World->Prop} (hgd:o.guard=none) (sl x:Operand)
    (ho:o.op=.call {callee:=.builtin .append,args:=#[sl,x],argTypes:=#[22,9]})
    (B:Nat) (v:Value) (n:Nat) (xs:List Value) (hs:a.eval sl=v) (hown:w.ownsRow B 5 1 v n xs) (s:ByteArray) (hx:a.eval x=.string s)
    (hbytes:n+s.size<=140737488355328) (hbase:B<=w.heap.size)
    (h:∀v' w',w'.ownsRow B 5 1 v' (n+s.size) (xs++Lib.strCells s)->w.grownBy w' v.ownBlock->(v'.ownBlock=v.ownBlock\/∃k,v'.ownBlock=some k/\w.heap.size<=k)->wpList Tryz.prog ops Q rest (a.put o.dst v') w'):wpList Tryz.prog ops Q (o::rest) a w:=by
  obtain ⟨i0,hi,hz0,hz1,hz2⟩:=info_parts qX;refine wpList_plain hgd λK hK=>?_;obtain ⟨v',w',hr,h2,h3,h4⟩:=Lib.run_append_own_string (P:=Tryz.prog) w B 22 9 o.type 5 i0 Tryz.underlying22 Tryz.underlying9 hi hz0 hz1 hz2 v n xs hown s (by unfold maxLen;omega) hbytes hbase;have hat:=str_at hown s hbytes hr;unfold Oper.wp execOp;simp only [ho,resolve,invoke,builtin,Sem.run_bind,Sem.run_pure,Result.andThen_ok,List.map_toArray,List.map_cons,List.map_nil,hs,hx,hr];exact hK _ _ (h v' w' h2 h3 hat)
def Wrote (w:World) (B b:Nat) (v:Value) (l:List UInt8) (w':World):Prop:=∃v',Bld w' B b v' l/\Wrt w w' B b v v'
theorem PX (B b:Nat) (v:Value) (l:List UInt8) (s:ByteArray) (w:World) (h:Bld w B b v l) (hn:l.length+s.size<=140737488355328) (hBw:B<=w.heap.size):
    Calls Tryz.prog 64 #[.pointer (some ⟨b,0,none⟩),.string s] w λe w'=>e=.returned (.tuple #[.int .i64 s.size,.nilIface])/\Wrote w B b v (l++s.data.toList) w':=by
  obtain ⟨i0,hi,hz0,hz1,hz2⟩:=info_parts qX;have HN:=aA hn;have HBW:=aA hBw;have HCC:=aA (vO B b v l w h);have HB0:=aA h.1;have HS9:Hid ((s.size:Int)<=140737488355328):=by show _<=_;omega
  clear h hn hBw;go_enter Tryz.func64,Tryz.ntmps64
  go_wp2_with (first
    | (go_at_call 107;refine HCC.out.mono ?_;rintro e w1 ⟨rfl,hbl,hw,hk⟩;have HBL:=aA hbl;have HW:=aA hw;have c1:w1.cell? ⟨b,1,none⟩=some v:=hk.cell 1;have HK:=aA hk;have HOW:=aA hbl.2.2.1;clear hbl hw hk)
    | (at_builtin;refine vK rfl (.tmp 12) (.tmp 13) rfl B v l.length _ rfl HOW.out s rfl HN.out (qJ HBW.out HW.out.size) ?_;intro v' w2 ho2 hg2 hat;have HO2:=aA ho2;have HG2:=aA hg2;have HAT:=aA hat;clear ho2 hg2 hat
       have hk2:Blk w2 b 103 #[.pointer (some ⟨b,0,none⟩),v]:=HK.out.grown HG2.out (λe=>HBL.out.2.2.2 e.symm);have d1:=hk2.cell 1;have f1:=hk2.free 1;have HK2:=aA hk2;clear hk2 c1;obtain ⟨ao,n',cap,rfl⟩:=KO HO2.out))
  go_ret2;refine ⟨rfl,_,Bld.put HB0.out HK2.out ?_,wrt_put HW.out HB0.out (XX HOW.out) HBW.out HG2.out HAT.out⟩;have e:=HO2.out;rw [Lib.strCells_eq,<-Lib.byteCells_append] at e;rw [YL];simpa using e
theorem String_any (B b:Nat) (v:Value) (l:List UInt8) (w:World) (h:Bld w B b v l) (hBw:B<=w.heap.size):
    Calls Tryz.prog 66 #[.pointer (some ⟨b,0,none⟩)] w λe w'=>e=.returned (.string ⟨l.toArray⟩)/\Below B w w':=by
  obtain ⟨hB,⟨p,hp,hk⟩,ho,hne⟩:=h;rw [<-Lib.byteCells_length l] at ho;rcases hp with rfl | rfl
  · exact Tryz.Builder_String_any B b l w (.inl ⟨hB,v,hk,ho,hne⟩) hBw
  · exact Tryz.Builder_String_any B b l w (.inr ⟨hB,v,hk,ho,hne⟩) hBw
theorem MA (s:ByteArray) (n:Int) (w:World):Calls Tryz.prog 241 #[.string s,.int .i64 n] w λe w'=>e=.returned (.string s)/\w'=w:=by go_enter Tryz.func241,Tryz.ntmps241;go_wp2;go_ret;exact ⟨rfl,rfl⟩
theorem PA (s:ByteArray) (n:Int) (w:World) (hs:s.size<=1000):Calls Tryz.prog 242 #[.string s,.int .i64 n] w λe w'=>e=.returned (.string (JF s))/\w'=w:=by go_enter Tryz.func242,Tryz.ntmps242;go_wp2;go_ret;exact ⟨rfl,rfl⟩
theorem zR (o:Opd) (h:aZ o=false) (w:World):Calls Tryz.prog 105 #[.agg #[.int .i64 o.kind,.int .i64 o.reg,.int .i64 o.n]] w λe w'=>e=.returned (.string ⟨#[]⟩)/\Below w.heap.size w w':=by have HB0:Hid (Below w.heap.size w (w.alloc (.cells #[.int .i64 o.kind,.int .i64 o.reg,.int .i64 o.n] 52))):=(zY _ _).alloc (zI _) _;have HO:=aA (of_no o h (w.alloc (.cells #[.int .i64 o.kind,.int .i64 o.reg,.int .i64 o.n] 52)));simp only [gU] at HO;go_enter Tryz.func105,Tryz.ntmps105;exact tX2d
theorem jC (o:Opd) (hf:(aG o.kind).form=241) (w:World):Calls Tryz.prog 105 #[.agg #[.int .i64 o.kind,.int .i64 o.reg,.int .i64 o.n]] w λe w'=>e=.returned (.string (dF o))/\Below w.heap.size w w':=by
  cases h:aZ o
  · rw [show dF o=⟨#[]⟩ by simp [dF,h]];exact zR o h w
  · rw [show dF o=(aG o.kind).nm o.reg.toNat by simp [dF,h]];have HB0:Hid (Below w.heap.size w (w.alloc (.cells #[.int .i64 o.kind,.int .i64 o.reg,.int .i64 o.n] 52))):=(zY _ _).alloc (zI _) _;have HK:Hid (Blk (w.alloc (.cells #[.int .i64 o.kind,.int .i64 o.reg,.int .i64 o.n] 52)) w.heap.size 52 #[.int .i64 o.kind,.int .i64 o.reg,.int .i64 o.n]):=Blk.new w _ _;have ho:=GA o h (w.alloc (.cells #[.int .i64 o.kind,.int .i64 o.reg,.int .i64 o.n] 52));simp only [fP.val] at ho;rw [hf] at ho;have HO:=aA ho;clear ho hf h;go_enter Tryz.func105,Tryz.ntmps105
    go_wp2_with (first | (go_at_call 151;refine HO.out.mono ?_;rintro e w1 ⟨rfl,hb⟩;have HB:=aA (HB0.out.trans (hb.mono HB0.out.size));have c2:w1.cell? ⟨w.heap.size,2,none⟩=some (.int .i64 o.n):=(hb.cell (p:=⟨w.heap.size,2,none⟩) HK.out.lt).trans (HK.out.cell 2);have hlt:w.heap.size < w1.heap.size:=vB HK.out.lt hb.size;clear hb)
                       | (go_at_call 241;refine (MA _ _ _).mono ?_;rintro e w2 ⟨rfl,rfl⟩))
    go_ret;exact ⟨rfl,HB.out.alloc HB.out.size _⟩
theorem FN (k:Int):∀s∈(aG k).names,s.size<=3:=by
  by_cases h1:k=1
  · subst h1;decide+kernel
  by_cases h2:k=2
  · subst h2;decide+kernel
  by_cases h3:k=3
  · subst h3;decide+kernel
  by_cases h4:k=4
  · subst h4;decide+kernel
  by_cases h5:k=5
  · subst h5;decide+kernel
  by_cases h6:k=6
  · subst h6;decide+kernel
  by_cases h7:k=7
  · subst h7;decide+kernel
  by_cases h8:k=8
  · subst h8;decide+kernel
  by_cases h9:k=9
  · subst h9;decide+kernel
  by_cases h10:k=10
  · subst h10;decide+kernel
  simp [aG,h1,h2,h3,h4,h5,h6,h7,h8,h9,h10]
theorem YO (k:Int) (i:Nat):((aG k).nm i).size<=3:=by
  unfold fP.nm;cases h:(aG k).names[i]? with
  | none=>decide
  | some s=>exact FN k s (VM h)
def bY (o:Opd):ByteArray:=if aC o then aQ o.kind o.reg else ⟨#[]⟩
theorem text06_reg (o:Opd) (h:mA o=false) (w:World):Calls Tryz.prog 133 #[.agg #[.int .i64 o.kind,.int .i64 o.reg,.int .i64 o.n]] w λe w'=>e=.returned (.string (bY o))/\Below w.heap.size w w':=by
  have HB0:Hid (Below w.heap.size w (w.alloc (.cells #[.int .i64 o.kind,.int .i64 o.reg,.int .i64 o.n] 52))):=(zY _ _).alloc (zI _) _;have HK:Hid (Blk (w.alloc (.cells #[.int .i64 o.kind,.int .i64 o.reg,.int .i64 o.n] 52)) w.heap.size 52 #[.int .i64 o.kind,.int .i64 o.reg,.int .i64 o.n]):=Blk.new w _ _;simp only [mA,Bool.or_eq_false_iff] at h;obtain ⟨⟨⟨h5,h6⟩,h7⟩,h10⟩:=h;have hva:=λwz=>rI o wz;cases hv:aC o;all_goals rw [hv] at hva;have HVA:=aA hva;clear hva
  · have HV:=aA (show bY o=⟨#[]⟩ by simp [bY,hv]);go_enter Tryz.func133,Tryz.ntmps133;go_wp2_with (go_at_call 179;refine (HVA.out _).mono ?_;rintro e w1 ⟨rfl,hb⟩;have HB:=aA (HB0.out.trans (hb.mono HB0.out.size));clear hb);go_ret;exact ⟨pD HV.out.symm,HB.out⟩
  · have HV:=aA (show bY o=aQ o.kind o.reg by simp [bY,hv]);go_enter Tryz.func133,Tryz.ntmps133
    go_wp2_with (first | (go_at_call 179;refine (HVA.out _).mono ?_;rintro e w1 ⟨rfl,hb⟩;have HB:=aA (HB0.out.trans (hb.mono HB0.out.size));have c0:w1.cell? ⟨w.heap.size,0,none⟩=some (.int .i64 o.kind):=(hb.cell (p:=⟨w.heap.size,0,none⟩) HK.out.lt).trans (HK.out.cell 0);have c1:w1.cell? ⟨w.heap.size,1,none⟩=some (.int .i64 o.reg):=(hb.cell (p:=⟨w.heap.size,1,none⟩) HK.out.lt).trans (HK.out.cell 1);clear hb)
                       | (go_at_call 180;refine (sY _ _ _).mono ?_;rintro e w2 ⟨rfl,hb⟩;have HB2:=aA (HB.out.trans (hb.mono HB.out.size));clear hb))
    go_ret;exact ⟨pD HV.out.symm,HB2.out⟩
def eP (o:Opd):ByteArray:=if o.kind==5 then (if o.reg==5 then ⟨#[40,73,88,43,100,41]⟩ else ⟨#[40,73,89,43,100,41]⟩) else if o.kind==6 then ⟨#[110]⟩ else if o.kind==7 then ⟨#[40,110,41]⟩ else if o.kind==10 then ⟨#[101]⟩ else bY o
theorem fY {k r:Int} (h:((aQ k r).toList==[])=false):0<=r/\r < 9:=by
  constructor
  · refine Int.not_lt.1 λhr=>?_;rw [show aQ k r=⟨#[]⟩ by simp [aQ,dZ,hr]] at h;exact absurd h (by decide+kernel)
  · refine Int.not_le.1 λhr=>?_;have hl:(dM k)[r.toNat]?=none:=(by have:=eZ k;simp;omega);rw [show aQ k r=⟨#[]⟩ by simp [aQ,dZ,hl]] at h;exact absurd h (by decide+kernel)
theorem mark_1 (r n:Int) (h:aC ⟨1,r,n⟩=true):fM ⟨1,r,n⟩=eP ⟨1,r,n⟩:=by
  have hok:aZ ⟨1,r,n⟩=true:=by rw [iL];exact h
  have hn:((aQ 1 r).toList==[])=false:=by
    cases hh:((aQ 1 r).toList==[])
    · rfl
    · simp only [aC,hh] at h;exact absurd h (by simp)
  obtain ⟨h0,h9⟩:=fY hn;have hr:r=0\/r=1\/r=2\/r=3\/r=4\/r=5\/r=6\/r=7\/r=8:=by omega
  clear h0 h9;have e1:eP ⟨1,r,n⟩=aQ 1 r:=by show bY ⟨1,r,n⟩=_;simp only [bY,h,if_true]
  have e2:fM ⟨1,r,n⟩=(aG 1).nm r.toNat:=by show dF ⟨1,r,n⟩=_;simp only [dF,hok,if_true]
  exact tX48
theorem mark_2 (r n:Int) (h:aC ⟨2,r,n⟩=true):fM ⟨2,r,n⟩=eP ⟨2,r,n⟩:=by
  have hok:aZ ⟨2,r,n⟩=true:=by rw [iL];exact h
  have hn:((aQ 2 r).toList==[])=false:=by
    cases hh:((aQ 2 r).toList==[])
    · rfl
    · simp only [aC,hh] at h;exact absurd h (by simp)
  obtain ⟨h0,h9⟩:=fY hn;have hr:r=0\/r=1\/r=2\/r=3\/r=4\/r=5\/r=6\/r=7\/r=8:=by omega
  clear h0 h9;have e1:eP ⟨2,r,n⟩=aQ 2 r:=by show bY ⟨2,r,n⟩=_;simp only [bY,h,if_true]
  have e2:fM ⟨2,r,n⟩=(aG 2).nm r.toNat:=by show dF ⟨2,r,n⟩=_;simp only [dF,hok,if_true]
  exact tX48
theorem mark_3 (r n:Int) (h:aC ⟨3,r,n⟩=true):fM ⟨3,r,n⟩=eP ⟨3,r,n⟩:=by
  have hok:aZ ⟨3,r,n⟩=true:=by rw [iL];exact h
  have hn:((aQ 3 r).toList==[])=false:=by
    cases hh:((aQ 3 r).toList==[])
    · rfl
    · simp only [aC,hh] at h;exact absurd h (by simp)
  obtain ⟨h0,h9⟩:=fY hn;have hr:r=0\/r=1\/r=2\/r=3\/r=4\/r=5\/r=6\/r=7\/r=8:=by omega
  clear h0 h9;have e1:eP ⟨3,r,n⟩=aQ 3 r:=by show bY ⟨3,r,n⟩=_;simp only [bY,h,if_true]
  have e2:fM ⟨3,r,n⟩=(aG 3).nm r.toNat:=by show dF ⟨3,r,n⟩=_;simp only [dF,hok,if_true]
  exact tX48
theorem mark_4 (r n:Int) (h:aC ⟨4,r,n⟩=true):fM ⟨4,r,n⟩=eP ⟨4,r,n⟩:=by
  have hok:aZ ⟨4,r,n⟩=true:=by rw [iL];exact h
  have hn:((aQ 4 r).toList==[])=false:=by
    cases hh:((aQ 4 r).toList==[])
    · rfl
    · simp only [aC,hh] at h;exact absurd h (by simp)
  obtain ⟨h0,h9⟩:=fY hn;have hr:r=0\/r=1\/r=2\/r=3\/r=4\/r=5\/r=6\/r=7\/r=8:=by omega
  clear h0 h9;have e1:eP ⟨4,r,n⟩=aQ 4 r:=by show bY ⟨4,r,n⟩=_;simp only [bY,h,if_true]
  have e2:fM ⟨4,r,n⟩=JF ((aG 4).nm r.toNat):=by show iU ⟨4,r,n⟩=_;simp only [iU,hok,if_true]
  exact tX48
theorem mark_5 (r n:Int) (h:aC ⟨5,r,n⟩=true):fM ⟨5,r,n⟩=eP ⟨5,r,n⟩:=by
  have hok:aZ ⟨5,r,n⟩=true:=by rw [iL];exact h
  have hn:((aQ 5 r).toList==[])=false:=by
    cases hh:((aQ 5 r).toList==[])
    · rfl
    · simp only [aC,hh] at h;exact absurd h (by simp)
  obtain ⟨h0,h9⟩:=fY hn;have hr:r=0\/r=1\/r=2\/r=3\/r=4\/r=5\/r=6\/r=7\/r=8:=by omega
  clear h0 h9;rw [show fM ⟨5,r,n⟩=JU r from rfl,show eP ⟨5,r,n⟩=(if r==5 then ⟨#[40,73,88,43,100,41]⟩ else ⟨#[40,73,89,43,100,41]⟩) from rfl];clear h hok;exact tX5d
theorem mark_6 (r n:Int):fM ⟨6,r,n⟩=eP ⟨6,r,n⟩:=rfl
theorem mark_7 (r n:Int):fM ⟨7,r,n⟩=eP ⟨7,r,n⟩:=rfl
theorem mark_8 (r n:Int) (h:aC ⟨8,r,n⟩=true):fM ⟨8,r,n⟩=eP ⟨8,r,n⟩:=by
  have hok:aZ ⟨8,r,n⟩=true:=by rw [iL];exact h
  have hn:((aQ 8 r).toList==[])=false:=by
    cases hh:((aQ 8 r).toList==[])
    · rfl
    · simp only [aC,hh] at h;exact absurd h (by simp)
  obtain ⟨h0,h9⟩:=fY hn;have hr:r=0\/r=1\/r=2\/r=3\/r=4\/r=5\/r=6\/r=7\/r=8:=by omega
  clear h0 h9;have e1:eP ⟨8,r,n⟩=aQ 8 r:=by show bY ⟨8,r,n⟩=_;simp only [bY,h,if_true]
  have e2:fM ⟨8,r,n⟩=(aG 8).nm r.toNat:=by show dF ⟨8,r,n⟩=_;simp only [dF,hok,if_true]
  exact tX48
theorem mark_9 (r n:Int) (h:aC ⟨9,r,n⟩=true):fM ⟨9,r,n⟩=eP ⟨9,r,n⟩:=by
  have hok:aZ ⟨9,r,n⟩=true:=by rw [iL];exact h
  have hn:((aQ 9 r).toList==[])=false:=by
    cases hh:((aQ 9 r).toList==[])
    · rfl
    · simp only [aC,hh] at h;exact absurd h (by simp)
  obtain ⟨h0,h9⟩:=fY hn;have hr:r=0\/r=1\/r=2\/r=3\/r=4\/r=5\/r=6\/r=7\/r=8:=by omega
  clear h0 h9;have e1:eP ⟨9,r,n⟩=aQ 9 r:=by show bY ⟨9,r,n⟩=_;simp only [bY,h,if_true]
  have e2:fM ⟨9,r,n⟩=(aG 9).nm r.toNat:=by show dF ⟨9,r,n⟩=_;simp only [dF,hok,if_true]
  exact tX48
theorem mark_10 (r n:Int):fM ⟨10,r,n⟩=eP ⟨10,r,n⟩:=rfl
theorem mark_eq (o:Opd) (h:aC o=true):fM o=eP o:=by
  obtain ⟨k,r,n⟩:=o;by_cases h1:k=1
  · subst h1;exact mark_1 r n h
  by_cases h2:k=2
  · subst h2;exact mark_2 r n h
  by_cases h3:k=3
  · subst h3;exact mark_3 r n h
  by_cases h4:k=4
  · subst h4;exact mark_4 r n h
  by_cases h5:k=5
  · subst h5;exact mark_5 r n h
  by_cases h6:k=6
  · subst h6;exact mark_6 r n
  by_cases h7:k=7
  · subst h7;exact mark_7 r n
  by_cases h8:k=8
  · subst h8;exact mark_8 r n h
  by_cases h9:k=9
  · subst h9;exact mark_9 r n h
  by_cases h10:k=10
  · subst h10;exact mark_10 r n
  simp [aC,h1,h2,h3,h4,h5,h6,h7,h8,h9,h10] at h
theorem XD (o:Opd) (hf:(aG o.kind).form=242) (w:World):Calls Tryz.prog 105 #[.agg #[.int .i64 o.kind,.int .i64 o.reg,.int .i64 o.n]] w λe w'=>e=.returned (.string (iU o))/\Below w.heap.size w w':=by
  cases h:aZ o
  · rw [show iU o=⟨#[]⟩ by simp [iU,h]];exact zR o h w
  · rw [show iU o=JF ((aG o.kind).nm o.reg.toNat) by simp [iU,h]];have HB0:Hid (Below w.heap.size w (w.alloc (.cells #[.int .i64 o.kind,.int .i64 o.reg,.int .i64 o.n] 52))):=(zY _ _).alloc (zI _) _;have HK:Hid (Blk (w.alloc (.cells #[.int .i64 o.kind,.int .i64 o.reg,.int .i64 o.n] 52)) w.heap.size 52 #[.int .i64 o.kind,.int .i64 o.reg,.int .i64 o.n]):=Blk.new w _ _;have ho:=GA o h (w.alloc (.cells #[.int .i64 o.kind,.int .i64 o.reg,.int .i64 o.n] 52));simp only [fP.val] at ho;rw [hf] at ho;have HO:=aA ho;clear ho hf h;go_enter Tryz.func105,Tryz.ntmps105
    go_wp2_with (first | (go_at_call 151;refine HO.out.mono ?_;rintro e w1 ⟨rfl,hb⟩;have HB:=aA (HB0.out.trans (hb.mono HB0.out.size));have c2:w1.cell? ⟨w.heap.size,2,none⟩=some (.int .i64 o.n):=(hb.cell (p:=⟨w.heap.size,2,none⟩) HK.out.lt).trans (HK.out.cell 2);have hlt:w.heap.size < w1.heap.size:=vB HK.out.lt hb.size;clear hb)
                       | (go_at_call 242;refine (PA _ _ _ (qJ (YO _ _) (by decide))).mono ?_;rintro e w2 ⟨rfl,rfl⟩))
    go_ret;exact ⟨rfl,HB.out.alloc HB.out.size _⟩
theorem text_any (o:Opd) (h:mA o=false) (w:World):Calls Tryz.prog 105 #[.agg #[.int .i64 o.kind,.int .i64 o.reg,.int .i64 o.n]] w λe w'=>e=.returned (.string (zB o))/\Below w.heap.size w w':=by
  cases hk:cR o.kind
  · have ho:aZ o=false:=(by simp [aZ,hk]);rw [show zB o=⟨#[]⟩ by simp [zB,iU,dF,ho]];exact zR o ho w
  · obtain ⟨k,r,n⟩:=o;dsimp only at hk;simp only [cR,Bool.or_eq_true,beq_iff_eq] at hk;rcases hk with ((((((((rfl | rfl) | rfl) | rfl) | rfl) | rfl) | rfl) | rfl) | rfl) | rfl
    · exact jC ⟨1,r,n⟩ rfl w
    · exact jC ⟨2,r,n⟩ rfl w
    · exact jC ⟨3,r,n⟩ rfl w
    · exact XD ⟨4,r,n⟩ rfl w
    · exact absurd h (by simp [mA])
    · exact absurd h (by simp [mA])
    · exact absurd h (by simp [mA])
    · exact jC ⟨8,r,n⟩ rfl w
    · exact jC ⟨9,r,n⟩ rfl w
    · exact absurd h (by simp [mA])
def WV (l:List ByteArray) (sep:ByteArray):List UInt8:=Lib.join (l.map (·.data.toList)) sep.data.toList
theorem join_any (p:aB) (v:Value) (l:List ByteArray) (sep:ByteArray) (w:World) (h:SlR eN w p v l) (hN:l.length<=140737488355328) (hlen:(WV l sep).length<=140737488355328):
    Calls Tryz.prog 106 #[v,.string sep] w λe w'=>(∃j:ByteArray,e=.returned (.string j)/\j.data.toList=WV l sep)/\Below w.heap.size w w':=by
  obtain ⟨a,c,rfl,hc,_,g⟩:=h.str;cases l with
  | nil=>refine (Tryz.strings_Join_none a c sep w).mono ?_;rintro e w' ⟨rfl,rfl⟩;exact ⟨⟨_,rfl,by simp [WV,Lib.join_nil]⟩,zY _ _⟩
  | cons x xs=>
    obtain ⟨b,o,rfl,_,hx⟩:=g 0 x rfl;refine (Tryz.strings_Join b o c (x::xs) sep w (λj y hy=>?_) (QI _ _ hx) hN hc hlen).mono ?_
    · obtain ⟨b',o',e,_,hy'⟩:=g j y hy;injection e with e;injection e with e1 e2;subst e1 e2;exact hy'
    · rintro e w' ⟨rfl,hb⟩;exact ⟨⟨_,rfl,rfl⟩,hb⟩
end Go.Proofs.YtpigbggoiipmhaaGreatDoor
namespace Go.Proofs.YtpigbggoiipmhaaGreatDoor
open Go.RowKit Go.Shelf Go.Sort
theorem EW {o:Opd} (h:aC o=true):cN o.n:=by
 unfold aC at h;unfold cN;split at h
 ·have:=eq_of_beq (xS.1 h).2;omega
 ·split at h
  ·have h1:=jU (xS.1 h).2;have h2:=jU (xS.1 (xS.1 h).1).2;omega
  ·split at h
   ·have h1:=jU (xS.1 h).2;have h2:=jU (xS.1 (xS.1 h).1).2;omega
   ·split at h
    ·have h1:=jU (xS.1 h).2;have h2:=jU (xS.1 (xS.1 h).1).2;omega
    ·split at h
     ·have h1:=jU (xS.1 h).2;have h2:=jU (xS.1 (xS.1 h).1).2;omega
     ·cases h
theorem check_fits {x:Ins} (h:bH x=0):∀y∈x.args,cN y.n:=by
 unfold bH at h;split at h
 ·cases h
 ·split at h
  ·cases h
  ·split at h
   ·rename_i h2;exact λy hy=>EW (z1A.1 h2 y hy)
   ·cases h
end Go.Proofs.YtpigbggoiipmhaaGreatDoor
