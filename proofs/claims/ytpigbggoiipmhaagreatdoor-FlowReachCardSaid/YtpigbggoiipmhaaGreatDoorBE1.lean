/-
  Go's data in memory, operands, instructions, append, copies, words of a text. The canonical form: canon.Of and what it computes. Marks, numbers and shapes of instructions, the program's and the references'. Conditions: sizes.
-/
import Derived.Test.YtpigbggoiipmhaaGreatDoorBA8
import Derived.Test.YtpigbggoiipmhaaGreatDoorBA7
namespace Go.Proofs.YtpigbggoiipmhaaGreatDoor
open Go.RowKit
theorem oQ {l:List ByteArray} {s:ByteArray} {k:Nat} (hk:k < l.length) (h:(l[k].toList==s.toList)=true):inL l s=true:=by unfold inL;rw [z0H];exact ⟨l[k],z0J _,h⟩
set_option maxHeartbeats 400000
theorem gK (p:aB) (v:Value) (l:List ByteArray) (s:ByteArray) (w:World) (h1:SlR eN w p v l):
  Calls Tryz.prog 131 #[v,.string s] w λe w'=>e=.returned (.bool (inL l s))/\w=w':=by
 obtain ⟨a1,c1,rfl,hc1,hm1,g1⟩:=h1.str;clear h1;go_enter Tryz.func131,Tryz.ntmps131;go_wp2;go_loop [5] (λi=>∃k:Nat,k<=l.length/\i=.int .i64 k/\inL l s=inL (l.drop k) s) (λi=>l.length - (intOf i).toNat);case atStart=>exact ⟨0,YD _,rfl,rfl⟩
 case round=>
  obtain ⟨k,hk,rfl,ht⟩:=hrel;have HT:=aA ht;clear ht;by_cases hlt:k < l.length
  ·obtain ⟨b1,o1,rfl,_,d1⟩:=g1 k l[k] (zL hlt);clear g1;have HD:=aA (ZX hlt);have HY:Hid ((l[k].toList==s.toList)=true->inL l s=true):=oQ hlt;generalize l[k]=x at *;go_wp2
   ·go_ret;exact ⟨aF (HY.out (by assumption)).symm,rfl⟩
   ·go_round;case rel=>exact ⟨k+1,by omega,by go_num,by rw [HT.out,HD.out];simp only [inL,List.any_cons];simp [*]⟩
    case measure=>simp [intOf];omega
  ·go_wp2;go_ret;exact ⟨aF (by rw [HT.out,VA (by omega)];rfl),rfl⟩
theorem tB (p:aB) (x:Ins) (v:Value) (w:World) (h:SlR aM w p v x.args):
  Calls Tryz.prog 132 #[.agg #[.string x.op,v]] w λe w'=>e=.returned (.int .i64 (bW x))/\Below w.heap.size w w':=by
 obtain ⟨s,l⟩:=x;dsimp only at h;obtain ⟨a,c,rfl,hc,hm,g⟩:=h.opd;clear h;have HF:Hid (∀(wx:World) (b:Nat),b=wx.heap.size->SlR eN (World.alloc wx (.cells #[.string ⟨#[66,73,84]⟩,.string ⟨#[82,69,83]⟩,.string ⟨#[83,69,84]⟩,.string ⟨#[73,77]⟩,.string ⟨#[82,83,84]⟩,.string ⟨#[79,85,84]⟩] 9)) (λ_=>True) (.slice (some ⟨b,0,none⟩) 6 6) iP):=λwx b hb=>kB wx 9 (λ_=>True) iP b hb trivial (by simp [iP,maxLen]);have HB:∀A B:Obj,Below w.heap.size w ((w.alloc A).alloc B):=λA B=>((zY _ _).alloc (zI _) _).alloc (by simp) _;cases hz:inL iP s
 ·cases h1:(s.toList==[74,80])
  ·cases h2:(s.toList==[67,65,76,76])
   ·cases h3:(s.toList==[76,68])
    ·clear g;have HV:=aA (show bW ⟨s,l⟩=1 by simp [bW,hz,h1,h2,h3]);exact tX27
    ·cases l with
     | nil=>clear g;have HV:=aA (show bW ⟨s,[]⟩=1 by simp [bW,hz,h1,h2,h3,uA]);go_enter Tryz.func132,Tryz.ntmps132;go_wp2_with (go_at_call 131;refine (gK _ _ iP _ _ (HF.out _ _ (by simp))).mono ?_;rintro e w' ⟨rfl,rfl⟩);go_ret;exact ⟨bK HV.out.symm,HB _ _⟩
     | cons x l=>
      obtain ⟨b,o,rfl,_,d1,d2,d3⟩:=g 0 x rfl;clear g;simp only [Nat.zero_mul,Nat.add_zero] at d1;clear d2 d3;have hbl:b < w.heap.size:=QI w _ d1;have hk0:(0:Int) < ((x::l).length:Int):=(by simp);have hk1:0 < (x::l).length:=(by simp);cases h4:(x.kind==3)
      ·have HV:=aA (show bW ⟨s,x::l⟩=1 by simp [bW,hz,h1,h2,h3,uA,h4]);exact tX22
      ·have HV:=aA (show bW ⟨s,x::l⟩=2 by simp [bW,hz,h1,h2,h3,uA,h4]);exact tX22
   ·clear g;have HV:=aA (show bW ⟨s,l⟩=2 by simp [bW,hz,h1,h2]);exact tX27
  ·clear g;have HV:=aA (show bW ⟨s,l⟩=2 by simp [bW,hz,h1]);exact tX27
 ·clear g;have HV:=aA (show bW ⟨s,l⟩=0 by simp [bW,hz]);exact tX27
end Go.Proofs.YtpigbggoiipmhaaGreatDoor
namespace Go.Proofs.YtpigbggoiipmhaaGreatDoor
open Go.RowKit Go.Sort
end Go.Proofs.YtpigbggoiipmhaaGreatDoor
namespace Go.Proofs.YtpigbggoiipmhaaGreatDoor
open Go.RowKit
end Go.Proofs.YtpigbggoiipmhaaGreatDoor
namespace Go.Proofs.YtpigbggoiipmhaaGreatDoor
open Go.RowKit Go.Sort
end Go.Proofs.YtpigbggoiipmhaaGreatDoor
namespace Go.Proofs.YtpigbggoiipmhaaGreatDoor
open Go.RowKit
theorem VZ:inL iM ⟨#[76,68]⟩=false:=by decide+kernel
theorem XB:inL iS ⟨#[76,68]⟩=false:=by decide+kernel
theorem op_of {s:ByteArray} {l:List UInt8} (h:(s.toList==l)=true):s=⟨l.toArray⟩:=gA ((eq_of_beq h).trans (dK l).symm)
theorem TM {s:ByteArray} {l:List Opd} (h1:inL iM s=false) (h2:inL iS s=false):cP s l=l:=by
 match l with
 | []=>rfl
 | [x]=>simp [cP,h2]
 | [x,y]=>simp [cP,h1]
 | _::_::_::_=>rfl
theorem exch_no {s:ByteArray} {l:List Opd} (h:(s.toList==[69,88])=false):gI s l=l:=by simp [gI,h]
theorem RD {s:ByteArray} (l m:List Opd) (h:(s.toList==[76,68])=false):bW ⟨s,l⟩=bW ⟨s,m⟩:=by simp [bW,h]
theorem EZ (s:ByteArray) (l:List Opd):bW ⟨s,gI s (cP s l)⟩=bW ⟨s,l⟩:=by
 cases h:(s.toList==[76,68])
 ·exact RD _ _ h
 ·obtain rfl:=op_of h;rw [TM VZ XB,exch_no (by decide+kernel)]
theorem zO (s:ByteArray) (l:List Opd):eB s l=(gI s (cP s l)).map (fE (iT (bW ⟨s,l⟩))):=by unfold eB;dsimp only;rw [EZ]
end Go.Proofs.YtpigbggoiipmhaaGreatDoor
