/-
  The references' names of registers, valid operands, the two Checks. Conditions: sizes.
-/
import Derived.Test.YtjmekllgnhkodaaGreatDoorPB
import Derived.Laws.EntriesVeiled
import Derived.Deep.DeepCutAuto
import Derived.Laws.CopyOwn
import Derived.Maps.Own
import Derived.Maps.Views
import Derived.WalkKit
import Derived.Lib.QuietBelow
import Derived.Deep.RegionHeld3
namespace Go.Proofs.YtjmekllgnhkodaaGreatDoor
set_option maxHeartbeats 16000000
set_option maxRecDepth 100000
open Go.RowKit
def regsL (k:Int):List ByteArray:=
 if k==1 then [⟨#[66]⟩,⟨#[67]⟩,⟨#[68]⟩,⟨#[69]⟩,⟨#[72]⟩,⟨#[76]⟩,⟨#[]⟩,⟨#[65]⟩] else if k==2 then [⟨#[73,88,72]⟩,⟨#[73,88,76]⟩,⟨#[73,89,72]⟩,⟨#[73,89,76]⟩] else if k==3 then [⟨#[66,67]⟩,⟨#[68,69]⟩,⟨#[72,76]⟩,⟨#[83,80]⟩,⟨#[65,70]⟩,⟨#[73,88]⟩,⟨#[73,89]⟩,⟨#[65,70,39]⟩] else if k==4 then [⟨#[40,66,67,41]⟩,⟨#[40,68,69,41]⟩,⟨#[40,72,76,41]⟩,⟨#[40,83,80,41]⟩,⟨#[]⟩,⟨#[40,73,88,41]⟩,⟨#[40,73,89,41]⟩,⟨#[]⟩,⟨#[40,67,41]⟩] else if k==5 then [⟨#[]⟩,⟨#[]⟩,⟨#[]⟩,⟨#[]⟩,⟨#[]⟩,⟨#[73,88]⟩,⟨#[73,89]⟩] else if k==8 then [⟨#[78,90]⟩,⟨#[90]⟩,⟨#[78,67]⟩,⟨#[67]⟩,⟨#[80,79]⟩,⟨#[80,69]⟩,⟨#[80]⟩,⟨#[77]⟩] else if k==9 then [⟨#[73]⟩,⟨#[82]⟩] else []
theorem regs_none (k:Int) (h1:(k==1)=false) (h2:(k==2)=false) (h3:(k==3)=false) (h4:(k==4)=false) (h5:(k==5)=false) (h8:(k==8)=false) (h9:(k==9)=false) (w:World):Calls Tryz.prog 227 #[.int .i64 k] w fun e w'=>∃v,e=.returned v∧SlR strR w' (fun _=>True) v (regsL k)∧Below w.heap.size w w':=by
 have HV:=Lib.hid (show regsL k=[] by simp only [regsL,h1,h2,h3,h4,h5,h8,h9];rfl)
 go_enter Tryz.func227,Tryz.ntmps227
 go_wp2
 go_ret
 exact ⟨_,rfl,by rw [HV.out];exact SlR.nil _ _ _,Below.refl _ _⟩
theorem regs_any (k:Int) (w:World):Calls Tryz.prog 227 #[.int .i64 k] w fun e w'=>∃v,e=.returned v∧SlR strR w' (fun _=>True) v (regsL k)∧Below w.heap.size w w':=by
 by_cases hk:k=1∨k=2∨k=3∨k=4∨k=5∨k=8∨k=9
 ·have HL:=Lib.hid (fun (W:World) (e:TypeId)=>slR_strs W e (fun _=>True) (regsL k) W.heap.size rfl trivial (by rcases hk with rfl | rfl | rfl | rfl | rfl | rfl | rfl<;>decide))
  rcases hk with rfl | rfl | rfl | rfl | rfl | rfl | rfl
  all_goals
   go_enter Tryz.func227,Tryz.ntmps227
   go_wp2
   go_ret
   exact ⟨_,rfl,HL.out _ _,(Below.refl _ _).alloc (Nat.le_refl _) _⟩
 ·simp only [not_or] at hk
  obtain ⟨h1,h2,h3,h4,h5,h8,h9⟩:=hk
  exact regs_none k (by simpa using h1) (by simpa using h2) (by simpa using h3) (by simpa using h4) (by simpa using h5) (by simpa using h8) (by simpa using h9) w
def nameL (l:List ByteArray) (r:Int):ByteArray:=if r < 0 then ⟨#[]⟩ else (l[r.toNat]?).getD ⟨#[]⟩
def nameOf (k r:Int):ByteArray:=nameL (regsL k) r
theorem name_any (k r:Int) (w:World):Calls Tryz.prog 214 #[.int .i64 k,.int .i64 r] w fun e w'=>e=.returned (.string (nameOf k r))∧Below w.heap.size w w':=by
 have HR:=Lib.hid (regs_any k w)
 cases h1:decide (r < 0)
 ·have h1:¬r < 0:=of_decide_eq_false h1
  have h0:0≤r:=by omega
  obtain ⟨n,rfl⟩:=Int.eq_ofNat_of_zero_le h0
  clear h1 h0
  cases h2:(regsL k)[n]? with
  | none=>
   have HV:=Lib.hid (show nameOf k n=⟨#[]⟩ by simp [nameOf,nameL,h2])
   have hle:(regsL k).length≤n:=by simpa using h2
   have hd:decide ((n:Int) < 0)=false:=decide_eq_false (by omega)
   have hg:decide (((regsL k).length:Int)≤n)=true:=by simp;omega
   clear h2
   go_enter Tryz.func214,Tryz.ntmps214
   go_wp2_with fail
   refine HR.out.mono ?_
   rintro e w1 ⟨v,rfl,hs,hb⟩
   obtain ⟨a,c,rfl,_⟩:=hs.str
   have HB:=Lib.hid hb
   clear hs hb
   go_wp2
   go_ret
   exact ⟨ret_str HV.out.symm,HB.out⟩
  | some s=>
   have HV:=Lib.hid (show nameOf k n=s by simp [nameOf,nameL,h2];intro h;omega)
   have H2:=Lib.hid h2
   have hlt:n < (regsL k).length:=(List.getElem?_eq_some_iff.1 h2).1
   have hd:decide ((n:Int) < 0)=false:=decide_eq_false (by omega)
   have hg:decide (((regsL k).length:Int)≤n)=false:=by simp;omega
   have hlt':(n:Int) < (regsL k).length:=by omega
   have h0':(0:Int)≤n:=by omega
   clear h2
   go_enter Tryz.func214,Tryz.ntmps214
   go_wp2_with fail
   refine HR.out.mono ?_
   rintro e w1 ⟨v,rfl,hs,hb⟩
   obtain ⟨a,c,rfl,_,_,g⟩:=hs.str
   obtain ⟨b,o,rfl,_,d1⟩:=g n s H2.out
   clear g
   have HB:=Lib.hid hb
   clear hs hb
   go_wp2
   go_ret
   exact ⟨ret_str HV.out.symm,HB.out⟩
 ·have h1:r < 0:=of_decide_eq_true h1
  have HV:=Lib.hid (show nameOf k r=⟨#[]⟩ by simp [nameOf,nameL,h1])
  have hd:decide (r < 0)=true:=by simpa using h1
  go_enter Tryz.func214,Tryz.ntmps214
  go_wp2_with fail
  refine HR.out.mono ?_
  rintro e w1 ⟨v,rfl,hs,hb⟩
  obtain ⟨a,c,rfl,_⟩:=hs.str
  have HB:=Lib.hid hb
  clear hs hb
  go_wp2
  go_ret
  exact ⟨ret_str HV.out.symm,HB.out⟩
end Go.Proofs.YtjmekllgnhkodaaGreatDoor
namespace Go.Proofs.YtjmekllgnhkodaaGreatDoor
set_option maxHeartbeats 16000000
set_option maxRecDepth 100000
open Go.RowKit
def validOpd (o:Opd):Bool:=
 if o.kind==1 || o.kind==2 || o.kind==3 || o.kind==4 || o.kind==8 || o.kind==9 then !((nameOf o.kind o.reg).toList==[])&&o.n==0
 else if o.kind==5 then !((nameOf 5 o.reg).toList==[])&&decide (-128≤o.n)&&decide (o.n≤127)
 else if o.kind==6 then o.reg==0&&decide (-32768≤o.n)&&decide (o.n≤65535)
 else if o.kind==7 then o.reg==0&&decide (0≤o.n)&&decide (o.n≤65535)
 else if o.kind==10 then o.reg==0&&decide (-128≤o.n)&&decide (o.n≤127)
 else false
theorem valid06_reg (k r n:Int) (hk:k=1∨k=2∨k=3∨k=4∨k=8∨k=9) (w:World):Calls Tryz.prog 198 #[.agg #[.int .i64 k,.int .i64 r,.int .i64 n]] w fun e w'=>e=.returned (.bool (validOpd ⟨k,r,n⟩))∧Below w.heap.size w w':=by
 have HB0:Hid (Below w.heap.size w (w.alloc (.cells #[.int .i64 k,.int .i64 r,.int .i64 n] 90))):=(Below.refl _ _).alloc (Nat.le_refl _) _
 have HK:Hid (Blk (w.alloc (.cells #[.int .i64 k,.int .i64 r,.int .i64 n] 90)) w.heap.size 90 #[.int .i64 k,.int .i64 r,.int .i64 n]):=Blk.new w _ _
 have HN:=Lib.hid (name_any k r (w.alloc (.cells #[.int .i64 k,.int .i64 r,.int .i64 n] 90)))
 have HV:Hid (validOpd ⟨k,r,n⟩=(!((nameOf k r).toList==[])&&(n==0))):=by
  rcases hk with rfl | rfl | rfl | rfl | rfl | rfl<;>exact Lib.hid (by simp only [validOpd];cases (nameOf _ r).toList==[]<;>cases n==0<;>rfl)
 generalize validOpd ⟨k,r,n⟩=V at *
 cases e0:((nameOf k r).toList==[])<;>cases e1:(n==0)
 all_goals
  rw [e0,e1] at HV
  rcases hk with rfl | rfl | rfl | rfl | rfl | rfl
 all_goals
  go_enter Tryz.func198,Tryz.ntmps198
  go_wp2_with (go_at_call 214;refine HN.out.mono ?_;rintro e w1 ⟨rfl,hb⟩;have HB:=Lib.hid hb;have a2:w1.cell? ⟨w.heap.size,2,none⟩=some (.int .i64 n):=(hb.cell (p:=⟨w.heap.size,2,none⟩) HK.out.lt).trans (HK.out.cell 2);clear hb)
  go_ret
  exact ⟨ret_bool HV.out.symm,HB0.out.trans (HB.out.mono HB0.out.size)⟩
theorem valid06_5 (r n:Int) (w:World):Calls Tryz.prog 198 #[.agg #[.int .i64 5,.int .i64 r,.int .i64 n]] w fun e w'=>e=.returned (.bool (validOpd ⟨5,r,n⟩))∧Below w.heap.size w w':=by
 have HB0:Hid (Below w.heap.size w (w.alloc (.cells #[.int .i64 5,.int .i64 r,.int .i64 n] 90))):=(Below.refl _ _).alloc (Nat.le_refl _) _
 have HK:Hid (Blk (w.alloc (.cells #[.int .i64 5,.int .i64 r,.int .i64 n] 90)) w.heap.size 90 #[.int .i64 5,.int .i64 r,.int .i64 n]):=Blk.new w _ _
 have HN:=Lib.hid (name_any 5 r (w.alloc (.cells #[.int .i64 5,.int .i64 r,.int .i64 n] 90)))
 cases e0:((nameOf 5 r).toList==[])
 ·cases e1:decide (-128≤n)
  ·have HV:=Lib.hid (show validOpd ⟨5,r,n⟩=false by simp only [validOpd,e0,e1];rfl)
   go_enter Tryz.func198,Tryz.ntmps198
   go_wp2_with (go_at_call 214;refine HN.out.mono ?_;rintro e w1 ⟨rfl,hb⟩;have HB:=Lib.hid hb;have a2:w1.cell? ⟨w.heap.size,2,none⟩=some (.int .i64 n):=(hb.cell (p:=⟨w.heap.size,2,none⟩) HK.out.lt).trans (HK.out.cell 2);clear hb)
   go_ret
   exact ⟨ret_bool HV.out.symm,HB0.out.trans (HB.out.mono HB0.out.size)⟩
  ·cases e2:decide (n≤127)
   ·have HV:=Lib.hid (show validOpd ⟨5,r,n⟩=false by simp only [validOpd,e0,e1,e2];rfl)
    go_enter Tryz.func198,Tryz.ntmps198
    go_wp2_with (go_at_call 214;refine HN.out.mono ?_;rintro e w1 ⟨rfl,hb⟩;have HB:=Lib.hid hb;have a2:w1.cell? ⟨w.heap.size,2,none⟩=some (.int .i64 n):=(hb.cell (p:=⟨w.heap.size,2,none⟩) HK.out.lt).trans (HK.out.cell 2);clear hb)
    go_ret
    exact ⟨ret_bool HV.out.symm,HB0.out.trans (HB.out.mono HB0.out.size)⟩
   ·have HV:=Lib.hid (show validOpd ⟨5,r,n⟩=true by simp only [validOpd,e0,e1,e2];rfl)
    go_enter Tryz.func198,Tryz.ntmps198
    go_wp2_with (go_at_call 214;refine HN.out.mono ?_;rintro e w1 ⟨rfl,hb⟩;have HB:=Lib.hid hb;have a2:w1.cell? ⟨w.heap.size,2,none⟩=some (.int .i64 n):=(hb.cell (p:=⟨w.heap.size,2,none⟩) HK.out.lt).trans (HK.out.cell 2);clear hb)
    go_ret
    exact ⟨ret_bool HV.out.symm,HB0.out.trans (HB.out.mono HB0.out.size)⟩
 ·have HV:=Lib.hid (show validOpd ⟨5,r,n⟩=false by simp only [validOpd,e0];rfl)
  go_enter Tryz.func198,Tryz.ntmps198
  go_wp2_with (go_at_call 214;refine HN.out.mono ?_;rintro e w1 ⟨rfl,hb⟩;have HB:=Lib.hid hb;have a2:w1.cell? ⟨w.heap.size,2,none⟩=some (.int .i64 n):=(hb.cell (p:=⟨w.heap.size,2,none⟩) HK.out.lt).trans (HK.out.cell 2);clear hb)
  go_ret
  exact ⟨ret_bool HV.out.symm,HB0.out.trans (HB.out.mono HB0.out.size)⟩
theorem valid06_6 (r n:Int) (w:World):Calls Tryz.prog 198 #[.agg #[.int .i64 6,.int .i64 r,.int .i64 n]] w fun e w'=>e=.returned (.bool (validOpd ⟨6,r,n⟩))∧Below w.heap.size w w':=by
 have HB0:Hid (Below w.heap.size w (w.alloc (.cells #[.int .i64 6,.int .i64 r,.int .i64 n] 90))):=(Below.refl _ _).alloc (Nat.le_refl _) _
 cases e0:(r==0)
 ·have HV:=Lib.hid (show validOpd ⟨6,r,n⟩=false by simp only [validOpd,e0];rfl)
  go_enter Tryz.func198,Tryz.ntmps198
  go_wp2
  go_ret
  exact ⟨ret_bool HV.out.symm,HB0.out⟩
 ·cases e1:decide (-32768≤n)
  ·have HV:=Lib.hid (show validOpd ⟨6,r,n⟩=false by simp only [validOpd,e0,e1];rfl)
   go_enter Tryz.func198,Tryz.ntmps198
   go_wp2
   go_ret
   exact ⟨ret_bool HV.out.symm,HB0.out⟩
  ·cases e2:decide (n≤65535)
   ·have HV:=Lib.hid (show validOpd ⟨6,r,n⟩=false by simp only [validOpd,e0,e1,e2];rfl)
    go_enter Tryz.func198,Tryz.ntmps198
    go_wp2
    go_ret
    exact ⟨ret_bool HV.out.symm,HB0.out⟩
   ·have HV:=Lib.hid (show validOpd ⟨6,r,n⟩=true by simp only [validOpd,e0,e1,e2];rfl)
    go_enter Tryz.func198,Tryz.ntmps198
    go_wp2
    go_ret
    exact ⟨ret_bool HV.out.symm,HB0.out⟩
theorem valid06_7 (r n:Int) (w:World):Calls Tryz.prog 198 #[.agg #[.int .i64 7,.int .i64 r,.int .i64 n]] w fun e w'=>e=.returned (.bool (validOpd ⟨7,r,n⟩))∧Below w.heap.size w w':=by
 have HB0:Hid (Below w.heap.size w (w.alloc (.cells #[.int .i64 7,.int .i64 r,.int .i64 n] 90))):=(Below.refl _ _).alloc (Nat.le_refl _) _
 cases e0:(r==0)
 ·have HV:=Lib.hid (show validOpd ⟨7,r,n⟩=false by simp only [validOpd,e0];rfl)
  go_enter Tryz.func198,Tryz.ntmps198
  go_wp2
  go_ret
  exact ⟨ret_bool HV.out.symm,HB0.out⟩
 ·cases e1:decide (0≤n)
  ·have HV:=Lib.hid (show validOpd ⟨7,r,n⟩=false by simp only [validOpd,e0,e1];rfl)
   go_enter Tryz.func198,Tryz.ntmps198
   go_wp2
   go_ret
   exact ⟨ret_bool HV.out.symm,HB0.out⟩
  ·cases e2:decide (n≤65535)
   ·have HV:=Lib.hid (show validOpd ⟨7,r,n⟩=false by simp only [validOpd,e0,e1,e2];rfl)
    go_enter Tryz.func198,Tryz.ntmps198
    go_wp2
    go_ret
    exact ⟨ret_bool HV.out.symm,HB0.out⟩
   ·have HV:=Lib.hid (show validOpd ⟨7,r,n⟩=true by simp only [validOpd,e0,e1,e2];rfl)
    go_enter Tryz.func198,Tryz.ntmps198
    go_wp2
    go_ret
    exact ⟨ret_bool HV.out.symm,HB0.out⟩
theorem valid06_10 (r n:Int) (w:World):Calls Tryz.prog 198 #[.agg #[.int .i64 10,.int .i64 r,.int .i64 n]] w fun e w'=>e=.returned (.bool (validOpd ⟨10,r,n⟩))∧Below w.heap.size w w':=by
 have HB0:Hid (Below w.heap.size w (w.alloc (.cells #[.int .i64 10,.int .i64 r,.int .i64 n] 90))):=(Below.refl _ _).alloc (Nat.le_refl _) _
 cases e0:(r==0)
 ·have HV:=Lib.hid (show validOpd ⟨10,r,n⟩=false by simp only [validOpd,e0];rfl)
  go_enter Tryz.func198,Tryz.ntmps198
  go_wp2
  go_ret
  exact ⟨ret_bool HV.out.symm,HB0.out⟩
 ·cases e1:decide (-128≤n)
  ·have HV:=Lib.hid (show validOpd ⟨10,r,n⟩=false by simp only [validOpd,e0,e1];rfl)
   go_enter Tryz.func198,Tryz.ntmps198
   go_wp2
   go_ret
   exact ⟨ret_bool HV.out.symm,HB0.out⟩
  ·cases e2:decide (n≤127)
   ·have HV:=Lib.hid (show validOpd ⟨10,r,n⟩=false by simp only [validOpd,e0,e1,e2];rfl)
    go_enter Tryz.func198,Tryz.ntmps198
    go_wp2
    go_ret
    exact ⟨ret_bool HV.out.symm,HB0.out⟩
   ·have HV:=Lib.hid (show validOpd ⟨10,r,n⟩=true by simp only [validOpd,e0,e1,e2];rfl)
    go_enter Tryz.func198,Tryz.ntmps198
    go_wp2
    go_ret
    exact ⟨ret_bool HV.out.symm,HB0.out⟩
theorem valid06_no (k r n:Int) (h1:(k==1)=false) (h2:(k==2)=false) (h3:(k==3)=false) (h4:(k==4)=false) (h8:(k==8)=false) (h9:(k==9)=false) (h5:(k==5)=false) (h6:(k==6)=false) (h7:(k==7)=false) (h10:(k==10)=false) (w:World):Calls Tryz.prog 198 #[.agg #[.int .i64 k,.int .i64 r,.int .i64 n]] w fun e w'=>e=.returned (.bool (validOpd ⟨k,r,n⟩))∧Below w.heap.size w w':=by
 have HB0:Hid (Below w.heap.size w (w.alloc (.cells #[.int .i64 k,.int .i64 r,.int .i64 n] 90))):=(Below.refl _ _).alloc (Nat.le_refl _) _
 have HV:=Lib.hid (show validOpd ⟨k,r,n⟩=false by simp only [validOpd,h1,h2,h3,h4,h8,h9,h5,h6,h7,h10];rfl)
 go_enter Tryz.func198,Tryz.ntmps198
 go_wp2
 go_ret
 exact ⟨ret_bool HV.out.symm,HB0.out⟩
theorem valid06_any (o:Opd) (w:World):Calls Tryz.prog 198 #[.agg #[.int .i64 o.kind,.int .i64 o.reg,.int .i64 o.n]] w fun e w'=>e=.returned (.bool (validOpd o))∧Below w.heap.size w w':=by
 obtain ⟨k,r,n⟩:=o
 dsimp only
 by_cases h1:k=1
 ·subst h1;exact valid06_reg _ r n (.inl rfl) w
 by_cases h2:k=2
 ·subst h2;exact valid06_reg _ r n (.inr (.inl rfl)) w
 by_cases h3:k=3
 ·subst h3;exact valid06_reg _ r n (.inr (.inr (.inl rfl))) w
 by_cases h4:k=4
 ·subst h4;exact valid06_reg _ r n (.inr (.inr (.inr (.inl rfl)))) w
 by_cases h8:k=8
 ·subst h8;exact valid06_reg _ r n (.inr (.inr (.inr (.inr (.inl rfl))))) w
 by_cases h9:k=9
 ·subst h9;exact valid06_reg _ r n (.inr (.inr (.inr (.inr (.inr rfl))))) w
 by_cases h5:k=5
 ·subst h5;exact valid06_5 r n w
 by_cases h6:k=6
 ·subst h6;exact valid06_6 r n w
 by_cases h7:k=7
 ·subst h7;exact valid06_7 r n w
 by_cases h10:k=10
 ·subst h10;exact valid06_10 r n w
 exact valid06_no k r n (by simpa using h1) (by simpa using h2) (by simpa using h3) (by simpa using h4) (by simpa using h8) (by simpa using h9) (by simpa using h5) (by simpa using h6) (by simpa using h7) (by simpa using h10) w
end Go.Proofs.YtjmekllgnhkodaaGreatDoor
namespace Go.Proofs.YtjmekllgnhkodaaGreatDoor
set_option maxHeartbeats 16000000
set_option maxRecDepth 100000
open Go.RowKit
theorem results_row_tmp {P:Program} {fn:Func} {p u:Tmp} {ty:TypeId} (h:fn.results=#[.cell p ty,.tmp u]) (tmps:Array Value) (w:World) (g:Nat) (t:TypeId) (cs:Array Value) (fr:Nat × Nat) (d:TypeDesc)
  (hp:tmps.getD p undef=.pointer (some ⟨g,0,none⟩)) (hg:w.heap[g]?=some (.cells cs t fr))
  (hu:P.underlying ty=some d) (hd:(match d with | .struct _ | .array _ _=>true | _=>false)=true) (hi:(P.info? ty).map (·.size)=some cs.size):
  (results fn tmps).run P w=.ok (.tuple #[.agg cs,tmps.getD u undef]) w:=by
 have hp':tmps[p]?.getD undef=.pointer (some ⟨g,0,none⟩):=by simpa using hp
 simp [results,h,hp',asAddr,run_loadVar_row w g t ty cs fr d hg hu hd hi]
theorem results_row_tmp2 {P:Program} {fn:Func} {p u v:Tmp} {ty:TypeId} (h:fn.results=#[.cell p ty,.tmp u,.tmp v]) (tmps:Array Value) (w:World) (g:Nat) (t:TypeId) (cs:Array Value) (fr:Nat × Nat) (d:TypeDesc)
  (hp:tmps.getD p undef=.pointer (some ⟨g,0,none⟩)) (hg:w.heap[g]?=some (.cells cs t fr))
  (hu:P.underlying ty=some d) (hd:(match d with | .struct _ | .array _ _=>true | _=>false)=true) (hi:(P.info? ty).map (·.size)=some cs.size):
  (results fn tmps).run P w=.ok (.tuple #[.agg cs,tmps.getD u undef,tmps.getD v undef]) w:=by
 have hp':tmps[p]?.getD undef=.pointer (some ⟨g,0,none⟩):=by simpa using hp
 simp [results,h,hp',asAddr,run_loadVar_row w g t ty cs fr d hg hu hd hi]
structure KindD where
 names:List ByteArray
 lo:Int
 hi:Int
 form:FuncId
def KindD.nm (d:KindD) (i:Nat):ByteArray:=(d.names[i]?).getD ⟨#[]⟩
def KindD.val (d:KindD):Value:=.agg #[.string (d.nm 0),.string (d.nm 1),.string (d.nm 2),.string (d.nm 3),.string (d.nm 4),.string (d.nm 5),.string (d.nm 6),.string (d.nm 7),.string (d.nm 8),.int .i64 d.lo,.int .i64 d.hi,.func (.func d.form) #[] #[]]
def kindNil:Value:=.agg #[.string ⟨#[]⟩,.string ⟨#[]⟩,.string ⟨#[]⟩,.string ⟨#[]⟩,.string ⟨#[]⟩,.string ⟨#[]⟩,.string ⟨#[]⟩,.string ⟨#[]⟩,.string ⟨#[]⟩,.int .i64 0,.int .i64 0,.nilFunc]
def kindOk (k:Int):Bool:=k==1 || k==2 || k==3 || k==4 || k==5 || k==6 || k==7 || k==8 || k==9 || k==10
def kindD (k:Int):KindD:=
 if k==1 then ⟨[⟨#[66]⟩,⟨#[67]⟩,⟨#[68]⟩,⟨#[69]⟩,⟨#[72]⟩,⟨#[76]⟩,⟨#[]⟩,⟨#[65]⟩,⟨#[]⟩],0,0,215⟩ else if k==2 then ⟨[⟨#[73,88,72]⟩,⟨#[73,88,76]⟩,⟨#[73,89,72]⟩,⟨#[73,89,76]⟩,⟨#[]⟩,⟨#[]⟩,⟨#[]⟩,⟨#[]⟩,⟨#[]⟩],0,0,215⟩ else if k==3 then ⟨[⟨#[66,67]⟩,⟨#[68,69]⟩,⟨#[72,76]⟩,⟨#[83,80]⟩,⟨#[65,70]⟩,⟨#[73,88]⟩,⟨#[73,89]⟩,⟨#[65,70,39]⟩,⟨#[]⟩],0,0,215⟩ else if k==4 then ⟨[⟨#[66,67]⟩,⟨#[68,69]⟩,⟨#[72,76]⟩,⟨#[83,80]⟩,⟨#[]⟩,⟨#[73,88]⟩,⟨#[73,89]⟩,⟨#[]⟩,⟨#[67]⟩],0,0,216⟩ else if k==5 then ⟨[⟨#[]⟩,⟨#[]⟩,⟨#[]⟩,⟨#[]⟩,⟨#[]⟩,⟨#[73,88]⟩,⟨#[73,89]⟩,⟨#[]⟩,⟨#[]⟩],-128,127,217⟩ else if k==6 then ⟨[⟨#[42]⟩,⟨#[]⟩,⟨#[]⟩,⟨#[]⟩,⟨#[]⟩,⟨#[]⟩,⟨#[]⟩,⟨#[]⟩,⟨#[]⟩],-32768,65535,219⟩ else if k==7 then ⟨[⟨#[42]⟩,⟨#[]⟩,⟨#[]⟩,⟨#[]⟩,⟨#[]⟩,⟨#[]⟩,⟨#[]⟩,⟨#[]⟩,⟨#[]⟩],0,65535,221⟩ else if k==8 then ⟨[⟨#[78,90]⟩,⟨#[90]⟩,⟨#[78,67]⟩,⟨#[67]⟩,⟨#[80,79]⟩,⟨#[80,69]⟩,⟨#[80]⟩,⟨#[77]⟩,⟨#[]⟩],0,0,215⟩ else if k==9 then ⟨[⟨#[73]⟩,⟨#[82]⟩,⟨#[]⟩,⟨#[]⟩,⟨#[]⟩,⟨#[]⟩,⟨#[]⟩,⟨#[]⟩,⟨#[]⟩],0,0,215⟩ else if k==10 then ⟨[⟨#[42]⟩,⟨#[]⟩,⟨#[]⟩,⟨#[]⟩,⟨#[]⟩,⟨#[]⟩,⟨#[]⟩,⟨#[]⟩,⟨#[]⟩],-128,127,222⟩ else ⟨[],0,0,0⟩
theorem find_1 (w:World):Calls Tryz.prog 199 #[.int .i64 1] w fun e w'=>e=.returned (.tuple #[(kindD 1).val,.bool true])∧Below w.heap.size w w':=by
 go_enter Tryz.func199,Tryz.ntmps199
 go_wp2
 refine bodyPost_ret (results_row_tmp rfl _ _ w.heap.size 208 #[.string ⟨#[66]⟩,.string ⟨#[67]⟩,.string ⟨#[68]⟩,.string ⟨#[69]⟩,.string ⟨#[72]⟩,.string ⟨#[76]⟩,.string ⟨#[]⟩,.string ⟨#[65]⟩,.string ⟨#[]⟩,.int .i64 (0),.int .i64 (0),.func (.func 215) #[] #[]] (0,0) _ rfl (Blk.new w _ _) Tryz.underlying208 rfl (by kernel_rfl)) rfl ⟨rfl,?_⟩
 exact (Below.refl _ _).alloc (Nat.le_refl _) _
theorem find_2 (w:World):Calls Tryz.prog 199 #[.int .i64 2] w fun e w'=>e=.returned (.tuple #[(kindD 2).val,.bool true])∧Below w.heap.size w w':=by
 go_enter Tryz.func199,Tryz.ntmps199
 go_wp2
 refine bodyPost_ret (results_row_tmp rfl _ _ w.heap.size 208 #[.string ⟨#[73,88,72]⟩,.string ⟨#[73,88,76]⟩,.string ⟨#[73,89,72]⟩,.string ⟨#[73,89,76]⟩,.string ⟨#[]⟩,.string ⟨#[]⟩,.string ⟨#[]⟩,.string ⟨#[]⟩,.string ⟨#[]⟩,.int .i64 (0),.int .i64 (0),.func (.func 215) #[] #[]] (0,0) _ rfl (Blk.new w _ _) Tryz.underlying208 rfl (by kernel_rfl)) rfl ⟨rfl,?_⟩
 exact (Below.refl _ _).alloc (Nat.le_refl _) _
theorem find_3 (w:World):Calls Tryz.prog 199 #[.int .i64 3] w fun e w'=>e=.returned (.tuple #[(kindD 3).val,.bool true])∧Below w.heap.size w w':=by
 go_enter Tryz.func199,Tryz.ntmps199
 go_wp2
 refine bodyPost_ret (results_row_tmp rfl _ _ w.heap.size 208 #[.string ⟨#[66,67]⟩,.string ⟨#[68,69]⟩,.string ⟨#[72,76]⟩,.string ⟨#[83,80]⟩,.string ⟨#[65,70]⟩,.string ⟨#[73,88]⟩,.string ⟨#[73,89]⟩,.string ⟨#[65,70,39]⟩,.string ⟨#[]⟩,.int .i64 (0),.int .i64 (0),.func (.func 215) #[] #[]] (0,0) _ rfl (Blk.new w _ _) Tryz.underlying208 rfl (by kernel_rfl)) rfl ⟨rfl,?_⟩
 exact (Below.refl _ _).alloc (Nat.le_refl _) _
theorem find_4 (w:World):Calls Tryz.prog 199 #[.int .i64 4] w fun e w'=>e=.returned (.tuple #[(kindD 4).val,.bool true])∧Below w.heap.size w w':=by
 go_enter Tryz.func199,Tryz.ntmps199
 go_wp2
 refine bodyPost_ret (results_row_tmp rfl _ _ w.heap.size 208 #[.string ⟨#[66,67]⟩,.string ⟨#[68,69]⟩,.string ⟨#[72,76]⟩,.string ⟨#[83,80]⟩,.string ⟨#[]⟩,.string ⟨#[73,88]⟩,.string ⟨#[73,89]⟩,.string ⟨#[]⟩,.string ⟨#[67]⟩,.int .i64 (0),.int .i64 (0),.func (.func 216) #[] #[]] (0,0) _ rfl (Blk.new w _ _) Tryz.underlying208 rfl (by kernel_rfl)) rfl ⟨rfl,?_⟩
 exact (Below.refl _ _).alloc (Nat.le_refl _) _
theorem find_5 (w:World):Calls Tryz.prog 199 #[.int .i64 5] w fun e w'=>e=.returned (.tuple #[(kindD 5).val,.bool true])∧Below w.heap.size w w':=by
 go_enter Tryz.func199,Tryz.ntmps199
 go_wp2
 refine bodyPost_ret (results_row_tmp rfl _ _ w.heap.size 208 #[.string ⟨#[]⟩,.string ⟨#[]⟩,.string ⟨#[]⟩,.string ⟨#[]⟩,.string ⟨#[]⟩,.string ⟨#[73,88]⟩,.string ⟨#[73,89]⟩,.string ⟨#[]⟩,.string ⟨#[]⟩,.int .i64 (-128),.int .i64 (127),.func (.func 217) #[] #[]] (0,0) _ rfl (Blk.new w _ _) Tryz.underlying208 rfl (by kernel_rfl)) rfl ⟨rfl,?_⟩
 exact (Below.refl _ _).alloc (Nat.le_refl _) _
theorem find_6 (w:World):Calls Tryz.prog 199 #[.int .i64 6] w fun e w'=>e=.returned (.tuple #[(kindD 6).val,.bool true])∧Below w.heap.size w w':=by
 go_enter Tryz.func199,Tryz.ntmps199
 go_wp2
 refine bodyPost_ret (results_row_tmp rfl _ _ w.heap.size 208 #[.string ⟨#[42]⟩,.string ⟨#[]⟩,.string ⟨#[]⟩,.string ⟨#[]⟩,.string ⟨#[]⟩,.string ⟨#[]⟩,.string ⟨#[]⟩,.string ⟨#[]⟩,.string ⟨#[]⟩,.int .i64 (-32768),.int .i64 (65535),.func (.func 219) #[] #[]] (0,0) _ rfl (Blk.new w _ _) Tryz.underlying208 rfl (by kernel_rfl)) rfl ⟨rfl,?_⟩
 exact (Below.refl _ _).alloc (Nat.le_refl _) _
theorem find_7 (w:World):Calls Tryz.prog 199 #[.int .i64 7] w fun e w'=>e=.returned (.tuple #[(kindD 7).val,.bool true])∧Below w.heap.size w w':=by
 go_enter Tryz.func199,Tryz.ntmps199
 go_wp2
 refine bodyPost_ret (results_row_tmp rfl _ _ w.heap.size 208 #[.string ⟨#[42]⟩,.string ⟨#[]⟩,.string ⟨#[]⟩,.string ⟨#[]⟩,.string ⟨#[]⟩,.string ⟨#[]⟩,.string ⟨#[]⟩,.string ⟨#[]⟩,.string ⟨#[]⟩,.int .i64 (0),.int .i64 (65535),.func (.func 221) #[] #[]] (0,0) _ rfl (Blk.new w _ _) Tryz.underlying208 rfl (by kernel_rfl)) rfl ⟨rfl,?_⟩
 exact (Below.refl _ _).alloc (Nat.le_refl _) _
theorem find_8 (w:World):Calls Tryz.prog 199 #[.int .i64 8] w fun e w'=>e=.returned (.tuple #[(kindD 8).val,.bool true])∧Below w.heap.size w w':=by
 go_enter Tryz.func199,Tryz.ntmps199
 go_wp2
 refine bodyPost_ret (results_row_tmp rfl _ _ w.heap.size 208 #[.string ⟨#[78,90]⟩,.string ⟨#[90]⟩,.string ⟨#[78,67]⟩,.string ⟨#[67]⟩,.string ⟨#[80,79]⟩,.string ⟨#[80,69]⟩,.string ⟨#[80]⟩,.string ⟨#[77]⟩,.string ⟨#[]⟩,.int .i64 (0),.int .i64 (0),.func (.func 215) #[] #[]] (0,0) _ rfl (Blk.new w _ _) Tryz.underlying208 rfl (by kernel_rfl)) rfl ⟨rfl,?_⟩
 exact (Below.refl _ _).alloc (Nat.le_refl _) _
theorem find_9 (w:World):Calls Tryz.prog 199 #[.int .i64 9] w fun e w'=>e=.returned (.tuple #[(kindD 9).val,.bool true])∧Below w.heap.size w w':=by
 go_enter Tryz.func199,Tryz.ntmps199
 go_wp2
 refine bodyPost_ret (results_row_tmp rfl _ _ w.heap.size 208 #[.string ⟨#[73]⟩,.string ⟨#[82]⟩,.string ⟨#[]⟩,.string ⟨#[]⟩,.string ⟨#[]⟩,.string ⟨#[]⟩,.string ⟨#[]⟩,.string ⟨#[]⟩,.string ⟨#[]⟩,.int .i64 (0),.int .i64 (0),.func (.func 215) #[] #[]] (0,0) _ rfl (Blk.new w _ _) Tryz.underlying208 rfl (by kernel_rfl)) rfl ⟨rfl,?_⟩
 exact (Below.refl _ _).alloc (Nat.le_refl _) _
theorem find_10 (w:World):Calls Tryz.prog 199 #[.int .i64 10] w fun e w'=>e=.returned (.tuple #[(kindD 10).val,.bool true])∧Below w.heap.size w w':=by
 go_enter Tryz.func199,Tryz.ntmps199
 go_wp2
 refine bodyPost_ret (results_row_tmp rfl _ _ w.heap.size 208 #[.string ⟨#[42]⟩,.string ⟨#[]⟩,.string ⟨#[]⟩,.string ⟨#[]⟩,.string ⟨#[]⟩,.string ⟨#[]⟩,.string ⟨#[]⟩,.string ⟨#[]⟩,.string ⟨#[]⟩,.int .i64 (-128),.int .i64 (127),.func (.func 222) #[] #[]] (0,0) _ rfl (Blk.new w _ _) Tryz.underlying208 rfl (by kernel_rfl)) rfl ⟨rfl,?_⟩
 exact (Below.refl _ _).alloc (Nat.le_refl _) _
theorem find_none (k:Int) (h1:(k==1)=false) (h2:(k==2)=false) (h3:(k==3)=false) (h4:(k==4)=false) (h5:(k==5)=false) (h6:(k==6)=false) (h7:(k==7)=false) (h8:(k==8)=false) (h9:(k==9)=false) (h10:(k==10)=false) (w:World):Calls Tryz.prog 199 #[.int .i64 k] w fun e w'=>e=.returned (.tuple #[kindNil,.bool false])∧Below w.heap.size w w':=by
 go_enter Tryz.func199,Tryz.ntmps199
 go_wp2
 refine bodyPost_ret (results_row_tmp rfl _ _ w.heap.size 208 #[.string ⟨#[]⟩,.string ⟨#[]⟩,.string ⟨#[]⟩,.string ⟨#[]⟩,.string ⟨#[]⟩,.string ⟨#[]⟩,.string ⟨#[]⟩,.string ⟨#[]⟩,.string ⟨#[]⟩,.int .i64 0,.int .i64 0,.nilFunc] (0,0) _ rfl (Blk.new w _ _) Tryz.underlying208 rfl (by kernel_rfl)) rfl ⟨rfl,?_⟩
 exact (Below.refl _ _).alloc (Nat.le_refl _) _
theorem find_ok (k:Int) (hk:kindOk k=true) (w:World):Calls Tryz.prog 199 #[.int .i64 k] w fun e w'=>e=.returned (.tuple #[(kindD k).val,.bool true])∧Below w.heap.size w w':=by
 by_cases h1:k=1
 ·subst h1;exact find_1 w
 by_cases h2:k=2
 ·subst h2;exact find_2 w
 by_cases h3:k=3
 ·subst h3;exact find_3 w
 by_cases h4:k=4
 ·subst h4;exact find_4 w
 by_cases h5:k=5
 ·subst h5;exact find_5 w
 by_cases h6:k=6
 ·subst h6;exact find_6 w
 by_cases h7:k=7
 ·subst h7;exact find_7 w
 by_cases h8:k=8
 ·subst h8;exact find_8 w
 by_cases h9:k=9
 ·subst h9;exact find_9 w
 by_cases h10:k=10
 ·subst h10;exact find_10 w
 simp [kindOk,h1,h2,h3,h4,h5,h6,h7,h8,h9,h10] at hk
theorem find_no (k:Int) (hk:kindOk k=false) (w:World):Calls Tryz.prog 199 #[.int .i64 k] w fun e w'=>e=.returned (.tuple #[kindNil,.bool false])∧Below w.heap.size w w':=by
 simp only [kindOk,Bool.or_eq_false_iff] at hk
 obtain ⟨⟨⟨⟨⟨⟨⟨⟨⟨h1,h2⟩,h3⟩,h4⟩,h5⟩,h6⟩,h7⟩,h8⟩,h9⟩,h10⟩:=hk
 exact find_none k h1 h2 h3 h4 h5 h6 h7 h8 h9 h10 w
end Go.Proofs.YtjmekllgnhkodaaGreatDoor
namespace Go.Proofs.YtjmekllgnhkodaaGreatDoor
set_option maxHeartbeats 16000000
set_option maxRecDepth 100000
open Go.RowKit
def fitsB (lo hi n:Int):Bool:=decide (lo≤n)&&decide (n≤hi)
theorem fits_any (lo hi n:Int) (b:Nat) (w:World) (hc:w.cell? ⟨b,0,none⟩=some (.int .i64 n)):
  Calls Tryz.prog 77 #[.int .i64 lo,.int .i64 hi,.slice (some ⟨b,0,none⟩) 1 1] w fun e w'=>e=.returned (.bool (fitsB lo hi n))∧w'=w:=by
 cases h1:decide (n < lo)
 ·cases h2:decide (hi < n)
  ·have HV:=Lib.hid (show fitsB lo hi n=true by have:=of_decide_eq_false h1;have:=of_decide_eq_false h2;simp [fitsB];omega)
   go_enter Tryz.func77,Tryz.ntmps77
   go_wp2
   refine wp_loop_rounds 4 ?_
   rw [rounds_succ]
   go_wp2
   rw [rounds_succ]
   go_wp2
   go_ret
   exact ⟨ret_bool HV.out.symm,rfl⟩
  ·have HV:=Lib.hid (show fitsB lo hi n=false by have:=of_decide_eq_true h2;simp [fitsB];omega)
   go_enter Tryz.func77,Tryz.ntmps77
   go_wp2
   refine wp_loop_rounds 4 ?_
   rw [rounds_succ]
   go_wp2
   go_ret
   exact ⟨ret_bool HV.out.symm,rfl⟩
 ·have HV:=Lib.hid (show fitsB lo hi n=false by have:=of_decide_eq_true h1;simp [fitsB];omega)
  go_enter Tryz.func77,Tryz.ntmps77
  go_wp2
  refine wp_loop_rounds 4 ?_
  rw [rounds_succ]
  go_wp2
  go_ret
  exact ⟨ret_bool HV.out.symm,rfl⟩
end Go.Proofs.YtjmekllgnhkodaaGreatDoor
namespace Go.Proofs.YtjmekllgnhkodaaGreatDoor
set_option maxHeartbeats 16000000
set_option maxRecDepth 100000
open Go.RowKit
theorem Blk.set' {w:World} {g:Nat} {t:TypeId} {cs cs':Array Value} (h:Blk w g t cs) (i:Nat) (u:Value) (hc:cs.setIfInBounds i u=cs'):Blk (w.setCell ⟨g,i,none⟩ u) g t cs':=hc ▸ h.set i u
theorem Blk.drew {w:World} {g:Nat} {t:TypeId} {cs:Array Value} (h:Blk w g t cs):Blk w.drew g t cs:=h
theorem Blk.set12 {w:World} {g:Nat} {t:TypeId} {z0 z1 z2 z3 z4 z5 z6 z7 z8 z9 z10 z11:Value} (h:Blk w g t #[z0,z1,z2,z3,z4,z5,z6,z7,z8,z9,z10,z11]) (a0 a1 a2 a3 a4 a5 a6 a7 a8 a9 a10 a11:Value):Blk (((((((((((((w.setCell ⟨g,0,none⟩ a0).setCell ⟨g,1,none⟩ a1).setCell ⟨g,2,none⟩ a2).setCell ⟨g,3,none⟩ a3).setCell ⟨g,4,none⟩ a4).setCell ⟨g,5,none⟩ a5).setCell ⟨g,6,none⟩ a6).setCell ⟨g,7,none⟩ a7).setCell ⟨g,8,none⟩ a8).setCell ⟨g,9,none⟩ a9).setCell ⟨g,10,none⟩ a10).setCell ⟨g,11,none⟩ a11)).drew g t #[a0,a1,a2,a3,a4,a5,a6,a7,a8,a9,a10,a11]:=by
 have h0:=h.set' 0 a0 (cs':=#[a0,z1,z2,z3,z4,z5,z6,z7,z8,z9,z10,z11]) (by simp)
 have h1:=h0.set' 1 a1 (cs':=#[a0,a1,z2,z3,z4,z5,z6,z7,z8,z9,z10,z11]) (by simp)
 have h2:=h1.set' 2 a2 (cs':=#[a0,a1,a2,z3,z4,z5,z6,z7,z8,z9,z10,z11]) (by simp)
 have h3:=h2.set' 3 a3 (cs':=#[a0,a1,a2,a3,z4,z5,z6,z7,z8,z9,z10,z11]) (by simp)
 have h4:=h3.set' 4 a4 (cs':=#[a0,a1,a2,a3,a4,z5,z6,z7,z8,z9,z10,z11]) (by simp)
 have h5:=h4.set' 5 a5 (cs':=#[a0,a1,a2,a3,a4,a5,z6,z7,z8,z9,z10,z11]) (by simp)
 have h6:=h5.set' 6 a6 (cs':=#[a0,a1,a2,a3,a4,a5,a6,z7,z8,z9,z10,z11]) (by simp)
 have h7:=h6.set' 7 a7 (cs':=#[a0,a1,a2,a3,a4,a5,a6,a7,z8,z9,z10,z11]) (by simp)
 have h8:=h7.set' 8 a8 (cs':=#[a0,a1,a2,a3,a4,a5,a6,a7,a8,z9,z10,z11]) (by simp)
 have h9:=h8.set' 9 a9 (cs':=#[a0,a1,a2,a3,a4,a5,a6,a7,a8,a9,z10,z11]) (by simp)
 have h10:=h9.set' 10 a10 (cs':=#[a0,a1,a2,a3,a4,a5,a6,a7,a8,a9,a10,z11]) (by simp)
 have h11:=h10.set' 11 a11 (cs':=#[a0,a1,a2,a3,a4,a5,a6,a7,a8,a9,a10,a11]) (by simp)
 exact h11.drew
theorem below_set12 {w0 w:World} {B g:Nat} (h:Below B w0 w) (hg:B≤g) (a0 a1 a2 a3 a4 a5 a6 a7 a8 a9 a10 a11:Value):Below B w0 (((((((((((((w.setCell ⟨g,0,none⟩ a0).setCell ⟨g,1,none⟩ a1).setCell ⟨g,2,none⟩ a2).setCell ⟨g,3,none⟩ a3).setCell ⟨g,4,none⟩ a4).setCell ⟨g,5,none⟩ a5).setCell ⟨g,6,none⟩ a6).setCell ⟨g,7,none⟩ a7).setCell ⟨g,8,none⟩ a8).setCell ⟨g,9,none⟩ a9).setCell ⟨g,10,none⟩ a10).setCell ⟨g,11,none⟩ a11)).drew:=
 ((((((((((((h.setCell (p:=⟨g,0,none⟩) hg a0).setCell (p:=⟨g,1,none⟩) hg a1).setCell (p:=⟨g,2,none⟩) hg a2).setCell (p:=⟨g,3,none⟩) hg a3).setCell (p:=⟨g,4,none⟩) hg a4).setCell (p:=⟨g,5,none⟩) hg a5).setCell (p:=⟨g,6,none⟩) hg a6).setCell (p:=⟨g,7,none⟩) hg a7).setCell (p:=⟨g,8,none⟩) hg a8).setCell (p:=⟨g,9,none⟩) hg a9).setCell (p:=⟨g,10,none⟩) hg a10).setCell (p:=⟨g,11,none⟩) hg a11).drew
def okOpd (o:Opd):Bool:=kindOk o.kind&&decide (0≤o.reg)&&decide (o.reg < 9)&&!(((kindD o.kind).nm o.reg.toNat).toList==[])&&fitsB (kindD o.kind).lo (kindD o.kind).hi o.n
theorem of_noKind (k r n:Int) (hk:kindOk k=false) (w:World):Calls Tryz.prog 172 #[.agg #[.int .i64 k,.int .i64 r,.int .i64 n]] w fun e w'=>e=.returned (.tuple #[kindNil,.string ⟨#[]⟩,.bool false])∧Below w.heap.size w w':=by
 have HK:Hid (Blk (w.alloc (.cells #[.int .i64 k,.int .i64 r,.int .i64 n] 90)) w.heap.size 90 #[.int .i64 k,.int .i64 r,.int .i64 n]):=Blk.new w _ _
 obtain ⟨W,hW⟩:∃W:World,W=(w.alloc (.cells #[.int .i64 k,.int .i64 r,.int .i64 n] 90)).alloc (.cells #[.string ⟨#[]⟩,.string ⟨#[]⟩,.string ⟨#[]⟩,.string ⟨#[]⟩,.string ⟨#[]⟩,.string ⟨#[]⟩,.string ⟨#[]⟩,.string ⟨#[]⟩,.string ⟨#[]⟩,.int .i64 0,.int .i64 0,.nilFunc] 208):=⟨_,rfl⟩
 have HBW:Hid (Below w.heap.size w W):=hW ▸ ((Below.refl _ _).alloc (Nat.le_refl _) _).alloc (by simp) _
 have HKW:Hid (Blk W w.heap.size 90 #[.int .i64 k,.int .i64 r,.int .i64 n]):=hW ▸ HK.out.alloc _
 have HZW:Hid (Blk W (w.heap.size+1) 208 #[.string ⟨#[]⟩,.string ⟨#[]⟩,.string ⟨#[]⟩,.string ⟨#[]⟩,.string ⟨#[]⟩,.string ⟨#[]⟩,.string ⟨#[]⟩,.string ⟨#[]⟩,.string ⟨#[]⟩,.int .i64 0,.int .i64 0,.nilFunc]):=Lib.hid (by rw [hW];exact (by simpa using Blk.new (w.alloc (.cells #[.int .i64 k,.int .i64 r,.int .i64 n] 90)) 208 #[.string ⟨#[]⟩,.string ⟨#[]⟩,.string ⟨#[]⟩,.string ⟨#[]⟩,.string ⟨#[]⟩,.string ⟨#[]⟩,.string ⟨#[]⟩,.string ⟨#[]⟩,.string ⟨#[]⟩,.int .i64 0,.int .i64 0,.nilFunc]))
 have HFI:=Lib.hid (find_no k hk W)
 simp only [kindNil] at HFI
 go_enter Tryz.func172,Tryz.ntmps172
 go_wp2_with fail
 rw [←hW]
 clear hW HK
 refine HFI.out.mono ?_
 rintro e w1 ⟨rfl,hb⟩
 have HB:=Lib.hid hb
 have b0:w1.cell? ⟨w.heap.size,0,none⟩=some (.int .i64 k):=(hb.cell (p:=⟨w.heap.size,0,none⟩) HKW.out.lt).trans (HKW.out.cell 0)
 have b1:w1.cell? ⟨w.heap.size,1,none⟩=some (.int .i64 r):=(hb.cell (p:=⟨w.heap.size,1,none⟩) HKW.out.lt).trans (HKW.out.cell 1)
 have b2:w1.cell? ⟨w.heap.size,2,none⟩=some (.int .i64 n):=(hb.cell (p:=⟨w.heap.size,2,none⟩) HKW.out.lt).trans (HKW.out.cell 2)
 have HZ:=Lib.hid (HZW.out.below hb HZW.out.lt)
 have hlt1:w.heap.size < w1.heap.size:=Nat.lt_of_lt_of_le HKW.out.lt hb.size
 have hlt2:w.heap.size+1 < w1.heap.size:=Nat.lt_of_lt_of_le HZW.out.lt hb.size
 clear hb
 go_upto_region 3 with fail
 go_wp2_with (refine wpList_store_row rfl 208 _ _ rfl (w.heap.size+1) #[.string ⟨#[]⟩,.string ⟨#[]⟩,.string ⟨#[]⟩,.string ⟨#[]⟩,.string ⟨#[]⟩,.string ⟨#[]⟩,.string ⟨#[]⟩,.string ⟨#[]⟩,.string ⟨#[]⟩,.int .i64 0,.int .i64 0,.nilFunc] rfl rfl 208 _ (HZ.out.alloc _) (by kernel_rfl) rfl (by kernel_rfl) ?_)
 refine bodyPost_ret (results_row_tmp2 rfl _ _ (w.heap.size+1) 208 #[.string ⟨#[]⟩,.string ⟨#[]⟩,.string ⟨#[]⟩,.string ⟨#[]⟩,.string ⟨#[]⟩,.string ⟨#[]⟩,.string ⟨#[]⟩,.string ⟨#[]⟩,.string ⟨#[]⟩,.int .i64 0,.int .i64 0,.nilFunc] (0,0) _ rfl (setRow_heap _ _ _ _ _ _ (HZ.out.alloc _)) Tryz.underlying208 rfl (by kernel_rfl)) rfl ⟨rfl,?_⟩
 exact below_setRow ((HBW.out.trans (HB.out.mono HBW.out.size)).alloc (Nat.le_trans HBW.out.size HB.out.size) _) (by omega) _
theorem k3_t1 {P:Prop} (h:P:=by
  have HK:Hid (Blk (w.alloc (.cells #[.int .i64 k,.int .i64 r,.int .i64 n] 90)) w.heap.size 90 #[.int .i64 k,.int .i64 r,.int .i64 n]):=Blk.new w _ _
  obtain ⟨W,hW⟩:∃W:World,W=(w.alloc (.cells #[.int .i64 k,.int .i64 r,.int .i64 n] 90)).alloc (.cells #[.string ⟨#[]⟩,.string ⟨#[]⟩,.string ⟨#[]⟩,.string ⟨#[]⟩,.string ⟨#[]⟩,.string ⟨#[]⟩,.string ⟨#[]⟩,.string ⟨#[]⟩,.string ⟨#[]⟩,.int .i64 0,.int .i64 0,.nilFunc] 208):=⟨_,rfl⟩
  have HBW:Hid (Below w.heap.size w W):=hW ▸ ((Below.refl _ _).alloc (Nat.le_refl _) _).alloc (by simp) _
  have HKW:Hid (Blk W w.heap.size 90 #[.int .i64 k,.int .i64 r,.int .i64 n]):=hW ▸ HK.out.alloc _
  have HZW:Hid (Blk W (w.heap.size+1) 208 #[.string ⟨#[]⟩,.string ⟨#[]⟩,.string ⟨#[]⟩,.string ⟨#[]⟩,.string ⟨#[]⟩,.string ⟨#[]⟩,.string ⟨#[]⟩,.string ⟨#[]⟩,.string ⟨#[]⟩,.int .i64 0,.int .i64 0,.nilFunc]):=Lib.hid (by rw [hW];exact (by simpa using Blk.new (w.alloc (.cells #[.int .i64 k,.int .i64 r,.int .i64 n] 90)) 208 #[.string ⟨#[]⟩,.string ⟨#[]⟩,.string ⟨#[]⟩,.string ⟨#[]⟩,.string ⟨#[]⟩,.string ⟨#[]⟩,.string ⟨#[]⟩,.string ⟨#[]⟩,.string ⟨#[]⟩,.int .i64 0,.int .i64 0,.nilFunc]))
  have HFI:=Lib.hid (find_ok k hk W)
  simp only [KindD.val] at HFI
  have HC:Hid (∀(wx:World) (b:Nat),b=wx.heap.size→(wx.alloc (.cells #[.int .i64 n] 3)).cell? ⟨b,0,none⟩=some (.int .i64 n)):=fun wx b hb=>by rw [hb];exact (Blk.new wx _ _).cell 0
  go_enter Tryz.func172,Tryz.ntmps172
  go_wp2_with fail
  rw [←hW]
  clear hW HK
  refine HFI.out.mono ?_
  rintro e w1 ⟨rfl,hb⟩
  have HB:=Lib.hid hb
  have b0:w1.cell? ⟨w.heap.size,0,none⟩=some (.int .i64 k):=(hb.cell (p:=⟨w.heap.size,0,none⟩) HKW.out.lt).trans (HKW.out.cell 0)
  have b1:w1.cell? ⟨w.heap.size,1,none⟩=some (.int .i64 r):=(hb.cell (p:=⟨w.heap.size,1,none⟩) HKW.out.lt).trans (HKW.out.cell 1)
  have b2:w1.cell? ⟨w.heap.size,2,none⟩=some (.int .i64 n):=(hb.cell (p:=⟨w.heap.size,2,none⟩) HKW.out.lt).trans (HKW.out.cell 2)
  have HZ:=Lib.hid (HZW.out.below hb HZW.out.lt)
  have hlt1:w.heap.size < w1.heap.size:=Nat.lt_of_lt_of_le HKW.out.lt hb.size
  have hlt2:w.heap.size+1 < w1.heap.size:=Nat.lt_of_lt_of_le HZW.out.lt hb.size
  clear hb
  go_upto_region 3 with fail
  go_wp2_with (refine wpList_store_row rfl 208 _ _ rfl (w.heap.size+1) #[.string ⟨#[]⟩,.string ⟨#[]⟩,.string ⟨#[]⟩,.string ⟨#[]⟩,.string ⟨#[]⟩,.string ⟨#[]⟩,.string ⟨#[]⟩,.string ⟨#[]⟩,.string ⟨#[]⟩,.int .i64 0,.int .i64 0,.nilFunc] rfl rfl 208 _ (HZ.out.alloc _) (by kernel_rfl) rfl (by kernel_rfl) ?_)
  refine bodyPost_ret (results_row_tmp2 rfl _ _ (w.heap.size+1) 208 #[.string ⟨#[]⟩,.string ⟨#[]⟩,.string ⟨#[]⟩,.string ⟨#[]⟩,.string ⟨#[]⟩,.string ⟨#[]⟩,.string ⟨#[]⟩,.string ⟨#[]⟩,.string ⟨#[]⟩,.int .i64 0,.int .i64 0,.nilFunc] (0,0) _ rfl (setRow_heap _ _ _ _ _ _ (HZ.out.alloc _)) Tryz.underlying208 rfl (by kernel_rfl)) rfl ⟨rfl,?_⟩
  exact below_setRow ((HBW.out.trans (HB.out.mono HBW.out.size)).alloc (Nat.le_trans HBW.out.size HB.out.size) _) (by omega) _):P:=h
theorem of_neg (k r n:Int) (hk:kindOk k=true) (h0:decide (r < 0)=true) (w:World):Calls Tryz.prog 172 #[.agg #[.int .i64 k,.int .i64 r,.int .i64 n]] w fun e w'=>e=.returned (.tuple #[kindNil,.string ⟨#[]⟩,.bool false])∧Below w.heap.size w w':=k3_t1
theorem of_big (k r n:Int) (hk:kindOk k=true) (h0:decide (r < 0)=false) (h9:decide (9≤r)=true) (w:World):Calls Tryz.prog 172 #[.agg #[.int .i64 k,.int .i64 r,.int .i64 n]] w fun e w'=>e=.returned (.tuple #[kindNil,.string ⟨#[]⟩,.bool false])∧Below w.heap.size w w':=k3_t1
end Go.Proofs.YtjmekllgnhkodaaGreatDoor
namespace Go.Proofs.YtjmekllgnhkodaaGreatDoor
set_option maxHeartbeats 16000000
set_option maxRecDepth 100000
open Go.RowKit
theorem kind_at (k:Int) (r:Nat) (hr:r < 9):(#[.string ((kindD k).nm 0),.string ((kindD k).nm 1),.string ((kindD k).nm 2),.string ((kindD k).nm 3),.string ((kindD k).nm 4),.string ((kindD k).nm 5),.string ((kindD k).nm 6),.string ((kindD k).nm 7),.string ((kindD k).nm 8),.int .i64 (kindD k).lo,.int .i64 (kindD k).hi,.func (.func (kindD k).form) #[] #[]]:Array Value)[r]?=some (.string ((kindD k).nm r)):=by
 have:r=0∨r=1∨r=2∨r=3∨r=4∨r=5∨r=6∨r=7∨r=8:=by omega
 rcases this with rfl | rfl | rfl | rfl | rfl | rfl | rfl | rfl | rfl<;>rfl
theorem valid6_t1 {P:Prop} (h:P:=by
  have HK:Hid (Blk (w.alloc (.cells #[.int .i64 k,.int .i64 (r:Int),.int .i64 n] 90)) w.heap.size 90 #[.int .i64 k,.int .i64 (r:Int),.int .i64 n]):=Blk.new w _ _
  obtain ⟨W,hW⟩:∃W:World,W=(w.alloc (.cells #[.int .i64 k,.int .i64 (r:Int),.int .i64 n] 90)).alloc (.cells #[.string ⟨#[]⟩,.string ⟨#[]⟩,.string ⟨#[]⟩,.string ⟨#[]⟩,.string ⟨#[]⟩,.string ⟨#[]⟩,.string ⟨#[]⟩,.string ⟨#[]⟩,.string ⟨#[]⟩,.int .i64 0,.int .i64 0,.nilFunc] 208):=⟨_,rfl⟩
  have HBW:Hid (Below w.heap.size w W):=hW ▸ ((Below.refl _ _).alloc (Nat.le_refl _) _).alloc (by simp) _
  have HKW:Hid (Blk W w.heap.size 90 #[.int .i64 k,.int .i64 (r:Int),.int .i64 n]):=hW ▸ HK.out.alloc _
  have HZW:Hid (Blk W (w.heap.size+1) 208 #[.string ⟨#[]⟩,.string ⟨#[]⟩,.string ⟨#[]⟩,.string ⟨#[]⟩,.string ⟨#[]⟩,.string ⟨#[]⟩,.string ⟨#[]⟩,.string ⟨#[]⟩,.string ⟨#[]⟩,.int .i64 0,.int .i64 0,.nilFunc]):=Lib.hid (by rw [hW];exact (by simpa using Blk.new (w.alloc (.cells #[.int .i64 k,.int .i64 (r:Int),.int .i64 n] 90)) 208 #[.string ⟨#[]⟩,.string ⟨#[]⟩,.string ⟨#[]⟩,.string ⟨#[]⟩,.string ⟨#[]⟩,.string ⟨#[]⟩,.string ⟨#[]⟩,.string ⟨#[]⟩,.string ⟨#[]⟩,.int .i64 0,.int .i64 0,.nilFunc]))
  have HFI:=Lib.hid (find_ok k hk W)
  simp only [KindD.val] at HFI
  have HC:Hid (∀(wx:World) (b:Nat),b=wx.heap.size→(wx.alloc (.cells #[.int .i64 n] 3)).cell? ⟨b,0,none⟩=some (.int .i64 n)):=fun wx b hb=>by rw [hb];exact (Blk.new wx _ _).cell 0
  go_enter Tryz.func172,Tryz.ntmps172
  go_wp2_with fail
  rw [←hW]
  clear hW HK
  refine HFI.out.mono ?_
  rintro e w1 ⟨rfl,hb⟩
  have HB:=Lib.hid hb
  have b0:w1.cell? ⟨w.heap.size,0,none⟩=some (.int .i64 k):=(hb.cell (p:=⟨w.heap.size,0,none⟩) HKW.out.lt).trans (HKW.out.cell 0)
  have b1:w1.cell? ⟨w.heap.size,1,none⟩=some (.int .i64 (r:Int)):=(hb.cell (p:=⟨w.heap.size,1,none⟩) HKW.out.lt).trans (HKW.out.cell 1)
  have b2:w1.cell? ⟨w.heap.size,2,none⟩=some (.int .i64 n):=(hb.cell (p:=⟨w.heap.size,2,none⟩) HKW.out.lt).trans (HKW.out.cell 2)
  have HZ:=Lib.hid (HZW.out.below hb HZW.out.lt)
  have hlt1:w.heap.size < w1.heap.size:=Nat.lt_of_lt_of_le HKW.out.lt hb.size
  have hlt2:w.heap.size+1 < w1.heap.size:=Nat.lt_of_lt_of_le HZW.out.lt hb.size
  clear hb
  have hcr:(w1.alloc (.cells #[.string ((kindD k).nm 0),.string ((kindD k).nm 1),.string ((kindD k).nm 2),.string ((kindD k).nm 3),.string ((kindD k).nm 4),.string ((kindD k).nm 5),.string ((kindD k).nm 6),.string ((kindD k).nm 7),.string ((kindD k).nm 8),.int .i64 (kindD k).lo,.int .i64 (kindD k).hi,.func (.func (kindD k).form) #[] #[]] 208)).cell? ⟨w1.heap.size,r,none⟩=some (.string ((kindD k).nm r)):=((Blk.new w1 _ _).cell r).trans (kind_at k r hr)
  have hr0:(0:Int)≤r:=by omega
  have hr9:(r:Int) < 9:=by omega
  first
   | ((have _:=Ma0);(go_upto_region 3 with fail);(go_wp2_with (refine wpList_store_row rfl 208 _ _ rfl (w.heap.size+1) #[.string ⟨#[]⟩,.string ⟨#[]⟩,.string ⟨#[]⟩,.string ⟨#[]⟩,.string ⟨#[]⟩,.string ⟨#[]⟩,.string ⟨#[]⟩,.string ⟨#[]⟩,.string ⟨#[]⟩,.int .i64 0,.int .i64 0,.nilFunc] rfl rfl 208 _ (HZ.out.alloc _) (by kernel_rfl) rfl (by kernel_rfl) ?_));(refine bodyPost_ret (results_row_tmp2 rfl _ _ (w.heap.size+1) 208 #[.string ⟨#[]⟩,.string ⟨#[]⟩,.string ⟨#[]⟩,.string ⟨#[]⟩,.string ⟨#[]⟩,.string ⟨#[]⟩,.string ⟨#[]⟩,.string ⟨#[]⟩,.string ⟨#[]⟩,.int .i64 0,.int .i64 0,.nilFunc] (0,0) _ rfl (setRow_heap _ _ _ _ _ _ (HZ.out.alloc _)) Tryz.underlying208 rfl (by kernel_rfl)) rfl ⟨rfl,?_⟩);(exact below_setRow ((HBW.out.trans (HB.out.mono HBW.out.size)).alloc (Nat.le_trans HBW.out.size HB.out.size) _) (by omega) _))
   | ((go_upto_region 3 with (go_at_call 77;refine (fits_any _ _ _ _ _ (HC.out _ _ (by simp))).mono ?_;rw [hfit];rintro e w2 ⟨rfl,rfl⟩));(go_wp2_with (refine wpList_store_row rfl 208 _ _ rfl (w.heap.size+1) #[.string ⟨#[]⟩,.string ⟨#[]⟩,.string ⟨#[]⟩,.string ⟨#[]⟩,.string ⟨#[]⟩,.string ⟨#[]⟩,.string ⟨#[]⟩,.string ⟨#[]⟩,.string ⟨#[]⟩,.int .i64 0,.int .i64 0,.nilFunc] rfl rfl 208 _ ((HZ.out.alloc _).alloc _) (by kernel_rfl) rfl (by kernel_rfl) ?_));(refine bodyPost_ret (results_row_tmp2 rfl _ _ (w.heap.size+1) 208 #[.string ⟨#[]⟩,.string ⟨#[]⟩,.string ⟨#[]⟩,.string ⟨#[]⟩,.string ⟨#[]⟩,.string ⟨#[]⟩,.string ⟨#[]⟩,.string ⟨#[]⟩,.string ⟨#[]⟩,.int .i64 0,.int .i64 0,.nilFunc] (0,0) _ rfl (setRow_heap _ _ _ _ _ _ ((HZ.out.alloc _).alloc _)) Tryz.underlying208 rfl (by kernel_rfl)) rfl ⟨rfl,?_⟩);(exact below_setRow (((HBW.out.trans (HB.out.mono HBW.out.size)).alloc (Nat.le_trans HBW.out.size HB.out.size) _).alloc (by simp;have:=HBW.out.size;have:=HB.out.size;omega) _) (by omega) _))):P:=h
theorem of_empty (k n:Int) (r:Nat) (hr:r < 9) (hk:kindOk k=true) (hn:(((kindD k).nm r).toList==[])=true) (w:World):Calls Tryz.prog 172 #[.agg #[.int .i64 k,.int .i64 (r:Int),.int .i64 n]] w fun e w'=>e=.returned (.tuple #[kindNil,.string ⟨#[]⟩,.bool false])∧Below w.heap.size w w':=by
 have Ma0:=trivial
 exact valid6_t1
theorem of_unfit (k n:Int) (r:Nat) (hr:r < 9) (hk:kindOk k=true) (hn:(((kindD k).nm r).toList==[])=false) (hfit:fitsB (kindD k).lo (kindD k).hi n=false) (w:World):Calls Tryz.prog 172 #[.agg #[.int .i64 k,.int .i64 (r:Int),.int .i64 n]] w fun e w'=>e=.returned (.tuple #[kindNil,.string ⟨#[]⟩,.bool false])∧Below w.heap.size w w':=valid6_t1
theorem of_ok (k n:Int) (r:Nat) (hr:r < 9) (hk:kindOk k=true) (hn:(((kindD k).nm r).toList==[])=false) (hfit:fitsB (kindD k).lo (kindD k).hi n=true) (w:World):Calls Tryz.prog 172 #[.agg #[.int .i64 k,.int .i64 (r:Int),.int .i64 n]] w fun e w'=>e=.returned (.tuple #[(kindD k).val,.string ((kindD k).nm r),.bool true])∧Below w.heap.size w w':=by
 have HK:Hid (Blk (w.alloc (.cells #[.int .i64 k,.int .i64 (r:Int),.int .i64 n] 90)) w.heap.size 90 #[.int .i64 k,.int .i64 (r:Int),.int .i64 n]):=Blk.new w _ _
 obtain ⟨W,hW⟩:∃W:World,W=(w.alloc (.cells #[.int .i64 k,.int .i64 (r:Int),.int .i64 n] 90)).alloc (.cells #[.string ⟨#[]⟩,.string ⟨#[]⟩,.string ⟨#[]⟩,.string ⟨#[]⟩,.string ⟨#[]⟩,.string ⟨#[]⟩,.string ⟨#[]⟩,.string ⟨#[]⟩,.string ⟨#[]⟩,.int .i64 0,.int .i64 0,.nilFunc] 208):=⟨_,rfl⟩
 have HBW:Hid (Below w.heap.size w W):=hW ▸ ((Below.refl _ _).alloc (Nat.le_refl _) _).alloc (by simp) _
 have HKW:Hid (Blk W w.heap.size 90 #[.int .i64 k,.int .i64 (r:Int),.int .i64 n]):=hW ▸ HK.out.alloc _
 have HZW:Hid (Blk W (w.heap.size+1) 208 #[.string ⟨#[]⟩,.string ⟨#[]⟩,.string ⟨#[]⟩,.string ⟨#[]⟩,.string ⟨#[]⟩,.string ⟨#[]⟩,.string ⟨#[]⟩,.string ⟨#[]⟩,.string ⟨#[]⟩,.int .i64 0,.int .i64 0,.nilFunc]):=Lib.hid (by rw [hW];exact (by simpa using Blk.new (w.alloc (.cells #[.int .i64 k,.int .i64 (r:Int),.int .i64 n] 90)) 208 #[.string ⟨#[]⟩,.string ⟨#[]⟩,.string ⟨#[]⟩,.string ⟨#[]⟩,.string ⟨#[]⟩,.string ⟨#[]⟩,.string ⟨#[]⟩,.string ⟨#[]⟩,.string ⟨#[]⟩,.int .i64 0,.int .i64 0,.nilFunc]))
 have HFI:=Lib.hid (find_ok k hk W)
 simp only [KindD.val] at HFI
 have HC:Hid (∀(wx:World) (b:Nat),b=wx.heap.size→(wx.alloc (.cells #[.int .i64 n] 3)).cell? ⟨b,0,none⟩=some (.int .i64 n)):=fun wx b hb=>by rw [hb];exact (Blk.new wx _ _).cell 0
 go_enter Tryz.func172,Tryz.ntmps172
 go_wp2_with fail
 rw [←hW]
 clear hW HK
 refine HFI.out.mono ?_
 rintro e w1 ⟨rfl,hb⟩
 have HB:=Lib.hid hb
 have b0:w1.cell? ⟨w.heap.size,0,none⟩=some (.int .i64 k):=(hb.cell (p:=⟨w.heap.size,0,none⟩) HKW.out.lt).trans (HKW.out.cell 0)
 have b1:w1.cell? ⟨w.heap.size,1,none⟩=some (.int .i64 (r:Int)):=(hb.cell (p:=⟨w.heap.size,1,none⟩) HKW.out.lt).trans (HKW.out.cell 1)
 have b2:w1.cell? ⟨w.heap.size,2,none⟩=some (.int .i64 n):=(hb.cell (p:=⟨w.heap.size,2,none⟩) HKW.out.lt).trans (HKW.out.cell 2)
 have HZ:=Lib.hid (HZW.out.below hb HZW.out.lt)
 have hlt1:w.heap.size < w1.heap.size:=Nat.lt_of_lt_of_le HKW.out.lt hb.size
 have hlt2:w.heap.size+1 < w1.heap.size:=Nat.lt_of_lt_of_le HZW.out.lt hb.size
 clear hb
 have hcr:(w1.alloc (.cells #[.string ((kindD k).nm 0),.string ((kindD k).nm 1),.string ((kindD k).nm 2),.string ((kindD k).nm 3),.string ((kindD k).nm 4),.string ((kindD k).nm 5),.string ((kindD k).nm 6),.string ((kindD k).nm 7),.string ((kindD k).nm 8),.int .i64 (kindD k).lo,.int .i64 (kindD k).hi,.func (.func (kindD k).form) #[] #[]] 208)).cell? ⟨w1.heap.size,r,none⟩=some (.string ((kindD k).nm r)):=((Blk.new w1 _ _).cell r).trans (kind_at k r hr)
 have hr0:(0:Int)≤r:=by omega
 have hr9:(r:Int) < 9:=by omega
 go_upto_region 4 with (go_at_call 77;refine (fits_any _ _ _ _ _ (HC.out _ _ (by simp))).mono ?_;rw [hfit];rintro e w2 ⟨rfl,rfl⟩)
 obtain ⟨W4,hW4⟩:∃W:World,W=(w1.alloc (.cells #[.string ((kindD k).nm 0),.string ((kindD k).nm 1),.string ((kindD k).nm 2),.string ((kindD k).nm 3),.string ((kindD k).nm 4),.string ((kindD k).nm 5),.string ((kindD k).nm 6),.string ((kindD k).nm 7),.string ((kindD k).nm 8),.int .i64 (kindD k).lo,.int .i64 (kindD k).hi,.func (.func (kindD k).form) #[] #[]] 208)).alloc (.cells #[.int .i64 n] 3):=⟨_,rfl⟩
 have hb4:Below w1.heap.size w1 W4:=hW4 ▸ ((Below.refl _ _).alloc (Nat.le_refl _) _).alloc (by simp) _
 have hk4:Blk W4 w1.heap.size 208 #[.string ((kindD k).nm 0),.string ((kindD k).nm 1),.string ((kindD k).nm 2),.string ((kindD k).nm 3),.string ((kindD k).nm 4),.string ((kindD k).nm 5),.string ((kindD k).nm 6),.string ((kindD k).nm 7),.string ((kindD k).nm 8),.int .i64 (kindD k).lo,.int .i64 (kindD k).hi,.func (.func (kindD k).form) #[] #[]]:=hW4 ▸ (Blk.new w1 _ _).alloc _
 have hz4:=HZ.out.below hb4 hlt2
 have d1:W4.cell? ⟨w.heap.size,1,none⟩=some (.int .i64 (r:Int)):=(hb4.cell (p:=⟨w.heap.size,1,none⟩) hlt1).trans b1
 rw [←hW4]
 clear hW4 b0 b1 b2
 have HB4:=Lib.hid hb4
 have HZ4:=Lib.hid hz4
 have er:=(hk4.cell r).trans (kind_at k r hr)
 have e0:=hk4.cell 0
 have e1:=hk4.cell 1
 have e2:=hk4.cell 2
 have e3:=hk4.cell 3
 have e4:=hk4.cell 4
 have e5:=hk4.cell 5
 have e6:=hk4.cell 6
 have e7:=hk4.cell 7
 have e8:=hk4.cell 8
 have e9:=hk4.cell 9
 have e10:=hk4.cell 10
 have e11:=hk4.cell 11
 have z0:=hz4.cell 0
 have f0:=hz4.free 0
 have z1:=hz4.cell 1
 have f1:=hz4.free 1
 have z2:=hz4.cell 2
 have f2:=hz4.free 2
 have z3:=hz4.cell 3
 have f3:=hz4.free 3
 have z4:=hz4.cell 4
 have f4:=hz4.free 4
 have z5:=hz4.cell 5
 have f5:=hz4.free 5
 have z6:=hz4.cell 6
 have f6:=hz4.free 6
 have z7:=hz4.cell 7
 have f7:=hz4.free 7
 have z8:=hz4.cell 8
 have f8:=hz4.free 8
 have z9:=hz4.cell 9
 have f9:=hz4.free 9
 have z10:=hz4.cell 10
 have f10:=hz4.free 10
 have z11:=hz4.cell 11
 have f11:=hz4.free 11
 clear hk4 hz4 hb4
 go_region
 go_wp2
 have HRES:=Lib.hid (Blk.set12 HZ4.out (.string ((kindD k).nm 0)) (.string ((kindD k).nm 1)) (.string ((kindD k).nm 2)) (.string ((kindD k).nm 3)) (.string ((kindD k).nm 4)) (.string ((kindD k).nm 5)) (.string ((kindD k).nm 6)) (.string ((kindD k).nm 7)) (.string ((kindD k).nm 8)) (.int .i64 (kindD k).lo) (.int .i64 (kindD k).hi) (.func (.func (kindD k).form) #[] #[]))
 refine bodyPost_ret (results_row_tmp2 rfl _ _ (w.heap.size+1) 208 #[.string ((kindD k).nm 0),.string ((kindD k).nm 1),.string ((kindD k).nm 2),.string ((kindD k).nm 3),.string ((kindD k).nm 4),.string ((kindD k).nm 5),.string ((kindD k).nm 6),.string ((kindD k).nm 7),.string ((kindD k).nm 8),.int .i64 (kindD k).lo,.int .i64 (kindD k).hi,.func (.func (kindD k).form) #[] #[]] (0,0) _ rfl HRES.out Tryz.underlying208 rfl (by kernel_rfl)) rfl ⟨rfl,?_⟩
 exact below_set12 ((HBW.out.trans (HB.out.mono HBW.out.size)).trans (HB4.out.mono (Nat.le_trans HBW.out.size HB.out.size))) (by omega) _ _ _ _ _ _ _ _ _ _ _ _
end Go.Proofs.YtjmekllgnhkodaaGreatDoor
namespace Go.Proofs.YtjmekllgnhkodaaGreatDoor
set_option maxHeartbeats 16000000
set_option maxRecDepth 100000
open Go.RowKit
theorem of_no (o:Opd) (h:okOpd o=false) (w:World):Calls Tryz.prog 172 #[.agg #[.int .i64 o.kind,.int .i64 o.reg,.int .i64 o.n]] w fun e w'=>e=.returned (.tuple #[kindNil,.string ⟨#[]⟩,.bool false])∧Below w.heap.size w w':=by
 obtain ⟨k,r,n⟩:=o
 dsimp only
 cases hk:kindOk k
 ·exact of_noKind k r n hk w
 cases h0:decide (r < 0)
 rotate_left
 ·exact of_neg k r n hk h0 w
 cases h9:decide (9≤r)
 rotate_left
 ·exact of_big k r n hk h0 h9 w
 have h0':=of_decide_eq_false h0
 have h9':=of_decide_eq_false h9
 obtain ⟨m,rfl⟩:=Int.eq_ofNat_of_zero_le (Int.not_lt.1 h0')
 have hm:m < 9:=by omega
 cases hn:(((kindD k).nm m).toList==[])
 ·cases hf:fitsB (kindD k).lo (kindD k).hi n
  ·exact of_unfit k n m hm hk hn hf w
  ·exfalso
   simp only [okOpd,Int.toNat_natCast,hk,hn,hf,decide_eq_true (Int.natCast_nonneg m),decide_eq_true (show (m:Int) < 9 by omega)] at h
   exact absurd h (by decide)
 ·exact of_empty k n m hm hk hn w
theorem of_yes (o:Opd) (h:okOpd o=true) (w:World):Calls Tryz.prog 172 #[.agg #[.int .i64 o.kind,.int .i64 o.reg,.int .i64 o.n]] w fun e w'=>e=.returned (.tuple #[(kindD o.kind).val,.string ((kindD o.kind).nm o.reg.toNat),.bool true])∧Below w.heap.size w w':=by
 obtain ⟨k,r,n⟩:=o
 simp only [okOpd,Bool.and_eq_true,decide_eq_true_eq,Bool.not_eq_true'] at h
 obtain ⟨⟨⟨⟨hk,h0⟩,h9⟩,hn⟩,hf⟩:=h
 dsimp only at *
 obtain ⟨m,rfl⟩:=Int.eq_ofNat_of_zero_le h0
 rw [Int.toNat_natCast] at hn ⊢
 exact of_ok k n m (by omega) hk hn hf w
theorem valid_any (o:Opd) (w:World):Calls Tryz.prog 135 #[.agg #[.int .i64 o.kind,.int .i64 o.reg,.int .i64 o.n]] w fun e w'=>e=.returned (.bool (okOpd o))∧Below w.heap.size w w':=by
 have HB0:Hid (Below w.heap.size w (w.alloc (.cells #[.int .i64 o.kind,.int .i64 o.reg,.int .i64 o.n] 90))):=(Below.refl _ _).alloc (Nat.le_refl _) _
 cases h:okOpd o
 ·have HO:=Lib.hid (of_no o h (w.alloc (.cells #[.int .i64 o.kind,.int .i64 o.reg,.int .i64 o.n] 90)))
  simp only [kindNil] at HO
  go_enter Tryz.func135,Tryz.ntmps135
  go_wp2_with (go_at_call 172;refine HO.out.mono ?_;rintro e w1 ⟨rfl,hb⟩;have HB:=Lib.hid (HB0.out.trans (hb.mono HB0.out.size));clear hb)
  go_ret
  exact ⟨rfl,HB.out.alloc HB.out.size _⟩
 ·have HO:=Lib.hid (of_yes o h (w.alloc (.cells #[.int .i64 o.kind,.int .i64 o.reg,.int .i64 o.n] 90)))
  simp only [KindD.val] at HO
  go_enter Tryz.func135,Tryz.ntmps135
  go_wp2_with (go_at_call 172;refine HO.out.mono ?_;rintro e w1 ⟨rfl,hb⟩;have HB:=Lib.hid (HB0.out.trans (hb.mono HB0.out.size));clear hb)
  go_ret
  exact ⟨rfl,HB.out.alloc HB.out.size _⟩
end Go.Proofs.YtjmekllgnhkodaaGreatDoor
namespace Go.Proofs.YtjmekllgnhkodaaGreatDoor
set_option maxHeartbeats 16000000
set_option maxRecDepth 100000
open Go.RowKit
theorem regs_short (k:Int):(regsL k).length≤9:=by
 unfold regsL
 repeat' (first | (split) | (simp))
theorem okValid_1 (r n:Int):okOpd ⟨1,r,n⟩=validOpd ⟨1,r,n⟩:=by
 rw [Bool.eq_iff_iff]
 by_cases h0:r < 0
 ·have h:¬(0≤r):=by omega
  simp [okOpd,validOpd,nameOf,nameL,h0,h]
 by_cases h9:9≤r
 ·have h:¬(r < 9):=by omega
  have hl:(regsL 1)[r.toNat]?=none:=by have:=regs_short 1;simp;omega
  simp [okOpd,validOpd,nameOf,nameL,h0,h,hl]
 have hr:r=0∨r=1∨r=2∨r=3∨r=4∨r=5∨r=6∨r=7∨r=8:=by omega
 clear h0 h9
 rcases hr with rfl | rfl | rfl | rfl | rfl | rfl | rfl | rfl | rfl
 all_goals simp [okOpd,validOpd,nameOf,nameL,regsL,kindOk,kindD,KindD.nm,fitsB]
 all_goals omega
theorem okValid_2 (r n:Int):okOpd ⟨2,r,n⟩=validOpd ⟨2,r,n⟩:=by
 rw [Bool.eq_iff_iff]
 by_cases h0:r < 0
 ·have h:¬(0≤r):=by omega
  simp [okOpd,validOpd,nameOf,nameL,h0,h]
 by_cases h9:9≤r
 ·have h:¬(r < 9):=by omega
  have hl:(regsL 2)[r.toNat]?=none:=by have:=regs_short 2;simp;omega
  simp [okOpd,validOpd,nameOf,nameL,h0,h,hl]
 have hr:r=0∨r=1∨r=2∨r=3∨r=4∨r=5∨r=6∨r=7∨r=8:=by omega
 clear h0 h9
 rcases hr with rfl | rfl | rfl | rfl | rfl | rfl | rfl | rfl | rfl
 all_goals simp [okOpd,validOpd,nameOf,nameL,regsL,kindOk,kindD,KindD.nm,fitsB]
 all_goals omega
theorem okValid_3 (r n:Int):okOpd ⟨3,r,n⟩=validOpd ⟨3,r,n⟩:=by
 rw [Bool.eq_iff_iff]
 by_cases h0:r < 0
 ·have h:¬(0≤r):=by omega
  simp [okOpd,validOpd,nameOf,nameL,h0,h]
 by_cases h9:9≤r
 ·have h:¬(r < 9):=by omega
  have hl:(regsL 3)[r.toNat]?=none:=by have:=regs_short 3;simp;omega
  simp [okOpd,validOpd,nameOf,nameL,h0,h,hl]
 have hr:r=0∨r=1∨r=2∨r=3∨r=4∨r=5∨r=6∨r=7∨r=8:=by omega
 clear h0 h9
 rcases hr with rfl | rfl | rfl | rfl | rfl | rfl | rfl | rfl | rfl
 all_goals simp [okOpd,validOpd,nameOf,nameL,regsL,kindOk,kindD,KindD.nm,fitsB]
 all_goals omega
theorem okValid_4 (r n:Int):okOpd ⟨4,r,n⟩=validOpd ⟨4,r,n⟩:=by
 rw [Bool.eq_iff_iff]
 by_cases h0:r < 0
 ·have h:¬(0≤r):=by omega
  simp [okOpd,validOpd,nameOf,nameL,h0,h]
 by_cases h9:9≤r
 ·have h:¬(r < 9):=by omega
  have hl:(regsL 4)[r.toNat]?=none:=by have:=regs_short 4;simp;omega
  simp [okOpd,validOpd,nameOf,nameL,h0,h,hl]
 have hr:r=0∨r=1∨r=2∨r=3∨r=4∨r=5∨r=6∨r=7∨r=8:=by omega
 clear h0 h9
 rcases hr with rfl | rfl | rfl | rfl | rfl | rfl | rfl | rfl | rfl
 all_goals simp [okOpd,validOpd,nameOf,nameL,regsL,kindOk,kindD,KindD.nm,fitsB]
 all_goals omega
theorem okValid_5 (r n:Int):okOpd ⟨5,r,n⟩=validOpd ⟨5,r,n⟩:=by
 rw [Bool.eq_iff_iff]
 by_cases h0:r < 0
 ·have h:¬(0≤r):=by omega
  simp [okOpd,validOpd,nameOf,nameL,h0,h]
 by_cases h9:9≤r
 ·have h:¬(r < 9):=by omega
  have hl:(regsL 5)[r.toNat]?=none:=by have:=regs_short 5;simp;omega
  simp [okOpd,validOpd,nameOf,nameL,h0,h,hl]
 have hr:r=0∨r=1∨r=2∨r=3∨r=4∨r=5∨r=6∨r=7∨r=8:=by omega
 clear h0 h9
 rcases hr with rfl | rfl | rfl | rfl | rfl | rfl | rfl | rfl | rfl
 all_goals simp [okOpd,validOpd,nameOf,nameL,regsL,kindOk,kindD,KindD.nm,fitsB]
 all_goals omega
theorem k4_t1 {P:Prop} (h:P:=by
  rw [Bool.eq_iff_iff]
  by_cases h0:r < 0
  ·have h:¬(0≤r):=by omega
   have h':¬(r=0):=by omega
   simp [okOpd,validOpd,h,h']
  by_cases h9:9≤r
  ·have h:¬(r < 9):=by omega
   have h':¬(r=0):=by omega
   simp [okOpd,validOpd,h,h']
  have hr:r=0∨r=1∨r=2∨r=3∨r=4∨r=5∨r=6∨r=7∨r=8:=by omega
  clear h0 h9
  rcases hr with rfl | rfl | rfl | rfl | rfl | rfl | rfl | rfl | rfl
  all_goals simp [okOpd,validOpd,kindOk,kindD,KindD.nm,fitsB]
  all_goals omega):P:=h
theorem okValid_6 (r n:Int):okOpd ⟨6,r,n⟩=validOpd ⟨6,r,n⟩:=k4_t1
theorem okValid_7 (r n:Int):okOpd ⟨7,r,n⟩=validOpd ⟨7,r,n⟩:=k4_t1
theorem okValid_8 (r n:Int):okOpd ⟨8,r,n⟩=validOpd ⟨8,r,n⟩:=by
 rw [Bool.eq_iff_iff]
 by_cases h0:r < 0
 ·have h:¬(0≤r):=by omega
  simp [okOpd,validOpd,nameOf,nameL,h0,h]
 by_cases h9:9≤r
 ·have h:¬(r < 9):=by omega
  have hl:(regsL 8)[r.toNat]?=none:=by have:=regs_short 8;simp;omega
  simp [okOpd,validOpd,nameOf,nameL,h0,h,hl]
 have hr:r=0∨r=1∨r=2∨r=3∨r=4∨r=5∨r=6∨r=7∨r=8:=by omega
 clear h0 h9
 rcases hr with rfl | rfl | rfl | rfl | rfl | rfl | rfl | rfl | rfl
 all_goals simp [okOpd,validOpd,nameOf,nameL,regsL,kindOk,kindD,KindD.nm,fitsB]
 all_goals omega
theorem okValid_9 (r n:Int):okOpd ⟨9,r,n⟩=validOpd ⟨9,r,n⟩:=by
 rw [Bool.eq_iff_iff]
 by_cases h0:r < 0
 ·have h:¬(0≤r):=by omega
  simp [okOpd,validOpd,nameOf,nameL,h0,h]
 by_cases h9:9≤r
 ·have h:¬(r < 9):=by omega
  have hl:(regsL 9)[r.toNat]?=none:=by have:=regs_short 9;simp;omega
  simp [okOpd,validOpd,nameOf,nameL,h0,h,hl]
 have hr:r=0∨r=1∨r=2∨r=3∨r=4∨r=5∨r=6∨r=7∨r=8:=by omega
 clear h0 h9
 rcases hr with rfl | rfl | rfl | rfl | rfl | rfl | rfl | rfl | rfl
 all_goals simp [okOpd,validOpd,nameOf,nameL,regsL,kindOk,kindD,KindD.nm,fitsB]
 all_goals omega
theorem okValid_10 (r n:Int):okOpd ⟨10,r,n⟩=validOpd ⟨10,r,n⟩:=k4_t1
theorem ok_valid (o:Opd):okOpd o=validOpd o:=by
 obtain ⟨k,r,n⟩:=o
 by_cases h1:k=1
 ·subst h1;exact okValid_1 r n
 by_cases h2:k=2
 ·subst h2;exact okValid_2 r n
 by_cases h3:k=3
 ·subst h3;exact okValid_3 r n
 by_cases h4:k=4
 ·subst h4;exact okValid_4 r n
 by_cases h5:k=5
 ·subst h5;exact okValid_5 r n
 by_cases h6:k=6
 ·subst h6;exact okValid_6 r n
 by_cases h7:k=7
 ·subst h7;exact okValid_7 r n
 by_cases h8:k=8
 ·subst h8;exact okValid_8 r n
 by_cases h9:k=9
 ·subst h9;exact okValid_9 r n
 by_cases h10:k=10
 ·subst h10;exact okValid_10 r n
 simp [okOpd,validOpd,kindOk,h1,h2,h3,h4,h5,h6,h7,h8,h9,h10]
end Go.Proofs.YtjmekllgnhkodaaGreatDoor
namespace Go.Proofs.YtjmekllgnhkodaaGreatDoor
set_option maxHeartbeats 16000000
set_option maxRecDepth 100000
open Go.RowKit
def opsL:List ByteArray:=[⟨#[65,68,67]⟩,⟨#[65,68,68]⟩,⟨#[65,78,68]⟩,⟨#[66,73,84]⟩,⟨#[67,65,76,76]⟩,⟨#[67,67,70]⟩,⟨#[67,80]⟩,⟨#[67,80,68]⟩,⟨#[67,80,68,82]⟩,⟨#[67,80,73]⟩,⟨#[67,80,73,82]⟩,⟨#[67,80,76]⟩,⟨#[68,65,65]⟩,⟨#[68,69,67]⟩,⟨#[68,73]⟩,⟨#[68,74,78,90]⟩,⟨#[69,73]⟩,⟨#[69,88]⟩,⟨#[69,88,88]⟩,⟨#[72,65,76,84]⟩,⟨#[73,77]⟩,⟨#[73,78]⟩,⟨#[73,78,67]⟩,⟨#[73,78,68]⟩,⟨#[73,78,68,82]⟩,⟨#[73,78,73]⟩,⟨#[73,78,73,82]⟩,⟨#[74,80]⟩,⟨#[74,82]⟩,⟨#[76,68]⟩,⟨#[76,68,68]⟩,⟨#[76,68,68,82]⟩,⟨#[76,68,73]⟩,⟨#[76,68,73,82]⟩,⟨#[78,69,71]⟩,⟨#[78,79,80]⟩,⟨#[79,82]⟩,⟨#[79,84,68,82]⟩,⟨#[79,84,73,82]⟩,⟨#[79,85,84]⟩,⟨#[79,85,84,68]⟩,⟨#[79,85,84,73]⟩,⟨#[80,79,80]⟩,⟨#[80,85,83,72]⟩,⟨#[82,69,83]⟩,⟨#[82,69,84]⟩,⟨#[82,69,84,73]⟩,⟨#[82,69,84,78]⟩,⟨#[82,76]⟩,⟨#[82,76,65]⟩,⟨#[82,76,67]⟩,⟨#[82,76,67,65]⟩,⟨#[82,76,68]⟩,⟨#[82,82]⟩,⟨#[82,82,65]⟩,⟨#[82,82,67]⟩,⟨#[82,82,67,65]⟩,⟨#[82,82,68]⟩,⟨#[82,83,84]⟩,⟨#[83,66,67]⟩,⟨#[83,67,70]⟩,⟨#[83,69,84]⟩,⟨#[83,76,65]⟩,⟨#[83,76,76]⟩,⟨#[83,82,65]⟩,⟨#[83,82,76]⟩,⟨#[83,85,66]⟩,⟨#[88,79,82]⟩]
theorem ops07_any (w:World):Calls Tryz.prog 213 #[] w fun e w'=>∃v,e=.returned v∧SlR strR w' (fun _=>True) v opsL∧Below w.heap.size w w':=by
 have HF:Hid (SlR strR (w.alloc (.cells (opsL.map Value.string).toArray 9)) (fun _=>True) (.slice (some ⟨w.heap.size,0,none⟩) opsL.length opsL.length) opsL):=slR_strs w 9 (fun _=>True) opsL _ rfl trivial (by decide)
 go_enter Tryz.func213,Tryz.ntmps213
 go_wp2
 go_ret
 exact ⟨_,rfl,HF.out,(Below.refl _ _).alloc (Nat.le_refl _) _⟩
theorem known07_any (s:ByteArray) (w:World):Calls Tryz.prog 197 #[.string s] w fun e w'=>e=.returned (.bool (inL opsL s))∧Below w.heap.size w w':=by
 have ho:=ops07_any w
 obtain ⟨l,hl⟩:∃l,l=opsL:=⟨_,rfl⟩
 rw [←hl] at ho ⊢
 clear hl
 have HO:=Lib.hid ho
 clear ho
 go_enter Tryz.func197,Tryz.ntmps197
 go_wp2_with fail
 refine HO.out.mono ?_
 rintro e w1 ⟨v,rfl,hs,hb⟩
 have HB:=Lib.hid hb
 clear hb
 obtain ⟨a1,c1,rfl,hc1,hm1,g1⟩:=hs.str
 clear hs HO
 go_wp2
 go_loop [4] (fun i=>∃k:Nat,k≤l.length∧i=.int .i64 k∧inL l s=inL (l.drop k) s) (fun i=>l.length - (intOf i).toNat)
 case atStart=>exact ⟨0,Nat.zero_le _,rfl,rfl⟩
 case round=>
  obtain ⟨k,hk,rfl,ht⟩:=hrel
  have HT:=Lib.hid ht
  clear ht
  by_cases hlt:k < l.length
  ·obtain ⟨b1,o1,rfl,_,d1⟩:=g1 k l[k] (List.getElem?_eq_getElem hlt)
   clear g1
   have HD:=Lib.hid (List.drop_eq_getElem_cons hlt)
   have HY:Hid ((l[k].toList==s.toList)=true→inL l s=true):=inL_drop_yes hlt
   generalize l[k]=x at *
   go_wp2
   ·go_ret
    exact ⟨ret_bool (HY.out (by assumption)).symm,HB.out⟩
   ·go_round
    case rel=>exact ⟨k+1,by omega,by go_num,by rw [HT.out,HD.out];simp only [inL,List.any_cons];simp [*]⟩
    case measure=>simp [intOf];omega
  ·go_wp2
   go_ret
   exact ⟨ret_bool (by rw [HT.out,List.drop_of_length_le (by omega)];rfl),HB.out⟩
def check07 (x:Ins):Int:=if !inL opsL x.op then 12 else if 3 < x.args.length then 11 else if x.args.all validOpd then 0 else 2
theorem check07_any (p:Blocks) (x:Ins) (v:Value) (w:World) (h:SlR opdR w p v x.args):
  Calls Tryz.prog 168 #[.agg #[.string x.op,v]] w fun e w'=>e=.returned (.int .i64 (check07 x))∧Below w.heap.size w w':=by
 obtain ⟨s,l⟩:=x
 dsimp only at *
 obtain ⟨a,c,rfl,_⟩:=h.opd
 obtain ⟨W,hW⟩:∃W:World,W=w.alloc (.cells #[.string s,.slice a l.length c] 27):=⟨_,rfl⟩
 have hbW:Below w.heap.size w W:=hW ▸ (Below.refl _ _).alloc (Nat.le_refl _) _
 have k1:Blk W w.heap.size 27 #[.string s,.slice a l.length c]:=hW ▸ Blk.new w _ _
 have HBW:=Lib.hid hbW
 have HK:=Lib.hid k1
 have HSL:=Lib.hid (h.below hbW)
 have hkn:=known07_any s W
 clear h hbW k1
 cases hs:inL opsL s
 all_goals
  rw [hs] at hkn
  have HKN:=Lib.hid hkn
  clear hkn
 ·have HV:=Lib.hid (show check07 ⟨s,l⟩=12 by simp [check07,hs])
  go_enter Tryz.func168,Tryz.ntmps168
  obtain ⟨a0,a1,_,_⟩:=HK.out.two
  go_wp2_with fail
  rw [←hW]
  clear hW
  refine HKN.out.mono ?_
  rintro e w1 ⟨rfl,hb⟩
  have HB:=Lib.hid hb
  clear hb
  go_wp2
  go_ret
  exact ⟨ret_int HV.out.symm,HBW.out.trans (HB.out.mono HBW.out.size)⟩
 ·have hs1:w.heap.size < W.heap.size:=HK.out.lt
  cases hl:decide ((3:Int) < l.length)
  rotate_left
  ·have HV:=Lib.hid (show check07 ⟨s,l⟩=11 by have:=of_decide_eq_true hl;simp [check07,hs];omega)
   go_enter Tryz.func168,Tryz.ntmps168
   go_wp2_with fail
   rw [←hW]
   clear hW
   refine HKN.out.mono ?_
   rintro e w1 ⟨rfl,hb⟩
   have HB:=Lib.hid hb
   obtain ⟨a0,a1,_,_⟩:=(HK.out.below hb hs1).two
   clear hb
   go_wp2
   go_ret
   exact ⟨ret_int HV.out.symm,HBW.out.trans (HB.out.mono HBW.out.size)⟩
  ·have HV:=Lib.hid (show check07 ⟨s,l⟩=if l.all validOpd then 0 else 2 by have:=of_decide_eq_false hl;simp [check07,hs];omega)
   go_enter Tryz.func168,Tryz.ntmps168
   go_wp2_with fail
   rw [←hW]
   clear hW
   refine HKN.out.mono ?_
   rintro e w1 ⟨rfl,hb⟩
   have HB:=Lib.hid (HBW.out.trans (hb.mono HBW.out.size))
   have HSL1:=Lib.hid (HSL.out.below hb)
   have HK1:=Lib.hid (HK.out.below hb hs1)
   obtain ⟨a0,a1,_,_⟩:=HK1.out.two
   clear hb
   go_wp2
   go_loopw [3] (fun i wx=>∃k:Nat,k≤l.length∧i=.int .i64 k∧l.all validOpd=(l.drop k).all validOpd∧Below w1.heap.size w1 wx) (fun i _=>l.length - (intOf i).toNat)
   case atStart=>exact ⟨0,Nat.zero_le _,rfl,rfl,Below.refl _ _⟩
   case round=>
    obtain ⟨k,hk,rfl,ht,hb⟩:=hrel
    have HT:=Lib.hid ht
    have HBX:=Lib.hid hb
    have HKX:=Lib.hid (HK1.out.below hb HK1.out.lt)
    obtain ⟨a0,a1,_,_⟩:=HKX.out.two
    obtain ⟨ad,cd,hv,_,_,g1⟩:=(HSL1.out.below hb).opd
    obtain ⟨rfl,_,rfl⟩:a=ad∧l.length=l.length∧c=cd:=by injection hv with h1 h2 h3;exact ⟨h1,h2,h3⟩
    clear ht hb hv
    by_cases hlt:k < l.length
    ·obtain ⟨b1,o1,rfl,_,d1,d2,d3⟩:=g1 k l[k] (List.getElem?_eq_getElem hlt)
     clear g1
     have HD:=Lib.hid (List.drop_eq_getElem_cons hlt)
     have hva:=fun wz=>valid06_any l[k] wz
     generalize l[k]=x at *
     cases hvx:validOpd x
     all_goals
      rw [hvx] at hva
      have HVA:=Lib.hid hva
      have HVX:=Lib.hid hvx
      clear hva hvx
     ·go_wp2_with (go_at_call 198;refine (HVA.out _).mono ?_;rintro e w2 ⟨rfl,hb⟩;have HB2:=Lib.hid (HBX.out.trans (hb.mono HBX.out.size));clear hb)
      go_ret
      exact ⟨ret_int (by rw [HV.out,HT.out,HD.out,List.all_cons,HVX.out];rfl),HB.out.trans (HB2.out.mono HB.out.size)⟩
     ·go_wp2_with (go_at_call 198;refine (HVA.out _).mono ?_;rintro e w2 ⟨rfl,hb⟩;have HB2:=Lib.hid (HBX.out.trans (hb.mono HBX.out.size));clear hb)
      go_round
      case rel=>exact ⟨k+1,by omega,by go_num,by rw [HT.out,HD.out,List.all_cons,HVX.out,Bool.true_and],HB2.out⟩
      case measure=>simp [intOf];omega
    ·clear g1
     go_wp2
     go_ret
     exact ⟨ret_int (by rw [HV.out,HT.out,List.drop_of_length_le (by omega)];rfl),HB.out.trans (HBX.out.mono HB.out.size)⟩
end Go.Proofs.YtjmekllgnhkodaaGreatDoor
namespace Go.Proofs.YtjmekllgnhkodaaGreatDoor
set_option maxHeartbeats 16000000
set_option maxRecDepth 100000
open Go.RowKit
def opsText:ByteArray:=⟨#[65,68,67,32,65,68,68,32,65,78,68,32,66,73,84,32,67,65,76,76,32,67,67,70,32,67,80,32,67,80,68,32,67,80,68,82,32,67,80,73,32,67,80,73,82,32,67,80,76,32,68,65,65,32,68,69,67,32,68,73,32,68,74,78,90,32,69,73,32,69,88,32,69,88,88,32,72,65,76,84,32,73,77,32,73,78,32,73,78,67,32,73,78,68,32,73,78,68,82,32,73,78,73,32,73,78,73,82,32,74,80,32,74,82,32,76,68,32,76,68,68,32,76,68,68,82,32,76,68,73,32,76,68,73,82,32,78,69,71,32,78,79,80,32,79,82,32,79,84,68,82,32,79,84,73,82,32,79,85,84,32,79,85,84,68,32,79,85,84,73,32,80,79,80,32,80,85,83,72,32,82,69,83,32,82,69,84,32,82,69,84,73,32,82,69,84,78,32,82,76,32,82,76,65,32,82,76,67,32,82,76,67,65,32,82,76,68,32,82,82,32,82,82,65,32,82,82,67,32,82,82,67,65,32,82,82,68,32,82,83,84,32,83,66,67,32,83,67,70,32,83,69,84,32,83,76,65,32,83,76,76,32,83,82,65,32,83,82,76,32,83,85,66,32,88,79,82]⟩
theorem opsText_fields:fieldsOf opsText=opsL:=by decide+kernel
theorem opsText_ascii:∀(j:Nat) b,opsText.data.toList[j]?=some b→b.toNat < 128:=fun _ b h=>
 (show ∀b∈opsText.data.toList,b.toNat < 128 by decide+kernel) b (List.mem_of_getElem? h)
theorem fields_ops (w:World) (hT:Spc w):Calls Tryz.prog 146 #[.string opsText] w fun e w'=>∃v,e=.returned v∧SlR strR w' (fun b=>w.heap.size≤b) v opsL∧Below w.heap.size w w':=by
 have hf:=Tryz.strings_Fields opsText w (by decide+kernel) opsText_ascii hT
 have hlen:(Lib.fields opsText.data.toList).length=opsL.length:=by rw [←opsText_fields];simp [fieldsOf]
 have hcells:((Lib.fields opsText.data.toList).map fun l=>Value.string ⟨l.toArray⟩)=opsL.map Value.string:=by rw [←opsText_fields];simp [fieldsOf]
 rw [hlen,hcells] at hf
 refine hf.mono ?_
 rintro e w' ⟨rfl,rfl⟩
 exact ⟨_,rfl,slR_strs w 9 _ opsL _ rfl (Nat.le_refl _) (by decide),(Below.refl _ _).alloc (Nat.le_refl _) _⟩
theorem ops_any (w:World) (hT:Spc w):Calls Tryz.prog 170 #[] w fun e w'=>∃v,e=.returned v∧SlR strR w' (fun b=>w.heap.size≤b) v opsL∧Below w.heap.size w w':=by
 have HF:=Lib.hid (fields_ops w hT)
 go_enter Tryz.func170,Tryz.ntmps170
 go_wp2_with fail
 refine HF.out.mono ?_
 rintro e w1 ⟨v,rfl,hs,hb⟩
 go_wp2
 go_ret
 exact ⟨_,rfl,hs,hb⟩
open Go.Maps in
theorem set_any (w:World) (hT:Spc w):Calls Tryz.prog 132 #[] w fun e w'=>e=.returned (.map (some w.heap.size))∧
  (∃D:DataW Unit,w'.ownsMap Tryz.prog 9 (plainElem Tryz.prog 4) w.heap.size opsL.length D∧∀s:ByteArray,D.atKey (.string s.data.toList) (.lit (.bool false))=.lit (.bool (inL opsL s)))∧Below w.heap.size w w':=by
 have hmm:=@run_makeMap Tryz.prog
 have ho:=ops_any (w.alloc (.map #[] 0)) (hT.below ((Below.refl _ _).alloc (Nat.le_refl _) _))
 have hsz:∀s∈opsL,s.size≤maxLen:=by decide+kernel
 have hln:opsL.length < maxLen:=by decide
 obtain ⟨l,hl⟩:∃l,l=opsL:=⟨_,rfl⟩
 rw [←hl] at ho hsz hln ⊢
 clear hl hT
 have HO:=Lib.hid ho
 have HSZ:=Lib.hid hsz
 have HLN:=Lib.hid hln
 clear ho hsz hln
 go_enter Tryz.func132,Tryz.ntmps132
 go_wp2_with fail
 refine HO.out.mono ?_
 rintro e w1 ⟨v,rfl,hs,hb⟩
 have hown0:w1.ownsMap Tryz.prog 9 (plainElem (H:=Unit) Tryz.prog 4) w.heap.size 0 (.map []):=(World.ownsMap_made w Tryz.prog _ _).kept (row:=none) ⟨hb.os,hb.tape,hb.output,hb.size,fun k hk _=>hb.block k hk⟩ (by simp)
 have hbw:Below w.heap.size w w1:=((Below.refl _ _).alloc (Nat.le_refl _) _).trans (hb.mono (by simp))
 have hs1:SlR strR w1 (fun b=>w.heap.size < b) v l:=hs.mono fun k hk=>by simp at hk;omega
 obtain ⟨a,c,rfl,_⟩:=hs.str
 have HOWN:=Lib.hid hown0
 have HBW:=Lib.hid hbw
 have HS1:=Lib.hid hs1
 clear hown0 hbw hs1 hs hb HO
 go_wp2
 go_loopw [7] (fun i wr=>∃k:Nat,k≤l.length∧i=.int .i64 k∧(∃D:DataW Unit,wr.ownsMap Tryz.prog 9 (plainElem Tryz.prog 4) w.heap.size k D∧IsMap D∧∀s:ByteArray,D.atKey (.string s.data.toList) (.lit (.bool false))=.lit (.bool (inL (l.take k) s)))∧SlR strR wr (fun b=>w.heap.size < b) (.slice a l.length c) l∧Below w.heap.size w wr) (fun i _=>l.length - (intOf i).toNat)
 case atStart=>exact ⟨0,Nat.zero_le _,rfl,⟨_,HOWN.out,⟨[],rfl⟩,fun s=>rfl⟩,HS1.out,HBW.out⟩
 case round=>
  obtain ⟨k,hk,rfl,⟨D,hown,hm,hD⟩,hs,hb⟩:=hrel
  have HS:=Lib.hid hs
  have HB:=Lib.hid hb
  have HM:=Lib.hid hm
  have HD:=Lib.hid hD
  obtain ⟨a2,c2,hv,_,_,g1⟩:=hs.str
  obtain ⟨rfl,_,rfl⟩:a=a2∧l.length=l.length∧c=c2:=by injection hv with h1 h2 h3;exact ⟨h1,h2,h3⟩
  clear hs hb hm hD hv
  by_cases hlt:k < l.length
  ·obtain ⟨b1,o1,rfl,_,d1⟩:=g1 k l[k] (List.getElem?_eq_getElem hlt)
   clear g1
   have HT:=Lib.hid (List.take_append_getElem hlt)
   have hkey:keyOf Tryz.prog 9 (.string l[k])=some (.string l[k].data.toList):=Go.WideMaps.keyOf_string_mk Tryz.underlying9 (HSZ.out _ (List.getElem_mem _))
   generalize l[k]=x at *
   go_wp2_with (at_mapUpdate;refine wpList_mapUpdate_own _ rfl _ _ _ 184 rfl 9 4 (string_keyed Tryz.underlying9) Tryz.underlying184 (plainElem (H:=Unit) Tryz.prog 4) w.heap.size k _ rfl hown (by have:=HLN.out;omega) _ _ _ rfl rfl hkey _ [] (plainElem_bool Tryz.underlying4 true) ?_;intro w3 hown3 hgrow3;have HOWN3:=Lib.hid hown3;have HG3:=Lib.hid hgrow3;clear hown3 hgrow3 hown hkey)
   go_roundw
   case rel=>
    refine ⟨k+1,by omega,by go_num,⟨_,HOWN3.out,?_,fun s=>?_⟩,?_,HB.out.grown HG3.out HB.out.size (fun j hj=>by cases hj;exact Nat.le_refl _)⟩
    ·obtain ⟨es,rfl⟩:=HM.out
     exact ⟨_,rfl⟩
    ·rw [←HT.out]
     by_cases hs:s=x
     ·subst hs
      rw [atKey_put_same HM.out (show WideAt.IsKeyLit (.string s.data.toList) from trivial)]
      simp [inL]
     ·rw [atKey_put_other (fun e=>hs (by cases s;cases x;simp at e;simp [e])),HD.out]
      have hn:(x.toList==s.toList)=false:=by
       cases hh:(x.toList==s.toList)
       ·rfl
       ·exact absurd (toList_inj (eq_of_beq hh)).symm hs
      simp [inL,hn]
    ·exact HS.out.old.keep (Keep.grown HG3.out (fun k hk=>⟨hk.2,fun e=>by cases e;exact Nat.lt_irrefl _ hk.1⟩)) |>.mono (fun k hk=>hk.1)
   case measure=>simp [intOf];omega
  ·clear g1
   have hkl:k=l.length:=by omega
   go_wp2
   go_ret
   subst hkl
   exact ⟨rfl,⟨D,hown,fun s=>by rw [HD.out,List.take_length]⟩,HB.out⟩
end Go.Proofs.YtjmekllgnhkodaaGreatDoor
namespace Go.Proofs.YtjmekllgnhkodaaGreatDoor
set_option maxHeartbeats 16000000
set_option maxRecDepth 100000
open Go.RowKit
theorem check1_any (o:Opd) (w:World):Calls Tryz.prog 134 #[.agg #[.int .i64 o.kind,.int .i64 o.reg,.int .i64 o.n]] w fun e w'=>e=.returned (.bool (!validOpd o))∧Below w.heap.size w w':=by
 have HB0:Hid (Below w.heap.size w (w.alloc (.cells #[.int .i64 o.kind,.int .i64 o.reg,.int .i64 o.n] 90))):=(Below.refl _ _).alloc (Nat.le_refl _) _
 have HV:=Lib.hid (valid_any o (w.alloc (.cells #[.int .i64 o.kind,.int .i64 o.reg,.int .i64 o.n] 90)))
 rw [←ok_valid]
 go_enter Tryz.func134,Tryz.ntmps134
 go_wp2_with (go_at_call 135;refine HV.out.mono ?_;rintro e w1 ⟨rfl,hb⟩;have HB:=Lib.hid (HB0.out.trans (hb.mono HB0.out.size));clear hb)
 go_ret
 exact ⟨rfl,HB.out⟩
theorem index_any (p:Blocks) (v:Value) (l:List Opd) (w:World) (h:SlR opdR w p v l):
  Calls Tryz.prog 171 #[v,.func (.func 134) #[] #[]] w fun e w'=>(∃r:Int,e=.returned (.int .i64 r)∧decide (0≤r)=!l.all validOpd)∧Below w.heap.size w w':=by
 obtain ⟨a,c,rfl,_⟩:=h.opd
 have H:=Lib.hid h
 clear h
 go_enter Tryz.func171,Tryz.ntmps171
 go_wp2
 go_loopw [8] (fun i wx=>∃k:Nat,k≤l.length∧i=.int .i64 k∧l.all validOpd=(l.drop k).all validOpd∧Below w.heap.size w wx) (fun i _=>l.length - (intOf i).toNat)
 case atStart=>exact ⟨0,Nat.zero_le _,rfl,rfl,Below.refl _ _⟩
 case round=>
  obtain ⟨k,hk,rfl,ht,hb⟩:=hrel
  have HT:=Lib.hid ht
  have HBX:=Lib.hid hb
  obtain ⟨ad,cd,hv,_,_,g1⟩:=(H.out.below hb).opd
  obtain ⟨rfl,_,rfl⟩:a=ad∧l.length=l.length∧c=cd:=by injection hv with h1 h2 h3;exact ⟨h1,h2,h3⟩
  clear ht hb hv
  by_cases hlt:k < l.length
  ·obtain ⟨b1,o1,rfl,_,d1,d2,d3⟩:=g1 k l[k] (List.getElem?_eq_getElem hlt)
   clear g1
   have HD:=Lib.hid (List.drop_eq_getElem_cons hlt)
   have hva:=fun wz=>check1_any l[k] wz
   generalize l[k]=x at *
   cases hvx:validOpd x
   all_goals
    rw [hvx] at hva
    have HVA:=Lib.hid hva
    have HVX:=Lib.hid hvx
    clear hva hvx
   ·go_wp2_with (go_at_call 134;refine (HVA.out _).mono ?_;rintro e w2 ⟨rfl,hb⟩;have HB2:=Lib.hid (HBX.out.trans (hb.mono HBX.out.size));clear hb)
    go_ret
    exact ⟨⟨k,rfl,by rw [HT.out,HD.out,List.all_cons,HVX.out];simp⟩,HB2.out⟩
   ·go_wp2_with (go_at_call 134;refine (HVA.out _).mono ?_;rintro e w2 ⟨rfl,hb⟩;have HB2:=Lib.hid (HBX.out.trans (hb.mono HBX.out.size));clear hb)
    go_round
    case rel=>exact ⟨k+1,by omega,by go_num,by rw [HT.out,HD.out,List.all_cons,HVX.out,Bool.true_and],HB2.out⟩
    case measure=>simp [intOf];omega
  ·clear g1
   go_wp2
   go_ret
   exact ⟨⟨-1,rfl,by rw [HT.out,List.drop_of_length_le (by omega)];simp⟩,HBX.out⟩
theorem contains_any (p:Blocks) (v:Value) (l:List Opd) (w:World) (h:SlR opdR w p v l):
  Calls Tryz.prog 133 #[v,.func (.func 134) #[] #[]] w fun e w'=>e=.returned (.bool (!l.all validOpd))∧Below w.heap.size w w':=by
 have HI:=Lib.hid (index_any p v l w h)
 obtain ⟨a,c,rfl,_⟩:=h.opd
 clear h
 go_enter Tryz.func133,Tryz.ntmps133
 go_wp2_with (go_at_call 171;refine HI.out.mono ?_;rintro e w1 ⟨⟨r,rfl,hr⟩,hb⟩;have HB:=Lib.hid hb;have HR:=Lib.hid hr;clear hb hr)
 go_ret
 exact ⟨ret_bool HR.out,HB.out⟩
theorem zeroB (w:World):(zeroValue 4).run Tryz.prog w=.ok (.bool false) w:=by kernel_rfl
theorem look_set {w:World} {b n:Nat} {D:DataW Unit} (hown:w.ownsMap Tryz.prog 9 (plainElem Tryz.prog 4) b n D) (hD:∀s:ByteArray,D.atKey (.string s.data.toList) (.lit (.bool false))=.lit (.bool (inL opsL s)))
  (s:ByteArray) (hs:s.size≤maxLen):(Instr.lookup 184 (.map (some b)) (.string s) false).run Tryz.prog w=.ok (.bool (inL opsL s)) w:=by
 obtain ⟨v,ps,hrun,hat⟩:=hown.lookup (Maps.string_keyed Tryz.underlying9) Tryz.underlying184 (zeroB w) (plainElem_bool Tryz.underlying4 false) (WideMaps.keyOf_string_mk Tryz.underlying9 hs)
 rw [hD] at hat
 rw [hrun]
 cases v<;>simp [plainElem,Tryz.underlying4] at hat
 rw [hat.1]
theorem check_any (p:Blocks) (x:Ins) (v:Value) (w:World) (h:SlR opdR w p v x.args) (hT:Spc w) (hs:x.op.size≤maxLen):
  Calls Tryz.prog 91 #[.agg #[.string x.op,v]] w fun e w'=>e=.returned (.int .i64 (check07 x))∧Below w.heap.size w w':=by
 obtain ⟨s,l⟩:=x
 dsimp only at *
 obtain ⟨a,c,rfl,_⟩:=h.opd
 obtain ⟨W,hW⟩:∃W:World,W=w.alloc (.cells #[.string s,.slice a l.length c] 27):=⟨_,rfl⟩
 have hbW:Below w.heap.size w W:=hW ▸ (Below.refl _ _).alloc (Nat.le_refl _) _
 have k1:Blk W w.heap.size 27 #[.string s,.slice a l.length c]:=hW ▸ Blk.new w _ _
 have HBW:Hid (Below w.heap.size w W.drew):=⟨hbW.os,hbW.tape,hbW.output,hbW.size,hbW.block⟩
 have HK:=Lib.hid k1
 have HSL:=Lib.hid (h.below hbW).drew
 have hset:Calls Tryz.prog 132 #[] W.drew fun e w'=>e=.returned (.map (some W.heap.size))∧
  (∃D:DataW Unit,w'.ownsMap Tryz.prog 9 (plainElem Tryz.prog 4) W.heap.size opsL.length D∧∀s:ByteArray,D.atKey (.string s.data.toList) (.lit (.bool false))=.lit (.bool (inL opsL s)))∧Below W.heap.size W.drew w':=
  set_any W.drew ((hT.below hbW).below ⟨rfl,rfl,rfl,Nat.le_refl _,fun _ _=>rfl⟩)
 have HS:=Lib.hid hs
 have hs1:w.heap.size < W.heap.size:=k1.lt
 obtain ⟨a0,a1,_,_⟩:=k1.two
 have HSET:=Lib.hid hset
 clear h hbW hset k1 hT hs
 cases hin:inL opsL s
 ·have HV:=Lib.hid (show check07 ⟨s,l⟩=12 by simp [check07,hin])
  have HIN:=Lib.hid hin
  go_enter Tryz.func91,Tryz.ntmps91
  go_upto_region 1 with fail
  rw [←hW]
  clear hW
  go_region_held3 (fun w'=>w'.cell? ⟨w.heap.size,0,none⟩=some (.string s)∧w'.cell? ⟨w.heap.size,1,none⟩=some (.slice a l.length c)) (go_keep)
   (first | (go_at_call 132;refine HSET.out.mono ?_;rintro e w1 ⟨rfl,⟨D,hown,hD⟩,hb⟩;have HB:=Lib.hid hb;have hlook:=look_set hown hD s HS.out;rw [HIN.out] at hlook;have b0:w1.cell? ⟨w.heap.size,0,none⟩=some (.string s):=(hb.cell (p:=⟨w.heap.size,0,none⟩) hs1).trans a0;have b1:w1.cell? ⟨w.heap.size,1,none⟩=some (.slice a l.length c):=(hb.cell (p:=⟨w.heap.size,1,none⟩) hs1).trans a1;clear hb hown hD))
  go_wp2
  go_ret
  exact ⟨ret_int HV.out.symm,HBW.out.trans (HB.out.mono HBW.out.size)⟩
 ·have HIN:=Lib.hid hin
  cases hl:decide ((3:Int) < l.length)
  rotate_left
  ·have HV:=Lib.hid (show check07 ⟨s,l⟩=11 by have:=of_decide_eq_true hl;simp [check07,hin];omega)
   go_enter Tryz.func91,Tryz.ntmps91
   go_upto_region 1 with fail
   rw [←hW]
   clear hW
   go_region_held3 (fun w'=>w'.cell? ⟨w.heap.size,0,none⟩=some (.string s)∧w'.cell? ⟨w.heap.size,1,none⟩=some (.slice a l.length c)) (go_keep)
    (first | (go_at_call 132;refine HSET.out.mono ?_;rintro e w1 ⟨rfl,⟨D,hown,hD⟩,hb⟩;have HB:=Lib.hid hb;have hlook:=look_set hown hD s HS.out;rw [HIN.out] at hlook;have b0:w1.cell? ⟨w.heap.size,0,none⟩=some (.string s):=(hb.cell (p:=⟨w.heap.size,0,none⟩) hs1).trans a0;have b1:w1.cell? ⟨w.heap.size,1,none⟩=some (.slice a l.length c):=(hb.cell (p:=⟨w.heap.size,1,none⟩) hs1).trans a1;clear hb hown hD))
   go_wp2
   go_ret
   exact ⟨ret_int HV.out.symm,HBW.out.trans (HB.out.mono HBW.out.size)⟩
  ·have hv:check07 ⟨s,l⟩=if l.all validOpd then 0 else 2:=by have:=of_decide_eq_false hl;simp [check07,hin];omega
   cases hall:l.all validOpd
   all_goals
    rw [hall] at hv
    have HV:=Lib.hid hv
    have HALL:=Lib.hid hall
    clear hv hall
    go_enter Tryz.func91,Tryz.ntmps91
    go_upto_region 1 with fail
    rw [←hW]
    clear hW
    go_region_held3 (fun w'=>w'.cell? ⟨w.heap.size,0,none⟩=some (.string s)∧w'.cell? ⟨w.heap.size,1,none⟩=some (.slice a l.length c)) (go_keep)
     (first | (go_at_call 132;refine HSET.out.mono ?_;rintro e w1 ⟨rfl,⟨D,hown,hD⟩,hb⟩;have HB:=Lib.hid hb;have hlook:=look_set hown hD s HS.out;rw [HIN.out] at hlook;have b0:w1.cell? ⟨w.heap.size,0,none⟩=some (.string s):=(hb.cell (p:=⟨w.heap.size,0,none⟩) hs1).trans a0;have b1:w1.cell? ⟨w.heap.size,1,none⟩=some (.slice a l.length c):=(hb.cell (p:=⟨w.heap.size,1,none⟩) hs1).trans a1;clear hb hown hD))
    have HSL1:=Lib.hid (HSL.out.below HB.out)
    go_wp2_with (go_at_call 133;refine (contains_any _ _ _ _ HSL1.out).mono ?_;rw [HALL.out];rintro e w2 ⟨rfl,hb⟩;have HB2:=Lib.hid hb;clear hb)
    go_ret
    exact ⟨ret_int HV.out.symm,(HBW.out.trans (HB.out.mono HBW.out.size)).trans (HB2.out.mono (Nat.le_trans HBW.out.size HB.out.size))⟩
end Go.Proofs.YtjmekllgnhkodaaGreatDoor
