/-
  The reference's canonical form. ref10.Fits. The reference's lists of operands, owned. The builder's methods; arg at each letter. Conditions: at most a million operands; numbers in int's range; sizes.
-/
import Derived.Test.YtpigbggoiipmhaaGreatDoorBA7
import Derived.Test.YtpigbggoiipmhaaGreatDoorBA8
namespace Go.Proofs.YtpigbggoiipmhaaGreatDoor
open Go.RowKit
structure Ro (w wx:World) (s:ByteArray) (vi v:Value) (l:List Opd):Prop where
 b1:Blk wx w.heap.size 30 #[.string s,vi]
 b2:Blk wx (w.heap.size+1) 30 #[.string ⟨#[]⟩,.slice none 0 0]
 b3:Blk wx (w.heap.size+1+1) 52 #[.int .i64 1,.int .i64 7,.int .i64 0]
 own:aD wx (λb=>w.heap.size+1+1+1<=b) v l
 below:Below w.heap.size w wx
theorem Ro.later {w wx w':World} {s:ByteArray} {vi v:Value} {l:List Opd} (h:Ro w wx s vi v l) (hb:Below wx.heap.size wx w'):Ro w w' s vi v l:=⟨h.b1.below hb h.b1.lt,h.b2.below hb h.b2.lt,h.b3.below hb h.b3.lt,h.own.below hb,h.below.trans (hb.mono h.below.size)⟩
theorem Ro.alloc {w wx:World} {s:ByteArray} {vi v:Value} {l:List Opd} (h:Ro w wx s vi v l) (o:Obj):Ro w (wx.alloc o) s vi v l:=h.later ((zY _ _).alloc (zI _) o)
theorem Ro.drew {w wx:World} {s:ByteArray} {vi v:Value} {l:List Opd} (h:Ro w wx s vi v l):Ro w wx.drew s vi v l:=h.later ⟨rfl,rfl,rfl,zI _,λ_ _=>rfl⟩
def t1 (s:ByteArray) (l:List Opd):Bool:=inL iM s&&(match l with | [x,_]=>aP x kM | _=>false)
end Go.Proofs.YtpigbggoiipmhaaGreatDoor
namespace Go.Proofs.YtpigbggoiipmhaaGreatDoor
open Go.RowKit Go.Shelf Go.Sort
def nAt (l:List Opd) (k:Nat):Int:=match l[k]? with | some o=>o.n | none=>0
def OwO (w:World) (B:Nat) (v:Value) (l:List Opd):Prop:=Own aM w B 52 NoB v l
theorem OwO.below {w w':World} {B:Nat} {v:Value} {l:List Opd} (h:OwO w B v l) (hb:Below w.heap.size w w'):OwO w' B v l:=Own.keep h (aS.of_below hb (λk hk=>by rcases hk with hk | hk;exact hk.elim;exact (Own.lt h k hk).2))
theorem OwO.far {w:World} {B:Nat} {v:Value} {l:List Opd} (h:OwO w B v l) {p:Addr} (hp:p.block < B) (u:Value):OwO (w.setCell p u) B v l:=
 Own.keep h (aS.setCell (λk hk=>by
  rcases hk with hk | hk
  ·exact hk.elim
  ·have:=(Own.lt h k hk).1;omega) u)
theorem OwO.form {w:World} {B:Nat} {v:Value} {l:List Opd} (h:OwO w B v l):∃a c,v=.slice a l.length c:=Own.form h
end Go.Proofs.YtpigbggoiipmhaaGreatDoor
namespace Go.Proofs.YtpigbggoiipmhaaGreatDoor
set_option maxHeartbeats 4000000
set_option maxRecDepth 100000
open Go.RowKit Go.Shelf
theorem wF (c:UInt8) (op:Nat):∀(l:List UInt8) (i acc:Nat),acc < 2 ^ i->bP c op i acc l < 2 ^ (i+l.length)
 | [],i,acc,h=>h
 | x::r,i,acc,h=>by
  have h2:op / 2 ^ (7 - i) % 2 < 2:=z2F _ (by omega);have h3:2 ^ (i+1)=2 * 2 ^ i:=by rw [Nat.pow_succ,Nat.mul_comm]
  rw [bP,VH,show i+(r.length+1)=i+1+r.length by omega];refine wF c op r (i+1) _ ?_;split<;>omega
theorem MK (x:dO) (hx:x.ok) (c:UInt8):bP c x.op 0 0 x.bits.data.toList < 256:=by
 have h:=wF c x.op x.bits.data.toList 0 0 (by decide);have h2:x.bits.data.toList.length<=8:=by have:=hx.bits;simpa using this
 have h3:2 ^ (0+x.bits.data.toList.length)<=2 ^ 8:=Nat.pow_le_pow_right (by omega) (by omega);omega
def pB:List UInt8:=[66,32,67,32,68,32,69,32,72,32,76,32,40,72,76,41,32,65]
def uQ:List UInt8:=[66,67,32,68,69,32,72,76,32,83,80]
def uK:List UInt8:=[66,67,32,68,69,32,72,76,32,65,70]
theorem RC {P:Prop} (h:P:=by
  have hal:=(zY w.heap.size w).alloc (zI _) (.cells #[.int .i64 0,.int .i64 0,.int .i64 0] 52);have HF:=aA (Blk.new w 52 #[.int .i64 0,.int .i64 0,.int .i64 0]);have HB:=aA hal;have HN:=aA (rR bp x c _ (h.below hal h.lt) hx);first
   | ((have _:=Ma0);(have hasc:∀b∈pB,b.toNat < 128:=by decide);(have HD:=aA (λW hT=>nY ⟨pB.toArray⟩ _ y o W hy ho hyl (by decide) (λj b hb=>hasc b (VM hb)) hT)))
   | ((have _:=Ma1);(have hasc:∀b∈uQ,b.toNat < 128:=by decide);(have HD:=aA (λW hT=>nY ⟨uQ.toArray⟩ _ y o W hy ho hyl (by decide) (λj b hb=>hasc b (VM hb)) hT)))
   | ((have hasc:∀b∈uK,b.toNat < 128:=by decide);(have HD:=aA (λW hT=>nY ⟨uK.toArray⟩ _ y o W hy ho hyl (by decide) (λj b hb=>hasc b (VM hb)) hT)))
  have HT:=aA hT;first
   | ((have _:=Mb0);(unfold pB at HD))
   | ((have _:=Mb1);(unfold uQ at HD))
   | (unfold uK at HD)
  clear h hx hy ho hyl hT hal hasc;generalize bP c x.op 0 0 x.bits.data.toList=n at *;obtain ⟨ok,orr,on⟩:=o;first
   | ((have _:=Mc0);(go_enter Tryz.func265,Tryz.ntmps265))
   | ((have _:=Mc1);(go_enter Tryz.func266,Tryz.ntmps266))
   | (go_enter Tryz.func267,Tryz.ntmps267)
  go_wp2_with (first
   | (go_at_call 287;refine HN.out.mono ?_;rintro e w1 ⟨rfl,hb⟩;have HF1:=aA (HF.out.below hb HF.out.lt);have HB1:=aA (HB.out.trans (hb.mono HB.out.size));obtain ⟨z0,z1,z2,y0,y1,y2⟩:=HF1.out.three;clear hb)
   | (go_at_call 286;refine (HD.out _ (HT.out.below HB1.out)).mono ?_;rintro e w2 ⟨rfl,hb⟩;unfold Opd.val;have HF2:=aA (HF1.out.below hb HF1.out.lt);have HB2:=aA (HB1.out.trans (hb.mono HB1.out.size));clear z0 z1 z2 y0 y1 y2;obtain ⟨z0,z1,z2,y0,y1,y2⟩:=HF2.out.three;clear hb))
  refine yR (aJ rfl _ _ w.heap.size 52 #[.int .i64 ok,.int .i64 orr,.int .i64 on] (0,0) _ rfl (show Blk _ w.heap.size 52 #[.int .i64 ok,.int .i64 orr,.int .i64 on] from ((HF2.out.set 0 _).set 1 _).set 2 _) Tryz.underlying52 rfl (by kernel_rfl)) rfl ⟨rfl,?_⟩;exact ((HB2.out.setCell (zI _) _).setCell (zI _) _).setCell (zI _) _):P:=h
theorem oR (bp:Nat) (x:dO) (c:UInt8) (y:List UInt8) (o:Opd) (w:World) (h:BK w bp x) (hx:x.ok) (hy:(Lib.fields pB)[bP c x.op 0 0 x.bits.data.toList]?=some y) (ho:eX y=some o) (hyl:y.length<=1000) (hT:Spc w):
  Calls Tryz.prog 265 #[.pointer (some ⟨bp,0,none⟩),.int .u8 c.toNat] w λe w'=>e=.returned o.val/\Below w.heap.size w w':=by
 have Ma0:=trivial;have Mb0:=trivial;have Mc0:=trivial;exact RC
theorem TW (bp:Nat) (x:dO) (c:UInt8) (y:List UInt8) (o:Opd) (w:World) (h:BK w bp x) (hx:x.ok) (hy:(Lib.fields uQ)[bP c x.op 0 0 x.bits.data.toList]?=some y) (ho:eX y=some o) (hyl:y.length<=1000) (hT:Spc w):
  Calls Tryz.prog 266 #[.pointer (some ⟨bp,0,none⟩),.int .u8 c.toNat] w λe w'=>e=.returned o.val/\Below w.heap.size w w':=by
 have Ma1:=trivial;have Mb1:=trivial;have Mc1:=trivial;exact RC
theorem MZ (bp:Nat) (x:dO) (c:UInt8) (y:List UInt8) (o:Opd) (w:World) (h:BK w bp x) (hx:x.ok) (hy:(Lib.fields uK)[bP c x.op 0 0 x.bits.data.toList]?=some y) (ho:eX y=some o) (hyl:y.length<=1000) (hT:Spc w):
  Calls Tryz.prog 267 #[.pointer (some ⟨bp,0,none⟩),.int .u8 c.toNat] w λe w'=>e=.returned o.val/\Below w.heap.size w w':=RC
theorem TV {P:Prop} (h:P:=by
  have hal:=(zY w.heap.size w).alloc (zI _) (.cells #[.int .i64 0,.int .i64 0,.int .i64 0] 52);have HF:=aA (Blk.new w 52 #[.int .i64 0,.int .i64 0,.int .i64 0]);have HB:=aA hal;have HN:=aA (rR bp x c _ (h.below hal h.lt) hx);have hlt:=MK x hx c;generalize bP c x.op 0 0 x.bits.data.toList=n at *;have hn1:(n:Int)<=255:=by omega
  clear h hx hal hlt;first
   | ((have _:=Ma0);(go_enter Tryz.func268,Tryz.ntmps268))
   | ((have _:=Ma1);(go_enter Tryz.func269,Tryz.ntmps269))
   | (go_enter Tryz.func270,Tryz.ntmps270)
  go_wp2_with (go_at_call 287;refine HN.out.mono ?_;rintro e w1 ⟨rfl,hb⟩;have HF1:=aA (HF.out.below hb HF.out.lt);have HB1:=aA (HB.out.trans (hb.mono HB.out.size));obtain ⟨z0,z1,z2,y0,y1,y2⟩:=HF1.out.three;clear hb);first
   | ((have _:=Mb0);(refine yR (aJ rfl _ _ w.heap.size 52 #[.int .i64 8,.int .i64 (n:Int),.int .i64 0] (0,0) _ rfl (show Blk _ w.heap.size 52 #[.int .i64 8,.int .i64 (n:Int),.int .i64 0] from ((HF1.out.set 0 _).set 1 _).set 2 _) Tryz.underlying52 rfl (by kernel_rfl)) rfl ⟨rfl,?_⟩))
   | ((have _:=Mb1);(refine yR (aJ rfl _ _ w.heap.size 52 #[.int .i64 6,.int .i64 0,.int .i64 (n:Int)] (0,0) _ rfl (show Blk _ w.heap.size 52 #[.int .i64 6,.int .i64 0,.int .i64 (n:Int)] from ((HF1.out.set 0 _).set 1 _).set 2 _) Tryz.underlying52 rfl (by kernel_rfl)) rfl ⟨rfl,?_⟩))
   | (refine yR (aJ rfl _ _ w.heap.size 52 #[.int .i64 6,.int .i64 0,.int .i64 (8 * (n:Int))] (0,0) _ rfl (show Blk _ w.heap.size 52 #[.int .i64 6,.int .i64 0,.int .i64 (8 * (n:Int))] from ((HF1.out.set 0 _).set 1 _).set 2 _) Tryz.underlying52 rfl (by kernel_rfl)) rfl ⟨rfl,?_⟩)
  exact ((HB1.out.setCell (zI _) _).setCell (zI _) _).setCell (zI _) _):P:=h
theorem nC (bp:Nat) (x:dO) (c:UInt8) (w:World) (h:BK w bp x) (hx:x.ok):
  Calls Tryz.prog 268 #[.pointer (some ⟨bp,0,none⟩),.int .u8 c.toNat] w λe w'=>e=.returned (Opd.val ⟨8,(bP c x.op 0 0 x.bits.data.toList:Nat),0⟩)/\Below w.heap.size w w':=by
 have Ma0:=trivial;have Mb0:=trivial;exact TV
theorem bit_any (bp:Nat) (x:dO) (c:UInt8) (w:World) (h:BK w bp x) (hx:x.ok):
  Calls Tryz.prog 269 #[.pointer (some ⟨bp,0,none⟩),.int .u8 c.toNat] w λe w'=>e=.returned (Opd.val ⟨6,0,(bP c x.op 0 0 x.bits.data.toList:Nat)⟩)/\Below w.heap.size w w':=by
 have Ma1:=trivial;have Mb1:=trivial;exact TV
theorem AA (bp:Nat) (x:dO) (c:UInt8) (w:World) (h:BK w bp x) (hx:x.ok):
  Calls Tryz.prog 270 #[.pointer (some ⟨bp,0,none⟩),.int .u8 c.toNat] w λe w'=>e=.returned (Opd.val ⟨6,0,(8 * (bP c x.op 0 0 x.bits.data.toList:Nat))⟩)/\Below w.heap.size w w':=TV
theorem WZ (W:World) (c:UInt8):(convert 22 9 (.slice (some ⟨W.heap.size,0,none⟩) 1 1)).run Tryz.prog (W.alloc (.cells #[.int .u8 c.toNat] 5))=.ok (.string ⟨#[c]⟩) (W.alloc (.cells #[.int .u8 c.toNat] 5)):=by
 have hb:=Blk.new W 5 #[.int .u8 c.toNat];exact kR _ _ 1 [c] ⟨λj x hx=>by
  cases j with
  | zero=>simp at hx;subst hx;exact hb.cell 0
  | succ j=>simp at hx,λj hj=>hb.free j⟩
theorem qD (bp:Nat) (c:UInt8) (o:Opd) (w:World) (ho:eX [c]=some o):
  Calls Tryz.prog 264 #[.pointer (some ⟨bp,0,none⟩),.int .u8 c.toNat] w λe w'=>e=.returned o.val/\Below w.heap.size w w':=by
 have hal:=(zY w.heap.size w).alloc (zI _) (.cells #[.int .i64 0,.int .i64 0,.int .i64 0] 52);have HF:=aA (Blk.new w 52 #[.int .i64 0,.int .i64 0,.int .i64 0]);have HB:=aA hal;have hal2:=hal.alloc hal.size (.cells #[.int .u8 c.toNat] 5);have HF0:=aA ((Blk.new w 52 #[.int .i64 0,.int .i64 0,.int .i64 0]).alloc (.cells #[.int .u8 c.toNat] 5));have HB0:=aA hal2;have hcv:=WZ (w.alloc (.cells #[.int .i64 0,.int .i64 0,.int .i64 0] 52)) c;rw [zW] at hcv;have HWD:=aA (λW=>qT ⟨#[c]⟩ o W ho (by show 1<=1000;omega));clear ho hal hal2 HF HB;obtain ⟨ok,orr,on⟩:=o;go_enter Tryz.func264,Tryz.ntmps264;go_wp2_with (go_at_call 263;go_loud (refine (HWD.out _).mono ?_);rintro e w2 ⟨rfl,hb⟩;unfold Opd.val;have HF2:=aA (HF0.out.below hb HF0.out.lt);have HB2:=aA (HB0.out.trans (hb.mono HB0.out.size));obtain ⟨z0,z1,z2,y0,y1,y2⟩:=HF2.out.three;clear hb);refine yR (aJ rfl _ _ w.heap.size 52 #[.int .i64 ok,.int .i64 orr,.int .i64 on] (0,0) _ rfl (show Blk _ w.heap.size 52 #[.int .i64 ok,.int .i64 orr,.int .i64 on] from ((HF2.out.set 0 _).set 1 _).set 2 _) Tryz.underlying52 rfl (by kernel_rfl)) rfl ⟨rfl,?_⟩;exact ((HB2.out.setCell (zI _) _).setCell (zI _) _).setCell (zI _) _
theorem uZ (bp:Nat) (c:UInt8) (w:World) (hc:c=48\/c=49\/c=50):
  Calls Tryz.prog 273 #[.pointer (some ⟨bp,0,none⟩),.int .u8 c.toNat] w λe w'=>e=.returned (Opd.val ⟨6,0,(c.toNat - 48:Nat)⟩)/\Below w.heap.size w w':=by
 have hal:=(zY w.heap.size w).alloc (zI _) (.cells #[.int .i64 0,.int .i64 0,.int .i64 0] 52);have HF:=aA (Blk.new w 52 #[.int .i64 0,.int .i64 0,.int .i64 0]);have HB:=aA hal;obtain ⟨z0,z1,z2,y0,y1,y2⟩:=HF.out.three;clear hal;rcases hc with rfl | rfl | rfl
 ·show Calls _ _ #[.pointer (some ⟨bp,0,none⟩),.int .u8 48] w λe w'=>e=.returned (.agg #[.int .i64 6,.int .i64 0,.int .i64 0])/\_;go_enter Tryz.func273,Tryz.ntmps273;go_wp2;refine yR (aJ rfl _ _ w.heap.size 52 #[.int .i64 6,.int .i64 0,.int .i64 0] (0,0) _ rfl (show Blk _ w.heap.size 52 #[.int .i64 6,.int .i64 0,.int .i64 0] from Blk.new w _ _) Tryz.underlying52 rfl (by kernel_rfl)) rfl ⟨rfl,?_⟩;exact (zY w.heap.size w).alloc (zI _) _
 ·show Calls _ _ #[.pointer (some ⟨bp,0,none⟩),.int .u8 49] w λe w'=>e=.returned (.agg #[.int .i64 6,.int .i64 0,.int .i64 1])/\_;go_enter Tryz.func273,Tryz.ntmps273;go_wp2;refine yR (aJ rfl _ _ w.heap.size 52 #[.int .i64 6,.int .i64 0,.int .i64 1] (0,0) _ rfl (show Blk _ w.heap.size 52 #[.int .i64 6,.int .i64 0,.int .i64 1] from Blk.new w _ _) Tryz.underlying52 rfl (by kernel_rfl)) rfl ⟨rfl,?_⟩;exact (zY w.heap.size w).alloc (zI _) _
 ·show Calls _ _ #[.pointer (some ⟨bp,0,none⟩),.int .u8 50] w λe w'=>e=.returned (.agg #[.int .i64 6,.int .i64 0,.int .i64 2])/\_;go_enter Tryz.func273,Tryz.ntmps273;go_wp2;refine yR (aJ rfl _ _ w.heap.size 52 #[.int .i64 6,.int .i64 0,.int .i64 2] (0,0) _ rfl (show Blk _ w.heap.size 52 #[.int .i64 6,.int .i64 0,.int .i64 2] from Blk.new w _ _) Tryz.underlying52 rfl (by kernel_rfl)) rfl ⟨rfl,?_⟩;exact (zY w.heap.size w).alloc (zI _) _
theorem pP (W:World) (g:Nat) (c:UInt8) (hb:Blk W g 5 #[.int .u8 c.toNat]):(convert 22 9 (.slice (some ⟨g,0,none⟩) 1 1)).run Tryz.prog W=.ok (.string ⟨#[c]⟩) W:=
 kR _ _ 1 [c] ⟨λj x hx=>by
  cases j with
  | zero=>simp at hx;subst hx;exact hb.cell 0
  | succ j=>simp at hx,λj hj=>hb.free j⟩
theorem xC (w:World) (bp q:Nat) (v:Value) (o1 o2:Obj):w.grownBy (((w.setCell ⟨bp,q,none⟩ v).alloc o1).alloc o2).drew (some bp):=by
 refine ⟨rfl,rfl,rfl,?_,λk hk hne=>?_⟩
 ·show _<=(World.alloc _ _).heap.size;rw [zW,zW,yY];omega
 ·show (World.alloc _ _).heap[k]?=_;rw [z1S _ _ _ (by rw [zW,yY];omega),z1S _ _ _ (by rw [yY];omega)];exact xV _ _ _ _ (λe=>hne (by rw [e]))
theorem zP (bp:Nat) (x:dO) (c:UInt8) (w:World) (h:BK w bp x) (hx:x.ok):
  Calls Tryz.prog 271 #[.pointer (some ⟨bp,0,none⟩),.int .u8 c.toNat] w λe w'=>e=.returned (Opd.val ⟨10,0,0⟩)/\BK w' bp {x with ex:=x.ex++[c]}/\w.grownBy w' (some bp):=by
 obtain ⟨pg,op,iop,ia,ex,al,bits,rop,ra,ral⟩:=x;have hex:=hx.ex;simp only at hex;have h0:Blk w bp 299 (bdr pg op iop ia ex al bits rop ra ral):=h;have hlt:bp < w.heap.size:=h.lt;have hne1:¬bp=w.heap.size:=YX hlt;have hne2:¬bp=w.heap.size+1:=by omega
 have hA:World:=w.alloc (.cells #[.int .i64 0,.int .i64 0,.int .i64 0] 52);have hKA:Blk (w.alloc (.cells #[.int .i64 0,.int .i64 0,.int .i64 0] 52)) bp 299 (bdr pg op iop ia ex al bits rop ra ral):=h0.alloc (.cells #[.int .i64 0,.int .i64 0,.int .i64 0] 52);have hKB:Blk ((w.alloc (.cells #[.int .i64 0,.int .i64 0,.int .i64 0] 52)).alloc (.cells #[.int .u8 c.toNat] 5)) bp 299 (bdr pg op iop ia ex al bits rop ra ral):=hKA.alloc (.cells #[.int .u8 c.toNat] 5);have hFB:Blk ((w.alloc (.cells #[.int .i64 0,.int .i64 0,.int .i64 0] 52)).alloc (.cells #[.int .u8 c.toNat] 5)) w.heap.size 52 #[.int .i64 0,.int .i64 0,.int .i64 0]:=(Blk.new w 52 #[.int .i64 0,.int .i64 0,.int .i64 0]).alloc (.cells #[.int .u8 c.toNat] 5);have hcb:=Blk.new (w.alloc (.cells #[.int .i64 0,.int .i64 0,.int .i64 0] 52)) 5 #[.int .u8 c.toNat];rw [zW] at hcb;have hcv1:=pP ((w.alloc (.cells #[.int .i64 0,.int .i64 0,.int .i64 0] 52)).alloc (.cells #[.int .u8 c.toNat] 5)).drew (w.heap.size+1) c hcb;have hcv2:=pP ((w.alloc (.cells #[.int .i64 0,.int .i64 0,.int .i64 0] 52)).drew.alloc (.cells #[.int .u8 c.toNat] 5)) (w.heap.size+1) c hcb;have a4:(w.alloc (.cells #[.int .i64 0,.int .i64 0,.int .i64 0] 52)).cell? ⟨bp,4,none⟩=some (.string ⟨ex.toArray⟩):=hKA.cell 4;have b4:((w.alloc (.cells #[.int .i64 0,.int .i64 0,.int .i64 0] 52)).alloc (.cells #[.int .u8 c.toNat] 5)).cell? ⟨bp,4,none⟩=some (.string ⟨ex.toArray⟩):=hKB.cell 4;have b4f:((w.alloc (.cells #[.int .i64 0,.int .i64 0,.int .i64 0] 52)).alloc (.cells #[.int .u8 c.toNat] 5)).frozen? ⟨bp,4,none⟩=false:=hKB.free 4;have b4':((w.alloc (.cells #[.int .i64 0,.int .i64 0,.int .i64 0] 52)).drew.alloc (.cells #[.int .u8 c.toNat] 5)).cell? ⟨bp,4,none⟩=some (.string ⟨ex.toArray⟩):=hKB.cell 4;have b4f':((w.alloc (.cells #[.int .i64 0,.int .i64 0,.int .i64 0] 52)).drew.alloc (.cells #[.int .u8 c.toNat] 5)).frozen? ⟨bp,4,none⟩=false:=hKB.free 4;have HK0:=aA h0;obtain ⟨exB,hexB⟩:∃b:ByteArray,b=⟨ex.toArray⟩:=⟨_,rfl⟩;have hsz:exB.size<=100:=by rw [hexB];show ex.toArray.size<=_;rw [XF];exact hex
 have HEX:=aA hexB;rw [<-hexB] at a4 b4 b4';clear h h0 hx hex hA hKA hKB hFB hcb hexB;go_enter Tryz.func271,Tryz.ntmps271;go_wp2;go_region;all_goals
  go_wp2;have hcat:(exB++⟨#[c]⟩:ByteArray)=⟨(ex++[c]).toArray⟩:=by rw [HEX.out];apply ByteArray.ext;simp
  rw [hcat];have hfin:Blk ((((w.setCell ⟨bp,4,none⟩ (.string ⟨(ex++[c]).toArray⟩)).alloc (.cells #[.int .i64 10,.int .i64 0,.int .i64 0] 52)).alloc (.cells #[.int .u8 c.toNat] 5)).drew) w.heap.size 52 #[.int .i64 10,.int .i64 0,.int .i64 0]:=by have h1:=(Blk.new (w.setCell ⟨bp,4,none⟩ (.string ⟨(ex++[c]).toArray⟩)) 52 #[.int .i64 10,.int .i64 0,.int .i64 0]).alloc (.cells #[.int .u8 c.toNat] 5);rw [yY] at h1;exact h1
  refine yR (aJ rfl _ _ w.heap.size 52 #[.int .i64 10,.int .i64 0,.int .i64 0] (0,0) _ rfl hfin Tryz.underlying52 rfl (by kernel_rfl)) rfl ⟨rfl,?_,?_⟩
  ·exact (((HK0.out.set 4 (.string ⟨(ex++[c]).toArray⟩)).alloc (.cells #[.int .i64 10,.int .i64 0,.int .i64 0] 52)).alloc (.cells #[.int .u8 c.toNat] 5))
  ·exact xC w bp 4 _ _ _
theorem vW (bp:Nat) (x:dO) (c:UInt8) (w:World) (h:BK w bp x) (hx:x.ok):
  Calls Tryz.prog 272 #[.pointer (some ⟨bp,0,none⟩),.int .u8 c.toNat] w λe w'=>e=.returned (Opd.val ⟨6,0,0⟩)/\BK w' bp {x with ex:=x.ex++[c]}/\w.grownBy w' (some bp):=by
 obtain ⟨pg,op,iop,ia,ex,al,bits,rop,ra,ral⟩:=x;have hex:=hx.ex;simp only at hex;have h0:Blk w bp 299 (bdr pg op iop ia ex al bits rop ra ral):=h;have hlt:bp < w.heap.size:=h.lt;have hne1:¬bp=w.heap.size:=YX hlt;have hne2:¬bp=w.heap.size+1:=by omega
 have hA:World:=w.alloc (.cells #[.int .i64 0,.int .i64 0,.int .i64 0] 52);have hKA:Blk (w.alloc (.cells #[.int .i64 0,.int .i64 0,.int .i64 0] 52)) bp 299 (bdr pg op iop ia ex al bits rop ra ral):=h0.alloc (.cells #[.int .i64 0,.int .i64 0,.int .i64 0] 52);have hKB:Blk ((w.alloc (.cells #[.int .i64 0,.int .i64 0,.int .i64 0] 52)).alloc (.cells #[.int .u8 c.toNat] 5)) bp 299 (bdr pg op iop ia ex al bits rop ra ral):=hKA.alloc (.cells #[.int .u8 c.toNat] 5);have hFB:Blk ((w.alloc (.cells #[.int .i64 0,.int .i64 0,.int .i64 0] 52)).alloc (.cells #[.int .u8 c.toNat] 5)) w.heap.size 52 #[.int .i64 0,.int .i64 0,.int .i64 0]:=(Blk.new w 52 #[.int .i64 0,.int .i64 0,.int .i64 0]).alloc (.cells #[.int .u8 c.toNat] 5);have hcb:=Blk.new (w.alloc (.cells #[.int .i64 0,.int .i64 0,.int .i64 0] 52)) 5 #[.int .u8 c.toNat];rw [zW] at hcb;have hcv1:=pP ((w.alloc (.cells #[.int .i64 0,.int .i64 0,.int .i64 0] 52)).alloc (.cells #[.int .u8 c.toNat] 5)).drew (w.heap.size+1) c hcb;have hcv2:=pP ((w.alloc (.cells #[.int .i64 0,.int .i64 0,.int .i64 0] 52)).drew.alloc (.cells #[.int .u8 c.toNat] 5)) (w.heap.size+1) c hcb;have a4:(w.alloc (.cells #[.int .i64 0,.int .i64 0,.int .i64 0] 52)).cell? ⟨bp,4,none⟩=some (.string ⟨ex.toArray⟩):=hKA.cell 4;have b4:((w.alloc (.cells #[.int .i64 0,.int .i64 0,.int .i64 0] 52)).alloc (.cells #[.int .u8 c.toNat] 5)).cell? ⟨bp,4,none⟩=some (.string ⟨ex.toArray⟩):=hKB.cell 4;have b4f:((w.alloc (.cells #[.int .i64 0,.int .i64 0,.int .i64 0] 52)).alloc (.cells #[.int .u8 c.toNat] 5)).frozen? ⟨bp,4,none⟩=false:=hKB.free 4;have b4':((w.alloc (.cells #[.int .i64 0,.int .i64 0,.int .i64 0] 52)).drew.alloc (.cells #[.int .u8 c.toNat] 5)).cell? ⟨bp,4,none⟩=some (.string ⟨ex.toArray⟩):=hKB.cell 4;have b4f':((w.alloc (.cells #[.int .i64 0,.int .i64 0,.int .i64 0] 52)).drew.alloc (.cells #[.int .u8 c.toNat] 5)).frozen? ⟨bp,4,none⟩=false:=hKB.free 4;have HK0:=aA h0;obtain ⟨exB,hexB⟩:∃b:ByteArray,b=⟨ex.toArray⟩:=⟨_,rfl⟩;have hsz:exB.size<=100:=by rw [hexB];show ex.toArray.size<=_;rw [XF];exact hex
 have HEX:=aA hexB;rw [<-hexB] at a4 b4 b4';clear h h0 hx hex hA hKA hKB hFB hcb hexB;go_enter Tryz.func272,Tryz.ntmps272;go_wp2;go_region;all_goals
  go_wp2;have hcat:(exB++⟨#[c]⟩:ByteArray)=⟨(ex++[c]).toArray⟩:=by rw [HEX.out];apply ByteArray.ext;simp
  rw [hcat];have hfin:Blk ((((w.setCell ⟨bp,4,none⟩ (.string ⟨(ex++[c]).toArray⟩)).alloc (.cells #[.int .i64 6,.int .i64 0,.int .i64 0] 52)).alloc (.cells #[.int .u8 c.toNat] 5)).drew) w.heap.size 52 #[.int .i64 6,.int .i64 0,.int .i64 0]:=by have h1:=(Blk.new (w.setCell ⟨bp,4,none⟩ (.string ⟨(ex++[c]).toArray⟩)) 52 #[.int .i64 6,.int .i64 0,.int .i64 0]).alloc (.cells #[.int .u8 c.toNat] 5);rw [yY] at h1;exact h1
  refine yR (aJ rfl _ _ w.heap.size 52 #[.int .i64 6,.int .i64 0,.int .i64 0] (0,0) _ rfl hfin Tryz.underlying52 rfl (by kernel_rfl)) rfl ⟨rfl,?_,?_⟩
  ·exact (((HK0.out.set 4 (.string ⟨(ex++[c]).toArray⟩)).alloc (.cells #[.int .i64 6,.int .i64 0,.int .i64 0] 52)).alloc (.cells #[.int .u8 c.toNat] 5))
  ·exact xC w bp 4 _ _ _
theorem bZ {w w1:World} (bp:Nat) (hb:Below w.heap.size w w1):w.grownBy w1 (some bp):=⟨hb.os,hb.tape,hb.output,hb.size,λk hk _=>hb.block k hk⟩
theorem fT {w w1:World} {bp:Nat} {x:dO} (h:BK w1 bp x) (hlt:bp < w.heap.size) (hg:(w.alloc (.cells #[.int .i64 0,.int .i64 0,.int .i64 0] 52)).grownBy w1 (some bp)):Blk w1 w.heap.size 52 #[.int .i64 0,.int .i64 0,.int .i64 0]/\∀a b c:Value,
  Blk (((w1.setCell ⟨w.heap.size,0,none⟩ a).setCell ⟨w.heap.size,1,none⟩ b).setCell ⟨w.heap.size,2,none⟩ c) w.heap.size 52 #[a,b,c]/\BK (((w1.setCell ⟨w.heap.size,0,none⟩ a).setCell ⟨w.heap.size,1,none⟩ b).setCell ⟨w.heap.size,2,none⟩ c) bp x/\w.grownBy (((w1.setCell ⟨w.heap.size,0,none⟩ a).setCell ⟨w.heap.size,1,none⟩ b).setCell ⟨w.heap.size,2,none⟩ c) (some bp):=by
 have hf:Blk w1 w.heap.size 52 #[.int .i64 0,.int .i64 0,.int .i64 0]:=(Blk.new w 52 #[.int .i64 0,.int .i64 0,.int .i64 0]).grown hg (λe=>by injection e with e;omega);refine ⟨hf,λa b c=>⟨((hf.set 0 a).set 1 b).set 2 c,?_,?_⟩⟩
 ·have hne:bp≠w.heap.size:=by omega
  exact ((h.far (p:=⟨w.heap.size,0,none⟩) hne a).far (p:=⟨w.heap.size,1,none⟩) hne b).far (p:=⟨w.heap.size,2,none⟩) hne c
 ·refine ⟨hg.os,hg.tape,hg.output,?_,λk hk hne=>?_⟩
  ·rw [yY,yY,yY];have:=hg.size;rw [zW] at this;omega
  ·have hne2:k≠w.heap.size:=(by omega);exact (((xV _ _ _ _ hne2).trans (xV _ _ _ _ hne2)).trans (xV _ _ _ _ hne2)).trans ((hg.block k (by rw [zW];omega) hne).trans (z1S _ _ _ hk))
def jY (w:World) (bp:Nat) (x:dO) (o:Opd) (ext:List UInt8) (e:Ending) (w':World):Prop:=e=.returned o.val/\BK w' bp {x with ex:=x.ex++ext}/\w.grownBy w' (some bp)
theorem mD (x:dO):{x with ex:=x.ex++[]}=x:=by cases x;simp
theorem GI {P:Prop} (h:P:=by
  have hlt:bp < w.heap.size:=h.lt;have hA:=h.alloc (.cells #[.int .i64 0,.int .i64 0,.int .i64 0] 52);have hmf:∀(fn:Fn) (first cap:Array Value) (w:World),(Instr.makeFunc fn first cap).run Tryz.prog w=.ok (.func fn first cap) w:=λ_ _ _ _=>rfl;have hKB:=λ(w1:World) (hb:Below (w.alloc (.cells #[.int .i64 0,.int .i64 0,.int .i64 0] 52)).heap.size (w.alloc (.cells #[.int .i64 0,.int .i64 0,.int .i64 0] 52)) w1)=>show BK w1 bp {x with ex:=x.ex++[]} from by rw [mD];exact hA.below hb hA.lt
  first
   | ((have _:=Ma0);(have HM:=aA (oR bp x 114 y o _ hA hx hy ho hyl (hT.below ((zY _ w).alloc (zI _) _)))))
   | ((have _:=Ma1);(have HM:=aA (oR bp x 115 y o _ hA hx hy ho hyl (hT.below ((zY _ w).alloc (zI _) _)))))
   | ((have _:=Ma2);(have HM:=aA (TW bp x 112 y o _ hA hx hy ho hyl (hT.below ((zY _ w).alloc (zI _) _)))))
   | (have HM:=aA (MZ bp x 113 y o _ hA hx hy ho hyl (hT.below ((zY _ w).alloc (zI _) _))))
  clear hT hy ho hyl;obtain ⟨ok,orr,on⟩:=o;clear h hx hA;go_enter Tryz.func249,Tryz.ntmps249;first
   | ((have _:=Mb0);(go_wp2_with (go_at_call 265;refine HM.out.mono ?_;rintro e w1 ⟨rfl,hb⟩;have HK1:=aA (hKB w1 hb);have hg:=bZ bp hb;unfold Opd.val;obtain ⟨hf1,hfin⟩:=fT HK1.out hlt hg;obtain ⟨z0,z1,z2,y0,y1,y2⟩:=hf1.three;have HFIN:=aA hfin;clear hb hg hf1 hfin)))
   | ((have _:=Mb1);(go_wp2_with (go_at_call 266;refine HM.out.mono ?_;rintro e w1 ⟨rfl,hb⟩;have HK1:=aA (hKB w1 hb);have hg:=bZ bp hb;unfold Opd.val;obtain ⟨hf1,hfin⟩:=fT HK1.out hlt hg;obtain ⟨z0,z1,z2,y0,y1,y2⟩:=hf1.three;have HFIN:=aA hfin;clear hb hg hf1 hfin)))
   | (go_wp2_with (go_at_call 267;refine HM.out.mono ?_;rintro e w1 ⟨rfl,hb⟩;have HK1:=aA (hKB w1 hb);have hg:=bZ bp hb;unfold Opd.val;obtain ⟨hf1,hfin⟩:=fT HK1.out hlt hg;obtain ⟨z0,z1,z2,y0,y1,y2⟩:=hf1.three;have HFIN:=aA hfin;clear hb hg hf1 hfin))
  obtain ⟨q1,q2,q3⟩:=HFIN.out (.int .i64 ok) (.int .i64 orr) (.int .i64 on);exact yR (aJ rfl _ _ w.heap.size 52 _ (0,0) _ rfl q1 Tryz.underlying52 rfl (by kernel_rfl)) rfl ⟨rfl,q2,q3⟩):P:=h
theorem ZZ (bp:Nat) (x:dO) (y:List UInt8) (o:Opd) (hy:(Lib.fields pB)[bP 114 x.op 0 0 x.bits.data.toList]?=some y) (ho:eX y=some o) (hyl:y.length<=1000) (w:World) (h:BK w bp x) (hx:x.ok) (hT:Spc w):
  Calls Tryz.prog 249 #[.pointer (some ⟨bp,0,none⟩),.string ⟨#[114]⟩] w (jY w bp x o []):=by
 have Ma0:=trivial;have Mb0:=trivial;exact GI
theorem arg_115 (bp:Nat) (x:dO) (y:List UInt8) (o:Opd) (hy:(Lib.fields pB)[bP 115 x.op 0 0 x.bits.data.toList]?=some y) (ho:eX y=some o) (hyl:y.length<=1000) (w:World) (h:BK w bp x) (hx:x.ok) (hT:Spc w):
  Calls Tryz.prog 249 #[.pointer (some ⟨bp,0,none⟩),.string ⟨#[115]⟩] w (jY w bp x o []):=by
 have Ma1:=trivial;have Mb0:=trivial;exact GI
theorem arg_112 (bp:Nat) (x:dO) (y:List UInt8) (o:Opd) (hy:(Lib.fields uQ)[bP 112 x.op 0 0 x.bits.data.toList]?=some y) (ho:eX y=some o) (hyl:y.length<=1000) (w:World) (h:BK w bp x) (hx:x.ok) (hT:Spc w):
  Calls Tryz.prog 249 #[.pointer (some ⟨bp,0,none⟩),.string ⟨#[112]⟩] w (jY w bp x o []):=by
 have Ma2:=trivial;have Mb1:=trivial;exact GI
theorem YG (bp:Nat) (x:dO) (y:List UInt8) (o:Opd) (hy:(Lib.fields uK)[bP 113 x.op 0 0 x.bits.data.toList]?=some y) (ho:eX y=some o) (hyl:y.length<=1000) (w:World) (h:BK w bp x) (hx:x.ok) (hT:Spc w):
  Calls Tryz.prog 249 #[.pointer (some ⟨bp,0,none⟩),.string ⟨#[113]⟩] w (jY w bp x o []):=GI
theorem JC {P:Prop} (h:P:=by
  have hlt:bp < w.heap.size:=h.lt;have hA:=h.alloc (.cells #[.int .i64 0,.int .i64 0,.int .i64 0] 52);have hmf:∀(fn:Fn) (first cap:Array Value) (w:World),(Instr.makeFunc fn first cap).run Tryz.prog w=.ok (.func fn first cap) w:=λ_ _ _ _=>rfl;have hKB:=λ(w1:World) (hb:Below (w.alloc (.cells #[.int .i64 0,.int .i64 0,.int .i64 0] 52)).heap.size (w.alloc (.cells #[.int .i64 0,.int .i64 0,.int .i64 0] 52)) w1)=>show BK w1 bp {x with ex:=x.ex++[]} from by rw [mD];exact hA.below hb hA.lt
  first
   | ((have _:=Ma0);(have HM:=aA (nC bp x 99 _ hA hx)))
   | ((have _:=Ma1);(have HM:=aA (nC bp x 107 _ hA hx)))
   | ((have _:=Ma2);(have HM:=aA (bit_any bp x 98 _ hA hx)))
   | (have HM:=aA (AA bp x 116 _ hA hx))
  clear h hx hA;go_enter Tryz.func249,Tryz.ntmps249;first
   | ((have _:=Mb0);(go_wp2_with (go_at_call 268;refine HM.out.mono ?_;rintro e w1 ⟨rfl,hb⟩;have HK1:=aA (hKB w1 hb);have hg:=bZ bp hb;unfold Opd.val;obtain ⟨hf1,hfin⟩:=fT HK1.out hlt hg;obtain ⟨z0,z1,z2,y0,y1,y2⟩:=hf1.three;have HFIN:=aA hfin;clear hb hg hf1 hfin));(obtain ⟨q1,q2,q3⟩:=HFIN.out (.int .i64 8) (.int .i64 (bP 99 x.op 0 0 x.bits.data.toList:Nat)) (.int .i64 0)))
   | ((have _:=Mb1);(go_wp2_with (go_at_call 268;refine HM.out.mono ?_;rintro e w1 ⟨rfl,hb⟩;have HK1:=aA (hKB w1 hb);have hg:=bZ bp hb;unfold Opd.val;obtain ⟨hf1,hfin⟩:=fT HK1.out hlt hg;obtain ⟨z0,z1,z2,y0,y1,y2⟩:=hf1.three;have HFIN:=aA hfin;clear hb hg hf1 hfin));(obtain ⟨q1,q2,q3⟩:=HFIN.out (.int .i64 8) (.int .i64 (bP 107 x.op 0 0 x.bits.data.toList:Nat)) (.int .i64 0)))
   | ((have _:=Mb2);(go_wp2_with (go_at_call 269;refine HM.out.mono ?_;rintro e w1 ⟨rfl,hb⟩;have HK1:=aA (hKB w1 hb);have hg:=bZ bp hb;unfold Opd.val;obtain ⟨hf1,hfin⟩:=fT HK1.out hlt hg;obtain ⟨z0,z1,z2,y0,y1,y2⟩:=hf1.three;have HFIN:=aA hfin;clear hb hg hf1 hfin));(obtain ⟨q1,q2,q3⟩:=HFIN.out (.int .i64 6) (.int .i64 0) (.int .i64 (bP 98 x.op 0 0 x.bits.data.toList:Nat))))
   | ((go_wp2_with (go_at_call 270;refine HM.out.mono ?_;rintro e w1 ⟨rfl,hb⟩;have HK1:=aA (hKB w1 hb);have hg:=bZ bp hb;unfold Opd.val;obtain ⟨hf1,hfin⟩:=fT HK1.out hlt hg;obtain ⟨z0,z1,z2,y0,y1,y2⟩:=hf1.three;have HFIN:=aA hfin;clear hb hg hf1 hfin));(obtain ⟨q1,q2,q3⟩:=HFIN.out (.int .i64 6) (.int .i64 0) (.int .i64 (8 * (bP 116 x.op 0 0 x.bits.data.toList:Nat)))))
  exact yR (aJ rfl _ _ w.heap.size 52 _ (0,0) _ rfl q1 Tryz.underlying52 rfl (by kernel_rfl)) rfl ⟨rfl,q2,q3⟩):P:=h
theorem arg_99 (bp:Nat) (x:dO) (w:World) (h:BK w bp x) (hx:x.ok):
  Calls Tryz.prog 249 #[.pointer (some ⟨bp,0,none⟩),.string ⟨#[99]⟩] w (jY w bp x ⟨8,(bP 99 x.op 0 0 x.bits.data.toList:Nat),0⟩ []):=by
 have Ma0:=trivial;have Mb0:=trivial;exact JC
theorem YS (bp:Nat) (x:dO) (w:World) (h:BK w bp x) (hx:x.ok):
  Calls Tryz.prog 249 #[.pointer (some ⟨bp,0,none⟩),.string ⟨#[107]⟩] w (jY w bp x ⟨8,(bP 107 x.op 0 0 x.bits.data.toList:Nat),0⟩ []):=by
 have Ma1:=trivial;have Mb1:=trivial;exact JC
theorem arg_98 (bp:Nat) (x:dO) (w:World) (h:BK w bp x) (hx:x.ok):
  Calls Tryz.prog 249 #[.pointer (some ⟨bp,0,none⟩),.string ⟨#[98]⟩] w (jY w bp x ⟨6,0,(bP 98 x.op 0 0 x.bits.data.toList:Nat)⟩ []):=by
 have Ma2:=trivial;have Mb2:=trivial;exact JC
theorem arg_116 (bp:Nat) (x:dO) (w:World) (h:BK w bp x) (hx:x.ok):
  Calls Tryz.prog 249 #[.pointer (some ⟨bp,0,none⟩),.string ⟨#[116]⟩] w (jY w bp x ⟨6,0,(8 * (bP 116 x.op 0 0 x.bits.data.toList:Nat))⟩ []):=JC
theorem XC {P:Prop} (h:P:=by
  have hlt:bp < w.heap.size:=h.lt;have hA:=h.alloc (.cells #[.int .i64 0,.int .i64 0,.int .i64 0] 52);have hmf:∀(fn:Fn) (first cap:Array Value) (w:World),(Instr.makeFunc fn first cap).run Tryz.prog w=.ok (.func fn first cap) w:=λ_ _ _ _=>rfl;first
   | ((have _:=Ma0);(have HM:=aA (zP bp x 101 _ hA hx)))
   | ((have _:=Ma1);(have HM:=aA (vW bp x 110 _ hA hx)))
   | (have HM:=aA (vW bp x 119 _ hA hx))
  clear h hx hA;go_enter Tryz.func249,Tryz.ntmps249;first
   | ((have _:=Mb0);(go_wp2_with (go_at_call 271;refine HM.out.mono ?_;rintro e w1 ⟨rfl,hk,hg⟩;have HK1:=aA hk;unfold Opd.val;obtain ⟨hf1,hfin⟩:=fT HK1.out hlt hg;obtain ⟨z0,z1,z2,y0,y1,y2⟩:=hf1.three;have HFIN:=aA hfin;clear hk hg hf1 hfin));(obtain ⟨q1,q2,q3⟩:=HFIN.out (.int .i64 10) (.int .i64 0) (.int .i64 0)))
   | ((go_wp2_with (go_at_call 272;refine HM.out.mono ?_;rintro e w1 ⟨rfl,hk,hg⟩;have HK1:=aA hk;unfold Opd.val;obtain ⟨hf1,hfin⟩:=fT HK1.out hlt hg;obtain ⟨z0,z1,z2,y0,y1,y2⟩:=hf1.three;have HFIN:=aA hfin;clear hk hg hf1 hfin));(obtain ⟨q1,q2,q3⟩:=HFIN.out (.int .i64 6) (.int .i64 0) (.int .i64 0)))
  exact yR (aJ rfl _ _ w.heap.size 52 _ (0,0) _ rfl q1 Tryz.underlying52 rfl (by kernel_rfl)) rfl ⟨rfl,q2,q3⟩):P:=h
theorem ZG (bp:Nat) (x:dO) (w:World) (h:BK w bp x) (hx:x.ok):
  Calls Tryz.prog 249 #[.pointer (some ⟨bp,0,none⟩),.string ⟨#[101]⟩] w (jY w bp x ⟨10,0,0⟩ [101]):=by
 have Ma0:=trivial;have Mb0:=trivial;exact XC
theorem arg_110 (bp:Nat) (x:dO) (w:World) (h:BK w bp x) (hx:x.ok):
  Calls Tryz.prog 249 #[.pointer (some ⟨bp,0,none⟩),.string ⟨#[110]⟩] w (jY w bp x ⟨6,0,0⟩ [110]):=by
 have Ma1:=trivial;exact XC
theorem XZ (bp:Nat) (x:dO) (w:World) (h:BK w bp x) (hx:x.ok):
  Calls Tryz.prog 249 #[.pointer (some ⟨bp,0,none⟩),.string ⟨#[119]⟩] w (jY w bp x ⟨6,0,0⟩ [119]):=XC
theorem XE {P:Prop} (h:P:=by
  have hlt:bp < w.heap.size:=h.lt;have hA:=h.alloc (.cells #[.int .i64 0,.int .i64 0,.int .i64 0] 52);have hmf:∀(fn:Fn) (first cap:Array Value) (w:World),(Instr.makeFunc fn first cap).run Tryz.prog w=.ok (.func fn first cap) w:=λ_ _ _ _=>rfl;have hKB:=λ(w1:World) (hb:Below (w.alloc (.cells #[.int .i64 0,.int .i64 0,.int .i64 0] 52)).heap.size (w.alloc (.cells #[.int .i64 0,.int .i64 0,.int .i64 0] 52)) w1)=>show BK w1 bp {x with ex:=x.ex++[]} from by rw [mD];exact hA.below hb hA.lt
  first
   | ((have _:=Ma0);(have HM:Hid (Calls Tryz.prog 273 #[.pointer (some ⟨bp,0,none⟩),.int .u8 48] (w.alloc (.cells #[.int .i64 0,.int .i64 0,.int .i64 0] 52)) λe w'=>e=.returned (Opd.val ⟨6,0,0⟩)/\Below (w.alloc (.cells #[.int .i64 0,.int .i64 0,.int .i64 0] 52)).heap.size (w.alloc (.cells #[.int .i64 0,.int .i64 0,.int .i64 0] 52)) w'):=uZ bp 48 _ (by decide)))
   | ((have _:=Ma1);(have HM:Hid (Calls Tryz.prog 273 #[.pointer (some ⟨bp,0,none⟩),.int .u8 49] (w.alloc (.cells #[.int .i64 0,.int .i64 0,.int .i64 0] 52)) λe w'=>e=.returned (Opd.val ⟨6,0,1⟩)/\Below (w.alloc (.cells #[.int .i64 0,.int .i64 0,.int .i64 0] 52)).heap.size (w.alloc (.cells #[.int .i64 0,.int .i64 0,.int .i64 0] 52)) w'):=uZ bp 49 _ (by decide)))
   | (have HM:Hid (Calls Tryz.prog 273 #[.pointer (some ⟨bp,0,none⟩),.int .u8 50] (w.alloc (.cells #[.int .i64 0,.int .i64 0,.int .i64 0] 52)) λe w'=>e=.returned (Opd.val ⟨6,0,2⟩)/\Below (w.alloc (.cells #[.int .i64 0,.int .i64 0,.int .i64 0] 52)).heap.size (w.alloc (.cells #[.int .i64 0,.int .i64 0,.int .i64 0] 52)) w'):=uZ bp 50 _ (by decide))
  clear h hA;go_enter Tryz.func249,Tryz.ntmps249;go_wp2_with (go_at_call 273;refine HM.out.mono ?_;rintro e w1 ⟨rfl,hb⟩;have HK1:=aA (hKB w1 hb);have hg:=bZ bp hb;unfold Opd.val;obtain ⟨hf1,hfin⟩:=fT HK1.out hlt hg;obtain ⟨z0,z1,z2,y0,y1,y2⟩:=hf1.three;have HFIN:=aA hfin;clear hb hg hf1 hfin);first
   | ((have _:=Mb0);(obtain ⟨q1,q2,q3⟩:=HFIN.out (.int .i64 6) (.int .i64 0) (.int .i64 0)))
   | ((have _:=Mb1);(obtain ⟨q1,q2,q3⟩:=HFIN.out (.int .i64 6) (.int .i64 0) (.int .i64 1)))
   | (obtain ⟨q1,q2,q3⟩:=HFIN.out (.int .i64 6) (.int .i64 0) (.int .i64 2))
  exact yR (aJ rfl _ _ w.heap.size 52 _ (0,0) _ rfl q1 Tryz.underlying52 rfl (by kernel_rfl)) rfl ⟨rfl,q2,q3⟩):P:=h
theorem arg_48 (bp:Nat) (x:dO) (w:World) (h:BK w bp x):
  Calls Tryz.prog 249 #[.pointer (some ⟨bp,0,none⟩),.string ⟨#[48]⟩] w (jY w bp x ⟨6,0,0⟩ []):=by
 have Ma0:=trivial;have Mb0:=trivial;exact XE
theorem arg_49 (bp:Nat) (x:dO) (w:World) (h:BK w bp x):
  Calls Tryz.prog 249 #[.pointer (some ⟨bp,0,none⟩),.string ⟨#[49]⟩] w (jY w bp x ⟨6,0,1⟩ []):=by
 have Ma1:=trivial;have Mb1:=trivial;exact XE
theorem arg_50 (bp:Nat) (x:dO) (w:World) (h:BK w bp x):
  Calls Tryz.prog 249 #[.pointer (some ⟨bp,0,none⟩),.string ⟨#[50]⟩] w (jY w bp x ⟨6,0,2⟩ []):=XE
end Go.Proofs.YtpigbggoiipmhaaGreatDoor
