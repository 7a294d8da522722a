/-
  Functions of the program and of the reference, walked; plain facts on what they compute. Conditions: sizes.
-/
import Derived.Test.YtpigbggoiipmhaaGreatDoorBF2
import Derived.Test.YtpigbggoiipmhaaGreatDoorFA
import Derived.Maps.OwnSet
import Derived.Lib.SlKeysI
import Derived.Maps.RangeWalk
import Derived.StillTailTactics
import Derived.Test.YtpigbggoiipmhaaGreatDoorIter
namespace Go.Proofs.YtpigbggoiipmhaaGreatDoor
open Go.RowKit
def gB (d:Nat->Bool) (v:Nat->UInt8) (a:Int):Option UInt8:=if 0<=a/\a<65536/\d a.toNat=true then some (v a.toNat) else none
def bys (d:Nat->Bool) (v:Nat->UInt8):Int->Nat->List UInt8
  | _,0=>[]
  | a,n+1=>match gB d v a with
    | some b=>b::bys d v (a+1) n
    | none=>[]
theorem oLl {d:Nat->Bool} {v:Nat->UInt8} {a:Int} {n:Nat} {b:UInt8} (h:gB d v a=some b):bys d v a (n+1)=b::bys d v (a+1) n:=by rw [bys,h]
theorem oKo {d:Nat->Bool} {v:Nat->UInt8} {a:Int} {n:Nat} (h:gB d v a=none):bys d v a n=[]:=by
  cases n with
  | zero=>rfl
  | succ n=>rw [bys,h]
theorem oJz (d:Nat->Bool) (v:Nat->UInt8):∀(n:Nat) (a:Int),(bys d v a n).length<=n
  | 0,_=>zI _
  | n+1,a=>by
    rw [bys];split
    · have:=oJz d v n (a+1);simp;omega
    · simp
theorem oPj {d:Nat->Bool} {v:Nat->UInt8} {a:Nat} (h:a<65536):gB d v (a:Int)=if d a=true then some (v a) else none:=by
  unfold gB;rw [z0X];by_cases hd:d a=true
  · rw [if_pos ⟨by omega,by omega,hd⟩,if_pos hd]
  · rw [if_neg (λh=>hd h.2.2),if_neg hd]
theorem oNs {d:Nat->Bool} {v:Nat->UInt8} {a:Int} (h:a<0\/65535<a):gB d v a=none:=if_neg (by omega)
theorem oLv (d:Nat->Bool) (v:Nat->UInt8) (n a:Nat) (c:cJ) (h:(gH d v a (n+1))[0]?=some c):(d a=true->c=⟨a,v a⟩)/\(d a=false->a<c.addr):=by
  rw [gH] at h;constructor
  · intro hd;rw [if_pos hd] at h;simp at h;exact h.symm
  · intro hd;rw [hd,if_neg (by decide),z0T] at h;have:=(uT _ _ (VM h)).1;omega
theorem oNe {d:Nat->Bool} {v:Nat->UInt8} {n a:Nat} (hd:d a=true):(gH d v a (n+1))[0]?=some ⟨a,v a⟩:=by rw [gH,if_pos hd];rfl
theorem oLw {d:Nat->Bool} {v:Nat->UInt8} {a:Nat} (ha:a<65536):(eU d v)[aT (a:Int) (eU d v)]?=(gH d v a (65536-a))[0]?:=by
  have hsp:eU d v=gH d v 0 a++gH d v a (65536-a):=by unfold eU;rw [show 65536=a+(65536-a) by omega,iB,z2H,show a+(65536-a)-a=65536-a by omega]
  have hf:aT (a:Int) (eU d v)=(gH d v 0 a).length:=by rw [hsp];exact sZ (λc hc=>by have:=(uT _ _ hc).1;omega) _ (λc hc=>by have:=(uT _ _ hc).2.1;omega)
  rw [hf,hsp,z0G (zI _),z2I]
theorem oNj {d:Nat->Bool} {v:Nat->UInt8} {a:Int}:(∀b,gB d v a=some b->∃c,(eU d v)[aT a (eU d v)]?=some c/\(c.addr:Int)=a/\c.byte=b)/\(gB d v a=none->∀c,(eU d v)[aT a (eU d v)]?=some c->¬(c.addr:Int)=a):=by
  by_cases hr:0<=a/\a<65536
  · obtain ⟨n,rfl⟩:=z1N hr.1;have hn:n<65536:=(by omega);rw [oPj hn,oLw hn,show 65536-n=(65535-n)+1 by omega];cases hd:d n
    · refine ⟨λb h=>(by cases h),λ_ c hc=>?_⟩;have:=(oLv d v _ n c hc).2 hd;omega
    · rw [if_pos rfl];refine ⟨λb h=>?_,λh=>(by cases h)⟩;injection h with h;exact ⟨_,oNe hd,rfl,h⟩
  · rw [oNs (by omega)];refine ⟨λb h=>(by cases h),λ_ c hc e=>?_⟩;have:=(uT _ _ (VM hc)).2.1;omega
end Go.Proofs.YtpigbggoiipmhaaGreatDoor
namespace Go.Proofs.YtpigbggoiipmhaaGreatDoor
set_option maxHeartbeats 4000000
open Go.RowKit Go.Shelf Go.Sort
def oLb (o:Option UInt8):Int:=match o with
  | some b=>(b.toNat:Int)
  | none=>0
set_option maxRecDepth 1000000 in
theorem oLt (b:Nat) (a:Int) (w:World) (h:a<0\/65535<a):
    Calls Tryz.prog 49 #[.pointer (some ⟨b,0,none⟩),.int .i64 a] w λe w'=>e=.returned (.tuple #[.int .u8 0,.bool false])/\w'=w:=by
  by_cases h1:a<0
  · clear h;go_enter Tryz.func49,Tryz.ntmps49;go_wp2;exact yR (v:=.tuple #[.int .u8 0,.bool false]) (by simp [results,Tryz.results49,go_sem]) rfl ⟨rfl,rfl⟩
  · have h2:(65536:Int)<=a:=(by omega);have h3:decide (a<0)=false:=z0A h1;have h4:decide ((65536:Int)<=a)=true:=z0P h2;clear h;go_enter Tryz.func49,Tryz.ntmps49;go_wp2;exact yR (v:=.tuple #[.int .u8 0,.bool false]) (by simp [results,Tryz.results49,go_sem]) rfl ⟨rfl,rfl⟩
theorem oMo (b n:Nat) (a:Int) (d:Nat->Bool) (v:Nat->UInt8) (w:World) (h:eO w b d v n):
    Calls Tryz.prog 49 #[.pointer (some ⟨b,0,none⟩),.int .i64 a] w λe w'=>e=.returned (.tuple #[.int .u8 (oLb (gB d v a)),.bool (gB d v a).isSome])/\w'=w:=by
  by_cases hr:a<0\/65535<a
  · rw [oNs hr];exact oLt b a w hr
  · obtain ⟨m,rfl⟩:=z1N (show 0<=a by omega);have hm:m<65536:=(by omega);rw [oPj hm];have:=imgGet_any b n m d v w h hm;cases hd:d m
    · rw [hd] at this;exact this
    · rw [hd] at this;exact this
set_option maxRecDepth 1000000 in
theorem oMg (p:aB) (cv:Value) (d:Nat->Bool) (v:Nat->UInt8) (a:Int) (w:World) (h:SlR cH w p cv (eU d v)):
    Calls Tryz.prog 52 #[cv,.int .i64 a] w λe w'=>e=.returned (.tuple #[.int .u8 (oLb (gB d v a)),.bool (gB d v a).isSome])/\w=w':=by
  have HF:=aA (qQ p cv (eU d v) a w h);have hg:=@oNj d v a;obtain ⟨ca,cc,rfl,hc1,hc2,g⟩:=h.cel;generalize eU d v=m at *;have hle:=eL a m;generalize aT a m=f at *;have hml:(m.length:Int)<=9223372036854775807:=by omega
  have hfi:(f:Int)<=9223372036854775807:=by omega
  have hf0:(0:Int)<=(f:Int):=by omega
  clear h;by_cases hf:f<m.length
  · have hf2:(f:Int)<(m.length:Int):=(by omega);have hf3:decide ((f:Int)<(m.length:Int))=true:=z0P hf2;obtain ⟨b,o,rfl,_,d0,d1⟩:=g f m[f] (zL hf);rw [zL hf] at hg;generalize m[f]=c at *;cases hG:gB d v a with
    | none=>have hne:=hg.2 hG c rfl;have hne2:((c.addr:Int)==a)=false:=(by rw [yW];exact hne);generalize c.addr=y at *;generalize c.byte=z at *;clear hg hG g hle hc1 hc2 hne;go_enter Tryz.func52,Tryz.ntmps52;go_wp2_with (go_at_call 86;refine HF.out.mono ?_;rintro e w1 ⟨rfl,rfl⟩);exact yR (v:=.tuple #[.int .u8 0,.bool false]) (by simp [results,Tryz.results52,go_sem]) rfl ⟨rfl,rfl⟩
    | some x=>obtain ⟨c',hc',e1,e2⟩:=hg.1 x hG;injection hc' with hc';subst hc';have HB:Hid (oLb (some x)=(c.byte.toNat:Int)):=aA (by rw [e2];rfl);have hbt:=c.byte.toNat_lt;have hse:((c.addr:Int)==a)=true:=(by rw [z2E];exact e1);generalize c.byte.toNat=z at *;generalize c.addr=y at *;clear hg hG g hle hc1 hc2 e1 e2;go_enter Tryz.func52,Tryz.ntmps52;go_wp2_with (go_at_call 86;refine HF.out.mono ?_;rintro e w1 ⟨rfl,rfl⟩);exact yR (v:=.tuple #[.int .u8 z,.bool true]) (by simp [results,Tryz.results52,go_sem]) rfl ⟨by rw [HB.out];rfl,rfl⟩
  · have hG:gB d v a=none:=by
      cases hG:gB d v a with
      | none=>rfl
      | some x=>obtain ⟨c,hc,_⟩:=hg.1 x hG;rw [z0W (by omega)] at hc;cases hc
    rw [hG];have hf2:¬(f:Int)<(m.length:Int):=(by omega);have hf3:decide ((f:Int)<(m.length:Int))=false:=z0A hf2;clear hg hG g hle hc1 hc2 hf;go_enter Tryz.func52,Tryz.ntmps52;go_wp2_with (go_at_call 86;refine HF.out.mono ?_;rintro e w1 ⟨rfl,rfl⟩);exact yR (v:=.tuple #[.int .u8 0,.bool false]) (by simp [results,Tryz.results52,go_sem]) rfl ⟨rfl,rfl⟩
theorem oLh {d:Nat->Bool} {v:Nat->UInt8}:∀{n k:Nat} {a:Int},k<n->k<=(bys d v a n).length->
    (gB d v (a+k)=none->(bys d v a n).length=k)/\(∀b,gB d v (a+k)=some b->k<(bys d v a n).length/\(bys d v a n).take (k+1)=(bys d v a n).take k++[b])
  | 0,_,_,h,_=>by omega
  | n+1,0,a,_,_=>by
    rw [show a+((0:Nat):Int)=a by omega];constructor
    · intro h;rw [oKo h];rfl
    · intro b h;rw [oLl h];exact ⟨by simp,by simp⟩
  | n+1,k+1,a,h,hk=>by
    cases hG:gB d v a with
    | none=>rw [oKo hG] at hk;simp at hk
    | some b0=>
      rw [oLl hG] at hk ⊢;rw [VH] at hk ⊢;have ih:=@oLh d v n k (a+1) (by omega) (by omega);rw [show a+1+(k:Int)=a+((k+1:Nat):Int) by omega] at ih;constructor
      · intro h;rw [ih.1 h]
      · intro b h;obtain ⟨h1,h2⟩:=ih.2 b h;exact ⟨by omega,by rw [List.take_succ_cons,List.take_succ_cons,h2];rfl⟩
theorem oLf {d:Nat->Bool} {v:Nat->UInt8} {n:Nat} {a:Int} (h:0<(bys d v a n).length):0<=a/\a<=65535:=by
  cases hG:gB d v a with
  | none=>rw [oKo hG] at h;simp at h
  | some b=>
    unfold gB at hG;split at hG
    · omega
    · cases hG
set_option maxRecDepth 100000
theorem UG (a:Option Addr) (c:Nat) (w:World):
    Calls Tryz.prog 67 #[.slice a 0 c] w λe w'=>(∃g,e=.returned (.tuple #[.agg cD,.pointer (some ⟨g,0,none⟩)]))/\RowKit.Below w.heap.size w w':=by
  have hmf:∀(fn:Fn) (first cap:Array Value) (w:World),(Instr.makeFunc fn first cap).run Tryz.prog w=.ok (.func fn first cap) w:=λ_ _ _ _=>rfl;go_enter_defers Tryz.func67,Tryz.ntmps67;go_upto_region 3 with fail;have HF:=aA (((((Fr.start w).new' 22 #[.slice a 0 c] (b:=w.heap.size) rfl).new' 32 cD (b:=w.heap.size+1) (zW _ _)).new' 110 #[.pointer (some ⟨w.heap.size+1+1+1,0,none⟩)] (b:=w.heap.size+1+1) (by rw [zW,zW])).alloc (.cells #[.slice a 0 c,.int .i64 0,.slice none 0 0,.int .i64 0,.int .u8 0,.string ⟨#[]⟩,.slice none 0 0,.string ⟨#[]⟩,.bool false,.int .i64 0,.int .i64 0] dC));generalize (((w.alloc (.cells #[.slice a 0 c] 22)).alloc (.cells cD 32)).alloc (.cells #[.pointer (some ⟨w.heap.size+1+1+1,0,none⟩)] 110)).alloc (.cells #[.slice a 0 c,.int .i64 0,.slice none 0 0,.int .i64 0,.int .u8 0,.string ⟨#[]⟩,.slice none 0 0,.string ⟨#[]⟩,.bool false,.int .i64 0,.int .i64 0] dC)=W1 at *;obtain ⟨⟨c0,c1,c2,c3,c4⟩,f0,f1,f2,f3,f4⟩:=(HF.out.blk 1 rfl).five;have x0:=(HF.out.blk 0 rfl).one;obtain ⟨x0,z0⟩:=x0;go_region;all_goals go_wp2
  all_goals have FA:=(((HF.out.swap.set5 (by omega) (λx hx=>by rcases ZR.1 hx with e|hx;rw [e];show w.heap.size+1+1≠w.heap.size+1;omega;rw [XJ.1 hx];show w.heap.size≠w.heap.size+1;omega) (.int .i64 0) (.slice none 0 0) (.string ⟨#[]⟩) (.slice none 0 0) (.bool false)).swap).set (by omega) (λx hx=>by rcases ZR.1 hx with e|hx;rw [e];show w.heap.size+1≠w.heap.size+1+1;omega;rw [XJ.1 hx];show w.heap.size≠w.heap.size+1+1;omega) 0 (.pointer (some ⟨w.heap.size+1+1+1,0,none⟩))).drew
  all_goals have FB:=((HF.out.set (by omega) (λx hx=>by rcases ZR.1 hx with e|hx;rw [e];show w.heap.size+1≠w.heap.size+1+1;omega;rw [XJ.1 hx];show w.heap.size≠w.heap.size+1+1;omega) 0 (.pointer (some ⟨w.heap.size+1+1+1,0,none⟩))).swap.set5 (by omega) (λx hx=>by rcases ZR.1 hx with e|hx;rw [e];show w.heap.size+1+1≠w.heap.size+1;omega;rw [XJ.1 hx];show w.heap.size≠w.heap.size+1;omega) (.int .i64 0) (.slice none 0 0) (.string ⟨#[]⟩) (.slice none 0 0) (.bool false)).drew
  all_goals first
    | exact ⟨_,oP rfl rfl (FA.blk 1 rfl) ((FA.blk 0 rfl).cell 0),⟨_,rfl⟩,FA.below⟩
    | exact ⟨_,oP rfl rfl (FB.blk 0 rfl) ((FB.blk 1 rfl).cell 0),⟨_,rfl⟩,FB.below⟩
theorem MO (a:Option Addr) (c:Nat) (w:World):
    Calls Tryz.prog 25 #[.slice a 0 c] w λe w'=>e=.returned (.agg cD)/\RowKit.Below w.heap.size w w':=by
  have HRD:=aA (λW=>UG a c W);have HF0:=aA ((Fr.start w).new 32 cD);obtain ⟨W0,hW0⟩:∃W:World,W=w.alloc (.cells cD 32):=⟨_,rfl⟩;rw [<-hW0] at HF0;go_enter Tryz.func25,Tryz.ntmps25;go_upto_region 1 with fail;rw [<-hW0];clear hW0;go_upto_region 2 with (go_at_call 67;refine (HRD.out _).mono ?_;rintro e w1 ⟨⟨g,rfl⟩,hb⟩;have HF1:=aA (HF0.out.next hb);clear hb);have HF2:=aA ((HF1.out.new' 32 cD (b:=w1.heap.size) rfl));have HZ:Hid (w.heap.size<w1.heap.size):=aA ((HF1.out.blk 0 rfl).lt);generalize w1.alloc (.cells cD 32)=W2 at *;generalize w1.heap.size=tb at *;obtain ⟨⟨c0,c1,c2,c3,c4⟩,_⟩:=(HF2.out.blk 0 rfl).five;obtain ⟨⟨m0,m1,m2,m3,m4⟩,g0,g1,g2,g3,g4⟩:=(HF2.out.blk 1 rfl).five;go_wp2;have F5:=aA (HF2.out.swap.set5 (zI _) (λx hx=>by rw [XJ.1 hx];have:=HZ.out;show tb≠w.heap.size;omega) (.int .i64 0) (.slice none 0 0) (.string ⟨#[]⟩) (.slice none 0 0) (.bool false));exact yR (eG rfl rfl (F5.out.blk 0 rfl) rfl) rfl ⟨rfl,F5.out.below⟩
set_option maxHeartbeats 2000000
def itZ:Itm:=⟨0,0,[],[],false⟩
def itQ (L:List UInt8):Itm:=if L=[] then itZ else itF L
def oNc (v:Value):Nat:=match v with
  | .slice _ n _=>n
  | _=>0
theorem itmZ (w:World) (B:Nat):dW w B itZ [] (.agg cD):=⟨none,0,none,0,rfl,SlR.nil _ _ _,SlR.nil _ _ _⟩
def FItP (w:World) (L:List UInt8) (e:Ending) (w':World):Prop:=(∃x,e=.returned (.tuple #[x,.bool (decide (0<L.length))])/\dW w' w.heap.size (itQ L) L x)/\RowKit.Below w.heap.size w w'
theorem oJq {fn:Func} {p u:Tmp} (h:fn.results=#[.cell p 32,.tmp u]) {tmps:Array Value} {w':World} {cs:Array Value} {g:Nat} (hp:tmps.getD p undef=.pointer (some ⟨g,0,none⟩))
    (hg:Blk w' g 32 cs) (hs:cs.size=5):(results fn tmps).run Tryz.prog w'=.ok (.tuple #[.agg cs,tmps.getD u undef]) w':=
  aH h tmps w' g 32 _ (0,0) _ hp hg Tryz.underlying32 rfl (by rw [hs];kernel_rfl)
theorem oLr (p:aB) (a:Option Addr) (c:Nat) (l:List UInt8) (w:World) (hT:Spc w) (hs:SlR aI w p (.slice a l.length c) l) (hl:l.length<=1000000):
    Calls Tryz.prog 25 #[.slice a l.length c] w (WJ w (itQ l) l):=by
  cases l with
  | nil=>refine (MO a c w).mono ?_;rintro e w' ⟨rfl,hb⟩;exact ⟨⟨_,rfl,itmZ _ _⟩,hb⟩
  | cons x l=>exact kE p a c (x::l) w hT hs (by simp) hl
theorem oMi (b n:Nat) (d:Nat->Bool) (v:Nat->UInt8) (addr:Int) (ha:cN addr) (w:World) (hT:Spc w) (h:eO w b d v n):
    Calls Tryz.prog 92 #[.pointer (some ⟨b,0,none⟩),.int .i64 addr] w (FItP w (bys d v addr 4)):=by
  have HI:=aA (λW (hb:RowKit.Below w.heap.size w W) (a:Int)=>oMo b n a d v W (h.below hb h.lt));have HL4:=aA (oJz d v 4 addr);have HGT:=aA (λk (hk:k<4) hl=>@oLh d v 4 k addr hk hl);have HPS:=aA (λhp=>@oLf d v 4 addr hp);obtain ⟨L,hL⟩:∃L,L=bys d v addr 4:=⟨_,rfl⟩;rw [<-hL] at HL4 HGT HPS ⊢;clear hL;have HA:=aA ha;have HFB:=aA (λa c W (hb:RowKit.Below w.heap.size w W) (hs:SlR aI W (λ_=>True) (.slice a L.length c) L)=>oLr _ a c L W (hT.below hb) hs (by have:=HL4.out;omega));have HF0:=aA ((Fr.start w).new 32 cD);obtain ⟨W0,hW0⟩:∃W:World,W=w.alloc (.cells cD 32):=⟨_,rfl⟩;rw [<-hW0] at HF0;have HZ0:Hid (w.heap.size<W0.heap.size):=aA ((HF0.out.blk 0 rfl).lt);unfold FItP;clear h hT ha;go_enter Tryz.func92,Tryz.ntmps92;go_upto_region 1 with fail;rw [<-hW0];clear hW0;go_wp2;go_loopw [6,7,8] (λx _ _ wr=>∃k:Nat,k<=L.length/\k<=4/\Own aI wr W0.heap.size 5 NoB x (L.take k)/\RowKit.Below W0.heap.size W0 wr) (λx _ _ _=>4-oNc x);case atStart=>exact ⟨0,YD _,by omega,Own.nil _ _ _ _ _,zY _ _⟩
  case round=>
    obtain ⟨k,hk,hk4,ho,hb⟩:=hrel;have HB:=aA hb;have hxl:(L.take k).length=k:=(by rw [JX];omega);generalize hx:L.take k=xs at *;subst hxl;have HX:=aA hx;have HO:=aA ho;obtain ⟨oa,oc,rfl⟩:=ho.form;have HBW:=aA (HF0.out.next hb).below;have HFR:=aA (HF0.out.next hb);have HSL:=aA (ho.slR (q:=λ_=>True) (λ_ h=>h.elim) (λ_ _=>trivial));have hend:xs.length=L.length->xs=L:=λe=>(by rw [<-hx,e,z0L]);have HEN:=aA hend;have HGK:=aA (λh4=>HGT.out xs.length h4 hk);have hw9:IntKind.i64.wrap (addr+(xs.length:Int))=addr+(xs.length:Int):=by
      have h1:=HA.out.1;have h2:=HA.out.2;rw [IntKind.wrap_i64];by_cases h0:0<L.length
      · have:=HPS.out h0;omega
      · omega
    have HIG:=aA (HI.out _ HBW.out (addr+(xs.length:Int)));clear hend hb ho hx;by_cases h4:xs.length<4
    · have h4i:(xs.length:Int)<4:=(by omega);cases hG:gB d v (addr+(xs.length:Int)) with
      | none=>
        rw [hG,show oLb none=0 from rfl,show (none:Option UInt8).isSome=false from rfl] at HIG;have he:=HEN.out ((HGK.out h4).1 hG).symm;subst he;clear hG hk hk4 h4
        go_wp2_with (first
          | (go_at_call 49;(with_reducible refine HIG.out.mono ?_);rintro e w1 ⟨rfl,rfl⟩)
          | (go_at_call 25;refine (HFB.out _ _ _ HBW.out HSL.out).mono ?_;rintro e w2 ⟨⟨x,rfl,hi⟩,hb⟩;have hm:=hi;obtain ⟨ra,rc,va,vc,hv,_,_⟩:=hi;unfold qU at hv;rw [JX] at hv;subst hv;have HM:=aA hm;clear hm;have HF1:=aA (HFR.out.next hb);obtain ⟨⟨c0,c1,c2,c3,c4⟩,y0,y1,y2,y3,y4⟩:=(HF1.out.blk 0 rfl).five;clear hb))
        have F5:=aA (HF1.out.set5 (zI _) (λx hx=>by cases hx) (.int .i64 (itQ xs).k) (.slice ra (min (itQ xs).n xs.length) rc) (.string ⟨(itQ xs).op.toArray⟩) (.slice va (itQ xs).args.length vc) (.bool (itQ xs).al));exact yR (oJq rfl rfl (F5.out.blk 0 rfl) rfl) rfl ⟨⟨_,rfl,(HM.out.off5 (vB HZ0.out HB.out.size) _ _ _ _ _).base (z0I (vB HZ0.out HB.out.size))⟩,F5.out.below⟩
      | some b0=>
        rw [hG,show oLb (some b0)=(b0.toNat:Int) from rfl,show (some b0).isSome=true from rfl] at HIG;obtain ⟨hlt,hx2⟩:=(HGK.out h4).2 b0 hG;rw [HX.out] at hx2;have HX2:=aA hx2;have HC1:Hid ((xs.length+1)*1<=140737488355328):=aA (by omega);have HC2:Hid (xs.length+1<=9223372036854775807):=aA (by omega);clear hG hk hx2
        go_wp2_with (first
          | (go_at_call 49;(with_reducible refine HIG.out.mono ?_);rintro e w1 ⟨rfl,rfl⟩)
          | (at_builtin;refine cK rfl (.tmp 23) (.tmp 25) 22 rfl W0.heap.size 5 1 mH _ xs b0 _ rfl rfl HO.out rfl HC1.out HC2.out HB.out.size ?_;intro a' c' w' hp;have HP:=aA hp;clear hp))
        go_roundw;case rel=>exact ⟨xs.length+1,by omega,by omega,by rw [HX2.out];exact HP.out.1,HB.out.grown HP.out.2 HB.out.size (λj hj=>(HO.out.lt j hj).1)⟩
        case measure=>simp [oNc];omega
    · have he:=HEN.out (by have:=HL4.out;omega);have h4i:¬(xs.length:Int)<4:=(by omega);subst he;clear hk hk4 h4;go_wp2_with (go_at_call 25;refine (HFB.out _ _ _ HBW.out HSL.out).mono ?_;rintro e w2 ⟨⟨x,rfl,hi⟩,hb⟩;have hm:=hi;obtain ⟨ra,rc,va,vc,hv,_,_⟩:=hi;unfold qU at hv;rw [JX] at hv;subst hv;have HM:=aA hm;clear hm;have HF1:=aA (HFR.out.next hb);obtain ⟨⟨c0,c1,c2,c3,c4⟩,y0,y1,y2,y3,y4⟩:=(HF1.out.blk 0 rfl).five;clear hb);have F5:=aA (HF1.out.set5 (zI _) (λx hx=>by cases hx) (.int .i64 (itQ xs).k) (.slice ra (min (itQ xs).n xs.length) rc) (.string ⟨(itQ xs).op.toArray⟩) (.slice va (itQ xs).args.length vc) (.bool (itQ xs).al));exact yR (oJq rfl rfl (F5.out.blk 0 rfl) rfl) rfl ⟨⟨_,rfl,(HM.out.off5 (vB HZ0.out HB.out.size) _ _ _ _ _).base (z0I (vB HZ0.out HB.out.size))⟩,F5.out.below⟩
theorem oKr (p:aB) (a:Option Addr) (c:Nat) (l:List UInt8) (w:World) (hs:SlR aI w p (.slice a l.length c) l) (h0:0<l.length) (hl:l.length<=1000000):
    Calls Tryz.prog 29 #[.slice a l.length c] w (WJ w (itQ l) l):=by
  rw [show itQ l=itF l from if_neg (λe=>by rw [e] at h0;exact absurd h0 (by decide))];exact BU p a c l w hs h0 hl
theorem oLy (p:aB) (cv:Value) (d:Nat->Bool) (v:Nat->UInt8) (addr:Int) (ha:cN addr) (w:World) (h:SlR cH w p cv (eU d v)):
    Calls Tryz.prog 44 #[cv,.int .i64 addr] w (FItP w (bys d v addr 4)):=by
  have HI:=aA (λW (hb:RowKit.Below w.heap.size w W) (a:Int)=>oMg p cv d v a W (h.below hb));have HL4:=aA (oJz d v 4 addr);have HGT:=aA (λk (hk:k<4) hl=>@oLh d v 4 k addr hk hl);have HPS:=aA (λhp=>@oLf d v 4 addr hp);obtain ⟨L,hL⟩:∃L,L=bys d v addr 4:=⟨_,rfl⟩;rw [<-hL] at HL4 HGT HPS ⊢;clear hL;have HA:=aA ha;have HFB:=aA (λa c W (hb:RowKit.Below w.heap.size w W) (hs:SlR aI W (λ_=>True) (.slice a L.length c) L) (h0:0<L.length)=>oKr _ a c L W hs h0 (by have:=HL4.out;omega));have HF0:=aA ((Fr.start w).new 32 cD);obtain ⟨W0,hW0⟩:∃W:World,W=w.alloc (.cells cD 32):=⟨_,rfl⟩;rw [<-hW0] at HF0;have HZ0:Hid (w.heap.size<W0.heap.size):=aA ((HF0.out.blk 0 rfl).lt);unfold FItP;clear h ha;go_enter Tryz.func44,Tryz.ntmps44;go_upto_region 1 with fail;rw [<-hW0];clear hW0;go_wp2;go_loopw [6,7,8,9] (λx i _ _ wr=>∃k:Nat,k<=L.length/\k<=4/\i=.int .i64 k/\Own aI wr W0.heap.size 5 NoB x (L.take k)/\RowKit.Below W0.heap.size W0 wr) (λx _ _ _ _=>4-oNc x);case atStart=>exact ⟨0,YD _,by omega,rfl,Own.nil _ _ _ _ _,zY _ _⟩
  case round=>
    obtain ⟨k,hk,hk4,rfl,ho,hb⟩:=hrel;have HB:=aA hb;have hxl:(L.take k).length=k:=(by rw [JX];omega);generalize hx:L.take k=xs at *;subst hxl;have HX:=aA hx;have HO:=aA ho;obtain ⟨oa,oc,rfl⟩:=ho.form;have HBW:=aA (HF0.out.next hb).below;have HFR:=aA (HF0.out.next hb);have HSL:=aA (ho.slR (q:=λ_=>True) (λ_ h=>h.elim) (λ_ _=>trivial));have hend:xs.length=L.length->xs=L:=λe=>(by rw [<-hx,e,z0L]);have HEN:=aA hend;have HGK:=aA (λh4=>HGT.out xs.length h4 hk);have hw9:IntKind.i64.wrap (addr+(xs.length:Int))=addr+(xs.length:Int):=by
      have h1:=HA.out.1;have h2:=HA.out.2;rw [IntKind.wrap_i64];by_cases h0:0<L.length
      · have:=HPS.out h0;omega
      · omega
    have HIG:=aA (HI.out _ HBW.out (addr+(xs.length:Int)));clear hend hb ho hx;by_cases h4:xs.length<4
    · have h4i:(xs.length:Int)<4:=(by omega);cases hG:gB d v (addr+(xs.length:Int)) with
      | none=>
        rw [hG,show oLb none=0 from rfl,show (none:Option UInt8).isSome=false from rfl] at HIG;have he:=HEN.out ((HGK.out h4).1 hG).symm;subst he;clear hG hk hk4 h4;by_cases h0:0<xs.length
        · have h0i:¬(xs.length:Int)=0:=(by omega);have h0b:((xs.length:Int)==0)=false:=by rw [yW];exact h0i
          go_wp2_with (first
            | (go_at_call 52;(with_reducible refine HIG.out.mono ?_);rintro e w1 ⟨rfl,hw1⟩;subst hw1)
            | (go_at_call 29;refine (HFB.out _ _ _ HBW.out HSL.out h0).mono ?_;rintro e w2 ⟨⟨x,rfl,hi⟩,hb⟩;have hm:=hi;obtain ⟨ra,rc,va,vc,hv,_,_⟩:=hi;unfold qU at hv;rw [JX] at hv;subst hv;have HM:=aA hm;clear hm;have HF1:=aA (HFR.out.next hb);obtain ⟨⟨c0,c1,c2,c3,c4⟩,y0,y1,y2,y3,y4⟩:=(HF1.out.blk 0 rfl).five;clear hb))
          have F5:=aA (HF1.out.set5 (zI _) (λx hx=>by cases hx) (.int .i64 (itQ xs).k) (.slice ra (min (itQ xs).n xs.length) rc) (.string ⟨(itQ xs).op.toArray⟩) (.slice va (itQ xs).args.length vc) (.bool (itQ xs).al));exact yR (oJq rfl rfl (F5.out.blk 0 rfl) rfl) rfl ⟨⟨_,(by rw [z0P h0];rfl),(HM.out.off5 (vB HZ0.out HB.out.size) _ _ _ _ _).base (z0I (vB HZ0.out HB.out.size))⟩,F5.out.below⟩
        · have hxs:xs=[]:=List.length_eq_zero_iff.1 (by omega);have HF1:=aA HFR.out;obtain ⟨⟨c0,c1,c2,c3,c4⟩,y0,y1,y2,y3,y4⟩:=(HF1.out.blk 0 rfl).five;have HM:=aA (λW:World=>(by rw [hxs];exact itmZ W w.heap.size:dW W w.heap.size (itQ xs) xs (.agg cD)));have h0b:((xs.length:Int)==0)=true:=(by rw [hxs];rfl);have HD:Hid (decide (0<xs.length)=false):=aA (z0A h0);clear h0 hxs;go_wp2_with (go_at_call 52;(with_reducible refine HIG.out.mono ?_);rintro e w1 ⟨rfl,hw1⟩;subst hw1);have F5:=aA (HF1.out.set5 (zI _) (λx hx=>by cases hx) (.int .i64 0) (.slice none 0 0) (.string ⟨#[]⟩) (.slice none 0 0) (.bool false));exact yR (oJq rfl rfl (F5.out.blk 0 rfl) rfl) rfl ⟨⟨.agg cD,(by rw [HD.out];rfl),HM.out _⟩,F5.out.below⟩
      | some b0=>
        rw [hG,show oLb (some b0)=(b0.toNat:Int) from rfl,show (some b0).isSome=true from rfl] at HIG;obtain ⟨hlt,hx2⟩:=(HGK.out h4).2 b0 hG;rw [HX.out] at hx2;have HX2:=aA hx2;have HC1:Hid ((xs.length+1)*1<=140737488355328):=aA (by omega);have HC2:Hid (xs.length+1<=9223372036854775807):=aA (by omega);clear hG hk hx2
        go_wp2_with (first
          | (go_at_call 52;(with_reducible refine HIG.out.mono ?_);rintro e w1 ⟨rfl,hw1⟩;subst hw1)
          | (at_builtin;refine cK rfl (.tmp 24) (.tmp 26) 22 rfl W0.heap.size 5 1 mH _ xs b0 _ rfl rfl HO.out rfl HC1.out HC2.out HB.out.size ?_;intro a' c' w' hp;have HP:=aA hp;clear hp))
        go_roundw;case rel=>exact ⟨xs.length+1,by omega,by omega,by go_num,by rw [HX2.out];exact HP.out.1,HB.out.grown HP.out.2 HB.out.size (λj hj=>(HO.out.lt j hj).1)⟩
        case measure=>simp [oNc];omega
    · have he:=HEN.out (by have:=HL4.out;omega);have h4i:¬(xs.length:Int)<4:=(by omega);subst he;have h0:0<xs.length:=(by omega);have h0i:¬(xs.length:Int)=0:=(by omega);have h0b:((xs.length:Int)==0)=false:=(by rw [yW];exact h0i);clear hk hk4 h4;go_wp2_with (go_at_call 29;refine (HFB.out _ _ _ HBW.out HSL.out h0).mono ?_;rintro e w2 ⟨⟨x,rfl,hi⟩,hb⟩;have hm:=hi;obtain ⟨ra,rc,va,vc,hv,_,_⟩:=hi;unfold qU at hv;rw [JX] at hv;subst hv;have HM:=aA hm;clear hm;have HF1:=aA (HFR.out.next hb);obtain ⟨⟨c0,c1,c2,c3,c4⟩,y0,y1,y2,y3,y4⟩:=(HF1.out.blk 0 rfl).five;clear hb);have F5:=aA (HF1.out.set5 (zI _) (λx hx=>by cases hx) (.int .i64 (itQ xs).k) (.slice ra (min (itQ xs).n xs.length) rc) (.string ⟨(itQ xs).op.toArray⟩) (.slice va (itQ xs).args.length vc) (.bool (itQ xs).al));exact yR (oJq rfl rfl (F5.out.blk 0 rfl) rfl) rfl ⟨⟨_,(by rw [z0P h0];rfl),(HM.out.off5 (vB HZ0.out HB.out.size) _ _ _ _ _).base (z0I (vB HZ0.out HB.out.size))⟩,F5.out.below⟩
def exC (ex:List UInt8) (D J:Option Nat):Bool:=(ex==[]&&(!D.isSome&&!J.isSome)) || ((ex==[100]&&(D.isSome&&!J.isSome)) || ((ex==[101]&&(!D.isSome&&J.isSome)) || ((ex==[110]&&(!D.isSome&&J.isSome)) || ((ex==[119]&&(!D.isSome&&J.isSome)) || (ex==[100,110]&&(D.isSome&&J.isSome))))))
theorem oHp (lo hi:Int) {D:Option Nat} (h:D.isSome=false):okN D lo hi 0=true:=by cases D with|none=>rfl|some i=>cases h
theorem oHo {lo hi n:Int} {D:Option Nat} (h:D.isSome=true) (h1:lo<=n) (h2:n<=hi):okN D lo hi n=true:=by
  cases D with
  | none=>cases h
  | some i=>show (decide (lo<=n)&&decide (n<=hi))=true;simp [h1,h2]
theorem oHq (b:Nat) (h:b<256):-128<=sg b/\sg b<=127:=by unfold sg;split<;>omega
theorem ex_ok {ex:List UInt8} {D J:Option Nat} (q:Nat) (l:List UInt8) (h:exC ex D J=true):
    okN D (-128) 127 (rdF ex l q 0 0).1=true/\okN J (loF ex) (hiF ex) (rdF ex l q 0 0).2=true:=by
  have h0:=bT l q;have h1:=bT l (q+1);unfold exC at h;have no:∀{b:Bool},(!b)=true->b=false:=fun {b} h=>by cases b;rfl;cases h
  have two:∀{a b:Bool} {m:List UInt8},(ex==m&&(a&&b))=true->ex=m/\a=true/\b=true:=λh=>by obtain ⟨h1,h2⟩:=xS.1 h;obtain ⟨h3,h4⟩:=xS.1 h2;exact ⟨eq_of_beq h1,h3,h4⟩
  rcases z1R.1 h with g|h
  · obtain ⟨rfl,e2,e3⟩:=two g;exact ⟨oHp _ _ (no e2),oHp _ _ (no e3)⟩
  rcases z1R.1 h with g|h
  · obtain ⟨rfl,e2,e3⟩:=two g;exact ⟨oHo e2 (oHq _ h0).1 (oHq _ h0).2,oHp _ _ (no e3)⟩
  rcases z1R.1 h with g|h
  · obtain ⟨rfl,e2,e3⟩:=two g;exact ⟨oHp _ _ (no e2),oHo e3 (oHq _ h0).1 (oHq _ h0).2⟩
  rcases z1R.1 h with g|h
  · obtain ⟨rfl,e2,e3⟩:=two g;exact ⟨oHp _ _ (no e2),oHo e3 (by show (0:Int)<=(bAt l q:Int);omega) (by show (bAt l q:Int)<=255;omega)⟩
  rcases z1R.1 h with g|g
  · obtain ⟨rfl,e2,e3⟩:=two g;exact ⟨oHp _ _ (no e2),oHo e3 (by show (0:Int)<=(bAt l q:Int)+256*bAt l (q+1);omega) (by show (bAt l q:Int)+256*bAt l (q+1)<=65535;omega)⟩
  · obtain ⟨rfl,e2,e3⟩:=two g;exact ⟨oHo e2 (oHq _ h0).1 (oHq _ h0).2,oHo e3 (by show (0:Int)<=(bAt l (q+1):Int);omega) (by show (bAt l (q+1):Int)<=255;omega)⟩
def chJw (p op:Nat):Bool:=match (atF p op).1 with
  | some e=>exC e.ex (Dof e.ex e.args) (Jof e.ex e.args)&&(decide (e.iop.length<=10)&&(decide (e.args.length<=10)&&e.args.all λo=>decide (-100000<=o.n)&&decide (o.n<=100000)))
  | none=>true
theorem ckJw:∀p:Fin 7,∀x:Fin 256,chJw p.val x.val=true:=by decide+kernel
structure ItW (l:List UInt8) (e:aL) (p k:Nat) (d n:Int) (c:List Opd):Prop where
  hp:p<7
  hk:k<256
  at':(atF p k).1=some e
  ok:fA e
  fil:yC e d n c
  it:itF l=⟨1,gX e,e.iop,c,e.al⟩
  op:e.iop.length<=10
  ar:e.args.length<=10
  nu:∀o∈e.args,-100000<=o.n/\o.n<=100000
theorem oHz {l:List UInt8} (hk:(itF l).k=1):∃e p k d n c,ItW l e p k d n c:=by
  have hp:=(yN (l:=l)).1;have hx:=bT l (pos (pgB l));by_cases h0:l.length<=pos (pgB l)
  · unfold itF itS at hk;rw [if_pos h0] at hk;exact absurd (show (4:Int)=1 from hk) (by decide)
  have hw:=ckJw ⟨_,hp⟩ ⟨_,hx⟩;unfold chJw at hw;dsimp only at hw;cases hA:atF (pgB l:Int) (bAt l (pos (pgB l))) with
  | mk o j=>
    cases o with
    | none=>unfold itF itS at hk;rw [if_neg h0,hA] at hk;dsimp only at hk;split at hk<;>exact absurd hk (by decide)
    | some e=>
      by_cases h1:l.length<gX e
      · unfold itF itS at hk;rw [if_neg h0,hA] at hk;dsimp only at hk;unfold itE at hk;rw [if_pos h1] at hk;exact absurd (show (4:Int)=1 from hk) (by decide)
      have he:(atF (pgB l:Int) (bAt l (pos (pgB l)))).1=some e:=(by rw [hA]);rw [hA] at hw;dsimp only at hw;obtain ⟨w1,hw⟩:=xS.1 hw;obtain ⟨w2,hw⟩:=xS.1 hw;obtain ⟨w3,w4⟩:=xS.1 hw;have ok:=mG hx he;obtain ⟨a,b⟩:=ex_ok (if 5<=pgB l then 2 else pos (pgB l)+1) l w1;have hs:fN e.ex e.args (gP (pgB l) e l).1 (gP (pgB l) e l).2=some (lK e.ex e.args (gP (pgB l) e l).1 (gP (pgB l) e l).2 e.args.length):=(by rw [xN ok.var];exact if_pos (xS.2 ⟨b,a⟩));refine ⟨e,_,_,_,_,_,hp,hx,he,ok,(xK ok).1 hs,?_,jU w2,jU w3,λo ho=>?_⟩
      · unfold itF itS;rw [if_neg h0,hA];dsimp only;unfold itE;rw [if_neg h1];unfold jO;rw [hs]
      · obtain ⟨h6,h7⟩:=xS.1 (z1A.1 w4 o ho);exact ⟨jU h6,jU h7⟩
theorem oJd {l:List UInt8} (hk:¬(itF l).k=1):(itF l).op=[]/\(itF l).args=[]:=by
  unfold itF itS at hk ⊢;split
  · exact ⟨rfl,rfl⟩
  · rename_i h0;rw [if_neg h0] at hk;split
    · rename_i e _ hA;rw [hA] at hk;dsimp only at hk;unfold itE at hk ⊢;split
      · exact ⟨rfl,rfl⟩
      · rename_i h1;rw [if_neg h1] at hk;exact absurd rfl hk
    · split<;>exact ⟨rfl,rfl⟩
theorem oHy {D:Option Nat} {k:Nat} {lo hi n:Int} (hD:D=some k) (h:okN D lo hi n=true):lo<=n/\n<=hi:=by subst hD;obtain ⟨a,b⟩:=xS.1 (show (decide (lo<=n)&&decide (n<=hi))=true from h);exact ⟨jU a,jU b⟩
theorem oHw {l:List UInt8} {e:aL} {p k:Nat} {d n:Int} {c:List Opd} (B:ItW l e p k d n c):CV ⟨⟨e.iop.toArray⟩,c⟩:=by
  have hl:=B.fil.len;have hlo:-128<=loF e.ex/\hiF e.ex<=65535:=by unfold loF hiF;constructor<;>repeat' split<;>omega
  refine ⟨?_,?_,λy hy=>?_⟩
  · have:=B.op;show e.iop.toArray.size<=100;rw [XF];omega
  · have:=B.ar;show c.length<=20;omega
  · obtain ⟨i,hi,rfl⟩:=List.mem_iff_getElem.1 hy;have hi2:i<e.args.length:=(by have:i<c.length:=hi;omega);have he:=B.fil.el i hi2;rw [zL hi] at he;have he:=ZS he;rw [he];have hn:=B.nu _ (z0J hi2);show -9223372036854775808<=_/\_<=9223372036854775807;split
    · rename_i hD;have:=oHy hD B.fil.okd;show -9223372036854775808<=d/\d<=9223372036854775807;omega
    · split
      · rename_i hJ;have:=oHy hJ B.fil.okn;show -9223372036854775808<=n/\n<=9223372036854775807;omega
      · omega
theorem oHx (l:List UInt8):CV ⟨⟨(itF l).op.toArray⟩,(itF l).args⟩:=by
  by_cases hk:(itF l).k=1
  · obtain ⟨e,p,k,d,n,c,B⟩:=oHz hk;rw [B.it];exact oHw B
  · obtain ⟨h1,h2⟩:=oJd hk;rw [h1,h2];exact ⟨by decide,by decide,λy hy=>by cases hy⟩
set_option maxHeartbeats 16000000
def rnT (a k:Int) (x:Ins):Int:=if k=1 then oLq a x else -1
def rnA (k:Int) (x:Ins):Bool:=decide (k=1)&&(decide (oJj x=1\/oJj x=3\/oJj x=4)&&!oNt x)
theorem oMd (a k:Int) (n:Nat) (x:Ins):oJp a k n x=true↔a+n<=65535/\¬k=4/\rnA k x=false:=by
  unfold oJp oKp rnA;rw [oKc,oNg];by_cases h4:k=4
  · subst h4;simp
  · by_cases h1:k=1
    · subst h1;by_cases hk:oJj x=1\/oJj x=3\/oJj x=4
      · simp [hk];omega
      · simp [hk];omega
    · simp [h1,h4];omega
theorem oLz (a k:Int) (n:Nat) (x:Ins) (ha:0<=a/\a<=65535):oJn a k n x=if 0<=rnT a k x/\(oKy a k n x).contains (rnT a k x)=false then oKy a k n x++[rnT a k x] else oKy a k n x:=by
  unfold oJn;rw [if_pos ha];unfold oMh rnT;by_cases h1:k=1
  · rw [if_pos h1,if_pos h1];obtain ⟨f1,f2⟩:=oNb a x;by_cases h0:0<=oLq a x
    · rw [f1,f2,Int.max_eq_left h0];simp [h0]
    · rw [f1];simp [h0]
  · rw [if_neg h1,if_neg h1];simp
theorem oMq (a k:Int) (n:Nat) (x:Ins) (m:CV x) (hn:n<=1000) (ra:Option Addr) (rc:Nat) (va:Option Addr) (vc:Nat) (al:Bool) (p:aB) (w:World) (h:SlR aM w p (.slice va x.args.length vc) x.args):
    Calls Tryz.prog 46 #[.int .i64 a,.agg #[.int .i64 k,.slice ra n rc,.string x.op,.slice va x.args.length vc,.bool al]] w λe w'=>(∃v,e=.returned v/\Own oO w' w.heap.size 3 NoB v (oJn a k n x))/\RowKit.Below w.heap.size w w':=by
  have HTG:=aA (λW (hb:RowKit.Below w.heap.size w W)=>oKt a x m (λo ho=>by have:=oLn x o ho;omega) p _ W (h.below hb));have HKI:=aA (λW (hb:RowKit.Below w.heap.size w W)=>oKf x m p _ W (h.below hb));have HSO:=aA (λW (hb:RowKit.Below w.heap.size w W)=>oMm x m p _ W (h.below hb));have HF:=aA ((Fr.start w).new' 32 #[.int .i64 k,.slice ra n rc,.string x.op,.slice va x.args.length vc,.bool al] (b:=w.heap.size) rfl);obtain ⟨W,hW⟩:∃W:World,W=w.alloc (.cells #[.int .i64 k,.slice ra n rc,.string x.op,.slice va x.args.length vc,.bool al] 32):=⟨_,rfl⟩;rw [<-hW] at HF;clear h m;by_cases ha:0<=a/\a<=65535
  · have ha0:=ha.1;have ha1:=ha.2;have hnn:(n:Int)<=1000:=(by omega);have HNX:=aA (oLz a k n x ha);have HGO:=aA (oMd a k n x);unfold oKy at HNX;have HTN:Hid (¬k=1->rnT a k x=-1/\rnA k x=false):=aA (λhk=>⟨if_neg hk,by unfold rnA;rw [z0A hk];rfl⟩);have HTY:Hid (k=1->rnT a k x=oLq a x/\rnA k x=(decide (oJj x=1\/oJj x=3\/oJj x=4)&&!oNt x)):=aA (λhk=>⟨if_pos hk,by unfold rnA;rw [z0P hk];rfl⟩);generalize oJn a k n x=NF at *;generalize oJp a k n x=GF at *;generalize rnT a k x=T at *;generalize rnA k x=AL at *;go_enter Tryz.func46,Tryz.ntmps46;go_upto_region 1 with fail;rw [<-hW];clear hW;obtain ⟨⟨c0,c1,c2,c3,c4⟩,_⟩:=(HF.out.blk 0 rfl).five;go_upto_region 7 with fail;iterate 13 (first|go_values|go_skip|go_guarded|go_step|go_upon|go_back)
    go_cut [7,8] (λs7 s8 wx=>s7=.int .i64 T/\s8=.bool AL/\Fr w [(w.heap.size,32,#[.int .i64 k,.slice ra n rc,.string x.op,.slice va x.args.length vc,.bool al])] wx);case first=>
      by_cases hk:k=1
      · obtain ⟨ht,hal⟩:=HTY.out hk;subst hk;clear HTN HTY;generalize oLq a x=TF at *;subst ht;generalize oJj x=kd at *;generalize oNt x=sm at *;have HAL2:=aA hal;clear hal
        go_upto_region 10 with (first
          | (go_at_call 93;(with_reducible refine (HKI.out _ HF.out.below).mono ?_);rintro e w3 ⟨rfl,hb⟩;have HF3:=aA (HF.out.next hb);clear hb c0 c1 c2 c3 c4;obtain ⟨⟨c0,c1,c2,c3,c4⟩,_⟩:=(HF3.out.blk 0 rfl).five)
          | (go_at_call 51;(with_reducible refine (HTG.out _ HF3.out.below).mono ?_);rintro e w4 ⟨rfl,hb⟩;have HF4:=aA (HF3.out.next hb);clear hb c0 c1 c2 c3 c4;obtain ⟨⟨c0,c1,c2,c3,c4⟩,_⟩:=(HF4.out.blk 0 rfl).five))
        by_cases hkd:kd=1\/kd=3\/kd=4
        · have hG:AL=!sm:=(by rw [HAL2.out,z0P hkd];rfl);subst hG;clear HAL2;rcases hkd with rfl|rfl|rfl;all_goals go_wp2_with (go_at_call 94;(with_reducible refine (HSO.out _ HF4.out.below).mono ?_);rintro e w5 ⟨rfl,hb⟩;have HF5:=aA (HF4.out.next hb);clear hb);go_meet;case rel=>exact ⟨rfl,rfl,HF5.out⟩
        · have hG:AL=false:=(by rw [HAL2.out,z0A hkd];rfl);subst hG;clear HAL2;have e1:(kd==1)=false:=(by rw [yW];omega);have e3:(kd==3)=false:=(by rw [yW];omega);have e4:(kd==4)=false:=(by rw [yW];omega);have f1:¬kd=1:=(by omega);have f3:¬kd=3:=(by omega);have f4:¬kd=4:=(by omega);clear hkd;go_wp2;go_meet;case rel=>exact ⟨rfl,rfl,HF4.out⟩
      · obtain ⟨rfl,rfl⟩:=HTN.out hk;have hk1:(k==1)=false:=(by rw [yW];exact hk);clear HTN HTY HTG HKI HSO;go_wp2;go_meet;case rel=>exact ⟨rfl,rfl,HF.out⟩
    case rest=>
      obtain ⟨rfl,rfl,hfr⟩:=hcut;have HFX:=aA hfr;clear hfr HF c0 c1 c2 c3 c4 HTG HKI HSO HTN HTY;obtain ⟨⟨c0,c1,c2,c3,c4⟩,_⟩:=(HFX.out.blk 0 rfl).five;cases GF
      · have hng:¬(a+n<=65535/\¬k=4/\AL=false):=λe=>(by have:=HGO.out.2 e;cases this);have HN0:Hid (NF=if 0<=T then [T] else []):=aA (by rw [HNX.out];simp);clear HGO HNX;have HO0:=aA (Own.nil oO wc w.heap.size 3 NoB);have hways:(¬a+(n:Int)<=65535)\/(a+(n:Int)<=65535/\k=4)\/(a+(n:Int)<=65535/\¬k=4/\AL=true):=by
          by_cases g1:a+(n:Int)<=65535
          · by_cases g2:k=4
            · exact .inr (.inl ⟨g1,g2⟩)
            · refine .inr (.inr ⟨g1,g2,?_⟩);cases hA:AL
              · exact absurd ⟨g1,g2,hA⟩ hng
              · rfl
          · exact .inl g1
        clear hng;by_cases hT:0<=T
        · obtain rfl:NF=[T]:=(by rw [HN0.out,if_pos hT]);clear HN0;rcases hways with g1|⟨g1,rfl⟩|⟨g1,g2,rfl⟩
          · go_wp2_with (at_builtin;refine cK rfl (.tmp 76) (.tmp 78) 38 rfl w.heap.size 3 8 oJg _ [] T _ rfl rfl HO0.out rfl (by decide) (by decide) HFX.out.below.size ?_;intro a1 c1 w7 hp;have HP1:=aA hp;clear hp);go_ret;exact ⟨⟨_,rfl,HP1.out.1⟩,HFX.out.below.grown HP1.out.2 HFX.out.below.size (λj hj=>(HO0.out.lt j hj).1)⟩
          · go_wp2_with (at_builtin;refine cK rfl (.tmp 76) (.tmp 78) 38 rfl w.heap.size 3 8 oJg _ [] T _ rfl rfl HO0.out rfl (by decide) (by decide) HFX.out.below.size ?_;intro a1 c1 w7 hp;have HP1:=aA hp;clear hp);go_ret;exact ⟨⟨_,rfl,HP1.out.1⟩,HFX.out.below.grown HP1.out.2 HFX.out.below.size (λj hj=>(HO0.out.lt j hj).1)⟩
          · have g3:(k != 4)=true:=(by rw [bne_iff_ne];exact g2);go_wp2_with (at_builtin;refine cK rfl (.tmp 76) (.tmp 78) 38 rfl w.heap.size 3 8 oJg _ [] T _ rfl rfl HO0.out rfl (by decide) (by decide) HFX.out.below.size ?_;intro a1 c1 w7 hp;have HP1:=aA hp;clear hp);go_ret;exact ⟨⟨_,rfl,HP1.out.1⟩,HFX.out.below.grown HP1.out.2 HFX.out.below.size (λj hj=>(HO0.out.lt j hj).1)⟩
        · obtain rfl:NF=[]:=(by rw [HN0.out,if_neg hT]);clear HN0;rcases hways with g1|⟨g1,rfl⟩|⟨g1,g2,rfl⟩
          · go_wp2;go_ret;exact ⟨⟨_,rfl,Own.nil oO _ _ _ _⟩,HFX.out.below⟩
          · go_wp2;go_ret;exact ⟨⟨_,rfl,Own.nil oO _ _ _ _⟩,HFX.out.below⟩
          · have g3:(k != 4)=true:=(by rw [bne_iff_ne];exact g2);go_wp2;go_ret;exact ⟨⟨_,rfl,Own.nil oO _ _ _ _⟩,HFX.out.below⟩
      · obtain ⟨g1,g2,hal⟩:=HGO.out.1 rfl;subst hal;have g3:(k != 4)=true:=(by rw [bne_iff_ne];exact g2);have HN0:Hid (NF=if 0<=T/\¬a+n=T then [a+(n:Int),T] else [a+(n:Int)]):=aA (by
          rw [HNX.out];by_cases e:a+(n:Int)=T
          · simp [e]
          · have e2:¬T=a+(n:Int):=λh=>e h.symm;by_cases h0:0<=T<;>simp [e,e2,h0])
        clear HGO HNX;have HO0:=aA (Own.nil oO wc w.heap.size 3 NoB);go_upto_region 14 with (at_builtin;refine cK rfl (.tmp 58) (.tmp 60) 38 rfl w.heap.size 3 8 oJg _ [] (a+(n:Int)) _ rfl rfl HO0.out rfl (by decide) (by decide) HFX.out.below.size ?_;intro a1 d1 w7 hp;have HP1:=aA hp;clear hp);have HB7:=aA (HFX.out.below.grown HP1.out.2 HFX.out.below.size (λj hj=>(HO0.out.lt j hj).1));have HO5:Hid (Own oO w7 w.heap.size 3 NoB (.slice a1 1 d1) [a+(n:Int)]):=aA HP1.out.1;clear HP1 HO0 HFX c0 c1 c2 c3 c4;generalize a+(n:Int)=an at *;by_cases hT:0<=T
        · obtain ⟨a9,c9,e9,_,_,hg⟩:=(HO5.out.slR (q:=λ_=>True) (λ_ h=>h.elim) (λ_ _=>trivial)).int;injection e9 with e1 e2 e3;obtain ⟨b,o,e4,_,hc⟩:=hg 0 an rfl;subst e1;subst e4;rw [z0N] at hc;clear hg e2 e3;by_cases he:an=T
          · subst he;obtain rfl:NF=[an]:=(by rw [HN0.out,if_neg (λe=>e.2 rfl)]);clear HN0;go_wp2;go_ret;exact ⟨⟨_,rfl,HO5.out⟩,HB7.out⟩
          · obtain rfl:NF=[an,T]:=(by rw [HN0.out,if_pos ⟨hT,he⟩]);have he2:(an != T)=true:=(by rw [bne_iff_ne];exact he);clear HN0;go_wp2_with (at_builtin;refine cK rfl (.tmp 76) (.tmp 78) 38 rfl w.heap.size 3 8 oJg _ [an] T _ rfl rfl HO5.out rfl (by simp) (by simp) HB7.out.size ?_;intro a2 c2 w9 hp;have HP2:=aA hp;clear hp);go_ret;exact ⟨⟨_,rfl,HP2.out.1⟩,HB7.out.grown HP2.out.2 HB7.out.size (λj hj=>(HO5.out.lt j hj).1)⟩
        · obtain rfl:NF=[an]:=(by rw [HN0.out,if_neg (λe=>hT e.1)]);clear HN0;go_wp2;go_ret;exact ⟨⟨_,rfl,HO5.out⟩,HB7.out⟩
  · clear HTG HKI HSO;have hN:oJn a k n x=[]:=if_neg ha;rw [hN];by_cases h1:a<0
    · go_enter Tryz.func46,Tryz.ntmps46;go_upto_region 1 with fail;rw [<-hW];clear hW;go_wp2;go_ret;exact ⟨⟨_,rfl,Own.nil oO _ _ _ _⟩,HF.out.below⟩
    · have h2:a > 65535:=(by omega);go_enter Tryz.func46,Tryz.ntmps46;go_upto_region 1 with fail;rw [<-hW];clear hW;go_wp2;go_ret;exact ⟨⟨_,rfl,Own.nil oO _ _ _ _⟩,HF.out.below⟩
theorem oPn (w:World):(zeroValue 32).run Tryz.prog w=.ok (.agg #[.int .i64 0,.slice none 0 0,.string ⟨#[]⟩,.slice none 0 0,.bool false]) w:=by kernel_rfl
theorem oQq:Maps.Keyed Tryz.prog 3:=Maps.int_keyed Tryz.underlying3
theorem oNq {a:Int} (ha:cN a):keyOf Tryz.prog 3 (.int .i64 a)=some (.int .i64 a):=Maps.keyOf_int_mk Tryz.underlying3 (by simp [Lit.wf];exact ha)
def oPf (w:World) (b:Nat):Nat:=match w.heap[b]? with
  | some (.map es _)=>es.size
  | _=>0
def oPg (w:World) (g:Nat):Nat:=match w.cell? ⟨g,0,none⟩ with
  | some (.slice _ n _)=>n
  | _=>0
theorem oKg.len {g:Nat} {mv s:Value} {xs:List Int} {W:World} (h:oKg g mv s xs W):oPg W g=xs.length:=by obtain ⟨a,c,rfl⟩:=h.own.form;unfold oPg;rw [show W.cell? ⟨g,0,none⟩=some (.slice a xs.length c) from h.blk.cell 0]
def itB (d:Nat->Bool) (v:Nat->UInt8) (a:Int):Bool:=decide (0<(bys d v a 4).length)
def oPi (L:List UInt8):Ins:=⟨⟨(itQ L).op.toArray⟩,(itQ L).args⟩
def nxB (d:Nat->Bool) (v:Nat->UInt8) (a:Int):List Int:=oJn a (itQ (bys d v a 4)).k ((bys d v a 4).take (itQ (bys d v a 4)).n).length (oPi (bys d v a 4))
theorem oLm {d:Nat->Bool} {v:Nat->UInt8} {a:Int} (h:itB d v a=true):0<=a/\a<=65535:=oLf (jU h)
theorem oKs (L:List UInt8):CV (oPi L):=by
  unfold oPi itQ;split
  · exact ⟨by decide,by decide,λy hy=>by cases hy⟩
  · exact oHx L
theorem oNz (a:Int) (x:Ins):-1000000<=oLq a x/\oLq a x<=1000000:=by
  unfold oLq;split
  · unfold oPk oKd;split
    · have:=Int.emod_nonneg (a+2+(‹Opd›).n+65536) (by decide:(65536:Int)≠0);omega
    · cases h:ofK (oJl x).args 6 with
      | none=>simp
      | some o=>have:=oLn x o (oKb h);simp;omega
  · omega
theorem oMn (a k:Int) (n:Nat) (x:Ins):(oJn a k n x).length<=2/\∀z∈oJn a k n x,cN z:=by
  by_cases ha:0<=a/\a<=65535
  · have h1:(oKy a k n x).length<=1/\∀z∈oKy a k n x,cN z:=by
      unfold oKy;split
      · rename_i hg;obtain ⟨h2,_⟩:=(oMd a k n x).1 hg;refine ⟨by simp,λz hz=>?_⟩;obtain rfl:=XJ.1 hz;show -9223372036854775808<=_/\_<=9223372036854775807;omega
      · exact ⟨by simp,λz hz=>by cases hz⟩
    have h2:cN (rnT a k x):=(by have:=oNz a x;show -9223372036854775808<=rnT a k x/\rnT a k x<=9223372036854775807;unfold rnT;split<;>omega);rw [oLz a k n x ha];split
    · refine ⟨by simp;omega,λz hz=>?_⟩;rcases z2D.1 hz with hz|hz
      · exact h1.2 z hz
      · obtain rfl:=XJ.1 hz;exact h2
    · exact ⟨by omega,h1.2⟩
  · unfold oJn;rw [if_neg ha];exact ⟨by simp,λz hz=>by cases hz⟩
set_option maxHeartbeats 4000000
theorem oQn (g:Nat) (mv s vx:Value) (xs ys:List Int) (q:aB) (w:World) (h:oKg g mv s xs w) (hx:SlR oO w q vx ys) (hq:∀k,q k->some k≠s.ownBlock) (hl:xs.length+ys.length<=1000000):
    Calls Tryz.prog 90 #[.pointer (some ⟨g,0,none⟩),vx] w λe w'=>e=.returned (.tuple #[])/\(∃s',oKg g mv s' (xs++ys) w'/\(∀k,s'.ownBlock=some k->s.ownBlock=some k\/w.heap.size<=k))/\RowKit.Below g w w'/\(∀k,k<w.heap.size->k≠g->some k≠s.ownBlock->w'.heap[k]?=w.heap[k]?):=by
  have HK:=aA h.blk;have HO:=aA h.own;have HX:=aA hx;have HQ:=aA hq;have hlt:=h.lt;have HZ:Hid (g+1<=w.heap.size):=aA hlt;have HN1:Hid ((xs.length+ys.length)*8<=140737488355328):=aA (by omega);have HN2:Hid (xs.length+ys.length<=9223372036854775807):=aA (by omega);have e0:w.cell? ⟨g,0,none⟩=some s:=h.blk.cell 0;clear h hx hq hl hlt;go_enter Tryz.func90,Tryz.ntmps90;go_wp2_with (at_builtin;refine dJ _ rfl (.tmp 8) (.tmp 9) 38 rfl (g+1) 3 8 oJg NoB q s vx xs ys rfl rfl HO.out HX.out (λ_ h=>h.elim) HQ.out HN1.out HN2.out HZ.out ?_;intro s2 w2 hap;have HFR:=aA (λk (h1:k<w.heap.size) (h2:some k≠s.ownBlock)=>hap.2.1.block k h1 h2);have HOB:Hid (∀k,s2.ownBlock=some k->s.ownBlock=some k\/w.heap.size<=k):=aA (λk hk=>by rcases hap.2.2 with h2|h2;exact .inl (h2 ▸ hk);rw [h2] at hk;injection hk with hk;exact .inr (Nat.le_of_eq hk));have HK2:=aA (HK.out.grown hap.2.1 (λe=>by have:=(HO.out.lt g e.symm).1;omega));obtain ⟨qa,qc,rfl⟩:=(hap.1.flat NoB).form;have HO2:Hid (Own oO w2 (g+1) 3 NoB (.slice qa (xs++ys).length qc) (xs++ys)):=aA (hap.1.flat NoB);have HB2:=aA (((zY g w).grown hap.2.1 (by have:=HZ.out;omega) (λj hj=>by have:=(HO.out.lt j hj).1;omega)));have f0:w2.cell? ⟨g,0,none⟩=some s:=HK2.out.cell 0;have g0:=HK2.out.free 0;clear hap);go_end0;rw [YL] at HO2 HOB;refine ⟨rfl,⟨.slice qa (xs.length+ys.length) qc,⟨HK2.out.set 0 _,?_⟩,HOB.out⟩,HB2.out.setCell (p:=⟨g,0,none⟩) (zI _) _,λk h1 h2 h3=>(xV w2 ⟨g,0,none⟩ _ k h2).trans (HFR.out k h1 h3)⟩;exact Own.keep HO2.out (aS.setCell (λk hk=>by rcases hk with hk|hk;exact hk.elim;have:=(HO2.out.lt k hk).1;show k≠g;omega) _)
def PopV (g:Nat) (mv s:Value) (xs:List Int) (w:World) (e:Ending) (w':World):Prop:=(∃x ok s' ys,e=.returned (.tuple #[.int .i64 x,.bool ok])/\oKg g mv s' ys w'/\xs=ys++(if ok=true then [x] else [])/\(ok=false->ys=[])/\(∀k,s'.ownBlock=some k->s.ownBlock=some k))/\RowKit.Below g w w'/\(∀k,k≠g->w'.heap[k]?=w.heap[k]?)
theorem oQi (g:Nat) (mv s:Value) (xs:List Int) (w:World) (h:oKg g mv s xs w) (hl:xs.length<=1000000):
    Calls Tryz.prog 91 #[.pointer (some ⟨g,0,none⟩)] w (PopV g mv s xs w):=by
  rcases List.eq_nil_or_concat xs with rfl|⟨ys,x,hx⟩
  · refine (oMt g mv s w h).mono ?_;rintro e w' ⟨rfl,rfl⟩;exact ⟨⟨0,false,s,[],rfl,h,rfl,λ_=>rfl,λk h=>h⟩,zY _ _,λk _=>rfl⟩
  · rw [List.concat_eq_append] at hx;subst hx;have oAf:(ys++[x]).length=ys.length+1:=(by simp);obtain ⟨a,c,rfl⟩:=h.own.form;rw [oAf] at h;have HK:=aA h.blk;have HO:Hid (Own oO w (g+1) 3 NoB (.slice a ys.length c) ys):=aA (by have:=h.own.cutI (k:=ys.length) (by simp);rwa [List.take_left' rfl] at this);obtain ⟨a9,c9,e9,hc1,hc2,hg⟩:=(h.own.slR (q:=λ_=>True) (λ_ h=>h.elim) (λ_ _=>trivial)).int;injection e9 with e7 e8 e9;obtain ⟨b,o,e4,_,hc⟩:=hg ys.length x (by rw [z0G (zI _),z2I];rfl);subst e7 e9;subst e4;rw [oAf] at hc1;have hcut:=λW=>oNu ⟨b,o,none⟩ (ys.length+1) c ys.length (by omega) W;have hx1:((ys.length+1:Nat):Int)-1=(ys.length:Int):=(by omega);have hx2:(ys.length:Int)<=1000000:=(by omega);have e0:w.cell? ⟨g,0,none⟩=some (.slice (some ⟨b,o,none⟩) (ys.length+1) c):=h.blk.cell 0;have g0:=HK.out.free 0;clear h hg hc1 hc2 hl oAf e8;generalize ys.length=m at *;go_enter Tryz.func91,Tryz.ntmps91;go_wp2;go_ret2;refine ⟨⟨x,true,_,ys,rfl,⟨HK.out.set 0 _,?_⟩,rfl,λe=>(by cases e),λk h=>h⟩,(zY g w).setCell (p:=⟨g,0,none⟩) (zI _) _,λk hk=>xV w ⟨g,0,none⟩ _ k hk⟩;exact Own.keep HO.out (aS.setCell (λk hk=>by rcases hk with hk|hk;exact hk.elim;have:=(HO.out.lt k hk).1;show k≠g;omega) _)
def rIv (v:Value):Option (DataW Value × List MemPlace):=match v with
  | .agg ⟨[.int .i64 _,.slice _ _ _,.string _,.slice _ _ _,.bool _]⟩=>some (.held v,[])
  | _=>none
theorem oQf {v:Value} {z:DataW Value × List MemPlace} (h:rIv v=some z):∃k ra rn rc s va vn vc al,v=.agg #[.int .i64 k,.slice ra rn rc,.string s,.slice va vn vc,.bool al]:=by
  unfold rIv at h;split at h
  · exact ⟨_,_,_,_,_,_,_,_,_,rfl⟩
  · cases h
structure oPr {H:Type} (R:Value->Option (DataW H × List MemPlace)) (W:World) (mb:Nat) (D:DataW H) (seen:List Int):Prop where
  own:W.ownsMap Tryz.prog 3 R mb seen.length D
  nd:seen.Nodup
  mem:∀y,y∈seen↔Maps.has D (.int .i64 y)=true
section
variable {H:Type} {R:Value->Option (DataW H × List MemPlace)} {W W':World} {mb:Nat} {D:DataW H} {seen:List Int}
theorem oPr.perm (h:oPr R W mb D seen):seen.Perm (intKeys D):=CollectedI.perm (left:=λ_=>false) ⟨h.nd,λx=>by simp [h.mem x]⟩ h.own oQq Tryz.underlying3 (λ_=>rfl)
theorem oPr.cnt (h:oPr R W mb D seen):oPf W mb=seen.length:=by have hp:=h.perm.length_eq;obtain ⟨es,clock,hb,_,_,hD⟩:=h.own;unfold oPf;rw [hb];dsimp only;rw [hp,hD];show _=(List.map _ _).length;rw [z0B,length_sorted,z0B,Array.length_toList]
theorem oPr.size (h:oPr R W mb D seen):Maps.size D=seen.length:=by have hp:=h.perm.length_eq;obtain ⟨es,clock,hb,_,_,hD⟩:=h.own;rw [hp,hD];show List.length _=(List.map _ _).length;rw [z0B]
theorem oPr.next (h:oPr R W mb D seen) {B:Nat} (hb:Below B W W') (hB:mb<B):oPr R W' mb D seen:=by refine ⟨?_,h.nd,h.mem⟩;obtain ⟨es,clock,h1,h2⟩:=h.own;exact ⟨es,clock,(hb.block mb hB).trans h1,h2⟩
theorem oPr.isMap (h:oPr R W mb D seen):Maps.IsMap D:=by obtain ⟨es,clock,_,_,_,e⟩:=h.own;exact ⟨_,e⟩
theorem oPr.put (h:oPr R W mb D seen) {x:Int} (hx:x ∉ seen) {y:DataW H} (ho:W'.ownsMap Tryz.prog 3 R mb (seen.length+1) (D.put (.int .i64 x) y)):oPr R W' mb (D.put (.int .i64 x) y) (x::seen):=by
  refine ⟨ho,List.nodup_cons.2 ⟨hx,h.nd⟩,λz=>?_⟩;by_cases hz:z=x
  · subst hz;rw [Maps.has_put_same h.isMap (show WideAt.IsKeyLit (.int .i64 z) from trivial)];simp
  · rw [Maps.has_put_other (λe=>hz (by injection e)),<-h.mem z];simp [hz]
end
theorem oPu (w:World) {ops:Array Oper} {rest:List Oper} {o:Oper} {a:Act} {Q:Exit->Act->World->Prop} (hg:o.guard=none) (m x:Operand) (hop:o.op=Op.lookup 76 m x true)
    (b n:Nat) (D:DataW Value) (hm:a.eval m=.map (some b)) (hown:w.ownsMap Tryz.prog 3 rIv b n D) (z:Int) (hx:a.eval x=.int .i64 z) (hz:cN z)
    (hK:∀k ra rn rc s va vn vc al,wpList Tryz.prog ops Q rest (a.put o.dst (.tuple #[.agg #[.int .i64 k,.slice ra rn rc,.string s,.slice va vn vc,.bool al],.bool (Maps.has D (.int .i64 z))])) w):
    wpList Tryz.prog ops Q (o::rest) a w:=
  wpList_lookup_own_ok w hg m x _ hop _ _ oQq Tryz.underlying76 rIv (oPn w) (.held _) [] rfl b n D hm hown _ _ hx (oNq hz) (λv ps hv=>by obtain ⟨k,ra,rn,rc,s,va,vn,vc,al,rfl⟩:=oQf hv;exact hK _ _ _ _ _ _ _ _ _)
theorem oPv (w:World) {ops:Array Oper} {rest:List Oper} {o:Oper} {a:Act} {Q:Exit->Act->World->Prop} (hg:o.guard=none) (m x y:Operand) (hop:o.op=Op.mapUpdate 76 m x y)
    (b n:Nat) (D:DataW Value) (hm:a.eval m=.map (some b)) (hown:w.ownsMap Tryz.prog 3 rIv b n D) (hn:n<=1000000) (z:Int) (hx:a.eval x=.int .i64 z) (hz:cN z)
    (v:Value) (hv:a.eval y=v) (hr:rIv v=some (.held v,[]))
    (hK:∀w',w'.ownsMap Tryz.prog 3 rIv b (n+1) (D.put (.int .i64 z) (.held v))->w.grownBy w' (some b)->wpList Tryz.prog ops Q rest (a.put o.dst undef) w'):
    wpList Tryz.prog ops Q (o::rest) a w:=
  wpList_mapUpdate_own w hg m x y _ hop _ _ oQq Tryz.underlying76 rIv b n D hm hown (by simp [maxLen];omega) _ v _ hx hv (oNq hz) (.held v) [] hr hK
def itV (d:Nat->Bool) (v:Nat->UInt8) (a:Int) (ra:Option Addr) (rc:Nat) (va:Option Addr) (vc:Nat):Value:= .agg #[.int .i64 (itQ (bys d v a 4)).k,.slice ra ((bys d v a 4).take (itQ (bys d v a 4)).n).length rc,.string (oPi (bys d v a 4)).op,.slice va (oPi (bys d v a 4)).args.length vc,.bool (itQ (bys d v a 4)).al]
def ValA (d:Nat->Bool) (v:Nat->UInt8) (p:aB) (W:World) (D:DataW Value) (a:Int):Prop:=∃ra rc va vc,(∀zd,D.atKey (.int .i64 a) zd=.held (itV d v a ra rc va vc))/\SlR aM W p (.slice va (oPi (bys d v a 4)).args.length vc) (oPi (bys d v a 4)).args
def oQo (B:Nat) (s:Value) (W:World):aB:=λk=>B<=k/\k<W.heap.size/\some k≠s.ownBlock
def oPy (d:Nat->Bool) (v:Nat->UInt8) (B:Nat) (s:Value) (W:World) (D:DataW Value) (seen:List Int):Prop:=∀a∈seen,ValA d v (oQo B s W) W D a
theorem oPy.nil (d:Nat->Bool) (v:Nat->UInt8) (B:Nat) (s:Value) (W:World) (D:DataW Value):oPy d v B s W D []:=λa h=>by cases h
theorem oPy.step {d:Nat->Bool} {v:Nat->UInt8} {B:Nat} {s s':Value} {W W':World} {D:DataW Value} {seen:List Int} (h:oPy d v B s W D seen) (hz:W.heap.size<=W'.heap.size) (hk:∀k,oQo B s W k->W'.heap[k]?=W.heap[k]?) (hs:∀k,s'.ownBlock=some k->s.ownBlock=some k\/W.heap.size<=k):oPy d v B s' W' D seen:=λa ha=>by
  obtain ⟨ra,rc,va,vc,h1,h2⟩:=h a ha;refine ⟨ra,rc,va,vc,h1,(h2.keep hk).mono (λk hp=>⟨hp.1,vB hp.2.1 hz,λe=>?_⟩)⟩;rcases hs k e.symm with e1|e1
  · exact hp.2.2 e1.symm
  · exact absurd hp.2.1 (by omega)
theorem oPy.next {d:Nat->Bool} {v:Nat->UInt8} {B:Nat} {s:Value} {W W':World} {D:DataW Value} {seen:List Int} (h:oPy d v B s W D seen) (hb:Below W.heap.size W W'):oPy d v B s W' D seen:=h.step hb.size (λk hk=>hb.block k hk.2.1) (λ_ e=>.inl e)
theorem oPy.pop {d:Nat->Bool} {v:Nat->UInt8} {B g:Nat} {s:Value} {W W':World} {D:DataW Value} {seen:List Int} (h:oPy d v B s W D seen) (hz:W.heap.size<=W'.heap.size) (hk:∀k,k≠g->W'.heap[k]?=W.heap[k]?) (hB:g<B) {s':Value} (hs:∀k,s'.ownBlock=some k->s.ownBlock=some k):oPy d v B s' W' D seen:=h.step hz (λk hp=>hk k (λe=>by have:=hp.1;omega)) (λk e=>.inl (hs k e))
theorem oPy.put {d:Nat->Bool} {v:Nat->UInt8} {B mb:Nat} {s:Value} {W W':World} {D:DataW Value} {seen:List Int} (h:oPy d v B s W D seen) (hD:Maps.IsMap D) (hg:W.grownBy W' (some mb)) (hB:mb<B) {x:Int} (hx:x ∉ seen) {z:Value} {ra va:Option Addr} {rc vc:Nat} (hz:z=itV d v x ra rc va vc) {A:List Opd} (hA:A=(oPi (bys d v x 4)).args)
    (hs:SlR aM W (oQo B s W) (.slice va A.length vc) A):oPy d v B s W' (D.put (.int .i64 x) (.held z)) (x::seen):=λa ha=>by
  subst hz hA;have hkp:aS (oQo B s W) W W':=λk hk=>hg.block k hk.2.1 (λe=>by injection e with e;have:=hk.1;omega);have hmo:∀k,oQo B s W k->oQo B s W' k:=λk hk=>⟨hk.1,vB hk.2.1 hg.size,hk.2.2⟩;by_cases e:a=x
  · subst e;exact ⟨ra,rc,va,vc,λzd=>Maps.atKey_put_same hD (show WideAt.IsKeyLit (.int .i64 a) from trivial) _ _,(hs.keep hkp).mono hmo⟩
  · rcases ZR.1 ha with h1|h1
    · exact absurd h1 e
    · obtain ⟨ra1,rc1,va1,vc1,h2,h3⟩:=h a h1;exact ⟨ra1,rc1,va1,vc1,λzd=>by rw [Maps.atKey_put_other (λh4=>e (by injection h4))];exact h2 zd,(h3.keep hkp).mono hmo⟩
set_option maxHeartbeats 16000000
def flgM (v:Value):Nat:=match v with
  | .bool true=>1
  | _=>0
theorem oNo (ok:Bool):flgM (.bool ok)=if ok=true then 1 else 0:=by cases ok<;>rfl
theorem oLc {g mb:Nat} {w5 wr:World} {mv s5 sr:Value} {ys ys5 seen seen5:List Int} {D D5:DataW Value} (ok5:Bool) (h5:oKg g mv s5 ys5 w5) (hr:oKg g mv sr ys wr) (m5:oPr rIv w5 mb D5 seen5) (mr:oPr rIv wr mb D seen)
    (hc:3*(65537-seen5.length)+ys5.length+(if ok5=true then 1 else 0)<3*(65537-seen.length)+ys.length+1):
    3*(65537-oPf w5 mb)+oPg w5 g+flgM (.bool ok5)<3*(65537-oPf wr mb)+oPg wr g+flgM (.bool true):=by
  rw [h5.len,hr.len,m5.cnt,mr.cnt,oNo,oNo,if_pos rfl];exact hc
theorem oJr {ys ys5:List Int} {ok5:Bool} {x5:Int} (h:ys=ys5++(if ok5=true then [x5] else [])):ys.length=ys5.length+(if ok5=true then 1 else 0):=by rw [h,YL];cases ok5<;>rfl
theorem oQc (b n:Nat) (d:Nat->Bool) (v:Nat->UInt8) (w:World) (hT:Spc w) (hi:eO w b d v n) (x:Int) (hx:cN x):∃(K:Int) (M:Nat) (O:ByteArray) (A:List Opd) (AL IT:Bool) (NX:List Int),IT=itB d v x/\NX=nxB d v x/\((∀ra rc va vc,Value.agg #[.int .i64 K,.slice ra M rc,.string O,.slice va A.length vc,.bool AL]=itV d v x ra rc va vc)/\A=(oPi (bys d v x 4)).args)/\
    (∀W,RowKit.Below w.heap.size w W->Calls Tryz.prog 92 #[.pointer (some ⟨b,0,none⟩),.int .i64 x] W λe w'=>(∃ra rc va vc,e=.returned (.tuple #[.agg #[.int .i64 K,.slice ra M rc,.string O,.slice va A.length vc,.bool AL],.bool IT])/\SlR aM w' (λk=>W.heap.size<=k) (.slice va A.length vc) A)/\RowKit.Below W.heap.size W w')/\
    (∀q ra rc va vc W,SlR aM W q (.slice va A.length vc) A->RowKit.Below w.heap.size w W->Calls Tryz.prog 33 #[.int .i64 x,.agg #[.int .i64 K,.slice ra M rc,.string O,.slice va A.length vc,.bool AL]] W λe w'=>(∃v,e=.returned v/\Own oO w' W.heap.size 3 NoB v NX)/\RowKit.Below W.heap.size W w'):=by
  have h4:=oJz d v 4 x;have hm:((bys d v x 4).take (itQ (bys d v x 4)).n).length<=4:=by rw [JX];omega
  refine ⟨(itQ (bys d v x 4)).k,((bys d v x 4).take (itQ (bys d v x 4)).n).length,⟨(itQ (bys d v x 4)).op.toArray⟩,(itQ (bys d v x 4)).args,(itQ (bys d v x 4)).al,itB d v x,nxB d v x,rfl,rfl,⟨λ_ _ _ _=>rfl,rfl⟩,λW hb=>?_,λq ra rc va vc W h hb=>?_⟩
  · refine (oMi b n d v x hx W (hT.below hb) (hi.below hb hi.lt)).mono ?_;rintro e w' ⟨⟨x4,he,ra,rc,va,vc,rfl,h1,h2⟩,hb4⟩;exact ⟨⟨ra,rc,va,vc,he,h2⟩,hb4⟩
  · exact oNi x (itQ (bys d v x 4)).k _ (oPi (bys d v x 4)) (oKs _) (by omega) (λo ho=>by have:=oLn _ o ho;omega) ra rc va vc (itQ (bys d v x 4)).al q W h (hT.below hb)
theorem oQm (b n:Nat) (d:Nat->Bool) (v:Nat->UInt8) (S:List Int) (p:aB) (vs:Value) (w:World) (hT:Spc w) (hi:eO w b d v n) (hS:SlR oO w p vs S) (hl:S.length<=100000) (hf:∀a∈S,cN a):
    Calls Tryz.prog 42 #[.pointer (some ⟨b,0,none⟩),vs] w λe w'=>(∃mb D seen,e=.returned (.map (some mb))/\w.heap.size<=mb/\oPr rIv w' mb D seen/\(∀x,x∈seen↔Rch (itB d v) (nxB d v) S x)/\(∀a∈seen,ValA d v (λk=>w.heap.size<=k/\k<w'.heap.size) w' D a))/\RowKit.Below w.heap.size w w':=by
  have HPK:=aA (λx hx=>oQc b n d v w hT hi x hx);have HS:=aA hS;have HL:=aA hl;have HF:=aA hf;obtain ⟨sa,sc,rfl,_,_,_⟩:=hS.int;clear hT hi hS hl hf;have hmm:=@run_makeMap Tryz.prog;go_enter Tryz.func42,Tryz.ntmps42;go_upto_region 2 with fail;obtain ⟨W1,hW1⟩:∃W:World,W=(w.alloc (.map #[] 0)).alloc (.cells #[.slice none 0 0,.map (some w.heap.size)] 152):=⟨_,rfl⟩;have HB1:Hid (RowKit.Below w.heap.size w W1):=aA (by rw [hW1];exact ((zY _ w).alloc (zI _) _).alloc (by rw [zW];omega) _);have HW1:Hid (oKg (w.heap.size+1) (.map (some w.heap.size)) (.slice none 0 0) [] W1):=aA (by have h1:=Blk.new (w.alloc (.map #[] 0)) 152 #[.slice none 0 0,.map (some w.heap.size)];rw [zW] at h1;rw [hW1];exact ⟨h1,Own.nil _ _ _ _ _⟩);have HM1:Hid (oPr rIv W1 w.heap.size (.map []) []):=aA (by rw [hW1];exact ⟨(World.ownsMap_made w _ _ rIv).alloc _,List.nodup_nil,λy=>by simp [Maps.has]⟩);clear hmm;rw [<-hW1];clear hW1;have HSW:=aA ((HS.out.old.below HB1.out).mono (q:=λk=>k<w.heap.size) (λk hk=>hk.2));have HLS:Hid (([]:List Int).length+S.length<=1000000):=aA (by have:=HL.out;simp;omega);have HLP:Hid (S.length<=1000000):=aA (by have:=HL.out;omega)
  go_wp2_with (first
    | (go_at_call 90;(with_reducible refine (oQn (w.heap.size+1) (.map (some w.heap.size)) (.slice none 0 0) _ [] S (λk=>k<w.heap.size) _ HW1.out HSW.out (λk _ e=>by simp [Value.ownBlock] at e) HLS.out).mono ?_);rintro e w2 ⟨rfl,⟨s2,hw2,_⟩,hb2,_⟩;rw [z0T] at hw2;have HW2:=aA hw2;have HB2:=aA (HB1.out.trans (hb2.mono (jQ _)));have HM2:=aA (HM1.out.next hb2 (YH _));clear hw2 hb2)
    | (go_at_call 91;(with_reducible refine (oQi (w.heap.size+1) (.map (some w.heap.size)) _ S _ HW2.out HLP.out).mono ?_);rintro e w3 ⟨⟨x3,ok3,s3,ys3,rfl,hw3,hS3,hn3,_⟩,hb3,_⟩;have HW3:=aA hw3;have HB3:=aA (HB2.out.trans (hb3.mono (jQ _)));have HM3:=aA (HM2.out.next hb3 (YH _));have HS3:=aA hS3;have HN3:=aA hn3;clear hw3 hb3 hS3 hn3))
  go_loopw [6,7,9,11] (λs6 s7 _ _ wr=>∃(x:Int) (ok:Bool) (s:Value) (ys seen:List Int) (D:DataW Value),s6=.int .i64 x/\s7=.bool ok/\oKg (w.heap.size+1) (.map (some w.heap.size)) s ys wr/\oPr rIv wr w.heap.size D seen/\oKw (itB d v) (nxB d v) S (ys++(if ok=true then [x] else [])) seen/\(∀z∈ys++(if ok=true then [x] else []),cN z)/\(ok=false->ys=[])/\ys.length<=S.length+2*seen.length/\(∀z∈seen,0<=z/\z<=65535)/\oPy d v (w.heap.size+2) s wr D seen/\RowKit.Below w.heap.size w wr)
    (λ_ s7 _ _ wr=>3*(65537-oPf wr w.heap.size)+oPg wr (w.heap.size+1)+flgM s7)
  case atStart=>exact ⟨x3,ok3,s3,ys3,[],.map [],rfl,rfl,HW3.out,HM3.out,by rw [<-HS3.out];exact oKw.start _,by rw [<-HS3.out];exact HF.out,HN3.out,by have:=congrArg List.length HS3.out;rw [YL] at this;omega,λz h=>(by cases h),oPy.nil _ _ _ _ _ _,HB3.out⟩
  case round=>
    obtain ⟨x,ok,s,ys,seen,D,rfl,rfl,hw,hm,hr,hfz,hn,oAf,hsp,hv,hb⟩:=hrel;have HW:=aA hw;have HM:=aA hm;have HR:=aA hr;have HFZ:=aA hfz;have HLN:=aA oAf;have HSP:=aA hsp;have HV:=aA hv;have HB:=aA hb;have hc1:wr.cell? ⟨w.heap.size+1,1,none⟩=some (.map (some w.heap.size)):=hw.blk.cell 1;cases ok
    · obtain rfl:=hn rfl;clear hw hm hr hfz oAf hsp hv hb hn;go_wp2;go_ret;exact ⟨⟨_,D,seen,rfl,zI _,HM.out,λy=>oKw.done HR.out y,λa ha=>by obtain ⟨ra,rc,va,vc,h1,h2⟩:=HV.out a ha;exact ⟨ra,rc,va,vc,h1,h2.mono (λk hk=>⟨by have:=hk.1;omega,hk.2.1⟩)⟩⟩,HB.out⟩
    · rw [if_pos rfl] at HR HFZ;clear hw hm hr hfz oAf hsp hv hb hn;have hx:cN x:=HFZ.out x (by simp);have HX:=aA hx;have HFY:Hid (∀z∈ys,cN z):=aA (λz hz=>HFZ.out z (List.mem_append_left _ hz));have HPY:Hid (∀y,y∈ys++[x]↔y=x\/y∈ys):=aA (λy=>by simp;exact Or.comm);have HCS:Hid (seen.length<=65536):=aA (oJi 65536 HM.out.nd (λa ha=>by have:=HSP.out a ha;omega));have HYL:Hid (ys.length<=1000000):=aA (by have:=HCS.out;have:=HLN.out;have:=HL.out;omega);obtain ⟨h0,hh⟩:∃h0:Bool,Maps.has D (.int .i64 x)=h0:=⟨_,rfl⟩;go_upto_region 7 with (at_lookup;refine oPu _ rfl _ _ rfl w.heap.size seen.length D rfl HM.out.own x rfl HX.out ?_;intro k0 ra0 rn0 rc0 t0 va0 vn0 vc0 al0;rw [hh];have HBa:=aA (HB.out.alloc HB.out.size (.cells #[.int .i64 k0,.slice ra0 rn0 rc0,.string t0,.slice va0 vn0 vc0,.bool al0] 32));have hba:=(zY wr.heap.size wr).alloc (zI _) (.cells #[.int .i64 k0,.slice ra0 rn0 rc0,.string t0,.slice va0 vn0 vc0,.bool al0] 32));have HWa:=aA (HW.out.next hba);have HMa:=aA (HM.out.next hba HM.out.own.lt);have HVa:=aA (HV.out.next hba);have hsa:=hba.size;clear hba;generalize wr.alloc (.cells #[.int .i64 k0,.slice ra0 rn0 rc0,.string t0,.slice va0 vn0 vc0,.bool al0] 32)=Y at *;cases h0
      · have HNS:Hid (x ∉ seen):=aA (λhs=>by rw [(HM.out.mem x).1 hs] at hh;cases hh);obtain ⟨K,M,O,A,AL,IT,NX,hIT,hNX,hVE,hIT2,hNX2⟩:=HPK.out x HX.out;have HIT:=aA hIT;have HNE:=aA hNX;have HIC:=aA hIT2;have HNC:=aA hNX2;have HVE:=aA hVE;clear hIT hNX hVE hIT2 hNX2 HPK;go_upto_region 9 with (go_at_call 92;(with_reducible refine (HIC.out _ HBa.out).mono ?_);rintro e w4 ⟨⟨ra,rc,va,vc,rfl,hsl⟩,hb4⟩;have HSL:=aA hsl;have hsz4:=qJ hsa hb4.size;have HB4:=aA ((HBa.out.trans (hb4.mono HBa.out.size)));have HW4:=aA (HWa.out.next hb4);have HM4:=aA (HMa.out.next hb4 HMa.out.own.lt);have HV4:=aA (HVa.out.next hb4);clear hb4 hsl);obtain ⟨X,hX⟩:∃X:World,X=w4.alloc (.cells #[.int .i64 K,.slice ra M rc,.string O,.slice va A.length vc,.bool AL] 32):=⟨_,rfl⟩;have HBX:Hid (RowKit.Below w.heap.size w X):=aA (by rw [hX];exact HB4.out.alloc HB4.out.size _);have HWX:Hid (oKg (w.heap.size+1) (.map (some w.heap.size)) s ys X):=aA (by rw [hX];exact HW4.out.next ((zY _ _).alloc (zI _) _));have HMX:Hid (oPr rIv X w.heap.size D seen):=aA (by rw [hX];exact HM4.out.next ((zY _ _).alloc (zI _) _) HM4.out.own.lt);have HVX:Hid (oPy d v (w.heap.size+2) s X D seen):=aA (by rw [hX];exact HV4.out.next ((zY _ _).alloc (zI _) _));have HIX:Hid (Blk X w4.heap.size 32 #[.int .i64 K,.slice ra M rc,.string O,.slice va A.length vc,.bool AL]):=aA (by rw [hX];exact Blk.new _ _ _);have HSX:Hid (SlR aM X (oQo (w.heap.size+2) s X) (.slice va A.length vc) A):=aA (by have h1:=(HSL.out.alloc (.cells #[.int .i64 K,.slice ra M rc,.string O,.slice va A.length vc,.bool AL] 32)).old;rw [<-hX] at h1;exact h1.mono (λk hk=>⟨by have:=hk.1;have:=HW.out.lt;omega,hk.2,λe=>by have h2:=(HW.out.own.lt k e.symm).2;have:=hk.1;omega⟩));have HZ4:Hid (wr.heap.size<=w4.heap.size/\w4.heap.size<X.heap.size/\w.heap.size+1<wr.heap.size):=aA ⟨hsz4,HIX.out.lt,HW.out.lt⟩;rw [<-hX];clear hX HBa HWa HMa HVa HB4 HW4 HM4 HV4 HSL hc1 hsz4 hsa;cases IT
        · have HR2:=aA (HR.out.skip HPY.out (.inr HIT.out.symm));go_wp2_with (go_at_call 91;(with_reducible refine (oQi (w.heap.size+1) (.map (some w.heap.size)) _ ys _ HWX.out HYL.out).mono ?_);rintro e w5 ⟨⟨x5,ok5,s5,ys5,rfl,hw5,he5,hn5,ho5⟩,hb5,hk5⟩;have HW5:=aA hw5;have HB5:=aA (HBX.out.trans (hb5.mono (jQ _)));have HM5:=aA (HMX.out.next hb5 (YH _));have HV5:=aA (HVX.out.pop hb5.size hk5 (YH _) ho5);have HE5:=aA he5;have HN5:=aA hn5;clear hw5 hb5 he5 hn5 ho5 hk5);go_roundw;case rel=>exact ⟨x5,ok5,s5,ys5,seen,D,rfl,rfl,HW5.out,HM5.out,by rw [<-HE5.out];exact HR2.out,by rw [<-HE5.out];exact HFY.out,HN5.out,by have:=oJr HE5.out;have:=HLN.out;omega,HSP.out,HV5.out,HB5.out⟩
          case measure=>exact oLc ok5 HW5.out HW.out HM5.out HM.out (by have:=oJr HE5.out;omega)
        · go_upto_region 10 with fail;have hc1:X.cell? ⟨w.heap.size+1,1,none⟩=some (.map (some w.heap.size)):=HWX.out.blk.cell 1;obtain ⟨⟨d0,d1,d2,d3,d4⟩,_⟩:=HIX.out.five;go_still_tail 6,(by kernel_rfl);change wpList _ _ _ _ _ X.drew;refine oPv _ rfl _ _ _ rfl w.heap.size seen.length D rfl HMX.out.own.drew (by have:=HCS.out;omega) x rfl HX.out _ rfl rfl ?_;intro w6 ho6 hg6;have HM6:=aA (HMX.out.put HNS.out ho6);have HV6:=aA ((HVX.out.step (W':=X.drew) (zI _) (λk _=>rfl) (λ_ e=>.inl e)).put HMX.out.isMap hg6 (by omega) HNS.out (HVE.out.1 ra rc va vc) HVE.out.2 (HSX.out.keep (aS.drew _)));have HB6:Hid (RowKit.Below w.heap.size w w6):=aA (HBX.out.drew.grown hg6 HBX.out.size (λj hj=>by injection hj with hj;omega));have HW6:Hid (oKg (w.heap.size+1) (.map (some w.heap.size)) s ys w6):=aA ⟨Blk.grown (show Blk X.drew _ _ _ from HWX.out.blk) hg6 (λe=>by injection e with e;omega),Own.keep HWX.out.own ((aS.drew _).trans (aS.grown hg6 (λk hk=>by rcases hk with hk|hk;exact hk.elim;have:=HWX.out.own.lt k hk;exact ⟨this.2,λe=>by injection e with e;omega⟩)))⟩;have HI6:Hid (Blk w6 w4.heap.size 32 #[.int .i64 K,.slice ra M rc,.string O,.slice va A.length vc,.bool AL]):=aA (Blk.grown (show Blk X.drew _ _ _ from HIX.out) hg6 (λe=>by injection e with e;have:=HZ4.out;omega));have HS6:=aA (HSX.out.keep ((aS.drew _).trans (aS.grown hg6 (λk hk=>⟨hk.2.1,λe=>by injection e with e;have:=hk.1;omega⟩))));have HZ6:Hid (X.heap.size<=w6.heap.size):=aA hg6.size;clear d0 d1 d2 d3 d4 hc1 ho6 hg6;obtain ⟨⟨d0,d1,d2,d3,d4⟩,_⟩:=HI6.out.five;have HCF:=aA (λW (hb:RowKit.Below w6.heap.size w6 W)=>(HI6.out.below hb HI6.out.lt).five.1);have HWF:=aA (λW (hb:RowKit.Below w6.heap.size w6 W)=>HW6.out.next hb);have HSO:Hid (∀k,w4.heap.size<=k->some k≠s.ownBlock):=aA (λk hk e=>by have:=(HW.out.own.lt k e.symm).2;have:=HZ4.out;omega);have HNL:Hid (NX.length<=2/\∀z∈NX,cN z):=aA (by rw [HNE.out];exact oMn _ _ _ _);have HPL:Hid (ys.length+NX.length<=1000000):=aA (by have:=HNL.out.1;have:=HCS.out;have:=HLN.out;have:=HL.out;omega);have HPL2:Hid ((ys++NX).length<=1000000):=aA (by rw [YL];exact HPL.out);have HR6:=aA (HR.out.add (w2:=ys++NX) (seen2:=x::seen) HPY.out HNS.out HIT.out.symm (λy=>by rw [HNE.out,z2D]) (λy=>ZR) HM6.out.nd);have HF6:Hid (∀z∈ys++NX,cN z):=aA (λz hz=>by
            rcases z2D.1 hz with hz|hz
            · exact HFY.out z hz
            · exact HNL.out.2 z hz)
          have HSP6:Hid (∀z∈x::seen,0<=z/\z<=65535):=aA (λz hz=>by
            rcases ZR.1 hz with rfl|hz
            · exact oLm HIT.out.symm
            · exact HSP.out z hz)
          have HCS6:Hid ((x::seen).length<=65536):=aA (oJi 65536 HM6.out.nd (λa ha=>by have:=HSP6.out a ha;omega));go_wp2;go_region_held3 (λw'=>w'.cell? ⟨w4.heap.size,0,none⟩=some (.int .i64 K)/\w'.cell? ⟨w4.heap.size,1,none⟩=some (.slice ra M rc)/\w'.cell? ⟨w4.heap.size,2,none⟩=some (.string O)/\w'.cell? ⟨w4.heap.size,3,none⟩=some (.slice va A.length vc)/\w'.cell? ⟨w4.heap.size,4,none⟩=some (.bool AL)) (go_keep)
            (first
              | (go_at_call 33;(with_reducible refine (HNC.out _ ra rc va vc _ HS6.out.drew HB6.out.drew).mono ?_);rintro e w7 ⟨⟨nv,rfl,hno⟩,hb7⟩;have HB7:Hid (RowKit.Below w6.heap.size w6 w7):=aA ((zY _ w6).drew.trans hb7);have HNO:Hid (Own oO w7 w6.heap.size 3 NoB nv NX):=aA hno;clear hb7 hno d0 d1 d2 d3 d4;obtain ⟨d0,d1,d2,d3,d4⟩:=HCF.out _ HB7.out;have HW7:=aA (HWF.out _ HB7.out);have HM7:=aA (HM6.out.next HB7.out HM6.out.own.lt);have HV7:=aA (HV6.out.next HB7.out))
              | (go_at_call 90;(with_reducible refine (oQn (w.heap.size+1) (.map (some w.heap.size)) s _ ys NX (λk=>w6.heap.size<=k) _ HW7.out (HNO.out.slR (λ_ h=>h.elim) (λ_ h=>h)) (λk hk=>HSO.out k (by have:=HZ4.out;have:=HZ6.out;omega)) HPL.out).mono ?_);rintro e w8 ⟨rfl,⟨s8,hw8,ho8⟩,hb8,hf8⟩;have HW8:=aA hw8;have HB8:=aA ((HB6.out.trans (HB7.out.mono HB6.out.size)).trans (hb8.mono (jQ _)));have HM8:=aA (HM7.out.next hb8 (YH _));have HC8:=aA (hf8 w4.heap.size (vB HI6.out.lt HB7.out.size) (by have:=HZ4.out;omega) (HSO.out _ (zI _)));have HV8:=aA (HV7.out.step hb8.size (λk hk=>hf8 k hk.2.1 (by have:=hk.1;omega) hk.2.2) ho8);clear hw8 hb8 hf8 ho8;have e0:=(z0E (a:=⟨w4.heap.size,0,none⟩) HC8.out).trans d0;have e1:=(z0E (a:=⟨w4.heap.size,1,none⟩) HC8.out).trans d1;have e2:=(z0E (a:=⟨w4.heap.size,2,none⟩) HC8.out).trans d2;have e3:=(z0E (a:=⟨w4.heap.size,3,none⟩) HC8.out).trans d3;have e4:=(z0E (a:=⟨w4.heap.size,4,none⟩) HC8.out).trans d4))
          go_wp2_with (go_at_call 91;(with_reducible refine (oQi (w.heap.size+1) (.map (some w.heap.size)) _ (ys++NX) _ HW8.out HPL2.out).mono ?_);rintro e w5 ⟨⟨x5,ok5,s5,ys5,rfl,hw5,he5,hn5,ho5⟩,hb5,hk5⟩;have HW5:=aA hw5;have HB5:=aA (HB8.out.trans (hb5.mono (jQ _)));have HM5:=aA (HM8.out.next hb5 (YH _));have HV5:=aA (HV8.out.pop hb5.size hk5 (YH _) ho5);have HE5:=aA he5;have HN5:=aA hn5;clear hw5 hb5 he5 hn5 ho5 hk5);go_roundw;case rel=>exact ⟨x5,ok5,s5,ys5,x::seen,_,rfl,rfl,HW5.out,HM5.out,by rw [<-HE5.out];exact HR6.out,by rw [<-HE5.out];exact HF6.out,HN5.out,by have h1:=oJr HE5.out;rw [YL] at h1;have:=HLN.out;have:=HNL.out.1;rw [VH];omega,HSP6.out,HV5.out,HB5.out⟩
          case measure=>exact oLc ok5 HW5.out HW.out HM5.out HM.out (by have h1:=oJr HE5.out;rw [YL] at h1;have:=HNL.out.1;have h2:=HCS6.out;rw [VH] at h2 ⊢;omega)
      · have HR2:=aA (HR.out.skip HPY.out (.inl ((HM.out.mem x).2 hh)));go_wp2_with (go_at_call 91;(with_reducible refine (oQi (w.heap.size+1) (.map (some w.heap.size)) _ ys _ HWa.out HYL.out).mono ?_);rintro e w5 ⟨⟨x5,ok5,s5,ys5,rfl,hw5,he5,hn5,ho5⟩,hb5,hk5⟩;have HW5:=aA hw5;have HB5:=aA (HBa.out.trans (hb5.mono (jQ _)));have HM5:=aA (HMa.out.next hb5 (YH _));have HV5:=aA (HVa.out.pop hb5.size hk5 (YH _) ho5);have HE5:=aA he5;have HN5:=aA hn5;clear hw5 hb5 he5 hn5 ho5 hk5);go_roundw;case rel=>exact ⟨x5,ok5,s5,ys5,seen,D,rfl,rfl,HW5.out,HM5.out,by rw [<-HE5.out];exact HR2.out,by rw [<-HE5.out];exact HFY.out,HN5.out,by have:=oJr HE5.out;have:=HLN.out;omega,HSP.out,HV5.out,HB5.out⟩
        case measure=>exact oLc ok5 HW5.out HW.out HM5.out HM.out (by have:=oJr HE5.out;omega)
end Go.Proofs.YtpigbggoiipmhaaGreatDoor
namespace Go.Proofs.YtpigbggoiipmhaaGreatDoor
set_option maxHeartbeats 4000000
set_option maxRecDepth 100000
open Go.RowKit Go.Shelf Go.Sort Go.Maps
theorem oPh (m:Nat):AnyZI.SortsIn Tryz.prog Tryz.sortedA_ren Fence.wide m:=
  ⟨λblk off cap ss W hH hblk hsz=>callsIn_wide.2 (AnyM.slices_Sort_int Tryz.sortA blk off cap ss W hH hblk hsz),
   λp cap W=>callsIn_wide.2 (AnyM.slices_Sort_int_none Tryz.sortA p cap W)⟩
theorem oMl (w:World):∀xs:List Int,Els oO w NoB (xs.map encZ) xs
  | []=>rfl
  | x::xs=>⟨[.int .i64 x],xs.map encZ,rfl,rfl,oMl w xs⟩
theorem oPs {H:Type} {R:Value->Option (DataW H × List MemPlace)} {W:World} {mb n:Nat} {D:DataW H} (h:W.ownsMap Tryz.prog 3 R mb n D):(intKeys D).Nodup/\(∀x,x∈intKeys D↔Maps.has D (.int .i64 x)=true)/\Maps.size D=(intKeys D).length/\(intKeys D).length<=n:=by
  have hln:Maps.size D<=n:=by obtain ⟨es,clock,_,_,hs,hD⟩:=h;rw [hD];show List.length _<=n;rw [length_sorted,z0B,Array.length_toList];exact hs
  obtain ⟨es,hD,hpw,_⟩:=h.entries oQq;obtain ⟨es',hD',hko⟩:=h.keysOf;obtain rfl:es=es':=by rw [hD] at hD';simpa using hD'
  subst hD;have hk:∀p∈es,∃x,p.1=.int .i64 x:=λp hp=>by obtain ⟨v,hv⟩:=hko p hp;obtain ⟨x,_,hx,_⟩:=Maps.keyOf_i64 Tryz.underlying3 hv;exact ⟨x,hx⟩
  have hsz:Maps.size (DataW.map es)=(intKeys (DataW.map es)).length:=by show List.length es=(List.map _ es).length;rw [z0B]
  refine ⟨?_,λx=>?_,hsz,by rw [<-hsz];exact hln⟩
  · show (es.map λp=>Go.intOf p.1).Nodup;refine List.pairwise_map.2 (hpw.imp_of_mem fun {p q} hp' hq' hne e=>hne ?_);obtain ⟨a,ha⟩:=hk p hp';obtain ⟨b,hb⟩:=hk q hq';rw [ha,hb] at e ⊢;exact congrArg _ e
  · rw [has_eq,z0H];show x∈es.map (λp=>Go.intOf p.1)↔_;rw [z2A];constructor
    · rintro ⟨p,hp',rfl⟩;obtain ⟨a,ha⟩:=hk p hp';exact ⟨p,hp',by rw [ha];simp [Lit.sameKey,Go.intOf]⟩
    · rintro ⟨p,hp',hs⟩;obtain ⟨a,ha⟩:=hk p hp';rw [ha] at hs;exact ⟨p,hp',by rw [ha];simpa [Lit.sameKey,Go.intOf] using hs⟩
theorem oQr {H:Type} {R:Value->Option (DataW H × List MemPlace)} (g:FuncId) (eg:∀args w,(callFunc g args).run Tryz.prog w=.ok (.enter g args) w) (t:TypeId) (mb n:Nat) (D:DataW H) (w:World) (h:w.ownsMap Tryz.prog 3 R mb n D) (hn:n<=65536)
    (hseq:SeqGives Fence.wide 2 Tryz.prog g #[.pointer (some ⟨w.heap.size,0,none⟩)] encZ (λss=>ss.Perm (intKeys D)) (Maps.size D) (w.alloc (.cells #[.map (some mb)] t))):
    Calls Tryz.prog 40 #[.func (.func g) #[] #[.pointer (some ⟨w.heap.size,0,none⟩)]] (w.alloc (.cells #[.map (some mb)] t)) λe w'=>(∃v,e=.returned v/\Own oO w' w.heap.size 3 NoB v ((intKeys D).mergeSort (λx y=>decide (x<=y))))/\RowKit.Below w.heap.size (w.alloc (.cells #[.map (some mb)] t)) w':=by
  obtain ⟨_,_,hsz,hle⟩:=oPs h;have cS:=AnyZI.sorted_in Tryz.sortedA Fence.wide 5 trivial trivial trivial trivial rfl (by omega) (oPh _) (enters_of Tryz.func88 (by kernel_rfl) rfl) g #[.pointer (some ⟨w.heap.size,0,none⟩)] trivial eg _ _ (by rw [hsz];simp [maxLen];omega) (by rw [hsz];omega) _ hseq;refine ((callsIn_wide (n:=5)).1 cS).mono ?_;rintro e w' ⟨v,ss,rfl,hS,hrow,_,hb⟩;have hm:ss.mergeSort (λx y=>decide (x<=y))=(intKeys D).mergeSort (λx y=>decide (x<=y)):=mergeSort_of_perm_i hS;refine ⟨⟨v,rfl,?_⟩,hb.mono (by rw [zW];omega)⟩;rw [hm] at hrow;have oAf:ss.length=((intKeys D).mergeSort (λx y=>decide (x<=y))).length:=by rw [<-hm,List.length_mergeSort]
  rw [oAf] at hrow;exact (show Own oO w' _ 3 NoB v _ from ⟨_,hrow,oMl _ _⟩).base (by rw [zW];omega)
theorem oQg (mb:Option Nat) (W:World):Calls Tryz.prog 41 #[.map mb] W λe w'=>e=.returned (.func (.func 89) #[] #[.pointer (some ⟨W.heap.size,0,none⟩)])/\w'=W.alloc (.cells #[.map mb] 76):=(callsIn_wide (n:=5)).1 (AnyZI.keys_in Tryz.keysA Fence.wide 5 trivial rfl mb W)
theorem oQh (mb:Option Nat) (W:World):Calls Tryz.prog 50 #[.map mb] W λe w'=>e=.returned (.func (.func 96) #[] #[.pointer (some ⟨W.heap.size,0,none⟩)])/\w'=W.alloc (.cells #[.map mb] 82):=(callsIn_wide (n:=5)).1 (AnyZI.keys_in Tryz.keysB Fence.wide 5 trivial rfl mb W)
theorem oQd {H:Type} {R:Value->Option (DataW H × List MemPlace)} (mb n:Nat) (D:DataW H) (w:World) (h:w.ownsMap Tryz.prog 3 R mb n D) (hn:n<=65536):
    Calls Tryz.prog 40 #[.func (.func 89) #[] #[.pointer (some ⟨w.heap.size,0,none⟩)]] (w.alloc (.cells #[.map (some mb)] 76)) λe w'=>(∃v,e=.returned v/\Own oO w' w.heap.size 3 NoB v ((intKeys D).mergeSort (λx y=>decide (x<=y))))/\RowKit.Below w.heap.size (w.alloc (.cells #[.map (some mb)] 76)) w':=
  oQr _ (enters_of Tryz.func89 (by kernel_rfl) rfl) _ mb n D w h hn (AnyZI.keys_gives (ρ:=Tryz.keysA_ren) {Tryz.keysA with} Fence.wide _ trivial rfl (by omega) w.heap.size mb n D _ (by simp) (by simp) (h.alloc _))
theorem oQe {H:Type} {R:Value->Option (DataW H × List MemPlace)} (mb n:Nat) (D:DataW H) (w:World) (h:w.ownsMap Tryz.prog 3 R mb n D) (hn:n<=65536):
    Calls Tryz.prog 40 #[.func (.func 96) #[] #[.pointer (some ⟨w.heap.size,0,none⟩)]] (w.alloc (.cells #[.map (some mb)] 82)) λe w'=>(∃v,e=.returned v/\Own oO w' w.heap.size 3 NoB v ((intKeys D).mergeSort (λx y=>decide (x<=y))))/\RowKit.Below w.heap.size (w.alloc (.cells #[.map (some mb)] 82)) w':=
  oQr _ (enters_of Tryz.func96 (by kernel_rfl) rfl) _ mb n D w h hn (AnyZI.keys_gives (ρ:=Tryz.keysB_ren) {Tryz.keysB with} Fence.wide _ trivial rfl (by omega) w.heap.size mb n D _ (by simp) (by simp) (h.alloc _))
theorem oQk (b n:Nat) (d:Nat->Bool) (v:Nat->UInt8) (S:List Int) (p:aB) (vs:Value) (w:World) (hT:Spc w) (hi:eO w b d v n) (hS:SlR oO w p vs S) (hl:S.length<=100000) (hf:∀a∈S,cN a):
    Calls Tryz.prog 16 #[.pointer (some ⟨b,0,none⟩),vs] w λe w'=>(∃(v':Value) (L:List Int),e=.returned v'/\Own oO w' w.heap.size 3 NoB v' (L.mergeSort (λx y=>decide (x<=y)))/\L.Nodup/\(∀x,x∈L↔Rch (itB d v) (nxB d v) S x))/\RowKit.Below w.heap.size w w':=by
  have HW:=aA (oQm b n d v S p vs w hT hi hS hl hf);obtain ⟨sa,sc,rfl,_,_,_⟩:=hS.int;clear hT hi hS hl hf;go_enter Tryz.func16,Tryz.ntmps16
  go_wp2_with (first
    | (go_at_call 42;(with_reducible refine HW.out.mono ?_);rintro e w1 ⟨⟨mb,D,seen,rfl,_,hm,hr,_⟩,hb1⟩;have HM:=aA hm.own;have HR:Hid (∀x,x∈intKeys D↔Rch (itB d v) (nxB d v) S x):=aA (λx=>by rw [(oPs hm.own).2.1,<-hm.mem,hr]);have HB1:=aA hb1;have HSL:Hid (seen.length<=65536):=aA (oJi 65536 hm.nd (λa ha=>by have:=oLm ((hr a).1 ha).here;omega));clear hm hr hb1)
    | (go_at_call 41;refine (oQg _ _).mono ?_;rintro e w2 ⟨rfl,rfl⟩)
    | (go_at_call 40;refine (oQd mb _ D w1 HM.out HSL.out).mono ?_;rintro e w3 ⟨⟨v3,rfl,ho⟩,hb3⟩;have HO:=aA ho;have HB3:Hid (RowKit.Below w.heap.size w _):=aA ((HB1.out.alloc HB1.out.size _).trans (hb3.mono HB1.out.size));clear ho hb3))
  go_ret;exact ⟨⟨_,intKeys D,rfl,HO.out.base HB1.out.size,(oPs HM.out).1,HR.out⟩,HB3.out⟩
def tgZ (d:Nat->Bool) (v:Nat->UInt8) (a:Int):Int:=oLq a (oPi (bys d v a 4))
def tgY (d:Nat->Bool) (v:Nat->UInt8) (a:Int):Bool:=decide ((itQ (bys d v a 4)).k=1)&&(gB d v (tgZ d v a)).isSome
theorem oQp (d:Nat->Bool) (v:Nat->UInt8) (W:World) (P:aB) (D:DataW Value) (x:Int) (hV:ValA d v P W D x) {k:Int} {rn rc vn vc:Nat} {ra va:Option Addr} {s:ByteArray} {al:Bool}
    (hat:∀zd,D.atKey (.int .i64 x) zd=.held (.agg #[.int .i64 k,.slice ra rn rc,.string s,.slice va vn vc,.bool al])):
    ∃(T:Int) (J:Bool),(J=true->T=tgZ d v x)/\tgY d v x=(decide (k=1)&&(J&&(gB d v T).isSome))/\
      ∀W',Spc W'->(∀j,P j->W'.heap[j]?=W.heap[j]?)->Calls Tryz.prog 48 #[.int .i64 x,.agg #[.string s,.slice va vn vc]] W' λe w'=>e=.returned (.tuple #[.int .i64 T,.bool J])/\RowKit.Below W'.heap.size W' w':=by
  obtain ⟨ra1,rc1,va1,vc1,h1,h2⟩:=hV;have e:=(h1 .nil).symm.trans (hat .nil);injection e with e;unfold itV at e;injection e with e;injection e with e;injection e with e1 e;injection e with e2 e;injection e with e3 e;injection e with e4 e;injection e1 with _ e1;injection e3 with e3;injection e4 with e4 e5 e6;subst e1 e3 e4 e5 e6;have ht:=oNb x (oPi (bys d v x 4));refine ⟨(oMa x (oPi (bys d v x 4))).1,(oMa x (oPi (bys d v x 4))).2,λhj=>?_,?_,λW' hT hk=>?_⟩
  · rw [ht.1] at hj;have:=jU hj;rw [ht.2];unfold tgZ;omega
  · unfold tgY tgZ;rw [ht.1,ht.2];by_cases h0:0<=oLq x (oPi (bys d v x 4))
    · rw [z0P h0,show max (oLq x (oPi (bys d v x 4))) 0=oLq x (oPi (bys d v x 4)) by omega,z0Y]
    · rw [z0A h0,oNs (.inl (by omega))];simp
  · exact oKe x (oPi (bys d v x 4)) (oKs _) (λo ho=>by have:=oLn _ o ho;omega) P _ W' (h2.keep hk) hT
def rAn (_:Value):Option (DataW Unit × List MemPlace):=some (.map [],[])
theorem oPw (w:World) {ops:Array Oper} {rest:List Oper} {o:Oper} {a:Act} {Q:Exit->Act->World->Prop} (hg:o.guard=none) (m x y:Operand) (hop:o.op=Op.mapUpdate 82 m x y)
    (b n:Nat) (D:DataW Unit) (hm:a.eval m=.map (some b)) (hown:w.ownsMap Tryz.prog 3 rAn b n D) (hn:n<=1000000) (z:Int) (hx:a.eval x=.int .i64 z) (hz:cN z)
    (v:Value) (hv:a.eval y=v)
    (hK:∀w',w'.ownsMap Tryz.prog 3 rAn b (n+1) (D.put (.int .i64 z) (.map []))->w.grownBy w' (some b)->wpList Tryz.prog ops Q rest (a.put o.dst undef) w'):
    wpList Tryz.prog ops Q (o::rest) a w:=
  wpList_mapUpdate_own w hg m x y _ hop _ _ oQq Tryz.underlying82 rAn b n D hm hown (by simp [maxLen];omega) _ v _ hx hv (oNq hz) (.map []) [] rfl hK
def IsBl (v:Value):Prop:=∃al:Bool,v=.bool al
theorem oPt (w:World) {ops:Array Oper} {rest:List Oper} {o:Oper} {a:Act} {Q:Exit->Act->World->Prop} (hg:o.guard=none) (it:Operand) (hop:o.op=Op.next it false)
    (b r n:Nat) (D:DataW Value) (left:Lit->Bool) (cnt:Nat) (hit:a.eval it=.pointer (some ⟨r,0,none⟩)) (h:w.ranges Tryz.prog 3 rIv b r n D left cnt)
    (hDone:(∀kl,left kl=false)->wpList Tryz.prog ops Q rest (a.put o.dst (.tuple #[.bool false])) w)
    (hMore:∀(x k:Int) (ra:Option Addr) (rn rc:Nat) (s:ByteArray) (va:Option Addr) (vn vc:Nat) (vb:Value) (w':World) (cnt':Nat),IsBl vb->left (.int .i64 x)=true->(∀zd,D.atKey (.int .i64 x) zd=.held (.agg #[.int .i64 k,.slice ra rn rc,.string s,.slice va vn vc,vb]))->
      w'.ranges Tryz.prog 3 rIv b r n D (λz=>left z&&!z.sameKey (.int .i64 x)) cnt'->cnt'<cnt->w.grownBy w' (some r)->w'.heap.size=w.heap.size->
      (Instr.entry (.pointer (some ⟨r,0,none⟩))).run Tryz.prog w'=.ok (.tuple #[.int .i64 x,.agg #[.int .i64 k,.slice ra rn rc,.string s,.slice va vn vc,vb]]) w'->
      wpList Tryz.prog ops Q rest (a.put o.dst (.tuple #[.bool true,.int .i64 x,.agg #[.int .i64 k,.slice ra rn rc,.string s,.slice va vn vc,vb]])) w'):
    wpList Tryz.prog ops Q (o::rest) a w:=
  wpList_next_ranges w hg it hop 3 oQq rIv (Value.int .i64) (λc:Value=>c) (λkey kl hkey=>by obtain ⟨x,rfl,_⟩:=Maps.keyOf_int_inv Tryz.underlying3 hkey;exact ⟨x,rfl⟩) (λv _ _=>⟨v,rfl⟩)
    b r n D left cnt hit h (λ_=>hDone) (λx c kl y w' cnt' hkey hlk hv hat hrg hlt hgr hsz hen=>by obtain ⟨k,ra,rn,rc,s,va,vn,vc,al,rfl⟩:=oQf hv;obtain ⟨x',ex,rfl,_⟩:=Maps.keyOf_int_inv Tryz.underlying3 hkey;cases ex;obtain rfl:(DataW.held (.agg #[.int .i64 k,.slice ra rn rc,.string s,.slice va vn vc,.bool al]),[])=y:=(by injection hv);exact hMore x k ra rn rc s va vn vc _ w' cnt' ⟨al,rfl⟩ hlk hat hrg hlt hgr hsz hen)
theorem oQa {H:Type} {R:Value->Option (DataW H × List MemPlace)} {w w':World} {b r n B:Nat} {D:DataW H} {left:Lit->Bool} {cnt:Nat} (h:w.ranges Tryz.prog 3 R b r n D left cnt) (hb:RowKit.Below B w w') (h1:b<B) (h2:r<B):w'.ranges Tryz.prog 3 R b r n D left cnt:=by obtain ⟨es,clock,since,seen,c0,h3,h4,h5,h6,h7,rest⟩:=h;exact ⟨es,clock,since,seen,c0,(hb.block b h1).trans h3,h4,h5,h6,(hb.block r h2).trans h7,rest⟩
theorem oQb {H:Type} {R:Value->Option (DataW H × List MemPlace)} {w w':World} {b n B:Nat} {D:DataW H} (h:w.ownsMap Tryz.prog 3 R b n D) (hb:RowKit.Below B w w') (h1:b<B):w'.ownsMap Tryz.prog 3 R b n D:=by obtain ⟨es,clock,h3,h4⟩:=h;exact ⟨es,clock,(hb.block b h1).trans h3,h4⟩
structure TgI (d:Nat->Bool) (v:Nat->UInt8) (seen:List Int) (left:Lit->Bool) (Do:DataW Unit):Prop where
  map:Maps.IsMap Do
  mem:∀y,Maps.has Do (.int .i64 y)=true↔∃a∈seen,left (.int .i64 a)=false/\tgY d v a=true/\y=tgZ d v a
theorem TgI.skip {d:Nat->Bool} {v:Nat->UInt8} {seen:List Int} {left:Lit->Bool} {Do:DataW Unit} (h:TgI d v seen left Do) {x:Int} (hy:tgY d v x=false):TgI d v seen (λz=>left z&&!z.sameKey (.int .i64 x)) Do:=by
  refine ⟨h.map,λy=>(h.mem y).trans ⟨?_,?_⟩⟩
  · rintro ⟨a,h1,h2,h3,h4⟩;exact ⟨a,h1,by rw [h2];rfl,h3,h4⟩
  · rintro ⟨a,h1,h2,h3,h4⟩;refine ⟨a,h1,?_,h3,h4⟩;have hx:a≠x:=λe=>(by rw [e,hy] at h3;cases h3);simpa [Lit.sameKey,hx] using h2
theorem TgI.put {d:Nat->Bool} {v:Nat->UInt8} {seen:List Int} {left:Lit->Bool} {Do:DataW Unit} (h:TgI d v seen left Do) {x:Int} (hs:x∈seen) (hy:tgY d v x=true) {T:Int} (hT:T=tgZ d v x):TgI d v seen (λz=>left z&&!z.sameKey (.int .i64 x)) (Do.put (.int .i64 T) (.map [])):=by
  refine ⟨h.map.put _ _,λy=>?_⟩;by_cases e:y=T
  · subst e;rw [Maps.has_put_same h.map (show WideAt.IsKeyLit (.int .i64 y) from trivial)];exact ⟨λ_=>⟨x,hs,by simp [Lit.sameKey],hy,hT⟩,λ_=>rfl⟩
  · rw [Maps.has_put_other (λh4=>e (by injection h4)),h.mem y];constructor
    · rintro ⟨a,h1,h2,h3,h4⟩;exact ⟨a,h1,by rw [h2];rfl,h3,h4⟩
    · rintro ⟨a,h1,h2,h3,h4⟩;refine ⟨a,h1,?_,h3,h4⟩;have hx:a≠x:=λe2=>e (by rw [h4,e2,hT]);simpa [Lit.sameKey,hx] using h2
set_option maxHeartbeats 16000000
theorem oPz (b n:Nat) (d:Nat->Bool) (v:Nat->UInt8) (S:List Int) (p:aB) (vs:Value) (w:World) (hT:Spc w) (hi:eO w b d v n) (hS:SlR oO w p vs S) (hl:S.length<=100000) (hf:∀a∈S,cN a):
    Calls Tryz.prog 20 #[.pointer (some ⟨b,0,none⟩),vs] w λe w'=>(∃(v':Value) (L:List Int),e=.returned v'/\Own oO w' w.heap.size 3 NoB v' (L.mergeSort (λx y=>decide (x<=y)))/\L.Nodup/\(∀y,y∈L↔∃a,Rch (itB d v) (nxB d v) S a/\tgY d v a=true/\y=tgZ d v a))/\RowKit.Below w.heap.size w w':=by
  have HW:=aA (λW (hb:RowKit.Below w.heap.size w W)=>oQm b n d v S p vs W (hT.below hb) (hi.below hb hi.lt) (hS.below hb) hl hf);have HIG:=aA (λW (hb:RowKit.Below w.heap.size w W) a=>oMo b n a d v W (hi.below hb hi.lt));have HT:=aA (λW (hb:RowKit.Below w.heap.size w W)=>hT.below hb);obtain ⟨sa,sc,rfl,_,_,_⟩:=hS.int;clear hT hi hS hl hf;have hmm:=@run_makeMap Tryz.prog;go_enter Tryz.func20,Tryz.ntmps20;go_upto_region 2 with fail;obtain ⟨W1,hW1⟩:∃W:World,W=w.alloc (.map #[] 0):=⟨_,rfl⟩;have HB1:Hid (RowKit.Below w.heap.size w W1):=aA (by rw [hW1];exact (zY _ w).alloc (zI _) _);have HO1:Hid (W1.ownsMap Tryz.prog 3 rAn w.heap.size 0 (.map [])):=aA (by rw [hW1];exact World.ownsMap_made w _ _ rAn);have HZ1:Hid (W1.heap.size=w.heap.size+1):=aA (by rw [hW1,zW]);clear hmm;rw [<-hW1];clear hW1
  go_wp2_with (first
    | (go_at_call 42;(with_reducible refine (HW.out _ HB1.out).mono ?_);rintro e w2 ⟨⟨mb,D,seen,rfl,hmb,hm,hr,hv⟩,hb2⟩;have HMB:=aA hmb;have HM:=aA hm;have HR:=aA hr;have HV:=aA hv;have HB12:=aA hb2;have HB2:=aA (HB1.out.trans (hb2.mono HB1.out.size));have HO2:Hid (w2.ownsMap Tryz.prog 3 rAn w.heap.size 0 (.map [])):=aA (oQb HO1.out hb2 HO1.out.lt);have HSL:Hid (seen.length<=65536):=aA (oJi 65536 hm.nd (λa ha=>by have:=oLm ((hr a).1 ha).here;omega));clear hmb hm hr hv hb2 HW HO1)
    | (at_range;refine wpList_range_own _ rfl _ 76 rfl 3 32 oQq Tryz.underlying76 rIv mb seen.length D rfl HM.out.own ?_;intro w3 hrg3 hg3 hs3)
    | go_in)
  go_frame;have HX:=aA hrg3;have HZ3:=aA hs3;have HB3:Hid (RowKit.Below w.heap.size w w3):=aA (HB2.out.grown hg3 HB2.out.size (λj hj=>by cases hj));have HO3:=aA (HO2.out.kept hg3 (by simp));have HK3:Hid (aS (λk=>W1.heap.size<=k/\k<w2.heap.size) w2 w3):=aA (λk hk=>hg3.block k hk.2 (by simp));have HSZ:Hid (Maps.size D=seen.length):=aA HM.out.size;clear hrg3 hg3 hs3;go_loopw [6,7,8,9,10,11] (λ_ _ _ _ _ _ wr=>∃(m cnt:Nat) (left:Lit->Bool) (Do:DataW Unit),wr.ranges Tryz.prog 3 rIv mb w2.heap.size seen.length D left cnt/\wr.ownsMap Tryz.prog 3 rAn w.heap.size m Do/\m+cnt<=seen.length/\TgI d v seen left Do/\aS (λk=>W1.heap.size<=k/\k<w2.heap.size) w2 wr/\RowKit.Below w.heap.size w wr)
    (λ_ _ _ _ _ _ wr=>wr.rangeLeft mb w2.heap.size)
  case atStart=>exact ⟨0,_,_,_,HX.out,HO3.out,by have:=HSZ.out;omega,⟨⟨_,rfl⟩,λy=>⟨λh=>(by simp [Maps.has] at h),λ⟨a,h1,h2,_⟩=>(by rw [(HM.out.mem a).1 h1] at h2;cases h2)⟩⟩,HK3.out,HB3.out⟩
  case round=>
    obtain ⟨m,cnt,left,Do,hrg,hown,hmc,htg,hkp,hb⟩:=hrel;have HRG:=aA hrg;have HOW:=aA hown;have HMC:=aA hmc;have HTG:=aA htg;have HKP:=aA hkp;have HB:=aA hb;clear hrg hown hmc htg hkp hb
    go_wp2_with (first
      | (at_next;refine oPt _ rfl _ rfl mb w2.heap.size seen.length D left cnt rfl HRG.out ?_ ?_)
      | go_in)
    · intro hl0;have HEND:Hid (∀y,y∈intKeys Do↔∃a,Rch (itB d v) (nxB d v) S a/\tgY d v a=true/\y=tgZ d v a):=aA (λy=>by
        rw [(oPs HOW.out).2.1,HTG.out.mem];constructor
        · rintro ⟨a,h1,_,h3,h4⟩;exact ⟨a,(HR.out a).1 h1,h3,h4⟩
        · rintro ⟨a,h1,h3,h4⟩;exact ⟨a,(HR.out a).2 h1,hl0 _,h3,h4⟩)
      have HML:Hid (m<=65536):=aA (by have:=HMC.out;have:=HSL.out;omega);clear hl0
      go_wp2_with (first
        | (go_at_call 50;refine (oQh _ _).mono ?_;rintro e w5 ⟨rfl,rfl⟩)
        | (go_at_call 40;refine (oQe w.heap.size m Do wr HOW.out HML.out).mono ?_;rintro e w6 ⟨⟨v6,rfl,ho⟩,hb6⟩;have HO6:=aA ho;have HB6:Hid (RowKit.Below w.heap.size w w6):=aA ((HB.out.alloc HB.out.size _).trans (hb6.mono HB.out.size));clear ho hb6)
        | go_in)
      go_ret;exact ⟨⟨_,intKeys Do,rfl,HO6.out.base HB.out.size,(oPs HOW.out).1,HEND.out⟩,HB6.out⟩
    · intro x k ra rn rc s va vn vc vb w4 cnt4 hvb hlk hat hrg4 hlt hgr hsz hen;obtain ⟨al,rfl⟩:=hvb;have HXS:Hid (x∈seen):=aA ((HM.out.mem x).2 (has_true_of_atKey hat));obtain ⟨T,J,hJ,hY,hC⟩:=oQp d v w2 _ D x (HV.out x HXS.out) hat;have hZ2:w.heap.size<W1.heap.size/\W1.heap.size<=mb/\mb<w2.heap.size/\W1.heap.size<=w2.heap.size/\w2.heap.size<wr.heap.size:=⟨by have:=HZ1.out;omega,HMB.out,HM.out.own.lt,HB12.out.size,HRG.out.lt⟩;obtain ⟨X,hX⟩:∃X:World,X=w4.alloc (.cells #[.int .i64 k,.slice ra rn rc,.string s,.slice va vn vc,.bool al] 32):=⟨_,rfl⟩;have HBX:Hid (RowKit.Below w.heap.size w X):=aA (by have h1:=HB.out.grown hgr HB.out.size (λj hj=>by injection hj with hj;omega);rw [hX];exact h1.alloc h1.size _);have HRX:=aA (hrg4.alloc (.cells #[.int .i64 k,.slice ra rn rc,.string s,.slice va vn vc,.bool al] 32));have HOX:=aA ((HOW.out.kept hgr (λe=>by injection e with e;omega)).alloc (.cells #[.int .i64 k,.slice ra rn rc,.string s,.slice va vn vc,.bool al] 32));have HKX:Hid (aS (λk=>W1.heap.size<=k/\k<w2.heap.size) w2 X):=aA (by rw [hX];exact (HKP.out.trans (aS.grown hgr (λj hj=>⟨by omega,λe=>by injection e with e;omega⟩))).trans (aS.alloc (λj hj=>by omega) _));have HIX:Hid (Blk X wr.heap.size 32 #[.int .i64 k,.slice ra rn rc,.string s,.slice va vn vc,.bool al]):=aA (by rw [hX,<-hsz];exact Blk.new _ _ _);have HXZ:Hid (w4.heap.size<X.heap.size/\wr.heap.size<=X.heap.size):=aA (by rw [hX,zW];omega);have HZ2:=aA hZ2;have HLK:=aA hlk;have HLT:=aA hlt;have HJ:=aA hJ;have HY:=aA hY;have HC:=aA (hC X (HT.out X HBX.out) HKX.out);rw [<-hX] at HRX HOX;clear hat hrg4 hlt hgr hJ hY hC hlk hZ2;go_upto_region 5 with fail;rw [<-hX];clear hX hsz hen;obtain ⟨⟨d0,d1,d2,d3,d4⟩,_⟩:=HIX.out.five;have HAF:=aA (λw5 (hb5:RowKit.Below X.heap.size X w5)=>(⟨oQa HRX.out hb5 (by have:=HXZ.out;have:=HZ2.out;omega) (by have:=HXZ.out;have:=HZ2.out;omega),oQb HOX.out hb5 (by have:=HXZ.out;have:=HZ2.out;omega),HKX.out.trans (aS.of_below hb5 (λj hj=>by have:=HXZ.out;have:=HZ2.out;omega)),HBX.out.trans (hb5.mono HBX.out.size),(HIX.out.below hb5 HIX.out.lt).five.1⟩:_/\_/\_/\_/\_));cases J
      · go_wp2_with (first
          | (go_at_call 48;(with_reducible refine HC.out.mono ?_);rintro e w5 ⟨rfl,hb5⟩;have HA5:=aA (HAF.out _ hb5);clear hb5 d0 d1 d2 d3 d4)
          | go_in)
        go_roundw;case rel=>exact ⟨m,cnt4,_,Do,HA5.out.1,HA5.out.2.1,by have:=HMC.out;have:=HLT.out;omega,HTG.out.skip (by rw [HY.out];simp),HA5.out.2.2.1,HA5.out.2.2.2.1⟩
        case measure=>rw [HA5.out.1.left_eq,HRG.out.left_eq];exact HLT.out
      · have HFT:Hid (T=tgZ d v x/\cN T/\m<=1000000):=aA ⟨HJ.out rfl,by have h1:=oNz x (oPi (bys d v x 4));rw [HJ.out rfl];unfold tgZ;show -9223372036854775808<=_/\_<=9223372036854775807;omega,by have:=HMC.out;have:=HSL.out;omega⟩
        go_wp2_with (first
          | (go_at_call 48;(with_reducible refine HC.out.mono ?_);rintro e w5 ⟨rfl,hb5⟩;have HA5:=aA (HAF.out _ hb5);clear hb5 d0 d1 d2 d3 d4;obtain ⟨d0,d1,d2,d3,d4⟩:=HA5.out.2.2.2.2;have HIC:=aA (HIG.out w5 HA5.out.2.2.2.1 T))
          | (go_at_call 49;(with_reducible refine HIC.out.mono ?_);rintro e w6 ⟨rfl,rfl⟩)
          | (at_mapUpdate;refine oPw _ rfl _ _ _ rfl w.heap.size m Do rfl HA5.out.2.1 HFT.out.2.2 T rfl HFT.out.2.1 _ rfl ?_;intro w6 ho6 hg6;go_frame)
          | go_in)
        · have HG6:=aA hg6;have HP6:=aA ho6;have HY2:Hid (tgY d v x=true):=aA (by rw [HY.out,show decide (k=1)=true from by simpa using (by assumption:(k==1)=true)];assumption);have HZ6:Hid (some mb≠some w.heap.size/\some w2.heap.size≠some w.heap.size):=aA ⟨λe=>(by injection e with e;have:=HZ2.out;omega),λe=>(by injection e with e;have:=HZ2.out;omega)⟩;clear hg6 ho6;go_roundw;case rel=>exact ⟨m+1,cnt4,_,_,HA5.out.1.kept HG6.out HZ6.out.1 HZ6.out.2,HP6.out,by have:=HMC.out;have:=HLT.out;omega,HTG.out.put HXS.out HY2.out HFT.out.1,HA5.out.2.2.1.trans (aS.grown HG6.out (λj hj=>⟨by have h1:=HA5.out.1.lt;omega,λe=>by injection e with e;have:=HZ2.out;omega⟩)),HA5.out.2.2.2.1.grown HG6.out HA5.out.2.2.2.1.size (λj hj=>by injection hj with hj;omega)⟩
          case measure=>rw [(HA5.out.1.kept HG6.out HZ6.out.1 HZ6.out.2).left_eq,HRG.out.left_eq];exact HLT.out
        · have HY2:Hid (tgY d v x=false):=aA (by rw [HY.out,(by assumption:(gB d v T).isSome=false)];simp);go_roundw;case rel=>exact ⟨m,cnt4,_,Do,HA5.out.1,HA5.out.2.1,by have:=HMC.out;have:=HLT.out;omega,HTG.out.skip HY2.out,HA5.out.2.2.1,HA5.out.2.2.2.1⟩
          case measure=>rw [HA5.out.1.left_eq,HRG.out.left_eq];exact HLT.out
        · have HY2:Hid (tgY d v x=false):=aA (by rw [HY.out,show decide (k=1)=false from by simpa using (by assumption:(k==1)=false)];rfl);go_roundw;case rel=>exact ⟨m,cnt4,_,Do,HA5.out.1,HA5.out.2.1,by have:=HMC.out;have:=HLT.out;omega,HTG.out.skip HY2.out,HA5.out.2.2.1,HA5.out.2.2.2.1⟩
          case measure=>rw [HA5.out.1.left_eq,HRG.out.left_eq];exact HLT.out
end Go.Proofs.YtpigbggoiipmhaaGreatDoor
namespace Go.Proofs.YtpigbggoiipmhaaGreatDoor
set_option maxHeartbeats 16000000
set_option maxRecDepth 100000
open Go.RowKit Go.Shelf Go.Sort
def ixV (v:Value):Nat:=match v with
  | .int _ z=>z.toNat
  | _=>0
structure oMe (w:World) (B:Nat) (s t:Value) (l m:List Int):Prop where
  o:Own oO w B 3 NoB s l
  u:Own oO w B 3 NoB t m
  ne:∀j,s.ownBlock=some j->t.ownBlock≠some j
theorem oMe.next {w w':World} {B:Nat} {s t:Value} {l m:List Int} (h:oMe w B s t l m) (hb:Below w.heap.size w w'):oMe w' B s t l m:=⟨h.o.stay hb,h.u.stay hb,h.ne⟩
theorem oMe.app1 {w w':World} {B:Nat} {q:aB} {s t s':Value} {l m zs:List Int} (h:oMe w B s t l m) (ha:oS oO w B 3 q s zs s' w'):oMe w' B s' t zs m:=by
  refine ⟨ha.1.flat NoB,h.u.keep (aS.grown ha.2.1 (λk hk=>?_)),λj hj e=>?_⟩
  · rcases hk with hk|hk
    · exact hk.elim
    · exact ⟨(h.u.lt k hk).2,λe=>h.ne k e.symm hk⟩
  · rcases ha.2.2 with h2|h2
    · exact h.ne j (h2 ▸ hj) e
    · rw [h2] at hj;injection hj with hj;have:=(h.u.lt j e).2;omega
theorem oMe.app2 {w w':World} {B:Nat} {q:aB} {s t t':Value} {l m zs:List Int} (h:oMe w B s t l m) (ha:oS oO w B 3 q t zs t' w'):oMe w' B s t' l zs:=by
  refine ⟨h.o.keep (aS.grown ha.2.1 (λk hk=>?_)),ha.1.flat NoB,λj hj e=>?_⟩
  · rcases hk with hk|hk
    · exact hk.elim
    · exact ⟨(h.o.lt k hk).2,λe=>h.ne k hk e.symm⟩
  · rcases ha.2.2 with h2|h2
    · exact h.ne j hj (h2 ▸ e)
    · rw [h2] at e;injection e with e;have:=(h.o.lt j hj).2;omega
theorem oLp (p:aB) (cv:Value) (d:Nat->Bool) (v:Nat->UInt8) (w:World) (hc:SlR cH w p cv (eU d v)) (x:Int) (hx:cN x):∃(K:Int) (M:Nat) (O:ByteArray) (A:List Opd) (AL IT:Bool) (NX:List Int),IT=itB d v x/\NX=nxB d v x/\M<=4/\
    (∀W,RowKit.Below w.heap.size w W->Calls Tryz.prog 44 #[cv,.int .i64 x] W λe w'=>(∃ra rc va vc,e=.returned (.tuple #[.agg #[.int .i64 K,.slice ra M rc,.string O,.slice va A.length vc,.bool AL],.bool IT])/\SlR aM w' (λk=>W.heap.size<=k) (.slice va A.length vc) A)/\RowKit.Below W.heap.size W w')/\
    (∀q ra rc va vc W,SlR aM W q (.slice va A.length vc) A->Calls Tryz.prog 46 #[.int .i64 x,.agg #[.int .i64 K,.slice ra M rc,.string O,.slice va A.length vc,.bool AL]] W λe w'=>(∃v,e=.returned v/\Own oO w' W.heap.size 3 NoB v NX)/\RowKit.Below W.heap.size W w'):=by
  have h4:=oJz d v 4 x;have hm:((bys d v x 4).take (itQ (bys d v x 4)).n).length<=4:=by rw [JX];omega
  refine ⟨(itQ (bys d v x 4)).k,((bys d v x 4).take (itQ (bys d v x 4)).n).length,⟨(itQ (bys d v x 4)).op.toArray⟩,(itQ (bys d v x 4)).args,(itQ (bys d v x 4)).al,itB d v x,nxB d v x,rfl,rfl,hm,λW hb=>?_,λq ra rc va vc W h=>?_⟩
  · refine (oLy p cv d v x hx W (hc.below hb)).mono ?_;rintro e w' ⟨⟨x4,he,ra,rc,va,vc,rfl,h1,h2⟩,hb4⟩;exact ⟨⟨ra,rc,va,vc,he,h2⟩,hb4⟩
  · exact oMq x (itQ (bys d v x 4)).k _ (oPi (bys d v x 4)) (oKs _) (by omega) ra rc va vc (itQ (bys d v x 4)).al q W h
theorem oLu (p:aB) (cv:Value) (d:Nat->Bool) (v:Nat->UInt8) (S:List Int) (q:aB) (vs:Value) (w:World) (hc:SlR cH w p cv (eU d v)) (hS:SlR oO w q vs S) (hl:S.length<=1000) (hf:∀a∈S,cN a):
    Calls Tryz.prog 19 #[cv,vs] w λe w'=>(∃(v':Value) (L out:List Int),e=.returned v'/\Own oO w' w.heap.size 3 NoB v' L/\oKz out out.length L/\(∀x,x∈out↔Rch (itB d v) (nxB d v) S x))/\RowKit.Below w.heap.size w w':=by
  have HPK:=aA (λx hx=>oLp p cv d v w hc x hx);have HS:=aA hS;have HL:=aA hl;have HF:=aA hf;obtain ⟨sa,sc,rfl,_,_,_⟩:=hS.int;obtain ⟨ca,cn,cc,rfl⟩:∃a n c,cv=.slice a n c:=by obtain ⟨a,c,e,_⟩:=hc;exact ⟨a,_,c,e⟩
  clear hc hS hl hf;have HMD:Hid (Own oO (w.alloc (.cells #[] 3)) w.heap.size 3 NoB (.slice (some ⟨w.heap.size,0,none⟩) 0 0) []):=aA (Own.made _ _ _);have HS1:=aA ((HS.out.old.alloc (.cells #[] 3)).mono (q:=λk=>k<w.heap.size) (λk hk=>hk.2));have HN1:Hid ((([]:List Int).length+S.length)*8<=140737488355328/\([]:List Int).length+S.length<=9223372036854775807/\w.heap.size<=(w.alloc (.cells #[] 3)).heap.size):=aA (by have:=HL.out;rw [zW];simp;omega);have HQ1:Hid (∀k,k<w.heap.size->some k≠Value.ownBlock (.slice (some ⟨w.heap.size,0,none⟩) 0 0)):=aA (λk hk e=>by simp [Value.ownBlock] at e;omega);go_enter Tryz.func19,Tryz.ntmps19;go_wp2_with (at_builtin;refine dJ _ rfl (.tmp 10) (.tmp 11) 38 rfl w.heap.size 3 8 oJg NoB (λk=>k<w.heap.size) _ _ [] S rfl rfl HMD.out HS1.out (λ_ h=>h.elim) HQ1.out HN1.out.1 HN1.out.2.1 HN1.out.2.2 ?_;intro s6 w1 hap;rw [z0T] at hap;have HB1:Hid (RowKit.Below w.heap.size w w1):=aA (((zY _ w).alloc (zI _) _).grown hap.2.1 HN1.out.2.2 (λj hj=>by injection hj with hj;exact Nat.le_of_eq hj));have HT1:Hid (oMe w1 w.heap.size (.slice none 0 0) s6 [] S):=aA ⟨Own.nil _ _ _ _ _,hap.1.flat NoB,λj hj=>by cases hj⟩;obtain ⟨wa,wc,rfl⟩:=hap.1.form;clear hap);go_loopw [5,6,7,9] (λs5 s6 s7 _ wr=>∃(k:Nat) (out wait:List Int),k<=wait.length/\s7=.int .i64 k/\oMe wr w.heap.size s5 s6 out wait/\oKw (itB d v) (nxB d v) S (wait.drop k) out/\(∀z∈wait,cN z)/\wait.length<=S.length+2*out.length/\(∀z∈out,0<=z/\z<=65535)/\RowKit.Below w.heap.size w wr)
    (λs5 s6 s7 _ _=>3*(65537-oNc s5)+(oNc s6-ixV s7))
  case atStart=>exact ⟨0,[],S,YD _,rfl,HT1.out,oKw.start _,HF.out,by omega,λz h=>(by cases h),HB1.out⟩
  case round=>
    obtain ⟨k,out,wait,hk,rfl,ht,hr,hfz,oAf,hsp,hb⟩:=hrel;have HT:=aA ht;have HR:=aA hr;have HFZ:=aA hfz;have HLN:=aA oAf;have HSP:=aA hsp;have HB:=aA hb;obtain ⟨oa,oc,rfl⟩:=ht.o.form;obtain ⟨wa2,wc2,rfl⟩:=ht.u.form;clear ht hr hfz oAf hsp hb;have HCS:Hid (out.length<=65536):=aA (oJi 65536 HR.out.nd (λa ha=>by have:=HSP.out a ha;omega));have HWL:Hid (wait.length<=1000000):=aA (by have:=HCS.out;have:=HLN.out;have:=HL.out;omega);have hwl:(wait.length:Int)<=1000000:=(by have:=HWL.out;omega);by_cases hlt:k<wait.length
    · obtain ⟨a2,c2,e2,_,_,hg⟩:=(HT.out.u.slR (q:=λ_=>True) (λ_ h=>h.elim) (λ_ _=>trivial)).int;injection e2 with e2 _ e4;obtain ⟨b1,o1,e5,_,hcw⟩:=hg k wait[k] (zL hlt);subst e2;subst e5;clear e4 hg;have HX:Hid (cN wait[k]):=aA (HFZ.out _ (z0J hlt));have HPY:Hid (∀y,y∈wait.drop k↔y=wait[k]\/y∈wait.drop (k+1)):=aA (λy=>by rw [ZX hlt,ZR]);generalize wait[k]=x at *;obtain ⟨K,M,O,A,AL,IT,NX,hIT,hNX,hM4,hIT2,hNX2⟩:=HPK.out x HX.out;have HIT:=aA hIT;have HNE:=aA hNX;have HIC:=aA hIT2;have HNC:=aA hNX2;clear hIT hNX hM4 hIT2 hNX2 HPK;go_upto_region 7 with (go_at_call 44;(with_reducible refine (HIC.out _ HB.out).mono ?_);rintro e w4 ⟨⟨ra,rc,va,vc,rfl,hsl⟩,hb4⟩;have HBX:=hb4.alloc hb4.size (.cells #[.int .i64 K,.slice ra M rc,.string O,.slice va A.length vc,.bool AL] 32));obtain ⟨X,hX⟩:∃X:World,X=w4.alloc (.cells #[.int .i64 K,.slice ra M rc,.string O,.slice va A.length vc,.bool AL] 32):=⟨_,rfl⟩;rw [<-hX] at HBX ⊢;have HT4:=aA (HT.out.next HBX);have HB4:=aA (HB.out.trans (HBX.mono HB.out.size));have hcw4:=(HBX.cell (QI _ _ hcw)).trans hcw;have HSL:=aA (hsl.alloc (.cells #[.int .i64 K,.slice ra M rc,.string O,.slice va A.length vc,.bool AL] 32)).old;have HIX:Hid (Blk X w4.heap.size 32 #[.int .i64 K,.slice ra M rc,.string O,.slice va A.length vc,.bool AL]):=aA (by rw [hX];exact Blk.new _ _ _);have HZ4:Hid (wr.heap.size<=w4.heap.size):=aA hb4.size;rw [<-hX] at HSL;clear HBX hX hb4 hsl hcw;cases IT
      · have HR2:=aA (HR.out.skip HPY.out (.inr HIT.out.symm));go_wp2;go_roundw;case rel=>exact ⟨k+1,out,wait,by omega,by go_num,HT4.out,HR2.out,HFZ.out,HLN.out,HSP.out,HB4.out⟩
        case measure=>simp [ixV,oNc];omega
      · have HIN:=aA (λq v W h=>oNl q v out x W h);have harm:=HT4.out.o.slR (q:=λ_=>True) (λ_ h=>h.elim) (λ_ _=>trivial);by_cases hs:x∈out
        · have HR2:=aA (HR.out.skip HPY.out (.inl hs));rw [show out.contains x=true from List.contains_iff_mem.2 hs] at HIN;go_wp2_with (go_at_call 45;(with_reducible refine (HIN.out _ _ _ harm).mono ?_);rintro e w5 ⟨rfl,hw5⟩;have hw5:=hw5.symm;subst hw5);go_roundw;case rel=>exact ⟨k+1,out,wait,by omega,by go_num,HT4.out,HR2.out,HFZ.out,HLN.out,HSP.out,HB4.out⟩
          case measure=>simp [ixV,oNc];omega
        · have hcn:out.contains x=false:=by
            cases e:out.contains x
            · rfl
            · exact absurd (List.contains_iff_mem.1 e) hs
          rw [hcn] at HIN;have HNS:=aA hs;clear hs hcn;go_upto_region 8 with (go_at_call 45;(with_reducible refine (HIN.out _ _ _ harm).mono ?_);rintro e w5 ⟨rfl,hw5⟩;have hw5:=hw5.symm;subst hw5);have HNL:Hid (NX.length<=2/\∀z∈NX,cN z):=aA (by rw [HNE.out];exact oMn _ _ _ _);have HR6:=aA (HR.out.add (w2:=(wait++NX).drop (k+1)) (seen2:=out++[x]) HPY.out HNS.out HIT.out.symm (λy=>by rw [List.drop_append_of_le_length (by omega),HNE.out,z2D]) (λy=>by rw [z2D,XJ];exact Or.comm) (List.nodup_append.2 ⟨HR.out.nd,by simp,λa ha b hb=>by simp at hb;subst hb;exact λe=>HNS.out (e ▸ ha)⟩));have HF6:Hid (∀z∈wait++NX,cN z):=aA (λz hz=>by
            rcases z2D.1 hz with hz|hz
            · exact HFZ.out z hz
            · exact HNL.out.2 z hz)
          have HSP6:Hid (∀z∈out++[x],0<=z/\z<=65535):=aA (λz hz=>by
            rcases z2D.1 hz with hz|hz
            · exact HSP.out z hz
            · obtain rfl:=XJ.1 hz;exact oLm HIT.out.symm)
          have HCS6:Hid (out.length+1<=65536):=aA (by have:=oJi 65536 HR6.out.nd (λa ha=>by have:=HSP6.out a ha;omega);simpa using this);have HTA:=aA (HT4.out.next ((zY _ _).alloc (zI _) (.cells #[.int .i64 x] 3)));have HLA:=aA (GR (R:=oO) (w:=X) (p:=NoB) (cs:=[.int .i64 x]) (x:=x) rfl 3);have HBA:=aA (HB4.out.alloc HB4.out.size (.cells #[.int .i64 x] 3));have HQA:Hid (∀j,NoB j\/j=X.heap.size->some j≠Value.ownBlock (.slice oa out.length oc)):=aA (λj hj e=>by
            rcases hj with hj|hj
            · exact hj.elim
            · have:=(HT4.out.o.lt j e.symm).2;omega)
          have HNA:Hid ((out.length+[x].length)*8<=140737488355328/\out.length+[x].length<=9223372036854775807):=aA (by have:=HCS.out;simp;omega);have HOR:Hid (∀j,wr.heap.size<=j->some j≠Value.ownBlock (.slice oa out.length oc)):=aA (λj hj e=>by have:=(HT.out.o.lt j e.symm).2;omega);go_upto_region 9 with (at_builtin;refine dJ _ rfl (.tmp 38) (.tmp 43) 38 rfl w.heap.size 3 8 oJg NoB (λj=>NoB j\/j=X.heap.size) (.slice oa out.length oc) (.slice (some ⟨X.heap.size,0,none⟩) 1 1) out [x] rfl rfl HTA.out.o HLA.out (λ_ h=>h.elim) HQA.out HNA.out.1 HNA.out.2 HBA.out.size ?_;intro s6 w6 hap;have HT6:=aA (HTA.out.app1 hap);have HB6:=aA (HBA.out.grown hap.2.1 HBA.out.size (λj hj=>(HT.out.o.lt j hj).1));have HI6:=aA ((HIX.out.alloc (.cells #[.int .i64 x] 3)).grown hap.2.1 (HOR.out _ HZ4.out));have HS6:=aA ((HSL.out.alloc (.cells #[.int .i64 x] 3)).old.keep (aS.grown hap.2.1 (λj hj=>⟨hj.2,HOR.out j hj.1.1⟩)));have hcw6:=(z0E (a:=⟨b1,o1+k,none⟩) (hap.2.1.block b1 (vB (QI _ _ hcw4) (by rw [zW];exact jQ _)) (λe=>HT.out.ne b1 e.symm rfl))).trans (((zY _ X).alloc (zI _) (.cells #[.int .i64 x] 3)).cell (QI _ _ hcw4) |>.trans hcw4);obtain ⟨oa6,oc6,e6⟩:=hap.1.form;rw [show (out++[x]).length=out.length+1 by simp] at e6;subst e6;clear hap);clear hcw4;obtain ⟨⟨d0,d1,d2,d3,d4⟩,_⟩:=HI6.out.five;have HNB:Hid ((wait.length+NX.length)*8<=140737488355328/\wait.length+NX.length<=9223372036854775807):=aA (by have:=HWL.out;have:=HNL.out.1;omega)
          go_region_law ((first
            | (refine eK (o:=⟨some 52,_,_,_,_,_⟩) _ (by rfl) (.tmp 45) (.tmp 51) 38 (by rfl) w.heap.size 3 8 oJg NoB (λj=>w6.heap.size<=j) (.slice (some ⟨b1,o1,none⟩) wait.length wc2) (.slice na NX.length nc) wait NX (by rfl) (by rfl) HT7.out.u HNO.out (λ_ h=>h.elim) HQ7.out HNB.out.1 HNB.out.2 HB7.out.size ?_;intro s8 w8 hap;have HT8:=aA (HT7.out.app2 hap);have HB8:=aA (HB7.out.grown hap.2.1 HB7.out.size (λj hj=>(HT7.out.u.lt j hj).1));obtain ⟨wa8,wc8,e8⟩:=hap.1.form;rw [YL] at e8;subst e8;clear hap)
            | (go_simp;first|(go_at_call 46;(with_reducible refine (HNC.out _ ra rc va vc _ HS6.out).mono ?_);rintro e w7 ⟨⟨nv,rfl,hno⟩,hb7⟩;obtain ⟨na,nc,rfl⟩:=hno.form;have hb67:RowKit.Below w6.heap.size w6 w7:=(zY _ w6).trans hb7;have HT7:=aA (HT6.out.next hb67);have HB7:=aA (HB6.out.trans (hb67.mono HB6.out.size));have HNO:=aA (hno.slR (q:=λj=>w6.heap.size<=j) (λ_ h=>h.elim) (λ_ h=>h));have HQ7:Hid (∀j,w6.heap.size<=j->some j≠Value.ownBlock (.slice (some ⟨b1,o1,none⟩) wait.length wc2)):=aA (λj hj e=>by have:=(HT6.out.u.lt j e.symm).2;omega);clear hno hb7 hb67)|(go_at_call 46;(with_reducible refine (HNC.out _ ra rc va vc _ HS6.out.drew).mono ?_);rintro e w7 ⟨⟨nv,rfl,hno⟩,hb7⟩;obtain ⟨na,nc,rfl⟩:=hno.form;have hb67:RowKit.Below w6.heap.size w6 w7:=(zY _ w6).drew.trans hb7;have HT7:=aA (HT6.out.next hb67);have HB7:=aA (HB6.out.trans (hb67.mono HB6.out.size));have HNO:=aA (hno.slR (q:=λj=>w6.heap.size<=j) (λ_ h=>h.elim) (λ_ h=>h));have HQ7:Hid (∀j,w6.heap.size<=j->some j≠Value.ownBlock (.slice (some ⟨b1,o1,none⟩) wait.length wc2)):=aA (λj hj e=>by have:=(HT6.out.u.lt j e.symm).2;omega);clear hno hb7 hb67))))
          all_goals
            go_wp2;go_roundw;case rel=>exact ⟨k+1,out++[x],wait++NX,by rw [YL];omega,by go_num,HT8.out,HR6.out,HF6.out,by have:=HLN.out;have:=HNL.out.1;simp;omega,HSP6.out,HB8.out⟩
            case measure=>have:=HNL.out.1;have:=HCS6.out;simp [ixV,oNc];omega
    · obtain rfl:k=wait.length:=(by omega);have HRD:=HR.out;rw [List.drop_length] at HRD;have HSO:=aA (oKv (λ_=>True) _ out wr (HT.out.o.slR (λ_ h=>h.elim) (λ_ _=>trivial)) (by have:=HCS.out;omega));go_wp2_with (go_at_call 47;(with_reducible refine HSO.out.mono ?_);rintro e w9 ⟨⟨v9,L9,rfl,ho9,ha9⟩,hb9⟩;have HO9:=aA ho9;have HA9:=aA ha9;have HB9:=aA (HB.out.trans (hb9.mono HB.out.size));clear ho9 ha9 hb9);go_ret;exact ⟨⟨_,L9,out,rfl,HO9.out.base HB.out.size,HA9.out,λy=>oKw.done HRD y⟩,HB9.out⟩
theorem oQl (p:aB) (cv:Value) (d:Nat->Bool) (v:Nat->UInt8) (w:World) (hc:SlR cH w p cv (eU d v)) (x:Int) (hx:cN x):∃(K:Int) (M:Nat) (O:ByteArray) (A:List Opd) (AL IT:Bool) (T:Int),T=tgZ d v x/\tgY d v x=(decide (K=1)&&(gB d v T).isSome)/\
    (∀W,RowKit.Below w.heap.size w W->Calls Tryz.prog 44 #[cv,.int .i64 x] W λe w'=>(∃ra rc va vc,e=.returned (.tuple #[.agg #[.int .i64 K,.slice ra M rc,.string O,.slice va A.length vc,.bool AL],.bool IT])/\SlR aM w' (λk=>W.heap.size<=k) (.slice va A.length vc) A)/\RowKit.Below W.heap.size W w')/\
    (∀q va vc W,SlR aM W q (.slice va A.length vc) A->Calls Tryz.prog 51 #[.int .i64 x,.agg #[.string O,.slice va A.length vc]] W λe w'=>e=.returned (.int .i64 T)/\RowKit.Below W.heap.size W w'):=by
  refine ⟨(itQ (bys d v x 4)).k,((bys d v x 4).take (itQ (bys d v x 4)).n).length,⟨(itQ (bys d v x 4)).op.toArray⟩,(itQ (bys d v x 4)).args,(itQ (bys d v x 4)).al,itB d v x,tgZ d v x,rfl,rfl,λW hb=>?_,λq va vc W h=>?_⟩
  · refine (oLy p cv d v x hx W (hc.below hb)).mono ?_;rintro e w' ⟨⟨x4,he,ra,rc,va,vc,rfl,h1,h2⟩,hb4⟩;exact ⟨⟨ra,rc,va,vc,he,h2⟩,hb4⟩
  · exact oKt x (oPi (bys d v x 4)) (oKs _) (λo ho=>by have:=oLn _ o ho;omega) q _ W h
theorem oQj {L:List Int} {k:Nat} (hk:k<L.length) (P:Int->Prop):(∃a,a∈L.take (k+1)/\P a)↔(∃a,a∈L.take k/\P a)\/P L[k]:=by
  rw [ZP hk];constructor
  · rintro ⟨a,h1,h2⟩;rcases z2D.1 h1 with h1|h1
    · exact .inl ⟨a,h1,h2⟩
    · obtain rfl:=XJ.1 h1;exact .inr h2
  · rintro (⟨a,h1,h2⟩|h)
    · exact ⟨a,List.mem_append_left _ h1,h2⟩
    · exact ⟨_,List.mem_append_right _ List.mem_cons_self,h⟩
theorem oPx (p:aB) (cv:Value) (d:Nat->Bool) (v:Nat->UInt8) (S:List Int) (q:aB) (vs:Value) (w:World) (hc:SlR cH w p cv (eU d v)) (hS:SlR oO w q vs S) (hl:S.length<=1000) (hf:∀a∈S,cN a):
    Calls Tryz.prog 21 #[cv,vs] w λe w'=>(∃(v':Value) (L out:List Int),e=.returned v'/\Own oO w' w.heap.size 3 NoB v' L/\oKz out out.length L/\(∀y,y∈out↔∃a,Rch (itB d v) (nxB d v) S a/\tgY d v a=true/\y=tgZ d v a))/\RowKit.Below w.heap.size w w':=by
  have HRR:=aA (oLu p cv d v S q vs w hc hS hl hf);have HCL:=aA (λW (hb:RowKit.Below w.heap.size w W)=>hc.below hb);obtain ⟨sa,sc,rfl,_,_,_⟩:=hS.int;obtain ⟨ca,cn,cc,rfl⟩:∃a n c,cv=.slice a n c:=by obtain ⟨a,c,e,_⟩:=hc;exact ⟨a,_,c,e⟩
  clear hc hS hl hf;go_enter Tryz.func21,Tryz.ntmps21;go_upto_region 3 with (go_at_call 19;(with_reducible refine HRR.out.mono ?_);rintro e w1 ⟨⟨v1,L,oKy,rfl,ho,ha,hr⟩,hb1⟩;have HOL:=aA ho;have HB1:=aA hb1;have HASC:=aA ha.asc;have HLR:Hid (∀a,a∈L↔Rch (itB d v) (nxB d v) S a):=aA (λa=>by rw [ha.mem,z0L,hr]);clear ho ha hr hb1);obtain ⟨la,lc,rfl⟩:=HOL.out.form;have HLS:=aA (λW (hb:RowKit.Below w1.heap.size w1 W)=>(HOL.out.slR (q:=λ_=>True) (λ_ h=>h.elim) (λ_ _=>trivial)).below hb);have HSP:Hid (∀a∈L,0<=a/\a<=65535):=aA (λa ha=>oLm ((HLR.out a).1 ha).here);have HLN:Hid (L.length<=65536):=aA (oJi 65536 (HASC.out.imp (fun {a b} h=>Int.ne_of_lt h)) (λa ha=>by have:=HSP.out a ha;omega));have HPK:=aA (λx hx=>oQl p (.slice ca cn cc) d v w1 (HCL.out w1 HB1.out) x hx);have HG2:=aA (λW (hb:RowKit.Below w1.heap.size w1 W) a=>oMg p (.slice ca cn cc) d v a W (HCL.out W (HB1.out.trans (hb.mono HB1.out.size))));have hln:(L.length:Int)<=65536:=by have:=HLN.out;omega
  clear HOL HASC HRR HCL;go_wp2;go_loopw [5,7,8,9,10,11,12] (λs5 s7 _ _ _ _ _ wr=>∃(k:Nat) (outs:List Int),k<=L.length/\s7=.int .i64 k/\Own oO wr w1.heap.size 3 NoB s5 outs/\outs.length<=k/\(∀y,y∈outs↔∃a,a∈L.take k/\tgY d v a=true/\y=tgZ d v a)/\RowKit.Below w1.heap.size w1 wr)
    (λ_ s7 _ _ _ _ _ _=>L.length-ixV s7)
  case atStart=>exact ⟨0,[],YD _,rfl,Own.nil _ _ _ _ _,zI _,λy=>⟨λh=>(by cases h),λ⟨a,h,_⟩=>(by simp at h)⟩,zY _ _⟩
  case round=>
    obtain ⟨k,outs,hk,rfl,ho,hol,hom,hb⟩:=hrel;have HO:=aA ho;have HOM:=aA hom;have HOL:=aA hol;have HB:=aA hb;obtain ⟨oa,oc,rfl⟩:=ho.form;clear ho hom hol hb;by_cases hlt:k<L.length
    · obtain ⟨a2,c2,e2,_,_,hg⟩:=(HLS.out _ HB.out).int;injection e2 with e2 e3 e4;clear e3;obtain ⟨b1,o1,e5,_,hcw⟩:=hg k L[k] (zL hlt);subst e2;subst e5;clear e4 hg;have HXM:Hid (cN L[k]):=aA (by have:=HSP.out _ (z0J hlt);show -9223372036854775808<=_/\_<=9223372036854775807;omega);have HST:=aA (λy=>oQj hlt (λa=>tgY d v a=true/\y=tgZ d v a));generalize L[k]=x at *;obtain ⟨K,M,O,A,AL,IT,T,hT,hY,hI,hC⟩:=HPK.out x HXM.out;have HTE:=aA hT;have HYE:=aA hY;have HIC:=aA hI;have HTC:=aA hC;have HGC:=aA (λW hb=>HG2.out W hb T);clear hT hY hI hC HPK HG2;go_upto_region 7 with (go_at_call 44;(with_reducible refine (HIC.out _ HB.out).mono ?_);rintro e w4 ⟨⟨ra,rc,va,vc,rfl,hsl⟩,hb4⟩;have HBX:=hb4.alloc hb4.size (.cells #[.int .i64 K,.slice ra M rc,.string O,.slice va A.length vc,.bool AL] 32));obtain ⟨X,hX⟩:∃X:World,X=w4.alloc (.cells #[.int .i64 K,.slice ra M rc,.string O,.slice va A.length vc,.bool AL] 32):=⟨_,rfl⟩;rw [<-hX] at HBX ⊢;have hcw4:=(HBX.cell (QI _ _ hcw)).trans hcw;have HSL:=aA (hsl.alloc (.cells #[.int .i64 K,.slice ra M rc,.string O,.slice va A.length vc,.bool AL] 32)).old;have HIX:Hid (Blk X w4.heap.size 32 #[.int .i64 K,.slice ra M rc,.string O,.slice va A.length vc,.bool AL]):=aA (by rw [hX];exact Blk.new _ _ _);have HB4:=aA (HB.out.trans (HBX.mono HB.out.size));have HO4:=aA (HO.out.stay HBX);rw [<-hX] at HSL;clear HBX hX hb4 hsl hcw;obtain ⟨⟨d0,d1,d2,d3,d4⟩,_⟩:=HIX.out.five;by_cases hk1:K=1
      · subst hk1;go_upto_region 8 with fail;have HCF:=aA (λW (hb:RowKit.Below X.heap.size X W)=>(⟨(hb.cell (QI _ _ hcw4)).trans hcw4,(HIX.out.below hb HIX.out.lt).cell 2,(HIX.out.below hb HIX.out.lt).cell 3⟩:_/\_/\_));go_region_held3 (λw'=>w'.cell? ⟨b1,o1+k,none⟩=some (.int .i64 x)/\w'.cell? ⟨w4.heap.size,2,none⟩=some (.string O)/\w'.cell? ⟨w4.heap.size,3,none⟩=some (.slice va A.length vc)) (go_keep)
          (first|(go_at_call 51;(with_reducible refine (HTC.out _ va vc _ HSL.out.drew).mono ?_);rintro e w5 ⟨rfl,hb5⟩;have hbx5:RowKit.Below X.heap.size X w5:=(zY _ X).drew.trans hb5;have HB5:=aA (HB4.out.trans (hbx5.mono HB4.out.size));have HO5:=aA (HO4.out.stay hbx5);clear hb5 hcw4 d0 d1 d2 d3 d4;obtain ⟨hcw4,d2,d3⟩:=HCF.out _ hbx5;clear hbx5))
        by_cases hy:(gB d v T).isSome=true
        · have HY2:Hid (tgY d v x=true):=aA (by rw [HYE.out,hy];rfl);rw [hy] at HGC;go_upto_region 11 with (go_at_call 52;(with_reducible refine (HGC.out w5 HB5.out).mono ?_);rintro e w6 ⟨rfl,rfl⟩);have HTA:=aA (HO5.out.stay ((zY _ _).alloc (zI _) (.cells #[.int .i64 T] 3)));have HLA:=aA (GR (R:=oO) (w:=w5) (p:=NoB) (cs:=[.int .i64 T]) (x:=T) rfl 3);have HBA:=aA (HB5.out.alloc HB5.out.size (.cells #[.int .i64 T] 3));have HQA:Hid (∀j,NoB j\/j=w5.heap.size->some j≠Value.ownBlock (.slice oa outs.length oc)):=aA (λj hj e=>by
            rcases hj with hj|hj
            · exact hj.elim
            · have:=(HO5.out.lt j e.symm).2;omega)
          have HNA:Hid ((outs.length+[T].length)*8<=140737488355328/\outs.length+[T].length<=9223372036854775807):=aA (by have:=HOL.out;simp;omega);go_wp2_with (at_builtin;refine dJ _ rfl (.tmp 48) (.tmp 50) 38 rfl w1.heap.size 3 8 oJg NoB (λj=>NoB j\/j=w5.heap.size) (.slice oa outs.length oc) (.slice (some ⟨w5.heap.size,0,none⟩) 1 1) outs [T] rfl rfl HTA.out HLA.out (λ_ h=>h.elim) HQA.out HNA.out.1 HNA.out.2 HBA.out.size ?_;intro s6 w6 hap;have HO6:Hid (Own oO w6 w1.heap.size 3 NoB s6 (outs++[T])):=aA (hap.1.flat NoB);have HB6:=aA (HBA.out.grown hap.2.1 HBA.out.size (λj hj=>(HO5.out.lt j hj).1));clear hap);go_roundw;case rel=>exact ⟨k+1,outs++[T],by omega,by go_num,HO6.out,by have:=HOL.out;simp;omega,λy=>by rw [HST.out y,<-HOM.out y,HY2.out,z2D,XJ,HTE.out];simp,HB6.out⟩
          case measure=>simp [ixV];omega
        · have hy0:(gB d v T).isSome=false:=(by cases e:(gB d v T).isSome<;>simp_all);have HY2:Hid (tgY d v x=false):=aA (by rw [HYE.out,hy0];simp);rw [hy0] at HGC;clear hy;go_wp2_with (go_at_call 52;(with_reducible refine (HGC.out w5 HB5.out).mono ?_);rintro e w6 ⟨rfl,rfl⟩);go_roundw;case rel=>exact ⟨k+1,outs,by omega,by go_num,HO5.out,by have:=HOL.out;omega,λy=>by rw [HST.out y,<-HOM.out y,HY2.out];simp,HB5.out⟩
          case measure=>simp [ixV];omega
      · have HY2:Hid (tgY d v x=false):=aA (by rw [HYE.out,z0A hk1];rfl);go_wp2;go_roundw;case rel=>exact ⟨k+1,outs,by omega,by go_num,HO4.out,by have:=HOL.out;omega,λy=>by rw [HST.out y,<-HOM.out y,HY2.out];simp,HB4.out⟩
        case measure=>simp [ixV];omega
    · obtain rfl:k=L.length:=(by omega);rw [z0L] at HOM;have HSO:=aA (oKv (λ_=>True) _ outs wr (HO.out.slR (λ_ h=>h.elim) (λ_ _=>trivial)) (by have:=HOL.out;omega));go_wp2_with (go_at_call 47;(with_reducible refine HSO.out.mono ?_);rintro e w9 ⟨⟨v9,L9,rfl,ho9,ha9⟩,hb9⟩;have HO9:=aA ho9;have HA9:=aA ha9;have HB9:=aA (HB1.out.trans ((HB.out.trans (hb9.mono HB.out.size)).mono HB1.out.size));clear ho9 ha9 hb9);go_ret;exact ⟨⟨_,L9,outs,rfl,HO9.out.base (qJ HB1.out.size HB.out.size),HA9.out,λy=>by
        rw [HOM.out y];constructor
        · rintro ⟨a,h1,h2⟩;exact ⟨a,(HLR.out a).1 h1,h2⟩
        · rintro ⟨a,h1,h2⟩;exact ⟨a,(HLR.out a).2 h1,h2⟩⟩,HB9.out⟩
set_option maxHeartbeats 4000000
def oLx (l:List (Int × List UInt8)):Nat:=(l.map λr=>min r.2.length 1000).sum
theorem oMp {l:List (Int × List UInt8)} {k:Nat} {x:Int × List UInt8} (h:l.take (k+1)=l.take k++[x]):oLx (l.take (k+1))=oLx (l.take k)+min x.2.length 1000:=by unfold oLx;rw [h];simp
theorem oPa (l:List (Int × List UInt8)):oLx l<=1000*l.length:=by
  unfold oLx;induction l with
  | nil=>simp
  | cons x l ih=>rw [z0U,List.sum_cons,VH];omega
structure oKi (R:List (Int × List UInt8)) (S:List Int):Prop where
  r:R.length<=20
  n:oLx R<=200
  s:S.length<=20
  a:∀z∈S,-70000<=z/\z<=70000
theorem oNn:∀(R:List (Int × List UInt8)),oLx R<=200->sP R=oLx R
  | [],_=>rfl
  | r::R,h=>by have h1:oLx (r::R)=min r.2.length 1000+oLx R:=rfl;have h2:sP (r::R)=min r.2.length 5000+sP R:=rfl;rw [h1] at h;have:=oNn R (by omega);omega
theorem oKi.few {R:List (Int × List UInt8)} {S:List Int} (h:oKi R S):zJ R=true:=by have h1:=oNn R h.n;have h2:=h.n;have h3:=h.r;unfold zJ;rw [z0P (show R.length<=60 by omega),z0P (show sP R<=3000 by omega)];rfl
theorem oKi.fits {R:List (Int × List UInt8)} {S:List Int} (h:oKi R S):∀z∈S,cN z:=λz hz=>by have:=h.a z hz;show -9223372036854775808<=z/\z<=9223372036854775807;omega
def SmQ (R:List (Int × List UInt8)) (S:List Int) (e:Ending):Prop:=∃r:Bool,e=.returned (.bool r)/\(r=true->oKi R S)
theorem smQ {R:List (Int × List UInt8)} {S:List Int} (r:Bool) (h:r=true->oKi R S):SmQ R S (.returned (.bool r)):=⟨r,rfl,h⟩
def ixW (v:Value):Nat:=match v with
  | .int _ z=>z.toNat
  | _=>0
theorem oMj (p q:aB) (v vs:Value) (R:List (Int × List UInt8)) (S:List Int) (w:World) (h:SlR CC w p v R) (hs:SlR oO w q vs S):
    Calls Tryz.prog 13 #[v,vs] w λe w'=>SmQ R S e/\RowKit.Below w.heap.size w w':=by
  have HR:=aA h;have HS:=aA hs;obtain ⟨ra,rc,rfl,hc1,hc2,_⟩:=h.irun;obtain ⟨sa,sc,rfl,hd1,hd2,_⟩:=hs.int;have oAf:(R.length:Int)<=9223372036854775807:=by omega
  have hlen2:(S.length:Int)<=9223372036854775807:=by omega
  have HLN:=aA oAf;have HLN2:=aA hlen2;clear h hs hc1 hc2 hd1 hd2 oAf hlen2;go_enter Tryz.func13,Tryz.ntmps13;go_wp2;go_loopw [5,12] (λz i wr=>∃(k:Nat) (m:Int),k<=R.length/\i=.int .i64 k/\z=.int .i64 m/\(k<=1000->m=oLx (R.take k))/\RowKit.Below w.heap.size w wr) (λ_ i _=>R.length-ixW i);case atStart=>exact ⟨0,0,YD _,rfl,rfl,λ_=>rfl,zY _ _⟩
  case round=>
    obtain ⟨k,m,hk,rfl,rfl,hm,hb⟩:=hrel;have HM:=aA hm;have HB:=aA hb;clear hm hb;by_cases hlt:k<R.length
    · have HTK:=aA (oMp (ZP hlt));obtain ⟨ra2,rc2,e2,_,_,g⟩:=(HR.out.below HB.out).irun;injection e2 with e2 _ e4;subst e2 e4;obtain ⟨b1,o1,sa1,sc1,rfl,_,d0,d1,hsl⟩:=g k R[k] (zL hlt);have hsz:(R[k].2.length:Int)<=9223372036854775807:=(by obtain ⟨_,_,e,h1,h2,_⟩:=hsl.byte;omega);clear hsl g;generalize R[k]=x at *;have hk9:=HLN.out;have hmn:min (x.2.length:Int) 1000=((min x.2.length 1000:Nat):Int):=(by omega);have hm2:min x.2.length 1000<=1000:=Nat.min_le_right _ _;have HMN:=aA hmn;have HBA:=aA (HB.out.alloc HB.out.size (.cells #[.int .i64 x.1,.slice sa1 x.2.length sc1] 62));clear hmn;by_cases hkk:k<1000
      · have hme:=HM.out (by omega);have hsl2:=oPa (R.take k);have hlk:(R.take k).length<=k:=List.length_take_le _ _;have hm0:(0:Int)<=m:=(by omega);have hm1:m<=5000000:=(by omega);have HME:=aA hme;clear hme hsl2 hlk;go_wp2;rw [HMN.out];go_roundw;case rel=>exact ⟨k+1,m+(min x.2.length 1000:Nat),by omega,by go_num,by go_num,λ_=>by rw [HTK.out,HME.out];omega,HBA.out⟩
        case measure=>simp [ixW];omega
      · go_wp2;go_roundw;case rel=>exact ⟨k+1,_,by omega,by go_num,rfl,λh=>absurd h (by omega),HBA.out⟩
        case measure=>simp [ixW];omega
    · obtain rfl:k=R.length:=(by omega);have HM2:Hid (R.length<=1000->m=oLx R):=aA (λh=>by have:=HM.out h;rwa [z0L] at this);clear HM;go_wp2;go_loopw [9,25] (λ_ i wx=>∃j:Nat,j<=S.length/\i=.int .i64 j/\(∀z∈S.take j,-70000<=z/\z<=70000)/\wx=wr) (λ_ i _=>S.length-ixW i);case atStart=>exact ⟨0,YD _,rfl,λz h=>by simp at h,rfl⟩
      case round=>
        obtain ⟨j,hj,rfl,hz,rfl⟩:=hrel;have HZ:=aA hz;clear hz;by_cases hlt:j<S.length
        · obtain ⟨sa2,sc2,e2,_,_,g⟩:=(HS.out.below HB.out).int;injection e2 with e2 _ e4;subst e2 e4;obtain ⟨b1,o1,rfl,_,d0⟩:=g j S[j] (zL hlt);have HTK:=aA (ZP hlt);generalize S[j]=z at *;have hj9:=HLN2.out;clear g;by_cases h1:z > 70000
          · go_wp2;go_ret;exact ⟨smQ false (λe=>by cases e),HB.out⟩
          · by_cases h2:z < -70000
            · go_wp2;go_ret;exact ⟨smQ false (λe=>by cases e),HB.out⟩
            · go_wp2;go_roundw;case rel=>exact ⟨j+1,by omega,by go_num,λy hy=>by rw [HTK.out] at hy;rcases z2D.1 hy with hy|hy;exact HZ.out y hy;obtain rfl:=XJ.1 hy;omega,trivial⟩
              case measure=>simp [ixW];omega
        · obtain rfl:j=S.length:=(by omega);have HZ2:Hid (∀z∈S,-70000<=z/\z<=70000):=aA (by have:=HZ.out;rwa [z0L] at this);clear HZ;by_cases h1:(R.length:Int)<=20
          · by_cases h2:m<=200
            · by_cases h3:(S.length:Int)<=20
              · go_wp2;go_ret;exact ⟨smQ true (λ_=>⟨by omega,by have:=HM2.out (by omega);omega,by omega,HZ2.out⟩),HB.out⟩
              · go_wp2;go_ret;exact ⟨smQ false (λe=>by cases e),HB.out⟩
            · go_wp2;go_ret;exact ⟨smQ false (λe=>by cases e),HB.out⟩
          · go_wp2;go_ret;exact ⟨smQ false (λe=>by cases e),HB.out⟩
set_option maxHeartbeats 16000000
theorem FlowReach_law (R:List (Int × List UInt8)) (S:List Int) (p q:aB) (v vs:Value) (w:World) (h:SlR CC w p v R) (hs:SlR oO w q vs S) (hT:Spc w) (hD:Deb w) (hA:∀r∈R,-9223372036854775808<=r.1/\r.1<=9223372036854775807):
    Calls Tryz.prog 5 #[v,vs] w λe w'=>e=.returned (.bool true)/\RowKit.Below w.heap.size w w':=by
  have HR:=aA h;have HS:=aA (λW (hb:RowKit.Below w.heap.size w W)=>hs.below hb);have HT:=aA (λW (hb:RowKit.Below w.heap.size w W)=>hT.below hb);have HD:=aA hD;have HA:=aA hA;have HAL:=aA (λW (hb:RowKit.Below w.heap.size w W)=>oKx W (hT.below hb));have HSM:=aA (oMj p q v vs R S w h hs);obtain ⟨ra,rc,rfl,_,_,_⟩:=h.irun;obtain ⟨sa,sc,rfl,_,_,_⟩:=hs.int;clear h hs hT hD hA;go_enter Tryz.func5,Tryz.ntmps5;go_wp2_with fail;refine HSM.out.mono ?_;rintro e w2 ⟨⟨r,rfl,hsm⟩,hb2⟩;have HB2:=aA hb2;clear hb2 HSM;cases r
  · clear hsm;go_wp2_with (go_at_call 14;(with_reducible refine (HAL.out _ HB2.out).mono ?_);rintro e w3 ⟨rfl,hb⟩;have HB3:=aA (HB2.out.trans (hb.mono HB2.out.size));clear hb);go_ret;exact ⟨rfl,HB3.out⟩
  have HFS:Hid (∀y∈S,cN y):=aA (hsm rfl).fits;have HSL:Hid (S.length<=1000/\S.length<=100000):=aA (by have:=(hsm rfl).s;omega);have HBY:=aA (Build_yes p _ R w2 (HR.out.below HB2.out) (HD.out.below HB2.out) HA.out (hsm rfl).few);clear hsm;go_upto_region 6 with (go_at_call 15;refine HBY.out.mono ?_;rintro e w3 ⟨b,n,cv,rfl,hb⟩;have HBO:=aA hb;clear hb);have HB3:=aA (HB2.out.trans (HBO.out.below.mono HB2.out.size));have HIM:=aA (λW (hb:RowKit.Below w3.heap.size w3 W)=>HBO.out.img.below hb HBO.out.img.lt);have HCL:=aA (λW (hb:RowKit.Below w3.heap.size w3 W)=>HBO.out.cells.sl.below hb);clear HBY HBO HD HA HR;generalize (uS R).1=d at *;generalize (uS R).2=v at *;have HUP:=aA (λW (hb:RowKit.Below w3.heap.size w3 W)=>HB3.out.trans (hb.mono HB3.out.size));have HC1:=aA (λW hb=>oQk b n d v S q _ W (HT.out W (HUP.out W hb)) (HIM.out W hb) (HS.out W (HUP.out W hb)) HSL.out.2 HFS.out);have HC2:=aA (λW hb=>oLu _ cv d v S q _ W (HCL.out W hb) (HS.out W (HUP.out W hb)) HSL.out.1 HFS.out);have HC3:=aA (λW hb=>oPz b n d v S q _ W (HT.out W (HUP.out W hb)) (HIM.out W hb) (HS.out W (HUP.out W hb)) HSL.out.2 HFS.out);have HC4:=aA (λW hb=>oPx _ cv d v S q _ W (HCL.out W hb) (HS.out W (HUP.out W hb)) HSL.out.1 HFS.out);have HEQ:=aA (λp q v1 v2 L W h1 h2=>YF p q v1 v2 L L W h1 h2);simp only [decide_true] at HEQ;clear HIM HCL HS HT
  go_wp2_with (first
    | (go_at_call 14;(with_reducible refine (HAL.out _ HB3.out).mono ?_);rintro e w4 ⟨rfl,hb⟩;have HX4:=aA hb;clear hb)
    | (go_at_call 16;(with_reducible refine (HC1.out _ HX4.out).mono ?_);rintro e w5 ⟨⟨v5,L5,rfl,ho,hn,hm⟩,hb⟩;have HO5:=aA (ho.slR (q:=λ_=>True) (λ_ h=>h.elim) (λ_ _=>trivial));have HN5:=aA hn;have HM5:=aA hm;have HX5:=aA (HX4.out.trans (hb.mono HX4.out.size));clear ho hn hm hb)
    | (go_at_call 19;(with_reducible refine (HC2.out _ HX5.out).mono ?_);rintro e w6 ⟨⟨v6,L6,out6,rfl,ho,ha,hm⟩,hb⟩;have hE6:=oLe ha HN5.out (λa=>(hm a).trans (HM5.out a).symm);have HO6:=aA (HO5.out.below hb);rw [hE6] at HO6;have HP6:=aA (ho.slR (q:=λ_=>True) (λ_ h=>h.elim) (λ_ _=>trivial));have HX6:=aA (HX5.out.trans (hb.mono HX5.out.size));clear ho ha hm hb hE6 HO5)
    | (go_at_call 18;(with_reducible refine (HEQ.out _ _ _ _ L6 w6 HO6.out HP6.out).mono ?_);rintro e w7 ⟨rfl,n7,hw7⟩;have HX7:Hid (RowKit.Below w3.heap.size w3 w7):=aA (by rw [hw7];exact aY HX6.out _);clear hw7)
    | (go_at_call 20;(with_reducible refine (HC3.out _ HX7.out).mono ?_);rintro e w8 ⟨⟨v8,L8,rfl,ho,hn,hm⟩,hb⟩;have HO8:=aA (ho.slR (q:=λ_=>True) (λ_ h=>h.elim) (λ_ _=>trivial));have HN8:=aA hn;have HM8:=aA hm;have HX8:=aA (HX7.out.trans (hb.mono HX7.out.size));clear ho hn hm hb)
    | (go_at_call 21;(with_reducible refine (HC4.out _ HX8.out).mono ?_);rintro e w9 ⟨⟨v9,L9,out9,rfl,ho,ha,hm⟩,hb⟩;have hE9:=oLe ha HN8.out (λa=>(hm a).trans (HM8.out a).symm);have HO9:=aA (HO8.out.below hb);rw [hE9] at HO9;have HP9:=aA (ho.slR (q:=λ_=>True) (λ_ h=>h.elim) (λ_ _=>trivial));have HX9:=aA (HX8.out.trans (hb.mono HX8.out.size));clear ho ha hm hb hE9 HO8)
    | (go_at_call 18;(with_reducible refine (HEQ.out _ _ _ _ L9 w9 HO9.out HP9.out).mono ?_);rintro e w10 ⟨rfl,n10,hw10⟩;have HX10:Hid (RowKit.Below w3.heap.size w3 w10):=aA (by rw [hw10];exact aY HX9.out _);clear hw10))
  go_ret;exact ⟨rfl,HUP.out _ HX10.out⟩
end Go.Proofs.YtpigbggoiipmhaaGreatDoor
