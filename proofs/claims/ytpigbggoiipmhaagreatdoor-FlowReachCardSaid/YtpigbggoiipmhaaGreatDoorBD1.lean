/-
  Functions of the program and of the reference, walked; plain facts on what they compute. Conditions: sizes.
-/
import Derived.Test.YtpigbggoiipmhaaGreatDoorBR1
import Derived.Test.YtpigbggoiipmhaaGreatDoorBN1
import Derived.Laws.ShiftsVarLaws
import Derived.Shelf.RegionOpen
namespace Go.Proofs.YtpigbggoiipmhaaGreatDoor
open Go.RowKit
def Rep.via {α β:Type} (R:Rep α) (f:β->α):Rep β where
 size:=R.size
 rel:=λw p cs x=>R.rel w p cs (f x)
 len:=R.len
 keep:=R.keep
 mono:=R.mono
 old:=R.old
 one:=R.one
section
variable {P:Program} (w:World)
theorem eK {α:Type} {R:Rep α} {ops:Array Oper} {o:Oper} {a:Act} {K:Act->World->Prop} {Q:Exit->Act->World->Prop} {E:Prop} (hgd:o.guard=none) (s x:Operand) (t:TypeId)
  (ho:o.op=.call {callee:=.builtin .append,args:=#[s,x],argTypes:=#[t,t]})
  (B:Nat) (e:TypeId) (bytes:Nat) (hE:ElT P t e R.size bytes) (p q:aB) (v vx:Value) (xs ys:List α) (hs:a.eval s=v) (hxe:a.eval x=vx) (hown:Own R w B e p v xs) (hx:SlR R w q vx ys)
  (hp:∀k,p k->some k≠v.ownBlock) (hq:∀k,q k->some k≠v.ownBlock) (hbytes:(xs.length+ys.length)*bytes<=140737488355328) (hlen:xs.length+ys.length<=9223372036854775807) (hB:B<=w.heap.size)
  (h:∀v' w',oS R w B e (λk=>p k\/q k) v (xs++ys) v' w'->K (a.put o.dst v') w'):if Region.wanted o (yielded ops a.tmps)=true then Oper.wp P o a w K Q else E:=by
 have hw:Region.wanted o (yielded ops a.tmps)=true:=by simp [Region.wanted,hgd]
 rw [if_pos hw];exact rJ w s x t ho B e bytes hE p q v vx xs ys hs hxe hown hx hp hq hbytes hlen hB h
end
section
variable {P:Program} {α:Type} {n:Nat} {enc:α->List Value} {h0:∀x,(enc x).length=n} {h1:∀x,∀u∈enc x,u.oneCell'=true}
end
end Go.Proofs.YtpigbggoiipmhaaGreatDoor
namespace Go.Proofs.YtpigbggoiipmhaaGreatDoor
theorem vZ (d:Nat->Bool) (base:Nat):∀n,nX d base n<2^n
 | 0=>by simp [nX]
 | n+1=>by
  have h:=vZ d base n;refine Nat.or_lt_two_pow (Nat.lt_trans h (Nat.pow_lt_pow_right (by omega) (by omega))) ?_;split
  ·rw [Nat.shiftLeft_eq,z1V];exact Nat.pow_lt_pow_right (by omega) (by omega)
  ·exact Nat.two_pow_pos _
theorem qH (d:Nat->Bool) (i:Nat):dQ d i<2^64:=vZ d _ 64
theorem FU (d:Nat->Bool) (a:Nat):dQ (kL d a) (a/64)=dQ d (a/64) ||| (1 <<< (a%64)):=by
 apply Nat.eq_of_testBit_eq;intro j;rw [fX,Nat.testBit_or,fX,Nat.testBit_shiftLeft];have ha:a=a/64*64+a%64:=by omega
 have hm:=z2F a (show 0<64 by omega);by_cases hj:j=a%64
 ·subst hj;simp [kL,hm,<-ha]
 ·have h1:(a/64*64+j==a)=false:=by simp;omega
  by_cases hjm:a%64<=j
  ·have h2:j-a%64≠0:=(by omega);simp [kL,h1,tb1,h2]
  ·simp [kL,h1,hjm]
theorem CZ {d:Nat->Bool} {b:Bool} {a r:Nat} (h1:a<=r) (h2:r<=65536) (h3:∀x,a<=x->x<r->(d x==b)=false) (h4:r<65536->(d r==b)=true):dS d b a=r:=by
 unfold dS;by_cases ha:a<65536
 ·rw [if_pos ha];obtain ⟨g1,g2,g3,g4⟩:=jX d b (65536-a) a;generalize fO d b (65536-a) a=q at *;rcases Nat.lt_trichotomy q r with hlt|heq|hgt
  ·have e1:=h3 q g1 hlt;have e2:=g4 (by omega);rw [e1] at e2;cases e2
  ·exact heq
  ·have e1:=g3 r h1 hgt;have e2:=h4 (by omega);rw [e1] at e2;cases e2
 ·rw [if_neg ha];omega
end Go.Proofs.YtpigbggoiipmhaaGreatDoor
namespace Go.Proofs.YtpigbggoiipmhaaGreatDoor
set_option maxHeartbeats 1000000
open Go.RowKit
theorem VW {k:Nat} (h:k<64):IntKind.u64.wrap ((2:Int)^k)=((1 <<< k:Nat):Int):=by
 have h1:(2:Nat)^k<2^64:=Nat.pow_lt_pow_right (by omega) h;have h2:((2:Int)^k)=((2^k:Nat):Int):=by simp
 rw [h2,Nat.shiftLeft_eq,z1V];generalize 2^k=x at *;have h3:(x:Int)<18446744073709551616:=by
  have:(2:Nat)^64=18446744073709551616:=by decide
  omega
 have e2:((2:Int)^IntKind.u64.bits)=18446744073709551616:=by decide
 have e:IntKind.u64.signed=false:=rfl;simp only [IntKind.wrap,e,e2,Bool.false_and];rw [if_neg (by simp)];omega
theorem or_add (d:Nat->Bool) (a:Nat):bits .or .u64 ((dQ d (a/64):Nat):Int) (IntKind.u64.wrap ((2:Int)^(a%64)))=((dQ (kL d a) (a/64):Nat):Int):=by
 rw [VW (z2F a (by omega)),FU];have h1:(2:Nat)^64=18446744073709551616:=by decide
 have h2:=qH d (a/64);have h3:1 <<< (a%64)<2^64:=by rw [Nat.shiftLeft_eq,z1V];exact Nat.pow_lt_pow_right (by omega) (z2F a (by omega))
 exact u64_or_nat _ _ (by omega) (by omega)
theorem eO.drew {w:World} {b n:Nat} {d:Nat->Bool} {v:Nat->UInt8} (h:eO w b d v n):eO w.drew b d v n:=⟨h.words,h.count,h.bytes,h.free⟩
theorem FZ (b n a:Nat) (d:Nat->Bool) (v:Nat->UInt8) (w:World) (h:eO w b d v n) (ha:a<65536) (hn:n<=1000000000):
  Calls Tryz.prog 85 #[.pointer (some ⟨b,0,none⟩),.int .i64 a] w λe w'=>e=.returned (.tuple #[])/\eO w' b (kL d a) v (n+1)/\∃q,w'=((w.setCell ⟨b,a/64,none⟩ (.int .u64 (dQ (kL d a) (a/64)))).setCell ⟨b,1024,none⟩ (.int .i64 ((n:Int)+1))).drewN q:=by
 have hw:=h.words (a/64) (by omega);have hc:=h.count;have hf:=h.free;have hai:(0:Int)<=a:=by omega
 have hai2:(a:Int)/64<1024:=by omega
 have hai3:(0:Int)<=(a:Int)/64:=by omega
 have HO:=aA (or_add d a);have HH:=aA (h.add ha);generalize dQ d (a/64)=W at *;clear h;go_enter Tryz.func85,Tryz.ntmps85;go_wp2;go_region;all_goals go_wp2;go_end0;rw [HO.out];exact ⟨rfl,HH.out.drew,1,rfl⟩
def qC (d:Nat->Bool) (q:Bool) (c:Nat):Nat:=(if q then dQ d (c/64) else (2^64-1) ^^^ dQ d (c/64))/2^(c%64)
theorem sB (d:Nat->Bool) (q:Bool) (c j:Nat):(qC d q c).testBit j=(decide (c%64+j<64)&&(d (c+j)==q)):=by
 have hc:c/64*64+(c%64+j)=c+j:=by omega
 unfold qC;rw [Nat.testBit_div_two_pow,Nat.add_comm j (c%64)];cases q
 ·simp only [Bool.false_eq_true,if_false];rw [Nat.testBit_xor,Nat.testBit_two_pow_sub_one,fX,hc];cases h:decide (c%64+j<64)<;>cases d (c+j)<;>rfl
 ·simp only [if_true];rw [fX,hc];cases h:decide (c%64+j<64)<;>cases d (c+j)<;>rfl
theorem DY (d:Nat->Bool) (q:Bool) (c:Nat):qC d q c<18446744073709551616:=by
 have h64:(2:Nat)^64=18446744073709551616:=by decide
 have h:=qH d (c/64);unfold qC;refine z1G (Nat.div_le_self _ _) ?_;rw [<-h64];cases q
 ·simp only [Bool.false_eq_true,if_false];exact Nat.xor_lt_two_pow (by omega) h
 ·exact h
theorem QE {d:Nat->Bool} {q:Bool} {c:Nat} (h:qC d q c=0) (x:Nat) (h1:c<=x) (h2:x<(c/64+1)*64):(d x==q)=false:=by have hb:=sB d q c (x-c);rw [h,Nat.zero_testBit,show c+(x-c)=x by omega,z0P (show c%64+(x-c)<64 by omega),z0Y] at hb;exact hb.symm
theorem SS (x i:Nat):x.testBit i=decide (x/2^i%2=1):=Nat.testBit_eq_decide_div_mod_eq
theorem QS {x:Nat} (h0:x≠0) (h:x<18446744073709551616):x.testBit (Lib.ctz 64 x)=true/\∀j,j<Lib.ctz 64 x->x.testBit j=false:=by
 have h64:(2:Nat)^64=18446744073709551616:=by decide
 obtain ⟨m,hm,_⟩:=Lib.ctzFrom_spec 64 x (by omega) (by omega);have e:Lib.ctz 64 x=Lib.ctzFrom 64 x:=by unfold Lib.ctz;rw [if_neg h0]
 rw [e];generalize Lib.ctzFrom 64 x=t at *;subst hm;refine ⟨?_,λj hj=>?_⟩
 ·rw [SS,Nat.mul_div_cancel_left _ (Nat.two_pow_pos t)];simp
 ·rw [SS];have e2:2^t*(2*m+1)=2^j*(2*(2^(t-j-1)*(2*m+1))):=by rw [show (2:Nat)^t=2^j*(2*2^(t-j-1)) by rw [<-Nat.pow_succ',<-Nat.pow_add];congr 1;omega];simp [Nat.mul_assoc]
  rw [e2,Nat.mul_div_cancel_left _ (Nat.two_pow_pos j)];simp
theorem QR {d:Nat->Bool} {q:Bool} {a c:Nat} (h0:qC d q c≠0) (hac:a<=c) (hc:c<65536) (hno:∀x,a<=x->x<c->(d x==q)=false):dS d q a=c+Lib.ctz 64 (qC d q c)/\Lib.ctz 64 (qC d q c)<64:=by
 obtain ⟨h1,h2⟩:=QS h0 (DY d q c);generalize Lib.ctz 64 (qC d q c)=t at *;rw [sB] at h1;obtain ⟨h3,h4⟩:=(z0K _ _).mp h1;have h3:=jU h3;refine ⟨CZ (by omega) (by omega) (λx hx1 hx2=>?_) (λ_=>h4),by omega⟩;by_cases hx:x<c
 ·exact hno x hx1 hx
 ·have h5:=h2 (x-c) (by omega);rw [sB,show c+(x-c)=x by omega,z0P (show c%64+(x-c)<64 by omega),z0Y] at h5;exact h5
theorem BE (d:Nat->Bool) (c:Nat):((dQ d (c/64):Nat):Int)/2^(c%64)=((qC d true c:Nat):Int):=by simp [qC]
theorem LG (b n a:Nat) (d:Nat->Bool) (v:Nat->UInt8) (w:World) (h:eO w b d v n) (hT:Deb w) (ha:a<=65536):
  Calls Tryz.prog 84 #[.pointer (some ⟨b,0,none⟩),.int .i64 a,.bool true] w λe w'=>e=.returned (.int .i64 (dS d true a))/\w=w':=by
 have H:=aA h;have HT:=aA hT;clear h hT;go_enter Tryz.func84,Tryz.ntmps84;go_wp2;go_loop [1] (λi=>∃c:Nat,a<=c/\c<=65536/\i=.int .i64 c/\(∀x,a<=x->x<c->(d x==true)=false)) (λi=>65536-(intOf i).toNat);case atStart=>exact ⟨a,zI _,ha,rfl,λx h1 h2=>by omega⟩
 case round=>
  obtain ⟨c,hac,hc,rfl,hno⟩:=hrel;have HNO:=aA hno;clear hno;by_cases hlt:c<65536
  ·have hw:=H.out.words (c/64) (by omega);have HWL:=aA (qH d (c/64));have hi1:(0:Int)<=(c:Int)/64:=(by omega);have hi2:(c:Int)/64<1024:=(by omega);generalize hW:dQ d (c/64)=W at *;have HW:=aA hW;clear hW;have hlti:decide ((c:Int)<65536)=true:=(by simp;omega);have hc0:(0:Int)<=(c:Int):=(by omega);have hcm:(c:Int)<=100000:=(by omega);have HLT:=aA hlt;have HCC:=aA hc;clear hlt hc;go_upto_region 6 with fail;have hv:=BE d c;rw [HW.out] at hv;rw [hv];clear hv;have HNX:=aA (λh0=>QR (d:=d) (q:=true) (a:=a) (c:=c) h0 hac HLT.out HNO.out);have HZR:=aA (λh0 x=>QE (d:=d) (q:=true) (c:=c) h0 x);have HSL:=aA (DY d true c);generalize qC d true c=S at *;by_cases h0:S=0
   ·have HS0:=aA h0;have hz:((S:Int) != 0)=false:=(by rw [h0];rfl);clear h0 hi1 hi2 hlti;go_wp2;go_round;case rel=>exact ⟨(c/64+1)*64,by omega,by have:=HLT.out;omega,by go_num,λx h1 h2=>if hx:x<c then HNO.out x h1 hx else HZR.out HS0.out x (by omega) h2⟩
    case measure=>have:=HLT.out;simp [intOf];omega
   ·have hz:((S:Int) != 0)=true:=(by simp [bne];omega);have hk:=(HNX.out h0).2;have HK:=aA (HNX.out h0).1;clear h0 hi1 hi2 hlti;have HTZ:=aA (RK S HSL.out w HT.out);generalize Lib.ctz 64 S=t at *;have ht0:(0:Int)<=(t:Int):=(by omega);have htm:(t:Int)<=64:=(by omega);have hcm2:(c:Int)<=100000:=hcm;have hac':=aA hac;have hk':=aA hk;have ha':=aA ha;clear hac hk ha;go_wp2_with (go_at_call 137;refine HTZ.out.mono ?_;rintro e w' ⟨rfl,rfl⟩);go_ret;exact ⟨bK (by rw [HK.out];simp),rfl⟩
  ·obtain rfl:c=65536:=(by omega);have HF:=aA (CZ (d:=d) (b:=true) hac (zI _) HNO.out (λh=>absurd h (by omega)));go_wp2;go_ret;exact ⟨bK (by rw [HF.out];rfl),rfl⟩
set_option maxRecDepth 1000000 in
theorem YY:Tryz.zeroCells140=vJ 1024 65536 (.int .u64 0) (.int .i64 0) (.int .u8 0):=by kernel_rfl
theorem ZK (w:World):Calls Tryz.prog 37 #[] w λe w'=>e=.returned (.pointer (some ⟨w.heap.size,0,none⟩))/\eO w' w.heap.size (λ_=>false) (λ_=>0) 0/\Below w.heap.size w w':=by have HZ:=aA (eO.zero w 140 _ YY);go_enter Tryz.func37,Tryz.ntmps37;go_wp2;go_ret;exact ⟨rfl,HZ.out,(zY _ w).alloc (zI _) _⟩
set_option maxHeartbeats 2000000
set_option maxRecDepth 100000
theorem CJ:aI.size=1:=rfl
theorem SlR.byteQ {w:World} {p:aB} {v:Value} {l:List UInt8} (h:SlR aI w p v l):∃a cap,v=.slice a l.length cap/\l.length<=cap/\cap<=9223372036854775807/\
  ∀i x,l[i]?=some x->∃b o,a=some ⟨b,o,none⟩/\p b/\w.cell? ⟨b,o+i,none⟩=some (.int .u8 x.toNat):=by
 obtain ⟨a,cap,e,h1,h2,h3⟩:=h;refine ⟨a,cap,e,h1,by simpa [maxLen] using h2,λi x hx=>?_⟩;obtain ⟨b,o,cs,ea,hb,hbs,hc,hr⟩:=h3 i x hx;have hr:cs=[.int .u8 x.toNat]:=hr;subst hr;have:=hc 0 _ rfl;exact ⟨b,o,ea,hb,by simpa [CJ] using this⟩
def lE (l:List UInt8):List Value:=l.map λx=>.int .u8 x.toNat
theorem xB (d:Nat->Bool) (a:Nat):mY d a 0=d:=by
 funext x
 have:(decide (a<=x)&&decide (x<a+0))=false:=by simp
 unfold mY;rw [this,Bool.or_false]
theorem LM (d:Nat->Bool) (a k:Nat):kL (mY d a k) (a+k)=mY d a (k+1):=by
 funext x
 unfold kL mY;rw [Bool.or_assoc];congr 1;rw [z0C];simp;omega
theorem lS (b:Nat):∀(vs:List Value) (o:Nat) (w:World),w.grownBy (w.setCells b o vs) (some b)
 | [],_,w=>World.grownBy.refl w _
 | v::r,o,w=>fZ (w1:=w.setCell ⟨b,o,none⟩ v) ⟨rfl,rfl,rfl,by simp [World.setCell],λk _ hk=>xV _ _ _ _ (λe=>hk (by rw [e]))⟩ (lS b r (o+1) _)
theorem eO.copied {w:World} {b n a:Nat} {d:Nat->Bool} {v:Nat->UInt8} (h:eO w b d v n) {l:List UInt8} (hl:a+l.length<=65536):
  eO (w.setCells b (1025+a) (lE l)) b d (fR v a l) n:=by
 have hlen:(lE l).length=l.length:=by simp [lE]
 refine ⟨λi hi=>?_,?_,λx hx=>?_,λo=>?_⟩
 ·rw [World.cell?_setCells_out _ _ _ _ _ (λ_ _=>.inl (by show i<_;omega))];exact h.words i hi
 ·rw [World.cell?_setCells_out _ _ _ _ _ (λ_ _=>.inl (by show 1024<_;omega))];exact h.count
 ·by_cases hin:a<=x/\x<a+l.length
  ·have e:=World.cell?_setCells_in b (lE l) (1025+a) w (λj hj=>by rw [show 1025+a+j=1025+(a+j) by omega,h.bytes (a+j) (by omega)];rfl) (x-a) (by omega);rw [show 1025+a+(x-a)=1025+x by omega] at e;rw [e];have hx2:x-a<l.length:=(by omega);simp [lE,fR,hin.1,List.getD_eq_getElem?_getD,hx2]
  ·rw [World.cell?_setCells_out _ _ _ _ _ (λ_ _=>by rw [hlen];show 1025+x<_\/_<=1025+x;omega),h.bytes x hx];have:fR v a l x=v x:=(by exact tX77);rw [this]
 ·rw [World.frozen?_setCells];exact h.free o
theorem yS (w:World) (b n a:Nat) (d:Nat->Bool) (v:Nat->UInt8) (h:eO w b d v n) (p:aB) (vl:Value) (l:List UInt8) (hs:SlR aI w p vl l) (hl:a+l.length<=65536) (ty:TypeId):
  (Builtin.copy_ #[22,22] ty #[.slice (some ⟨b,1025+a,none⟩) (65536-a) (65536-a),vl]).run Tryz.prog w=.ok (goInt l.length) (w.setCells b (1025+a) (lE l)):=by
 obtain ⟨sa,cap,rfl,_,_,g⟩:=hs.byteQ;have hlen:(lE l).length=l.length:=by simp [lE]
 have hz:(Tryz.prog.info? 5).map (·.size)=some 1:=by kernel_rfl
 cases l with
 | nil=>exact run_copy_none w _ _ _ 5 _ _ _ _ _ _ Tryz.underlying22 hz (by simp)
 | cons y r=>
  obtain ⟨sb,o,rfl,_,_⟩:=g 0 y rfl;have e:=run_copy_cells (P:=Tryz.prog) w 22 22 ty 5 b (1025+a) (65536-a) (65536-a) ⟨sb,o,none⟩ (y::r).length cap (lE (y::r)) Tryz.underlying22 hz
   (by rw [hlen];exact (z2C (Nat.le_sub_of_add_le (by rw [Nat.add_comm];exact hl))).symm)
   (λj u hu=>by obtain ⟨x,hx,rfl⟩:∃x,(y::r)[j]?=some x/\Value.int .u8 x.toNat=u:=(by unfold lE at hu;rw [z0Q] at hu;exact Option.map_eq_some_iff.1 hu);obtain ⟨b2,o2,e2,_,hc⟩:=g j x hx;obtain ⟨rfl,rfl⟩:sb=b2/\o=o2:=(by simpa using e2);have ea:(⟨sb,o,none⟩:Addr).add j=⟨sb,o+j,none⟩:=(by unfold Addr.add;split<;>simp_all);rw [ea];exact hc)
   (λj hj=>by rw [show 1025+a+j=1025+(a+j) by omega,h.bytes (a+j) (by omega)];rfl) (λj _=>h.free _)
   (λu hu=>by obtain ⟨x,_,rfl⟩:=z2A.1 hu;rfl)
  rw [hlen] at e;exact e
theorem AI (b a:Nat) (ha:a<65536) (w:World):(Instr.sliceAt 138 (.pointer (some ⟨b,1025,none⟩)) (some (.int .i64 (a:Int))) none none).run Tryz.prog w=.ok (.slice (some ⟨b,1025+a,none⟩) (65536-a) (65536-a)) w:=by
 have hu:Tryz.prog.underlying 138=some (.array 65536 5):=by kernel_rfl
 have he:Tryz.prog.elem 138=5:=by simp [Program.elem,hu]
 have hl:Tryz.prog.arrayLen 138=65536:=by simp [Program.arrayLen,hu]
 have hz:(Tryz.prog.info? 5).map (·.size)=some 1:=by kernel_rfl
 have hs:(sizeOf 5).run Tryz.prog w=.ok 1 w:=by
  cases hq:Tryz.prog.info? 5 with
  | none=>simp [hq] at hz
  | some i=>exact (by have h1:i.size=1:=(by simpa [hq] using hz);simp [sizeOf,typeInfo,hq,h1])
 have e:=run_sliceAt_array_l (P:=Tryz.prog) w 138 ⟨b,1025,none⟩ (by rw [hl,he];exact hu) .i64 (a:Int) (by omega) (by rw [hl];omega);rw [e,he,hs,hl];have ea:(⟨b,1025,none⟩:Addr).add (a*1)=⟨b,1025+a,none⟩:=by rw [Nat.mul_one];unfold Addr.add;split<;>simp_all
 have hne:¬(65536=a):=by omega
 simp only [Result.andThen,slicedAt,Int.toNat_natCast,ea,if_neg hne]
def Put (w':World) (b n:Nat) (d:Nat->Bool) (v:Nat->UInt8) (a:Int) (l:List UInt8):Prop:=if cT d a l.length=0 then eO w' b (mY d a.toNat l.length) (fR v a.toNat l) (n+l.length) else eO w' b d v n
theorem lR {d:Nat->Bool} {a:Int} {k:Nat} (h:a<0\/65536<=a):cT d a k=2:=by unfold cT;rw [if_pos h]
theorem Put_any (b n:Nat) (a:Int) (d:Nat->Bool) (v:Nat->UInt8) (p:aB) (vl:Value) (l:List UInt8) (w:World) (h:eO w b d v n) (hn:n<=900000000) (hs:SlR aI w p vl l) (hT:Deb w) (ha1:-9223372036854775808<=a) (ha2:a<=9223372036854775807) (hl:l.length<=1000000):
  Calls Tryz.prog 38 #[.pointer (some ⟨b,0,none⟩),.int .i64 a,vl] w λe w'=>e=.returned (.int .i64 (cT d a l.length))/\Put w' b n d v a l/\w.grownBy w' (some b):=by
 obtain ⟨sa,cap,rfl,_⟩:=hs.byteQ;by_cases ho:a<0\/65536<=a
 ·have HI:=aA h;have HC:=aA (lR (d:=d) (k:=l.length) ho);have hfin:Put w b n d v a l:=by unfold Put;rw [lR ho,if_neg (by decide)];exact h
  have HF:=aA hfin;clear h hfin hT hs;rcases ho with ho|ho
  ·have h1:decide (a<0)=true:=(by simpa using ho);exact tX39
  ·have h1:decide (a<0)=false:=(by simp;omega);have h2:decide (65536<=a)=true:=(by simpa using ho);exact tX39
 ·obtain ⟨a,rfl⟩:∃m:Nat,a=m:=⟨a.toNat,by omega⟩;have hA:(cT d (a:Int) l.length)=if 65536<a+l.length then 10 else if dS d true a<a+l.length then 4 else 0:=by unfold cT;rw [if_neg ho];exact tX60
  have hlt:a<65536:=by omega
  have h1:decide ((a:Int)<0)=false:=by simp
  have h2:decide ((65536:Int)<=a)=false:=by simp;omega
  have ha0:(0:Int)<=a:=by omega
  have ham:(a:Int)<=100000:=by omega
  have HI:=aA h;have HS:=aA hs;have HT:=aA hT;have HLT:=aA hlt;clear h hs hT ho ha1 ha2 hlt;by_cases hw:65536<a+l.length
  ·have h3:decide ((65536:Int)-a<(l.length:Int))=true:=(by simp;omega);have hfin:Put w b n d v a l:=(by unfold Put;rw [hA,if_pos hw,if_neg (by decide)];exact HI.out);have HF:=aA hfin;rw [if_pos hw] at hA;have HA:=aA hA;clear hfin hw hA;go_enter Tryz.func38,Tryz.ntmps38;go_wp2;go_ret;exact ⟨by rw [HA.out];rfl,HF.out,World.grownBy.refl w _⟩
  ·have h3:decide ((65536:Int)-a<(l.length:Int))=false:=(by simp;omega);have hfin:dS d true a<a+l.length->Put w b n d v a l:=λhx=>(by unfold Put;rw [hA,if_neg hw,if_pos hx,if_neg (by decide)];exact HI.out);have HF:=aA hfin;rw [if_neg hw] at hA;have HA:=aA hA;have HW:=aA (Nat.not_lt.1 hw);have HN:=aA (LG b n a d v w HI.out HT.out (z0I HLT.out));clear hfin hw hA;generalize dS d true a=t at *;by_cases hx:t<a+l.length
   ·have h4:decide ((t:Int)<(a:Int)+(l.length:Int))=true:=(by simp;omega);rw [if_pos hx] at HA;have HFX:=aA (HF.out hx);clear hx;go_enter Tryz.func38,Tryz.ntmps38;go_wp2_with (go_at_call 84;refine HN.out.mono ?_;rintro e w' ⟨rfl,rfl⟩);go_ret;exact ⟨by rw [HA.out];rfl,HFX.out,World.grownBy.refl w _⟩
   ·have h4:decide ((t:Int)<(a:Int)+(l.length:Int))=false:=(by simp;omega);rw [if_neg hx] at HA;clear hx;have HRC:=aA (yS w b n a d v HI.out p _ l HS.out HW.out);have HCP:=aA (HI.out.copied HW.out);have hcut:=AI b a HLT.out;generalize 65536-a=M at HRC hcut;go_enter Tryz.func38,Tryz.ntmps38;go_upto_region 9 with (go_at_call 84;refine HN.out.mono ?_;rintro e w' ⟨rfl,rfl⟩);clear h1 h2 h3 h4;have hrc:=HRC.out 3;go_wp2;have HG0:=aA (lS b (lE l) (1025+a) w);generalize w.setCells b (1025+a) (lE l)=W at *;clear hcut hrc;have ham2:(a:Int)<=100000:=ham;have hll:(l.length:Int)<=1000000:=(by omega);have HNN:=aA hn;clear hn hl;go_loopw [44] (λi wr=>∃k:Nat,k<=l.length/\i=.int .i64 k/\eO wr b (mY d a k) (fR v a l) (n+k)/\w.grownBy wr (some b)) (λi _=>l.length-(intOf i).toNat);case atStart=>exact ⟨0,YD _,rfl,by rw [xB];exact HCP.out,HG0.out⟩
    case round=>
     obtain ⟨k,hk,rfl,hi,hg⟩:=hrel;have HI2:=aA hi;have HG2:=aA hg;clear hi hg;by_cases hkl:k<l.length
     ·have hb1:(0:Int)<=(k:Int):=(by omega);have hb2:(k:Int)<=1000000:=(by omega);have hadd:=FZ b (n+k) (a+k) (mY d a k) (fR v a l) wr HI2.out (by have:=HW.out;omega) (by have:=HNN.out;omega);rw [Int.natCast_add,LM] at hadd;have HAD:=aA hadd;clear hadd;go_wp2_with (go_at_call 85;refine HAD.out.mono ?_;rintro e w' ⟨rfl,hi,q,hw⟩;have HI3:=aA hi;have HQ:=aA hw;clear hi hw);go_roundw;case rel=>refine ⟨k+1,by omega,by go_num,HI3.out,fZ HG2.out ?_⟩;rw [HQ.out];exact ⟨rfl,rfl,rfl,by simp [World.setCell],λj _ hj=>by have hjb:j≠b:=λe=>hj (by rw [e]);exact (xV _ _ _ _ hjb).trans (xV _ _ _ _ hjb)⟩
      case measure=>simp [intOf];omega
     ·obtain rfl:k=l.length:=(by omega);go_wp2;go_ret;refine ⟨by rw [HA.out];rfl,?_,HG2.out⟩;unfold Put;rw [HA.out,if_pos rfl];exact HI2.out
section
variable {α:Type} {R:Rep α}
theorem lY.nil (w:World) (B:Nat) (e:TypeId):lY R w B e (.slice none 0 0) ([]:List α):=⟨NoB,Own.nil _ _ _ _ _,λ_ h=>h.elim⟩
theorem lY.slR {w:World} {B:Nat} {e:TypeId} {v:Value} {xs:List α} (h:lY R w B e v xs):SlR R w (λk=>B<=k/\k<w.heap.size) v xs:=by exact tX75
theorem lY.form {w:World} {B:Nat} {e:TypeId} {v:Value} {xs:List α} (h:lY R w B e v xs):∃a cap,v=.slice a xs.length cap:=by obtain ⟨p,ho,_⟩:=h;exact ho.form
theorem lY.stay {w w':World} {B:Nat} {e:TypeId} {v:Value} {xs:List α} (h:lY R w B e v xs) (hb:Below w.heap.size w w'):lY R w' B e v xs:=h.keep (aS.of_below hb λ_ hk=>hk.2)
variable {P:Program}
end
def runR:Rep (Nat × List UInt8):=Rep.pair (oO.via λn:Nat=>(n:Int)) (Rep.slice aI)
def kW (v:Nat->UInt8) (a n:Nat):List UInt8:=(List.range n).map λi=>v (a+i)
def runsN (d:Nat->Bool) (v:Nat->UInt8):Nat->Nat->List (Nat × List UInt8)
 | 0,_=>[]
 | g+1,f=>if f<65536 then (f,kW v f (dS d false f-f))::runsN d v g (dS d true (dS d false f)) else []
def runsOf (d:Nat->Bool) (v:Nat->UInt8):List (Nat × List UInt8):=runsN d v 65537 (dS d true 0)
set_option maxHeartbeats 1000000
def cH:Rep cJ:=Rep.flat 2 (λx=>[.int .i64 x.addr,.int .u8 x.byte.toNat]) (λ_=>rfl) (λ_ u hu=>by simp at hu;rcases hu with rfl|rfl<;>rfl)
theorem FG:cH.size=2:=rfl
theorem SlR.cel {w:World} {p:aB} {v:Value} {l:List cJ} (h:SlR cH w p v l):∃a cap,v=.slice a l.length cap/\l.length<=cap/\cap<=9223372036854775807/\
  ∀i x,l[i]?=some x->∃b o,a=some ⟨b,o,none⟩/\p b/\w.cell? ⟨b,o+i*2,none⟩=some (.int .i64 x.addr)/\w.cell? ⟨b,o+i*2+1,none⟩=some (.int .u8 x.byte.toNat):=by
 obtain ⟨a,cap,e,h1,h2,h3⟩:=h;refine ⟨a,cap,e,h1,by simpa [maxLen] using h2,λi x hx=>?_⟩;obtain ⟨b,o,cs,ea,hb,hbs,hc,hr⟩:=h3 i x hx;have hr:cs=[.int .i64 x.addr,.int .u8 x.byte.toNat]:=hr;subst hr;exact ⟨b,o,ea,hb,hc 0 _ rfl,hc 1 _ rfl⟩
def aT (a:Int):List cJ->Nat
 | []=>0
 | x::r=>if (x.addr:Int)<a then aT a r+1 else 0
theorem DP {a:Int} {l:List cJ} {k:Nat} (hk:k<l.length) (h:(l[k].addr:Int)<a):k+aT a (l.drop k)=k+1+aT a (l.drop (k+1)):=by rw [ZX hk,aT,if_pos h];omega
theorem NB {a:Int} {l:List cJ} {k:Nat} (hk:k<l.length) (h:¬(l[k].addr:Int)<a):k+aT a (l.drop k)=k:=by rw [ZX hk,aT,if_neg h];rfl
theorem qQ (p:aB) (v:Value) (l:List cJ) (ad:Int) (w:World) (h:SlR cH w p v l):
  Calls Tryz.prog 86 #[v,.int .i64 ad] w λe w'=>e=.returned (.int .i64 (aT ad l:Nat))/\w=w':=by
 obtain ⟨a,c,rfl,hc1,hc2,g⟩:=h.cel;have G:=aA g;have hlen:(l.length:Int)<=9223372036854775807:=by omega
 have HLN:=aA hlen;clear h g hc1 hc2 hlen;go_enter Tryz.func86,Tryz.ntmps86;go_wp2;go_loop [5] (λi=>∃k:Nat,k<=l.length/\i=.int .i64 k/\aT ad l=k+aT ad (l.drop k)) (λi=>l.length-(intOf i).toNat);case atStart=>exact ⟨0,YD _,rfl,by simp⟩
 case round=>
  obtain ⟨k,hk,rfl,hx⟩:=hrel;have HX:=aA hx;clear hx;by_cases hlt:k<l.length
  ·obtain ⟨b1,o1,rfl,_,d1,_⟩:=G.out k l[k] (zL hlt);have HY:=aA (DP (a:=ad) hlt);have HNO:=aA (NB (a:=ad) hlt);generalize l[k].addr=y at *;have hk9:=HLN.out;by_cases hy:(y:Int)<ad
   ·have HE:=aA (HY.out hy);go_wp2;go_round;case rel=>exact ⟨k+1,by omega,by go_num,HX.out.trans HE.out⟩
    case measure=>simp [intOf];omega
   ·have HE:=aA (HX.out.trans (HNO.out hy));go_wp2;go_ret;exact ⟨bK (by rw [HE.out]),rfl⟩
  ·obtain rfl:k=l.length:=(by omega);have HE:Hid (aT ad l=l.length):=(by have e:=HX.out;rw [List.drop_length] at e;exact e);go_wp2;go_ret;exact ⟨bK (by rw [HE.out]),rfl⟩
end Go.Proofs.YtpigbggoiipmhaaGreatDoor
namespace Go.Proofs.YtpigbggoiipmhaaGreatDoor
def bF:Nat->List UInt8->List cJ
 | _,[]=>[]
 | a,b::l=>⟨a,b⟩::bF (a+1) l
theorem iB (d:Nat->Bool) (v:Nat->UInt8) (n:Nat):∀m a,gH d v a (m+n)=gH d v a m++gH d v (a+m) n
 | 0,a=>by rw [z2H];rfl
 | m+1,a=>by rw [show m+1+n=(m+n)+1 by omega,gH,gH,iB d v n m (a+1),JP,show a+1+m=a+(m+1) by omega]
theorem nQ {d d':Nat->Bool} {v v':Nat->UInt8}:∀n a,(∀x,a<=x->x<a+n->d x=d' x/\(d x=true->v x=v' x))->gH d v a n=gH d' v' a n
 | 0,_,_=>rfl
 | n+1,a,h=>by
  obtain ⟨h1,h2⟩:=h a (zI _) (by omega);rw [gH,gH,nQ n (a+1) (λx hx hx2=>h x (by omega) (by omega)),<-h1];cases e:d a with
  | false=>rfl
  | true=>rw [h2 e]
theorem mS {d:Nat->Bool} {v:Nat->UInt8}:∀n a,(∀x,a<=x->x<a+n->d x=false)->gH d v a n=[]
 | 0,_,_=>rfl
 | n+1,a,h=>by rw [gH,mS n (a+1) (λx hx hx2=>h x (by omega) (by omega)),h a (zI _) (by omega)];rfl
theorem yX (v:Nat->UInt8) (a n:Nat):kW v a (n+1)=v a::kW v (a+1) n:=by unfold kW;rw [List.range_succ_eq_map,z0U,List.map_map];congr 1;apply List.map_congr_left;intro i _;show v (a+(i+1))=_;rw [show a+(i+1)=a+1+i by omega]
theorem wW {d:Nat->Bool} {v:Nat->UInt8}:∀n a,(∀x,a<=x->x<a+n->d x=true)->gH d v a n=bF a (kW v a n)
 | 0,_,_=>rfl
 | n+1,a,h=>by rw [gH,wW n (a+1) (λx hx hx2=>h x (by omega) (by omega)),h a (zI _) (by omega),yX];rfl
theorem uT {d:Nat->Bool} {v:Nat->UInt8} {c:cJ}:∀n a,c∈gH d v a n->a<=c.addr/\c.addr<a+n/\d c.addr=true/\c.byte=v c.addr
 | 0,_,h=>by simp [gH] at h
 | n+1,a,h=>by
  rw [gH,z2D] at h;rcases h with h|h
  ·cases e:d a with
   | false=>simp [e] at h
   | true=>simp [e] at h;subst h;exact ⟨zI _,by show a<a+(n+1);omega,e,rfl⟩
  ·obtain ⟨h1,h2,h3⟩:=uT n (a+1) h;exact ⟨by omega,by omega,h3⟩
theorem sZ {a:Int} {l2:List cJ} (h2:∀c∈l2,¬(c.addr:Int)<a):∀l1:List cJ,(∀c∈l1,(c.addr:Int)<a)->aT a (l1++l2)=l1.length
 | [],_=>by
  cases l2 with
  | nil=>rfl
  | cons c r=>show (if (c.addr:Int)<a then _ else 0)=0;rw [if_neg (h2 c (by simp))]
 | c::l1,h1=>by show (if (c.addr:Int)<a then _ else 0)=_;rw [if_pos (h1 c (by simp))];exact congrArg (·+1) (sZ h2 l1 (λx hx=>h1 x (by simp [hx])))
def gS (m:List cJ) (a:Int) (l:List UInt8):List cJ × Nat:=
 if a<0\/65535<a then (m,2) else if (65536:Int)-a<l.length then (m,10) else if l=[] then (m,0)
 else if ∃c,m[aT a m]?=some c/\(c.addr:Int)<a+l.length then (m,4)
 else (m.take (aT a m)++bF a.toNat l++m.drop (aT a m),0)
theorem NK {d:Nat->Bool} {v:Nat->UInt8} {a:Nat} (ha:a<=65536):(gH d v a (65536-a))[0]?=if dS d true a<65536 then some ⟨dS d true a,v (dS d true a)⟩ else none:=by
 obtain ⟨g1,g2,g3,g4⟩:=kO d true a ha;generalize dS d true a=t at *;rw [show 65536-a=(t-a)+(65536-t) by omega,iB,mS (t-a) a (λx h1 h2=>by have:=g3 x h1 (by omega);simpa using this),z0T,show a+(t-a)=t by omega];by_cases h:t<65536
 ·rw [if_pos h,show 65536-t=(65536-t-1)+1 by omega,gH];have:=g4 h;simp at this;rw [this];rfl
 ·rw [if_neg h,show 65536-t=0 by omega];rfl
theorem xX (v:Nat->UInt8) (a:Nat) (l:List UInt8):kW (fR v a l) a l.length=l:=by
 unfold kW;apply List.ext_getElem
 ·simp
 ·intro i h1 h2;simp [fR,List.getD_eq_getElem?_getD,h2]
theorem PN (d:Nat->Bool) (v:Nat->UInt8) (a:Int) (l:List UInt8):gS (eU d v) a l=(eU (dH d v a l).1 (dH d v a l).2,cT d a l.length):=by
 unfold gS;by_cases h1:a<0\/65535<a
 ·have e:cT d a l.length=2:=lR (by omega);rw [if_pos h1,dH,e,if_neg (by decide)]
 ·rw [if_neg h1];obtain ⟨a,rfl⟩:∃m:Nat,a=m:=⟨a.toNat,by omega⟩;have hA:(cT d (a:Int) l.length)=if 65536<a+l.length then 10 else if dS d true a<a+l.length then 4 else 0:=by unfold cT;rw [if_neg (by omega)];exact tX60
  by_cases h2:(65536:Int)-a<l.length
  ·have e:cT d (a:Int) l.length=10:=(by rw [hA,if_pos (by omega)]);rw [if_pos h2,dH,e,if_neg (by decide)]
  ·rw [if_neg h2];by_cases h3:l=[]
   ·subst h3;obtain ⟨g1,_⟩:=kO d true a (by omega);have e0:fR v a []=v:=(by funext x;exact pF (by simp;omega));have e:cT d (a:Int) ([]:List UInt8).length=0:=(by rw [hA,if_neg (by simp;omega),if_neg (by simp;omega)]);rw [if_pos rfl,dH,e,if_pos rfl];show (_,_)=(eU (mY d a 0) (fR v a []),0);rw [xB,e0]
   ·rw [if_neg h3];have hsp:eU d v=gH d v 0 a++gH d v a (65536-a):=(by unfold eU;rw [show 65536=a+(65536-a) by omega,iB,z2H,show a+(65536-a)-a=65536-a by omega]);have hf:aT (a:Int) (eU d v)=(gH d v 0 a).length:=(by rw [hsp];exact sZ (λc hc=>by have:=(uT _ _ hc).1;omega) _ (λc hc=>by have:=(uT _ _ hc).2.1;omega));have hl:0<l.length:=z1P.2 h3;have hg:(eU d v)[aT (a:Int) (eU d v)]?=(gH d v a (65536-a))[0]?:=(by rw [hf,hsp,z0G (zI _),z2I]);rw [hg,NK (by omega)];obtain ⟨g1,g2,g3,g4⟩:=kO d true a (by omega);by_cases h4:dS d true a<a+l.length
    ·have hlt:dS d true a<65536:=(by omega);have e:cT d (a:Int) l.length=4:=(by rw [hA,if_neg (by omega),if_pos h4]);rw [if_pos ⟨_,if_pos hlt,by show ((dS d true a:Nat):Int)<_;omega⟩,dH,e,if_neg (by decide)]
    ·have e:cT d (a:Int) l.length=0:=(by rw [hA,if_neg (by omega),if_neg h4]);rw [if_neg (by
      rintro ⟨c,hc,hlt⟩;split at hc
      ·injection hc with hc;subst hc;exact h4 (by have:((dS d true a:Nat):Int)<_:=hlt;omega)
      ·cases hc),dH,e,if_pos rfl]
     congr 1;rw [hf,hsp,List.take_left,List.drop_left];simp only [Int.toNat_natCast];generalize hdk:l.length=k at *;have hno:∀x,a<=x->x<a+k->d x=false:=λx h1 h2=>(by have:=g3 x h1 (by omega);simpa using this);unfold eU;rw [show gH (mY d a k) (fR v a l) 0 65536=gH (mY d a k) (fR v a l) 0 (a+(k+(65536-a-k))) by congr 1;omega,iB,iB,z2H];rw [show gH d v a (65536-a)=gH d v a (k+(65536-a-k)) by congr 1;omega,iB,mS k a hno,z0T];rw [wW k a (λx h1 h2=>by unfold mY;simp;omega),<-hdk,xX,JP];congr 1
     ·exact nQ _ _ (λx h1 h2=>⟨by unfold mY;simp;omega,λ_=>(pF (by omega)).symm⟩)
     ·congr 1;exact nQ _ _ (λx h1 h2=>⟨by unfold mY;simp;omega,λ_=>(pF (by omega)).symm⟩)
theorem jI:∀(l:List UInt8) (a:Nat),(bF a l).length=l.length
 | [],_=>rfl
 | _::l,a=>by rw [bF,VH,jI l,VH]
theorem yK (v:Nat->UInt8):eU (λ_=>false) v=[]:=mS _ _ (λ_ _ _=>rfl)
theorem NS (i:Nat) (st st':lJ × Bool) (s:List UInt8) (r:List (List UInt8)) (h:BO st s=(0,st')):LO i st (s::r)=LO (i+1) st' r:=by rw [LO,h,if_pos rfl]
theorem AS.nil (st:lJ × Bool):AS st [] st:=λ_ _=>rfl
theorem AS.one {a b:lJ × Bool} {s:List UInt8} (h:BO a s=(0,b)):AS a [s] b:=λi r=>NS i a b s r h
end Go.Proofs.YtpigbggoiipmhaaGreatDoor
namespace Go.Proofs.YtpigbggoiipmhaaGreatDoor
open Go.RowKit
section
variable {P:Program} {α:Type} {n:Nat} {enc:α->List Value} {h0:∀x,(enc x).length=n} {h1:∀x,∀u∈enc x,u.oneCell'=true}
end
theorem uW {w w':World} (hb:Below w.heap.size w w') (row:Option Nat):w.grownBy w' row:=⟨hb.os,hb.tape,hb.output,hb.size,λk hk _=>hb.block k hk⟩
theorem Bld.lt {w:World} {B b:Nat} {v:Value} {l:List UInt8} (h:Bld w B b v l):b<w.heap.size:=by obtain ⟨_,⟨p,_,hk⟩,_⟩:=h;exact hk.lt
theorem Bld.stay {w w':World} {B b:Nat} {v:Value} {l:List UInt8} (h:Bld w B b v l) {row:Option Nat} (hg:w.grownBy w' row) (h1:some b≠row) (h2:v.ownBlock=none\/v.ownBlock≠row):Bld w' B b v l:=by obtain ⟨hB,⟨p,hp,hk⟩,ho,hne⟩:=h;exact ⟨hB,⟨p,hp,hk.grown hg h1⟩,ho.kept hg h2,hne⟩
theorem Bld.below {w w':World} {B b:Nat} {v:Value} {l:List UInt8} (h:Bld w B b v l) (hb:Below w.heap.size w w'):Bld w' B b v l:=h.stay (uW hb none) (by simp) (by cases v.ownBlock<;>simp)
section
variable {α:Type} {F:Fence} {n:Nat} {P:Program}
structure rK (B:Nat) (A C:World):Prop where
 size:A.heap.size<=C.heap.size
 same:∀(k:Nat) (o:Obj),B<=k->A.heap[k]?=some o->o.isCells=false->C.heap[k]?=some o
theorem rK.below {B:Nat} {A C:World} (h:Below A.heap.size A C):rK B A C:=⟨h.size,λk _ _ hk _=>(h.block k (jN.1 hk).1).trans hk⟩
theorem rK.trans {B:Nat} {X Y Z:World} (h:rK B X Y) (k:rK B Y Z):rK B X Z:=⟨qJ h.size k.size,λi o hB hi ho=>k.same i o hB (h.same i o hB hi ho) ho⟩
def TkQ (p:Nat->Obj->Prop) (W W':World):Prop:=∀k o,p k o->W.heap[k]?=some o->o.isCells=true->W'.heap[k]?=some o
theorem TkQ.trans {p:Nat->Obj->Prop} {A B C:World} (h:TkQ p A B) (k:TkQ p B C):TkQ p A C:=λi o hp hi hc=>k i o hp (h i o hp hi hc) hc
theorem TkQ.below {p:Nat->Obj->Prop} {W W':World} (h:Below W.heap.size W W'):TkQ p W W':=λk _ _ hk _=>(h.block k (jN.1 hk).1).trans hk
end
attribute [local go_sem] Oper.semAt_some
theorem rK.refl (B:Nat) (W:World):rK B W W:=⟨zI _,λ_ _ _ h _=>h⟩
theorem TkQ.refl {p:Nat->Obj->Prop} (W:World):TkQ p W W:=λ_ _ _ h _=>h
attribute [local go_sem] Oper.semAt_some
theorem SlR.run {w:World} {p:aB} {v:Value} {l:List (Nat × List UInt8)} (h:SlR runR w p v l):∃a cap,v=.slice a l.length cap/\l.length<=cap/\cap<=9223372036854775807/\
  ∀i x,l[i]?=some x->∃b o sa sc,a=some ⟨b,o,none⟩/\p b/\w.cell? ⟨b,o+i*2,none⟩=some (.int .i64 x.1)/\w.cell? ⟨b,o+i*2+1,none⟩=some (.slice sa x.2.length sc)/\SlR aI w p (.slice sa x.2.length sc) x.2:=by
 obtain ⟨a,cap,e,h1,h2,h3⟩:=h;refine ⟨a,cap,e,h1,by simpa [maxLen] using h2,λi x hx=>?_⟩;obtain ⟨b,o,cs,ea,hb,hbs,hc,hr⟩:=h3 i x hx;obtain ⟨c1,c2,ecs,hr1,vs,hv,hs⟩:=hr;have hr1:c1=[.int .i64 x.1]:=hr1;obtain ⟨sa,sc,rfl,_⟩:=hs.byteQ;subst ecs hr1 hv;exact ⟨b,o,sa,sc,ea,hb,hc 0 _ rfl,hc 1 _ rfl,hs⟩
def ImgV (w:World) (mv:Value) (R:List (Nat × List UInt8)):Prop:=(mv=.pointer none/\R=[])\/∃b n d v,mv=.pointer (some ⟨b,0,none⟩)/\eO w b d v n/\R=runsOf d v
theorem ImgV.below {w w':World} {mv:Value} {R:List (Nat × List UInt8)} (h:ImgV w mv R) (hb:Below w.heap.size w w'):ImgV w' mv R:=by
 rcases h with h|⟨b,n,d,v,h1,h2,h3⟩
 ·exact .inl h
 ·exact .inr ⟨b,n,d,v,h1,h2.below hb h2.lt,h3⟩
theorem eO.grown {w w':World} {b n:Nat} {d:Nat->Bool} {v:Nat->UInt8} {row:Option Nat} (h:eO w b d v n) (hg:w.grownBy w' row) (hb:some b≠row):eO w' b d v n:=by
 have hs:w'.heap[b]?=w.heap[b]?:=hg.block b h.lt hb;have hc:∀o,w'.cell? ⟨b,o,none⟩=w.cell? ⟨b,o,none⟩:=λo=>by unfold World.cell?;rw [hs]
 have hf:∀o,w'.frozen? ⟨b,o,none⟩=w.frozen? ⟨b,o,none⟩:=λo=>by unfold World.frozen?;rw [hs]
 exact ⟨λi hi=>(hc i).trans (h.words i hi),(hc 1024).trans h.count,λa ha=>(hc _).trans (h.bytes a ha),λo=>(hf o).trans (h.free o)⟩
set_option maxHeartbeats 2000000
set_option maxRecDepth 100000
def CC:Rep (Int × List UInt8):=Rep.pair oO (Rep.slice aI)
theorem SlR.irun {w:World} {p:aB} {v:Value} {l:List (Int × List UInt8)} (h:SlR CC w p v l):∃a cap,v=.slice a l.length cap/\l.length<=cap/\cap<=9223372036854775807/\
  ∀i x,l[i]?=some x->∃b o sa sc,a=some ⟨b,o,none⟩/\p b/\w.cell? ⟨b,o+i*2,none⟩=some (.int .i64 x.1)/\w.cell? ⟨b,o+i*2+1,none⟩=some (.slice sa x.2.length sc)/\SlR aI w p (.slice sa x.2.length sc) x.2:=by
 obtain ⟨a,cap,e,h1,h2,h3⟩:=h;refine ⟨a,cap,e,h1,by simpa [maxLen] using h2,λi x hx=>?_⟩;obtain ⟨b,o,cs,ea,hb,hbs,hc,hr⟩:=h3 i x hx;obtain ⟨c1,c2,ecs,hr1,vs,hv,hs⟩:=hr;have hr1:c1=[.int .i64 x.1]:=hr1;obtain ⟨sa,sc,rfl,_⟩:=hs.byteQ;subst ecs hr1 hv;exact ⟨b,o,sa,sc,ea,hb,hc 0 _ rfl,hc 1 _ rfl,hs⟩
def sP (l:List (Int × List UInt8)):Nat:=(l.map λr=>min r.2.length 5000).sum
def zJ (l:List (Int × List UInt8)):Bool:=decide (l.length<=60)&&decide (sP l<=3000)
theorem MR {l:List (Int × List UInt8)} {k:Nat} {x:Int × List UInt8} (h:l.take (k+1)=l.take k++[x]):sP (l.take (k+1))=sP (l.take k)+min x.2.length 5000:=by unfold sP;rw [h];simp
theorem JG (l:List (Int × List UInt8)):sP l<=5000*l.length:=by
 unfold sP;induction l with
 | nil=>simp
 | cons x l ih=>rw [z0U,List.sum_cons,VH];omega
theorem AG (p:aB) (v:Value) (l:List (Int × List UInt8)) (w:World) (h:SlR CC w p v l):
  Calls Tryz.prog 36 #[v] w λe w'=>e=.returned (.bool (zJ l))/\w=w':=by
 obtain ⟨a,c,rfl,hc1,hc2,g⟩:=h.irun;have G:=aA g;have hlen:(l.length:Int)<=9223372036854775807:=by omega
 have HLN:=aA hlen;clear h g hc1 hc2 hlen;go_enter Tryz.func36,Tryz.ntmps36;go_wp2;go_loop [3,4] (λz i=>∃(k:Nat) (m:Int),k<=l.length/\i=.int .i64 k/\z=.int .i64 m/\(k<=1000->m=sP (l.take k))) (λ_ i=>l.length-(intOf i).toNat);case atStart=>exact ⟨0,0,YD _,rfl,rfl,λ_=>rfl⟩
 case round=>
  obtain ⟨k,m,hk,rfl,rfl,hm⟩:=hrel;have HM:=aA hm;clear hm;by_cases hlt:k<l.length
  ·have HTK:=aA (MR (ZP hlt));obtain ⟨b1,o1,sa,sc,rfl,_,d0,d1,hsl⟩:=G.out k l[k] (zL hlt);have hsz:(l[k].2.length:Int)<=9223372036854775807:=(by obtain ⟨_,_,e,h1,h2,_⟩:=hsl.byteQ;omega);clear hsl d0;generalize l[k]=x at *;have hk9:=HLN.out;have hmn:min (x.2.length:Int) 5000=((min x.2.length 5000:Nat):Int):=(by omega);have hm2:min x.2.length 5000<=5000:=Nat.min_le_right _ _;have HMN:=aA hmn;clear hmn;by_cases hkk:k<1000
   ·have hme:=HM.out (by omega);have hsl2:=JG (l.take k);have hlk:(l.take k).length<=k:=List.length_take_le _ _;have hm0:(0:Int)<=m:=(by omega);have hm1:m<=5000000:=(by omega);have HME:=aA hme;clear hme hsl2 hlk;go_wp2;rw [HMN.out];go_round;case rel=>exact ⟨k+1,m+(min x.2.length 5000:Nat),by omega,by go_num,by go_num,λ_=>by rw [HTK.out,HME.out];omega⟩
    case measure=>simp [intOf];omega
   ·go_wp2;go_round;case rel=>exact ⟨k+1,_,by omega,by go_num,rfl,λh=>absurd h (by omega)⟩
    case measure=>simp [intOf];omega
  ·obtain rfl:k=l.length:=(by omega);rw [z0L] at HM;by_cases hl60:l.length<=60
   ·have hme:=HM.out (by omega);have hsl2:=JG l;subst hme;have h60:decide ((l.length:Int)<=60)=true:=(by simp;omega);have HF:Hid (zJ l=decide ((sP l:Int)<=3000)):=(by show _=_;unfold zJ;rw [z0P hl60,z0Y,z0C];simp;omega);clear HM hsl2;generalize hq:decide ((sP l:Int)<=3000)=q at *;go_wp2;go_ret;exact ⟨aF (by rw [HF.out]),rfl⟩
   ·have h60:decide ((l.length:Int)<=60)=false:=(by simp;omega);have HF:Hid (zJ l=false):=(by show _=_;unfold zJ;rw [z0A hl60,z1Z]);go_wp2;go_ret;exact ⟨aF HF.out.symm,rfl⟩
end Go.Proofs.YtpigbggoiipmhaaGreatDoor
