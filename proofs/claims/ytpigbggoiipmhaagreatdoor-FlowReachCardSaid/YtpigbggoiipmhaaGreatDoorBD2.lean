/-
  Functions of the program and of the reference, walked; plain facts on what they compute. Conditions: sizes.
-/
import Derived.Test.YtpigbggoiipmhaaGreatDoorBD1
namespace Go.Proofs.YtpigbggoiipmhaaGreatDoor
set_option maxHeartbeats 2000000
set_option maxRecDepth 100000
open Go.RowKit
def pX (w:World) (p:aB) (v:Value) (m:List cJ):Prop:=(m=[]/\v=.slice none 0 0)\/(m≠[]/\SlR cH w p v m)
theorem pX.sl {w:World} {p:aB} {v:Value} {m:List cJ} (h:pX w p v m):SlR cH w p v m:=by
 rcases h with ⟨rfl,rfl⟩|⟨_,h⟩
 ·exact SlR.nil _ _ _
 ·exact h
theorem pX.below {w w':World} {p q:aB} {v:Value} {m:List cJ} (h:pX w p v m) (hb:Below w.heap.size w w') (hq:∀k,p k->q k):pX w' q v m:=by
 rcases h with ⟨rfl,rfl⟩|⟨h0,h⟩
 ·exact .inl ⟨rfl,rfl⟩
 ·exact .inr ⟨h0,(h.old.below hb).mono λk hk=>hq k hk.1⟩
theorem rV:ElT Tryz.prog 41 145 cH.size 16:=ElT.mk' (z:=.agg #[.int .i64 0,.int .u8 0]) Tryz.underlying41 (by kernel_rfl) rfl (by decide)
theorem nT:∀(l:List UInt8) (a k:Nat) (h:k<l.length) (h2:k<(bF a l).length),(bF a l)[k]=⟨a+k,l[k]⟩
 | [],_,_,h,_=>by simp at h
 | b::l,a,0,_,_=>rfl
 | b::l,a,k+1,h,h2=>by show (bF (a+1) l)[k]'_=_;rw [nT l (a+1) k (by simpa using h) (by simpa [jI] using h)];simp;omega
theorem eL (a:Int):∀m:List cJ,aT a m<=m.length
 | []=>zI _
 | c::m=>by
  unfold aT;split
  ·have:=eL a m;simp;omega
  ·simp
def kX (w:World) (p:aB) (m:List cJ) (a:Int) (l:List UInt8) (e:Ending) (w':World):Prop:=∃v',e=.returned (.tuple #[v',.int .i64 ((gS m a l).2:Nat)])/\pX w' (λk=>p k\/w.heap.size<=k) v' (gS m a l).1/\Below w.heap.size w w'
theorem qE {m:List cJ} {a:Int} {l:List UInt8} (h:a<0\/65535<a):gS m a l=(m,2):=by unfold gS;rw [if_pos h]
theorem uI {m:List cJ} {a:Int} {l:List UInt8} (h:¬(a<0\/65535<a)) (h2:(65536:Int)-a<l.length):gS m a l=(m,10):=by unfold gS;rw [if_neg h,if_pos h2]
theorem DK {m:List cJ} {a:Int} (h:¬(a<0\/65535<a)):gS m a []=(m,0):=by unfold gS;rw [if_neg h,if_neg (by simp;omega),if_pos rfl]
theorem tL {m:List cJ} {a:Int} {l:List UInt8} (h:¬(a<0\/65535<a)) (h2:¬(65536:Int)-a<l.length) (h3:l≠[]) (hf:aT a m<m.length) (h4:((m[aT a m]'hf).addr:Int)<a+l.length):gS m a l=(m,4):=by unfold gS;rw [if_neg h,if_neg h2,if_neg h3,if_pos ⟨_,zL hf,h4⟩]
theorem wG {m:List cJ} {a:Int} {l:List UInt8} (h:¬(a<0\/65535<a)) (h2:¬(65536:Int)-a<l.length) (h3:l≠[]) (h4:∀hf:aT a m<m.length,¬((m[aT a m]'hf).addr:Int)<a+l.length):gS m a l=(m.take (aT a m)++bF a.toNat l++m.drop (aT a m),0):=by unfold gS;rw [if_neg h,if_neg h2,if_neg h3,if_neg];rintro ⟨c,hc,hlt⟩;obtain ⟨hf,rfl⟩:=ZV.1 hc;exact h4 hf hlt
theorem UA (p q:aB) (v vb:Value) (m:List cJ) (a:Int) (l:List UInt8) (w:World) (h:pX w p v m) (hs:SlR aI w q vb l) (hl:l.length<=100000) (hm:m.length<=100000) (ha1:-9223372036854775808<=a) (ha2:a<=9223372036854775807) (hc:(gS m a l).2≠0\/l=[]):
  Calls Tryz.prog 39 #[v,.int .i64 a,vb] w (kX w p m a l):=by
 obtain ⟨sa,c,rfl,_⟩:=hs.byteQ;obtain ⟨ma,mc,rfl,_,_,gm⟩:=h.sl.cel;have HFD:=aA (qQ p _ m a w h.sl);have HCV:Hid (pX w (λk=>p k\/w.heap.size<=k) (.slice ma m.length mc) m):=h.below (zY _ _) (λ_ h=>.inl h);have hl1:(l.length:Int)<=100000:=by omega
 have hm1:(m.length:Int)<=100000:=by omega
 have fin:∀c,gS m a l=(m,c)->Hid (kX w p m a l (.returned (.tuple #[.slice ma m.length mc,.int .i64 (c:Nat)])) w):=λc hc=>⟨_,by rw [hc],by rw [hc];exact HCV.out,zY _ _⟩;have FIN:=aA fin;clear fin h hs;by_cases h1:a<0
 ·have hd1:decide (a<0)=true:=by simp;omega
  have HF:=FIN.out 2 (qE (.inl h1));clear h1 hc ha1 ha2 gm;exact tX53
 ·have hd1:decide (a<0)=false:=by simp;omega
  by_cases h2:65535<a
  ·have hd2:decide (65535<a)=true:=(by simp;omega);have HF:=FIN.out 2 (qE (.inr h2));clear h1 h2 hc ha1 ha2 gm;exact tX53
  ·have hd2:decide (65535<a)=false:=(by simp;omega);have hno:¬(a<0\/65535<a):=(by omega);have ha0:(0:Int)<=a:=(by omega);have ha9:a<=65535:=(by omega);by_cases h3:(65536:Int)-a<l.length
   ·have hd3:decide ((65536:Int)-a<(l.length:Int))=true:=(by simp;omega);have HF:=FIN.out 10 (uI hno h3);clear h1 h2 h3 hno hc ha1 ha2 gm;exact tX53
   ·have hd3:decide ((65536:Int)-a<(l.length:Int))=false:=(by simp;omega);by_cases h4:l=[]
    ·subst h4;have HF:=FIN.out 0 (DK hno);clear h1 h2 h3 hno hc ha1 ha2 gm;generalize kX w p m a []=PR at *;exact tX2b
    ·have hlp:=z1P.2 h4;have hd4:((l.length:Int)==0)=false:=(by simp;omega);by_cases h5:∃hf:aT a m<m.length,((m[aT a m]'hf).addr:Int)<a+l.length
     ·obtain ⟨hf,h5⟩:=h5;have HF:=FIN.out 4 (tL hno h3 h4 hf h5);obtain ⟨b1,o1,rfl,_,d0,_⟩:=gm _ _ (zL hf);have hxl:((m[aT a m]'hf).addr:Int)<=300000:=(by omega);clear h1 h2 h3 hno hc ha1 ha2 gm;generalize (m[aT a m]'hf).addr=y at *;generalize aT a m=f at *;generalize kX w p m a l=PR at *;have hf2:(f:Int)<(m.length:Int):=(by omega);have hf3:decide ((f:Int)<(m.length:Int))=true:=(by simp;omega);have hd5:decide ((y:Int)<a+(l.length:Int))=true:=(by simp;omega);exact tX2b
     ·have:=wG hno h3 h4 (λhf h=>h5 ⟨hf,h⟩);rw [this] at hc;rcases hc with hc|hc
      ·exact absurd rfl hc
      ·exact absurd hc h4
set_option maxHeartbeats 4000000
theorem cel_cut {w:World} {p:aB} {sa:Option Addr} {c n:Nat} {l:List cJ} (h:SlR cH w p (.slice sa l.length c) l) (hn:n<=l.length):SlR cH w p (.slice sa n c) (l.take n):=by
 obtain ⟨a',c',e,h1,h2,h3⟩:=h;injection e with e1 e2 e3;subst e1 e3;have hlen:(l.take n).length=n:=by simp;omega
 refine ⟨_,_,by rw [hlen],by omega,h2,λi y hy=>?_⟩;have hi:i<n:=by rw [<-hlen];exact (ZV.1 hy).1
 rw [List.getElem?_take,if_pos hi] at hy;exact h3 i y hy
theorem WK {w:World} {p:aB} {b o c n:Nat} {l:List cJ} (h:SlR cH w p (.slice (some ⟨b,o,none⟩) l.length c) l) (hn:n<=l.length):SlR cH w p (.slice (some ⟨b,o+n*2,none⟩) (l.length-n) (c-n)) (l.drop n):=by
 obtain ⟨a',c',e,h1,h2,h3⟩:=h;injection e with e1 e2 e3;subst e1 e3;have hlen:(l.drop n).length=l.length-n:=by simp
 refine ⟨_,_,by rw [hlen],by omega,by omega,λi y hy=>?_⟩;rw [List.getElem?_drop] at hy;obtain ⟨b',o',cs,e,hp,hlt,hcs,hr⟩:=h3 (n+i) y hy;injection e with e;injection e with e4 e5;subst e4 e5;refine ⟨_,_,cs,rfl,hp,hlt,?_,hr⟩;rw [FG] at hcs ⊢;rw [show o+n*2+i*2=o+(n+i)*2 by omega];exact hcs
theorem PZ (p q:aB) (ma:Option Addr) (mc:Nat) (vb:Value) (m:List cJ) (a:Nat) (l:List UInt8) (w:World) (h:SlR cH w p (.slice ma m.length mc) m) (hs:SlR aI w q vb l) (hl:a+l.length<=65536) (hm:m.length<=100000) (h0:l≠[]) (hf:aT a m<m.length)
  (h4:∀hf:aT a m<m.length,¬((m[aT a m]'hf).addr:Int)<a+l.length) (v1 v2:Value) (l1 l2:List cJ) (e12:m.take (aT a m)=l1/\m.drop (aT a m)=l2) (hv1:SlR cH w p v1 l1) (hv2:SlR cH w p v2 l2)
  (hc1:∀w,(Instr.sliceAt 41 (.slice ma m.length mc) none (some (.int .i64 (aT a m:Nat))) none).run Tryz.prog w=.ok v1 w) (hc2:∀w,(Instr.sliceAt 41 (.slice ma m.length mc) (some (.int .i64 (aT a m:Nat))) none none).run Tryz.prog w=.ok v2 w):
  Calls Tryz.prog 39 #[.slice ma m.length mc,.int .i64 a,vb] w λe w'=>∃v',e=.returned (.tuple #[v',.int .i64 0])/\SlR cH w' (λk=>w.heap.size<=k) v' (l1++bF a l++l2)/\Below w.heap.size w w':=by
 obtain ⟨sa,c,rfl,_,_,gb⟩:=hs.byteQ;have HFD:=aA (qQ p _ m a w h);have hpos:=z1P.2 h0;have hl1:(l.length:Int)<=65536:=by omega
 have hm1:(m.length:Int)<=100000:=by omega
 have ha0:(0:Int)<=(a:Int):=by omega
 have ha9:(a:Int)<=65535:=by omega
 have hd1:decide ((a:Int)<0)=false:=by simp
 have hd2:decide ((65535:Int)<a)=false:=by simp;omega
 have hd3:decide ((65536:Int)-a<(l.length:Int))=false:=by simp;omega
 have hd4:((l.length:Int)==0)=false:=by rw [yW];omega
 have HBS:=aA hs;have HV1:=aA hv1;have HV2:=aA hv2;have HL12:Hid (l1.length+l2.length=m.length):=by exact tX82
 have HLL:=aA hl;have hfl:=eL a m;have hf0:(0:Int)<=(aT a m:Int):=by omega
 have HM:=aA hm;obtain ⟨_,_,em,_,_,gm⟩:=h.cel;injection em with em1 _ em3;subst em1 em3;have HCF:=aA (jI l a);obtain ⟨b1,o1,rfl,_,d0,d0'⟩:=gm _ _ (zL hf);have hd5:decide (((m[aT a m]'hf).addr:Int)<(a:Int)+(l.length:Int))=false:=z0A (h4 hf);have hf2:(aT a m:Int)<(m.length:Int):=by omega
 have hf3:decide ((aT a m:Int)<(m.length:Int))=true:=by simp;omega
 clear h4 gm gb d0';generalize (m[aT a m]'hf).addr=y0 at *;clear h hs hv1 hv2 hl hm e12 hfl hf;generalize aT a m=f at *;go_enter Tryz.func39,Tryz.ntmps39;go_wp2_with (go_at_call 86;refine HFD.out.mono ?_;rintro e w' ⟨rfl,rfl⟩);go_loopw [9,10] (λv i wr=>∃k:Nat,k<=l.length/\i=.int .i64 k/\Own cH wr w.heap.size 145 NoB v ((bF a l).take k)/\Below w.heap.size w wr) (λ_ i _=>l.length-(intOf i).toNat);case atStart=>exact ⟨0,YD _,rfl,Own.nil _ _ _ _ _,zY _ _⟩
 case round=>exact tX1
theorem NP (p q:aB) (ma:Option Addr) (mc:Nat) (vb:Value) (m:List cJ) (a:Nat) (l:List UInt8) (w:World) (h:SlR cH w p (.slice ma m.length mc) m) (hs:SlR aI w q vb l) (hl:a+l.length<=65536) (hm:m.length<=100000) (h0:l≠[]) (hf:¬aT a m<m.length)
  (v1 v2:Value) (l1 l2:List cJ) (e12:m.take (aT a m)=l1/\m.drop (aT a m)=l2) (hv1:SlR cH w p v1 l1) (hv2:SlR cH w p v2 l2)
  (hc1:∀w,(Instr.sliceAt 41 (.slice ma m.length mc) none (some (.int .i64 (aT a m:Nat))) none).run Tryz.prog w=.ok v1 w) (hc2:∀w,(Instr.sliceAt 41 (.slice ma m.length mc) (some (.int .i64 (aT a m:Nat))) none none).run Tryz.prog w=.ok v2 w):
  Calls Tryz.prog 39 #[.slice ma m.length mc,.int .i64 a,vb] w λe w'=>∃v',e=.returned (.tuple #[v',.int .i64 0])/\SlR cH w' (λk=>w.heap.size<=k) v' (l1++bF a l++l2)/\Below w.heap.size w w':=by
 obtain ⟨sa,c,rfl,_,_,gb⟩:=hs.byteQ;have HFD:=aA (qQ p _ m a w h);have hpos:=z1P.2 h0;have hl1:(l.length:Int)<=65536:=by omega
 have hm1:(m.length:Int)<=100000:=by omega
 have ha0:(0:Int)<=(a:Int):=by omega
 have ha9:(a:Int)<=65535:=by omega
 have hd1:decide ((a:Int)<0)=false:=by simp
 have hd2:decide ((65535:Int)<a)=false:=by simp;omega
 have hd3:decide ((65536:Int)-a<(l.length:Int))=false:=by simp;omega
 have hd4:((l.length:Int)==0)=false:=by rw [yW];omega
 have HBS:=aA hs;have HV1:=aA hv1;have HV2:=aA hv2;have HL12:Hid (l1.length+l2.length=m.length):=by exact tX82
 have HLL:=aA hl;have hfl:=eL a m;have hf0:(0:Int)<=(aT a m:Int):=by omega
 have HM:=aA hm;obtain ⟨_,_,em,_,_,gm⟩:=h.cel;injection em with em1 _ em3;subst em1 em3;have HCF:=aA (jI l a);have hd5:decide (aT a m<m.length)=false:=z0A hf;clear h hs hv1 hv2 hl hm e12 gm gb hfl hf;generalize aT a m=f at *;go_enter Tryz.func39,Tryz.ntmps39;go_wp2_with (go_at_call 86;refine HFD.out.mono ?_;rintro e w' ⟨rfl,rfl⟩);go_loopw [9,10] (λv i wr=>∃k:Nat,k<=l.length/\i=.int .i64 k/\Own cH wr w.heap.size 145 NoB v ((bF a l).take k)/\Below w.heap.size w wr) (λ_ i _=>l.length-(intOf i).toNat);case atStart=>exact ⟨0,YD _,rfl,Own.nil _ _ _ _ _,zY _ _⟩
 case round=>exact tX1
theorem CW (a:Option Addr) (n c f:Nat) (hf:f<=n) (hc:n<=c) (w:World):(Instr.sliceAt 41 (.slice a n c) none (some (.int .i64 (f:Nat))) none).run Tryz.prog w=.ok (sliced a 0 f c 2) w:=by rw [run_sliceAt_slice _ _ _ _ _ _ (by kernel_rfl),run_slice_h w _ a n c (by kernel_rfl) .i64 (f:Int) (by omega) (by omega)];go_simp
theorem CS (a:Option Addr) (n c f:Nat) (hf:f<=n) (w:World):(Instr.sliceAt 41 (.slice a n c) (some (.int .i64 (f:Nat))) none none).run Tryz.prog w=.ok (sliced a f n c 2) w:=by rw [run_sliceAt_slice _ _ _ _ _ _ (by kernel_rfl),run_slice_l w _ a n c (by kernel_rfl) .i64 (f:Int) (by omega) (by omega)];go_simp
theorem LJ {w:World} {p:aB} {a:Option Addr} {c:Nat} {m:List cJ} (h:SlR cH w p (.slice a m.length c) m) (f:Nat) (hf:f<=m.length):
  SlR cH w p (sliced a 0 f c 2) (m.take f)/\SlR cH w p (sliced a f m.length c 2) (m.drop f):=by
 have h:=aA h;obtain ⟨a',c',e,h1,h2,_⟩:=h.out;injection e with e1 _ e3;subst e1 e3;by_cases hm:m=[]
 ·subst hm;obtain rfl:f=0:=by simpa using hf
  exact ⟨⟨_,_,rfl,YD _,by simpa using h2,λi x hx=>by simp at hx⟩,⟨_,_,rfl,YD _,by simpa using h2,λi x hx=>by simp at hx⟩⟩
 ·obtain ⟨_,_,e,_,_,g⟩:=h.out.cel;injection e with e1 _ e3;subst e1 e3;have hp:=z1P.2 hm;obtain ⟨b,o,rfl,_⟩:=g 0 _ (zL hp);constructor
  ·unfold sliced;simp only [Option.map_some,Nat.zero_mul,Addr.add_zero',ite_self,Nat.sub_zero];exact cel_cut h.out hf
  ·have hr:=WK h.out hf;unfold sliced;split
   ·next hc=>have h0:m.length-f=0:=(by omega);have hd:m.drop f=[]:=List.drop_eq_nil_of_le (by omega);rw [h0,hd];exact ⟨_,_,rfl,YD _,by omega,λi x hx=>by simp at hx⟩
   ·simp only [Option.map_some,Addr.add_lit];exact hr
theorem LU (p q:aB) (v vb:Value) (m:List cJ) (a:Int) (l:List UInt8) (w:World) (h:pX w p v m) (hs:SlR aI w q vb l) (hl:l.length<=65536) (hm:m.length<=100000) (ha1:-9223372036854775808<=a) (ha2:a<=9223372036854775807):
  Calls Tryz.prog 39 #[v,.int .i64 a,vb] w (kX w p m a l):=by
 by_cases hc:(gS m a l).2≠0\/l=[]
 ·exact UA p q v vb m a l w h hs (by omega) hm ha1 ha2 hc
 ·have h0:l≠[]:=λe=>hc (.inr e);have hz:(gS m a l).2=0:=by
   by_cases e:(gS m a l).2=0
   ·exact e
   ·exact absurd (.inl e) hc
  have hno:¬(a<0\/65535<a):=λe=>by rw [qE e] at hz;simp at hz
  have hw:¬(65536:Int)-a<l.length:=λe=>by rw [uI hno e] at hz;simp at hz
  have h4:∀hf:aT a m<m.length,¬((m[aT a m]'hf).addr:Int)<a+l.length:=λhf e=>by rw [tL hno hw h0 hf e] at hz;simp at hz
  have hy:=wG hno hw h0 h4;obtain ⟨n,rfl⟩:∃n:Nat,a=n:=⟨a.toNat,by omega⟩;obtain ⟨ma,mc,rfl,hmc,_,_⟩:=h.sl.cel;obtain ⟨hv1,hv2⟩:=LJ h.sl _ (eL (n:Int) m);have key:Calls Tryz.prog 39 #[.slice ma m.length mc,.int .i64 n,vb] w λe w'=>∃v',e=.returned (.tuple #[v',.int .i64 0])/\SlR cH w' (λk=>w.heap.size<=k) v' (m.take (aT (n:Int) m)++bF n l++m.drop (aT (n:Int) m))/\Below w.heap.size w w':=by
   by_cases hf:aT (n:Int) m<m.length
   ·exact PZ p q ma mc vb m n l w h.sl hs (by omega) hm h0 hf h4 _ _ _ _ ⟨rfl,rfl⟩ hv1 hv2 (λw=>CW ma m.length mc _ (eL _ m) hmc w) (λw=>CS ma m.length mc _ (eL _ m) w)
   ·exact NP p q ma mc vb m n l w h.sl hs (by omega) hm h0 hf _ _ _ _ ⟨rfl,rfl⟩ hv1 hv2 (λw=>CW ma m.length mc _ (eL _ m) hmc w) (λw=>CS ma m.length mc _ (eL _ m) w)
  refine key.mono ?_;rintro e w' ⟨v',rfl,hv,hb⟩;refine ⟨v',by rw [hy];rfl,?_,hb⟩;rw [hy];refine .inr ⟨?_,hv.mono λk hk=>.inr hk⟩;intro e;have:=congrArg List.length e;simp [jI] at this;exact h0 (by simpa using this.2.1)
set_option maxHeartbeats 2000000
def uS (R:List (Int × List UInt8)):lJ:=R.foldl (λs r=>dH s.1 s.2 r.1 r.2) (λ_=>false,λ_=>0)
theorem MM {R:List (Int × List UInt8)} {k:Nat} (h:k<R.length):uS (R.take (k+1))=dH (uS (R.take k)).1 (uS (R.take k)).2 R[k].1 R[k].2:=by unfold uS;rw [ZP h,List.foldl_append];rfl
theorem BM (d:Nat->Bool) (v:Nat->UInt8):∀n a,(gH d v a n).length<=n
  | 0,_=>zI _
  | n+1,a=>by
    have:=BM d v n (a+1);unfold gH;split
    · simp;omega
    · rw [z0T];omega
theorem CF (d:Nat->Bool) (v:Nat->UInt8):(eU d v).length<=65536:=BM d v _ _
theorem RG {x:Nat}:∀{l:List Nat},x∈l->x<=l.sum
  | y::l,h=>by
    rw [List.sum_cons];rcases ZR.1 h with rfl|h
    · omega
    · have:=RG h;omega
theorem YA {R:List (Int × List UInt8)} (h:zJ R=true):R.length<=60/\∀r∈R,r.2.length<=3000:=by
  unfold zJ at h;simp only [Bool.and_eq_true,decide_eq_true_eq] at h;refine ⟨h.1,λr hr=>?_⟩;have hle:min r.2.length 5000<=sP R:=by unfold sP;exact RG (z2A.2 ⟨r,hr,rfl⟩)
  omega
theorem ZO {w':World} {b n:Nat} {d:Nat->Bool} {v:Nat->UInt8} {a:Int} {l:List UInt8} (h:Put w' b n d v a l):∃n',n'<=n+l.length/\eO w' b (dH d v a l).1 (dH d v a l).2 n':=by
  unfold Put at h;unfold dH;by_cases hc:cT d a l.length=0
  · rw [if_pos hc] at h ⊢;exact ⟨_,zI _,h⟩
  · rw [if_neg hc] at h ⊢;exact ⟨n,by omega,h⟩
structure EH (w0 w:World) (b:Nat) (cv:Value) (S:lJ) (n:Nat):Prop where
  img:eO w b S.1 S.2 n
  cells:pX w (λx=>b<x) cv (eU S.1 S.2)
  at_:w0.heap.size<=b
  below:Below w0.heap.size w0 w
theorem pX.keep {w w':World} {p:aB} {v:Value} {m:List cJ} (h:pX w p v m) (hk:aS (λk=>p k/\k<w.heap.size) w w'):pX w' p v m:=by
  rcases h with ⟨rfl,rfl⟩|⟨h0,h⟩
  · exact .inl ⟨rfl,rfl⟩
  · exact .inr ⟨h0,(h.old.keep hk).mono λ_ hq=>hq.1⟩
theorem EH.one {w0 w w1:World} {b n:Nat} {cv:Value} {S:lJ} {a:Int} {l:List UInt8} (h:EH w0 w b cv S n) (hb:Below w.heap.size w w1):
    eO w1 b S.1 S.2 n/\∀w2,w1.grownBy w2 (some b)->Put w2 b n S.1 S.2 a l->∃n',n'<=n+l.length/\eO w2 b (dH S.1 S.2 a l).1 (dH S.1 S.2 a l).2 n'/\pX w2 (λx=>b<x) cv (eU S.1 S.2)/\Below w0.heap.size w0 w2:=by
  have hi:=h.img.below hb h.img.lt;refine ⟨hi,λw2 hg hp=>?_⟩;obtain ⟨n',hn,hi2⟩:=ZO hp;refine ⟨n',hn,hi2,?_,?_⟩
  · have hc:=h.cells.below hb (λ_ hk=>hk);refine hc.keep (aS.grown hg λk hk=>⟨hk.2,λe=>?_⟩);injection e with e;have:=hk.1;omega
  · exact (h.below.trans (hb.mono h.below.size)).grown hg (qJ h.below.size hb.size) (λk e=>by injection e with e;have:=h.at_;omega)
theorem EH.two {w0 w2 w3:World} {b n:Nat} {S:lJ} {a:Int} {l:List UInt8} {e:Ending} (hi:eO w2 b (dH S.1 S.2 a l).1 (dH S.1 S.2 a l).2 n) (hat:w0.heap.size<=b) (hb0:Below w0.heap.size w0 w2)
    (h:kX w2 (λx=>b<x) (eU S.1 S.2) a l e w3):∃v' c:Value,e=.returned (.tuple #[v',c])/\EH w0 w3 b v' (dH S.1 S.2 a l) n:=by
  obtain ⟨v',rfl,hv,hb⟩:=h;rw [PN] at hv ⊢;refine ⟨v',_,rfl,hi.below hb hi.lt,?_,hat,hb0.trans (hb.mono hb0.size)⟩;rcases hv with ⟨h1,h2⟩|⟨h1,h2⟩
  · exact .inl ⟨h1,h2⟩
  · exact .inr ⟨h1,h2.mono λk hk=>by rcases hk with hk|hk;exact hk;have:=hi.lt;omega⟩
theorem Build_yes (p:aB) (v:Value) (R:List (Int × List UInt8)) (w:World) (h:SlR CC w p v R) (hT:Deb w) (hA:∀r∈R,-9223372036854775808<=r.1/\r.1<=9223372036854775807) (hf:zJ R=true):
    Calls Tryz.prog 15 #[v] w λe w'=>∃b n cv,e=.returned (.tuple #[.pointer (some ⟨b,0,none⟩),cv])/\EH w w' b cv (uS R) n:=by
  have HF:=aA (AG p v R w h);rw [hf] at HF;obtain ⟨hl60,hl3⟩:=YA hf;obtain ⟨ra,rc,rfl,_,_,g⟩:=h.irun;have G:=aA g;have HT:=aA hT;have HA:=aA hA;have HL3:=aA hl3;have hlen:(R.length:Int)<=60:=by omega
  clear g hT hA hl3 h hf;go_enter Tryz.func15,Tryz.ntmps15
  go_wp2_with (first
    | (go_at_call 36;refine HF.out.mono ?_;rintro e w' ⟨rfl,rfl⟩)
    | (go_at_call 37;refine (ZK _).mono ?_;rintro e w1 ⟨rfl,hi,hb⟩;have HI1:=aA hi;have HB1:=aA hb;clear hi hb))
  go_loopw [5,14] (λcv i wr=>∃k n:Nat,k<=R.length/\i=.int .i64 k/\n<=3000*k/\EH w wr w.heap.size cv (uS (R.take k)) n) (λ_ i _=>R.length-(intOf i).toNat);case atStart=>exact ⟨0,0,YD _,rfl,zI _,HI1.out,.inl ⟨yK _,rfl⟩,zI _,HB1.out⟩
  case round=>
    obtain ⟨k,n,hk,rfl,hn,hr⟩:=hrel;have HR:=aA hr;clear hr;by_cases hlt:k<R.length
    · obtain ⟨b1,o1,sa,sc,rfl,_,d0,d1,hsl⟩:=G.out k R[k] (zL hlt);have HSU:=aA (MM hlt);have hlx:R[k].2.length<=3000:=HL3.out _ (z0J hlt);obtain ⟨hx1,hx2⟩:=HA.out _ (z0J hlt);have HSL:=aA hsl;have e0:=(HR.out.below.cell (QI _ _ d0)).trans d0;have e1:=(HR.out.below.cell (QI _ _ d1)).trans d1;generalize R[k]=x at *;clear d0 d1 hsl;have HAL:Hid (Below wr.heap.size wr (wr.alloc (.cells #[.int .i64 x.1,.slice sa x.2.length sc] 62))):=(zY _ wr).alloc (zI _) _;have HLT:Hid (w.heap.size<wr.heap.size):=HR.out.img.lt;generalize uS (R.take k)=S at *;have hn9:n<=900000000:=by omega
      go_wp2_with (first
        | (go_at_call 38
           have hone:=HR.out.one (l:=x.2) (a:=x.1) HAL.out;refine (Put_any w.heap.size n x.1 _ _ _ _ x.2 _ hone.1 hn9 (HSL.out.old.below (HR.out.below.trans (HAL.out.mono HR.out.below.size))) (HT.out.below (HR.out.below.trans (HAL.out.mono HR.out.below.size))) hx1 hx2 (by omega)).mono ?_;rintro e w2 ⟨rfl,hp,hg⟩;obtain ⟨n',hn',hi2,hc2,hb2⟩:=hone.2 w2 hg hp;have HI2:=aA hi2;have HC2:=aA hc2;have HB2:=aA hb2;have hbl:=hg.block wr.heap.size (by simp) (λe=>by injection e with e;have:=HLT.out;omega);have d2:w2.cell? ⟨wr.heap.size,0,none⟩=some (.int .i64 x.1):=(z0E (w:=wr.alloc (.cells #[.int .i64 x.1,.slice sa x.2.length sc] 62)) hbl).trans (by go_simp);have d3:w2.cell? ⟨wr.heap.size,1,none⟩=some (.slice sa x.2.length sc):=(z0E (w:=wr.alloc (.cells #[.int .i64 x.1,.slice sa x.2.length sc] 62)) hbl).trans (by go_simp);clear hone hp hg hi2 hc2 hb2 hbl)
        | (go_at_call 39
           refine (LU (λy=>w.heap.size<y) _ _ _ _ x.1 x.2 _ HC2.out (HSL.out.old.below HB2.out) (by omega) (qJ (CF _ _) (by omega)) hx1 hx2).mono ?_;rintro e w3 h3;obtain ⟨v3,c3,rfl,hbo⟩:=EH.two HI2.out (zI _) HB2.out h3;have HBO:=aA hbo;clear h3 hbo))
      go_roundw;case rel=>exact ⟨k+1,n',by omega,by go_num,by omega,by rw [HSU.out];exact HBO.out⟩
      case measure=>simp [intOf];omega
    · obtain rfl:k=R.length:=(by omega);rw [z0L] at HR;go_wp2;go_ret2;exact ⟨_,_,_,rfl,HR.out⟩
set_option maxHeartbeats 1000000
theorem and_has (d:Nat->Bool) (a:Nat):bits .and .u64 (((dQ d (a/64):Nat):Int)/2^(a%64)) 1=if d a=true then 1 else 0:=by
 rw [BE];have h1:=sB d true a 0;have h2:=DY d true a;have h3:a%64+0<64:=by omega
 rw [z0P h3] at h1;simp only [Bool.true_and,Nat.add_zero,Nat.testBit_zero] at h1;generalize qC d true a=s at *;have h4:s&&& 1=s%2:=Nat.and_one_is_mod s;have h5:bits .and .u64 (s:Int) ((1:Nat):Int)=((s&&& 1:Nat):Int):=u64_and_nat _ _ (by omega) (by omega);rw [show ((1:Nat):Int)=1 from rfl] at h5;rw [h5,h4];cases hd:d a
 ·rw [hd] at h1;have:¬s%2=1:=by simpa using h1
  rw [if_neg (by decide)];omega
 ·rw [hd] at h1;have:s%2=1:=by simpa using h1
  rw [if_pos rfl];omega
theorem DJ (b n a:Nat) (d:Nat->Bool) (v:Nat->UInt8) (w:World) (h:eO w b d v n) (ha:a<65536):
  Calls Tryz.prog 95 #[.pointer (some ⟨b,0,none⟩),.int .i64 a] w λe w'=>e=.returned (.bool (d a))/\w'=w:=by
 have hw:=h.words (a/64) (by omega);have hai:(0:Int)<=a:=by omega
 have hai2:(a:Int)/64<1024:=by omega
 have hai3:(0:Int)<=(a:Int)/64:=by omega
 have HO:=aA (and_has d a);generalize dQ d (a/64)=W at *;clear h;go_enter Tryz.func95,Tryz.ntmps95;go_wp2;go_ret;rw [HO.out];cases d a<;>exact ⟨rfl,rfl⟩
set_option maxRecDepth 1000000 in
theorem imgGet_any (b n a:Nat) (d:Nat->Bool) (v:Nat->UInt8) (w:World) (h:eO w b d v n) (ha:a<65536):
  Calls Tryz.prog 49 #[.pointer (some ⟨b,0,none⟩),.int .i64 a] w λe w'=>e=.returned (.tuple #[.int .u8 (if d a=true then ((v a).toNat:Int) else 0),.bool (d a)])/\w'=w:=by
 have hb:=h.bytes a ha;have hai:(0:Int)<=a:=by omega
 have ham:(a:Int)<=100000:=by omega
 have h1:decide ((a:Int)<0)=false:=by simp
 have h2:decide ((65536:Int)<=a)=false:=by rw [decide_eq_false_iff_not];omega
 have h3:decide ((a:Int)<65536)=true:=by rw [decide_eq_true_iff];omega
 have HS:=aA (DJ b n a d v w h ha);clear h ha;cases hd:d a
 ·rw [hd] at HS;clear hd h3;go_enter Tryz.func49,Tryz.ntmps49;go_wp2_with (go_at_call 95;refine HS.out.mono ?_;rintro e w1 ⟨rfl,rfl⟩);exact yR (v:=.tuple #[.int .u8 0,.bool false]) (by simp [results,Tryz.results49,go_sem]) rfl ⟨rfl,rfl⟩
 ·rw [hd] at HS;clear hd;go_enter Tryz.func49,Tryz.ntmps49;go_upto_region 3 with (go_at_call 95;refine HS.out.mono ?_;rintro e w1 ⟨rfl,rfl⟩);have hge:((65536:Int)<=(a:Int))=False:=by rw [decide_eq_false_iff_not] at h2;exact eq_false h2
  have hx:(a:Int)<65536:=by rw [decide_eq_true_iff] at h3;exact h3
  clear h1 h2 hge h3 ham HS;go_wp2;exact yR (v:=.tuple #[.int .u8 (v a).toNat,.bool true]) (by simp [results,Tryz.results49,go_sem]) rfl ⟨rfl,rfl⟩
end Go.Proofs.YtpigbggoiipmhaaGreatDoor
