/-
  The reference's canonical form. Conditions: at most a million operands.
-/
import Derived.Test.YtpigbggoiipmhaaGreatDoorBA9
import Derived.Test.YtpigbggoiipmhaaGreatDoorBE1
namespace Go.Proofs.YtpigbggoiipmhaaGreatDoor
set_option maxHeartbeats 4000000
set_option maxRecDepth 100000
open Go.RowKit
theorem Ro.setN {w wx:World} {s:ByteArray} {vi:Value} {b o n c k:Nat} {l:List Opd} {x:Opd} {m:Int} (h:Ro w wx s vi (.slice (some ⟨b,o,none⟩) n c) l) (hx:l[k]?=some x) (hq:w.heap.size+1+1+1<=b):
  Ro w (wx.setCell ⟨b,o+k * 3+2,none⟩ (.int .i64 m)) s vi (.slice (some ⟨b,o,none⟩) n c) (l.set k {x with n:=m}):=
 ⟨h.b1.far (by show w.heap.size≠b;omega) _,h.b2.far (by show w.heap.size+1≠b;omega) _,h.b3.far (by show w.heap.size+1+1≠b;omega) _,h.own.setN hx,h.below.setCell (by show w.heap.size<=b;omega) _⟩
theorem yU {sz:Int} {x:Opd} (h:¬(x.kind=6/\x.n < 0/\-(sz / 2)<=x.n/\1 < sz)):fE sz x=x:=by unfold fE;rw [if_neg h]
theorem uF {sz:Int} {x:Opd} (h:x.kind=6/\x.n < 0/\-(sz / 2)<=x.n/\1 < sz):fE sz x={x with n:=x.n+sz}:=by unfold fE;rw [if_pos h]
def sO (s:ByteArray) (l:List Opd):List Opd:=match l with
 | [x,y]=>if inL iM s&&aP x kM then [y] else [x,y]
 | l=>l
def FE (s:ByteArray) (l:List Opd):List Opd:=match l with
 | [x]=>if inL iS s then [kM,x] else [x]
 | l=>l
theorem aD.tail {w:World} {q:aB} {b o n c:Nat} {x:Opd} {l:List Opd} (h:aD w q (.slice (some ⟨b,o,none⟩) n c) (x::l)):
  aD w q (.slice (if c=1 then some ⟨b,o,none⟩ else some ⟨b,o+3,none⟩) l.length (c - 1)) l:=by
 obtain ⟨a0,c0,e0,h1,h2,h3⟩:=h;injection e0 with e1 e2 e3;subst e1 e2 e3;rw [VH] at h1;refine ⟨_,c - 1,rfl,by omega,by omega,λi y hy=>?_⟩;obtain ⟨b',o',e,hq,hb,c0,c1,c2,hf⟩:=h3 (i+1) y (by simpa using hy);injection e with e;injection e with e1 e2;subst e1 e2;have hlt:=(ZV.1 hy).1;rw [if_neg (by omega)];refine ⟨b,o+3,rfl,hq,hb,?_,?_,?_,hf⟩
 ·rw [show o+3+i * 3=o+(i+1) * 3 by omega];exact c0
 ·rw [show o+3+i * 3=o+(i+1) * 3 by omega];exact c1
 ·rw [show o+3+i * 3=o+(i+1) * 3 by omega];exact c2
def exb (s:ByteArray) (l:List Opd):Bool:=(s.toList==[69,88])&&decide (l=[mW,mT])
theorem sW (s:ByteArray) (l:List Opd):gI s l=if exb s l then [mT,mW] else l:=rfl
theorem list2 {α:Type} {l:List α} (h:l.length=2):∃x y,l=[x,y]:=by
 match l,h with
 | [x,y],_=>exact ⟨x,y,rfl⟩
theorem list1 {α:Type} {l:List α} (h:l.length=1):∃x,l=[x]:=by
 match l,h with
 | [x],_=>exact ⟨x,rfl⟩
theorem acc1_no {s:ByteArray} {l:List Opd} (h:t1 s l=false):sO s l=l:=by
 match l with
 | []=>rfl
 | [_]=>rfl
 | [x,y]=>have h':(inL iM s&&aP x kM)=false:=h;simp [sO,h']
 | _::_::_::_=>rfl
theorem SP {s:ByteArray} {l:List Opd} (h:t1 s l=true):∃x y,l=[x,y]/\sO s l=[y]:=by
 match l,h with
 | [],h=>simp [t1] at h
 | [_],h=>simp [t1] at h
 | [x,y],h=>have h':(inL iM s&&aP x kM)=true:=h;exact ⟨x,y,rfl,by simp [sO,h']⟩
 | _::_::_::_,h=>simp [t1] at h
theorem AZ {s:ByteArray} (h:inL iM s=true):inL iS s=false:=by have hs:=yM.1 h;simp only [iM,List.mem_cons,List.not_mem_nil,or_false] at hs;rcases hs with rfl | rfl | rfl | rfl | rfl<;>simp [inL,iS,Go.ByteArray.toList_eq]
theorem MQ (s:ByteArray) (l:List Opd):FE s (sO s l)=cP s l:=by
 match l with
 | []=>rfl
 | [x]=>rfl
 | [x,y]=>
  simp only [sO,cP];cases h:inL iM s&&aP x kM
  ·simp [FE]
  ·have:=AZ (by simpa using And.left (by simpa using h));simp [FE,this]
 | x::y::z::l=>rfl
theorem jS (p:aB) (x:Ins) (v:Value) (w:World) (h:SlR aM w p v x.args) (hn:x.args.length<=1000000) (hf:∀y∈x.args,cN y.n):
  Calls Tryz.prog 79 #[.agg #[.string x.op,v]] w λe w'=>∃v',e=.returned (.agg #[.string x.op,v'])/\aD w' (λb=>w.heap.size<=b) v' (aE x).args/\Below w.heap.size w w':=by
 obtain ⟨s,l⟩:=x;dsimp only at *;obtain ⟨a,c,rfl,_⟩:=h.opd;have H:=aA h;have HN:=aA hn;have HF:=aA hf;clear h hn hf;obtain ⟨W,hW⟩:∃W:World,W=((((w.alloc (.cells #[.string s,.slice a l.length c] 30)).alloc (.cells #[.string ⟨#[]⟩,.slice none 0 0] 30)).alloc (.cells #[.int .i64 1,.int .i64 7,.int .i64 0] 52)).alloc (.cells #[] 52)):=⟨_,rfl⟩;have HBW:Hid (Below w.heap.size w W):=hW ▸ ((((zY _ _).alloc (zI _) _).alloc (by simp) _).alloc (by simp;omega) _).alloc (by simp;omega) _;have K1:Hid (Blk W w.heap.size 30 #[.string s,.slice a l.length c]):=hW ▸ (((Blk.new w _ _).alloc _).alloc _).alloc _;have K2:Hid (Blk W (w.heap.size+1) 30 #[.string ⟨#[]⟩,.slice none 0 0]):=by have:=((Blk.new (w.alloc (.cells #[.string s,.slice a l.length c] 30)) 30 #[.string ⟨#[]⟩,.slice none 0 0]).alloc (.cells #[.int .i64 1,.int .i64 7,.int .i64 0] 52)).alloc (.cells #[] 52);rw [<-hW] at this;exact aA (by simpa using this)
 have K3:Hid (Blk W (w.heap.size+1+1) 52 #[.int .i64 1,.int .i64 7,.int .i64 0]):=by have:=(Blk.new ((w.alloc (.cells #[.string s,.slice a l.length c] 30)).alloc (.cells #[.string ⟨#[]⟩,.slice none 0 0] 30)) 52 #[.int .i64 1,.int .i64 7,.int .i64 0]).alloc (.cells #[] 52);rw [<-hW] at this;exact aA (by simpa using this)
 have HO:Hid (Own aM W (w.heap.size+1+1+1) 52 NoB (.slice (some ⟨w.heap.size+1+1+1,0,none⟩) 0 0) []):=by have:=Own.made (R:=aM) (((w.alloc (.cells #[.string s,.slice a l.length c] 30)).alloc (.cells #[.string ⟨#[]⟩,.slice none 0 0] 30)).alloc (.cells #[.int .i64 1,.int .i64 7,.int .i64 0] 52)) 52 NoB;rw [<-hW] at this;exact aA (by simpa using this)
 have HX:Hid (SlR aM W (λk=>p k/\k < w.heap.size) (.slice a l.length c) l):=H.out.old.below HBW.out;have hsz:W.heap.size=w.heap.size+4:=by rw [hW];simp
 have C2:Hid (∀k,p k/\k < w.heap.size->some k≠Value.ownBlock (.slice (some ⟨w.heap.size+1+1+1,0,none⟩) 0 0)):=λk hk e=>by simp [Value.ownBlock] at e;omega
 have HSZ:=aA hsz;have HW:=aA hW;rw [hW] at HO HX;clear hsz hW;go_enter Tryz.func79,Tryz.ntmps79;go_upto_region 3 with (at_builtin;refine dJ _ rfl (.tmp 10) (.tmp 12) 28 rfl (w.heap.size+1+1+1) 52 24 lH NoB _ _ _ [] l rfl rfl HO.out HX.out (λ_ h=>False.elim h) C2.out (by have:=HN.out;simp;omega) (by have:=HN.out;simp;omega) (by have:=HSZ.out;rw [HW.out] at this;simp at this ⊢) ?_;intro v1 w1 hap;obtain ⟨a1,c1,rfl⟩:=hap.1.form;have HAP:=aA hap;clear hap);have HR1:Hid (Ro w w1 s (.slice a l.length c) (.slice a1 l.length c1) l):=by have hg:=HAP.out.2.1;rw [<-HW.out] at hg;have hlt:∀k,k < w.heap.size+1+1+1->w1.heap[k]?=W.heap[k]?:=λk hk=>hg.block k (by rw [HSZ.out];omega) (λe=>by have:k=w.heap.size+1+1+1:=ZS e;omega);exact ⟨(hlt _ (by omega)).trans K1.out,(hlt _ (by omega)).trans K2.out,(hlt _ (by omega)).trans K3.out,(by have:=HAP.out.1.opdOwn (q:=λb=>w.heap.size+1+1+1<=b) (λk hk=>(HAP.out.1.lt k hk).1);exact this),HBW.out.grown hg HBW.out.size (λk hk=>by have:w.heap.size+1+1+1=k:=ZS hk;omega)⟩
 clear HAP;go_cut [29] (λs29 wx=>s29=.bool (t1 s l)/\Ro w wx s (.slice a l.length c) (.slice a1 l.length c1) l);case first=>
  have HIN:=gK (λ_=>True) (.slice (some ⟨w1.heap.size,0,none⟩) 5 5) iM s ((w1.alloc (.cells #[.string ⟨#[83,85,66]⟩,.string ⟨#[65,78,68]⟩,.string ⟨#[88,79,82]⟩,.string ⟨#[79,82]⟩,.string ⟨#[67,80]⟩] 9)).drew) (kB w1 9 (λ_=>True) iM w1.heap.size rfl trivial (by simp [iM,maxLen])).drew;obtain ⟨e0,e1,_,_⟩:=HR1.out.b1.two;have n0:=HR1.out.b1.lt;cases h1:inL iM s
  ·rw [h1] at HIN;have HIN:=aA HIN;have HV:=aA (show t1 s l=false by simp [t1,h1]);refine wp_region_held_drew (S:=(λw'=>w'.cell? ⟨w.heap.size,0,none⟩=some (.string s)/\w'.cell? ⟨w.heap.size,1,none⟩=some (.slice a l.length c))) (by kernel_rfl) ?hS1_0 (λhHeld=>?hR1_0);case hS1_0=>(try dsimp only);go_keep
   refine tk 1 15 ?_
   (try simp only [Act.put,List.setIfInBounds_toArray,List.set_cons_zero,List.set_cons_succ])
   refine tk 2 16 ?_
   (try simp only [Act.put,List.setIfInBounds_toArray,List.set_cons_zero,List.set_cons_succ])
   refine wpAnyH_ready (rs:=[0]) (by kernel_rfl) (by simp) ?_;refine AllReadyH.cons (o:=⟨some 14,_,_,_,_,_⟩) rfl (λK hK=>?st1_3) AllReadyH.nil;go_simp;refine hK.out _ _ ?hS1_3 (λhHeld=>?r1_3);case hS1_3=>(try dsimp only);go_keep
   clear hK K
   (try simp only [Act.put,List.setIfInBounds_toArray])
   refine wpAnyH_ready (rs:=[3]) (by kernel_rfl) (by simp) ?_;refine AllReadyH.cons (o:=⟨some 17,_,_,_,_,_⟩) rfl (λK hK=>?st1_4) AllReadyH.nil
   (go_simp;go_at_call 131;refine HIN.out.mono ?_;rintro e w' ⟨rfl,rfl⟩;go_wp2_with fail)
   refine hK.out _ _ ?hS1_4 (λhHeld=>?r1_4);case hS1_4=>(try dsimp only);go_keep
   clear hK K
   (try simp only [Act.put,List.setIfInBounds_toArray])
   refine tk 4 18 ?_
   (try simp only [Act.put,List.setIfInBounds_toArray,List.set_cons_zero,List.set_cons_succ])
   refine wpAnyH_take (i:=5) (oi:=⟨some 19,_,_,_,_,_⟩) (v:=undef) rfl (by kernel_rfl) (by kernel_rfl) (by kernel_rfl) (λ_ _ _ h=>h) (Or.inr ⟨by rfl,rfl⟩) (by assumption) ?_
   (try simp only [Act.put,List.setIfInBounds_toArray,List.set_cons_zero,List.set_cons_succ])
   refine wpAnyH_take (i:=6) (oi:=⟨some 20,_,_,_,_,_⟩) (v:=undef) rfl (by kernel_rfl) (by kernel_rfl) (by kernel_rfl) (λ_ _ _ h=>h) (Or.inr ⟨by rfl,rfl⟩) (by assumption) ?_
   (try simp only [Act.put,List.setIfInBounds_toArray,List.set_cons_zero,List.set_cons_succ])
   refine wpAnyH_take (i:=7) (oi:=⟨some 21,_,_,_,_,_⟩) (v:=undef) rfl (by kernel_rfl) (by kernel_rfl) (by kernel_rfl) (λ_ _ _ h=>h) (Or.inr ⟨by rfl,rfl⟩) (by assumption) ?_
   (try simp only [Act.put,List.setIfInBounds_toArray,List.set_cons_zero,List.set_cons_succ])
   refine tk 8 22 ?_
   (try simp only [Act.put,List.setIfInBounds_toArray,List.set_cons_zero,List.set_cons_succ])
   refine tk 9 23 ?_
   (try simp only [Act.put,List.setIfInBounds_toArray,List.set_cons_zero,List.set_cons_succ])
   refine wpAnyH_take (i:=10) (oi:=⟨some 24,_,_,_,_,_⟩) (v:=undef) rfl (by kernel_rfl) (by kernel_rfl) (by kernel_rfl) (λ_ _ _ h=>h) (Or.inr ⟨by rfl,rfl⟩) (by assumption) ?_
   (try simp only [Act.put,List.setIfInBounds_toArray,List.set_cons_zero,List.set_cons_succ])
   refine wpAnyH_take (i:=11) (oi:=⟨some 25,_,_,_,_,_⟩) (v:=undef) rfl (by kernel_rfl) (by kernel_rfl) (by kernel_rfl) (λ_ _ _ h=>h) (Or.inr ⟨by rfl,rfl⟩) (by assumption) ?_
   (try simp only [Act.put,List.setIfInBounds_toArray,List.set_cons_zero,List.set_cons_succ])
   refine wpAnyH_take (i:=12) (oi:=⟨some 26,_,_,_,_,_⟩) (v:=undef) rfl (by kernel_rfl) (by kernel_rfl) (by kernel_rfl) (λ_ _ _ h=>h) (Or.inr ⟨by rfl,rfl⟩) (by assumption) ?_
   (try simp only [Act.put,List.setIfInBounds_toArray,List.set_cons_zero,List.set_cons_succ])
   refine wpAnyH_take (i:=13) (oi:=⟨some 27,_,_,_,_,_⟩) (v:=undef) rfl (by kernel_rfl) (by kernel_rfl) (by kernel_rfl) (λ_ _ _ h=>h) (Or.inr ⟨by rfl,rfl⟩) (by assumption) ?_
   (try simp only [Act.put,List.setIfInBounds_toArray,List.set_cons_zero,List.set_cons_succ])
   refine wpAnyH_take (i:=14) (oi:=⟨some 28,_,_,_,_,_⟩) (v:=undef) rfl (by kernel_rfl) (by kernel_rfl) (by kernel_rfl) (λ_ _ _ h=>h) (Or.inr ⟨by rfl,rfl⟩) (by assumption) ?_
   (try simp only [Act.put,List.setIfInBounds_toArray,List.set_cons_zero,List.set_cons_succ])
   refine tk 15 29 ?_
   (try simp only [Act.put,List.setIfInBounds_toArray,List.set_cons_zero,List.set_cons_succ])
   refine wpAnyH_done (by kernel_rfl) ?_ _;go_wp2_with fail;go_meet;case rel=>exact ⟨congrArg Value.bool HV.out.symm,(HR1.out.alloc _).drew⟩
  ·rw [h1] at HIN;have HIN:=aA HIN;by_cases hl:l.length=2
   ·obtain ⟨x,y,hxy⟩:=list2 hl;have hb2:((l.length:Int)==2)=true:=(by rw [hl];rfl);have hb0:0 < l.length:=(by omega);have hb0i:(0:Int) < l.length:=(by omega);obtain ⟨a',c',ea,_,_,g⟩:=HR1.out.own;injection ea with ea1 ea2 ea3;clear ea2;subst ea1 ea3;obtain ⟨b,o,rfl,hq,hb,c0,c1,c2,_⟩:=g 0 x (by rw [hxy];rfl);rw [z0Z,z0N] at c0 c1 c2;obtain ⟨k0,k1,k2,_,_,_⟩:=HR1.out.b3.three;have n3:=HR1.out.b3.lt;have hop:=gD;have HXY:=aA hxy;clear g hl hxy hq;cases h2:aP x kM
    ·have hx:aP ⟨x.kind,x.reg,x.n⟩ ⟨1,7,0⟩=false:=h2;have HV:=aA (show t1 s l=false by rw [HXY.out];simp [t1,h2]);refine wp_region_held_drew (S:=(λw'=>w'.cell? ⟨w.heap.size,0,none⟩=some (.string s)/\w'.cell? ⟨w.heap.size,1,none⟩=some (.slice a l.length c)/\w'.cell? ⟨b,o,none⟩=some (.int .i64 x.kind)/\w'.cell? ⟨b,o+1,none⟩=some (.int .i64 x.reg)/\w'.cell? ⟨b,o+2,none⟩=some (.int .i64 x.n)/\w'.cell? ⟨w.heap.size+1+1,0,none⟩=some (.int .i64 1)/\w'.cell? ⟨w.heap.size+1+1,1,none⟩=some (.int .i64 7)/\w'.cell? ⟨w.heap.size+1+1,2,none⟩=some (.int .i64 0))) (by kernel_rfl) ?hS2_0 (λhHeld=>?hR2_0);case hS2_0=>(try dsimp only);go_keep
     refine tk 1 15 ?_
     (try simp only [Act.put,List.setIfInBounds_toArray,List.set_cons_zero,List.set_cons_succ])
     refine tk 2 16 ?_
     (try simp only [Act.put,List.setIfInBounds_toArray,List.set_cons_zero,List.set_cons_succ])
     refine wpAnyH_ready (rs:=[0]) (by kernel_rfl) (by simp) ?_;refine AllReadyH.cons (o:=⟨some 14,_,_,_,_,_⟩) rfl (λK hK=>?st2_3) AllReadyH.nil;go_simp;refine hK.out _ _ ?hS2_3 (λhHeld=>?r2_3);case hS2_3=>(try dsimp only);go_keep
     clear hK K
     (try simp only [Act.put,List.setIfInBounds_toArray])
     refine wpAnyH_ready (rs:=[3]) (by kernel_rfl) (by simp) ?_;refine AllReadyH.cons (o:=⟨some 17,_,_,_,_,_⟩) rfl (λK hK=>?st2_4) AllReadyH.nil
     (go_simp;go_at_call 131;refine HIN.out.mono ?_;rintro e w' ⟨rfl,rfl⟩;go_wp2_with fail)
     refine hK.out _ _ ?hS2_4 (λhHeld=>?r2_4);case hS2_4=>(try dsimp only);go_keep
     clear hK K
     (try simp only [Act.put,List.setIfInBounds_toArray])
     refine tk 4 18 ?_
     (try simp only [Act.put,List.setIfInBounds_toArray,List.set_cons_zero,List.set_cons_succ])
     refine tk 5 19 ?_
     (try simp only [Act.put,List.setIfInBounds_toArray,List.set_cons_zero,List.set_cons_succ])
     refine tk 6 20 ?_
     (try simp only [Act.put,List.setIfInBounds_toArray,List.set_cons_zero,List.set_cons_succ])
     refine tk 7 21 ?_
     (try simp only [Act.put,List.setIfInBounds_toArray,List.set_cons_zero,List.set_cons_succ])
     refine tk 8 22 ?_
     (try simp only [Act.put,List.setIfInBounds_toArray,List.set_cons_zero,List.set_cons_succ])
     refine tk 9 23 ?_
     (try simp only [Act.put,List.setIfInBounds_toArray,List.set_cons_zero,List.set_cons_succ])
     refine tk 10 24 ?_
     (try simp only [Act.put,List.setIfInBounds_toArray,List.set_cons_zero,List.set_cons_succ])
     refine tk 11 25 ?_
     (try simp only [Act.put,List.setIfInBounds_toArray,List.set_cons_zero,List.set_cons_succ])
     refine tk 12 26 ?_
     (try simp only [Act.put,List.setIfInBounds_toArray,List.set_cons_zero,List.set_cons_succ])
     refine tk 13 27 ?_
     (try simp only [Act.put,List.setIfInBounds_toArray,List.set_cons_zero,List.set_cons_succ])
     refine tk 14 28 ?_
     (try simp only [Act.put,List.setIfInBounds_toArray,List.set_cons_zero,List.set_cons_succ])
     refine tk 15 29 ?_
     (try simp only [Act.put,List.setIfInBounds_toArray,List.set_cons_zero,List.set_cons_succ])
     refine wpAnyH_done (by kernel_rfl) ?_ _;go_wp2_with fail;go_meet;case rel=>exact ⟨congrArg Value.bool HV.out.symm,(HR1.out.alloc _).drew⟩
    ·have hx:aP ⟨x.kind,x.reg,x.n⟩ ⟨1,7,0⟩=true:=h2;have HV:=aA (show t1 s l=true by rw [HXY.out];simp [t1,h1,h2]);refine wp_region_held_drew (S:=(λw'=>w'.cell? ⟨w.heap.size,0,none⟩=some (.string s)/\w'.cell? ⟨w.heap.size,1,none⟩=some (.slice a l.length c)/\w'.cell? ⟨b,o,none⟩=some (.int .i64 x.kind)/\w'.cell? ⟨b,o+1,none⟩=some (.int .i64 x.reg)/\w'.cell? ⟨b,o+2,none⟩=some (.int .i64 x.n)/\w'.cell? ⟨w.heap.size+1+1,0,none⟩=some (.int .i64 1)/\w'.cell? ⟨w.heap.size+1+1,1,none⟩=some (.int .i64 7)/\w'.cell? ⟨w.heap.size+1+1,2,none⟩=some (.int .i64 0))) (by kernel_rfl) ?hS3_0 (λhHeld=>?hR3_0);case hS3_0=>(try dsimp only);go_keep
     refine tk 1 15 ?_
     (try simp only [Act.put,List.setIfInBounds_toArray,List.set_cons_zero,List.set_cons_succ])
     refine tk 2 16 ?_
     (try simp only [Act.put,List.setIfInBounds_toArray,List.set_cons_zero,List.set_cons_succ])
     refine wpAnyH_ready (rs:=[0]) (by kernel_rfl) (by simp) ?_;refine AllReadyH.cons (o:=⟨some 14,_,_,_,_,_⟩) rfl (λK hK=>?st3_3) AllReadyH.nil;go_simp;refine hK.out _ _ ?hS3_3 (λhHeld=>?r3_3);case hS3_3=>(try dsimp only);go_keep
     clear hK K
     (try simp only [Act.put,List.setIfInBounds_toArray])
     refine wpAnyH_ready (rs:=[3]) (by kernel_rfl) (by simp) ?_;refine AllReadyH.cons (o:=⟨some 17,_,_,_,_,_⟩) rfl (λK hK=>?st3_4) AllReadyH.nil
     (go_simp;go_at_call 131;refine HIN.out.mono ?_;rintro e w' ⟨rfl,rfl⟩;go_wp2_with fail)
     refine hK.out _ _ ?hS3_4 (λhHeld=>?r3_4);case hS3_4=>(try dsimp only);go_keep
     clear hK K
     (try simp only [Act.put,List.setIfInBounds_toArray])
     refine tk 4 18 ?_
     (try simp only [Act.put,List.setIfInBounds_toArray,List.set_cons_zero,List.set_cons_succ])
     refine tk 5 19 ?_
     (try simp only [Act.put,List.setIfInBounds_toArray,List.set_cons_zero,List.set_cons_succ])
     refine tk 6 20 ?_
     (try simp only [Act.put,List.setIfInBounds_toArray,List.set_cons_zero,List.set_cons_succ])
     refine tk 7 21 ?_
     (try simp only [Act.put,List.setIfInBounds_toArray,List.set_cons_zero,List.set_cons_succ])
     refine tk 8 22 ?_
     (try simp only [Act.put,List.setIfInBounds_toArray,List.set_cons_zero,List.set_cons_succ])
     refine tk 9 23 ?_
     (try simp only [Act.put,List.setIfInBounds_toArray,List.set_cons_zero,List.set_cons_succ])
     refine tk 10 24 ?_
     (try simp only [Act.put,List.setIfInBounds_toArray,List.set_cons_zero,List.set_cons_succ])
     refine tk 11 25 ?_
     (try simp only [Act.put,List.setIfInBounds_toArray,List.set_cons_zero,List.set_cons_succ])
     refine tk 12 26 ?_
     (try simp only [Act.put,List.setIfInBounds_toArray,List.set_cons_zero,List.set_cons_succ])
     refine tk 13 27 ?_
     (try simp only [Act.put,List.setIfInBounds_toArray,List.set_cons_zero,List.set_cons_succ])
     refine tk 14 28 ?_
     (try simp only [Act.put,List.setIfInBounds_toArray,List.set_cons_zero,List.set_cons_succ])
     refine tk 15 29 ?_
     (try simp only [Act.put,List.setIfInBounds_toArray,List.set_cons_zero,List.set_cons_succ])
     refine wpAnyH_done (by kernel_rfl) ?_ _;go_wp2_with fail;go_meet;case rel=>exact ⟨congrArg Value.bool HV.out.symm,(HR1.out.alloc _).drew⟩
   ·have hb2:((l.length:Int)==2)=false:=(by simp;omega);have HV:=aA (show t1 s l=false by
     unfold t1;split
     ·exact absurd rfl hl
     ·simp)
    clear hl;refine wp_region_held_drew (S:=(λw'=>w'.cell? ⟨w.heap.size,0,none⟩=some (.string s)/\w'.cell? ⟨w.heap.size,1,none⟩=some (.slice a l.length c))) (by kernel_rfl) ?hS4_0 (λhHeld=>?hR4_0);case hS4_0=>(try dsimp only);go_keep
    refine tk 1 15 ?_
    (try simp only [Act.put,List.setIfInBounds_toArray,List.set_cons_zero,List.set_cons_succ])
    refine tk 2 16 ?_
    (try simp only [Act.put,List.setIfInBounds_toArray,List.set_cons_zero,List.set_cons_succ])
    refine wpAnyH_ready (rs:=[0]) (by kernel_rfl) (by simp) ?_;refine AllReadyH.cons (o:=⟨some 14,_,_,_,_,_⟩) rfl (λK hK=>?st4_3) AllReadyH.nil;go_simp;refine hK.out _ _ ?hS4_3 (λhHeld=>?r4_3);case hS4_3=>(try dsimp only);go_keep
    clear hK K
    (try simp only [Act.put,List.setIfInBounds_toArray])
    refine wpAnyH_ready (rs:=[3]) (by kernel_rfl) (by simp) ?_;refine AllReadyH.cons (o:=⟨some 17,_,_,_,_,_⟩) rfl (λK hK=>?st4_4) AllReadyH.nil
    (go_simp;go_at_call 131;refine HIN.out.mono ?_;rintro e w' ⟨rfl,rfl⟩;go_wp2_with fail)
    refine hK.out _ _ ?hS4_4 (λhHeld=>?r4_4);case hS4_4=>(try dsimp only);go_keep
    clear hK K
    (try simp only [Act.put,List.setIfInBounds_toArray])
    refine tk 4 18 ?_
    (try simp only [Act.put,List.setIfInBounds_toArray,List.set_cons_zero,List.set_cons_succ])
    refine tk 5 19 ?_
    (try simp only [Act.put,List.setIfInBounds_toArray,List.set_cons_zero,List.set_cons_succ])
    refine tk 6 20 ?_
    (try simp only [Act.put,List.setIfInBounds_toArray,List.set_cons_zero,List.set_cons_succ])
    refine tk 7 21 ?_
    (try simp only [Act.put,List.setIfInBounds_toArray,List.set_cons_zero,List.set_cons_succ])
    refine tk 8 22 ?_
    (try simp only [Act.put,List.setIfInBounds_toArray,List.set_cons_zero,List.set_cons_succ])
    refine tk 9 23 ?_
    (try simp only [Act.put,List.setIfInBounds_toArray,List.set_cons_zero,List.set_cons_succ])
    refine wpAnyH_take (i:=10) (oi:=⟨some 24,_,_,_,_,_⟩) (v:=undef) rfl (by kernel_rfl) (by kernel_rfl) (by kernel_rfl) (λ_ _ _ h=>h) (Or.inr ⟨by rfl,rfl⟩) (by assumption) ?_
    (try simp only [Act.put,List.setIfInBounds_toArray,List.set_cons_zero,List.set_cons_succ])
    refine wpAnyH_take (i:=11) (oi:=⟨some 25,_,_,_,_,_⟩) (v:=undef) rfl (by kernel_rfl) (by kernel_rfl) (by kernel_rfl) (λ_ _ _ h=>h) (Or.inr ⟨by rfl,rfl⟩) (by assumption) ?_
    (try simp only [Act.put,List.setIfInBounds_toArray,List.set_cons_zero,List.set_cons_succ])
    refine wpAnyH_take (i:=12) (oi:=⟨some 26,_,_,_,_,_⟩) (v:=undef) rfl (by kernel_rfl) (by kernel_rfl) (by kernel_rfl) (λ_ _ _ h=>h) (Or.inr ⟨by rfl,rfl⟩) (by assumption) ?_
    (try simp only [Act.put,List.setIfInBounds_toArray,List.set_cons_zero,List.set_cons_succ])
    refine wpAnyH_take (i:=13) (oi:=⟨some 27,_,_,_,_,_⟩) (v:=undef) rfl (by kernel_rfl) (by kernel_rfl) (by kernel_rfl) (λ_ _ _ h=>h) (Or.inr ⟨by rfl,rfl⟩) (by assumption) ?_
    (try simp only [Act.put,List.setIfInBounds_toArray,List.set_cons_zero,List.set_cons_succ])
    refine wpAnyH_take (i:=14) (oi:=⟨some 28,_,_,_,_,_⟩) (v:=undef) rfl (by kernel_rfl) (by kernel_rfl) (by kernel_rfl) (λ_ _ _ h=>h) (Or.inr ⟨by rfl,rfl⟩) (by assumption) ?_
    (try simp only [Act.put,List.setIfInBounds_toArray,List.set_cons_zero,List.set_cons_succ])
    refine tk 15 29 ?_
    (try simp only [Act.put,List.setIfInBounds_toArray,List.set_cons_zero,List.set_cons_succ])
    refine wpAnyH_done (by kernel_rfl) ?_ _;go_wp2_with fail;go_meet;case rel=>exact ⟨congrArg Value.bool HV.out.symm,(HR1.out.alloc _).drew⟩
 case rest=>
  obtain ⟨rfl,hr⟩:=hcut;have HR:=aA hr;clear hr HR1;go_upto_if 29 with fail;go_cut [4] (λs4 wx=>Ro w wx s (.slice a l.length c) s4 (sO s l));case first=>
   cases ht:t1 s l
   ·have HA:=aA (acc1_no ht);go_wp2;go_meet;case rel=>rw [HA.out];exact HR.out
   ·obtain ⟨x,y,hxy,hacc⟩:=SP ht;have HA:=aA hacc;have HXY:=aA hxy;obtain ⟨a',c',ea,hc1,_,g⟩:=HR.out.own;injection ea with ea1 ea2 ea3;clear ea2;subst ea1 ea3;obtain ⟨b,o,rfl,hq,hb,d0,d1,d2,_⟩:=g 0 x (by rw [hxy];rfl);have hown:=HR.out.own;have hl2:l.length=2:=(by rw [hxy];rfl);have ho2:=hown;rw [hxy] at ho2;have HO2:=aA ho2.tail;have hl1:(1:Int)<=l.length:=(by omega);have HL2:=aA hl2;have hc2:c1≠1:=(by omega);clear g hq hown ho2 hxy hacc hl2;go_wp2;go_meet;case rel=>rw [HA.out];have h5:=HO2.out;rw [if_neg hc2] at h5;exact ⟨HR.out.b1,HR.out.b2,HR.out.b3,by rw [show l.length - 1=[y].length by rw [HL2.out];rfl];exact h5,HR.out.below⟩
  case rest=>
   have HR2:=aA hcut;clear hcut HR;obtain ⟨a2,c2,rfl,hc2,_⟩:=HR2.out.own;have HAA:=aA (MQ s l);have hlen2:(sO s l).length<=1000000:=by
    have:=HN.out;have h2:(sO s l).length<=l.length:=by
     unfold sO;split
     ·split<;>simp
     ·exact zI _
    exact qJ h2 this
   have HN2:=aA hlen2;generalize sO s l=l2 at *;clear hlen2;obtain ⟨e0,e1,_,_⟩:=HR2.out.b1.two;have n0:=HR2.out.b1.lt;have HR2A:=aA (HR2.out.alloc (.cells #[.string ⟨#[65,68,68]⟩,.string ⟨#[65,68,67]⟩,.string ⟨#[83,66,67]⟩] 9));have hin:=gK (λ_=>True) (.slice (some ⟨wc.heap.size,0,none⟩) 3 3) iS s (wc.alloc (.cells #[.string ⟨#[65,68,68]⟩,.string ⟨#[65,68,67]⟩,.string ⟨#[83,66,67]⟩] 9)) (kB wc 9 (λ_=>True) iS wc.heap.size rfl trivial (by simp [iS,maxLen]));go_upto_region 5 with fail;go_cut [40] (λs40 wx=>s40=.bool (inL iS s&&((l2.length:Int)==1))/\Ro w wx s (.slice a l.length c) (.slice a2 l2.length c2) l2);case first=>
    cases h3:inL iS s
    ·rw [h3] at hin;have HIN:=aA hin;clear hin;go_wp2_with (go_at_call 131;refine HIN.out.mono ?_;rintro e w' ⟨rfl,rfl⟩);go_meet;case rel=>exact ⟨by rw [h3];rfl,HR2A.out⟩
    ·rw [h3] at hin;have HIN:=aA hin;clear hin;go_wp2_with (go_at_call 131;refine HIN.out.mono ?_;rintro e w' ⟨rfl,rfl⟩);go_meet;case rel=>exact ⟨by rw [h3];rfl,HR2A.out⟩
   case rest=>
    obtain ⟨rfl,hr⟩:=hcut;have HR3:=aA hr;clear hr HR2 HR2A hin;go_upto_if 40 with fail;go_cut [4] (λs4 wx=>Ro w wx s (.slice a l.length c) s4 (cP s l));case first=>
     cases h3:(inL iS s&&((l2.length:Int)==1))
     ·have HA:=aA (show FE s l2=l2 by
       unfold FE;split
       ·have:inL iS s=false:=(by simpa using h3);simp [this]
       ·rfl)
      go_wp2;go_meet;case rel=>rw [<-HAA.out,HA.out];exact HR3.out
     ·have h4:=h3;rw [z0K] at h4;obtain ⟨x,hx⟩:=list1 (l:=l2) (by have:=eq_of_beq h4.2;omega);subst hx;have HA:=aA (show FE s [x]=[kM,x] by simp [FE,h4.1]);obtain ⟨a',c',ea,_,_,g⟩:=HR3.out.own;injection ea with ea1 ea2 ea3;clear ea2;subst ea1 ea3;obtain ⟨b,o,rfl,hq,hb,d0,d1,d2,_⟩:=g 0 x rfl;rw [z0Z,z0N] at d0 d1 d2;obtain ⟨k0,k1,k2,_,_,_⟩:=HR3.out.b3.three;have n3:=HR3.out.b3.lt;clear g hq h4;go_upto_region 6 with fail;go_region_held3 (λw'=>w'.cell? ⟨w.heap.size+1+1,0,none⟩=some (.int .i64 1)/\w'.cell? ⟨w.heap.size+1+1,1,none⟩=some (.int .i64 7)/\w'.cell? ⟨w.heap.size+1+1,2,none⟩=some (.int .i64 0)/\w'.cell? ⟨b,o,none⟩=some (.int .i64 x.kind)/\w'.cell? ⟨b,o+1,none⟩=some (.int .i64 x.reg)/\w'.cell? ⟨b,o+2,none⟩=some (.int .i64 x.n)) (go_keep) (fail);go_wp2_with fail;go_meet;case rel=>rw [<-HAA.out,HA.out];have hb3:=HR3.out.b3.lt;have ho:=gZ (w:=wc) (q:=λb=>w.heap.size+1+1+1<=b) [kM,x] #[.int .i64 1,.int .i64 7,.int .i64 0,.int .i64 x.kind,.int .i64 x.reg,.int .i64 x.n] 52 wc.heap.size 2 rfl rfl rfl (by omega) (by simp);have hr:=HR3.out.alloc (.cells #[.int .i64 1,.int .i64 7,.int .i64 0,.int .i64 x.kind,.int .i64 x.reg,.int .i64 x.n] 52);exact ⟨hr.b1,hr.b2,hr.b3,ho.keep λ_ _=>rfl,hr.below.drew⟩
    case rest=>
     have HR4:=aA hcut;clear hcut HR3;obtain ⟨wq,rfl⟩:∃wq:World,wq=wc:=⟨_,rfl⟩;obtain ⟨a4,c4,rfl,hc4,hm4,g4⟩:=HR4.out.own;have hn4:(cP s l).length<=l.length+1:=by
      unfold cP;split
      ·split<;>simp
      ·split<;>simp
      ·simp
     have HEX:=aA (show (gI s (cP s l)).map (fE (iT (bW ⟨s,l⟩)))=(aE ⟨s,l⟩).args from (zO s l).symm);have HEF:=aA (vR (s:=s) (tG (s:=s) HF.out));have HN4:=aA hn4;generalize cP s l=l4 at *;clear hn4;go_upto_region 9 with fail;have HR5:=aA ((HR4.out.alloc (.cells #[.int .i64 3,.int .i64 2,.int .i64 0] 52)).alloc (.cells #[.int .i64 3,.int .i64 1,.int .i64 0] 52));have K5:Hid (Blk ((wq.alloc (.cells #[.int .i64 3,.int .i64 2,.int .i64 0] 52)).alloc (.cells #[.int .i64 3,.int .i64 1,.int .i64 0] 52)) wq.heap.size 52 #[.int .i64 3,.int .i64 2,.int .i64 0]):=(Blk.new wq _ _).alloc _;have K6:Hid (Blk ((wq.alloc (.cells #[.int .i64 3,.int .i64 2,.int .i64 0] 52)).alloc (.cells #[.int .i64 3,.int .i64 1,.int .i64 0] 52)) (wq.heap.size+1) 52 #[.int .i64 3,.int .i64 1,.int .i64 0]):=(by have h:=Blk.new (wq.alloc (.cells #[.int .i64 3,.int .i64 2,.int .i64 0] 52)) 52 #[.int .i64 3,.int .i64 1,.int .i64 0];exact aA (by simpa using h));generalize ((wq.alloc (.cells #[.int .i64 3,.int .i64 2,.int .i64 0] 52)).alloc (.cells #[.int .i64 3,.int .i64 1,.int .i64 0] 52))=W6 at *;clear HR4 g4;go_cut [69] (λs69 wx=>s69=.bool (exb s l4)/\Ro w wx s (.slice a l.length c) (.slice a4 l4.length c4) l4/\Blk wx wq.heap.size 52 #[.int .i64 3,.int .i64 2,.int .i64 0]/\Blk wx (wq.heap.size+1) 52 #[.int .i64 3,.int .i64 1,.int .i64 0]);case first=>
      obtain ⟨e0,e1,_,_⟩:=HR5.out.b1.two;have HDN:Hid (∀n,Ro w (W6.drewN n) s (.slice a l.length c) (.slice a4 l4.length c4) l4/\Blk (W6.drewN n) wq.heap.size 52 #[.int .i64 3,.int .i64 2,.int .i64 0]/\Blk (W6.drewN n) (wq.heap.size+1) 52 #[.int .i64 3,.int .i64 1,.int .i64 0]):=λn=>⟨HR5.out.later (aY (zY _ _) n),K5.out,K6.out⟩;cases he:(s.toList==[69,88])
      ·have HV:=aA (show exb s l4=false by simp [exb,he]);go_quiet (fail);go_wp2_with fail;go_meet;case rel=>exact ⟨by rw [HV.out],HDN.out _⟩
      ·by_cases hl:l4.length=2
       ·obtain ⟨x,y,hxy⟩:=list2 hl;subst hxy;obtain ⟨a',c',ea,_,_,g⟩:=HR5.out.own;injection ea with ea1 ea2 ea3;clear ea2;subst ea1 ea3;obtain ⟨b,o,rfl,hq,hb,d0,d1,d2,_⟩:=g 0 x rfl;obtain ⟨b',o',eb,_,_,d3,d4,d5,_⟩:=g 1 y rfl;injection eb with eb;injection eb with eb1 eb2;subst eb1 eb2;rw [z0Z,z0N] at d0 d1 d2;rw [z1V] at d3 d4 d5;obtain ⟨k0,k1,k2,_,_,_⟩:=K5.out.three;obtain ⟨k3,k4,k5,_,_,_⟩:=K6.out.three;have hop:=gD;clear g hq hl;cases hx:aP x mW
        ·have hx':aP ⟨x.kind,x.reg,x.n⟩ ⟨3,2,0⟩=false:=hx;have HV:=aA (show exb s [x,y]=false by simp [exb];intro _ e;rw [e] at hx;exact absurd hx (by decide));go_quiet (fail);go_wp2_with fail;go_meet;case rel=>exact ⟨by rw [HV.out],HDN.out _⟩
        ·have hx':aP ⟨x.kind,x.reg,x.n⟩ ⟨3,2,0⟩=true:=hx;cases hy:aP y mT
         ·have hy':aP ⟨y.kind,y.reg,y.n⟩ ⟨3,1,0⟩=false:=hy;have HV:=aA (show exb s [x,y]=false by simp [exb];intro _ _ e;rw [e] at hy;exact absurd hy (by decide));go_quiet (fail);go_wp2_with fail;go_meet;case rel=>exact ⟨by rw [HV.out],HDN.out _⟩
         ·have hy':aP ⟨y.kind,y.reg,y.n⟩ ⟨3,1,0⟩=true:=hy;have HV:=aA (show exb s [x,y]=true by rw [fF.1 hx,fF.1 hy];simp [exb,he]);go_quiet (fail);go_wp2_with fail;go_meet;case rel=>exact ⟨by rw [HV.out],HDN.out _⟩
       ·have hb2:((l4.length:Int)==2)=false:=(by simp;omega);have HV:=aA (show exb s l4=false by simp [exb];intro _ e;rw [e] at hl;exact absurd rfl hl);clear hl;go_quiet (fail);go_wp2_with fail;go_meet;case rel=>exact ⟨by rw [HV.out],HDN.out _⟩
     case rest=>
      obtain ⟨rfl,hr,hk5,hk6⟩:=hcut;have HR6:=aA hr;have K5b:=aA hk5;have K6b:=aA hk6;clear hr hk5 hk6 HR5 K5 K6;obtain ⟨e0,e1,_,_⟩:=HR6.out.b1.two;obtain ⟨k0,k1,k2,_,_,_⟩:=K5b.out.three;obtain ⟨k3,k4,k5,_,_,_⟩:=K6b.out.three;have n5:=K5b.out.lt;have n6:=K6b.out.lt;go_upto_if 69 with fail;go_cut [4] (λs4 wx=>Ro w wx s (.slice a l.length c) s4 (gI s l4));case first=>
       cases hx:exb s l4
       ·have HA:=aA (show gI s l4=l4 by rw [sW,hx];rfl);go_wp2;go_meet;case rel=>rw [HA.out];exact HR6.out
       ·have HA:=aA (show gI s l4=[mT,mW] by rw [sW,hx];rfl);go_wp2;go_meet;case rel=>rw [HA.out];have hb3:=HR6.out.b3.lt;have ho:=gZ (w:=wc) (q:=λb=>w.heap.size+1+1+1<=b) [mT,mW] #[.int .i64 3,.int .i64 1,.int .i64 0,.int .i64 3,.int .i64 2,.int .i64 0] 52 wc.heap.size 2 rfl rfl rfl (by omega) (by simp);have hr:=HR6.out.alloc (.cells #[.int .i64 3,.int .i64 1,.int .i64 0,.int .i64 3,.int .i64 2,.int .i64 0] 52);exact ⟨hr.b1,hr.b2,hr.b3,ho,hr.below⟩
      case rest=>
       have HR7:=aA hcut;have hxl:(gI s l4).length<=l4.length:=by
        rw [sW];split
        ·rename_i h;have:l4=[mW,mT]:=(by simp [exb] at h;exact h.2);rw [this];exact zI _
        ·exact zI _
       have HXL:=aA (show (gI s l4).length<=1000001 by have:=HN4.out;have:=HN.out;omega);obtain ⟨a5,c5,rfl,hc5,hm5,_⟩:=HR7.out.own;generalize gI s l4=l5 at *;clear hcut HR6 K5b K6b e0 e1 k0 k1 k2 k3 k4 k5 n5 n6 hxl;obtain ⟨e0,e1,_,_⟩:=HR7.out.b1.two;have hwd:=tB p ⟨s,l⟩ (.slice a l.length c) wc (H.out.below HR7.out.below);have hwc:=rU ⟨s,l⟩;generalize bW ⟨s,l⟩=wd at *;have HWD:=aA hwd;clear hwd;rcases hwc with rfl | rfl | rfl
       ·go_wp2_with (go_at_call 132;refine HWD.out.mono ?_;rintro e w8 ⟨rfl,hb⟩;have HR8:=aA (HR7.out.later hb);clear hb);clear e0 e1;go_loopw [8] (λi wr=>∃k:Nat,k<=l5.length/\i=.int .i64 k/\Ro w wr s (.slice a l.length c) (.slice a5 l5.length c5) (iN 1 l5 k)) (λi _=>l5.length - (intOf i).toNat);case atStart=>exact ⟨0,YD _,rfl,by rw [jA];exact HR8.out⟩
        case round=>
         obtain ⟨k,hk,rfl,hh⟩:=hrel;have HR:=aA hh;have hlb:=HXL.out;by_cases hlt:k < l5.length
         ·have hat:=lD 1 l5 k hlt;obtain ⟨a',c',ea,_,_,g⟩:=hh.own;injection ea with ea1 ea2 ea3;clear ea2;subst ea1 ea3;obtain ⟨b,o,rfl,hq,hb,d0,d1,d2,fr⟩:=g k _ hat;have f2:=fr (o+k * 3+2);have hx:=HEF.out l5[k] (z0J hlt);have HSU:=aA (gY 1 l5 k hlt);have HSA:=aA (iZ 1 l5 k hlt);have HST:=aA (λm:Int=>HR.out.setN (m:=m) hat hq);clear g hat fr hq hh;generalize l5[k]=x at *;obtain ⟨hx1,hx2⟩:=hx;have NO:=aA (yU (sz:=1) (x:=x));have YES:=aA (uF (sz:=1) (x:=x));cases h6:(x.kind==6)
          ·have h6':(x.kind != 6)=true:=(by simp [bne,h6]);exact tX40
          ·have h6':(x.kind != 6)=false:=(by simp [bne,h6]);have h6e:x.kind=6:=eq_of_beq h6;have HK6:=aA h6e;clear h6e;by_cases h0:0<=x.n
           ·go_wp2;exact tX4c
           ·go_wp2;go_roundw;case rel=>exact ⟨k+1,by omega,by go_num,by rw [HSA.out (NO.out (λh=>absurd h.2.2.2 (by omega)))];exact HR.out⟩
            case measure=>simp [intOf];omega
         ·have hpa:iN 1 l5 k=l5.map (fE 1):=kH 1 l5 k (by omega);exact tXe
       ·go_wp2_with (go_at_call 132;refine HWD.out.mono ?_;rintro e w8 ⟨rfl,hb⟩;have HR8:=aA (HR7.out.later hb);clear hb);clear e0 e1;go_loopw [8] (λi wr=>∃k:Nat,k<=l5.length/\i=.int .i64 k/\Ro w wr s (.slice a l.length c) (.slice a5 l5.length c5) (iN 256 l5 k)) (λi _=>l5.length - (intOf i).toNat);case atStart=>exact ⟨0,YD _,rfl,by rw [jA];exact HR8.out⟩
        case round=>
         obtain ⟨k,hk,rfl,hh⟩:=hrel;have HR:=aA hh;have hlb:=HXL.out;by_cases hlt:k < l5.length
         ·have hat:=lD 256 l5 k hlt;obtain ⟨a',c',ea,_,_,g⟩:=hh.own;injection ea with ea1 ea2 ea3;clear ea2;subst ea1 ea3;obtain ⟨b,o,rfl,hq,hb,d0,d1,d2,fr⟩:=g k _ hat;have f2:=fr (o+k * 3+2);have hx:=HEF.out l5[k] (z0J hlt);have HSU:=aA (gY 256 l5 k hlt);have HSA:=aA (iZ 256 l5 k hlt);have HST:=aA (λm:Int=>HR.out.setN (m:=m) hat hq);clear g hat fr hq hh;generalize l5[k]=x at *;obtain ⟨hx1,hx2⟩:=hx;have NO:=aA (yU (sz:=256) (x:=x));have YES:=aA (uF (sz:=256) (x:=x));cases h6:(x.kind==6)
          ·have h6':(x.kind != 6)=true:=(by simp [bne,h6]);exact tX40
          ·have h6':(x.kind != 6)=false:=(by simp [bne,h6]);have h6e:x.kind=6:=eq_of_beq h6;have HK6:=aA h6e;clear h6e;by_cases h0:0<=x.n
           ·go_wp2;exact tX4c
           ·by_cases h1:-128<=x.n
            ·go_wp2;exact tX3f
            ·go_wp2;exact tX49
         ·have hpa:iN 256 l5 k=l5.map (fE 256):=kH 256 l5 k (by omega);exact tXe
       ·go_wp2_with (go_at_call 132;refine HWD.out.mono ?_;rintro e w8 ⟨rfl,hb⟩;have HR8:=aA (HR7.out.later hb);clear hb);clear e0 e1;go_loopw [8] (λi wr=>∃k:Nat,k<=l5.length/\i=.int .i64 k/\Ro w wr s (.slice a l.length c) (.slice a5 l5.length c5) (iN 65536 l5 k)) (λi _=>l5.length - (intOf i).toNat);case atStart=>exact ⟨0,YD _,rfl,by rw [jA];exact HR8.out⟩
        case round=>
         obtain ⟨k,hk,rfl,hh⟩:=hrel;have HR:=aA hh;have hlb:=HXL.out;by_cases hlt:k < l5.length
         ·have hat:=lD 65536 l5 k hlt;obtain ⟨a',c',ea,_,_,g⟩:=hh.own;injection ea with ea1 ea2 ea3;clear ea2;subst ea1 ea3;obtain ⟨b,o,rfl,hq,hb,d0,d1,d2,fr⟩:=g k _ hat;have f2:=fr (o+k * 3+2);have hx:=HEF.out l5[k] (z0J hlt);have HSU:=aA (gY 65536 l5 k hlt);have HSA:=aA (iZ 65536 l5 k hlt);have HST:=aA (λm:Int=>HR.out.setN (m:=m) hat hq);clear g hat fr hq hh;generalize l5[k]=x at *;obtain ⟨hx1,hx2⟩:=hx;have NO:=aA (yU (sz:=65536) (x:=x));have YES:=aA (uF (sz:=65536) (x:=x));cases h6:(x.kind==6)
          ·have h6':(x.kind != 6)=true:=(by simp [bne,h6]);exact tX40
          ·have h6':(x.kind != 6)=false:=(by simp [bne,h6]);have h6e:x.kind=6:=eq_of_beq h6;have HK6:=aA h6e;clear h6e;by_cases h0:0<=x.n
           ·go_wp2;exact tX4c
           ·by_cases h1:-32768<=x.n
            ·go_wp2;exact tX3f
            ·go_wp2;exact tX49
         ·have hpa:iN 65536 l5 k=l5.map (fE 65536):=kH 65536 l5 k (by omega);exact tXe
end Go.Proofs.YtpigbggoiipmhaaGreatDoor
