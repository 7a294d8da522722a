/-
  breadboardref02.Put. breadboardref02.Put where the bytes are laid. breadboardref02.Put, every case. breadboardlaw04.Build. image.set.has. Image.Get (50 s). Conditions: sizes; the addresses fit their type; the library's table as its initialiser lays it.
-/
import Derived.Test.YtmpmciccgempeaaGreatDoorBD1
namespace Go.Proofs.YtmpmciccgempeaaGreatDoor
set_option maxHeartbeats 2000000
set_option maxRecDepth 100000
open Go.RowKit
def pX (w:World) (p:aB) (v:Value) (m:List cJ):Prop:=(m=[]∧v=.slice none 0 0)∨(m≠[]∧SlR cH w p v m)
theorem pX.sl {w:World} {p:aB} {v:Value} {m:List cJ} (h:pX w p v m):SlR cH w p v m:=by
 rcases h with ⟨rfl,rfl⟩ | ⟨_,h⟩
 ·exact SlR.nil _ _ _
 ·exact h
theorem pX.below {w w':World} {p q:aB} {v:Value} {m:List cJ} (h:pX w p v m) (hb:Below w.heap.size w w') (hq:∀k,p k→q k):pX w' q v m:=by
 rcases h with ⟨rfl,rfl⟩ | ⟨h0,h⟩
 ·exact .inl ⟨rfl,rfl⟩
 ·exact .inr ⟨h0,(h.old.below hb).mono fun k hk=>hq k hk.1⟩
theorem rV:ElT Tryz.prog 52 204 cH.size 16:=ElT.mk' (z:=.agg #[.int .i64 0,.int .u8 0]) Tryz.underlying52 (by kernel_rfl) rfl (by decide)
theorem nT:∀(l:List UInt8) (a k:Nat) (h:k < l.length) (h2:k < (bF a l).length),(bF a l)[k]=⟨a+k,l[k]⟩
 | [],_,_,h,_=>by simp at h
 | b::l,a,0,_,_=>rfl
 | b::l,a,k+1,h,h2=>by
  show (bF (a+1) l)[k]'_=_
  rw [nT l (a+1) k (by simpa using h) (by simpa [jI] using h)]
  simp;omega
theorem eL (a:Int):∀m:List cJ,aT a m≤m.length
 | []=>Nat.le_refl _
 | c::m=>by
  unfold aT
  split
  ·have:=eL a m;simp;omega
  ·simp
def kX (w:World) (p:aB) (m:List cJ) (a:Int) (l:List UInt8) (e:Ending) (w':World):Prop:=
 ∃v',e=.returned (.tuple #[v',.int .i64 ((gS m a l).2:Nat)])∧pX w' (fun k=>p k∨w.heap.size≤k) v' (gS m a l).1∧Below w.heap.size w w'
theorem qE {m:List cJ} {a:Int} {l:List UInt8} (h:a < 0∨65535 < a):gS m a l=(m,2):=by unfold gS;rw [if_pos h]
theorem uI {m:List cJ} {a:Int} {l:List UInt8} (h:¬(a < 0∨65535 < a)) (h2:(65536:Int) - a < l.length):gS m a l=(m,10):=by unfold gS;rw [if_neg h,if_pos h2]
theorem DK {m:List cJ} {a:Int} (h:¬(a < 0∨65535 < a)):gS m a []=(m,0):=by
 unfold gS
 rw [if_neg h,if_neg (by simp;omega),if_pos rfl]
theorem tL {m:List cJ} {a:Int} {l:List UInt8} (h:¬(a < 0∨65535 < a)) (h2:¬(65536:Int) - a < l.length) (h3:l≠[]) (hf:aT a m < m.length) (h4:((m[aT a m]'hf).addr:Int) < a+l.length):gS m a l=(m,4):=by
 unfold gS
 rw [if_neg h,if_neg h2,if_neg h3,if_pos ⟨_,List.getElem?_eq_getElem hf,h4⟩]
theorem wG {m:List cJ} {a:Int} {l:List UInt8} (h:¬(a < 0∨65535 < a)) (h2:¬(65536:Int) - a < l.length) (h3:l≠[]) (h4:∀hf:aT a m < m.length,¬((m[aT a m]'hf).addr:Int) < a+l.length):gS m a l=(m.take (aT a m)++bF a.toNat l++m.drop (aT a m),0):=by
 unfold gS
 rw [if_neg h,if_neg h2,if_neg h3,if_neg]
 rintro ⟨c,hc,hlt⟩
 obtain ⟨hf,rfl⟩:=List.getElem?_eq_some_iff.1 hc
 exact h4 hf hlt
theorem UA (p q:aB) (v vb:Value) (m:List cJ) (a:Int) (l:List UInt8) (w:World) (h:pX w p v m) (hs:SlR aI w q vb l) (hl:l.length≤100000) (hm:m.length≤100000) (ha1:-9223372036854775808≤a) (ha2:a≤9223372036854775807) (hc:(gS m a l).2≠0∨l=[]):
  Calls Tryz.prog 89 #[v,.int .i64 a,vb] w (kX w p m a l):=by
 obtain ⟨sa,c,rfl,_⟩:=hs.byteQ
 obtain ⟨ma,mc,rfl,_,_,gm⟩:=h.sl.cel
 have HFD:=aA (qQ p _ m a w h.sl)
 have HCV:Hid (pX w (fun k=>p k∨w.heap.size≤k) (.slice ma m.length mc) m):=h.below (Below.refl _ _) (fun _ h=>.inl h)
 have hl1:(l.length:Int)≤100000:=by omega
 have hm1:(m.length:Int)≤100000:=by omega
 have fin:∀c,gS m a l=(m,c)→Hid (kX w p m a l (.returned (.tuple #[.slice ma m.length mc,.int .i64 (c:Nat)])) w):=fun c hc=>⟨_,by rw [hc],by rw [hc];exact HCV.out,Below.refl _ _⟩
 have FIN:=aA fin
 clear fin h hs
 by_cases h1:a < 0
 ·have hd1:decide (a < 0)=true:=by simp;omega
  have HF:=FIN.out 2 (qE (.inl h1))
  clear h1 hc ha1 ha2 gm
  generalize kX w p m a l=PR at *
  go_enter Tryz.func89,Tryz.ntmps89
  go_wp2
  exact HF.out
 ·have hd1:decide (a < 0)=false:=by simp;omega
  by_cases h2:65535 < a
  ·have hd2:decide (65535 < a)=true:=by simp;omega
   have HF:=FIN.out 2 (qE (.inr h2))
   clear h1 h2 hc ha1 ha2 gm
   generalize kX w p m a l=PR at *
   go_enter Tryz.func89,Tryz.ntmps89
   go_wp2
   exact HF.out
  ·have hd2:decide (65535 < a)=false:=by simp;omega
   have hno:¬(a < 0∨65535 < a):=by omega
   have ha0:(0:Int)≤a:=by omega
   have ha9:a≤65535:=by omega
   by_cases h3:(65536:Int) - a < l.length
   ·have hd3:decide ((65536:Int) - a < (l.length:Int))=true:=by simp;omega
    have HF:=FIN.out 10 (uI hno h3)
    clear h1 h2 h3 hno hc ha1 ha2 gm
    generalize kX w p m a l=PR at *
    go_enter Tryz.func89,Tryz.ntmps89
    go_wp2
    exact HF.out
   ·have hd3:decide ((65536:Int) - a < (l.length:Int))=false:=by simp;omega
    by_cases h4:l=[]
    ·subst h4
     have HF:=FIN.out 0 (DK hno)
     clear h1 h2 h3 hno hc ha1 ha2 gm
     generalize kX w p m a []=PR at *
     go_enter Tryz.func89,Tryz.ntmps89
     go_wp2_with (go_at_call 147;refine HFD.out.mono ?_;rintro e w' ⟨rfl,rfl⟩)
     exact HF.out
    ·have hlp:=List.length_pos_iff.2 h4
     have hd4:((l.length:Int)==0)=false:=by simp;omega
     by_cases h5:∃hf:aT a m < m.length,((m[aT a m]'hf).addr:Int) < a+l.length
     ·obtain ⟨hf,h5⟩:=h5
      have HF:=FIN.out 4 (tL hno h3 h4 hf h5)
      obtain ⟨b1,o1,rfl,_,d0,_⟩:=gm _ _ (List.getElem?_eq_getElem hf)
      have hxl:((m[aT a m]'hf).addr:Int)≤300000:=by omega
      clear h1 h2 h3 hno hc ha1 ha2 gm
      generalize (m[aT a m]'hf).addr=y at *
      generalize aT a m=f at *
      generalize kX w p m a l=PR at *
      have hf2:(f:Int) < (m.length:Int):=by omega
      have hf3:decide ((f:Int) < (m.length:Int))=true:=by simp;omega
      have hd5:decide ((y:Int) < a+(l.length:Int))=true:=by simp;omega
      go_enter Tryz.func89,Tryz.ntmps89
      go_wp2_with (go_at_call 147;refine HFD.out.mono ?_;rintro e w' ⟨rfl,rfl⟩)
      exact HF.out
     ·have:=wG hno h3 h4 (fun hf h=>h5 ⟨hf,h⟩)
      rw [this] at hc
      rcases hc with hc | hc
      ·exact absurd rfl hc
      ·exact absurd hc h4
set_option maxHeartbeats 4000000
theorem cel_cut {w:World} {p:aB} {sa:Option Addr} {c n:Nat} {l:List cJ} (h:SlR cH w p (.slice sa l.length c) l) (hn:n≤l.length):SlR cH w p (.slice sa n c) (l.take n):=by
 obtain ⟨a',c',e,h1,h2,h3⟩:=h
 injection e with e1 e2 e3
 subst e1 e3
 have hlen:(l.take n).length=n:=by simp;omega
 refine ⟨_,_,by rw [hlen],by omega,h2,fun i y hy=>?_⟩
 have hi:i < n:=by rw [←hlen];exact (List.getElem?_eq_some_iff.1 hy).1
 rw [List.getElem?_take,if_pos hi] at hy
 exact h3 i y hy
theorem WK {w:World} {p:aB} {b o c n:Nat} {l:List cJ} (h:SlR cH w p (.slice (some ⟨b,o,none⟩) l.length c) l) (hn:n≤l.length):SlR cH w p (.slice (some ⟨b,o+n * 2,none⟩) (l.length - n) (c - n)) (l.drop n):=by
 obtain ⟨a',c',e,h1,h2,h3⟩:=h
 injection e with e1 e2 e3
 subst e1 e3
 have hlen:(l.drop n).length=l.length - n:=by simp
 refine ⟨_,_,by rw [hlen],by omega,by omega,fun i y hy=>?_⟩
 rw [List.getElem?_drop] at hy
 obtain ⟨b',o',cs,e,hp,hlt,hcs,hr⟩:=h3 (n+i) y hy
 injection e with e
 injection e with e4 e5
 subst e4 e5
 refine ⟨_,_,cs,rfl,hp,hlt,?_,hr⟩
 rw [FG] at hcs ⊢
 rw [show o+n * 2+i * 2=o+(n+i) * 2 by omega]
 exact hcs
theorem PZ (p q:aB) (ma:Option Addr) (mc:Nat) (vb:Value) (m:List cJ) (a:Nat) (l:List UInt8) (w:World) (h:SlR cH w p (.slice ma m.length mc) m) (hs:SlR aI w q vb l) (hl:a+l.length≤65536) (hm:m.length≤100000) (h0:l≠[]) (hf:aT a m < m.length)
  (h4:∀hf:aT a m < m.length,¬((m[aT a m]'hf).addr:Int) < a+l.length) (v1 v2:Value) (l1 l2:List cJ) (e12:m.take (aT a m)=l1∧m.drop (aT a m)=l2) (hv1:SlR cH w p v1 l1) (hv2:SlR cH w p v2 l2)
  (hc1:∀w,(Instr.sliceAt 52 (.slice ma m.length mc) none (some (.int .i64 (aT a m:Nat))) none).run Tryz.prog w=.ok v1 w) (hc2:∀w,(Instr.sliceAt 52 (.slice ma m.length mc) (some (.int .i64 (aT a m:Nat))) none none).run Tryz.prog w=.ok v2 w):
  Calls Tryz.prog 89 #[.slice ma m.length mc,.int .i64 a,vb] w fun e w'=>∃v',e=.returned (.tuple #[v',.int .i64 0])∧SlR cH w' (fun k=>w.heap.size≤k) v' (l1++bF a l++l2)∧Below w.heap.size w w':=by
 obtain ⟨sa,c,rfl,_,_,gb⟩:=hs.byteQ
 have HFD:=aA (qQ p _ m a w h)
 have hpos:=List.length_pos_iff.2 h0
 have hl1:(l.length:Int)≤65536:=by omega
 have hm1:(m.length:Int)≤100000:=by omega
 have ha0:(0:Int)≤(a:Int):=by omega
 have ha9:(a:Int)≤65535:=by omega
 have hd1:decide ((a:Int) < 0)=false:=by simp
 have hd2:decide ((65535:Int) < a)=false:=by simp;omega
 have hd3:decide ((65536:Int) - a < (l.length:Int))=false:=by simp;omega
 have hd4:((l.length:Int)==0)=false:=by rw [beq_eq_false_iff_ne];omega
 have HBS:=aA hs
 have HV1:=aA hv1
 have HV2:=aA hv2
 have HL12:Hid (l1.length+l2.length=m.length):=by
  show _=_
  rw [←e12.1,←e12.2,List.length_take,List.length_drop]
  have:=eL a m
  omega
 have HLL:=aA hl
 have hfl:=eL a m
 have hf0:(0:Int)≤(aT a m:Int):=by omega
 have HM:=aA hm
 obtain ⟨_,_,em,_,_,gm⟩:=h.cel
 injection em with em1 _ em3
 subst em1 em3
 have HCF:=aA (jI l a)
 obtain ⟨b1,o1,rfl,_,d0,d0'⟩:=gm _ _ (List.getElem?_eq_getElem hf)
 have hd5:decide (((m[aT a m]'hf).addr:Int) < (a:Int)+(l.length:Int))=false:=decide_eq_false (h4 hf)
 have hf2:(aT a m:Int) < (m.length:Int):=by omega
 have hf3:decide ((aT a m:Int) < (m.length:Int))=true:=by simp;omega
 clear h4 gm gb d0'
 generalize (m[aT a m]'hf).addr=y0 at *
 clear h hs hv1 hv2 hl hm e12 hfl hf
 generalize aT a m=f at *
 go_enter Tryz.func89,Tryz.ntmps89
 go_wp2_with (go_at_call 147;refine HFD.out.mono ?_;rintro e w' ⟨rfl,rfl⟩)
 go_loopw [9,10] (fun v i wr=>∃k:Nat,k≤l.length∧i=.int .i64 k∧Own cH wr w.heap.size 204 NoB v ((bF a l).take k)∧Below w.heap.size w wr) (fun _ i _=>l.length - (intOf i).toNat)
 case atStart=>exact ⟨0,Nat.zero_le _,rfl,Own.nil _ _ _ _ _,Below.refl _ _⟩
 case round=>
  obtain ⟨k,hk,rfl,ho,hb⟩:=hrel
  by_cases hlt:k < l.length
  ·have hlt2:k < (bF a l).length:=by rw [HCF.out];exact hlt
   have HT:=List.take_succ_eq_append_getElem hlt2
   rw [nT l a k hlt hlt2] at HT
   have HTT:=aA HT
   obtain ⟨ad,cd,hv,_,_,g⟩:=(HBS.out.old.below hb).byteQ
   obtain ⟨rfl,_,rfl⟩:sa=ad∧l.length=l.length∧c=cd:=by injection hv with h1 h2 h3;exact ⟨h1,h2,h3⟩
   obtain ⟨b1,o1,rfl,_,hcell⟩:=g k l[k] (List.getElem?_eq_getElem hlt)
   have hlen:((bF a l).take k).length=k:=by rw [List.length_take,HCF.out];omega
   have HLEN:=aA hlen
   have hak:(a:Int)+k≤65536:=by have:=HLL.out;omega
   have hk0:(0:Int)≤(k:Int):=by omega
   clear g hv HT hlen hlt2
   generalize l[k]=y at *
   generalize hx:(bF a l).take k=xs at *
   have HX:=aA hx
   have HO:=aA ho
   have HB:=aA hb
   obtain ⟨oa,oc,rfl⟩:=ho.form
   clear hx ho hb
   have HC1:Hid ((xs.length+1) * 16≤140737488355328):=by show _≤_;have:=HLEN.out;omega
   have HC2:Hid (xs.length+1≤9223372036854775807):=by show _≤_;have:=HLEN.out;omega
   go_wp2_with (at_builtin;refine cK rfl (.tmp 54) (.tmp 63) 52 rfl w.heap.size 204 16 rV _ xs ⟨a+k,y⟩ _ rfl rfl HO.out (by go_num) HC1.out HC2.out HB.out.size ?_;intro a' c' w' hp;have HP:=aA hp;clear hp)
   go_roundw
   case rel=>exact ⟨k+1,by omega,by go_num,by rw [HTT.out];exact HP.out.1,HB.out.grown HP.out.2 HB.out.size (fun j hj=>(HO.out.lt j hj).1)⟩
   case measure=>simp [intOf];omega
  ·obtain rfl:k=l.length:=by omega
   have hco:=ho
   rw [←HCF.out,List.take_length] at hco
   have HCO:=aA hco
   have HB:=aA hb
   obtain ⟨ca,cc,rfl⟩:=ho.form
   rw [show ((bF a l).take l.length).length=l.length by rw [List.length_take,HCF.out];omega] at *
   clear ho hb hco
   go_upto_region 15 with fail
   have HOM:Hid (Own cH (wr.alloc (.cells #[] 204)).drew wr.heap.size 204 NoB (.slice (some ⟨wr.heap.size,0,none⟩) 0 0) []):=(Own.made wr _ _).keep (aS.drew _)
   have HX1:Hid (SlR cH (wr.alloc (.cells #[] 204)).drew (fun k=>p k∧k < w.heap.size) v1 l1):=((HV1.out.old.below HB.out).alloc _).drew
   have HQ1:Hid (∀k,p k∧k < w.heap.size→some k≠Value.ownBlock (.slice (some ⟨wr.heap.size,0,none⟩) 0 0)):=fun k hk e=>by have:=HB.out.size;simp [Value.ownBlock] at e;omega
   have HB1:Hid (Below wr.heap.size wr (wr.alloc (.cells #[] 204)).drew):=((Below.refl _ wr).alloc (Nat.le_refl _) _).drew
   have HN1:Hid ((([]:List cJ).length+l1.length) * 16≤140737488355328):=by show (0+_) * 16≤_;have:=HL12.out;have:=HM.out;omega
   have HN2:Hid (([]:List cJ).length+l1.length≤9223372036854775807):=by show 0+_≤_;have:=HL12.out;have:=HM.out;omega
   have HN3:Hid ((l1.length+(bF a l).length) * 16≤140737488355328):=by show _≤_;rw [HCF.out];have:=HL12.out;have:=HM.out;have:=HLL.out;omega
   have HN4:Hid (l1.length+(bF a l).length≤9223372036854775807):=by show _≤_;rw [HCF.out];have:=HL12.out;have:=HM.out;have:=HLL.out;omega
   have HN5:Hid (((l1++bF a l).length+l2.length) * 16≤140737488355328):=by show _≤_;rw [List.length_append,HCF.out];have:=HL12.out;have:=HM.out;have:=HLL.out;omega
   have HN6:Hid ((l1++bF a l).length+l2.length≤9223372036854775807):=by show _≤_;rw [List.length_append,HCF.out];have:=HL12.out;have:=HM.out;have:=HLL.out;omega
   go_region_held3 (fun _=>True) (exact trivial)
    (first
     | ((refine eK (o:=⟨some 69,_,_,_,_,_⟩) _ ?g69 (.tmp 65) (.tmp 68) 52 ?o69 wr.heap.size 204 16 rV NoB (fun k=>p k∧k < w.heap.size) (.slice (some ⟨wr.heap.size,0,none⟩) 0 0) v1 [] l1 ?x69 ?y69 HOM.out HX1.out (fun _ h=>h.elim) HQ1.out HN1.out HN2.out HB1.out.size ?z69);(case g69=>rfl);(case o69=>rfl);(case x69=>rfl);(case y69=>rfl);intro v5 wA hap;rw [List.nil_append] at hap;have HB2:=aA (HB1.out.grown hap.2.1 HB1.out.size (fun k e=>by simp [Value.ownBlock] at e;omega));have HO2:Hid (Own cH wA wr.heap.size 204 NoB v5 l1):=hap.1.flat NoB;obtain ⟨a5,c5,rfl⟩:=hap.1.form;have HX2:Hid (SlR cH wA (fun k=>w.heap.size≤k∧k < wr.heap.size) (.slice ca l.length cc) (bF a l)):=(HCO.out.slR (q:=fun k=>w.heap.size≤k) (fun _ h=>h.elim) (fun _ h=>h)).old.below HB2.out;have HQ2:Hid (∀k,w.heap.size≤k∧k < wr.heap.size→some k≠Value.ownBlock (.slice a5 l1.length c5)):=fun k hk e=>by {have:=(HO2.out.lt k e.symm).1;omega};clear hap)
     | (refine eK (o:=⟨some 71,_,_,_,_,_⟩) _ ?g71 (.tmp 69) (.tmp 70) 52 ?o71 wr.heap.size 204 16 rV NoB (fun k=>w.heap.size≤k∧k < wr.heap.size) (.slice a5 l1.length c5) (.slice ca l.length cc) l1 (bF a l) ?x71 ?y71 HO2.out HX2.out (fun _ h=>h.elim) HQ2.out HN3.out HN4.out HB2.out.size ?z71;(case g71=>rfl);(case o71=>rfl);(case x71=>rfl);(case y71=>rfl);intro v6 wC hap;have HB3:=aA (HB2.out.grown hap.2.1 HB2.out.size (fun k e=>(HO2.out.lt k e).1));have HO3:Hid (Own cH wC wr.heap.size 204 NoB v6 (l1++bF a l)):=hap.1.flat NoB;obtain ⟨a6,c6,rfl⟩:=hap.1.form;have HX3:Hid (SlR cH wC (fun k=>p k∧k < w.heap.size) v2 l2):=HV2.out.old.below (HB.out.trans (HB3.out.mono HB.out.size));have HQ3:Hid (∀k,p k∧k < w.heap.size→some k≠Value.ownBlock (.slice a6 (l1++bF a l).length c6)):=fun k hk e=>by {have:=(HO3.out.lt k e.symm).1;have:=HB.out.size;omega};clear hap)
     | (refine eK (o:=⟨some 75,_,_,_,_,_⟩) _ ?g75 (.tmp 71) (.tmp 74) 52 ?o75 wr.heap.size 204 16 rV NoB (fun k=>p k∧k < w.heap.size) (.slice a6 (l1++bF a l).length c6) v2 (l1++bF a l) l2 ?x75 ?y75 HO3.out HX3.out (fun _ h=>h.elim) HQ3.out HN5.out HN6.out HB3.out.size ?z75;(case g75=>rfl);(case o75=>rfl);(case x75=>rfl);(case y75=>rfl);intro v7 wD hap;have HB4:=aA (HB3.out.grown hap.2.1 HB3.out.size (fun k e=>(HO3.out.lt k e).1));have HO4:Hid (Own cH wD wr.heap.size 204 NoB v7 (l1++bF a l++l2)):=hap.1.flat NoB;obtain ⟨a7,c7,rfl⟩:=hap.1.form;clear hap))
   go_wp2
   go_ret2
   refine ⟨_,rfl,?_,HB.out.trans (HB4.out.mono HB.out.size)⟩
   have HF:=HO4.out.slR (q:=fun k=>w.heap.size≤k) (fun _ h=>h.elim) (fun k hk=>Nat.le_trans HB.out.size hk)
   simp only [List.length_append,Nat.add_assoc] at HF
   exact HF
theorem NP (p q:aB) (ma:Option Addr) (mc:Nat) (vb:Value) (m:List cJ) (a:Nat) (l:List UInt8) (w:World) (h:SlR cH w p (.slice ma m.length mc) m) (hs:SlR aI w q vb l) (hl:a+l.length≤65536) (hm:m.length≤100000) (h0:l≠[]) (hf:¬aT a m < m.length)
  (v1 v2:Value) (l1 l2:List cJ) (e12:m.take (aT a m)=l1∧m.drop (aT a m)=l2) (hv1:SlR cH w p v1 l1) (hv2:SlR cH w p v2 l2)
  (hc1:∀w,(Instr.sliceAt 52 (.slice ma m.length mc) none (some (.int .i64 (aT a m:Nat))) none).run Tryz.prog w=.ok v1 w) (hc2:∀w,(Instr.sliceAt 52 (.slice ma m.length mc) (some (.int .i64 (aT a m:Nat))) none none).run Tryz.prog w=.ok v2 w):
  Calls Tryz.prog 89 #[.slice ma m.length mc,.int .i64 a,vb] w fun e w'=>∃v',e=.returned (.tuple #[v',.int .i64 0])∧SlR cH w' (fun k=>w.heap.size≤k) v' (l1++bF a l++l2)∧Below w.heap.size w w':=by
 obtain ⟨sa,c,rfl,_,_,gb⟩:=hs.byteQ
 have HFD:=aA (qQ p _ m a w h)
 have hpos:=List.length_pos_iff.2 h0
 have hl1:(l.length:Int)≤65536:=by omega
 have hm1:(m.length:Int)≤100000:=by omega
 have ha0:(0:Int)≤(a:Int):=by omega
 have ha9:(a:Int)≤65535:=by omega
 have hd1:decide ((a:Int) < 0)=false:=by simp
 have hd2:decide ((65535:Int) < a)=false:=by simp;omega
 have hd3:decide ((65536:Int) - a < (l.length:Int))=false:=by simp;omega
 have hd4:((l.length:Int)==0)=false:=by rw [beq_eq_false_iff_ne];omega
 have HBS:=aA hs
 have HV1:=aA hv1
 have HV2:=aA hv2
 have HL12:Hid (l1.length+l2.length=m.length):=by
  show _=_
  rw [←e12.1,←e12.2,List.length_take,List.length_drop]
  have:=eL a m
  omega
 have HLL:=aA hl
 have hfl:=eL a m
 have hf0:(0:Int)≤(aT a m:Int):=by omega
 have HM:=aA hm
 obtain ⟨_,_,em,_,_,gm⟩:=h.cel
 injection em with em1 _ em3
 subst em1 em3
 have HCF:=aA (jI l a)
 have hd5:decide (aT a m < m.length)=false:=decide_eq_false hf
 clear h hs hv1 hv2 hl hm e12 gm gb hfl hf
 generalize aT a m=f at *
 go_enter Tryz.func89,Tryz.ntmps89
 go_wp2_with (go_at_call 147;refine HFD.out.mono ?_;rintro e w' ⟨rfl,rfl⟩)
 go_loopw [9,10] (fun v i wr=>∃k:Nat,k≤l.length∧i=.int .i64 k∧Own cH wr w.heap.size 204 NoB v ((bF a l).take k)∧Below w.heap.size w wr) (fun _ i _=>l.length - (intOf i).toNat)
 case atStart=>exact ⟨0,Nat.zero_le _,rfl,Own.nil _ _ _ _ _,Below.refl _ _⟩
 case round=>
  obtain ⟨k,hk,rfl,ho,hb⟩:=hrel
  by_cases hlt:k < l.length
  ·have hlt2:k < (bF a l).length:=by rw [HCF.out];exact hlt
   have HT:=List.take_succ_eq_append_getElem hlt2
   rw [nT l a k hlt hlt2] at HT
   have HTT:=aA HT
   obtain ⟨ad,cd,hv,_,_,g⟩:=(HBS.out.old.below hb).byteQ
   obtain ⟨rfl,_,rfl⟩:sa=ad∧l.length=l.length∧c=cd:=by injection hv with h1 h2 h3;exact ⟨h1,h2,h3⟩
   obtain ⟨b1,o1,rfl,_,hcell⟩:=g k l[k] (List.getElem?_eq_getElem hlt)
   have hlen:((bF a l).take k).length=k:=by rw [List.length_take,HCF.out];omega
   have HLEN:=aA hlen
   have hak:(a:Int)+k≤65536:=by have:=HLL.out;omega
   have hk0:(0:Int)≤(k:Int):=by omega
   clear g hv HT hlen hlt2
   generalize l[k]=y at *
   generalize hx:(bF a l).take k=xs at *
   have HX:=aA hx
   have HO:=aA ho
   have HB:=aA hb
   obtain ⟨oa,oc,rfl⟩:=ho.form
   clear hx ho hb
   have HC1:Hid ((xs.length+1) * 16≤140737488355328):=by show _≤_;have:=HLEN.out;omega
   have HC2:Hid (xs.length+1≤9223372036854775807):=by show _≤_;have:=HLEN.out;omega
   go_wp2_with (at_builtin;refine cK rfl (.tmp 54) (.tmp 63) 52 rfl w.heap.size 204 16 rV _ xs ⟨a+k,y⟩ _ rfl rfl HO.out (by go_num) HC1.out HC2.out HB.out.size ?_;intro a' c' w' hp;have HP:=aA hp;clear hp)
   go_roundw
   case rel=>exact ⟨k+1,by omega,by go_num,by rw [HTT.out];exact HP.out.1,HB.out.grown HP.out.2 HB.out.size (fun j hj=>(HO.out.lt j hj).1)⟩
   case measure=>simp [intOf];omega
  ·obtain rfl:k=l.length:=by omega
   have hco:=ho
   rw [←HCF.out,List.take_length] at hco
   have HCO:=aA hco
   have HB:=aA hb
   obtain ⟨ca,cc,rfl⟩:=ho.form
   rw [show ((bF a l).take l.length).length=l.length by rw [List.length_take,HCF.out];omega] at *
   clear ho hb hco
   go_upto_region 15 with fail
   have HOM:Hid (Own cH (wr.alloc (.cells #[] 204)).drew wr.heap.size 204 NoB (.slice (some ⟨wr.heap.size,0,none⟩) 0 0) []):=(Own.made wr _ _).keep (aS.drew _)
   have HX1:Hid (SlR cH (wr.alloc (.cells #[] 204)).drew (fun k=>p k∧k < w.heap.size) v1 l1):=((HV1.out.old.below HB.out).alloc _).drew
   have HQ1:Hid (∀k,p k∧k < w.heap.size→some k≠Value.ownBlock (.slice (some ⟨wr.heap.size,0,none⟩) 0 0)):=fun k hk e=>by have:=HB.out.size;simp [Value.ownBlock] at e;omega
   have HB1:Hid (Below wr.heap.size wr (wr.alloc (.cells #[] 204)).drew):=((Below.refl _ wr).alloc (Nat.le_refl _) _).drew
   have HN1:Hid ((([]:List cJ).length+l1.length) * 16≤140737488355328):=by show (0+_) * 16≤_;have:=HL12.out;have:=HM.out;omega
   have HN2:Hid (([]:List cJ).length+l1.length≤9223372036854775807):=by show 0+_≤_;have:=HL12.out;have:=HM.out;omega
   have HN3:Hid ((l1.length+(bF a l).length) * 16≤140737488355328):=by show _≤_;rw [HCF.out];have:=HL12.out;have:=HM.out;have:=HLL.out;omega
   have HN4:Hid (l1.length+(bF a l).length≤9223372036854775807):=by show _≤_;rw [HCF.out];have:=HL12.out;have:=HM.out;have:=HLL.out;omega
   have HN5:Hid (((l1++bF a l).length+l2.length) * 16≤140737488355328):=by show _≤_;rw [List.length_append,HCF.out];have:=HL12.out;have:=HM.out;have:=HLL.out;omega
   have HN6:Hid ((l1++bF a l).length+l2.length≤9223372036854775807):=by show _≤_;rw [List.length_append,HCF.out];have:=HL12.out;have:=HM.out;have:=HLL.out;omega
   go_region_held3 (fun _=>True) (exact trivial)
    (first
     | ((refine eK (o:=⟨some 69,_,_,_,_,_⟩) _ ?g69 (.tmp 65) (.tmp 68) 52 ?o69 wr.heap.size 204 16 rV NoB (fun k=>p k∧k < w.heap.size) (.slice (some ⟨wr.heap.size,0,none⟩) 0 0) v1 [] l1 ?x69 ?y69 HOM.out HX1.out (fun _ h=>h.elim) HQ1.out HN1.out HN2.out HB1.out.size ?z69);(case g69=>rfl);(case o69=>rfl);(case x69=>rfl);(case y69=>rfl);intro v5 wA hap;rw [List.nil_append] at hap;have HB2:=aA (HB1.out.grown hap.2.1 HB1.out.size (fun k e=>by simp [Value.ownBlock] at e;omega));have HO2:Hid (Own cH wA wr.heap.size 204 NoB v5 l1):=hap.1.flat NoB;obtain ⟨a5,c5,rfl⟩:=hap.1.form;have HX2:Hid (SlR cH wA (fun k=>w.heap.size≤k∧k < wr.heap.size) (.slice ca l.length cc) (bF a l)):=(HCO.out.slR (q:=fun k=>w.heap.size≤k) (fun _ h=>h.elim) (fun _ h=>h)).old.below HB2.out;have HQ2:Hid (∀k,w.heap.size≤k∧k < wr.heap.size→some k≠Value.ownBlock (.slice a5 l1.length c5)):=fun k hk e=>by {have:=(HO2.out.lt k e.symm).1;omega};clear hap)
     | (refine eK (o:=⟨some 71,_,_,_,_,_⟩) _ ?g71 (.tmp 69) (.tmp 70) 52 ?o71 wr.heap.size 204 16 rV NoB (fun k=>w.heap.size≤k∧k < wr.heap.size) (.slice a5 l1.length c5) (.slice ca l.length cc) l1 (bF a l) ?x71 ?y71 HO2.out HX2.out (fun _ h=>h.elim) HQ2.out HN3.out HN4.out HB2.out.size ?z71;(case g71=>rfl);(case o71=>rfl);(case x71=>rfl);(case y71=>rfl);intro v6 wC hap;have HB3:=aA (HB2.out.grown hap.2.1 HB2.out.size (fun k e=>(HO2.out.lt k e).1));have HO3:Hid (Own cH wC wr.heap.size 204 NoB v6 (l1++bF a l)):=hap.1.flat NoB;obtain ⟨a6,c6,rfl⟩:=hap.1.form;have HX3:Hid (SlR cH wC (fun k=>p k∧k < w.heap.size) v2 l2):=HV2.out.old.below (HB.out.trans (HB3.out.mono HB.out.size));have HQ3:Hid (∀k,p k∧k < w.heap.size→some k≠Value.ownBlock (.slice a6 (l1++bF a l).length c6)):=fun k hk e=>by {have:=(HO3.out.lt k e.symm).1;have:=HB.out.size;omega};clear hap)
     | (refine eK (o:=⟨some 75,_,_,_,_,_⟩) _ ?g75 (.tmp 71) (.tmp 74) 52 ?o75 wr.heap.size 204 16 rV NoB (fun k=>p k∧k < w.heap.size) (.slice a6 (l1++bF a l).length c6) v2 (l1++bF a l) l2 ?x75 ?y75 HO3.out HX3.out (fun _ h=>h.elim) HQ3.out HN5.out HN6.out HB3.out.size ?z75;(case g75=>rfl);(case o75=>rfl);(case x75=>rfl);(case y75=>rfl);intro v7 wD hap;have HB4:=aA (HB3.out.grown hap.2.1 HB3.out.size (fun k e=>(HO3.out.lt k e).1));have HO4:Hid (Own cH wD wr.heap.size 204 NoB v7 (l1++bF a l++l2)):=hap.1.flat NoB;obtain ⟨a7,c7,rfl⟩:=hap.1.form;clear hap))
   go_wp2
   go_ret2
   refine ⟨_,rfl,?_,HB.out.trans (HB4.out.mono HB.out.size)⟩
   have HF:=HO4.out.slR (q:=fun k=>w.heap.size≤k) (fun _ h=>h.elim) (fun k hk=>Nat.le_trans HB.out.size hk)
   simp only [List.length_append,Nat.add_assoc] at HF
   exact HF
theorem CW (a:Option Addr) (n c f:Nat) (hf:f≤n) (hc:n≤c) (w:World):(Instr.sliceAt 52 (.slice a n c) none (some (.int .i64 (f:Nat))) none).run Tryz.prog w=.ok (sliced a 0 f c 2) w:=by
 rw [run_sliceAt_slice _ _ _ _ _ _ (by kernel_rfl),run_slice_h w _ a n c (by kernel_rfl) .i64 (f:Int) (by omega) (by omega)]
 go_simp
theorem CS (a:Option Addr) (n c f:Nat) (hf:f≤n) (w:World):(Instr.sliceAt 52 (.slice a n c) (some (.int .i64 (f:Nat))) none none).run Tryz.prog w=.ok (sliced a f n c 2) w:=by
 rw [run_sliceAt_slice _ _ _ _ _ _ (by kernel_rfl),run_slice_l w _ a n c (by kernel_rfl) .i64 (f:Int) (by omega) (by omega)]
 go_simp
theorem LJ {w:World} {p:aB} {a:Option Addr} {c:Nat} {m:List cJ} (h:SlR cH w p (.slice a m.length c) m) (f:Nat) (hf:f≤m.length):
  SlR cH w p (sliced a 0 f c 2) (m.take f)∧SlR cH w p (sliced a f m.length c 2) (m.drop f):=by
 have h:=aA h
 obtain ⟨a',c',e,h1,h2,_⟩:=h.out
 injection e with e1 _ e3
 subst e1 e3
 by_cases hm:m=[]
 ·subst hm
  obtain rfl:f=0:=by simpa using hf
  exact ⟨⟨_,_,rfl,Nat.zero_le _,by simpa using h2,fun i x hx=>by simp at hx⟩,⟨_,_,rfl,Nat.zero_le _,by simpa using h2,fun i x hx=>by simp at hx⟩⟩
 ·obtain ⟨_,_,e,_,_,g⟩:=h.out.cel
  injection e with e1 _ e3
  subst e1 e3
  have hp:=List.length_pos_iff.2 hm
  obtain ⟨b,o,rfl,_⟩:=g 0 _ (List.getElem?_eq_getElem hp)
  constructor
  ·unfold sliced
   simp only [Option.map_some,Nat.zero_mul,Addr.add_zero',ite_self,Nat.sub_zero]
   exact cel_cut h.out hf
  ·have hr:=WK h.out hf
   unfold sliced
   split
   ·next hc=>
    have h0:m.length - f=0:=by omega
    have hd:m.drop f=[]:=List.drop_eq_nil_of_le (by omega)
    rw [h0,hd]
    exact ⟨_,_,rfl,Nat.zero_le _,by omega,fun i x hx=>by simp at hx⟩
   ·simp only [Option.map_some,Addr.add_lit]
    exact hr
theorem LU (p q:aB) (v vb:Value) (m:List cJ) (a:Int) (l:List UInt8) (w:World) (h:pX w p v m) (hs:SlR aI w q vb l) (hl:l.length≤65536) (hm:m.length≤100000) (ha1:-9223372036854775808≤a) (ha2:a≤9223372036854775807):
  Calls Tryz.prog 89 #[v,.int .i64 a,vb] w (kX w p m a l):=by
 by_cases hc:(gS m a l).2≠0∨l=[]
 ·exact UA p q v vb m a l w h hs (by omega) hm ha1 ha2 hc
 ·have h0:l≠[]:=fun e=>hc (.inr e)
  have hz:(gS m a l).2=0:=by
   by_cases e:(gS m a l).2=0
   ·exact e
   ·exact absurd (.inl e) hc
  have hno:¬(a < 0∨65535 < a):=fun e=>by rw [qE e] at hz;simp at hz
  have hw:¬(65536:Int) - a < l.length:=fun e=>by rw [uI hno e] at hz;simp at hz
  have h4:∀hf:aT a m < m.length,¬((m[aT a m]'hf).addr:Int) < a+l.length:=fun hf e=>by rw [tL hno hw h0 hf e] at hz;simp at hz
  have hy:=wG hno hw h0 h4
  obtain ⟨n,rfl⟩:∃n:Nat,a=n:=⟨a.toNat,by omega⟩
  obtain ⟨ma,mc,rfl,hmc,_,_⟩:=h.sl.cel
  obtain ⟨hv1,hv2⟩:=LJ h.sl _ (eL (n:Int) m)
  have key:Calls Tryz.prog 89 #[.slice ma m.length mc,.int .i64 n,vb] w fun e w'=>∃v',e=.returned (.tuple #[v',.int .i64 0])∧SlR cH w' (fun k=>w.heap.size≤k) v' (m.take (aT (n:Int) m)++bF n l++m.drop (aT (n:Int) m))∧Below w.heap.size w w':=by
   by_cases hf:aT (n:Int) m < m.length
   ·exact PZ p q ma mc vb m n l w h.sl hs (by omega) hm h0 hf h4 _ _ _ _ ⟨rfl,rfl⟩ hv1 hv2 (fun w=>CW ma m.length mc _ (eL _ m) hmc w) (fun w=>CS ma m.length mc _ (eL _ m) w)
   ·exact NP p q ma mc vb m n l w h.sl hs (by omega) hm h0 hf _ _ _ _ ⟨rfl,rfl⟩ hv1 hv2 (fun w=>CW ma m.length mc _ (eL _ m) hmc w) (fun w=>CS ma m.length mc _ (eL _ m) w)
  refine key.mono ?_
  rintro e w' ⟨v',rfl,hv,hb⟩
  refine ⟨v',by rw [hy];rfl,?_,hb⟩
  rw [hy]
  refine .inr ⟨?_,hv.mono fun k hk=>.inr hk⟩
  intro e
  have:=congrArg List.length e
  simp [jI] at this
  exact h0 (by simpa using this.2.1)
set_option maxHeartbeats 2000000
def uS (R:List (Int × List UInt8)):lJ:=R.foldl (fun s r=>dH s.1 s.2 r.1 r.2) (fun _=>false,fun _=>0)
theorem MM {R:List (Int × List UInt8)} {k:Nat} (h:k < R.length):uS (R.take (k+1))=dH (uS (R.take k)).1 (uS (R.take k)).2 R[k].1 R[k].2:=by
  unfold uS
  rw [List.take_succ_eq_append_getElem h,List.foldl_append]
  rfl
theorem BM (d:Nat→Bool) (v:Nat→UInt8):∀n a,(gH d v a n).length≤n
  | 0,_=>Nat.le_refl _
  | n+1,a=>by
    have:=BM d v n (a+1)
    unfold gH
    split
    · simp;omega
    · rw [List.nil_append];omega
theorem CF (d:Nat→Bool) (v:Nat→UInt8):(eU d v).length≤65536:=BM d v _ _
theorem RG {x:Nat}:∀{l:List Nat},x∈l→x≤l.sum
  | y::l,h=>by
    rw [List.sum_cons]
    rcases List.mem_cons.1 h with rfl | h
    · omega
    · have:=RG h;omega
theorem YA {R:List (Int × List UInt8)} (h:zJ R=true):R.length≤60∧∀r∈R,r.2.length≤3000:=by
  unfold zJ at h
  simp only [Bool.and_eq_true,decide_eq_true_eq] at h
  refine ⟨h.1,fun r hr=>?_⟩
  have hle:min r.2.length 5000≤sP R:=by
    unfold sP
    exact RG (List.mem_map.2 ⟨r,hr,rfl⟩)
  omega
theorem ZO {w':World} {b n:Nat} {d:Nat→Bool} {v:Nat→UInt8} {a:Int} {l:List UInt8} (h:Put w' b n d v a l):∃n',n'≤n+l.length∧eO w' b (dH d v a l).1 (dH d v a l).2 n':=by
  unfold Put at h
  unfold dH
  by_cases hc:cT d a l.length=0
  · rw [if_pos hc] at h ⊢
    exact ⟨_,Nat.le_refl _,h⟩
  · rw [if_neg hc] at h ⊢
    exact ⟨n,by omega,h⟩
structure EH (w0 w:World) (b:Nat) (cv:Value) (S:lJ) (n:Nat):Prop where
  img:eO w b S.1 S.2 n
  cells:pX w (fun x=>b < x) cv (eU S.1 S.2)
  at_:w0.heap.size≤b
  below:Below w0.heap.size w0 w
theorem pX.keep {w w':World} {p:aB} {v:Value} {m:List cJ} (h:pX w p v m) (hk:aS (fun k=>p k∧k < w.heap.size) w w'):pX w' p v m:=by
  rcases h with ⟨rfl,rfl⟩ | ⟨h0,h⟩
  · exact .inl ⟨rfl,rfl⟩
  · exact .inr ⟨h0,(h.old.keep hk).mono fun _ hq=>hq.1⟩
theorem EH.one {w0 w w1:World} {b n:Nat} {cv:Value} {S:lJ} {a:Int} {l:List UInt8} (h:EH w0 w b cv S n) (hb:Below w.heap.size w w1):
    eO w1 b S.1 S.2 n∧∀w2,w1.grownBy w2 (some b)→Put w2 b n S.1 S.2 a l→∃n',n'≤n+l.length∧eO w2 b (dH S.1 S.2 a l).1 (dH S.1 S.2 a l).2 n'∧pX w2 (fun x=>b < x) cv (eU S.1 S.2)∧Below w0.heap.size w0 w2:=by
  have hi:=h.img.below hb h.img.lt
  refine ⟨hi,fun w2 hg hp=>?_⟩
  obtain ⟨n',hn,hi2⟩:=ZO hp
  refine ⟨n',hn,hi2,?_,?_⟩
  · have hc:=h.cells.below hb (fun _ hk=>hk)
    refine hc.keep (aS.grown hg fun k hk=>⟨hk.2,fun e=>?_⟩)
    injection e with e
    have:=hk.1
    omega
  · exact (h.below.trans (hb.mono h.below.size)).grown hg (Nat.le_trans h.below.size hb.size) (fun k e=>by injection e with e;have:=h.at_;omega)
theorem EH.two {w0 w2 w3:World} {b n:Nat} {S:lJ} {a:Int} {l:List UInt8} {e:Ending} (hi:eO w2 b (dH S.1 S.2 a l).1 (dH S.1 S.2 a l).2 n) (hat:w0.heap.size≤b) (hb0:Below w0.heap.size w0 w2)
    (h:kX w2 (fun x=>b < x) (eU S.1 S.2) a l e w3):∃v' c:Value,e=.returned (.tuple #[v',c])∧EH w0 w3 b v' (dH S.1 S.2 a l) n:=by
  obtain ⟨v',rfl,hv,hb⟩:=h
  rw [PN] at hv ⊢
  refine ⟨v',_,rfl,hi.below hb hi.lt,?_,hat,hb0.trans (hb.mono hb0.size)⟩
  rcases hv with ⟨h1,h2⟩ | ⟨h1,h2⟩
  · exact .inl ⟨h1,h2⟩
  · exact .inr ⟨h1,h2.mono fun k hk=>by rcases hk with hk | hk;exact hk;have:=hi.lt;omega⟩
theorem Build_no (p:aB) (v:Value) (R:List (Int × List UInt8)) (w:World) (h:SlR CC w p v R) (hf:zJ R=false):
    Calls Tryz.prog 33 #[v] w fun e w'=>e=.returned (.tuple #[.pointer none,.slice none 0 0])∧w=w':=by
  have HF:=aA (AG p v R w h)
  rw [hf] at HF
  go_enter Tryz.func33,Tryz.ntmps33
  go_wp2_with (go_at_call 34;refine HF.out.mono ?_;rintro e w' ⟨rfl,rfl⟩)
  go_ret2
  exact ⟨rfl,rfl⟩
theorem Build_yes (p:aB) (v:Value) (R:List (Int × List UInt8)) (w:World) (h:SlR CC w p v R) (hT:Deb w) (hA:∀r∈R,-9223372036854775808≤r.1∧r.1≤9223372036854775807) (hf:zJ R=true):
    Calls Tryz.prog 33 #[v] w fun e w'=>∃b n cv,e=.returned (.tuple #[.pointer (some ⟨b,0,none⟩),cv])∧EH w w' b cv (uS R) n:=by
  have HF:=aA (AG p v R w h)
  rw [hf] at HF
  obtain ⟨hl60,hl3⟩:=YA hf
  obtain ⟨ra,rc,rfl,_,_,g⟩:=h.irun
  have G:=aA g
  have HT:=aA hT
  have HA:=aA hA
  have HL3:=aA hl3
  have hlen:(R.length:Int)≤60:=by omega
  clear g hT hA hl3 h hf
  go_enter Tryz.func33,Tryz.ntmps33
  go_wp2_with (first
    | (go_at_call 34;refine HF.out.mono ?_;rintro e w' ⟨rfl,rfl⟩)
    | (go_at_call 87;refine (ZK _).mono ?_;rintro e w1 ⟨rfl,hi,hb⟩;have HI1:=aA hi;have HB1:=aA hb;clear hi hb))
  go_loopw [5,14] (fun cv i wr=>∃k n:Nat,k≤R.length∧i=.int .i64 k∧n≤3000 * k∧EH w wr w.heap.size cv (uS (R.take k)) n) (fun _ i _=>R.length - (intOf i).toNat)
  case atStart=>exact ⟨0,0,Nat.zero_le _,rfl,Nat.le_refl _,HI1.out,.inl ⟨yK _,rfl⟩,Nat.le_refl _,HB1.out⟩
  case round=>
    obtain ⟨k,n,hk,rfl,hn,hr⟩:=hrel
    have HR:=aA hr
    clear hr
    by_cases hlt:k < R.length
    · obtain ⟨b1,o1,sa,sc,rfl,_,d0,d1,hsl⟩:=G.out k R[k] (List.getElem?_eq_getElem hlt)
      have HSU:=aA (MM hlt)
      have hlx:R[k].2.length≤3000:=HL3.out _ (List.getElem_mem hlt)
      obtain ⟨hx1,hx2⟩:=HA.out _ (List.getElem_mem hlt)
      have HSL:=aA hsl
      have e0:=(HR.out.below.cell (World.block_lt_of_cell? _ _ d0)).trans d0
      have e1:=(HR.out.below.cell (World.block_lt_of_cell? _ _ d1)).trans d1
      generalize R[k]=x at *
      clear d0 d1 hsl
      have HAL:Hid (Below wr.heap.size wr (wr.alloc (.cells #[.int .i64 x.1,.slice sa x.2.length sc] 120))):=(Below.refl _ wr).alloc (Nat.le_refl _) _
      have HLT:Hid (w.heap.size < wr.heap.size):=HR.out.img.lt
      generalize uS (R.take k)=S at *
      have hn9:n≤900000000:=by omega
      go_wp2_with (first
        | (go_at_call 88
           have hone:=HR.out.one (l:=x.2) (a:=x.1) HAL.out
           refine (Put_any w.heap.size n x.1 _ _ _ _ x.2 _ hone.1 hn9 (HSL.out.old.below (HR.out.below.trans (HAL.out.mono HR.out.below.size))) (HT.out.below (HR.out.below.trans (HAL.out.mono HR.out.below.size))) hx1 hx2 (by omega)).mono ?_
           rintro e w2 ⟨rfl,hp,hg⟩
           obtain ⟨n',hn',hi2,hc2,hb2⟩:=hone.2 w2 hg hp
           have HI2:=aA hi2
           have HC2:=aA hc2
           have HB2:=aA hb2
           have hbl:=hg.block wr.heap.size (by simp) (fun e=>by injection e with e;have:=HLT.out;omega)
           have d2:w2.cell? ⟨wr.heap.size,0,none⟩=some (.int .i64 x.1):=(World.cell?_of_block (w:=wr.alloc (.cells #[.int .i64 x.1,.slice sa x.2.length sc] 120)) hbl).trans (by go_simp)
           have d3:w2.cell? ⟨wr.heap.size,1,none⟩=some (.slice sa x.2.length sc):=(World.cell?_of_block (w:=wr.alloc (.cells #[.int .i64 x.1,.slice sa x.2.length sc] 120)) hbl).trans (by go_simp)
           clear hone hp hg hi2 hc2 hb2 hbl)
        | (go_at_call 89
           refine (LU (fun y=>w.heap.size < y) _ _ _ _ x.1 x.2 _ HC2.out (HSL.out.old.below HB2.out) (by omega) (Nat.le_trans (CF _ _) (by omega)) hx1 hx2).mono ?_
           rintro e w3 h3
           obtain ⟨v3,c3,rfl,hbo⟩:=EH.two HI2.out (Nat.le_refl _) HB2.out h3
           have HBO:=aA hbo
           clear h3 hbo))
      go_roundw
      case rel=>exact ⟨k+1,n',by omega,by go_num,by omega,by rw [HSU.out];exact HBO.out⟩
      case measure=>simp [intOf];omega
    · obtain rfl:k=R.length:=by omega
      rw [List.take_length] at HR
      go_wp2
      go_ret2
      exact ⟨_,_,_,rfl,HR.out⟩
set_option maxHeartbeats 1000000
theorem and_has (d:Nat→Bool) (a:Nat):bits .and .u64 (((dQ d (a / 64):Nat):Int) / 2 ^ (a % 64)) 1=if d a=true then 1 else 0:=by
 rw [BE]
 have h1:=sB d true a 0
 have h2:=DY d true a
 have h3:a % 64+0 < 64:=by omega
 rw [decide_eq_true h3] at h1
 simp only [Bool.true_and,Nat.add_zero,Nat.testBit_zero] at h1
 generalize qC d true a=s at *
 have h4:s&&& 1=s % 2:=Nat.and_one_is_mod s
 have h5:bits .and .u64 (s:Int) ((1:Nat):Int)=((s&&& 1:Nat):Int):=u64_and_nat _ _ (by omega) (by omega)
 rw [show ((1:Nat):Int)=1 from rfl] at h5
 rw [h5,h4]
 cases hd:d a
 ·rw [hd] at h1
  have:¬s % 2=1:=by simpa using h1
  rw [if_neg (by decide)]
  omega
 ·rw [hd] at h1
  have:s % 2=1:=by simpa using h1
  rw [if_pos rfl]
  omega
theorem DJ (b n a:Nat) (d:Nat→Bool) (v:Nat→UInt8) (w:World) (h:eO w b d v n) (ha:a < 65536):
  Calls Tryz.prog 148 #[.pointer (some ⟨b,0,none⟩),.int .i64 a] w fun e w'=>e=.returned (.bool (d a))∧w'=w:=by
 have hw:=h.words (a / 64) (by omega)
 have hai:(0:Int)≤a:=by omega
 have hai2:(a:Int) / 64 < 1024:=by omega
 have hai3:(0:Int)≤(a:Int) / 64:=by omega
 have HO:=aA (and_has d a)
 generalize dQ d (a / 64)=W at *
 clear h
 go_enter Tryz.func148,Tryz.ntmps148
 go_wp2
 go_ret
 rw [HO.out]
 cases d a<;>exact ⟨rfl,rfl⟩
set_option maxRecDepth 1000000 in
theorem imgGet_any (b n a:Nat) (d:Nat→Bool) (v:Nat→UInt8) (w:World) (h:eO w b d v n) (ha:a < 65536):
  Calls Tryz.prog 90 #[.pointer (some ⟨b,0,none⟩),.int .i64 a] w fun e w'=>e=.returned (.tuple #[.int .u8 (if d a=true then ((v a).toNat:Int) else 0),.bool (d a)])∧w'=w:=by
 have hb:=h.bytes a ha
 have hai:(0:Int)≤a:=by omega
 have ham:(a:Int)≤100000:=by omega
 have h1:decide ((a:Int) < 0)=false:=by simp
 have h2:decide ((65536:Int)≤a)=false:=by rw [decide_eq_false_iff_not];omega
 have h3:decide ((a:Int) < 65536)=true:=by rw [decide_eq_true_iff];omega
 have HS:=aA (DJ b n a d v w h ha)
 clear h ha
 cases hd:d a
 ·rw [hd] at HS
  clear hd h3
  go_enter Tryz.func90,Tryz.ntmps90
  go_wp2_with (go_at_call 148;refine HS.out.mono ?_;rintro e w1 ⟨rfl,rfl⟩)
  exact bodyPost_ret (v:=.tuple #[.int .u8 0,.bool false]) (by simp [results,Tryz.results90,go_sem]) rfl ⟨rfl,rfl⟩
 ·rw [hd] at HS
  clear hd
  go_enter Tryz.func90,Tryz.ntmps90
  go_upto_region 3 with (go_at_call 148;refine HS.out.mono ?_;rintro e w1 ⟨rfl,rfl⟩)
  have hge:((65536:Int)≤(a:Int))=False:=by rw [decide_eq_false_iff_not] at h2;exact eq_false h2
  have hx:(a:Int) < 65536:=by rw [decide_eq_true_iff] at h3;exact h3
  clear h1 h2 hge h3 ham HS
  go_wp2
  exact bodyPost_ret (v:=.tuple #[.int .u8 (v a).toNat,.bool true]) (by simp [results,Tryz.results90,go_sem]) rfl ⟨rfl,rfl⟩
end Go.Proofs.YtmpmciccgempeaaGreatDoor
