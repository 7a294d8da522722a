/-
  Marks, numbers and shapes of instructions, the program's and the references'. PLAIN: all items of some bytes. Lists of items in memory; the rest of a row of bytes. breadboardref13.Decode. Conditions: sizes.
-/
import Derived.Test.YtpigbggoiipmhaaGreatDoorBL1
import Derived.Test.YtpigbggoiipmhaaGreatDoorShelfS
import Derived.Test.YtpigbggoiipmhaaGreatDoorBJ1
import Derived.Test.YtpigbggoiipmhaaGreatDoorBF2
namespace Go.Proofs.YtpigbggoiipmhaaGreatDoor
open Go.RowKit
theorem EqualStr_any (p q:aB) (v1 v2:Value) (l1 l2:List ByteArray) (w:World) (h1:SlR eN w p v1 l1) (h2:SlR eN w q v2 l2):
  Calls Tryz.prog 11 #[v1,v2] w λe w'=>e=.returned (.bool (decide (l1=l2)))/\Below w.heap.size w w':=by
 have hb1:=h1.len_le;have hb2:=h2.len_le;obtain ⟨a1,c1,rfl,hc1,hm1,g1⟩:=h1.str;obtain ⟨a2,c2,rfl,hc2,hm2,g2⟩:=h2.str;by_cases hl:l1.length=l2.length
 ·cases l1 with
  | nil=>refine (Tryz.slices_Equal_string_empty a1 a2 c1 l2.length c2 w hb2).mono ?_;rintro e w' ⟨rfl,rfl⟩;have:l2=[]:=List.eq_nil_of_length_eq_zero hl.symm;subst this;exact ⟨aF (by simp),zY _ _⟩
  | cons x xs=>
   cases l2 with
   | nil=>simp at hl
   | cons y ys=>
    obtain ⟨b1,o1,rfl,_,_⟩:=g1 0 x rfl;obtain ⟨b2,o2,rfl,_,_⟩:=g2 0 y rfl;refine (Tryz.slices_Equal_string b1 o1 (x::xs).length c1 b2 o2 (y::ys).length c2 (x::xs) (y::ys) w (zI _) (zI _) hb1 hb2 (λj hj=>?_) (λj hj=>?_)).mono ?_
    ·obtain ⟨b,o,e,_,h⟩:=g1 j (x::xs)[j] (zL hj);exact tX71
    ·obtain ⟨b,o,e,_,h⟩:=g2 j (y::ys)[j] (zL hj);exact tX71
    ·rintro e w' ⟨rfl,n,rfl⟩;exact ⟨aF (by rw [z0L,z0L]),(zY _ _).trans ⟨rfl,rfl,rfl,zI _,λ_ _=>rfl⟩⟩
 ·refine (Tryz.slices_Equal_string_lens a1 a2 l1.length c1 l2.length c2 w hl).mono ?_;rintro e w' ⟨rfl,rfl⟩;exact ⟨aF (z0A (λe=>hl (by rw [e]))).symm,zY _ _⟩
end Go.Proofs.YtpigbggoiipmhaaGreatDoor
namespace Go.Proofs.YtpigbggoiipmhaaGreatDoor
open Go.RowKit Go.Shelf Go.Sort
theorem itemsF_raw (l:List UInt8):(aX l).flatMap (·.raw)=l:=by
  refine mQ (P:=λl=>(aX l).flatMap (·.raw)=l) ?_ ?_ l
  · intro l h;rw [gB h,List.length_eq_zero_iff.1 h];rfl
  · intro l h ih;rw [dN h,z1M,ih];exact List.take_append_drop _ _
theorem itemsF_cut (l:List UInt8):∀(i:Nat) (x:It),(aX l)[i]?=some x->x.k=4->i+1=(aX l).length:=by
  refine mQ (P:=λl=>∀(i:Nat) (x:It),(aX l)[i]?=some x->x.k=4->i+1=(aX l).length) ?_ ?_ l
  · intro l h i x hx;rw [gB h] at hx;cases hx
  · intro l h ih i x hx hk;rw [dN h] at hx ⊢;rw [VH];cases i with
    | zero=>rw [List.getElem?_cons_zero] at hx;injection hx with hx;subst hx;have h4:=TT (l:=l) hk;rw [h4,gB (by rw [JS];show l.length - l.length=0;omega)];rfl
    | succ i=>rw [List.getElem?_cons_succ] at hx;rw [ih i x hx hk]
theorem it_app {a b:List UInt8} (h0:0 < a.length) (hk:¬(itF a).k=4):(itF (a++b)).it (a++b)=(itF a).it a:=by rw [GX hk];unfold Itm.it;rw [List.take_append_of_le_length (nG a h0).2]
theorem items_app (a b:List UInt8) (h:∀x∈aX a,¬x.k=4):aX (a++b)=aX a++aX b:=by
  revert h;refine mQ (P:=λa=>(∀x∈aX a,¬x.k=4)->aX (a++b)=aX a++aX b) ?_ ?_ a
  · intro l h _;rw [List.length_eq_zero_iff.1 h];show aX b=aX []++aX b;rw [gB (l:=[]) rfl];rfl
  · intro l h ih hx;have hk:¬(itF l).k=4:=hx ((itF l).it l) (by rw [dN h];exact List.mem_cons_self ..);rw [dN h,dN (by rw [YL];omega),it_app h hk,GX hk,List.drop_append_of_le_length (nG l h).2,ih (λx hm=>hx x (by rw [dN h];exact z1I _ hm))];rfl
theorem VR {w:World} {p:aB} {a:Option Addr} {c:Nat} {l:List UInt8} (h:SlR aI w p (.slice a l.length c) l) (k:Nat) (hk:k<=l.length) (h0:0 < l.length):
    ∃a' c',(∀W,(Instr.sliceAt 22 (.slice a l.length c) (some (.int .i64 (k:Int))) none none).run Tryz.prog W=.ok (.slice a' (l.drop k).length c') W)/\SlR aI w p (.slice a' (l.drop k).length c') (l.drop k):=by
  obtain ⟨b,o,rfl,hc1,hc2,_⟩:=nN h h0;by_cases hkc:k < c
  · refine ⟨some ⟨b,o+k,none⟩,c - k,λW=>?_,h.dropB hk⟩;rw [JS];exact CQ b o l.length c k hk hkc W
  · have hkl:k=l.length:=(by omega);have hcl:c=l.length:=(by omega);have hd:l.drop k=[]:=(by rw [hkl];exact List.drop_length);rw [hd];refine ⟨some ⟨b,o,none⟩,0,λW=>?_,⟨_,_,rfl,zI _,by decide,λi x hx=>by simp at hx⟩⟩;rw [run_sliceAt_slice _ _ _ _ _ _ (by kernel_rfl),run_slice_l W _ (some ⟨b,o,none⟩) l.length c (by kernel_rfl) .i64 (k:Int) (by omega) (by omega)];subst hkl hcl;go_simp
def lenOf:Value->Nat
  | .slice _ n _=>n
  | _=>0
theorem Acc.far {w:World} {B k:Nat} {e:TypeId} {v:Value} {xs:List It} (h:Acc itR w B e v xs) (hk:w.heap.size<=k):v.ownBlock≠some k:=λe=>by have:=(h.lt k e).2;omega
set_option maxHeartbeats 4000000 in
set_option maxRecDepth 100000 in
theorem Dec13_any (p:aB) (a:Option Addr) (c:Nat) (l:List UInt8) (w:World) (hs:SlR aI w p (.slice a l.length c) l) (hl:l.length<=1000000):
    Calls Tryz.prog 9 #[.slice a l.length c] w (QV w (aX l)):=by
  have HS:=aA hs;have HL:=aA hl;clear hs hl;go_enter Tryz.func9,Tryz.ntmps9;go_wp2;go_loopw [0,3,4] (λb out _ wr=>∃(k:Nat) (pre:List It) (a1:Option Addr) (c1:Nat),b=.slice a1 (l.drop k).length c1/\SlR aI w p (.slice a1 (l.drop k).length c1) (l.drop k)/\pre++aX (l.drop k)=aX l/\Acc itR wr w.heap.size tJ out pre/\RowKit.Below w.heap.size w wr) (λb _ _ _=>lenOf b);case atStart=>exact ⟨0,[],a,c,rfl,HS.out,rfl,Acc.nil _ _ _,zY _ _⟩
  case round=>
    obtain ⟨k,pre,a1,c1,rfl,hsl,hpre,hacc,hb⟩:=hrel;have HLK:Hid ((l.drop k).length<=1000000):=aA (by have:=HL.out;rw [JS];omega);have HDR:Hid (∀n,l.drop (k+n)=(l.drop k).drop n):=aA (λn=>by rw [List.drop_drop]);have HPN:Hid (pre.length<=1000000):=aA (by have h1:=congrArg List.length hpre;have h2:=tA l;rw [YL] at h1;have:=HL.out;omega);obtain ⟨oa,oc,rfl⟩:=hacc.form;have HSL:=aA hsl;have HPR:=aA hpre;have HAC:=aA hacc;have HB:=aA hb;clear hsl hpre hacc hb;generalize hLL:l.drop k=L at *;clear hLL;by_cases h0:0 < L.length
    · have h0':(0:Int) < (L.length:Int):=(by omega);have HCO:=aA (dN h0);have HFI:=aA (BU p a1 c1 L wr (HSL.out.below HB.out) h0 HLK.out);have hrl:=JO L h0;have hn9:=nG L h0;obtain ⟨R1,hR1⟩:∃R,R=L.take (itF L).n:=⟨_,rfl⟩;have HX0:Hid ((itF L).it L=⟨(itF L).k,R1,(itF L).op,(itF L).args,(itF L).al⟩):=aA (by rw [hR1];rfl);rw [<-hR1] at hrl;obtain ⟨a2,c2,hrun,hs2⟩:=VR HSL.out R1.length (by omega) h0;have HS2:=aA hs2;have HD2:Hid (L.drop (itF L).n=L.drop R1.length/\(L.drop R1.length).length < L.length):=aA ⟨by rw [hrl],by rw [JS];omega⟩;have HR1:=aA hR1;clear hrl hn9 hR1 hs2;go_upto_region 4 with (go_at_call 29;refine (HFI.out).mono ?_;rintro e w2 ⟨⟨v,rfl,hi⟩,hb2⟩;obtain ⟨ra,rc,va,vc,rfl,x1,x2⟩:=hi;rw [<-HR1.out] at x1 ⊢;have HX1:=aA x1;have HX2:=aA x2;have HA2:=aA (HAC.out.stay hb2);have HB2:=aA hb2;clear x1 x2 hb2;unfold qU);have HBN:Hid (RowKit.Below w2.heap.size w2 (w2.alloc (.cells #[.int .i64 (itF L).k,.slice ra R1.length rc,.string ⟨(itF L).op.toArray⟩,.slice va (itF L).args.length vc,.bool (itF L).al] 32))):=aA ((zY _ _).alloc (zI _) _);have HK3:=aA (Blk.new w2 32 #[.int .i64 (itF L).k,.slice ra R1.length rc,.string ⟨(itF L).op.toArray⟩,.slice va (itF L).args.length vc,.bool (itF L).al]);have HA3:=aA (HA2.out.stay HBN.out);have HY1:=aA (HX1.out.below HBN.out);have HY2:=aA (HX2.out.below HBN.out);have HB3:=aA ((HB.out.trans (HB2.out.mono HB.out.size)).trans (HBN.out.mono (qJ HB.out.size HB2.out.size)));have HZ3:Hid (wr.heap.size<=w2.heap.size):=aA HB2.out.size;have HNE:Hid (∀b,wr.heap.size<=b->Value.ownBlock (.slice oa pre.length oc)≠some b):=aA (λb h=>HAC.out.far h);generalize w2.alloc (.cells #[.int .i64 (itF L).k,.slice ra R1.length rc,.string ⟨(itF L).op.toArray⟩,.slice va (itF L).args.length vc,.bool (itF L).al] 32)=W3 at *;generalize w2.heap.size=tb at *;obtain ⟨⟨c0,c1',c2',c3,c4⟩,_⟩:=HK3.out.five;clear HX1 HX2 HA2 HBN HB2 HAC HFI;go_wp2_with (at_builtin;refine eM rfl (.tmp 10) (.tmp 12) tIL rfl w.heap.size tJ 80 elIT _ pre ⟨(itF L).k,R1,(itF L).op,(itF L).args,(itF L).al⟩ _ (λb=>wr.heap.size<=b) rfl rfl HA3.out ⟨ra,rc,va,vc,rfl,HY1.out,HY2.out⟩ (λb h=>⟨qJ HB.out.size h,HNE.out b h⟩) (by have:=HPN.out;omega) (by have:=HPN.out;omega) HB3.out.size ?_;intro a5 c5 w5 hp;have HP:=aA hp;have k1:=((HK3.out.grown hp.2.1 (λe=>HNE.out tb HZ3.out e.symm)).five).1.2.1;clear hp);go_roundw;case rel=>exact ⟨k+R1.length,pre++[⟨(itF L).k,R1,(itF L).op,(itF L).args,(itF L).al⟩],a2,c2,by rw [HDR.out,JS],by rw [HDR.out];exact HS2.out,by rw [HDR.out,<-HPR.out,HCO.out,HX0.out,HD2.out.1,JP];rfl,HP.out.1,HB3.out.trans (HP.out.below HA3.out HB3.out.size)⟩
      case measure=>have:=HD2.out.2;rw [JS] at this;exact this
    · have hL0:¬(0:Int) < (L.length:Int):=(by omega);have HE:Hid (pre=aX l):=aA (by rw [<-HPR.out,gB (by omega),z1E]);go_wp2;go_ret;exact ⟨⟨_,rfl,by rw [<-HE.out];exact HAC.out⟩,HB.out⟩
end Go.Proofs.YtpigbggoiipmhaaGreatDoor
