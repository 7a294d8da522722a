/-
  Functions of the program and of the reference, walked; plain facts on what they compute. Conditions: sizes.
-/
import Derived.Test.YtpigbggoiipmhaaGreatDoorBB8
import Derived.Test.YtpigbggoiipmhaaGreatDoorBV1
namespace Go.Proofs.YtpigbggoiipmhaaGreatDoor
open Go.RowKit Go.Shelf Go.Sort
def Trd (t:ByteArray) (c:List Opd) (L:List aL) (u:Value):Prop:=(∀z∈L,iA t c z=false)/\u=.int .i64 (jP t c L)
theorem Trd.far {t:ByteArray} {c:List Opd} {j k:Nat} {u:Value} {x:aL} (h:Trd t c (gJ c j k) u) (hx:(atF (bL c+j) k).1=some x) (hn:dL t c x=false):Trd t c (gJ c j (k+1)) u:=by
 have hh:iA t c x=false:=by unfold iA;rw [hn];rfl
 rw [pJ hx];exact ⟨sF h.1 hh,by rw [lB,hn];exact h.2⟩
set_option maxHeartbeats 2000000
set_option maxRecDepth 100000
def tI (x:Ins):Bool:=(cQ x).2==0
theorem UI (x:Ins) (m:CV x) (p:aB) (v:Value) (w:World) (h:SlR aM w p v x.args) (hT:Spc w):
  Calls Tryz.prog 99 #[.agg #[.string x.op,v]] w λe w'=>e=.returned (.bool (!tI x))/\Below w.heap.size w w':=by
 have HX:=aA (λW (hb:RowKit.Below w.heap.size w W)=>m.find p v W (h.below hb) (hT.below hb));have HL:Hid (tI x=((cQ x).2==0)):=aA rfl;generalize tI x=L at *;generalize cQ x=R at *;obtain ⟨va,vc,rfl⟩:∃a c,v=.slice a x.args.length c:=by obtain ⟨a,c,e,_⟩:=h;exact ⟨a,c,e⟩
 obtain ⟨t,l⟩:=x;clear h hT m;dsimp only at *;obtain ⟨o,k⟩:=R;dsimp only at HL;have HF:=aA ((Fr.start w).new 30 #[.string t,.slice va l.length vc]);cases o
 ·go_enter Tryz.func99,Tryz.ntmps99;go_wp2_with (go_at_call 100;refine (HX.out _ HF.out.below).mono ?_;rintro e w1 ⟨rfl,hb⟩;have H1:=aA ((HF.out.next hb).alloc (.cells #[.int .i64 0,.int .u8 0,.string ⟨#[]⟩,.slice none 0 0,.string ⟨#[]⟩,.bool false] 158));clear hb;unfold mX);go_ret;exact ⟨aF (by rw [HL.out];rfl),H1.out.below⟩
 ·rename_i x;obtain ⟨p1,o1,i1,l1,s1,f1⟩:=x;go_enter Tryz.func99,Tryz.ntmps99;go_wp2_with (go_at_call 100;refine (HX.out _ HF.out.below).mono ?_;rintro e w1 ⟨⟨v1,q1,rfl,hs⟩,hb⟩;have H1:=aA ((HF.out.next hb).alloc (.cells #[.int .i64 p1,.int .u8 o1,.string ⟨i1.toArray⟩,v1,.string ⟨s1.toArray⟩,.bool f1] 158));obtain ⟨va1,vc1,rfl⟩:∃a c,v1=.slice a l1.length c:=(by obtain ⟨a,c,e,_⟩:=hs;exact ⟨a,c,e⟩);clear hb hs;unfold bQ;dsimp only);go_ret;exact ⟨aF (by rw [HL.out];rfl),H1.out.below⟩
theorem UU (p:aB) (v:Value) (l:List Ins) (w:World) (h:SlR rP w p v l) (hT:Spc w) (hm:∀x∈l,CV x):
  Calls Tryz.prog 141 #[v,.func (.func 99) #[] #[]] w λe w'=>(∃r:Int,e=.returned (.int .i64 r)/\decide (0<=r)=l.any λx=>!tI x)/\Below w.heap.size w w':=by
 have HL:=aA (λx hx W (hb:RowKit.Below w.heap.size w W) p v h=>UI x (hm x hx) p v W h (hT.below hb));have hl:=h.len_le;have HS:=aA h;obtain ⟨a,c,rfl,_,_,_⟩:=h.ins;clear h hm hT;go_enter Tryz.func141,Tryz.ntmps141;go_wp2;go_loopw [8] (λi wr=>∃k:Nat,k<=l.length/\i=.int .i64 k/\(l.any λx=>!tI x)=((l.drop k).any λx=>!tI x)/\Below w.heap.size w wr) (λi _=>l.length-(intOf i).toNat);case atStart=>exact ⟨0,YD _,rfl,rfl,zY _ _⟩
 case round=>
  obtain ⟨k,hk,rfl,ht,hb⟩:=hrel;have HT:=aA ht;have HB:=aA hb;clear ht hb;by_cases hlt:k<l.length
  ·obtain ⟨a2,c2,e2,_,_,hg⟩:=(HS.out.below HB.out).ins;injection e2 with e2 e3 e4;clear e3;subst e2 e4;obtain ⟨b1,o1,va,rfl,_,d0,d1,hso⟩:=hg k l[k] (zL hlt);have HD:=aA (ZX hlt);have HVA:=aA (HL.out l[k] (z0J hlt) _ HB.out _ _ hso);obtain ⟨ea,ec,rfl⟩:∃a c,va=.slice a l[k].args.length c:=(by obtain ⟨a,c,e,_⟩:=hso;exact ⟨a,c,e⟩);clear hg hso;generalize l[k]=x at *;obtain ⟨t,m⟩:=x;dsimp only at *;cases hvx:tI ⟨t,m⟩;all_goals rw [hvx] at HVA;have HVX:=aA hvx;clear hvx
   ·go_wp2_with (go_at_call 99;refine HVA.out.mono ?_;rintro e w2 ⟨rfl,hb⟩;have HB2:=aA (HB.out.trans (hb.mono HB.out.size));clear hb);go_ret;exact ⟨⟨k,rfl,by rw [HT.out,HD.out,z1C,HVX.out];simp⟩,HB2.out⟩
   ·go_wp2_with (go_at_call 99;refine HVA.out.mono ?_;rintro e w2 ⟨rfl,hb⟩;have HB2:=aA (HB.out.trans (hb.mono HB.out.size));clear hb);go_round;case rel=>exact ⟨k+1,by omega,by go_num,by rw [HT.out,HD.out,z1C,HVX.out];rfl,HB2.out⟩
    case measure=>simp [intOf];omega
  ·go_wp2;go_ret;exact ⟨⟨-1,rfl,by rw [HT.out,VA (by omega)];rfl⟩,HB.out⟩
theorem Legal_any (p:aB) (v:Value) (l:List Ins) (w:World) (h:SlR rP w p v l) (hT:Spc w) (hm:∀x∈l,CV x):
  Calls Tryz.prog 53 #[v] w λe w'=>e=.returned (.bool (l.all tI))/\Below w.heap.size w w':=by
 have HI:=aA (UU p v l w h hT hm);have hcnt:Calls Tryz.prog 98 #[v,.func (.func 99) #[] #[]] w λe w'=>e=.returned (.bool (l.any λx=>!tI x))/\Below w.heap.size w w':=by obtain ⟨a,c,rfl,_,_,_⟩:=h.ins;clear h hm hT;go_enter Tryz.func98,Tryz.ntmps98;go_wp2_with (go_at_call 141;refine HI.out.mono ?_;rintro e w1 ⟨⟨r,rfl,hr⟩,hb⟩;have HR:=aA hr;have HB:=aA hb;clear hr hb);go_ret;exact ⟨aF HR.out,HB.out⟩
 have HC:=aA hcnt;have hE:(!(l.any λx=>!tI x))=l.all tI:=by rw [List.any_eq_not_all_not,Bool.not_not];congr 1;funext x;rw [Bool.not_not]
 have HE:=aA hE;obtain ⟨a,c,rfl,_,_,_⟩:=h.ins;clear hcnt HI hE h hm hT;go_enter Tryz.func53,Tryz.ntmps53;go_wp2_with (go_at_call 98;refine HC.out.mono ?_;rintro e w1 ⟨rfl,hb⟩;have HB:=aA hb;clear hb);go_ret;exact ⟨aF HE.out,HB.out⟩
end Go.Proofs.YtpigbggoiipmhaaGreatDoor
