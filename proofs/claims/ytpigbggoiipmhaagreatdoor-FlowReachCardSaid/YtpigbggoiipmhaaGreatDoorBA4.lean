/-
  The texts of the rules, the operands' names, words, fields. Conditions: sizes; the library's table as its initialiser lays it.
-/
import Derived.Test.YtpigbggoiipmhaaGreatDoorBA3
import Derived.RangeFuncNested
import Derived.RangeFuncBound
import Derived.RangeFuncCalls
import Derived.RangeFuncLeaves
import Derived.Shelf.Strings.Cut
import Derived.TacticsInMore
import Derived.LoopNIn
import Derived.LoopIn
namespace Go.Proofs.YtpigbggoiipmhaaGreatDoor
set_option maxHeartbeats 4000000
set_option maxRecDepth 100000
open Go.RowKit Go.Shelf
attribute [local go_sem] Oper.semAt_some
section
variable {α:Type} {F:Fence} {n:Nat} {P:Program}
def OwnB {β:Type} (bx:Nat) (J:β->World->Prop):Prop:=∀s A B row,J s A->A.grownBy B row->(∀r,row=some r->r=bx)->J s B
def xG {β:Type} (bx B:Nat) (I:β->World->Prop):Prop:=∀s W W' row,I s W->W.grownBy W' row->(∀r,row=some r->r=bx\/(B<=r/\∃o:Obj,W.heap[r]?=some o/\o.isCells=false))->I s W'
theorem xG.putObj {β:Type} {bx B:Nat} {I:β->World->Prop} (h:xG bx B I) {s:β} {W:World} {l:Nat} {o:Obj} (o':Obj) (hs:I s W) (hB:B<=l) (hl:W.heap[l]?=some o) (ho:o.isCells=false):I s (W.putObj l o'):=h s W _ (some l) hs (grownBy_putObj' W l o') (λr e=>by cases e;exact .inr ⟨hB,o,hl,ho⟩)
theorem xG.alloc {β:Type} {bx B:Nat} {I:β->World->Prop} (h:xG bx B I) {s:β} {W:World} (o:Obj) (hs:I s W):I s (W.alloc o):=h s W _ none hs (World.grownBy_alloc W o none) (λr e=>by cases e)
def RE (F:Fence) (n:Nat) (P:Program) (gf:Nat) (lb:Array Value) (encs:α->Array Value) (bx:Nat) (S Sp:List α->Prop) (w0:World):Prop:=
 ∀(l:Nat) (J Jx:List α->World->Prop) (W:World),Below w0.heap.size w0 W->OwnB bx J->OwnB bx Jx->
  (∀pre x W1,Sp (pre++[x])->J pre W1->YieldAt F (n - 1) P l (encs x) W1 λe W'=>(e=.returned (.bool true)/\J (pre++[x]) W'/\W'.heap[bx]?=W1.heap[bx]?)\/(e=.returned (.bool false)/\Jx (pre++[x]) W'))->
  J [] W->CallsIn F n P gf (#[.func (.yield l) #[] #[]]++lb) W λe W'=>(∃v,e=.returned v)/\((∃xs,S xs/\J xs W')\/(∃pre,Sp pre/\Jx pre W'))
theorem jD {g:Operand} {ps:Array Tmp} {assign body:Code} {Q:Exit->Act->World->Prop} {a:Act} {w:World}
  (hro:F.round=none) (h1:1<=n) {gf:Nat} {lb:Array Value} (hg:a.eval g=.func (.func gf) #[] lb) (hFg:F.fn gf) (eg:∀args w,(callFunc gf args).run P w=.ok (.enter gf args) w)
  {encs:α->Array Value} {bx:Nat} (hbx:bx < w.heap.size) {S Sp:List α->Prop} {w0:World} (hseq:RE F (n - 1) P gf lb encs bx S Sp w0)
  (hb0:Below w0.heap.size w0 w) (hps:∀x,(encs x).size=ps.size)
  (I:List α->World->Prop) (Ix:Code->List α->World->Prop) (hI:xG bx w.heap.size I) (hIx:∀c,xG bx w.heap.size (Ix c)) (h0:I [] w) (a₁:α->Act)
  (hassign:∀(l:Nat) (x:α) (W:World) (K:Act->World->Prop),K (a₁ x) W->
   assign.wpIn (F.inRound l) (n - 1 - 1) P (Exit.then K (λ_ _ _=>False)) {tmps:=(ps.zip (encs x)).foldl (λt (p,v)=>t.setIfInBounds p v) a.tmps,defers:=[]} W)
  (hbody:∀(l:Nat) (pre:List α) (x:α) (W:World),Sp (pre++[x])->I pre W->body.wpIn (F.inRound l) (n - 1 - 1) P (ownPostG w.heap.size (λA B=>B.heap[bx]?=A.heap[bx]?) I Ix (pre++[x]) W) (a₁ x) W)
  (hdone:∀(D:Nat) (xs:List α) (W:World),w.heap.size<=D->S xs->I xs W->W.heap[D]?=some (.deferred (some []))->Q .normal {a with defers:={target:=.collected D,args:=#[]}::a.defers} W)
  (hstop:∀(D:Nat) (c:Code) (pre:List α) (W:World),w.heap.size<=D->Sp pre->Ix c pre W->W.heap[D]?=some (.deferred (some []))->c.wpIn F n P Q {a with defers:={target:=.collected D,args:=#[]}::a.defers} W):
  (Code.rangeFunc g ps assign body).wpIn F n P Q a w:=by
 refine wpIn_rangeFunc ?_;intro fn hfn;rw [hro];obtain ⟨rec,hrec⟩:∃rec:LoopState->Option Code->Loop,rec=λst pe=>{state:=st,pending:=pe,fn,tmps:=a.tmps,params:=ps,assign,body,defers:=w.heap.size}:=⟨_,rfl⟩;obtain ⟨W1,hW1⟩:∃W1,(w.alloc (.deferred (some []))).alloc (.loop (rec .ready none))=W1:=⟨_,rfl⟩;have hL1:W1.heap[w.heap.size+1]?=some (.loop (rec .ready none)):=by rw [<-hW1];have:=World.alloc_heap_new (w.alloc (.deferred (some []))) (.loop (rec .ready none));rwa [zW] at this
 have hK1:W1.heap[w.heap.size]?=some (.deferred (some [])):=by rw [<-hW1];exact (z1S _ _ _ (by simp)).trans (World.alloc_heap_new w _)
 have hI1:I [] W1:=by rw [<-hW1];exact hI.alloc _ (hI.alloc _ h0)
 have hb1:Below w0.heap.size w0 W1:=by rw [<-hW1];exact hb0.trans ((((zY _ w).alloc (zI _) _).alloc (by simp) _).mono hb0.size)
 refine ⟨w.heap.size+1,[{target:=.collected w.heap.size,args:=#[]}],W1,{target:=.fn (.func gf) lb,args:=#[.func (.yield (w.heap.size+1)) #[] #[]]},W1,gf,
  #[.func (.yield (w.heap.size+1)) #[] #[]]++lb,W1,?_,?_,?_,?_,λ_=>h1,?_⟩
 ·rw [<-hW1,hrec];exact run_enterLoop_outer _ _ _ _ _
 ·simp only [resolve,hg];simp [go_sem]
 ·intro f' hf';simp [Target.leads] at hf';subst hf';exact hFg
 ·simp [invoke,go_sem,eg]
 ·have hkp:∀{A B:World} {row:Option Nat} {k:Nat} {o:Obj},A.grownBy B row->(∀r,row=some r->r=bx)->w.heap.size<=k->A.heap[k]?=some o->B.heap[k]?=some o:=λhg' hr hk ho=>(hg'.block _ (jN.1 ho).1 (λe=>by have:=hr _ e.symm;omega)).trans ho;refine (hseq (w.heap.size+1)
   (λpre W=>I pre W/\W.heap[w.heap.size+1]?=some (.loop (rec .ready none))/\W.heap[w.heap.size]?=some (.deferred (some [])))
   (λpre W=>∃c,Ix c pre W/\W.heap[w.heap.size+1]?=some (.loop (rec .done (some c)))/\W.heap[w.heap.size]?=some (.deferred (some [])))
   W1 hb1
   (λs A B row hs hg' hr=>⟨hI s A B row hs.1 hg' (λr e=>.inl (hr r e)),hkp hg' hr (jQ _) hs.2.1,hkp hg' hr (zI _) hs.2.2⟩)
   (λs A B row hs hg' hr=>by obtain ⟨c,hc,hl,hk⟩:=hs;exact ⟨c,hIx c s A B row hc hg' (λr e=>.inl (hr r e)),hkp hg' hr (jQ _) hl,hkp hg' hr (zI _) hk⟩)
   ?_ ⟨hI1,hL1,hK1⟩).mono ?_
  ·
   rintro pre x W hsp ⟨hi,hl,hk⟩;have hlt:w.heap.size+1 < W.heap.size:=(jN.1 hl).1;have hy:=run_yield (P:=P) (args:=encs x) hl (by rw [hrec];exact hps x);rw [hrec] at hy;refine ⟨fn,_,assign,body,hy,roundIn_of_wpIn hfn (hassign _ x W _ ⟨_,run_beginRound hl (by rw [hrec]),?_⟩)⟩;have hl2:(W.putObj (w.heap.size+1) (.loop {rec .ready none with state:=.busy})).heap[w.heap.size+1]?=some (.loop {rec .ready none with state:=.busy}):=z1W hlt;have hk2:(W.putObj (w.heap.size+1) (.loop {rec .ready none with state:=.busy})).heap[w.heap.size]?=some (.deferred (some [])):=(QU (by omega)).trans hk;have hw2:(W.putObj (w.heap.size+1) (.loop {rec .ready none with state:=.busy})).heap[bx]?=W.heap[bx]?:=QU (by omega);refine wpIn_mono (hbody _ pre x _ hsp (hI.putObj _ hi (by omega) hl rfl)) ?_;have fin:∀(jump:Option Code) (W3:World),KeepsFrom w.heap.size (W.putObj (w.heap.size+1) (.loop {rec .ready none with state:=.busy})) W3->
     (Instr.endRound (w.heap.size+1) jump).run P W3=.ok (.bool jump.isNone) (W3.putObj (w.heap.size+1) (.loop (rec (if jump.isNone then .ready else .done) jump)))/\
     W3.heap[w.heap.size+1]?=some (.loop {rec .ready none with state:=.busy})/\
     (W3.putObj (w.heap.size+1) (.loop (rec (if jump.isNone then .ready else .done) jump))).heap[w.heap.size+1]?=some (.loop (rec (if jump.isNone then .ready else .done) jump))/\
     (W3.putObj (w.heap.size+1) (.loop (rec (if jump.isNone then .ready else .done) jump))).heap[w.heap.size]?=some (.deferred (some [])):=λjump W3 hk3=>by
    have hl3:=hk3.same _ _ (by omega) hl2 rfl;have:=run_endRound (P:=P) jump hl3;rw [hrec] at this ⊢;exact ⟨this,by rw [hrec] at hl3;exact hl3,z1W (jN.1 hl3).1,(QU (by omega)).trans (hk3.same _ _ (zI _) hk2 rfl)⟩
   rintro e a3 W3 hp;cases e with
   | normal=>obtain ⟨hk3,hkp3,hi3⟩:=hp;obtain ⟨hr,hl3,hl4,hk4⟩:=fin none W3 hk3;exact ⟨_,_,hr,.inl ⟨rfl,⟨hI.putObj _ hi3 (by omega) hl3 rfl,hl4,hk4⟩,((QU (by omega)).trans hkp3).trans hw2⟩⟩
   | ret=>obtain ⟨hk3,hi3⟩:=hp;obtain ⟨hr,hl3,hl4,hk4⟩:=fin (some .ret) W3 hk3;exact ⟨_,_,hr,.inr ⟨rfl,.ret,(hIx _).putObj _ hi3 (by omega) hl3 rfl,hl4,hk4⟩⟩
   | exit id=>obtain ⟨hk3,hi3⟩:=hp;obtain ⟨hr,hl3,hl4,hk4⟩:=fin (some (.exit id)) W3 hk3;exact ⟨_,_,hr,.inr ⟨rfl,.exit id,(hIx _).putObj _ hi3 (by omega) hl3 rfl,hl4,hk4⟩⟩
   | goto t=>obtain ⟨hk3,hi3⟩:=hp;obtain ⟨hr,hl3,hl4,hk4⟩:=fin (some (.goto t)) W3 hk3;exact ⟨_,_,hr,.inr ⟨rfl,.goto t,(hIx _).putObj _ hi3 (by omega) hl3 rfl,hl4,hk4⟩⟩
   | panic ch=>exact hp.elim
   | outgrown=>exact hp.elim
  ·
   rintro e W2 ⟨⟨v,rfl⟩,(⟨xs,hS,hi,hl,hk⟩ | ⟨pre,hSp,c,hi,hl,hk⟩)⟩
   ·exact ⟨none,_,by have:=run_endLoop (P:=P) hl (by rw [hrec];simp);rw [hrec] at this;exact this,hdone _ xs _ (zI _) hS (hI.putObj _ hi (by omega) hl rfl) ((QU (by omega)).trans hk)⟩
   ·exact ⟨some c,_,by have:=run_endLoop (P:=P) hl (by rw [hrec];simp);rw [hrec] at this;exact this,hstop _ c pre _ (zI _) hSp ((hIx c).putObj _ hi (by omega) hl rfl) ((QU (by omega)).trans hk)⟩
end
theorem VV (s:ByteArray) (c:UInt8) (w:World) (hs:s.size<=1000000):
  Calls Tryz.prog 279 #[.string s,.string ⟨#[c]⟩] w λe w'=>e=.returned (.tuple #[.string ⟨(Lib.cut s.data.toList [c]).1.toArray⟩,.string ⟨(Lib.cut s.data.toList [c]).2.1.toArray⟩,.bool (Lib.cut s.data.toList [c]).2.2])/\∃n,w'=w.drewN n:=by
 have HIX:=aA (λw=>(Any.stringslite_Index_one (ρ:=Tryz.lays145_ren) {Tryz.lays145 with} s c w));rcases Lib.indexB_cases s ⟨#[c]⟩ with hix | ⟨i,hix,hroom⟩
 ·obtain ⟨e1,e2,e3⟩:=Lib.cutB_miss s ⟨#[c]⟩ hix;rw [show [c]=(⟨#[c]⟩:ByteArray).data.toList from rfl,e1,e2,e3];have hi2:Lib.indexByte s.data.toList c=-1:=by rw [<-Lib.index_one];exact hix
  rw [hi2] at HIX;clear e1 e2 e3 hix hi2;go_enter Tryz.func279,Tryz.ntmps279;go_wp2_with (go_at_call 280;refine (HIX.out _).mono ?_;rintro e w' ⟨rfl,rfl⟩);go_ret3;exact ⟨rfl,0,rfl⟩
 ·obtain ⟨e1,e2,e3⟩:=Lib.cutB_hit s ⟨#[c]⟩ i hix;rw [show [c]=(⟨#[c]⟩:ByteArray).data.toList from rfl,e1,e2,e3];have hi2:Lib.indexByte s.data.toList c=i:=by rw [<-Lib.index_one];exact hix
  rw [hi2] at HIX;have hz:(⟨#[c]⟩:ByteArray).size=1:=rfl;rw [hz] at hroom;have c1:(0:Int)<=↑i:=by omega
  have c2:(↑i:Int)<=↑s.size:=by omega
  have c3:(0:Int)<=↑i+1:=by omega
  have c4:(↑i+1:Int)<=↑s.size:=by omega
  have c5:IntKind.i64.wrap ((i:Int)+1)=(i:Int)+1:=by rw [IntKind.wrap_i64];omega
  have c6:((i:Int)+1).toNat=i+1:=by omega
  clear e1 e2 e3 hix hi2;go_enter Tryz.func279,Tryz.ntmps279;go_wp2_with (go_at_call 280;refine (HIX.out _).mono ?_;rintro e w' ⟨rfl,rfl⟩);go_region;go_wp2;go_ret3;exact ⟨rfl,1,rfl⟩
theorem KG (s:ByteArray) (c:UInt8) (w:World) (hs:s.size<=1000000):
  Calls Tryz.prog 257 #[.string s,.string ⟨#[c]⟩] w λe w'=>e=.returned (.tuple #[.string ⟨(Lib.cut s.data.toList [c]).1.toArray⟩,.string ⟨(Lib.cut s.data.toList [c]).2.1.toArray⟩,.bool (Lib.cut s.data.toList [c]).2.2])/\∃n,w'=w.drewN n:=by
 have HC:=aA (VV s c w hs);generalize (⟨(Lib.cut s.data.toList [c]).1.toArray⟩:ByteArray)=x at *;generalize (⟨(Lib.cut s.data.toList [c]).2.1.toArray⟩:ByteArray)=y at *;generalize (Lib.cut s.data.toList [c]).2.2=z at *;go_enter Tryz.func257,Tryz.ntmps257;go_wp2_with (go_at_call 279;refine HC.out.mono ?_;rintro e w' ⟨rfl,n,rfl⟩);go_ret3;exact ⟨rfl,n,rfl⟩
attribute [local go_sem] Oper.semAt_some
def aU:List UInt8->List (List UInt8)
 | []=>[[]]
 | c::r=>if c=59 then []::aU r else match aU r with | []=>[[c]] | x::L=>(c::x)::L
theorem rQ:∀(x r:List UInt8),(∀c∈x,c≠59)->aU (x++59::r)=x::aU r
 | [],r,_=>by show aU (59::r)=_;rw [aU,if_pos rfl]
 | c::x,r,h=>by show aU (c::(x++59::r))=_;rw [aU,if_neg (h c (by simp)),rQ x r (λz hz=>h z (by simp [hz]))]
theorem rT:∀(x:List UInt8),(∀c∈x,c≠59)->aU x=[x]
 | [],_=>rfl
 | c::x,h=>by rw [aU,if_neg (h c (by simp)),rT x (λz hz=>h z (by simp [hz]))]
theorem NW (s:List UInt8):((Lib.cut s [59]).2.2=true/\aU s=(Lib.cut s [59]).1::aU (Lib.cut s [59]).2.1/\(Lib.cut s [59]).2.1.length < s.length)\/((Lib.cut s [59]).2.2=false/\aU s=[(Lib.cut s [59]).1]/\(Lib.cut s [59]).2.1=[]):=by
 unfold Lib.cut;rw [Lib.index_one];by_cases h:0<=Lib.indexByte s 59
 ·rw [if_pos h];left;obtain ⟨o,ho⟩:∃o:Nat,Lib.indexByte s 59=o:=⟨_,(Int.toNat_of_nonneg h).symm⟩;obtain ⟨h1,h2⟩:=Lib.indexByte_some ho;have hlt:o < s.length:=(ZV.1 h1).1;rw [ho];have hto:((o:Nat):Int).toNat=o:=rfl;rw [hto];refine ⟨rfl,?_,by simp;omega⟩;have hs:s=s.take o++59::s.drop (o+1):=by have h3:s.drop o=59::s.drop (o+1):=(by rw [ZX hlt];congr 1;exact (ZV.1 h1).2);rw [<-h3,List.take_append_drop]
  have h4:=rQ (s.take o) (s.drop (o+1)) (λc hc e=>by obtain ⟨k,hk⟩:=List.mem_iff_getElem?.1 hc;have hk2:k < o:=(by have:=(ZV.1 hk).1;simp at this;omega);rw [List.getElem?_take_of_lt hk2] at hk;exact h2 k hk2 (by rw [hk,e]));rw [<-hs] at h4;exact h4
 ·rw [if_neg h];right;refine ⟨rfl,?_,rfl⟩;have h1:Lib.indexByte s 59=-1:=by have:=Lib.indexByte_ge s 59;omega
  exact rT s (λc hc e=>by obtain ⟨k,hk⟩:=List.mem_iff_getElem?.1 hc;exact Lib.indexByte_none h1 k (by rw [hk,e]))
theorem cut_fst (s:List UInt8):(Lib.cut s [59]).1.length<=s.length:=by
 unfold Lib.cut;split
 ·show (s.take _).length<=_;rw [JX];exact Nat.min_le_right _ _
 ·exact zI _
theorem xR (s:ByteArray) (w:World):
  Calls Tryz.prog 256 #[.string s] w λe w'=>e=.returned (.func (.func 278) #[] #[.pointer (some ⟨w.heap.size,0,none⟩)])/\w'=w.alloc (.cells #[.string s] 9):=by
 have hmf:∀(fn:Fn) (first cap:Array Value) (w:World),(Instr.makeFunc fn first cap).run Tryz.prog w=.ok (.func fn first cap) w:=λ_ _ _ _=>rfl;go_enter Tryz.func256,Tryz.ntmps256;go_wp2;go_ret;exact ⟨rfl,rfl⟩
def EI (bx:Nat) (w:World):Nat:=match w.cell? ⟨bx,0,none⟩ with | some (.string s)=>s.size | _=>0
theorem vQ {bx:Nat} {w:World} {s:ByteArray} (h:w.cell? ⟨bx,0,none⟩=some (.string s)):EI bx w=s.size:=by unfold EI;rw [h]
def moreN:Value->Nat | .bool true=>1 | _=>0
theorem MB (w:World) (n bx:Nat) (v:Value):w.grownBy ((w.drewN n).setCell ⟨bx,0,none⟩ v) (some bx):=⟨rfl,rfl,rfl,by rw [yY];exact zI _,λk _ hk=>xV _ _ _ _ (λe=>hk (by rw [e]))⟩
abbrev SL:={x:List UInt8 // x.length<=1000000}
def MU (x:SL):Array Value:=#[.string ⟨x.1.toArray⟩]
abbrev iR (L:List SL):List (List UInt8):=L.map (·.1)
theorem vU (bx:Nat) (s:ByteArray) (w:World) (hB:Blk w bx 9 #[.string s]) (hs:s.size<=1000000):
  RE Fence.wide 8 Tryz.prog 278 #[.pointer (some ⟨bx,0,none⟩)] MU bx (λxs=>iR xs=aU s.data.toList) (λpre=>iR pre <+: aU s.data.toList) w:=by
 intro l J Jx W hW hJ hJx hY h0;have hB':=hB.below hW hB.lt;have HJ:=aA hJ;have HJx:=aA hJx;have HY:=aA hY;have H0:=aA h0;have HBW:=aA hB';have HSZ:=aA hs;clear hB hW hJ hJx hY h0 hB' hs;refine callsIn_of_wp Tryz.func278 rfl trivial ?_ rfl;simp only [Tryz.ntmps278,List.size_toArray,List.length_cons,List.length_nil,Nat.reduceAdd,Nat.reduceSub,Array.replicate_succ,Array.replicate_zero,List.push_toArray,List.append_toArray,List.nil_append,List.cons_append];gi_wp2;gi_loopw [3] (λm wr=>∃(more:Bool) (rest:ByteArray) (pre:List SL),m=.bool more/\Blk wr bx 9 #[.string rest]/\rest.size<=1000000/\J pre wr/\(more=true->aU s.data.toList=iR pre++aU rest.data.toList)/\(more=false->aU s.data.toList=iR pre/\rest.size=0)) (λm wr=>EI bx wr+moreN m);case atStart=>exact ⟨true,s,[],rfl,HBW.out,HSZ.out,H0.out,λ_=>rfl,λh=>by cases h⟩
 case round=>
  obtain ⟨more,rest,pre,rfl,hb,hr,hj,h1,h2⟩:=hrel;have c1:=hb.cell 0;cases more
  ·have HE:=aA (h2 rfl).1;have HJ2:=aA hj;clear h1 h2 hj hb;gi_wp2;go_end0;exact ⟨⟨_,rfl⟩,.inl ⟨pre,HE.out.symm,HJ2.out⟩⟩
  ·have HE:=aA (h1 rfl);have HJ2:=aA hj;have HBR:=aA hb;have hbl:=vQ c1;have HCU:=aA (KG rest 59 wr hr);have HCS:=aA (NW rest.data.toList);have HRS:Hid (rest.data.toList.length=rest.size):=(by show _=_;simp);clear h1 h2 hj hb;have hxl:(Lib.cut rest.data.toList [59]).1.length<=1000000:=qJ (cut_fst _) (by rw [HRS.out];exact hr);generalize Lib.cut rest.data.toList [59]=q at *;obtain ⟨x,y,z⟩:=q;have hxl:x.length<=1000000:=hxl;have HP:Hid (iR (pre++[⟨x,hxl⟩]) <+: aU s.data.toList):=by
    show _ <+: _;rcases HCS.out with ⟨_,h,_⟩ | ⟨_,h,_⟩
    ·rw [HE.out,h];exact ⟨aU y,by simp [iR]⟩
    ·rw [HE.out,h];exact ⟨[],by simp [iR]⟩
   gi_wp2_with (refine ⟨trivial,?_⟩;gi_at_call 257;refine (callsIn_wide.2 HCU.out).mono ?_;rintro e w2 ⟨rfl,nq,rfl⟩;have hb2:=HBR.out.below (aY (zY wr.heap.size _) nq) HBR.out.lt;have c2:=hb2.cell 0;have g2:=hb2.free 0;have HB3:=aA (hb2.set 0 (.string ⟨y.toArray⟩));obtain ⟨fn,tmps,assign,body,hy,hR⟩:=HY.out pre ⟨x,hxl⟩ _ HP.out (HJ.out _ _ _ _ HJ2.out (MB wr nq bx (.string ⟨y.toArray⟩)) (λr e=>by injection e with e;exact e.symm));dsimp only [MU] at hy;have HR:=aA hR;clear hR hb2);refine HR.out.mono ?_;rintro e W' (⟨rfl,hj3,hk3⟩ | ⟨rfl,hjx3⟩)
   ·have hb4:Blk W' bx 9 #[.string ⟨y.toArray⟩]:=hk3.trans HB3.out;have HB4:=aA hb4;have HJ3:=aA hj3;have hbl4:=vQ (hb4.cell 0);have hys:(⟨y.toArray⟩:ByteArray).size=y.length:=XF;clear hj3 hk3 hb4 hy c1 c2 g2;gi_wp2;go_roundw;case rel=>
     refine ⟨z,⟨y.toArray⟩,pre++[⟨x,hxl⟩],rfl,HB4.out,?_,HJ3.out,?_,?_⟩
     ·rw [hys];have h3:=HRS.out;rcases HCS.out with ⟨_,_,h⟩ | ⟨_,_,h⟩
      ·omega
      ·rw [h];exact YD _
     ·intro hz;rcases HCS.out with ⟨_,h,_⟩ | ⟨h,_,_⟩
      ·rw [HE.out,h];simp [iR]
      ·rw [hz] at h;cases h
     ·intro hz;rcases HCS.out with ⟨h,_,_⟩ | ⟨_,h,h2⟩
      ·rw [hz] at h;cases h
      ·rw [HE.out,h,hys,h2];exact ⟨by simp [iR],rfl⟩
    case measure=>
     rw [hbl4,hbl,hys];have h3:=HRS.out;rcases HCS.out with ⟨h1,_,h⟩ | ⟨h1,_,h⟩
     ·rw [h1];show y.length+1 < rest.size+1;omega
     ·rw [h1,h];show 0+0 < rest.size+1;omega
   ·have HJ3:=aA hjx3;clear hjx3 hy c1 c2 g2;gi_wp2;refine yR (results_none rfl _ _ _) rfl ?_;exact ⟨⟨_,rfl⟩,.inr ⟨pre++[⟨x,hxl⟩],HP.out,HJ3.out⟩⟩
def gF (op:Nat):Nat->List UInt8->Bool
 | _,[]=>true
 | i,c::r=>if 8<=i then true else (if c=48\/c=49 then decide (c.toNat - 48=op / 2 ^ (7 - i) % 2) else true)&&gF op (i+1) r
def eY (t:List UInt8) (op:Nat):Bool:=gF op 0 t&&!t.isEmpty
theorem FQ (op:Nat) (t:List UInt8) (k:Nat) (hk:k < t.length) (h8:k < 8):gF op k (t.drop k)=((if t[k]=48\/t[k]=49 then decide (t[k].toNat - 48=op / 2 ^ (7 - k) % 2) else true)&&gF op (k+1) (t.drop (k+1))):=by rw [ZX hk,gF,if_neg (by omega)]
theorem LH (op:Nat) (t:List UInt8) (k:Nat) (h:k=min t.length 8):gF op k (t.drop k)=true:=by
 by_cases hk:k < t.length
 ·rw [ZX hk,gF,if_pos (by omega)]
 ·rw [List.drop_eq_nil_of_le (by omega),gF]
theorem and1_u8:∀x:Fin 256,bits .and .u8 (x.val:Int) 1=((x.val % 2:Nat):Int):=by decide+kernel
theorem CX (op k:Nat) (hop:op < 256):bits .and .u8 ((op:Int) / 2 ^ k) 1=((op / 2 ^ k % 2:Nat):Int):=by
 have h1:op / 2 ^ k < 256:=z1G (Nat.div_le_self _ _) hop;have h2:=and1_u8 ⟨op / 2 ^ k,h1⟩;have h3:((op:Int) / 2 ^ k)=((op / 2 ^ k:Nat):Int):=by simp
 rw [h3];exact h2
theorem xE (t:ByteArray) (op:Nat) (hop:op < 256) (w:World) (hs:t.size<=1000000):
  Calls Tryz.prog 233 #[.string t,.int .u8 op] w λe w'=>e=.returned (.bool (eY t.data.toList op))/\w'=w:=by
 have hs1:(t.size:Int)<=1000000:=by omega
 have hmin:min (t.size:Int) 8=((min t.size 8:Nat):Int):=by omega
 obtain ⟨m,hm⟩:∃m,m=min t.size 8:=⟨_,rfl⟩;rw [<-hm] at hmin;have hm8:m<=8:=by omega
 have hmt:m<=t.size:=by omega
 have HST:=aA (FQ op t.data.toList);have HEN:=aA (LH op t.data.toList m (by simpa using hm));have HRR:Hid (eY t.data.toList op=(gF op 0 t.data.toList&&!t.data.toList.isEmpty)):=aA rfl;generalize eY t.data.toList op=R at *;clear hm;go_enter Tryz.func233,Tryz.ntmps233;go_wp2;go_loopw [10] (λi wr=>∃k:Nat,k<=m/\i=.int .i64 k/\wr=w/\gF op 0 t.data.toList=gF op k (t.data.toList.drop k)) (λi _=>m - (intOf i).toNat);case atStart=>exact ⟨0,YD _,rfl,rfl,by rw [List.drop_zero]⟩
 case round=>
  obtain ⟨k,hk,rfl,rfl,hx⟩:=hrel;have HX:=aA hx;clear hx;by_cases hlt:k < m
  ·have hkt:k < t.size:=(by omega);have HS:=aA (HST.out k (by simpa using hkt) (by omega));have e1:t.data.toList[k]'(by simpa using hkt)=t[k]:=rfl;rw [e1] at HS;clear e1;have hk7:(k:Int)<=7:=(by omega);have hsb:=CX op (7 - k) hop;have hb2:op / 2 ^ (7 - k) % 2 < 2:=z2F _ (by omega);generalize op / 2 ^ (7 - k) % 2=b at *;by_cases h48:t[k]=48
   ·have hc:(t[k].toNat:Int)=48:=(by rw [h48];rfl);have hb1:((t[k].toNat:Int)==48)=true:=(by rw [hc];rfl);by_cases hb:b=0
    ·subst hb;have HN:Hid (gF op k (t.data.toList.drop k)=gF op (k+1) (t.data.toList.drop (k+1))):=(by show _=_;rw [HS.out,h48];rfl);clear h48;exact tX65
    ·obtain rfl:b=1:=(by omega);have HN:Hid (gF op k (t.data.toList.drop k)=false):=(by show _=_;rw [HS.out,h48];rfl);clear h48;go_wp2;go_ret;exact ⟨aF (by rw [HRR.out,HX.out,HN.out];rfl),rfl⟩
   ·by_cases h49:t[k]=49
    ·have hc:(t[k].toNat:Int)=49:=(by rw [h49];rfl);have hb1:((t[k].toNat:Int)==49)=true:=(by rw [hc];rfl);have hb0:((t[k].toNat:Int)==48)=false:=(by rw [hc];rfl);by_cases hb:b=1
     ·subst hb;have HN:Hid (gF op k (t.data.toList.drop k)=gF op (k+1) (t.data.toList.drop (k+1))):=(by show _=_;rw [HS.out,h49];rfl);exact tX5b
     ·obtain rfl:b=0:=(by omega);have HN:Hid (gF op k (t.data.toList.drop k)=false):=(by show _=_;rw [HS.out,h49];rfl);clear h48 h49;go_wp2;go_ret;exact ⟨aF (by rw [HRR.out,HX.out,HN.out];rfl),rfl⟩
    ·have hb1:((t[k].toNat:Int)==49)=false:=(by rw [yW];exact λe=>h49 (z1O.1 (by have h:(49:UInt8).toNat=49:=rfl;omega)));have hb0:((t[k].toNat:Int)==48)=false:=(by rw [yW];exact λe=>h48 (z1O.1 (by have h:(48:UInt8).toNat=48:=rfl;omega)));have HN:Hid (gF op k (t.data.toList.drop k)=gF op (k+1) (t.data.toList.drop (k+1))):=(by show _=_;rw [HS.out,if_neg (by rintro (h | h);exact h48 h;exact h49 h)];rfl);exact tX5b
  ·obtain rfl:k=m:=(by omega);have HE:Hid (gF op 0 t.data.toList=true):=aA (HX.out.trans HEN.out);have HNE:Hid (R=!t.data.toList.isEmpty):=(by show _=_;rw [HRR.out,HE.out];rfl);go_wp2;go_ret;exact ⟨aF (by rw [HNE.out,Go.ByteArray.toList_eq]),rfl⟩
def dV (op:Nat):List (List UInt8)->Option (List UInt8)
 | []=>none
 | x::r=>if eY x op=true then some x else dV op r
theorem tF {op:Nat}:∀{L:List (List UInt8)},(∀x∈L,eY x op=false)->dV op L=none
 | [],_=>rfl
 | x::r,h=>by rw [dV,if_neg (by rw [h x (by simp)];exact XN),tF (λy hy=>h y (by simp [hy]))]
theorem uC {op:Nat} {x:List UInt8}:∀{pre r:List (List UInt8)},(∀y∈pre,eY y op=false)->eY x op=true->dV op (pre++x::r)=some x
 | [],r,_,h=>by show dV op (x::r)=_;rw [dV,if_pos h]
 | y::pre,r,hp,h=>by show dV op (y::(pre++x::r))=_;rw [dV,if_neg (by rw [hp y (by simp)];exact XN),uC (λz hz=>hp z (by simp [hz])) h]
def JV (w:World) (o:Option (List UInt8)) (e:Ending) (w':World):Prop:=e=.returned (match o with | some x=>.tuple #[.string ⟨x.toArray⟩,.bool true] | none=>.tuple #[.string ⟨#[]⟩,.bool false])/\Below w.heap.size w w'
structure LkB (w0:World) (b:Nat) (op:Nat) (v1 v2:Value) (w:World):Prop where
 op:Blk w b 5 #[.int .u8 op]
 r1:Blk w (b+1) 9 #[v1]
 r2:Blk w (b+2) 4 #[v2]
 below:Below w0.heap.size w0 w
 at_:w0.heap.size<=b
theorem Blk.ownBF {w w':World} {g bx B:Nat} {t:TypeId} {cs:Array Value} {row:Option Nat} (h:Blk w g t cs) (hne:g≠bx) (hg:w.grownBy w' row) (hr:∀r,row=some r->r=bx\/(B<=r/\∃o:Obj,w.heap[r]?=some o/\o.isCells=false)):Blk w' g t cs:=
 (hg.block g h.lt (λe=>by
  rcases hr g e.symm with h1 | ⟨_,o,ho,hc⟩
  ·exact hne h1
  ·have hk:w.heap[g]?=some (.cells cs t (0,0)):=h;rw [hk] at ho;injection ho with ho;subst ho;cases hc)).trans h
theorem LkB.own {w0:World} {b op bx B:Nat} {v1 v2:Value} (hbx:b+2 < bx) (hB:w0.heap.size<=B) {w w':World} {row:Option Nat} (h:LkB w0 b op v1 v2 w) (hg:w.grownBy w' row) (hr:∀r,row=some r->r=bx\/(B<=r/\∃o:Obj,w.heap[r]?=some o/\o.isCells=false)):LkB w0 b op v1 v2 w':=⟨h.op.ownBF (by omega) hg hr,h.r1.ownBF (by omega) hg hr,h.r2.ownBF (by omega) hg hr,h.below.grown hg h.below.size (λk hk=>by have:=h.at_;rcases hr k hk with h1 | ⟨h1,_⟩<;>omega),h.at_⟩
attribute [local go_sem] Oper.semAt_some
theorem LkB.set {w0 w:World} {b op:Nat} {v1 v2:Value} (h:LkB w0 b op v1 v2 w) (u1 u2:Value):LkB w0 b op u1 u2 ((w.setCell ⟨b+1,0,none⟩ u1).setCell ⟨b+2,0,none⟩ u2):=⟨(h.op.far (p:=⟨b+1,0,none⟩) (by show b≠b+1;omega) _).far (p:=⟨b+2,0,none⟩) (by show b≠b+2;omega) _,(h.r1.set 0 _).far (p:=⟨b+2,0,none⟩) (by show b+1≠b+2;omega) _,(h.r2.far (p:=⟨b+1,0,none⟩) (by show b+2≠b+1;omega) _).set 0 _,(h.below.setCell (by have:=h.at_;show _<=b+1;omega) _).setCell (by have:=h.at_;show _<=b+2;omega) _,h.at_⟩
theorem LkB.ret {w0 w:World} {b op:Nat} {v1 v2:Value} (h:LkB w0 b op v1 v2 w) (D:Nat) (hD:b+2 < D) (_:w.heap[D]?=some (.deferred (some []))):LkB w0 b op v1 v2 (w.putObj D (.deferred none)):=h.own (bx:=D) (B:=D) hD (by have:=h.at_;omega) (grownBy_putObj' _ D (.deferred none)) (λr e=>by injection e with e;exact .inl e.symm)
theorem NZ (w:World) (op:Nat) (s:ByteArray):LkB w w.heap.size op (.string ⟨#[]⟩) (.bool false) ((((w.alloc (.cells #[.int .u8 op] 5)).alloc (.cells #[.string ⟨#[]⟩] 9)).alloc (.cells #[.bool false] 4)).alloc (.cells #[.string s] 9))/\
  Blk ((((w.alloc (.cells #[.int .u8 op] 5)).alloc (.cells #[.string ⟨#[]⟩] 9)).alloc (.cells #[.bool false] 4)).alloc (.cells #[.string s] 9)) (w.heap.size+3) 9 #[.string s]:=by
 have h1:=(((Blk.new w 5 #[.int .u8 op]).alloc (.cells #[.string ⟨#[]⟩] 9)).alloc (.cells #[.bool false] 4)).alloc (.cells #[.string s] 9);have h2:=((Blk.new (w.alloc (.cells #[.int .u8 op] 5)) 9 #[.string ⟨#[]⟩]).alloc (.cells #[.bool false] 4)).alloc (.cells #[.string s] 9);have h3:=(Blk.new ((w.alloc (.cells #[.int .u8 op] 5)).alloc (.cells #[.string ⟨#[]⟩] 9)) 4 #[.bool false]).alloc (.cells #[.string s] 9);have h4:=Blk.new (((w.alloc (.cells #[.int .u8 op] 5)).alloc (.cells #[.string ⟨#[]⟩] 9)).alloc (.cells #[.bool false] 4)) 9 #[.string s];simp only [World.size_alloc] at h2 h3 h4;refine ⟨⟨h1,h2,h3,?_,zI _⟩,h4⟩;refine ((((zY _ w).alloc (zI _) _).alloc ?_ _).alloc ?_ _).alloc ?_ _<;>simp only [World.size_alloc]<;>omega
theorem oE (s:ByteArray) (op:Nat) (hop:op < 256) (w:World) (hs:s.size<=1000000):
  Calls Tryz.prog 234 #[.string s,.int .u8 op] w (JV w (dV op (aU s.data.toList))):=by
 obtain ⟨hk,hb⟩:=NZ w op s;have HK0:=aA hk;have HSEQ:=aA (vU (w.heap.size+3) s _ hb hs);have HLT:Hid (w.heap.size+3 < ((((w.alloc (.cells #[.int .u8 op] 5)).alloc (.cells #[.string ⟨#[]⟩] 9)).alloc (.cells #[.bool false] 4)).alloc (.cells #[.string s] 9)).heap.size):=hb.lt;clear hk hb hs;generalize aU s.data.toList=L at *;refine (callsIn_wide (n:=9)).1 ?_;refine callsIn_of_wp_marks Tryz.func234 rfl trivial ?_ rfl;simp only [Tryz.ntmps234,List.size_toArray,List.length_cons,List.length_nil,Nat.reduceAdd,Nat.reduceSub,Array.replicate_succ,Array.replicate_zero,List.push_toArray,List.append_toArray,List.nil_append,List.cons_append];gi_wp2_with (refine ⟨trivial,?_⟩;gi_at_call 256;refine (callsIn_wide.2 (xR s _)).mono ?_;rintro e w' ⟨rfl,rfl⟩);generalize (((w.alloc (.cells #[.int .u8 op] 5)).alloc (.cells #[.string ⟨#[]⟩] 9)).alloc (.cells #[.bool false] 4)).alloc (.cells #[.string s] 9)=W0 at *;refine jD rfl (by omega) (gf:=278) (lb:=#[.pointer (some ⟨w.heap.size+3,0,none⟩)]) rfl trivial (enters_of Tryz.func278 (by kernel_rfl) rfl)
  (encs:=MU) HLT.out HSEQ.out (zY _ _) (λ_=>rfl)
  (λpre W=>(∀y∈iR pre,eY y op=false)/\LkB w w.heap.size op (.string ⟨#[]⟩) (.bool false) W)
  (λc pre W=>c=.ret/\∃(p0:List SL) (x:SL),pre=p0++[x]/\(∀y∈iR p0,eY y op=false)/\eY x.1 op=true/\LkB w w.heap.size op (.string ⟨x.1.toArray⟩) (.bool true) W)
  (λpre W W' row hi hg hr=>⟨hi.1,hi.2.own (by omega) HK0.out.below.size hg hr⟩)
  (λc pre W W' row hi hg hr=>by dsimp only at hi ⊢;obtain ⟨rfl,p0,x,h1,h2,h3,h4⟩:=hi;exact ⟨rfl,p0,x,h1,h2,h3,h4.own (by omega) HK0.out.below.size hg hr⟩)
  ⟨λy hy=>(by cases hy),HK0.out⟩
  (λx=>{tmps:=#[.string s,.int .u8 op,undef,.pointer (some ⟨w.heap.size,0,none⟩),.pointer (some ⟨w.heap.size+1,0,none⟩),.pointer (some ⟨w.heap.size+2,0,none⟩),.string ⟨x.1.toArray⟩,.string s,.func (.func 278) #[] #[.pointer (some ⟨w.heap.size+3,0,none⟩)],.string ⟨x.1.toArray⟩,undef,undef,undef,undef],defers:=[]})
  ?assign ?body ?done ?stop
 case assign=>intro l x W K hK;dsimp only [MU];gi_wp2;exact hK
 case body=>
  rintro l pre x W _ ⟨hp,hk⟩;have HP:=aA hp;have HK:=aA hk;have d0:=hk.op.cell 0;have d1:=hk.r1.cell 0;have d2:=hk.r2.cell 0;have g1:=hk.r1.free 0;have g2:=hk.r2.free 0;have HF:=aA (xE ⟨x.1.toArray⟩ op hop W (by show x.1.toArray.size<=_;rw [XF];exact x.2));rw [show (⟨x.1.toArray⟩:ByteArray).data.toList=x.1 by simp] at HF;clear hp hk;have hsub:9 - 1 - 1=7:=rfl;simp only [hsub];cases hf:eY x.1 op
  ·rw [hf] at HF;have HFF:=aA hf;clear hf;gi_wp2_with (refine ⟨trivial,?_⟩;gi_at_call 233;refine (CallsIn.inRound l (callsIn_wide.2 HF.out)).mono ?_;rintro e w2 ⟨rfl,rfl⟩);exact ⟨KeepsFrom.refl _ _,rfl,λy hy=>by
    rw [iR,z0O,z2D] at hy;rcases hy with hy | hy
    ·exact HP.out y hy
    ·simp at hy;rw [hy];exact HFF.out,HK.out⟩
  ·rw [hf] at HF;have HFF:=aA hf;clear hf;gi_wp2_with (refine ⟨trivial,?_⟩;gi_at_call 233;refine (CallsIn.inRound l (callsIn_wide.2 HF.out)).mono ?_;rintro e w2 ⟨rfl,rfl⟩);exact ⟨((KeepsOthers.setCell _ _ _).trans (KeepsOthers.setCell _ _ _)).from _,rfl,pre,x,rfl,HP.out,HFF.out,HK.out.set _ _⟩
 case done=>
  rintro D xs W hD hall ⟨hp,hk⟩ hK;have HN:Hid (dV op L=none):=by show _=_;rw [<-hall];exact tF hp
  have HK:=aA hk;have HKD:=aA hK;have hD2:w.heap.size+2 < D:=by have:=HLT.out;omega
  have d1:=hk.r1.cell 0;have d2:=hk.r2.cell 0;have g1:=hk.r1.free 0;have g2:=hk.r2.free 0;clear hp hk hK hall;gi_wp2;have HK2:=HK.out.set (.string ⟨#[]⟩) (.bool false);have hne1:D≠w.heap.size+1:=by omega
  have hne2:D≠w.heap.size+2:=by omega
  have HKD2:((W.setCell ⟨w.heap.size+1,0,none⟩ (.string ⟨#[]⟩)).setCell ⟨w.heap.size+2,0,none⟩ (.bool false)).heap[D]?=some (.deferred (some [])):=((xV _ _ _ _ hne2).trans (xV _ _ _ _ hne1)).trans HKD.out;refine ⟨by simp,.inl ⟨_,_,rfl,run_takeDeferred HKD2,?_⟩⟩;have HK3:=HK2.ret D hD2 HKD2;have q1:=HK3.r1.cell 0;have q2:_=_:=HK3.r2.cell 0;have q3:((((W.setCell ⟨w.heap.size+1,0,none⟩ (.string ⟨#[]⟩)).setCell ⟨w.heap.size+1+1,0,none⟩ (.bool false)).putObj D (.deferred none))).cell? ⟨w.heap.size+1+1,0,none⟩=some (.bool false):=q2;refine ⟨.tuple #[.string ⟨#[]⟩,.bool false],?_,?_⟩
  ·simp [results,Tryz.results234,go_sem,q1,q3]
  ·exact ⟨by rw [HN.out],HK3.below⟩
 case stop=>
  rintro D c pre W hD hpre ⟨rfl,p0,x,rfl,hp,hf,hk⟩ hK;have HN:Hid (dV op L=some x.1):=by obtain ⟨r,hr⟩:=hpre;show _=_;rw [<-hr,iR,z0O,JP];exact uC hp hf
  have HK:=aA hk;have HKD:=aA hK;have hD2:w.heap.size+2 < D:=by have:=HLT.out;omega
  clear hp hk hK hpre hf;gi_wp2;refine ⟨by simp,.inl ⟨_,_,rfl,run_takeDeferred HKD.out,?_⟩⟩;have HK3:=HK.out.ret D hD2 HKD.out;have q1:=HK3.r1.cell 0;have q3:(W.putObj D (.deferred none)).cell? ⟨w.heap.size+1+1,0,none⟩=some (.bool true):=HK3.r2.cell 0;refine ⟨.tuple #[.string ⟨x.1.toArray⟩,.bool true],?_,?_⟩
  ·simp [results,Tryz.results234,go_sem,q1,q3]
  ·exact ⟨by rw [HN.out],HK3.below⟩
def hU (u:List UInt8) (kd:Int):Nat->List (List UInt8)->List Opd
 | _,[]=>[]
 | i,x::r=>(if x≠[]/\x=u then [⟨kd,i,0⟩] else [])++hU u kd (i+1) r
theorem zZ (u:List UInt8) (kd:Int) (y:List UInt8):∀(l:List (List UInt8)) (i:Nat),hU u kd i (l++[y])=hU u kd i l++(if y≠[]/\y=u then [⟨kd,(i+l.length:Nat),0⟩] else [])
 | [],i=>by simp [hU]
 | x::l,i=>by rw [z1H,hU,zZ u kd y l (i+1),hU,JP,VH,show i+1+l.length=i+(l.length+1) by omega]
def dE:List (Int × List (List UInt8)):=
 [(1,[[66],[67],[68],[69],[72],[76],[],[65],[]]),(2,[[73,88,72],[73,88,76],[73,89,72],[73,89,76],[],[],[],[],[]]),(3,[[66,67],[68,69],[72,76],[83,80],[65,70],[73,88],[73,89],[65,70,39],[]]),
  (8,[[78,90],[90],[78,67],[67],[80,79],[80,69],[80],[77],[]]),(9,[[73],[82],[],[],[],[],[],[],[]])]
def tO (u:List UInt8):List Opd:=dE.flatMap λx=>hU u x.1 0 x.2
theorem kind_nm (k:Nat) (hk:k < 5) (j:Nat) (hj:j < 9):(aG (dE.getD k (0,[])).1).nm j=⟨((dE.getD k (0,[])).2.getD j []).toArray⟩:=by
 have h:∀k:Fin 5,∀j:Fin 9,((aG (dE.getD k.val (0,[])).1).nm j.val).data.toList=(dE.getD k.val (0,[])).2.getD j.val []:=by decide+kernel
 have h2:=h ⟨k,hk⟩ ⟨j,hj⟩;simp only at h2;rw [<-h2]
theorem YK (k:Nat) (hk:k < 5):cR (dE.getD k (0,[])).1=true:=by
 have h:∀k:Fin 5,cR (dE.getD k.val (0,[])).1=true:=by decide+kernel
 exact h ⟨k,hk⟩
theorem wP (k:Nat) (hk:k < 5):(dE.getD k (0,[])).2.length=9:=by
 have h:∀k:Fin 5,(dE.getD k.val (0,[])).2.length=9:=by decide+kernel
 exact h ⟨k,hk⟩
theorem is_any (x u:List UInt8) (bs:Nat) (w:World) (h:Blk w bs 9 #[.string ⟨u.toArray⟩]):
  Calls Tryz.prog 297 #[.string ⟨x.toArray⟩,.pointer (some ⟨bs,0,none⟩)] w λe w'=>e=.returned (.bool (decide (x=u)))/\w'=w:=by
 have d0:=h.cell 0;clear h;have hx:=dK x;have hu:=dK u;have HE:Hid ((x==u)=decide (x=u)):=by show _=_;rw [z0C];simp
 go_enter Tryz.func297,Tryz.ntmps297;go_wp2;go_ret;exact ⟨aF HE.out,rfl⟩
theorem run_kd:∀(k:Nat),k < 5->∀w:World,(Instr.index 351 (.agg #[.int .i64 1,.int .i64 2,.int .i64 3,.int .i64 8,.int .i64 9]) (.int .i64 (k:Int))).run Tryz.prog w=.ok (.int .i64 (dE.getD k (0,[])).1) w
 | 0,_=>λ_=>by kernel_rfl
 | 1,_=>λ_=>by kernel_rfl
 | 2,_=>λ_=>by kernel_rfl
 | 3,_=>λ_=>by kernel_rfl
 | 4,_=>λ_=>by kernel_rfl
 | k+5,h=>absurd h (by omega)
theorem run_nm (d:fP):∀(j:Nat),j < 9->∀w:World,(Instr.index 212 (.agg #[.string (d.nm 0),.string (d.nm 1),.string (d.nm 2),.string (d.nm 3),.string (d.nm 4),.string (d.nm 5),.string (d.nm 6),.string (d.nm 7),.string (d.nm 8)]) (.int .i64 (j:Int))).run Tryz.prog w=.ok (.string (d.nm j)) w
 | 0,_=>λ_=>by kernel_rfl
 | 1,_=>λ_=>by kernel_rfl
 | 2,_=>λ_=>by kernel_rfl
 | 3,_=>λ_=>by kernel_rfl
 | 4,_=>λ_=>by kernel_rfl
 | 5,_=>λ_=>by kernel_rfl
 | 6,_=>λ_=>by kernel_rfl
 | 7,_=>λ_=>by kernel_rfl
 | 8,_=>λ_=>by kernel_rfl
 | j+9,h=>absurd h (by omega)
theorem QW (k:Int) (hk:cR k=true) (w:World):Calls Tryz.prog 206 #[.int .i64 k] w λe w'=>e=.returned (.tuple #[.agg #[.string ((aG k).nm 0),.string ((aG k).nm 1),.string ((aG k).nm 2),.string ((aG k).nm 3),.string ((aG k).nm 4),.string ((aG k).nm 5),.string ((aG k).nm 6),.string ((aG k).nm 7),.string ((aG k).nm 8),.int .i64 (aG k).lo,.int .i64 (aG k).hi,.func (.func (aG k).form) #[] #[]],.bool true])/\Below w.heap.size w w':=sD k hk w
theorem sU {k:Nat} (hk:k < 5) (u:List UInt8):((dE.take (k+1)).flatMap λx=>hU u x.1 0 x.2)=((dE.take k).flatMap λx=>hU u x.1 0 x.2)++hU u (dE.getD k (0,[])).1 0 (dE.getD k (0,[])).2:=by have hk2:k < dE.length:=hk;rw [ZP hk2,List.flatMap_append];congr 1;rw [JL,zL hk2];simp
theorem MD {u:List UInt8} {kd:Int} {l:List (List UInt8)} {j:Nat} (hj:j < l.length):hU u kd 0 (l.take (j+1))=hU u kd 0 (l.take j)++(if l.getD j []≠[]/\l.getD j []=u then [⟨kd,j,0⟩] else []):=by rw [ZP hj,zZ,JX,z2C (z0I hj),z2H,JL,zL hj];rfl
theorem tU (u:List UInt8) (kd:Int):∀(l:List (List UInt8)) (i:Nat),(hU u kd i l).length<=l.length
 | [],_=>YD _
 | x::r,i=>by have:=tU u kd r (i+1);rw [hU,YL,VH];split<;>simp<;>omega
theorem MX (u:List UInt8) (k:Nat):((dE.take k).flatMap λx=>hU u x.1 0 x.2).length<=9 * k:=by
 induction k with
 | zero=>simp
 | succ k ih=>
  by_cases hk:k < 5
  ·rw [sU hk,YL];have:=tU u (dE.getD k (0,[])).1 (dE.getD k (0,[])).2 0;have h9:=wP k hk;omega
  ·have hl:dE.length=5:=rfl;rw [QD (by omega)] at ih ⊢;omega
theorem LQ (u:List UInt8) (bs:Nat) (w:World) (h:Blk w bs 9 #[.string ⟨u.toArray⟩]):
  Calls Tryz.prog 296 #[.func (.func 297) #[] #[.pointer (some ⟨bs,0,none⟩)]] w λe w'=>∃v,e=.returned v/\Own aM w' w.heap.size 52 NoB v (tO u)/\Below w.heap.size w w':=by
 have HB:=aA h;clear h;go_enter Tryz.func296,Tryz.ntmps296;go_wp2;go_loopw [3,11] (λv i wr=>∃(k:Nat),k<=5/\i=.int .i64 k/\Own aM wr w.heap.size 52 NoB v ((dE.take k).flatMap λx=>hU u x.1 0 x.2)/\Below w.heap.size w wr) (λ_ i _=>5 - (intOf i).toNat);case atStart=>exact ⟨0,YD _,rfl,Own.nil _ _ _ _ _,zY _ _⟩
 case round=>
  obtain ⟨k,hk,rfl,ho,hb⟩:=hrel;have HO:=aA ho;have HBW:=aA hb;clear ho hb;by_cases hlt:k < 5
  ·have hkd:=run_kd k hlt;have HFI:=aA (λW=>QW _ (YK k hlt) W);have HNM:=aA (kind_nm k hlt);have HLE:=aA (wP k hlt);have HTK:=aA (sU hlt u);have HWL:=aA (MX u k);generalize dE.getD k (0,[])=ent at *;obtain ⟨kd,nl⟩:=ent;dsimp only at hkd HFI HNM HLE HTK;have hrn:=run_nm (aG kd);have HRN:=aA hrn;generalize aG kd=d at *;generalize ((dE.take k).flatMap λx=>hU u x.1 0 x.2)=acc at *;clear hrn;go_wp2_with (go_at_call 206;refine (HFI.out _).mono ?_;rintro e w1 ⟨rfl,hb⟩;have HB1:=aA (HBW.out.trans (hb.mono HBW.out.size));have HO1:=aA (HO.out.keep (aS.of_below hb (λj hj=>by rcases hj with hj | hj;exact hj.elim;exact (HO.out.lt j hj).2)));clear hb);have hal:=(zY w1.heap.size w1).alloc (zI _) (.cells #[.string (d.nm 0),.string (d.nm 1),.string (d.nm 2),.string (d.nm 3),.string (d.nm 4),.string (d.nm 5),.string (d.nm 6),.string (d.nm 7),.string (d.nm 8),.int .i64 d.lo,.int .i64 d.hi,.func (.func d.form) #[] #[]] 214);have HB2:=aA (HB1.out.trans (hal.mono HB1.out.size));have HO2:=aA (HO1.out.keep (aS.of_below hal (λj hj=>by rcases hj with hj | hj;exact hj.elim;exact (HO1.out.lt j hj).2)));clear hal HB1 HO1 HBW HO;go_loopw [3,21] (λv i wr2=>∃j:Nat,j<=9/\i=.int .i64 j/\Own aM wr2 w.heap.size 52 NoB v (acc++hU u kd 0 (nl.take j))/\Below w.heap.size w wr2) (λ_ i _=>9 - (intOf i).toNat);case atStart=>exact ⟨0,YD _,rfl,by rw [List.take_zero,hU,z1E];exact HO2.out,HB2.out⟩
   case round=>
    clear HO2 HB2;obtain ⟨j,hj,rfl,ho,hb⟩:=hrel;have HO:=aA ho;have HBW:=aA hb;obtain ⟨oa,oc,rfl⟩:=ho.form;clear ho hb;by_cases hjt:j < 9
    ·have HSE:=aA (MD (u:=u) (kd:=kd) (show j < nl.length by have:=HLE.out;omega));have hnm:=HNM.out j hjt;have hix:=HRN.out j hjt;rw [hnm] at hix;generalize nl.getD j []=x at *;have HIS:=aA (is_any x u bs wr (HB.out.below HBW.out HB.out.lt));have hemp:(⟨x.toArray⟩:ByteArray).toList.isEmpty=decide (x=[]):=(by rw [dK];cases x<;>rfl);have HLA:Hid ((acc++hU u kd 0 (nl.take j)).length<=1000):=(by show _<=_;have h1:=tU u kd (nl.take j) 0;have h2:=HWL.out;rw [JX] at h1;rw [YL];omega);generalize (⟨x.toArray⟩:ByteArray)=bx at *;generalize hzs:acc++hU u kd 0 (nl.take j)=zs at *;have HZS:=aA hzs;clear hnm hzs;by_cases hx:x=[]
     ·rw [z0P hx] at hemp;have HNX:Hid (acc++hU u kd 0 (nl.take (j+1))=zs):=(by show _=_;rw [HSE.out,if_neg (λh=>h.1 hx),z1E,HZS.out]);clear hx;go_wp2;exact tX63
     ·rw [z0A hx] at hemp;by_cases hu:x=u
      ·have HNX:Hid (acc++hU u kd 0 (nl.take (j+1))=zs++[⟨kd,j,0⟩]):=(by show _=_;rw [HSE.out,if_pos ⟨hx,hu⟩,<-JP,HZS.out]);rw [z0P hu] at HIS;have HL1:Hid ((zs.length+1) * 24<=140737488355328):=(by show _<=_;have:=HLA.out;omega);have HL2:Hid (zs.length+1<=9223372036854775807):=(by show _<=_;have:=HLA.out;omega);clear hx hu;go_wp2_with (first
        | (go_at_call 297;refine HIS.out.mono ?_;rintro e w3 ⟨rfl,rfl⟩)
        | (at_builtin;refine cK rfl (.tmp 32) (.tmp 36) 28 rfl w.heap.size 52 24 lH _ zs ⟨kd,j,0⟩ _ rfl rfl HO.out rfl HL1.out HL2.out HBW.out.size ?_;intro a' c' w' hp;have HP:=aA hp;clear hp))
       go_roundw;case rel=>exact ⟨j+1,by omega,by go_num,by rw [HNX.out];exact HP.out.1,HBW.out.grown HP.out.2 HBW.out.size (λk hk=>(HO.out.lt k hk).1)⟩
       case measure=>simp [intOf];omega
      ·have HNX:Hid (acc++hU u kd 0 (nl.take (j+1))=zs):=(by show _=_;rw [HSE.out,if_neg (λh=>hu h.2),z1E,HZS.out]);rw [z0A hu] at HIS;clear hx hu;go_wp2_with (go_at_call 297;refine HIS.out.mono ?_;rintro e w3 ⟨rfl,rfl⟩);exact tX63
    ·obtain rfl:j=9:=(by omega);have HFN:Hid (acc++hU u kd 0 (nl.take 9)=acc++hU u kd 0 nl):=(by show _=_;rw [QD (by have:=HLE.out;omega)]);go_wp2;go_roundw;case rel=>exact ⟨k+1,by omega,by go_num,by rw [HTK.out,<-HFN.out];exact HO.out,HBW.out⟩
     case measure=>simp [intOf];omega
  ·obtain rfl:k=5:=(by omega);have HE:Hid (((dE.take 5).flatMap λx=>hU u x.1 0 x.2)=tO u):=aA rfl;go_wp2;go_ret;exact ⟨_,rfl,by rw [<-HE.out];exact HO.out,HBW.out⟩
theorem xH (s:ByteArray) (w:World) (hs:s.size<=1000000):
  Calls Tryz.prog 285 #[.string s] w λe w'=>∃v,e=.returned v/\Own aM w' w.heap.size 52 NoB v (tO (s.data.toList.map up))/\Below w.heap.size w w':=by
 have HU:=aA (wK s w (by omega));unfold dG at HU;generalize s.data.toList.map up=u at *;have HWD:=aA (λ(bs:Nat) (W:World) (h:Blk W bs 9 #[.string ⟨u.toArray⟩])=>LQ u bs W h);have hmf:∀(fn:Fn) (first cap:Array Value) (w:World),(Instr.makeFunc fn first cap).run Tryz.prog w=.ok (.func fn first cap) w:=λ_ _ _ _=>rfl;clear hs;go_enter Tryz.func285,Tryz.ntmps285;go_wp2_with (first
  | (go_at_call 57;refine HU.out.mono ?_;rintro e w1 ⟨rfl,hb⟩;have HB1:=aA (hb.alloc hb.size (.cells #[.string ⟨u.toArray⟩] 9));have HK1:=aA (Blk.new w1 9 #[.string ⟨u.toArray⟩]);clear hb)
  | (go_at_call 296;refine (HWD.out _ _ HK1.out).mono ?_;rintro e w2 ⟨v,rfl,ho,hb⟩;have HO:=aA (ho.base HB1.out.size);have HB2:=aA (HB1.out.trans (hb.mono HB1.out.size));clear ho hb))
 go_ret;exact ⟨_,rfl,HO.out,HB2.out⟩
def eX (s:List UInt8):Option Opd:=if Lib.hasPrefix s [40]=true then ((tO ((Lib.trimSuffix (Lib.trimPrefix s [40]) [41]).map up)).head?).map (λo=>⟨4,if o.kind=3 then o.reg else 8,0⟩) else (tO (s.map up)).head?
def Opd.val (o:Opd):Value:=.agg #[.int .i64 o.kind,.int .i64 o.reg,.int .i64 o.n]
theorem sX {w:World} {B:Nat} {v:Value} {l:List Opd} {o:Opd} (h:Own aM w B 52 NoB v l) (ho:l.head?=some o):∃b q n c,v=.slice (some ⟨b,q,none⟩) n c/\0 < n/\w.cell? ⟨b,q,none⟩=some (.int .i64 o.kind)/\w.cell? ⟨b,q+1,none⟩=some (.int .i64 o.reg)/\w.cell? ⟨b,q+2,none⟩=some (.int .i64 o.n):=by
 obtain ⟨a,c,rfl,_,_,g⟩:=(h.slR (q:=λ_=>True) (λ_ h=>h.elim) (λ_ _=>trivial)).opd;cases l with
 | nil=>cases ho
 | cons x l=>
  have ho:x=o:=by injection ho
  subst ho;obtain ⟨b,q,rfl,_,h0,h1,h2⟩:=g 0 x rfl;rw [z0Z,z0N] at h0 h1 h2;exact ⟨b,q,_,c,rfl,Nat.succ_pos _,h0,h1,h2⟩
theorem sT (s p:List UInt8):(Lib.trimPrefix s p).length<=s.length:=by
 unfold Lib.trimPrefix;split
 ·rw [JS];omega
 ·exact zI _
theorem sN (s p:List UInt8):(Lib.trimSuffix s p).length<=s.length:=by
 unfold Lib.trimSuffix;split
 ·rw [JX];omega
 ·exact zI _
theorem aJ {P:Program} {fn:Func} {p:Tmp} {ty:TypeId} (h:fn.results=#[.cell p ty]) (tmps:Array Value) (w:World) (g:Nat) (t:TypeId) (cs:Array Value) (fr:Nat × Nat) (d:TypeDesc)
  (hp:tmps.getD p undef=.pointer (some ⟨g,0,none⟩)) (hg:w.heap[g]?=some (.cells cs t fr))
  (hu:P.underlying ty=some d) (hd:(match d with | .struct _ | .array _ _=>true | _=>false)=true) (hi:(P.info? ty).map (·.size)=some cs.size):
  (results fn tmps).run P w=.ok (.agg cs) w:=by
 have hp':tmps[p]?.getD undef=.pointer (some ⟨g,0,none⟩):=by simpa using hp
 simp [results,h,hp',asAddr,run_loadVar_row w g t ty cs fr d hg hu hd hi]
theorem qT (s:ByteArray) (o:Opd) (w:World) (h:eX s.data.toList=some o) (hs:s.size<=1000):
  Calls Tryz.prog 263 #[.string s] w λe w'=>e=.returned o.val/\Below w.heap.size w w':=by
 have hcp:=λW=>Tryz.strings_CutPrefix s ⟨#[40]⟩ W;have hsz:s.data.toList.length<=1000:=by simpa using hs
 have HF:=aA (Blk.new w 52 #[.int .i64 0,.int .i64 0,.int .i64 0]);have hal:=(zY w.heap.size w).alloc (zI _) (.cells #[.int .i64 0,.int .i64 0,.int .i64 0] 52);have HAL:=aA hal;rw [show (⟨#[40]⟩:ByteArray).data.toList=[40] from rfl] at hcp;have HCP:=aA hcp;unfold eX at h;by_cases hp:Lib.hasPrefix s.data.toList [40]=true
 ·rw [if_pos hp] at h;rw [hp] at HCP;have htp:(Lib.trimPrefix s.data.toList [40]).length<=1000:=qJ (sT _ _) hsz;generalize Lib.trimPrefix s.data.toList [40]=inner at *;obtain ⟨x,hx,rfl⟩:=Option.map_eq_some_iff.1 h;have hts:=λW=>Tryz.strings_TrimSuffix ⟨inner.toArray⟩ ⟨#[41]⟩ W (by show inner.toArray.size<=_;rw [XF];omega);rw [show (⟨#[41]⟩:ByteArray).data.toList=[41] from rfl,show (⟨inner.toArray⟩:ByteArray).data.toList=inner by simp] at hts;have htl:(Lib.trimSuffix inner [41]).length<=1000:=qJ (sN _ _) htp;have HTS:=aA hts;generalize Lib.trimSuffix inner [41]=t at *;have hnm:=λW=>xH ⟨t.toArray⟩ W (by show t.toArray.size<=_;rw [XF];omega);rw [show (⟨t.toArray⟩:ByteArray).data.toList=t by simp] at hnm;have HNM:=aA hnm;have HX:=aA hx;clear hcp hts hnm h hx hs hsz htp htl hp hal;obtain ⟨xk,xr,xn⟩:=x;by_cases hk:xk=3
  ·subst hk;show Calls _ _ _ _ λe w'=>e=.returned (Opd.val ⟨4,xr,0⟩)/\_;go_enter Tryz.func263,Tryz.ntmps263;go_wp2_with (first
    | (go_at_call 284;refine (HCP.out _).mono ?_;rintro e w' ⟨rfl,rfl⟩)
    | (go_at_call 55;refine (HTS.out _).mono ?_;rintro e w' ⟨rfl,rfl⟩)
    | (go_at_call 285;refine (HNM.out _).mono ?_;rintro e w2 ⟨v,rfl,ho,hb⟩;obtain ⟨nb,nq,nn,nc,rfl,hn0,e0,e1,e2⟩:=sX ho HX.out;have HB2:=aA (HAL.out.trans (hb.mono HAL.out.size));obtain ⟨z0,z1,z2,y0,y1,y2⟩:=((HF.out.below hb HF.out.lt).alloc (.cells #[.int .i64 3,.int .i64 xr,.int .i64 xn] 52)).three;have HKX:=aA (HF.out.below hb HF.out.lt);clear ho hb))
   refine yR (aJ rfl _ _ w.heap.size 52 #[.int .i64 4,.int .i64 xr,.int .i64 0] (0,0) _ rfl (show Blk _ w.heap.size 52 #[.int .i64 4,.int .i64 xr,.int .i64 0] from (((HKX.out.alloc (.cells #[.int .i64 3,.int .i64 xr,.int .i64 xn] 52)).set 0 _).set 1 _).set 2 _) Tryz.underlying52 rfl (by kernel_rfl)) rfl ⟨rfl,?_⟩;exact tX67
  ·have hk2:(xk==3)=false:=(by rw [yW];exact hk);rw [show (if (Opd.mk xk xr xn).kind=3 then (Opd.mk xk xr xn).reg else 8)=8 from if_neg hk];go_enter Tryz.func263,Tryz.ntmps263;go_wp2_with (first
    | (go_at_call 284;refine (HCP.out _).mono ?_;rintro e w' ⟨rfl,rfl⟩)
    | (go_at_call 55;refine (HTS.out _).mono ?_;rintro e w' ⟨rfl,rfl⟩)
    | (go_at_call 285;refine (HNM.out _).mono ?_;rintro e w2 ⟨v,rfl,ho,hb⟩;obtain ⟨nb,nq,nn,nc,rfl,hn0,e0,e1,e2⟩:=sX ho HX.out;have HB2:=aA (HAL.out.trans (hb.mono HAL.out.size));obtain ⟨z0,z1,z2,y0,y1,y2⟩:=((HF.out.below hb HF.out.lt).alloc (.cells #[.int .i64 xk,.int .i64 xr,.int .i64 xn] 52)).three;have HKX:=aA (HF.out.below hb HF.out.lt);clear ho hb))
   refine yR (aJ rfl _ _ w.heap.size 52 #[.int .i64 4,.int .i64 8,.int .i64 0] (0,0) _ rfl (show Blk _ w.heap.size 52 #[.int .i64 4,.int .i64 8,.int .i64 0] from (((HKX.out.alloc (.cells #[.int .i64 xk,.int .i64 xr,.int .i64 xn] 52)).set 0 _).set 1 _).set 2 _) Tryz.underlying52 rfl (by kernel_rfl)) rfl ⟨rfl,?_⟩;exact tX67
 ·have hp:Lib.hasPrefix s.data.toList [40]=false:=by simpa using hp
  rw [if_neg (by rw [hp];exact XN)] at h;rw [hp] at HCP;have HNM:=aA (λW=>xH s W (by omega));have HX:=aA h;clear hcp h hs hsz hp hal;generalize (⟨(Lib.trimPrefix s.data.toList [40]).toArray⟩:ByteArray)=inner at *;go_enter Tryz.func263,Tryz.ntmps263;go_wp2_with (first
   | (go_at_call 284;refine (HCP.out _).mono ?_;rintro e w' ⟨rfl,rfl⟩)
   | (go_at_call 285;refine (HNM.out _).mono ?_;rintro e w2 ⟨v,rfl,ho,hb⟩;obtain ⟨nb,nq,nn,nc,rfl,hn0,e0,e1,e2⟩:=sX ho HX.out;have HB2:=aA (HAL.out.trans (hb.mono HAL.out.size));obtain ⟨z0,z1,z2,y0,y1,y2⟩:=(HF.out.below hb HF.out.lt).three;have HKX:=aA (HF.out.below hb HF.out.lt);clear ho hb))
  refine yR (aJ rfl _ _ w.heap.size 52 #[.int .i64 o.kind,.int .i64 o.reg,.int .i64 o.n] (0,0) _ rfl (show Blk _ w.heap.size 52 #[.int .i64 o.kind,.int .i64 o.reg,.int .i64 o.n] from ((HKX.out.set 0 _).set 1 _).set 2 _) Tryz.underlying52 rfl (by kernel_rfl)) rfl ⟨rfl,?_⟩;exact ((HB2.out.setCell (zI _) _).setCell (zI _) _).setCell (zI _) _
def bP (c:UInt8) (op:Nat):Nat->Nat->List UInt8->Nat
 | _,acc,[]=>acc
 | i,acc,x::r=>bP c op (i+1) (if x=c then 2 * acc+op / 2 ^ (7 - i) % 2 else acc) r
theorem ET {c:UInt8} {op k acc:Nat} {l:List UInt8} (hk:k < l.length) (h:l[k]=c):bP c op k acc (l.drop k)=bP c op (k+1) (2 * acc+op / 2 ^ (7 - k) % 2) (l.drop (k+1)):=by rw [ZX hk,bP,if_pos h]
theorem MW {c:UInt8} {op k acc:Nat} {l:List UInt8} (hk:k < l.length) (h:l[k]≠c):bP c op k acc (l.drop k)=bP c op (k+1) acc (l.drop (k+1)):=by rw [ZX hk,bP,if_neg h]
theorem PS (bits:ByteArray) (rop:ByteArray) (ra:Value) (al:Bool) (c:UInt8) (op:Nat) (w:World) (hb:bits.size<=8) (hop:op < 256) (hra:∃a n c,ra=.slice a n c):
  Calls Tryz.prog 298 #[.agg #[.string bits,.string rop,ra,.bool al],.int .u8 c.toNat,.int .u8 op] w λe w'=>e=.returned (.int .i64 (bP c op 0 0 bits.data.toList))/\Below w.heap.size w w':=by
 obtain ⟨ra1,ra2,ra3,rfl⟩:=hra;have hal:=(zY w.heap.size w).alloc (zI _) (.cells #[.string bits,.string rop,.slice ra1 ra2 ra3,.bool al] 295);have HAL:=aA hal;have hb1:(bits.size:Int)<=8:=by omega
 have HYE:=aA (λ(k acc:Nat) (hk:k < bits.data.toList.length) h=>ET (c:=c) (op:=op) (acc:=acc) hk h);have HNO:=aA (λ(k acc:Nat) (hk:k < bits.data.toList.length) h=>MW (c:=c) (op:=op) (acc:=acc) hk h);clear hal;go_enter Tryz.func298,Tryz.ntmps298;go_wp2;go_loopw [7,12] (λv i wr=>∃k acc:Nat,k<=bits.size/\i=.int .i64 k/\v=.int .i64 acc/\acc < 2 ^ k/\wr=w.alloc (.cells #[.string bits,.string rop,.slice ra1 ra2 ra3,.bool al] 295)/\bP c op 0 0 bits.data.toList=bP c op k acc (bits.data.toList.drop k)) (λ_ i _=>bits.size - (intOf i).toNat);case atStart=>exact ⟨0,0,YD _,rfl,rfl,by decide,rfl,by rw [List.drop_zero]⟩
 case round=>
  obtain ⟨k,acc,hk,rfl,rfl,hac,rfl,hx⟩:=hrel;have HX:=aA hx;have HAC:=aA hac;have hacc:acc<=256:=by have:2 ^ k<=2 ^ 8:=Nat.pow_le_pow_right (by omega) (by omega);omega
  clear hx hac;by_cases hlt:k < bits.size
  ·have hkl:k < bits.data.toList.length:=(by simpa using hlt);have e1:bits.data.toList[k]=bits[k]:=rfl;have HY:=aA (HYE.out k acc hkl);have HN:=aA (HNO.out k acc hkl);rw [e1] at HY HN;clear e1;have hk7:(k:Int)<=7:=(by omega);have hsb:=CX op (7 - k) hop;have hb2:op / 2 ^ (7 - k) % 2 < 2:=z2F _ (by omega);generalize op / 2 ^ (7 - k) % 2=bt at *;have hac1:(acc:Int)<=256:=(by omega);have hbt:(bt:Int)<=1:=(by omega);have hP:2 ^ (k+1)=2 * 2 ^ k:=(by rw [Nat.pow_succ,Nat.mul_comm]);have HP2:=aA hP;clear hP;by_cases hc:bits[k]=c
   ·have hbe:((bits[k].toNat:Int)==(c.toNat:Int))=true:=(by rw [hc];simp);have HE:=aA (HY.out hc);clear hc HY HN;go_wp2;go_roundw;case rel=>exact ⟨k+1,2 * acc+bt,by omega,by go_num,by go_num,by rw [HP2.out];have:=HAC.out;omega,trivial,HX.out.trans HE.out⟩
    case measure=>simp [intOf];omega
   ·have hbe:((bits[k].toNat:Int)==(c.toNat:Int))=false:=(by rw [yW];intro e;exact hc (z1O.1 (by omega)));have HE:=aA (HN.out hc);clear hc HY HN;go_wp2;go_roundw;case rel=>exact ⟨k+1,acc,by omega,by go_num,rfl,by rw [HP2.out];have:=HAC.out;omega,trivial,HX.out.trans HE.out⟩
    case measure=>simp [intOf];omega
  ·obtain rfl:k=bits.size:=(by omega);have HE:Hid (bP c op 0 0 bits.data.toList=acc):=(by show _=_;rw [HX.out,List.drop_eq_nil_of_le (by simp),bP]);go_wp2;go_ret;exact ⟨bK (by rw [HE.out]),HAL.out⟩
def bdr (pg:Int) (op:Nat) (iop:ByteArray) (ia:Value) (ex:List UInt8) (al:Bool) (bits rop:ByteArray) (ra:Value) (ral:Bool):Array Value:=#[.int .i64 pg,.int .u8 op,.string iop,ia,.string ⟨ex.toArray⟩,.bool al,.string bits,.string rop,ra,.bool ral]
structure dO where
 pg:Int
 op:Nat
 iop:ByteArray
 ia:Value
 ex:List UInt8
 al:Bool
 bits:ByteArray
 rop:ByteArray
 ra:Value
 ral:Bool
def dO.cells (x:dO):Array Value:=bdr x.pg x.op x.iop x.ia x.ex x.al x.bits x.rop x.ra x.ral
structure dO.ok (x:dO):Prop where
 op:x.op < 256
 bits:x.bits.size<=8
 ex:x.ex.length<=100
 ra:∃a n c,x.ra=.slice a n c
 ia:∃a n c,x.ia=.slice a n c
abbrev BK (w:World) (bp:Nat) (x:dO):Prop:=Blk w bp 299 x.cells
theorem rR (bp:Nat) (x:dO) (c:UInt8) (w:World) (h:BK w bp x) (hx:x.ok):
  Calls Tryz.prog 287 #[.pointer (some ⟨bp,0,none⟩),.int .u8 c.toNat] w λe w'=>e=.returned (.int .i64 (bP c x.op 0 0 x.bits.data.toList))/\Below w.heap.size w w':=by
 obtain ⟨pg,op,iop,ia,ex,al,bits,rop,ra,ral⟩:=x;obtain ⟨h1,h2,_,⟨ra1,ra2,ra3,h4⟩,_⟩:=hx;simp only at h1 h2 h4;subst h4;have c1:w.cell? ⟨bp,1,none⟩=some (.int .u8 op):=h.cell 1;have c6:w.cell? ⟨bp,6,none⟩=some (.string bits):=h.cell 6;have c7:w.cell? ⟨bp,7,none⟩=some (.string rop):=h.cell 7;have c8:w.cell? ⟨bp,8,none⟩=some (.slice ra1 ra2 ra3):=h.cell 8;have c9:w.cell? ⟨bp,9,none⟩=some (.bool ral):=h.cell 9;have HF:=aA (λW=>PS bits rop (.slice ra1 ra2 ra3) ral c op W h2 h1 ⟨_,_,_,rfl⟩);show Calls _ _ _ _ λe w'=>e=.returned (.int .i64 (bP c op 0 0 bits.data.toList))/\_;generalize (bP c op 0 0 bits.data.toList)=r at *;clear h h1 h2;go_enter Tryz.func287,Tryz.ntmps287;go_upto_region 1 with fail;go_region_held3 (λw'=>w'.cell? ⟨bp,1,none⟩=some (.int .u8 op)/\w'.cell? ⟨bp,6,none⟩=some (.string bits)/\w'.cell? ⟨bp,7,none⟩=some (.string rop)/\w'.cell? ⟨bp,8,none⟩=some (.slice ra1 ra2 ra3)/\w'.cell? ⟨bp,9,none⟩=some (.bool ral)) (go_keep)
  (first | (go_at_call 298;refine (HF.out _).mono ?_;rintro e w2 ⟨rfl,hb⟩;have d1:=(hb.cell (QI _ _ (show w.drew.cell? ⟨bp,1,none⟩=_ from c1))).trans c1;have d6:=(hb.cell (QI _ _ (show w.drew.cell? ⟨bp,6,none⟩=_ from c6))).trans c6;have d7:=(hb.cell (QI _ _ (show w.drew.cell? ⟨bp,7,none⟩=_ from c7))).trans c7;have d8:=(hb.cell (QI _ _ (show w.drew.cell? ⟨bp,8,none⟩=_ from c8))).trans c8;have d9:=(hb.cell (QI _ _ (show w.drew.cell? ⟨bp,9,none⟩=_ from c9))).trans c9;have HB:=aA ((zY w.heap.size w).drew.trans (show Below w.heap.size w.drew w2 from hb));clear hb))
 go_wp2;go_ret;exact ⟨rfl,HB.out⟩
theorem nY (list:ByteArray) (n:Nat) (x:List UInt8) (o:Opd) (w:World) (hx:(Lib.fields list.data.toList)[n]?=some x) (ho:eX x=some o) (hxl:x.length<=1000) (hl:list.size<=1000) (ha:∀(j:Nat) b,list.data.toList[j]?=some b->b.toNat < 128) (hT:Spc w):
  Calls Tryz.prog 286 #[.string list,.int .i64 n] w λe w'=>e=.returned o.val/\Below w.heap.size w w':=by
 have hal:=(zY w.heap.size w).alloc (zI _) (.cells #[.int .i64 0,.int .i64 0,.int .i64 0] 52);have hfl:=Tryz.strings_Fields list (w.alloc (.cells #[.int .i64 0,.int .i64 0,.int .i64 0] 52)) (by omega) ha (hT.below hal);have hn:n < (Lib.fields list.data.toList).length:=(ZV.1 hx).1;have hF:=Blk.new w 52 #[.int .i64 0,.int .i64 0,.int .i64 0];have HFL:Hid (Calls Tryz.prog 205 #[.string list] (w.alloc (.cells #[.int .i64 0,.int .i64 0,.int .i64 0] 52)) λe w'=>∃g m:Nat,e=.returned (.slice (some ⟨g,0,none⟩) m m)/\n < m/\w'.cell? ⟨g,n,none⟩=some (.string ⟨x.toArray⟩)/\Blk w' w.heap.size 52 #[.int .i64 0,.int .i64 0,.int .i64 0]/\Below w.heap.size w w'):=hfl.mono λe w' ⟨h1,h2⟩=>by subst h2;refine ⟨_,_,h1,hn,?_,hF.alloc _,hal.alloc hal.size _⟩;have hb:=Blk.new (w.alloc (.cells #[.int .i64 0,.int .i64 0,.int .i64 0] 52)) 9 ((Lib.fields list.data.toList).map λl=>Value.string ⟨l.toArray⟩).toArray;unfold World.cell?;rw [show ((w.alloc (.cells #[.int .i64 0,.int .i64 0,.int .i64 0] 52)).alloc (.cells ((Lib.fields list.data.toList).map λl=>Value.string ⟨l.toArray⟩).toArray 9)).heap[(w.alloc (.cells #[.int .i64 0,.int .i64 0,.int .i64 0] 52)).heap.size]?=_ from hb];show ((Lib.fields list.data.toList).map λl=>Value.string ⟨l.toArray⟩).toArray[n]?=_;rw [z1Y,z0Q,hx];rfl
 have HWD:=aA (λW=>qT ⟨x.toArray⟩ o W (by rw [show (⟨x.toArray⟩:ByteArray).data.toList=x by simp];exact ho) (by show x.toArray.size<=_;rw [XF];exact hxl));have hn0:(0:Int)<=(n:Int):=by omega
 clear hfl hal hF ho hx hxl hl ha hT hn;obtain ⟨ok,orr,on⟩:=o;go_enter Tryz.func286,Tryz.ntmps286;go_wp2_with (first
  | (go_at_call 205;go_loud (refine HFL.out.mono ?_;rintro e w1 ⟨g,m,rfl,hn1,d0,hf,hb⟩;have hn2:(n:Int) < (m:Int):=(by omega);have HF1:=aA hf;have HB1:=aA hb;clear hf hb))
  | (go_at_call 263;refine (HWD.out _).mono ?_;rintro e w2 ⟨rfl,hb⟩;unfold Opd.val;have HF2:=aA (HF1.out.below hb HF1.out.lt);have HB2:=aA (HB1.out.trans (hb.mono HB1.out.size));obtain ⟨z0,z1,z2,y0,y1,y2⟩:=HF2.out.three;clear hb))
 refine yR (aJ rfl _ _ w.heap.size 52 #[.int .i64 ok,.int .i64 orr,.int .i64 on] (0,0) _ rfl (show Blk _ w.heap.size 52 #[.int .i64 ok,.int .i64 orr,.int .i64 on] from ((HF2.out.set 0 _).set 1 _).set 2 _) Tryz.underlying52 rfl (by kernel_rfl)) rfl ⟨rfl,?_⟩;exact ((HB2.out.setCell (zI _) _).setCell (zI _) _).setCell (zI _) _
end Go.Proofs.YtpigbggoiipmhaaGreatDoor
