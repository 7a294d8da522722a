/-
  The texts of the rules, the operands' names, words, fields; the builder; arg. Conditions: sizes; the library's table as its initialiser lays it.
-/
import Derived.Test.YtjmekllgnhkodaaGreatDoorPA
import Derived.Test.YtjmekllgnhkodaaGreatDoorShelf
import Derived.RangeFuncNested
import Derived.RangeFuncBound
import Derived.RangeFuncCalls
import Derived.RangeFuncLeaves
import Derived.Shelf.Strings.Cut
import Derived.TacticsInMore
import Derived.LoopNIn
import Derived.LoopIn
import Derived.OwnWalkIn
import Derived.Test.YtjmekllgnhkodaaGreatDoorPB
import Derived.Test.YtjmekllgnhkodaaGreatDoorPC
import Derived.Lib.SplitLaws
namespace Go.Proofs.YtjmekllgnhkodaaGreatDoor
set_option maxHeartbeats 4000000
set_option maxRecDepth 100000
open Go.RowKit Go.Shelf
attribute [local go_sem] Oper.semAt_some
section
variable {α:Type} {F:Fence} {n:Nat} {P:Program}
def OwnB {β:Type} (bx:Nat) (J:β→World→Prop):Prop:=∀s A B row,J s A→A.grownBy B row→(∀r,row=some r→r=bx)→J s B
def OwnBF {β:Type} (bx B:Nat) (I:β→World→Prop):Prop:=∀s W W' row,I s W→W.grownBy W' row→(∀r,row=some r→r=bx∨(B≤r∧∃o:Obj,W.heap[r]?=some o∧o.isCells=false))→I s W'
theorem OwnBF.putObj {β:Type} {bx B:Nat} {I:β→World→Prop} (h:OwnBF bx B I) {s:β} {W:World} {l:Nat} {o:Obj} (o':Obj) (hs:I s W) (hB:B≤l) (hl:W.heap[l]?=some o) (ho:o.isCells=false):I s (W.putObj l o'):=
 h s W _ (some l) hs (grownBy_putObj' W l o') (fun r e=>by cases e;exact .inr ⟨hB,o,hl,ho⟩)
theorem OwnBF.alloc {β:Type} {bx B:Nat} {I:β→World→Prop} (h:OwnBF bx B I) {s:β} {W:World} (o:Obj) (hs:I s W):I s (W.alloc o):=
 h s W _ none hs (World.grownBy_alloc W o none) (fun r e=>by cases e)
def BoxSeq (F:Fence) (n:Nat) (P:Program) (gf:Nat) (lb:Array Value) (encs:α→Array Value) (bx:Nat) (S Sp:List α→Prop) (w0:World):Prop:=
 ∀(l:Nat) (J Jx:List α→World→Prop) (W:World),Below w0.heap.size w0 W→OwnB bx J→OwnB bx Jx→
  (∀pre x W1,Sp (pre++[x])→J pre W1→YieldAt F (n - 1) P l (encs x) W1 fun e W'=>(e=.returned (.bool true)∧J (pre++[x]) W'∧W'.heap[bx]?=W1.heap[bx]?)∨(e=.returned (.bool false)∧Jx (pre++[x]) W'))→
  J [] W→CallsIn F n P gf (#[.func (.yield l) #[] #[]]++lb) W fun e W'=>(∃v,e=.returned v)∧((∃xs,S xs∧J xs W')∨(∃pre,Sp pre∧Jx pre W'))
theorem wpIn_rangeFunc_box {g:Operand} {ps:Array Tmp} {assign body:Code} {Q:Exit→Act→World→Prop} {a:Act} {w:World}
  (hro:F.round=none) (h1:1≤n) {gf:Nat} {lb:Array Value} (hg:a.eval g=.func (.func gf) #[] lb) (hFg:F.fn gf) (eg:∀args w,(callFunc gf args).run P w=.ok (.enter gf args) w)
  {encs:α→Array Value} {bx:Nat} (hbx:bx < w.heap.size) {S Sp:List α→Prop} {w0:World} (hseq:BoxSeq F (n - 1) P gf lb encs bx S Sp w0)
  (hb0:Below w0.heap.size w0 w) (hps:∀x,(encs x).size=ps.size)
  (I:List α→World→Prop) (Ix:Code→List α→World→Prop) (hI:OwnBF bx w.heap.size I) (hIx:∀c,OwnBF bx w.heap.size (Ix c)) (h0:I [] w) (a₁:α→Act)
  (hassign:∀(l:Nat) (x:α) (W:World) (K:Act→World→Prop),K (a₁ x) W→
   assign.wpIn (F.inRound l) (n - 1 - 1) P (Exit.then K (fun _ _ _=>False)) {tmps:=(ps.zip (encs x)).foldl (fun t (p,v)=>t.setIfInBounds p v) a.tmps,defers:=[]} W)
  (hbody:∀(l:Nat) (pre:List α) (x:α) (W:World),Sp (pre++[x])→I pre W→body.wpIn (F.inRound l) (n - 1 - 1) P (ownPostG w.heap.size (fun A B=>B.heap[bx]?=A.heap[bx]?) I Ix (pre++[x]) W) (a₁ x) W)
  (hdone:∀(D:Nat) (xs:List α) (W:World),w.heap.size≤D→S xs→I xs W→W.heap[D]?=some (.deferred (some []))→Q .normal {a with defers:={target:=.collected D,args:=#[]}::a.defers} W)
  (hstop:∀(D:Nat) (c:Code) (pre:List α) (W:World),w.heap.size≤D→Sp pre→Ix c pre W→W.heap[D]?=some (.deferred (some []))→c.wpIn F n P Q {a with defers:={target:=.collected D,args:=#[]}::a.defers} W):
  (Code.rangeFunc g ps assign body).wpIn F n P Q a w:=by
 refine wpIn_rangeFunc ?_
 intro fn hfn
 rw [hro]
 obtain ⟨rec,hrec⟩:∃rec:LoopState→Option Code→Loop,rec=fun st pe=>{state:=st,pending:=pe,fn,tmps:=a.tmps,params:=ps,assign,body,defers:=w.heap.size}:=⟨_,rfl⟩
 obtain ⟨W1,hW1⟩:∃W1,(w.alloc (.deferred (some []))).alloc (.loop (rec .ready none))=W1:=⟨_,rfl⟩
 have hL1:W1.heap[w.heap.size+1]?=some (.loop (rec .ready none)):=by
  rw [←hW1];have:=World.alloc_heap_new (w.alloc (.deferred (some []))) (.loop (rec .ready none));rwa [World.size_alloc] at this
 have hK1:W1.heap[w.heap.size]?=some (.deferred (some [])):=by
  rw [←hW1];exact (Below.heap_alloc _ _ _ (by simp)).trans (World.alloc_heap_new w _)
 have hI1:I [] W1:=by rw [←hW1];exact hI.alloc _ (hI.alloc _ h0)
 have hb1:Below w0.heap.size w0 W1:=by
  rw [←hW1];exact hb0.trans ((((Below.refl _ w).alloc (Nat.le_refl _) _).alloc (by simp) _).mono hb0.size)
 refine ⟨w.heap.size+1,[{target:=.collected w.heap.size,args:=#[]}],W1,{target:=.fn (.func gf) lb,args:=#[.func (.yield (w.heap.size+1)) #[] #[]]},W1,gf,
  #[.func (.yield (w.heap.size+1)) #[] #[]]++lb,W1,?_,?_,?_,?_,fun _=>h1,?_⟩
 ·rw [←hW1,hrec];exact run_enterLoop_outer _ _ _ _ _
 ·simp only [resolve,hg]
  simp [go_sem]
 ·intro f' hf';simp [Target.leads] at hf';subst hf';exact hFg
 ·simp [invoke,go_sem,eg]
 ·have hkp:∀{A B:World} {row:Option Nat} {k:Nat} {o:Obj},A.grownBy B row→(∀r,row=some r→r=bx)→w.heap.size≤k→A.heap[k]?=some o→B.heap[k]?=some o:=
   fun hg' hr hk ho=>(hg'.block _ (Array.getElem?_eq_some_iff.1 ho).1 (fun e=>by have:=hr _ e.symm;omega)).trans ho
  refine (hseq (w.heap.size+1)
   (fun pre W=>I pre W∧W.heap[w.heap.size+1]?=some (.loop (rec .ready none))∧W.heap[w.heap.size]?=some (.deferred (some [])))
   (fun pre W=>∃c,Ix c pre W∧W.heap[w.heap.size+1]?=some (.loop (rec .done (some c)))∧W.heap[w.heap.size]?=some (.deferred (some [])))
   W1 hb1
   (fun s A B row hs hg' hr=>⟨hI s A B row hs.1 hg' (fun r e=>.inl (hr r e)),hkp hg' hr (Nat.le_succ _) hs.2.1,hkp hg' hr (Nat.le_refl _) hs.2.2⟩)
   (fun s A B row hs hg' hr=>by
    obtain ⟨c,hc,hl,hk⟩:=hs
    exact ⟨c,hIx c s A B row hc hg' (fun r e=>.inl (hr r e)),hkp hg' hr (Nat.le_succ _) hl,hkp hg' hr (Nat.le_refl _) hk⟩)
   ?_ ⟨hI1,hL1,hK1⟩).mono ?_
  ·
   rintro pre x W hsp ⟨hi,hl,hk⟩
   have hlt:w.heap.size+1 < W.heap.size:=(Array.getElem?_eq_some_iff.1 hl).1
   have hy:=run_yield (P:=P) (args:=encs x) hl (by rw [hrec];exact hps x)
   rw [hrec] at hy
   refine ⟨fn,_,assign,body,hy,roundIn_of_wpIn hfn (hassign _ x W _ ⟨_,run_beginRound hl (by rw [hrec]),?_⟩)⟩
   have hl2:(W.putObj (w.heap.size+1) (.loop {rec .ready none with state:=.busy})).heap[w.heap.size+1]?=some (.loop {rec .ready none with state:=.busy}):=World.putObj_heap_same hlt
   have hk2:(W.putObj (w.heap.size+1) (.loop {rec .ready none with state:=.busy})).heap[w.heap.size]?=some (.deferred (some [])):=(World.putObj_heap_other (by omega)).trans hk
   have hw2:(W.putObj (w.heap.size+1) (.loop {rec .ready none with state:=.busy})).heap[bx]?=W.heap[bx]?:=World.putObj_heap_other (by omega)
   refine wpIn_mono (hbody _ pre x _ hsp (hI.putObj _ hi (by omega) hl rfl)) ?_
   have fin:∀(jump:Option Code) (W3:World),KeepsFrom w.heap.size (W.putObj (w.heap.size+1) (.loop {rec .ready none with state:=.busy})) W3→
     (Instr.endRound (w.heap.size+1) jump).run P W3=.ok (.bool jump.isNone) (W3.putObj (w.heap.size+1) (.loop (rec (if jump.isNone then .ready else .done) jump)))∧
     W3.heap[w.heap.size+1]?=some (.loop {rec .ready none with state:=.busy})∧
     (W3.putObj (w.heap.size+1) (.loop (rec (if jump.isNone then .ready else .done) jump))).heap[w.heap.size+1]?=some (.loop (rec (if jump.isNone then .ready else .done) jump))∧
     (W3.putObj (w.heap.size+1) (.loop (rec (if jump.isNone then .ready else .done) jump))).heap[w.heap.size]?=some (.deferred (some [])):=fun jump W3 hk3=>by
    have hl3:=hk3.same _ _ (by omega) hl2 rfl
    have:=run_endRound (P:=P) jump hl3
    rw [hrec] at this ⊢
    exact ⟨this,by rw [hrec] at hl3;exact hl3,World.putObj_heap_same (Array.getElem?_eq_some_iff.1 hl3).1,(World.putObj_heap_other (by omega)).trans (hk3.same _ _ (Nat.le_refl _) hk2 rfl)⟩
   rintro e a3 W3 hp
   cases e with
   | normal=>
    obtain ⟨hk3,hkp3,hi3⟩:=hp
    obtain ⟨hr,hl3,hl4,hk4⟩:=fin none W3 hk3
    exact ⟨_,_,hr,.inl ⟨rfl,⟨hI.putObj _ hi3 (by omega) hl3 rfl,hl4,hk4⟩,((World.putObj_heap_other (by omega)).trans hkp3).trans hw2⟩⟩
   | ret=>
    obtain ⟨hk3,hi3⟩:=hp
    obtain ⟨hr,hl3,hl4,hk4⟩:=fin (some .ret) W3 hk3
    exact ⟨_,_,hr,.inr ⟨rfl,.ret,(hIx _).putObj _ hi3 (by omega) hl3 rfl,hl4,hk4⟩⟩
   | exit id=>
    obtain ⟨hk3,hi3⟩:=hp
    obtain ⟨hr,hl3,hl4,hk4⟩:=fin (some (.exit id)) W3 hk3
    exact ⟨_,_,hr,.inr ⟨rfl,.exit id,(hIx _).putObj _ hi3 (by omega) hl3 rfl,hl4,hk4⟩⟩
   | goto t=>
    obtain ⟨hk3,hi3⟩:=hp
    obtain ⟨hr,hl3,hl4,hk4⟩:=fin (some (.goto t)) W3 hk3
    exact ⟨_,_,hr,.inr ⟨rfl,.goto t,(hIx _).putObj _ hi3 (by omega) hl3 rfl,hl4,hk4⟩⟩
   | panic ch=>exact hp.elim
   | outgrown=>exact hp.elim
  ·
   rintro e W2 ⟨⟨v,rfl⟩,(⟨xs,hS,hi,hl,hk⟩ | ⟨pre,hSp,c,hi,hl,hk⟩)⟩
   ·exact ⟨none,_,by have:=run_endLoop (P:=P) hl (by rw [hrec];simp);rw [hrec] at this;exact this,hdone _ xs _ (Nat.le_refl _) hS (hI.putObj _ hi (by omega) hl rfl) ((World.putObj_heap_other (by omega)).trans hk)⟩
   ·exact ⟨some c,_,by have:=run_endLoop (P:=P) hl (by rw [hrec];simp);rw [hrec] at this;exact this,hstop _ c pre _ (Nat.le_refl _) hSp ((hIx c).putObj _ hi (by omega) hl rfl) ((World.putObj_heap_other (by omega)).trans hk)⟩
end
theorem CutL_any (s:ByteArray) (c:UInt8) (w:World) (hs:s.size≤1000000):
  Calls Tryz.prog 202 #[.string s,.string ⟨#[c]⟩] w fun e w'=>e=.returned (.tuple #[.string ⟨(Lib.cut s.data.toList [c]).1.toArray⟩,.string ⟨(Lib.cut s.data.toList [c]).2.1.toArray⟩,.bool (Lib.cut s.data.toList [c]).2.2])∧∃n,w'=w.drewN n:=by
 have HIX:=Lib.hid (fun w=>(Any.stringslite_Index_one (ρ:=Tryz.lays145_ren) {Tryz.lays145 with} s c w))
 rcases Lib.indexB_cases s ⟨#[c]⟩ with hix | ⟨i,hix,hroom⟩
 ·obtain ⟨e1,e2,e3⟩:=Lib.cutB_miss s ⟨#[c]⟩ hix
  rw [show [c]=(⟨#[c]⟩:ByteArray).data.toList from rfl,e1,e2,e3]
  have hi2:Lib.indexByte s.data.toList c=-1:=by rw [←Lib.index_one];exact hix
  rw [hi2] at HIX
  clear e1 e2 e3 hix hi2
  go_enter Tryz.func202,Tryz.ntmps202
  go_wp2_with (go_at_call 166;refine (HIX.out _).mono ?_;rintro e w' ⟨rfl,rfl⟩)
  go_ret3
  exact ⟨rfl,0,rfl⟩
 ·obtain ⟨e1,e2,e3⟩:=Lib.cutB_hit s ⟨#[c]⟩ i hix
  rw [show [c]=(⟨#[c]⟩:ByteArray).data.toList from rfl,e1,e2,e3]
  have hi2:Lib.indexByte s.data.toList c=i:=by rw [←Lib.index_one];exact hix
  rw [hi2] at HIX
  have hz:(⟨#[c]⟩:ByteArray).size=1:=rfl
  rw [hz] at hroom
  have c1:(0:Int)≤↑i:=by omega
  have c2:(↑i:Int)≤↑s.size:=by omega
  have c3:(0:Int)≤↑i+1:=by omega
  have c4:(↑i+1:Int)≤↑s.size:=by omega
  have c5:IntKind.i64.wrap ((i:Int)+1)=(i:Int)+1:=by rw [IntKind.wrap_i64];omega
  have c6:((i:Int)+1).toNat=i+1:=by omega
  clear e1 e2 e3 hix hi2
  go_enter Tryz.func202,Tryz.ntmps202
  go_wp2_with (go_at_call 166;refine (HIX.out _).mono ?_;rintro e w' ⟨rfl,rfl⟩)
  go_region
  go_wp2
  go_ret3
  exact ⟨rfl,1,rfl⟩
theorem Cut_any (s:ByteArray) (c:UInt8) (w:World) (hs:s.size≤1000000):
  Calls Tryz.prog 181 #[.string s,.string ⟨#[c]⟩] w fun e w'=>e=.returned (.tuple #[.string ⟨(Lib.cut s.data.toList [c]).1.toArray⟩,.string ⟨(Lib.cut s.data.toList [c]).2.1.toArray⟩,.bool (Lib.cut s.data.toList [c]).2.2])∧∃n,w'=w.drewN n:=by
 have HC:=Lib.hid (CutL_any s c w hs)
 generalize (⟨(Lib.cut s.data.toList [c]).1.toArray⟩:ByteArray)=x at *
 generalize (⟨(Lib.cut s.data.toList [c]).2.1.toArray⟩:ByteArray)=y at *
 generalize (Lib.cut s.data.toList [c]).2.2=z at *
 go_enter Tryz.func181,Tryz.ntmps181
 go_wp2_with (go_at_call 202;refine HC.out.mono ?_;rintro e w' ⟨rfl,n,rfl⟩)
 go_ret3
 exact ⟨rfl,n,rfl⟩
end Go.Proofs.YtjmekllgnhkodaaGreatDoor
namespace Go.Proofs.YtjmekllgnhkodaaGreatDoor
set_option maxHeartbeats 4000000
set_option maxRecDepth 100000
open Go.RowKit Go.Shelf
attribute [local go_sem] Oper.semAt_some
def splitC:List UInt8→List (List UInt8)
 | []=>[[]]
 | c::r=>if c=59 then []::splitC r else match splitC r with | []=>[[c]] | x::L=>(c::x)::L
theorem splitC_line:∀(x r:List UInt8),(∀c∈x,c≠59)→splitC (x++59::r)=x::splitC r
 | [],r,_=>by show splitC (59::r)=_;rw [splitC,if_pos rfl]
 | c::x,r,h=>by
  show splitC (c::(x++59::r))=_
  rw [splitC,if_neg (h c (by simp)),splitC_line x r (fun z hz=>h z (by simp [hz]))]
theorem splitC_last:∀(x:List UInt8),(∀c∈x,c≠59)→splitC x=[x]
 | [],_=>rfl
 | c::x,h=>by rw [splitC,if_neg (h c (by simp)),splitC_last x (fun z hz=>h z (by simp [hz]))]
theorem cut_split (s:List UInt8):((Lib.cut s [59]).2.2=true∧splitC s=(Lib.cut s [59]).1::splitC (Lib.cut s [59]).2.1∧(Lib.cut s [59]).2.1.length < s.length)∨((Lib.cut s [59]).2.2=false∧splitC s=[(Lib.cut s [59]).1]∧(Lib.cut s [59]).2.1=[]):=by
 unfold Lib.cut
 rw [Lib.index_one]
 by_cases h:0≤Lib.indexByte s 59
 ·rw [if_pos h]
  left
  obtain ⟨o,ho⟩:∃o:Nat,Lib.indexByte s 59=o:=⟨_,(Int.toNat_of_nonneg h).symm⟩
  obtain ⟨h1,h2⟩:=Lib.indexByte_some ho
  have hlt:o < s.length:=(List.getElem?_eq_some_iff.1 h1).1
  rw [ho]
  have hto:((o:Nat):Int).toNat=o:=rfl
  rw [hto]
  refine ⟨rfl,?_,by simp;omega⟩
  have hs:s=s.take o++59::s.drop (o+1):=by
   have h3:s.drop o=59::s.drop (o+1):=by
    rw [List.drop_eq_getElem_cons hlt]
    congr 1
    exact (List.getElem?_eq_some_iff.1 h1).2
   rw [←h3,List.take_append_drop]
  have h4:=splitC_line (s.take o) (s.drop (o+1)) (fun c hc e=>by
   obtain ⟨k,hk⟩:=List.mem_iff_getElem?.1 hc
   have hk2:k < o:=by have:=(List.getElem?_eq_some_iff.1 hk).1;simp at this;omega
   rw [List.getElem?_take_of_lt hk2] at hk
   exact h2 k hk2 (by rw [hk,e]))
  rw [←hs] at h4
  exact h4
 ·rw [if_neg h]
  right
  refine ⟨rfl,?_,rfl⟩
  have h1:Lib.indexByte s 59=-1:=by have:=Lib.indexByte_ge s 59;omega
  exact splitC_last s (fun c hc e=>by
   obtain ⟨k,hk⟩:=List.mem_iff_getElem?.1 hc
   exact Lib.indexByte_none h1 k (by rw [hk,e]))
theorem cut_fst (s:List UInt8):(Lib.cut s [59]).1.length≤s.length:=by
 unfold Lib.cut
 split
 ·show (s.take _).length≤_;rw [List.length_take];exact Nat.min_le_right _ _
 ·exact Nat.le_refl _
theorem texts_any (s:ByteArray) (w:World):
  Calls Tryz.prog 144 #[.string s] w fun e w'=>e=.returned (.func (.func 180) #[] #[.pointer (some ⟨w.heap.size,0,none⟩)])∧w'=w.alloc (.cells #[.string s] 9):=by
 have hmf:∀(fn:Fn) (first cap:Array Value) (w:World),(Instr.makeFunc fn first cap).run Tryz.prog w=.ok (.func fn first cap) w:=fun _ _ _ _=>rfl
 go_enter Tryz.func144,Tryz.ntmps144
 go_wp2
 go_ret
 exact ⟨rfl,rfl⟩
def boxLen (bx:Nat) (w:World):Nat:=match w.cell? ⟨bx,0,none⟩ with | some (.string s)=>s.size | _=>0
theorem boxLen_of {bx:Nat} {w:World} {s:ByteArray} (h:w.cell? ⟨bx,0,none⟩=some (.string s)):boxLen bx w=s.size:=by unfold boxLen;rw [h]
def moreN:Value→Nat | .bool true=>1 | _=>0
theorem grown_box (w:World) (n bx:Nat) (v:Value):w.grownBy ((w.drewN n).setCell ⟨bx,0,none⟩ v) (some bx):=
 ⟨rfl,rfl,rfl,by rw [World.size_setCell];exact Nat.le_refl _,fun k _ hk=>Below.heap_setCell _ _ _ _ (fun e=>hk (by rw [e]))⟩
abbrev SL:={x:List UInt8 // x.length≤1000000}
def encS (x:SL):Array Value:=#[.string ⟨x.1.toArray⟩]
abbrev vals (L:List SL):List (List UInt8):=L.map (·.1)
theorem texts_seq (bx:Nat) (s:ByteArray) (w:World) (hB:Blk w bx 9 #[.string s]) (hs:s.size≤1000000):
  BoxSeq Fence.wide 8 Tryz.prog 180 #[.pointer (some ⟨bx,0,none⟩)] encS bx (fun xs=>vals xs=splitC s.data.toList) (fun pre=>vals pre <+: splitC s.data.toList) w:=by
 intro l J Jx W hW hJ hJx hY h0
 have hB':=hB.below hW hB.lt
 have HJ:=Lib.hid hJ
 have HJx:=Lib.hid hJx
 have HY:=Lib.hid hY
 have H0:=Lib.hid h0
 have HBW:=Lib.hid hB'
 have HSZ:=Lib.hid hs
 clear hB hW hJ hJx hY h0 hB' hs
 refine callsIn_of_wp Tryz.func180 rfl trivial ?_ rfl
 simp only [Tryz.ntmps180,List.size_toArray,List.length_cons,List.length_nil,Nat.reduceAdd,Nat.reduceSub,Array.replicate_succ,Array.replicate_zero,List.push_toArray,List.append_toArray,List.nil_append,List.cons_append]
 gi_wp2
 gi_loopw [3] (fun m wr=>∃(more:Bool) (rest:ByteArray) (pre:List SL),m=.bool more∧Blk wr bx 9 #[.string rest]∧rest.size≤1000000∧J pre wr∧(more=true→splitC s.data.toList=vals pre++splitC rest.data.toList)∧(more=false→splitC s.data.toList=vals pre∧rest.size=0)) (fun m wr=>boxLen bx wr+moreN m)
 case atStart=>exact ⟨true,s,[],rfl,HBW.out,HSZ.out,H0.out,fun _=>rfl,fun h=>by cases h⟩
 case round=>
  obtain ⟨more,rest,pre,rfl,hb,hr,hj,h1,h2⟩:=hrel
  have c1:=hb.cell 0
  cases more
  ·have HE:=Lib.hid (h2 rfl).1
   have HJ2:=Lib.hid hj
   clear h1 h2 hj hb
   gi_wp2
   go_end0
   exact ⟨⟨_,rfl⟩,.inl ⟨pre,HE.out.symm,HJ2.out⟩⟩
  ·have HE:=Lib.hid (h1 rfl)
   have HJ2:=Lib.hid hj
   have HBR:=Lib.hid hb
   have hbl:=boxLen_of c1
   have HCU:=Lib.hid (Cut_any rest 59 wr hr)
   have HCS:=Lib.hid (cut_split rest.data.toList)
   have HRS:Hid (rest.data.toList.length=rest.size):=by show _=_;simp
   clear h1 h2 hj hb
   have hxl:(Lib.cut rest.data.toList [59]).1.length≤1000000:=Nat.le_trans (cut_fst _) (by rw [HRS.out];exact hr)
   generalize Lib.cut rest.data.toList [59]=q at *
   obtain ⟨x,y,z⟩:=q
   have hxl:x.length≤1000000:=hxl
   have HP:Hid (vals (pre++[⟨x,hxl⟩]) <+: splitC s.data.toList):=by
    show _ <+: _
    rcases HCS.out with ⟨_,h,_⟩ | ⟨_,h,_⟩
    ·rw [HE.out,h]
     exact ⟨splitC y,by simp [vals]⟩
    ·rw [HE.out,h]
     exact ⟨[],by simp [vals]⟩
   gi_wp2_with (refine ⟨trivial,?_⟩;gi_at_call 181;refine (callsIn_wide.2 HCU.out).mono ?_;rintro e w2 ⟨rfl,nq,rfl⟩;have hb2:=HBR.out.below (below_dN (Below.refl wr.heap.size _) nq) HBR.out.lt;have c2:=hb2.cell 0;have g2:=hb2.free 0;have HB3:=Lib.hid (hb2.set 0 (.string ⟨y.toArray⟩));obtain ⟨fn,tmps,assign,body,hy,hR⟩:=HY.out pre ⟨x,hxl⟩ _ HP.out (HJ.out _ _ _ _ HJ2.out (grown_box wr nq bx (.string ⟨y.toArray⟩)) (fun r e=>by injection e with e;exact e.symm));dsimp only [encS] at hy;have HR:=Lib.hid hR;clear hR hb2)
   refine HR.out.mono ?_
   rintro e W' (⟨rfl,hj3,hk3⟩ | ⟨rfl,hjx3⟩)
   ·have hb4:Blk W' bx 9 #[.string ⟨y.toArray⟩]:=hk3.trans HB3.out
    have HB4:=Lib.hid hb4
    have HJ3:=Lib.hid hj3
    have hbl4:=boxLen_of (hb4.cell 0)
    have hys:(⟨y.toArray⟩:ByteArray).size=y.length:=List.size_toArray
    clear hj3 hk3 hb4 hy c1 c2 g2
    gi_wp2
    go_roundw
    case rel=>
     refine ⟨z,⟨y.toArray⟩,pre++[⟨x,hxl⟩],rfl,HB4.out,?_,HJ3.out,?_,?_⟩
     ·rw [hys]
      have h3:=HRS.out
      rcases HCS.out with ⟨_,_,h⟩ | ⟨_,_,h⟩
      ·omega
      ·rw [h];exact Nat.zero_le _
     ·intro hz
      rcases HCS.out with ⟨_,h,_⟩ | ⟨h,_,_⟩
      ·rw [HE.out,h];simp [vals]
      ·rw [hz] at h;cases h
     ·intro hz
      rcases HCS.out with ⟨h,_,_⟩ | ⟨_,h,h2⟩
      ·rw [hz] at h;cases h
      ·rw [HE.out,h,hys,h2];exact ⟨by simp [vals],rfl⟩
    case measure=>
     rw [hbl4,hbl,hys]
     have h3:=HRS.out
     rcases HCS.out with ⟨h1,_,h⟩ | ⟨h1,_,h⟩
     ·rw [h1]
      show y.length+1 < rest.size+1
      omega
     ·rw [h1,h]
      show 0+0 < rest.size+1
      omega
   ·have HJ3:=Lib.hid hjx3
    clear hjx3 hy c1 c2 g2
    gi_wp2
    refine bodyPost_ret (results_none rfl _ _ _) rfl ?_
    exact ⟨⟨_,rfl⟩,.inr ⟨pre++[⟨x,hxl⟩],HP.out,HJ3.out⟩⟩
end Go.Proofs.YtjmekllgnhkodaaGreatDoor
namespace Go.Proofs.YtjmekllgnhkodaaGreatDoor
set_option maxHeartbeats 4000000
set_option maxRecDepth 100000
open Go.RowKit Go.Shelf
def fitsG (op:Nat):Nat→List UInt8→Bool
 | _,[]=>true
 | i,c::r=>if 8≤i then true else (if c=48∨c=49 then decide (c.toNat - 48=op / 2 ^ (7 - i) % 2) else true)&&fitsG op (i+1) r
def fitsF (t:List UInt8) (op:Nat):Bool:=fitsG op 0 t&&!t.isEmpty
theorem fitsG_step (op:Nat) (t:List UInt8) (k:Nat) (hk:k < t.length) (h8:k < 8):fitsG op k (t.drop k)=((if t[k]=48∨t[k]=49 then decide (t[k].toNat - 48=op / 2 ^ (7 - k) % 2) else true)&&fitsG op (k+1) (t.drop (k+1))):=by
 rw [List.drop_eq_getElem_cons hk,fitsG,if_neg (by omega)]
theorem fitsG_end (op:Nat) (t:List UInt8) (k:Nat) (h:k=min t.length 8):fitsG op k (t.drop k)=true:=by
 by_cases hk:k < t.length
 ·rw [List.drop_eq_getElem_cons hk,fitsG,if_pos (by omega)]
 ·rw [List.drop_eq_nil_of_le (by omega),fitsG]
theorem and1_u8:∀x:Fin 256,bits .and .u8 (x.val:Int) 1=((x.val % 2:Nat):Int):=by decide+kernel
theorem shr_and1 (op k:Nat) (hop:op < 256):bits .and .u8 ((op:Int) / 2 ^ k) 1=((op / 2 ^ k % 2:Nat):Int):=by
 have h1:op / 2 ^ k < 256:=Nat.lt_of_le_of_lt (Nat.div_le_self _ _) hop
 have h2:=and1_u8 ⟨op / 2 ^ k,h1⟩
 have h3:((op:Int) / 2 ^ k)=((op / 2 ^ k:Nat):Int):=by simp
 rw [h3]
 exact h2
theorem tfits_any (t:ByteArray) (op:Nat) (hop:op < 256) (w:World) (hs:t.size≤1000000):
  Calls Tryz.prog 145 #[.string t,.int .u8 op] w fun e w'=>e=.returned (.bool (fitsF t.data.toList op))∧w'=w:=by
 have hs1:(t.size:Int)≤1000000:=by omega
 have hmin:min (t.size:Int) 8=((min t.size 8:Nat):Int):=by omega
 obtain ⟨m,hm⟩:∃m,m=min t.size 8:=⟨_,rfl⟩
 rw [←hm] at hmin
 have hm8:m≤8:=by omega
 have hmt:m≤t.size:=by omega
 have HST:=Lib.hid (fitsG_step op t.data.toList)
 have HEN:=Lib.hid (fitsG_end op t.data.toList m (by simpa using hm))
 have HRR:Hid (fitsF t.data.toList op=(fitsG op 0 t.data.toList&&!t.data.toList.isEmpty)):=Lib.hid rfl
 generalize fitsF t.data.toList op=R at *
 clear hm
 go_enter Tryz.func145,Tryz.ntmps145
 go_wp2
 go_loopw [10] (fun i wr=>∃k:Nat,k≤m∧i=.int .i64 k∧wr=w∧fitsG op 0 t.data.toList=fitsG op k (t.data.toList.drop k)) (fun i _=>m - (intOf i).toNat)
 case atStart=>exact ⟨0,Nat.zero_le _,rfl,rfl,by rw [List.drop_zero]⟩
 case round=>
  obtain ⟨k,hk,rfl,rfl,hx⟩:=hrel
  have HX:=Lib.hid hx
  clear hx
  by_cases hlt:k < m
  ·have hkt:k < t.size:=by omega
   have HS:=Lib.hid (HST.out k (by simpa using hkt) (by omega))
   have e1:t.data.toList[k]'(by simpa using hkt)=t[k]:=rfl
   rw [e1] at HS
   clear e1
   have hk7:(k:Int)≤7:=by omega
   have hsb:=shr_and1 op (7 - k) hop
   have hb2:op / 2 ^ (7 - k) % 2 < 2:=Nat.mod_lt _ (by omega)
   generalize op / 2 ^ (7 - k) % 2=b at *
   by_cases h48:t[k]=48
   ·have hc:(t[k].toNat:Int)=48:=by rw [h48];rfl
    have hb1:((t[k].toNat:Int)==48)=true:=by rw [hc];rfl
    by_cases hb:b=0
    ·subst hb
     have HN:Hid (fitsG op k (t.data.toList.drop k)=fitsG op (k+1) (t.data.toList.drop (k+1))):=by show _=_;rw [HS.out,h48];rfl
     clear h48
     go_wp2
     go_roundw
     case rel=>exact ⟨k+1,by omega,by go_num,trivial,HX.out.trans HN.out⟩
     case measure=>simp [intOf];omega
    ·obtain rfl:b=1:=by omega
     have HN:Hid (fitsG op k (t.data.toList.drop k)=false):=by show _=_;rw [HS.out,h48];rfl
     clear h48
     go_wp2
     go_ret
     exact ⟨ret_bool (by rw [HRR.out,HX.out,HN.out];rfl),rfl⟩
   ·by_cases h49:t[k]=49
    ·have hc:(t[k].toNat:Int)=49:=by rw [h49];rfl
     have hb1:((t[k].toNat:Int)==49)=true:=by rw [hc];rfl
     have hb0:((t[k].toNat:Int)==48)=false:=by rw [hc];rfl
     by_cases hb:b=1
     ·subst hb
      have HN:Hid (fitsG op k (t.data.toList.drop k)=fitsG op (k+1) (t.data.toList.drop (k+1))):=by show _=_;rw [HS.out,h49];rfl
      clear h48 h49
      go_wp2
      go_roundw
      case rel=>exact ⟨k+1,by omega,by go_num,trivial,HX.out.trans HN.out⟩
      case measure=>simp [intOf];omega
     ·obtain rfl:b=0:=by omega
      have HN:Hid (fitsG op k (t.data.toList.drop k)=false):=by show _=_;rw [HS.out,h49];rfl
      clear h48 h49
      go_wp2
      go_ret
      exact ⟨ret_bool (by rw [HRR.out,HX.out,HN.out];rfl),rfl⟩
    ·have hb1:((t[k].toNat:Int)==49)=false:=by rw [beq_eq_false_iff_ne];exact fun e=>h49 (UInt8.toNat_inj.1 (by have h:(49:UInt8).toNat=49:=rfl;omega))
     have hb0:((t[k].toNat:Int)==48)=false:=by rw [beq_eq_false_iff_ne];exact fun e=>h48 (UInt8.toNat_inj.1 (by have h:(48:UInt8).toNat=48:=rfl;omega))
     have HN:Hid (fitsG op k (t.data.toList.drop k)=fitsG op (k+1) (t.data.toList.drop (k+1))):=by show _=_;rw [HS.out,if_neg (by rintro (h | h);exact h48 h;exact h49 h)];rfl
     clear h48 h49
     go_wp2
     go_roundw
     case rel=>exact ⟨k+1,by omega,by go_num,trivial,HX.out.trans HN.out⟩
     case measure=>simp [intOf];omega
  ·obtain rfl:k=m:=by omega
   have HE:Hid (fitsG op 0 t.data.toList=true):=Lib.hid (HX.out.trans HEN.out)
   have HNE:Hid (R=!t.data.toList.isEmpty):=by show _=_;rw [HRR.out,HE.out];rfl
   go_wp2
   go_ret
   exact ⟨ret_bool (by rw [HNE.out,Go.ByteArray.toList_eq]),rfl⟩
def lookF (op:Nat):List (List UInt8)→Option (List UInt8)
 | []=>none
 | x::r=>if fitsF x op=true then some x else lookF op r
theorem lookF_none {op:Nat}:∀{L:List (List UInt8)},(∀x∈L,fitsF x op=false)→lookF op L=none
 | [],_=>rfl
 | x::r,h=>by rw [lookF,if_neg (by rw [h x (by simp)];exact Bool.false_ne_true),lookF_none (fun y hy=>h y (by simp [hy]))]
theorem lookF_some {op:Nat} {x:List UInt8}:∀{pre r:List (List UInt8)},(∀y∈pre,fitsF y op=false)→fitsF x op=true→lookF op (pre++x::r)=some x
 | [],r,_,h=>by show lookF op (x::r)=_;rw [lookF,if_pos h]
 | y::pre,r,hp,h=>by
  show lookF op (y::(pre++x::r))=_
  rw [lookF,if_neg (by rw [hp y (by simp)];exact Bool.false_ne_true),lookF_some (fun z hz=>hp z (by simp [hz])) h]
def lookP (w:World) (o:Option (List UInt8)) (e:Ending) (w':World):Prop:=
 e=.returned (match o with | some x=>.tuple #[.string ⟨x.toArray⟩,.bool true] | none=>.tuple #[.string ⟨#[]⟩,.bool false])∧Below w.heap.size w w'
structure LkB (w0:World) (b:Nat) (op:Nat) (v1 v2:Value) (w:World):Prop where
 op:Blk w b 5 #[.int .u8 op]
 r1:Blk w (b+1) 9 #[v1]
 r2:Blk w (b+2) 4 #[v2]
 below:Below w0.heap.size w0 w
 at_:w0.heap.size≤b
theorem Blk.ownBF {w w':World} {g bx B:Nat} {t:TypeId} {cs:Array Value} {row:Option Nat} (h:Blk w g t cs) (hne:g≠bx) (hg:w.grownBy w' row) (hr:∀r,row=some r→r=bx∨(B≤r∧∃o:Obj,w.heap[r]?=some o∧o.isCells=false)):Blk w' g t cs:=
 (hg.block g h.lt (fun e=>by
  rcases hr g e.symm with h1 | ⟨_,o,ho,hc⟩
  ·exact hne h1
  ·have hk:w.heap[g]?=some (.cells cs t (0,0)):=h
   rw [hk] at ho
   injection ho with ho
   subst ho
   cases hc)).trans h
theorem LkB.own {w0:World} {b op bx B:Nat} {v1 v2:Value} (hbx:b+2 < bx) (hB:w0.heap.size≤B) {w w':World} {row:Option Nat} (h:LkB w0 b op v1 v2 w) (hg:w.grownBy w' row) (hr:∀r,row=some r→r=bx∨(B≤r∧∃o:Obj,w.heap[r]?=some o∧o.isCells=false)):LkB w0 b op v1 v2 w':=
 ⟨h.op.ownBF (by omega) hg hr,h.r1.ownBF (by omega) hg hr,h.r2.ownBF (by omega) hg hr,h.below.grown hg h.below.size (fun k hk=>by
  have:=h.at_
  rcases hr k hk with h1 | ⟨h1,_⟩<;>omega),h.at_⟩
end Go.Proofs.YtjmekllgnhkodaaGreatDoor
namespace Go.Proofs.YtjmekllgnhkodaaGreatDoor
set_option maxHeartbeats 4000000
set_option maxRecDepth 100000
open Go.RowKit Go.Shelf
attribute [local go_sem] Oper.semAt_some
theorem LkB.set {w0 w:World} {b op:Nat} {v1 v2:Value} (h:LkB w0 b op v1 v2 w) (u1 u2:Value):LkB w0 b op u1 u2 ((w.setCell ⟨b+1,0,none⟩ u1).setCell ⟨b+2,0,none⟩ u2):=
 ⟨(h.op.far (p:=⟨b+1,0,none⟩) (by show b≠b+1;omega) _).far (p:=⟨b+2,0,none⟩) (by show b≠b+2;omega) _,(h.r1.set 0 _).far (p:=⟨b+2,0,none⟩) (by show b+1≠b+2;omega) _,(h.r2.far (p:=⟨b+1,0,none⟩) (by show b+2≠b+1;omega) _).set 0 _,(h.below.setCell (by have:=h.at_;show _≤b+1;omega) _).setCell (by have:=h.at_;show _≤b+2;omega) _,h.at_⟩
theorem LkB.ret {w0 w:World} {b op:Nat} {v1 v2:Value} (h:LkB w0 b op v1 v2 w) (D:Nat) (hD:b+2 < D) (_:w.heap[D]?=some (.deferred (some []))):LkB w0 b op v1 v2 (w.putObj D (.deferred none)):=
 h.own (bx:=D) (B:=D) hD (by have:=h.at_;omega) (grownBy_putObj' _ D (.deferred none)) (fun r e=>by injection e with e;exact .inl e.symm)
theorem lkB_start (w:World) (op:Nat) (s:ByteArray):LkB w w.heap.size op (.string ⟨#[]⟩) (.bool false) ((((w.alloc (.cells #[.int .u8 op] 5)).alloc (.cells #[.string ⟨#[]⟩] 9)).alloc (.cells #[.bool false] 4)).alloc (.cells #[.string s] 9))∧
  Blk ((((w.alloc (.cells #[.int .u8 op] 5)).alloc (.cells #[.string ⟨#[]⟩] 9)).alloc (.cells #[.bool false] 4)).alloc (.cells #[.string s] 9)) (w.heap.size+3) 9 #[.string s]:=by
 have h1:=(((Blk.new w 5 #[.int .u8 op]).alloc (.cells #[.string ⟨#[]⟩] 9)).alloc (.cells #[.bool false] 4)).alloc (.cells #[.string s] 9)
 have h2:=((Blk.new (w.alloc (.cells #[.int .u8 op] 5)) 9 #[.string ⟨#[]⟩]).alloc (.cells #[.bool false] 4)).alloc (.cells #[.string s] 9)
 have h3:=(Blk.new ((w.alloc (.cells #[.int .u8 op] 5)).alloc (.cells #[.string ⟨#[]⟩] 9)) 4 #[.bool false]).alloc (.cells #[.string s] 9)
 have h4:=Blk.new (((w.alloc (.cells #[.int .u8 op] 5)).alloc (.cells #[.string ⟨#[]⟩] 9)).alloc (.cells #[.bool false] 4)) 9 #[.string s]
 simp only [World.size_alloc] at h2 h3 h4
 refine ⟨⟨h1,h2,h3,?_,Nat.le_refl _⟩,h4⟩
 refine ((((Below.refl _ w).alloc (Nat.le_refl _) _).alloc ?_ _).alloc ?_ _).alloc ?_ _<;>simp only [World.size_alloc]<;>omega
theorem lookup_any (s:ByteArray) (op:Nat) (hop:op < 256) (w:World) (hs:s.size≤1000000):
  Calls Tryz.prog 98 #[.string s,.int .u8 op] w (lookP w (lookF op (splitC s.data.toList))):=by
 obtain ⟨hk,hb⟩:=lkB_start w op s
 have HK0:=Lib.hid hk
 have HSEQ:=Lib.hid (texts_seq (w.heap.size+3) s _ hb hs)
 have HLT:Hid (w.heap.size+3 < ((((w.alloc (.cells #[.int .u8 op] 5)).alloc (.cells #[.string ⟨#[]⟩] 9)).alloc (.cells #[.bool false] 4)).alloc (.cells #[.string s] 9)).heap.size):=hb.lt
 clear hk hb hs
 generalize splitC s.data.toList=L at *
 refine (callsIn_wide (n:=9)).1 ?_
 refine callsIn_of_wp_marks Tryz.func98 rfl trivial ?_ rfl
 simp only [Tryz.ntmps98,List.size_toArray,List.length_cons,List.length_nil,Nat.reduceAdd,Nat.reduceSub,Array.replicate_succ,Array.replicate_zero,List.push_toArray,List.append_toArray,List.nil_append,List.cons_append]
 gi_wp2_with (refine ⟨trivial,?_⟩;gi_at_call 144;refine (callsIn_wide.2 (texts_any s _)).mono ?_;rintro e w' ⟨rfl,rfl⟩)
 generalize (((w.alloc (.cells #[.int .u8 op] 5)).alloc (.cells #[.string ⟨#[]⟩] 9)).alloc (.cells #[.bool false] 4)).alloc (.cells #[.string s] 9)=W0 at *
 refine wpIn_rangeFunc_box rfl (by omega) (gf:=180) (lb:=#[.pointer (some ⟨w.heap.size+3,0,none⟩)]) rfl trivial (enters_of Tryz.func180 (by kernel_rfl) rfl)
  (encs:=encS) HLT.out HSEQ.out (Below.refl _ _) (fun _=>rfl)
  (fun pre W=>(∀y∈vals pre,fitsF y op=false)∧LkB w w.heap.size op (.string ⟨#[]⟩) (.bool false) W)
  (fun c pre W=>c=.ret∧∃(p0:List SL) (x:SL),pre=p0++[x]∧(∀y∈vals p0,fitsF y op=false)∧fitsF x.1 op=true∧LkB w w.heap.size op (.string ⟨x.1.toArray⟩) (.bool true) W)
  (fun pre W W' row hi hg hr=>⟨hi.1,hi.2.own (by omega) HK0.out.below.size hg hr⟩)
  (fun c pre W W' row hi hg hr=>by
   dsimp only at hi ⊢
   obtain ⟨rfl,p0,x,h1,h2,h3,h4⟩:=hi
   exact ⟨rfl,p0,x,h1,h2,h3,h4.own (by omega) HK0.out.below.size hg hr⟩)
  ⟨fun y hy=>(by cases hy),HK0.out⟩
  (fun x=>{tmps:=#[.string s,.int .u8 op,undef,.pointer (some ⟨w.heap.size,0,none⟩),.pointer (some ⟨w.heap.size+1,0,none⟩),.pointer (some ⟨w.heap.size+2,0,none⟩),.string ⟨x.1.toArray⟩,.string s,.func (.func 180) #[] #[.pointer (some ⟨w.heap.size+3,0,none⟩)],.string ⟨x.1.toArray⟩,undef,undef,undef,undef],defers:=[]})
  ?assign ?body ?done ?stop
 case assign=>
  intro l x W K hK
  dsimp only [encS]
  gi_wp2
  exact hK
 case body=>
  rintro l pre x W _ ⟨hp,hk⟩
  have HP:=Lib.hid hp
  have HK:=Lib.hid hk
  have d0:=hk.op.cell 0
  have d1:=hk.r1.cell 0
  have d2:=hk.r2.cell 0
  have g1:=hk.r1.free 0
  have g2:=hk.r2.free 0
  have HF:=Lib.hid (tfits_any ⟨x.1.toArray⟩ op hop W (by show x.1.toArray.size≤_;rw [List.size_toArray];exact x.2))
  rw [show (⟨x.1.toArray⟩:ByteArray).data.toList=x.1 by simp] at HF
  clear hp hk
  have hsub:9 - 1 - 1=7:=rfl
  simp only [hsub]
  cases hf:fitsF x.1 op
  ·rw [hf] at HF
   have HFF:=Lib.hid hf
   clear hf
   gi_wp2_with (refine ⟨trivial,?_⟩;gi_at_call 145;refine (CallsIn.inRound l (callsIn_wide.2 HF.out)).mono ?_;rintro e w2 ⟨rfl,rfl⟩)
   exact ⟨KeepsFrom.refl _ _,rfl,fun y hy=>by
    rw [vals,List.map_append,List.mem_append] at hy
    rcases hy with hy | hy
    ·exact HP.out y hy
    ·simp at hy;rw [hy];exact HFF.out,HK.out⟩
  ·rw [hf] at HF
   have HFF:=Lib.hid hf
   clear hf
   gi_wp2_with (refine ⟨trivial,?_⟩;gi_at_call 145;refine (CallsIn.inRound l (callsIn_wide.2 HF.out)).mono ?_;rintro e w2 ⟨rfl,rfl⟩)
   exact ⟨((KeepsOthers.setCell _ _ _).trans (KeepsOthers.setCell _ _ _)).from _,rfl,pre,x,rfl,HP.out,HFF.out,HK.out.set _ _⟩
 case done=>
  rintro D xs W hD hall ⟨hp,hk⟩ hK
  have HN:Hid (lookF op L=none):=by show _=_;rw [←hall];exact lookF_none hp
  have HK:=Lib.hid hk
  have HKD:=Lib.hid hK
  have hD2:w.heap.size+2 < D:=by have:=HLT.out;omega
  have d1:=hk.r1.cell 0
  have d2:=hk.r2.cell 0
  have g1:=hk.r1.free 0
  have g2:=hk.r2.free 0
  clear hp hk hK hall
  gi_wp2
  have HK2:=HK.out.set (.string ⟨#[]⟩) (.bool false)
  have hne1:D≠w.heap.size+1:=by omega
  have hne2:D≠w.heap.size+2:=by omega
  have HKD2:((W.setCell ⟨w.heap.size+1,0,none⟩ (.string ⟨#[]⟩)).setCell ⟨w.heap.size+2,0,none⟩ (.bool false)).heap[D]?=some (.deferred (some [])):=((Below.heap_setCell _ _ _ _ hne2).trans (Below.heap_setCell _ _ _ _ hne1)).trans HKD.out
  refine ⟨by simp,.inl ⟨_,_,rfl,run_takeDeferred HKD2,?_⟩⟩
  have HK3:=HK2.ret D hD2 HKD2
  have q1:=HK3.r1.cell 0
  have q2:_=_:=HK3.r2.cell 0
  have q3:((((W.setCell ⟨w.heap.size+1,0,none⟩ (.string ⟨#[]⟩)).setCell ⟨w.heap.size+1+1,0,none⟩ (.bool false)).putObj D (.deferred none))).cell? ⟨w.heap.size+1+1,0,none⟩=some (.bool false):=q2
  refine ⟨.tuple #[.string ⟨#[]⟩,.bool false],?_,?_⟩
  ·simp [results,Tryz.results98,go_sem,q1,q3]
  ·exact ⟨by rw [HN.out],HK3.below⟩
 case stop=>
  rintro D c pre W hD hpre ⟨rfl,p0,x,rfl,hp,hf,hk⟩ hK
  have HN:Hid (lookF op L=some x.1):=by
   obtain ⟨r,hr⟩:=hpre
   show _=_
   rw [←hr,vals,List.map_append,List.append_assoc]
   exact lookF_some hp hf
  have HK:=Lib.hid hk
  have HKD:=Lib.hid hK
  have hD2:w.heap.size+2 < D:=by have:=HLT.out;omega
  clear hp hk hK hpre hf
  gi_wp2
  refine ⟨by simp,.inl ⟨_,_,rfl,run_takeDeferred HKD.out,?_⟩⟩
  have HK3:=HK.out.ret D hD2 HKD.out
  have q1:=HK3.r1.cell 0
  have q3:(W.putObj D (.deferred none)).cell? ⟨w.heap.size+1+1,0,none⟩=some (.bool true):=HK3.r2.cell 0
  refine ⟨.tuple #[.string ⟨x.1.toArray⟩,.bool true],?_,?_⟩
  ·simp [results,Tryz.results98,go_sem,q1,q3]
  ·exact ⟨by rw [HN.out],HK3.below⟩
end Go.Proofs.YtjmekllgnhkodaaGreatDoor
namespace Go.Proofs.YtjmekllgnhkodaaGreatDoor
set_option maxHeartbeats 4000000
set_option maxRecDepth 100000
open Go.RowKit Go.Shelf
def selN (u:List UInt8) (kd:Int):Nat→List (List UInt8)→List Opd
 | _,[]=>[]
 | i,x::r=>(if x≠[]∧x=u then [⟨kd,i,0⟩] else [])++selN u kd (i+1) r
theorem selN_app (u:List UInt8) (kd:Int) (y:List UInt8):∀(l:List (List UInt8)) (i:Nat),selN u kd i (l++[y])=selN u kd i l++(if y≠[]∧y=u then [⟨kd,(i+l.length:Nat),0⟩] else [])
 | [],i=>by simp [selN]
 | x::l,i=>by
  rw [List.cons_append,selN,selN_app u kd y l (i+1),selN,List.append_assoc,List.length_cons,show i+1+l.length=i+(l.length+1) by omega]
def namesT:List (Int × List (List UInt8)):=
 [(1,[[66],[67],[68],[69],[72],[76],[],[65],[]]),(2,[[73,88,72],[73,88,76],[73,89,72],[73,89,76],[],[],[],[],[]]),(3,[[66,67],[68,69],[72,76],[83,80],[65,70],[73,88],[73,89],[65,70,39],[]]),
  (8,[[78,90],[90],[78,67],[67],[80,79],[80,69],[80],[77],[]]),(9,[[73],[82],[],[],[],[],[],[],[]])]
def namedF (u:List UInt8):List Opd:=namesT.flatMap fun x=>selN u x.1 0 x.2
theorem kind_nm (k:Nat) (hk:k < 5) (j:Nat) (hj:j < 9):(kindD (namesT.getD k (0,[])).1).nm j=⟨((namesT.getD k (0,[])).2.getD j []).toArray⟩:=by
 have h:∀k:Fin 5,∀j:Fin 9,((kindD (namesT.getD k.val (0,[])).1).nm j.val).data.toList=(namesT.getD k.val (0,[])).2.getD j.val []:=by decide+kernel
 have h2:=h ⟨k,hk⟩ ⟨j,hj⟩
 simp only at h2
 rw [←h2]
theorem kind_ok (k:Nat) (hk:k < 5):kindOk (namesT.getD k (0,[])).1=true:=by
 have h:∀k:Fin 5,kindOk (namesT.getD k.val (0,[])).1=true:=by decide+kernel
 exact h ⟨k,hk⟩
theorem names_len (k:Nat) (hk:k < 5):(namesT.getD k (0,[])).2.length=9:=by
 have h:∀k:Fin 5,(namesT.getD k.val (0,[])).2.length=9:=by decide+kernel
 exact h ⟨k,hk⟩
theorem is_any (x u:List UInt8) (bs:Nat) (w:World) (h:Blk w bs 9 #[.string ⟨u.toArray⟩]):
  Calls Tryz.prog 207 #[.string ⟨x.toArray⟩,.pointer (some ⟨bs,0,none⟩)] w fun e w'=>e=.returned (.bool (decide (x=u)))∧w'=w:=by
 have d0:=h.cell 0
 clear h
 have hx:=toList_mk x
 have hu:=toList_mk u
 have HE:Hid ((x==u)=decide (x=u)):=by show _=_;rw [Bool.eq_iff_iff];simp
 go_enter Tryz.func207,Tryz.ntmps207
 go_wp2
 go_ret
 exact ⟨ret_bool HE.out,rfl⟩
theorem run_kd:∀(k:Nat),k < 5→∀w:World,(Instr.index 257 (.agg #[.int .i64 1,.int .i64 2,.int .i64 3,.int .i64 8,.int .i64 9]) (.int .i64 (k:Int))).run Tryz.prog w=.ok (.int .i64 (namesT.getD k (0,[])).1) w
 | 0,_=>fun _=>by kernel_rfl
 | 1,_=>fun _=>by kernel_rfl
 | 2,_=>fun _=>by kernel_rfl
 | 3,_=>fun _=>by kernel_rfl
 | 4,_=>fun _=>by kernel_rfl
 | k+5,h=>absurd h (by omega)
theorem run_nm (d:KindD):∀(j:Nat),j < 9→∀w:World,(Instr.index 205 (.agg #[.string (d.nm 0),.string (d.nm 1),.string (d.nm 2),.string (d.nm 3),.string (d.nm 4),.string (d.nm 5),.string (d.nm 6),.string (d.nm 7),.string (d.nm 8)]) (.int .i64 (j:Int))).run Tryz.prog w=.ok (.string (d.nm j)) w
 | 0,_=>fun _=>by kernel_rfl
 | 1,_=>fun _=>by kernel_rfl
 | 2,_=>fun _=>by kernel_rfl
 | 3,_=>fun _=>by kernel_rfl
 | 4,_=>fun _=>by kernel_rfl
 | 5,_=>fun _=>by kernel_rfl
 | 6,_=>fun _=>by kernel_rfl
 | 7,_=>fun _=>by kernel_rfl
 | 8,_=>fun _=>by kernel_rfl
 | j+9,h=>absurd h (by omega)
theorem find_agg (k:Int) (hk:kindOk k=true) (w:World):Calls Tryz.prog 199 #[.int .i64 k] w fun e w'=>e=.returned (.tuple #[.agg #[.string ((kindD k).nm 0),.string ((kindD k).nm 1),.string ((kindD k).nm 2),.string ((kindD k).nm 3),.string ((kindD k).nm 4),.string ((kindD k).nm 5),.string ((kindD k).nm 6),.string ((kindD k).nm 7),.string ((kindD k).nm 8),.int .i64 (kindD k).lo,.int .i64 (kindD k).hi,.func (.func (kindD k).form) #[] #[]],.bool true])∧Below w.heap.size w w':=find_ok k hk w
theorem names_take {k:Nat} (hk:k < 5) (u:List UInt8):((namesT.take (k+1)).flatMap fun x=>selN u x.1 0 x.2)=((namesT.take k).flatMap fun x=>selN u x.1 0 x.2)++selN u (namesT.getD k (0,[])).1 0 (namesT.getD k (0,[])).2:=by
 have hk2:k < namesT.length:=hk
 rw [List.take_succ_eq_append_getElem hk2,List.flatMap_append]
 congr 1
 rw [List.getD_eq_getElem?_getD,List.getElem?_eq_getElem hk2]
 simp
theorem selN_take {u:List UInt8} {kd:Int} {l:List (List UInt8)} {j:Nat} (hj:j < l.length):selN u kd 0 (l.take (j+1))=selN u kd 0 (l.take j)++(if l.getD j []≠[]∧l.getD j []=u then [⟨kd,j,0⟩] else []):=by
 rw [List.take_succ_eq_append_getElem hj,selN_app,List.length_take,Nat.min_eq_left (Nat.le_of_lt hj),Nat.zero_add,List.getD_eq_getElem?_getD,List.getElem?_eq_getElem hj]
 rfl
theorem selN_len (u:List UInt8) (kd:Int):∀(l:List (List UInt8)) (i:Nat),(selN u kd i l).length≤l.length
 | [],_=>Nat.zero_le _
 | x::r,i=>by
  have:=selN_len u kd r (i+1)
  rw [selN,List.length_append,List.length_cons]
  split<;>simp<;>omega
theorem words_len (u:List UInt8) (k:Nat):((namesT.take k).flatMap fun x=>selN u x.1 0 x.2).length≤9 * k:=by
 induction k with
 | zero=>simp
 | succ k ih=>
  by_cases hk:k < 5
  ·rw [names_take hk,List.length_append]
   have:=selN_len u (namesT.getD k (0,[])).1 (namesT.getD k (0,[])).2 0
   have h9:=names_len k hk
   omega
  ·have hl:namesT.length=5:=rfl
   rw [List.take_of_length_le (by omega)] at ih ⊢
   omega
theorem words_any (u:List UInt8) (bs:Nat) (w:World) (h:Blk w bs 9 #[.string ⟨u.toArray⟩]):
  Calls Tryz.prog 206 #[.func (.func 207) #[] #[.pointer (some ⟨bs,0,none⟩)]] w fun e w'=>∃v,e=.returned v∧Own opdR w' w.heap.size 90 NoB v (namedF u)∧Below w.heap.size w w':=by
 have HB:=Lib.hid h
 clear h
 go_enter Tryz.func206,Tryz.ntmps206
 go_wp2
 go_loopw [3,11] (fun v i wr=>∃(k:Nat),k≤5∧i=.int .i64 k∧Own opdR wr w.heap.size 90 NoB v ((namesT.take k).flatMap fun x=>selN u x.1 0 x.2)∧Below w.heap.size w wr) (fun _ i _=>5 - (intOf i).toNat)
 case atStart=>exact ⟨0,Nat.zero_le _,rfl,Own.nil _ _ _ _ _,Below.refl _ _⟩
 case round=>
  obtain ⟨k,hk,rfl,ho,hb⟩:=hrel
  have HO:=Lib.hid ho
  have HBW:=Lib.hid hb
  clear ho hb
  by_cases hlt:k < 5
  ·have hkd:=run_kd k hlt
   have HFI:=Lib.hid (fun W=>find_agg _ (kind_ok k hlt) W)
   have HNM:=Lib.hid (kind_nm k hlt)
   have HLE:=Lib.hid (names_len k hlt)
   have HTK:=Lib.hid (names_take hlt u)
   have HWL:=Lib.hid (words_len u k)
   generalize namesT.getD k (0,[])=ent at *
   obtain ⟨kd,nl⟩:=ent
   dsimp only at hkd HFI HNM HLE HTK
   have hrn:=run_nm (kindD kd)
   have HRN:=Lib.hid hrn
   generalize kindD kd=d at *
   generalize ((namesT.take k).flatMap fun x=>selN u x.1 0 x.2)=acc at *
   clear hrn
   go_wp2_with (go_at_call 199;refine (HFI.out _).mono ?_;rintro e w1 ⟨rfl,hb⟩;have HB1:=Lib.hid (HBW.out.trans (hb.mono HBW.out.size));have HO1:=Lib.hid (HO.out.keep (Keep.of_below hb (fun j hj=>by rcases hj with hj | hj;exact hj.elim;exact (HO.out.lt j hj).2)));clear hb)
   have hal:=(Below.refl w1.heap.size w1).alloc (Nat.le_refl _) (.cells #[.string (d.nm 0),.string (d.nm 1),.string (d.nm 2),.string (d.nm 3),.string (d.nm 4),.string (d.nm 5),.string (d.nm 6),.string (d.nm 7),.string (d.nm 8),.int .i64 d.lo,.int .i64 d.hi,.func (.func d.form) #[] #[]] 208)
   have HB2:=Lib.hid (HB1.out.trans (hal.mono HB1.out.size))
   have HO2:=Lib.hid (HO1.out.keep (Keep.of_below hal (fun j hj=>by rcases hj with hj | hj;exact hj.elim;exact (HO1.out.lt j hj).2)))
   clear hal HB1 HO1 HBW HO
   go_loopw [3,21] (fun v i wr2=>∃j:Nat,j≤9∧i=.int .i64 j∧Own opdR wr2 w.heap.size 90 NoB v (acc++selN u kd 0 (nl.take j))∧Below w.heap.size w wr2) (fun _ i _=>9 - (intOf i).toNat)
   case atStart=>exact ⟨0,Nat.zero_le _,rfl,by rw [List.take_zero,selN,List.append_nil];exact HO2.out,HB2.out⟩
   case round=>
    clear HO2 HB2
    obtain ⟨j,hj,rfl,ho,hb⟩:=hrel
    have HO:=Lib.hid ho
    have HBW:=Lib.hid hb
    obtain ⟨oa,oc,rfl⟩:=ho.form
    clear ho hb
    by_cases hjt:j < 9
    ·have HSE:=Lib.hid (selN_take (u:=u) (kd:=kd) (show j < nl.length by have:=HLE.out;omega))
     have hnm:=HNM.out j hjt
     have hix:=HRN.out j hjt
     rw [hnm] at hix
     generalize nl.getD j []=x at *
     have HIS:=Lib.hid (is_any x u bs wr (HB.out.below HBW.out HB.out.lt))
     have hemp:(⟨x.toArray⟩:ByteArray).toList.isEmpty=decide (x=[]):=by rw [toList_mk];cases x<;>rfl
     have HLA:Hid ((acc++selN u kd 0 (nl.take j)).length≤1000):=by
      show _≤_
      have h1:=selN_len u kd (nl.take j) 0
      have h2:=HWL.out
      rw [List.length_take] at h1
      rw [List.length_append]
      omega
     generalize (⟨x.toArray⟩:ByteArray)=bx at *
     generalize hzs:acc++selN u kd 0 (nl.take j)=zs at *
     have HZS:=Lib.hid hzs
     clear hnm hzs
     by_cases hx:x=[]
     ·rw [decide_eq_true hx] at hemp
      have HNX:Hid (acc++selN u kd 0 (nl.take (j+1))=zs):=by show _=_;rw [HSE.out,if_neg (fun h=>h.1 hx),List.append_nil,HZS.out]
      clear hx
      go_wp2
      go_roundw
      case rel=>exact ⟨j+1,by omega,by go_num,by rw [HNX.out];exact HO.out,HBW.out⟩
      case measure=>simp [intOf];omega
     ·rw [decide_eq_false hx] at hemp
      by_cases hu:x=u
      ·have HNX:Hid (acc++selN u kd 0 (nl.take (j+1))=zs++[⟨kd,j,0⟩]):=by show _=_;rw [HSE.out,if_pos ⟨hx,hu⟩,←List.append_assoc,HZS.out]
       rw [decide_eq_true hu] at HIS
       have HL1:Hid ((zs.length+1) * 24≤140737488355328):=by show _≤_;have:=HLA.out;omega
       have HL2:Hid (zs.length+1≤9223372036854775807):=by show _≤_;have:=HLA.out;omega
       clear hx hu
       go_wp2_with (first
        | (go_at_call 207;refine HIS.out.mono ?_;rintro e w3 ⟨rfl,rfl⟩)
        | (at_builtin;refine wpList_push rfl (.tmp 32) (.tmp 36) 25 rfl w.heap.size 90 24 elOpd _ zs ⟨kd,j,0⟩ _ rfl rfl HO.out rfl HL1.out HL2.out HBW.out.size ?_;intro a' c' w' hp;have HP:=Lib.hid hp;clear hp))
       go_roundw
       case rel=>exact ⟨j+1,by omega,by go_num,by rw [HNX.out];exact HP.out.1,HBW.out.grown HP.out.2 HBW.out.size (fun k hk=>(HO.out.lt k hk).1)⟩
       case measure=>simp [intOf];omega
      ·have HNX:Hid (acc++selN u kd 0 (nl.take (j+1))=zs):=by show _=_;rw [HSE.out,if_neg (fun h=>hu h.2),List.append_nil,HZS.out]
       rw [decide_eq_false hu] at HIS
       clear hx hu
       go_wp2_with (go_at_call 207;refine HIS.out.mono ?_;rintro e w3 ⟨rfl,rfl⟩)
       go_roundw
       case rel=>exact ⟨j+1,by omega,by go_num,by rw [HNX.out];exact HO.out,HBW.out⟩
       case measure=>simp [intOf];omega
    ·obtain rfl:j=9:=by omega
     have HFN:Hid (acc++selN u kd 0 (nl.take 9)=acc++selN u kd 0 nl):=by show _=_;rw [List.take_of_length_le (by have:=HLE.out;omega)]
     go_wp2
     go_roundw
     case rel=>exact ⟨k+1,by omega,by go_num,by rw [HTK.out,←HFN.out];exact HO.out,HBW.out⟩
     case measure=>simp [intOf];omega
  ·obtain rfl:k=5:=by omega
   have HE:Hid (((namesT.take 5).flatMap fun x=>selN u x.1 0 x.2)=namedF u):=Lib.hid rfl
   go_wp2
   go_ret
   exact ⟨_,rfl,by rw [←HE.out];exact HO.out,HBW.out⟩
theorem Named_any (s:ByteArray) (w:World) (hs:s.size≤1000000):
  Calls Tryz.prog 186 #[.string s] w fun e w'=>∃v,e=.returned v∧Own opdR w' w.heap.size 90 NoB v (namedF (s.data.toList.map up))∧Below w.heap.size w w':=by
 have HU:=Lib.hid (Upper_any s w (by omega))
 unfold upper at HU
 generalize s.data.toList.map up=u at *
 have HWD:=Lib.hid (fun (bs:Nat) (W:World) (h:Blk W bs 9 #[.string ⟨u.toArray⟩])=>words_any u bs W h)
 have hmf:∀(fn:Fn) (first cap:Array Value) (w:World),(Instr.makeFunc fn first cap).run Tryz.prog w=.ok (.func fn first cap) w:=fun _ _ _ _=>rfl
 clear hs
 go_enter Tryz.func186,Tryz.ntmps186
 go_wp2_with (first
  | (go_at_call 89;refine HU.out.mono ?_;rintro e w1 ⟨rfl,hb⟩;have HB1:=Lib.hid (hb.alloc hb.size (.cells #[.string ⟨u.toArray⟩] 9));have HK1:=Lib.hid (Blk.new w1 9 #[.string ⟨u.toArray⟩]);clear hb)
  | (go_at_call 206;refine (HWD.out _ _ HK1.out).mono ?_;rintro e w2 ⟨v,rfl,ho,hb⟩;have HO:=Lib.hid (ho.base HB1.out.size);have HB2:=Lib.hid (HB1.out.trans (hb.mono HB1.out.size));clear ho hb))
 go_ret
 exact ⟨_,rfl,HO.out,HB2.out⟩
end Go.Proofs.YtjmekllgnhkodaaGreatDoor
namespace Go.Proofs.YtjmekllgnhkodaaGreatDoor
set_option maxHeartbeats 4000000
set_option maxRecDepth 100000
open Go.RowKit Go.Shelf
def wordF (s:List UInt8):Option Opd:=
 if Lib.hasPrefix s [40]=true then ((namedF ((Lib.trimSuffix (Lib.trimPrefix s [40]) [41]).map up)).head?).map (fun o=>⟨4,if o.kind=3 then o.reg else 8,0⟩) else (namedF (s.map up)).head?
def Opd.val (o:Opd):Value:=.agg #[.int .i64 o.kind,.int .i64 o.reg,.int .i64 o.n]
theorem own_head {w:World} {B:Nat} {v:Value} {l:List Opd} {o:Opd} (h:Own opdR w B 90 NoB v l) (ho:l.head?=some o):∃b q n c,v=.slice (some ⟨b,q,none⟩) n c∧0 < n∧w.cell? ⟨b,q,none⟩=some (.int .i64 o.kind)∧w.cell? ⟨b,q+1,none⟩=some (.int .i64 o.reg)∧w.cell? ⟨b,q+2,none⟩=some (.int .i64 o.n):=by
 obtain ⟨a,c,rfl,_,_,g⟩:=(h.slR (q:=fun _=>True) (fun _ h=>h.elim) (fun _ _=>trivial)).opd
 cases l with
 | nil=>cases ho
 | cons x l=>
  have ho:x=o:=by injection ho
  subst ho
  obtain ⟨b,q,rfl,_,h0,h1,h2⟩:=g 0 x rfl
  rw [Nat.zero_mul,Nat.add_zero] at h0 h1 h2
  exact ⟨b,q,_,c,rfl,Nat.succ_pos _,h0,h1,h2⟩
theorem trimPrefix_len (s p:List UInt8):(Lib.trimPrefix s p).length≤s.length:=by
 unfold Lib.trimPrefix
 split
 ·rw [List.length_drop];omega
 ·exact Nat.le_refl _
theorem trimSuffix_len (s p:List UInt8):(Lib.trimSuffix s p).length≤s.length:=by
 unfold Lib.trimSuffix
 split
 ·rw [List.length_take];omega
 ·exact Nat.le_refl _
theorem results_row1 {P:Program} {fn:Func} {p:Tmp} {ty:TypeId} (h:fn.results=#[.cell p ty]) (tmps:Array Value) (w:World) (g:Nat) (t:TypeId) (cs:Array Value) (fr:Nat × Nat) (d:TypeDesc)
  (hp:tmps.getD p undef=.pointer (some ⟨g,0,none⟩)) (hg:w.heap[g]?=some (.cells cs t fr))
  (hu:P.underlying ty=some d) (hd:(match d with | .struct _ | .array _ _=>true | _=>false)=true) (hi:(P.info? ty).map (·.size)=some cs.size):
  (results fn tmps).run P w=.ok (.agg cs) w:=by
 have hp':tmps[p]?.getD undef=.pointer (some ⟨g,0,none⟩):=by simpa using hp
 simp [results,h,hp',asAddr,run_loadVar_row w g t ty cs fr d hg hu hd hi]
theorem tword_any (s:ByteArray) (o:Opd) (w:World) (h:wordF s.data.toList=some o) (hs:s.size≤1000):
  Calls Tryz.prog 148 #[.string s] w fun e w'=>e=.returned o.val∧Below w.heap.size w w':=by
 have hcp:=fun W=>Tryz.strings_CutPrefix s ⟨#[40]⟩ W
 have hsz:s.data.toList.length≤1000:=by simpa using hs
 have HF:=Lib.hid (Blk.new w 90 #[.int .i64 0,.int .i64 0,.int .i64 0])
 have hal:=(Below.refl w.heap.size w).alloc (Nat.le_refl _) (.cells #[.int .i64 0,.int .i64 0,.int .i64 0] 90)
 have HAL:=Lib.hid hal
 rw [show (⟨#[40]⟩:ByteArray).data.toList=[40] from rfl] at hcp
 have HCP:=Lib.hid hcp
 unfold wordF at h
 by_cases hp:Lib.hasPrefix s.data.toList [40]=true
 ·rw [if_pos hp] at h
  rw [hp] at HCP
  have htp:(Lib.trimPrefix s.data.toList [40]).length≤1000:=Nat.le_trans (trimPrefix_len _ _) hsz
  generalize Lib.trimPrefix s.data.toList [40]=inner at *
  obtain ⟨x,hx,rfl⟩:=Option.map_eq_some_iff.1 h
  have hts:=fun W=>Tryz.strings_TrimSuffix ⟨inner.toArray⟩ ⟨#[41]⟩ W (by show inner.toArray.size≤_;rw [List.size_toArray];omega)
  rw [show (⟨#[41]⟩:ByteArray).data.toList=[41] from rfl,show (⟨inner.toArray⟩:ByteArray).data.toList=inner by simp] at hts
  have htl:(Lib.trimSuffix inner [41]).length≤1000:=Nat.le_trans (trimSuffix_len _ _) htp
  have HTS:=Lib.hid hts
  generalize Lib.trimSuffix inner [41]=t at *
  have hnm:=fun W=>Named_any ⟨t.toArray⟩ W (by show t.toArray.size≤_;rw [List.size_toArray];omega)
  rw [show (⟨t.toArray⟩:ByteArray).data.toList=t by simp] at hnm
  have HNM:=Lib.hid hnm
  have HX:=Lib.hid hx
  clear hcp hts hnm h hx hs hsz htp htl hp hal
  obtain ⟨xk,xr,xn⟩:=x
  by_cases hk:xk=3
  ·subst hk
   show Calls _ _ _ _ fun e w'=>e=.returned (Opd.val ⟨4,xr,0⟩)∧_
   go_enter Tryz.func148,Tryz.ntmps148
   go_wp2_with (first
    | (go_at_call 185;refine (HCP.out _).mono ?_;rintro e w' ⟨rfl,rfl⟩)
    | (go_at_call 187;refine (HTS.out _).mono ?_;rintro e w' ⟨rfl,rfl⟩)
    | (go_at_call 186;refine (HNM.out _).mono ?_;rintro e w2 ⟨v,rfl,ho,hb⟩;obtain ⟨nb,nq,nn,nc,rfl,hn0,e0,e1,e2⟩:=own_head ho HX.out;have HB2:=Lib.hid (HAL.out.trans (hb.mono HAL.out.size));obtain ⟨z0,z1,z2,y0,y1,y2⟩:=((HF.out.below hb HF.out.lt).alloc (.cells #[.int .i64 3,.int .i64 xr,.int .i64 xn] 90)).three;have HKX:=Lib.hid (HF.out.below hb HF.out.lt);clear ho hb))
   refine bodyPost_ret (results_row1 rfl _ _ w.heap.size 90 #[.int .i64 4,.int .i64 xr,.int .i64 0] (0,0) _ rfl (show Blk _ w.heap.size 90 #[.int .i64 4,.int .i64 xr,.int .i64 0] from (((HKX.out.alloc (.cells #[.int .i64 3,.int .i64 xr,.int .i64 xn] 90)).set 0 _).set 1 _).set 2 _) Tryz.underlying90 rfl (by kernel_rfl)) rfl ⟨rfl,?_⟩
   exact (((HB2.out.alloc HB2.out.size _).setCell (Nat.le_refl _) _).setCell (Nat.le_refl _) _).setCell (Nat.le_refl _) _
  ·have hk2:(xk==3)=false:=by rw [beq_eq_false_iff_ne];exact hk
   rw [show (if (Opd.mk xk xr xn).kind=3 then (Opd.mk xk xr xn).reg else 8)=8 from if_neg hk]
   go_enter Tryz.func148,Tryz.ntmps148
   go_wp2_with (first
    | (go_at_call 185;refine (HCP.out _).mono ?_;rintro e w' ⟨rfl,rfl⟩)
    | (go_at_call 187;refine (HTS.out _).mono ?_;rintro e w' ⟨rfl,rfl⟩)
    | (go_at_call 186;refine (HNM.out _).mono ?_;rintro e w2 ⟨v,rfl,ho,hb⟩;obtain ⟨nb,nq,nn,nc,rfl,hn0,e0,e1,e2⟩:=own_head ho HX.out;have HB2:=Lib.hid (HAL.out.trans (hb.mono HAL.out.size));obtain ⟨z0,z1,z2,y0,y1,y2⟩:=((HF.out.below hb HF.out.lt).alloc (.cells #[.int .i64 xk,.int .i64 xr,.int .i64 xn] 90)).three;have HKX:=Lib.hid (HF.out.below hb HF.out.lt);clear ho hb))
   refine bodyPost_ret (results_row1 rfl _ _ w.heap.size 90 #[.int .i64 4,.int .i64 8,.int .i64 0] (0,0) _ rfl (show Blk _ w.heap.size 90 #[.int .i64 4,.int .i64 8,.int .i64 0] from (((HKX.out.alloc (.cells #[.int .i64 xk,.int .i64 xr,.int .i64 xn] 90)).set 0 _).set 1 _).set 2 _) Tryz.underlying90 rfl (by kernel_rfl)) rfl ⟨rfl,?_⟩
   exact (((HB2.out.alloc HB2.out.size _).setCell (Nat.le_refl _) _).setCell (Nat.le_refl _) _).setCell (Nat.le_refl _) _
 ·have hp:Lib.hasPrefix s.data.toList [40]=false:=by simpa using hp
  rw [if_neg (by rw [hp];exact Bool.false_ne_true)] at h
  rw [hp] at HCP
  have HNM:=Lib.hid (fun W=>Named_any s W (by omega))
  have HX:=Lib.hid h
  clear hcp h hs hsz hp hal
  generalize (⟨(Lib.trimPrefix s.data.toList [40]).toArray⟩:ByteArray)=inner at *
  go_enter Tryz.func148,Tryz.ntmps148
  go_wp2_with (first
   | (go_at_call 185;refine (HCP.out _).mono ?_;rintro e w' ⟨rfl,rfl⟩)
   | (go_at_call 186;refine (HNM.out _).mono ?_;rintro e w2 ⟨v,rfl,ho,hb⟩;obtain ⟨nb,nq,nn,nc,rfl,hn0,e0,e1,e2⟩:=own_head ho HX.out;have HB2:=Lib.hid (HAL.out.trans (hb.mono HAL.out.size));obtain ⟨z0,z1,z2,y0,y1,y2⟩:=(HF.out.below hb HF.out.lt).three;have HKX:=Lib.hid (HF.out.below hb HF.out.lt);clear ho hb))
  refine bodyPost_ret (results_row1 rfl _ _ w.heap.size 90 #[.int .i64 o.kind,.int .i64 o.reg,.int .i64 o.n] (0,0) _ rfl (show Blk _ w.heap.size 90 #[.int .i64 o.kind,.int .i64 o.reg,.int .i64 o.n] from ((HKX.out.set 0 _).set 1 _).set 2 _) Tryz.underlying90 rfl (by kernel_rfl)) rfl ⟨rfl,?_⟩
  exact ((HB2.out.setCell (Nat.le_refl _) _).setCell (Nat.le_refl _) _).setCell (Nat.le_refl _) _
end Go.Proofs.YtjmekllgnhkodaaGreatDoor
namespace Go.Proofs.YtjmekllgnhkodaaGreatDoor
set_option maxHeartbeats 4000000
set_option maxRecDepth 100000
open Go.RowKit Go.Shelf
def fieldF (c:UInt8) (op:Nat):Nat→Nat→List UInt8→Nat
 | _,acc,[]=>acc
 | i,acc,x::r=>fieldF c op (i+1) (if x=c then 2 * acc+op / 2 ^ (7 - i) % 2 else acc) r
theorem fieldF_yes {c:UInt8} {op k acc:Nat} {l:List UInt8} (hk:k < l.length) (h:l[k]=c):fieldF c op k acc (l.drop k)=fieldF c op (k+1) (2 * acc+op / 2 ^ (7 - k) % 2) (l.drop (k+1)):=by
 rw [List.drop_eq_getElem_cons hk,fieldF,if_pos h]
theorem fieldF_no {c:UInt8} {op k acc:Nat} {l:List UInt8} (hk:k < l.length) (h:l[k]≠c):fieldF c op k acc (l.drop k)=fieldF c op (k+1) acc (l.drop (k+1)):=by
 rw [List.drop_eq_getElem_cons hk,fieldF,if_neg h]
theorem field_any (bits:ByteArray) (rop:ByteArray) (ra:Value) (al:Bool) (c:UInt8) (op:Nat) (w:World) (hb:bits.size≤8) (hop:op < 256) (hra:∃a n c,ra=.slice a n c):
  Calls Tryz.prog 209 #[.agg #[.string bits,.string rop,ra,.bool al],.int .u8 c.toNat,.int .u8 op] w fun e w'=>e=.returned (.int .i64 (fieldF c op 0 0 bits.data.toList))∧Below w.heap.size w w':=by
 obtain ⟨ra1,ra2,ra3,rfl⟩:=hra
 have hal:=(Below.refl w.heap.size w).alloc (Nat.le_refl _) (.cells #[.string bits,.string rop,.slice ra1 ra2 ra3,.bool al] 150)
 have HAL:=Lib.hid hal
 have hb1:(bits.size:Int)≤8:=by omega
 have HYE:=Lib.hid (fun (k acc:Nat) (hk:k < bits.data.toList.length) h=>fieldF_yes (c:=c) (op:=op) (acc:=acc) hk h)
 have HNO:=Lib.hid (fun (k acc:Nat) (hk:k < bits.data.toList.length) h=>fieldF_no (c:=c) (op:=op) (acc:=acc) hk h)
 clear hal
 go_enter Tryz.func209,Tryz.ntmps209
 go_wp2
 go_loopw [7,12] (fun v i wr=>∃k acc:Nat,k≤bits.size∧i=.int .i64 k∧v=.int .i64 acc∧acc < 2 ^ k∧wr=w.alloc (.cells #[.string bits,.string rop,.slice ra1 ra2 ra3,.bool al] 150)∧fieldF c op 0 0 bits.data.toList=fieldF c op k acc (bits.data.toList.drop k)) (fun _ i _=>bits.size - (intOf i).toNat)
 case atStart=>exact ⟨0,0,Nat.zero_le _,rfl,rfl,by decide,rfl,by rw [List.drop_zero]⟩
 case round=>
  obtain ⟨k,acc,hk,rfl,rfl,hac,rfl,hx⟩:=hrel
  have HX:=Lib.hid hx
  have HAC:=Lib.hid hac
  have hacc:acc≤256:=by
   have:2 ^ k≤2 ^ 8:=Nat.pow_le_pow_right (by omega) (by omega)
   omega
  clear hx hac
  by_cases hlt:k < bits.size
  ·have hkl:k < bits.data.toList.length:=by simpa using hlt
   have e1:bits.data.toList[k]=bits[k]:=rfl
   have HY:=Lib.hid (HYE.out k acc hkl)
   have HN:=Lib.hid (HNO.out k acc hkl)
   rw [e1] at HY HN
   clear e1
   have hk7:(k:Int)≤7:=by omega
   have hsb:=shr_and1 op (7 - k) hop
   have hb2:op / 2 ^ (7 - k) % 2 < 2:=Nat.mod_lt _ (by omega)
   generalize op / 2 ^ (7 - k) % 2=bt at *
   have hac1:(acc:Int)≤256:=by omega
   have hbt:(bt:Int)≤1:=by omega
   have hP:2 ^ (k+1)=2 * 2 ^ k:=by rw [Nat.pow_succ,Nat.mul_comm]
   have HP2:=Lib.hid hP
   clear hP
   by_cases hc:bits[k]=c
   ·have hbe:((bits[k].toNat:Int)==(c.toNat:Int))=true:=by rw [hc];simp
    have HE:=Lib.hid (HY.out hc)
    clear hc HY HN
    go_wp2
    go_roundw
    case rel=>exact ⟨k+1,2 * acc+bt,by omega,by go_num,by go_num,by rw [HP2.out];have:=HAC.out;omega,trivial,HX.out.trans HE.out⟩
    case measure=>simp [intOf];omega
   ·have hbe:((bits[k].toNat:Int)==(c.toNat:Int))=false:=by rw [beq_eq_false_iff_ne];intro e;exact hc (UInt8.toNat_inj.1 (by omega))
    have HE:=Lib.hid (HN.out hc)
    clear hc HY HN
    go_wp2
    go_roundw
    case rel=>exact ⟨k+1,acc,by omega,by go_num,rfl,by rw [HP2.out];have:=HAC.out;omega,trivial,HX.out.trans HE.out⟩
    case measure=>simp [intOf];omega
  ·obtain rfl:k=bits.size:=by omega
   have HE:Hid (fieldF c op 0 0 bits.data.toList=acc):=by
    show _=_
    rw [HX.out,List.drop_eq_nil_of_le (by simp),fieldF]
   go_wp2
   go_ret
   exact ⟨ret_int (by rw [HE.out]),HAL.out⟩
end Go.Proofs.YtjmekllgnhkodaaGreatDoor
namespace Go.Proofs.YtjmekllgnhkodaaGreatDoor
set_option maxHeartbeats 4000000
set_option maxRecDepth 100000
open Go.RowKit Go.Shelf
def bdr (pg:Int) (op:Nat) (iop:ByteArray) (ia:Value) (ex:List UInt8) (al:Bool) (bits rop:ByteArray) (ra:Value) (ral:Bool):Array Value:=
 #[.int .i64 pg,.int .u8 op,.string iop,ia,.string ⟨ex.toArray⟩,.bool al,.string bits,.string rop,ra,.bool ral]
structure BdrV where
 pg:Int
 op:Nat
 iop:ByteArray
 ia:Value
 ex:List UInt8
 al:Bool
 bits:ByteArray
 rop:ByteArray
 ra:Value
 ral:Bool
def BdrV.cells (x:BdrV):Array Value:=bdr x.pg x.op x.iop x.ia x.ex x.al x.bits x.rop x.ra x.ral
structure BdrV.ok (x:BdrV):Prop where
 op:x.op < 256
 bits:x.bits.size≤8
 ex:x.ex.length≤100
 ra:∃a n c,x.ra=.slice a n c
 ia:∃a n c,x.ia=.slice a n c
abbrev BK (w:World) (bp:Nat) (x:BdrV):Prop:=Blk w bp 154 x.cells
theorem number_any' (bp:Nat) (x:BdrV) (c:UInt8) (w:World) (h:BK w bp x) (hx:x.ok):
  Calls Tryz.prog 189 #[.pointer (some ⟨bp,0,none⟩),.int .u8 c.toNat] w fun e w'=>e=.returned (.int .i64 (fieldF c x.op 0 0 x.bits.data.toList))∧Below w.heap.size w w':=by
 obtain ⟨pg,op,iop,ia,ex,al,bits,rop,ra,ral⟩:=x
 obtain ⟨h1,h2,_,⟨ra1,ra2,ra3,h4⟩,_⟩:=hx
 simp only at h1 h2 h4
 subst h4
 have c1:w.cell? ⟨bp,1,none⟩=some (.int .u8 op):=h.cell 1
 have c6:w.cell? ⟨bp,6,none⟩=some (.string bits):=h.cell 6
 have c7:w.cell? ⟨bp,7,none⟩=some (.string rop):=h.cell 7
 have c8:w.cell? ⟨bp,8,none⟩=some (.slice ra1 ra2 ra3):=h.cell 8
 have c9:w.cell? ⟨bp,9,none⟩=some (.bool ral):=h.cell 9
 have HF:=Lib.hid (fun W=>field_any bits rop (.slice ra1 ra2 ra3) ral c op W h2 h1 ⟨_,_,_,rfl⟩)
 show Calls _ _ _ _ fun e w'=>e=.returned (.int .i64 (fieldF c op 0 0 bits.data.toList))∧_
 generalize (fieldF c op 0 0 bits.data.toList)=r at *
 clear h h1 h2
 go_enter Tryz.func189,Tryz.ntmps189
 go_upto_region 1 with fail
 go_region_held3 (fun w'=>w'.cell? ⟨bp,1,none⟩=some (.int .u8 op)∧w'.cell? ⟨bp,6,none⟩=some (.string bits)∧w'.cell? ⟨bp,7,none⟩=some (.string rop)∧w'.cell? ⟨bp,8,none⟩=some (.slice ra1 ra2 ra3)∧w'.cell? ⟨bp,9,none⟩=some (.bool ral)) (go_keep)
  (first | (go_at_call 209;refine (HF.out _).mono ?_;rintro e w2 ⟨rfl,hb⟩;have d1:=(hb.cell (World.block_lt_of_cell? _ _ (show w.drew.cell? ⟨bp,1,none⟩=_ from c1))).trans c1;have d6:=(hb.cell (World.block_lt_of_cell? _ _ (show w.drew.cell? ⟨bp,6,none⟩=_ from c6))).trans c6;have d7:=(hb.cell (World.block_lt_of_cell? _ _ (show w.drew.cell? ⟨bp,7,none⟩=_ from c7))).trans c7;have d8:=(hb.cell (World.block_lt_of_cell? _ _ (show w.drew.cell? ⟨bp,8,none⟩=_ from c8))).trans c8;have d9:=(hb.cell (World.block_lt_of_cell? _ _ (show w.drew.cell? ⟨bp,9,none⟩=_ from c9))).trans c9;have HB:=Lib.hid ((Below.refl w.heap.size w).drew.trans (show Below w.heap.size w.drew w2 from hb));clear hb))
 go_wp2
 go_ret
 exact ⟨rfl,HB.out⟩
theorem named_any' (list:ByteArray) (n:Nat) (x:List UInt8) (o:Opd) (w:World) (hx:(Lib.fields list.data.toList)[n]?=some x) (ho:wordF x=some o) (hxl:x.length≤1000) (hl:list.size≤1000) (ha:∀(j:Nat) b,list.data.toList[j]?=some b→b.toNat < 128) (hT:Spc w):
  Calls Tryz.prog 188 #[.string list,.int .i64 n] w fun e w'=>e=.returned o.val∧Below w.heap.size w w':=by
 have hal:=(Below.refl w.heap.size w).alloc (Nat.le_refl _) (.cells #[.int .i64 0,.int .i64 0,.int .i64 0] 90)
 have hfl:=Tryz.strings_Fields list (w.alloc (.cells #[.int .i64 0,.int .i64 0,.int .i64 0] 90)) (by omega) ha (hT.below hal)
 have hn:n < (Lib.fields list.data.toList).length:=(List.getElem?_eq_some_iff.1 hx).1
 have hF:=Blk.new w 90 #[.int .i64 0,.int .i64 0,.int .i64 0]
 have HFL:Hid (Calls Tryz.prog 146 #[.string list] (w.alloc (.cells #[.int .i64 0,.int .i64 0,.int .i64 0] 90)) fun e w'=>∃g m:Nat,e=.returned (.slice (some ⟨g,0,none⟩) m m)∧n < m∧w'.cell? ⟨g,n,none⟩=some (.string ⟨x.toArray⟩)∧Blk w' w.heap.size 90 #[.int .i64 0,.int .i64 0,.int .i64 0]∧Below w.heap.size w w'):=hfl.mono fun e w' ⟨h1,h2⟩=>by
  subst h2
  refine ⟨_,_,h1,hn,?_,hF.alloc _,hal.alloc hal.size _⟩
  have hb:=Blk.new (w.alloc (.cells #[.int .i64 0,.int .i64 0,.int .i64 0] 90)) 9 ((Lib.fields list.data.toList).map fun l=>Value.string ⟨l.toArray⟩).toArray
  unfold World.cell?
  rw [show ((w.alloc (.cells #[.int .i64 0,.int .i64 0,.int .i64 0] 90)).alloc (.cells ((Lib.fields list.data.toList).map fun l=>Value.string ⟨l.toArray⟩).toArray 9)).heap[(w.alloc (.cells #[.int .i64 0,.int .i64 0,.int .i64 0] 90)).heap.size]?=_ from hb]
  show ((Lib.fields list.data.toList).map fun l=>Value.string ⟨l.toArray⟩).toArray[n]?=_
  rw [List.getElem?_toArray,List.getElem?_map,hx];rfl
 have HWD:=Lib.hid (fun W=>tword_any ⟨x.toArray⟩ o W (by rw [show (⟨x.toArray⟩:ByteArray).data.toList=x by simp];exact ho) (by show x.toArray.size≤_;rw [List.size_toArray];exact hxl))
 have hn0:(0:Int)≤(n:Int):=by omega
 clear hfl hal hF ho hx hxl hl ha hT hn
 obtain ⟨ok,orr,on⟩:=o
 go_enter Tryz.func188,Tryz.ntmps188
 go_wp2_with (first
  | (go_at_call 146;go_loud (refine HFL.out.mono ?_;rintro e w1 ⟨g,m,rfl,hn1,d0,hf,hb⟩;have hn2:(n:Int) < (m:Int):=(by omega);have HF1:=Lib.hid hf;have HB1:=Lib.hid hb;clear hf hb))
  | (go_at_call 148;refine (HWD.out _).mono ?_;rintro e w2 ⟨rfl,hb⟩;unfold Opd.val;have HF2:=Lib.hid (HF1.out.below hb HF1.out.lt);have HB2:=Lib.hid (HB1.out.trans (hb.mono HB1.out.size));obtain ⟨z0,z1,z2,y0,y1,y2⟩:=HF2.out.three;clear hb))
 refine bodyPost_ret (results_row1 rfl _ _ w.heap.size 90 #[.int .i64 ok,.int .i64 orr,.int .i64 on] (0,0) _ rfl (show Blk _ w.heap.size 90 #[.int .i64 ok,.int .i64 orr,.int .i64 on] from ((HF2.out.set 0 _).set 1 _).set 2 _) Tryz.underlying90 rfl (by kernel_rfl)) rfl ⟨rfl,?_⟩
 exact ((HB2.out.setCell (Nat.le_refl _) _).setCell (Nat.le_refl _) _).setCell (Nat.le_refl _) _
end Go.Proofs.YtjmekllgnhkodaaGreatDoor
namespace Go.Proofs.YtjmekllgnhkodaaGreatDoor
set_option maxHeartbeats 4000000
set_option maxRecDepth 100000
open Go.RowKit Go.Shelf
theorem fieldF_lt (c:UInt8) (op:Nat):∀(l:List UInt8) (i acc:Nat),acc < 2 ^ i→fieldF c op i acc l < 2 ^ (i+l.length)
 | [],i,acc,h=>h
 | x::r,i,acc,h=>by
  have h2:op / 2 ^ (7 - i) % 2 < 2:=Nat.mod_lt _ (by omega)
  have h3:2 ^ (i+1)=2 * 2 ^ i:=by rw [Nat.pow_succ,Nat.mul_comm]
  rw [fieldF,List.length_cons,show i+(r.length+1)=i+1+r.length by omega]
  refine fieldF_lt c op r (i+1) _ ?_
  split<;>omega
theorem field_256 (x:BdrV) (hx:x.ok) (c:UInt8):fieldF c x.op 0 0 x.bits.data.toList < 256:=by
 have h:=fieldF_lt c x.op x.bits.data.toList 0 0 (by decide)
 have h2:x.bits.data.toList.length≤8:=by have:=hx.bits;simpa using this
 have h3:2 ^ (0+x.bits.data.toList.length)≤2 ^ 8:=Nat.pow_le_pow_right (by omega) (by omega)
 omega
def listR:List UInt8:=[66,32,67,32,68,32,69,32,72,32,76,32,40,72,76,41,32,65]
def listP:List UInt8:=[66,67,32,68,69,32,72,76,32,83,80]
def listQ:List UInt8:=[66,67,32,68,69,32,72,76,32,65,70]
theorem tb_t1 {P:Prop} (h:P:=by
  have hal:=(Below.refl w.heap.size w).alloc (Nat.le_refl _) (.cells #[.int .i64 0,.int .i64 0,.int .i64 0] 90)
  have HF:=Lib.hid (Blk.new w 90 #[.int .i64 0,.int .i64 0,.int .i64 0])
  have HB:=Lib.hid hal
  have HN:=Lib.hid (number_any' bp x c _ (h.below hal h.lt) hx)
  first
   | ((have _:=Ma0);(have hasc:∀b∈listR,b.toNat < 128:=by decide);(have HD:=Lib.hid (fun W hT=>named_any' ⟨listR.toArray⟩ _ y o W hy ho hyl (by decide) (fun j b hb=>hasc b (List.mem_of_getElem? hb)) hT)))
   | ((have _:=Ma1);(have hasc:∀b∈listP,b.toNat < 128:=by decide);(have HD:=Lib.hid (fun W hT=>named_any' ⟨listP.toArray⟩ _ y o W hy ho hyl (by decide) (fun j b hb=>hasc b (List.mem_of_getElem? hb)) hT)))
   | ((have hasc:∀b∈listQ,b.toNat < 128:=by decide);(have HD:=Lib.hid (fun W hT=>named_any' ⟨listQ.toArray⟩ _ y o W hy ho hyl (by decide) (fun j b hb=>hasc b (List.mem_of_getElem? hb)) hT)))
  have HT:=Lib.hid hT
  first
   | ((have _:=Mb0);(unfold listR at HD))
   | ((have _:=Mb1);(unfold listP at HD))
   | (unfold listQ at HD)
  clear h hx hy ho hyl hT hal hasc
  generalize fieldF c x.op 0 0 x.bits.data.toList=n at *
  obtain ⟨ok,orr,on⟩:=o
  first
   | ((have _:=Mc0);(go_enter Tryz.func150,Tryz.ntmps150))
   | ((have _:=Mc1);(go_enter Tryz.func151,Tryz.ntmps151))
   | (go_enter Tryz.func152,Tryz.ntmps152)
  go_wp2_with (first
   | (go_at_call 189;refine HN.out.mono ?_;rintro e w1 ⟨rfl,hb⟩;have HF1:=Lib.hid (HF.out.below hb HF.out.lt);have HB1:=Lib.hid (HB.out.trans (hb.mono HB.out.size));obtain ⟨z0,z1,z2,y0,y1,y2⟩:=HF1.out.three;clear hb)
   | (go_at_call 188;refine (HD.out _ (HT.out.below HB1.out)).mono ?_;rintro e w2 ⟨rfl,hb⟩;unfold Opd.val;have HF2:=Lib.hid (HF1.out.below hb HF1.out.lt);have HB2:=Lib.hid (HB1.out.trans (hb.mono HB1.out.size));clear z0 z1 z2 y0 y1 y2;obtain ⟨z0,z1,z2,y0,y1,y2⟩:=HF2.out.three;clear hb))
  refine bodyPost_ret (results_row1 rfl _ _ w.heap.size 90 #[.int .i64 ok,.int .i64 orr,.int .i64 on] (0,0) _ rfl (show Blk _ w.heap.size 90 #[.int .i64 ok,.int .i64 orr,.int .i64 on] from ((HF2.out.set 0 _).set 1 _).set 2 _) Tryz.underlying90 rfl (by kernel_rfl)) rfl ⟨rfl,?_⟩
  exact ((HB2.out.setCell (Nat.le_refl _) _).setCell (Nat.le_refl _) _).setCell (Nat.le_refl _) _):P:=h
theorem regist_any (bp:Nat) (x:BdrV) (c:UInt8) (y:List UInt8) (o:Opd) (w:World) (h:BK w bp x) (hx:x.ok) (hy:(Lib.fields listR)[fieldF c x.op 0 0 x.bits.data.toList]?=some y) (ho:wordF y=some o) (hyl:y.length≤1000) (hT:Spc w):
  Calls Tryz.prog 150 #[.pointer (some ⟨bp,0,none⟩),.int .u8 c.toNat] w fun e w'=>e=.returned o.val∧Below w.heap.size w w':=by
 have Ma0:=trivial
 have Mb0:=trivial
 have Mc0:=trivial
 exact tb_t1
theorem pair_any (bp:Nat) (x:BdrV) (c:UInt8) (y:List UInt8) (o:Opd) (w:World) (h:BK w bp x) (hx:x.ok) (hy:(Lib.fields listP)[fieldF c x.op 0 0 x.bits.data.toList]?=some y) (ho:wordF y=some o) (hyl:y.length≤1000) (hT:Spc w):
  Calls Tryz.prog 151 #[.pointer (some ⟨bp,0,none⟩),.int .u8 c.toNat] w fun e w'=>e=.returned o.val∧Below w.heap.size w w':=by
 have Ma1:=trivial
 have Mb1:=trivial
 have Mc1:=trivial
 exact tb_t1
theorem stack_any (bp:Nat) (x:BdrV) (c:UInt8) (y:List UInt8) (o:Opd) (w:World) (h:BK w bp x) (hx:x.ok) (hy:(Lib.fields listQ)[fieldF c x.op 0 0 x.bits.data.toList]?=some y) (ho:wordF y=some o) (hyl:y.length≤1000) (hT:Spc w):
  Calls Tryz.prog 152 #[.pointer (some ⟨bp,0,none⟩),.int .u8 c.toNat] w fun e w'=>e=.returned o.val∧Below w.heap.size w w':=tb_t1
theorem tb_t2 {P:Prop} (h:P:=by
  have hal:=(Below.refl w.heap.size w).alloc (Nat.le_refl _) (.cells #[.int .i64 0,.int .i64 0,.int .i64 0] 90)
  have HF:=Lib.hid (Blk.new w 90 #[.int .i64 0,.int .i64 0,.int .i64 0])
  have HB:=Lib.hid hal
  have HN:=Lib.hid (number_any' bp x c _ (h.below hal h.lt) hx)
  have hlt:=field_256 x hx c
  generalize fieldF c x.op 0 0 x.bits.data.toList=n at *
  have hn1:(n:Int)≤255:=by omega
  clear h hx hal hlt
  first
   | ((have _:=Ma0);(go_enter Tryz.func153,Tryz.ntmps153))
   | ((have _:=Ma1);(go_enter Tryz.func154,Tryz.ntmps154))
   | (go_enter Tryz.func155,Tryz.ntmps155)
  go_wp2_with (go_at_call 189;refine HN.out.mono ?_;rintro e w1 ⟨rfl,hb⟩;have HF1:=Lib.hid (HF.out.below hb HF.out.lt);have HB1:=Lib.hid (HB.out.trans (hb.mono HB.out.size));obtain ⟨z0,z1,z2,y0,y1,y2⟩:=HF1.out.three;clear hb)
  first
   | ((have _:=Mb0);(refine bodyPost_ret (results_row1 rfl _ _ w.heap.size 90 #[.int .i64 8,.int .i64 (n:Int),.int .i64 0] (0,0) _ rfl (show Blk _ w.heap.size 90 #[.int .i64 8,.int .i64 (n:Int),.int .i64 0] from ((HF1.out.set 0 _).set 1 _).set 2 _) Tryz.underlying90 rfl (by kernel_rfl)) rfl ⟨rfl,?_⟩))
   | ((have _:=Mb1);(refine bodyPost_ret (results_row1 rfl _ _ w.heap.size 90 #[.int .i64 6,.int .i64 0,.int .i64 (n:Int)] (0,0) _ rfl (show Blk _ w.heap.size 90 #[.int .i64 6,.int .i64 0,.int .i64 (n:Int)] from ((HF1.out.set 0 _).set 1 _).set 2 _) Tryz.underlying90 rfl (by kernel_rfl)) rfl ⟨rfl,?_⟩))
   | (refine bodyPost_ret (results_row1 rfl _ _ w.heap.size 90 #[.int .i64 6,.int .i64 0,.int .i64 (8 * (n:Int))] (0,0) _ rfl (show Blk _ w.heap.size 90 #[.int .i64 6,.int .i64 0,.int .i64 (8 * (n:Int))] from ((HF1.out.set 0 _).set 1 _).set 2 _) Tryz.underlying90 rfl (by kernel_rfl)) rfl ⟨rfl,?_⟩)
  exact ((HB1.out.setCell (Nat.le_refl _) _).setCell (Nat.le_refl _) _).setCell (Nat.le_refl _) _):P:=h
theorem condition_any (bp:Nat) (x:BdrV) (c:UInt8) (w:World) (h:BK w bp x) (hx:x.ok):
  Calls Tryz.prog 153 #[.pointer (some ⟨bp,0,none⟩),.int .u8 c.toNat] w fun e w'=>e=.returned (Opd.val ⟨8,(fieldF c x.op 0 0 x.bits.data.toList:Nat),0⟩)∧Below w.heap.size w w':=by
 have Ma0:=trivial
 have Mb0:=trivial
 exact tb_t2
theorem bit_any (bp:Nat) (x:BdrV) (c:UInt8) (w:World) (h:BK w bp x) (hx:x.ok):
  Calls Tryz.prog 154 #[.pointer (some ⟨bp,0,none⟩),.int .u8 c.toNat] w fun e w'=>e=.returned (Opd.val ⟨6,0,(fieldF c x.op 0 0 x.bits.data.toList:Nat)⟩)∧Below w.heap.size w w':=by
 have Ma1:=trivial
 have Mb1:=trivial
 exact tb_t2
theorem restart_any (bp:Nat) (x:BdrV) (c:UInt8) (w:World) (h:BK w bp x) (hx:x.ok):
  Calls Tryz.prog 155 #[.pointer (some ⟨bp,0,none⟩),.int .u8 c.toNat] w fun e w'=>e=.returned (Opd.val ⟨6,0,(8 * (fieldF c x.op 0 0 x.bits.data.toList:Nat))⟩)∧Below w.heap.size w w':=tb_t2
end Go.Proofs.YtjmekllgnhkodaaGreatDoor
namespace Go.Proofs.YtjmekllgnhkodaaGreatDoor
set_option maxHeartbeats 4000000
set_option maxRecDepth 100000
open Go.RowKit Go.Shelf
theorem run_str1 (W:World) (c:UInt8):(convert 22 9 (.slice (some ⟨W.heap.size,0,none⟩) 1 1)).run Tryz.prog (W.alloc (.cells #[.int .u8 c.toNat] 5))=.ok (.string ⟨#[c]⟩) (W.alloc (.cells #[.int .u8 c.toNat] 5)):=by
 have hb:=Blk.new W 5 #[.int .u8 c.toNat]
 exact run_string _ _ 1 [c] ⟨fun j x hx=>by
  cases j with
  | zero=>simp at hx;subst hx;exact hb.cell 0
  | succ j=>simp at hx,fun j hj=>hb.free j⟩
theorem bname_any (bp:Nat) (c:UInt8) (o:Opd) (w:World) (ho:wordF [c]=some o):
  Calls Tryz.prog 149 #[.pointer (some ⟨bp,0,none⟩),.int .u8 c.toNat] w fun e w'=>e=.returned o.val∧Below w.heap.size w w':=by
 have hal:=(Below.refl w.heap.size w).alloc (Nat.le_refl _) (.cells #[.int .i64 0,.int .i64 0,.int .i64 0] 90)
 have HF:=Lib.hid (Blk.new w 90 #[.int .i64 0,.int .i64 0,.int .i64 0])
 have HB:=Lib.hid hal
 have hal2:=hal.alloc hal.size (.cells #[.int .u8 c.toNat] 5)
 have HF0:=Lib.hid ((Blk.new w 90 #[.int .i64 0,.int .i64 0,.int .i64 0]).alloc (.cells #[.int .u8 c.toNat] 5))
 have HB0:=Lib.hid hal2
 have hcv:=run_str1 (w.alloc (.cells #[.int .i64 0,.int .i64 0,.int .i64 0] 90)) c
 rw [World.size_alloc] at hcv
 have HWD:=Lib.hid (fun W=>tword_any ⟨#[c]⟩ o W ho (by show 1≤1000;omega))
 clear ho hal hal2 HF HB
 obtain ⟨ok,orr,on⟩:=o
 go_enter Tryz.func149,Tryz.ntmps149
 go_wp2_with (go_at_call 148;go_loud (refine (HWD.out _).mono ?_);rintro e w2 ⟨rfl,hb⟩;unfold Opd.val;have HF2:=Lib.hid (HF0.out.below hb HF0.out.lt);have HB2:=Lib.hid (HB0.out.trans (hb.mono HB0.out.size));obtain ⟨z0,z1,z2,y0,y1,y2⟩:=HF2.out.three;clear hb)
 refine bodyPost_ret (results_row1 rfl _ _ w.heap.size 90 #[.int .i64 ok,.int .i64 orr,.int .i64 on] (0,0) _ rfl (show Blk _ w.heap.size 90 #[.int .i64 ok,.int .i64 orr,.int .i64 on] from ((HF2.out.set 0 _).set 1 _).set 2 _) Tryz.underlying90 rfl (by kernel_rfl)) rfl ⟨rfl,?_⟩
 exact ((HB2.out.setCell (Nat.le_refl _) _).setCell (Nat.le_refl _) _).setCell (Nat.le_refl _) _
theorem zero_any (bp:Nat) (c:UInt8) (w:World) (hc:c=48∨c=49∨c=50):
  Calls Tryz.prog 158 #[.pointer (some ⟨bp,0,none⟩),.int .u8 c.toNat] w fun e w'=>e=.returned (Opd.val ⟨6,0,(c.toNat - 48:Nat)⟩)∧Below w.heap.size w w':=by
 have hal:=(Below.refl w.heap.size w).alloc (Nat.le_refl _) (.cells #[.int .i64 0,.int .i64 0,.int .i64 0] 90)
 have HF:=Lib.hid (Blk.new w 90 #[.int .i64 0,.int .i64 0,.int .i64 0])
 have HB:=Lib.hid hal
 obtain ⟨z0,z1,z2,y0,y1,y2⟩:=HF.out.three
 clear hal
 rcases hc with rfl | rfl | rfl
 ·show Calls _ _ #[.pointer (some ⟨bp,0,none⟩),.int .u8 48] w fun e w'=>e=.returned (.agg #[.int .i64 6,.int .i64 0,.int .i64 0])∧_
  go_enter Tryz.func158,Tryz.ntmps158
  go_wp2
  refine bodyPost_ret (results_row1 rfl _ _ w.heap.size 90 #[.int .i64 6,.int .i64 0,.int .i64 0] (0,0) _ rfl (show Blk _ w.heap.size 90 #[.int .i64 6,.int .i64 0,.int .i64 0] from Blk.new w _ _) Tryz.underlying90 rfl (by kernel_rfl)) rfl ⟨rfl,?_⟩
  exact (Below.refl w.heap.size w).alloc (Nat.le_refl _) _
 ·show Calls _ _ #[.pointer (some ⟨bp,0,none⟩),.int .u8 49] w fun e w'=>e=.returned (.agg #[.int .i64 6,.int .i64 0,.int .i64 1])∧_
  go_enter Tryz.func158,Tryz.ntmps158
  go_wp2
  refine bodyPost_ret (results_row1 rfl _ _ w.heap.size 90 #[.int .i64 6,.int .i64 0,.int .i64 1] (0,0) _ rfl (show Blk _ w.heap.size 90 #[.int .i64 6,.int .i64 0,.int .i64 1] from Blk.new w _ _) Tryz.underlying90 rfl (by kernel_rfl)) rfl ⟨rfl,?_⟩
  exact (Below.refl w.heap.size w).alloc (Nat.le_refl _) _
 ·show Calls _ _ #[.pointer (some ⟨bp,0,none⟩),.int .u8 50] w fun e w'=>e=.returned (.agg #[.int .i64 6,.int .i64 0,.int .i64 2])∧_
  go_enter Tryz.func158,Tryz.ntmps158
  go_wp2
  refine bodyPost_ret (results_row1 rfl _ _ w.heap.size 90 #[.int .i64 6,.int .i64 0,.int .i64 2] (0,0) _ rfl (show Blk _ w.heap.size 90 #[.int .i64 6,.int .i64 0,.int .i64 2] from Blk.new w _ _) Tryz.underlying90 rfl (by kernel_rfl)) rfl ⟨rfl,?_⟩
  exact (Below.refl w.heap.size w).alloc (Nat.le_refl _) _
end Go.Proofs.YtjmekllgnhkodaaGreatDoor
namespace Go.Proofs.YtjmekllgnhkodaaGreatDoor
set_option maxHeartbeats 4000000
set_option maxRecDepth 100000
open Go.RowKit Go.Shelf
theorem run_strW (W:World) (g:Nat) (c:UInt8) (hb:Blk W g 5 #[.int .u8 c.toNat]):(convert 22 9 (.slice (some ⟨g,0,none⟩) 1 1)).run Tryz.prog W=.ok (.string ⟨#[c]⟩) W:=
 run_string _ _ 1 [c] ⟨fun j x hx=>by
  cases j with
  | zero=>simp at hx;subst hx;exact hb.cell 0
  | succ j=>simp at hx,fun j hj=>hb.free j⟩
theorem grown_two (w:World) (bp q:Nat) (v:Value) (o1 o2:Obj):w.grownBy (((w.setCell ⟨bp,q,none⟩ v).alloc o1).alloc o2).drew (some bp):=by
 refine ⟨rfl,rfl,rfl,?_,fun k hk hne=>?_⟩
 ·show _≤(World.alloc _ _).heap.size
  rw [World.size_alloc,World.size_alloc,World.size_setCell];omega
 ·show (World.alloc _ _).heap[k]?=_
  rw [Below.heap_alloc _ _ _ (by rw [World.size_alloc,World.size_setCell];omega),Below.heap_alloc _ _ _ (by rw [World.size_setCell];omega)]
  exact Below.heap_setCell _ _ _ _ (fun e=>hne (by rw [e]))
theorem distance_any (bp:Nat) (x:BdrV) (c:UInt8) (w:World) (h:BK w bp x) (hx:x.ok):
  Calls Tryz.prog 156 #[.pointer (some ⟨bp,0,none⟩),.int .u8 c.toNat] w fun e w'=>e=.returned (Opd.val ⟨10,0,0⟩)∧BK w' bp {x with ex:=x.ex++[c]}∧w.grownBy w' (some bp):=by
 obtain ⟨pg,op,iop,ia,ex,al,bits,rop,ra,ral⟩:=x
 have hex:=hx.ex
 simp only at hex
 have h0:Blk w bp 154 (bdr pg op iop ia ex al bits rop ra ral):=h
 have hlt:bp < w.heap.size:=h.lt
 have hne1:¬bp=w.heap.size:=Nat.ne_of_lt hlt
 have hne2:¬bp=w.heap.size+1:=by omega
 have hA:World:=w.alloc (.cells #[.int .i64 0,.int .i64 0,.int .i64 0] 90)
 have hKA:Blk (w.alloc (.cells #[.int .i64 0,.int .i64 0,.int .i64 0] 90)) bp 154 (bdr pg op iop ia ex al bits rop ra ral):=h0.alloc (.cells #[.int .i64 0,.int .i64 0,.int .i64 0] 90)
 have hKB:Blk ((w.alloc (.cells #[.int .i64 0,.int .i64 0,.int .i64 0] 90)).alloc (.cells #[.int .u8 c.toNat] 5)) bp 154 (bdr pg op iop ia ex al bits rop ra ral):=hKA.alloc (.cells #[.int .u8 c.toNat] 5)
 have hFB:Blk ((w.alloc (.cells #[.int .i64 0,.int .i64 0,.int .i64 0] 90)).alloc (.cells #[.int .u8 c.toNat] 5)) w.heap.size 90 #[.int .i64 0,.int .i64 0,.int .i64 0]:=(Blk.new w 90 #[.int .i64 0,.int .i64 0,.int .i64 0]).alloc (.cells #[.int .u8 c.toNat] 5)
 have hcb:=Blk.new (w.alloc (.cells #[.int .i64 0,.int .i64 0,.int .i64 0] 90)) 5 #[.int .u8 c.toNat]
 rw [World.size_alloc] at hcb
 have hcv1:=run_strW ((w.alloc (.cells #[.int .i64 0,.int .i64 0,.int .i64 0] 90)).alloc (.cells #[.int .u8 c.toNat] 5)).drew (w.heap.size+1) c hcb
 have hcv2:=run_strW ((w.alloc (.cells #[.int .i64 0,.int .i64 0,.int .i64 0] 90)).drew.alloc (.cells #[.int .u8 c.toNat] 5)) (w.heap.size+1) c hcb
 have a4:(w.alloc (.cells #[.int .i64 0,.int .i64 0,.int .i64 0] 90)).cell? ⟨bp,4,none⟩=some (.string ⟨ex.toArray⟩):=hKA.cell 4
 have b4:((w.alloc (.cells #[.int .i64 0,.int .i64 0,.int .i64 0] 90)).alloc (.cells #[.int .u8 c.toNat] 5)).cell? ⟨bp,4,none⟩=some (.string ⟨ex.toArray⟩):=hKB.cell 4
 have b4f:((w.alloc (.cells #[.int .i64 0,.int .i64 0,.int .i64 0] 90)).alloc (.cells #[.int .u8 c.toNat] 5)).frozen? ⟨bp,4,none⟩=false:=hKB.free 4
 have b4':((w.alloc (.cells #[.int .i64 0,.int .i64 0,.int .i64 0] 90)).drew.alloc (.cells #[.int .u8 c.toNat] 5)).cell? ⟨bp,4,none⟩=some (.string ⟨ex.toArray⟩):=hKB.cell 4
 have b4f':((w.alloc (.cells #[.int .i64 0,.int .i64 0,.int .i64 0] 90)).drew.alloc (.cells #[.int .u8 c.toNat] 5)).frozen? ⟨bp,4,none⟩=false:=hKB.free 4
 have HK0:=Lib.hid h0
 obtain ⟨exB,hexB⟩:∃b:ByteArray,b=⟨ex.toArray⟩:=⟨_,rfl⟩
 have hsz:exB.size≤100:=by rw [hexB];show ex.toArray.size≤_;rw [List.size_toArray];exact hex
 have HEX:=Lib.hid hexB
 rw [←hexB] at a4 b4 b4'
 clear h h0 hx hex hA hKA hKB hFB hcb hexB
 go_enter Tryz.func156,Tryz.ntmps156
 go_wp2
 go_region
 all_goals
  go_wp2
  have hcat:(exB++⟨#[c]⟩:ByteArray)=⟨(ex++[c]).toArray⟩:=by rw [HEX.out];apply ByteArray.ext;simp
  rw [hcat]
  have hfin:Blk ((((w.setCell ⟨bp,4,none⟩ (.string ⟨(ex++[c]).toArray⟩)).alloc (.cells #[.int .i64 10,.int .i64 0,.int .i64 0] 90)).alloc (.cells #[.int .u8 c.toNat] 5)).drew) w.heap.size 90 #[.int .i64 10,.int .i64 0,.int .i64 0]:=by
   have h1:=(Blk.new (w.setCell ⟨bp,4,none⟩ (.string ⟨(ex++[c]).toArray⟩)) 90 #[.int .i64 10,.int .i64 0,.int .i64 0]).alloc (.cells #[.int .u8 c.toNat] 5)
   rw [World.size_setCell] at h1
   exact h1
  refine bodyPost_ret (results_row1 rfl _ _ w.heap.size 90 #[.int .i64 10,.int .i64 0,.int .i64 0] (0,0) _ rfl hfin Tryz.underlying90 rfl (by kernel_rfl)) rfl ⟨rfl,?_,?_⟩
  ·exact (((HK0.out.set 4 (.string ⟨(ex++[c]).toArray⟩)).alloc (.cells #[.int .i64 10,.int .i64 0,.int .i64 0] 90)).alloc (.cells #[.int .u8 c.toNat] 5))
  ·exact grown_two w bp 4 _ _ _
theorem value_any (bp:Nat) (x:BdrV) (c:UInt8) (w:World) (h:BK w bp x) (hx:x.ok):
  Calls Tryz.prog 157 #[.pointer (some ⟨bp,0,none⟩),.int .u8 c.toNat] w fun e w'=>e=.returned (Opd.val ⟨6,0,0⟩)∧BK w' bp {x with ex:=x.ex++[c]}∧w.grownBy w' (some bp):=by
 obtain ⟨pg,op,iop,ia,ex,al,bits,rop,ra,ral⟩:=x
 have hex:=hx.ex
 simp only at hex
 have h0:Blk w bp 154 (bdr pg op iop ia ex al bits rop ra ral):=h
 have hlt:bp < w.heap.size:=h.lt
 have hne1:¬bp=w.heap.size:=Nat.ne_of_lt hlt
 have hne2:¬bp=w.heap.size+1:=by omega
 have hA:World:=w.alloc (.cells #[.int .i64 0,.int .i64 0,.int .i64 0] 90)
 have hKA:Blk (w.alloc (.cells #[.int .i64 0,.int .i64 0,.int .i64 0] 90)) bp 154 (bdr pg op iop ia ex al bits rop ra ral):=h0.alloc (.cells #[.int .i64 0,.int .i64 0,.int .i64 0] 90)
 have hKB:Blk ((w.alloc (.cells #[.int .i64 0,.int .i64 0,.int .i64 0] 90)).alloc (.cells #[.int .u8 c.toNat] 5)) bp 154 (bdr pg op iop ia ex al bits rop ra ral):=hKA.alloc (.cells #[.int .u8 c.toNat] 5)
 have hFB:Blk ((w.alloc (.cells #[.int .i64 0,.int .i64 0,.int .i64 0] 90)).alloc (.cells #[.int .u8 c.toNat] 5)) w.heap.size 90 #[.int .i64 0,.int .i64 0,.int .i64 0]:=(Blk.new w 90 #[.int .i64 0,.int .i64 0,.int .i64 0]).alloc (.cells #[.int .u8 c.toNat] 5)
 have hcb:=Blk.new (w.alloc (.cells #[.int .i64 0,.int .i64 0,.int .i64 0] 90)) 5 #[.int .u8 c.toNat]
 rw [World.size_alloc] at hcb
 have hcv1:=run_strW ((w.alloc (.cells #[.int .i64 0,.int .i64 0,.int .i64 0] 90)).alloc (.cells #[.int .u8 c.toNat] 5)).drew (w.heap.size+1) c hcb
 have hcv2:=run_strW ((w.alloc (.cells #[.int .i64 0,.int .i64 0,.int .i64 0] 90)).drew.alloc (.cells #[.int .u8 c.toNat] 5)) (w.heap.size+1) c hcb
 have a4:(w.alloc (.cells #[.int .i64 0,.int .i64 0,.int .i64 0] 90)).cell? ⟨bp,4,none⟩=some (.string ⟨ex.toArray⟩):=hKA.cell 4
 have b4:((w.alloc (.cells #[.int .i64 0,.int .i64 0,.int .i64 0] 90)).alloc (.cells #[.int .u8 c.toNat] 5)).cell? ⟨bp,4,none⟩=some (.string ⟨ex.toArray⟩):=hKB.cell 4
 have b4f:((w.alloc (.cells #[.int .i64 0,.int .i64 0,.int .i64 0] 90)).alloc (.cells #[.int .u8 c.toNat] 5)).frozen? ⟨bp,4,none⟩=false:=hKB.free 4
 have b4':((w.alloc (.cells #[.int .i64 0,.int .i64 0,.int .i64 0] 90)).drew.alloc (.cells #[.int .u8 c.toNat] 5)).cell? ⟨bp,4,none⟩=some (.string ⟨ex.toArray⟩):=hKB.cell 4
 have b4f':((w.alloc (.cells #[.int .i64 0,.int .i64 0,.int .i64 0] 90)).drew.alloc (.cells #[.int .u8 c.toNat] 5)).frozen? ⟨bp,4,none⟩=false:=hKB.free 4
 have HK0:=Lib.hid h0
 obtain ⟨exB,hexB⟩:∃b:ByteArray,b=⟨ex.toArray⟩:=⟨_,rfl⟩
 have hsz:exB.size≤100:=by rw [hexB];show ex.toArray.size≤_;rw [List.size_toArray];exact hex
 have HEX:=Lib.hid hexB
 rw [←hexB] at a4 b4 b4'
 clear h h0 hx hex hA hKA hKB hFB hcb hexB
 go_enter Tryz.func157,Tryz.ntmps157
 go_wp2
 go_region
 all_goals
  go_wp2
  have hcat:(exB++⟨#[c]⟩:ByteArray)=⟨(ex++[c]).toArray⟩:=by rw [HEX.out];apply ByteArray.ext;simp
  rw [hcat]
  have hfin:Blk ((((w.setCell ⟨bp,4,none⟩ (.string ⟨(ex++[c]).toArray⟩)).alloc (.cells #[.int .i64 6,.int .i64 0,.int .i64 0] 90)).alloc (.cells #[.int .u8 c.toNat] 5)).drew) w.heap.size 90 #[.int .i64 6,.int .i64 0,.int .i64 0]:=by
   have h1:=(Blk.new (w.setCell ⟨bp,4,none⟩ (.string ⟨(ex++[c]).toArray⟩)) 90 #[.int .i64 6,.int .i64 0,.int .i64 0]).alloc (.cells #[.int .u8 c.toNat] 5)
   rw [World.size_setCell] at h1
   exact h1
  refine bodyPost_ret (results_row1 rfl _ _ w.heap.size 90 #[.int .i64 6,.int .i64 0,.int .i64 0] (0,0) _ rfl hfin Tryz.underlying90 rfl (by kernel_rfl)) rfl ⟨rfl,?_,?_⟩
  ·exact (((HK0.out.set 4 (.string ⟨(ex++[c]).toArray⟩)).alloc (.cells #[.int .i64 6,.int .i64 0,.int .i64 0] 90)).alloc (.cells #[.int .u8 c.toNat] 5))
  ·exact grown_two w bp 4 _ _ _
end Go.Proofs.YtjmekllgnhkodaaGreatDoor
namespace Go.Proofs.YtjmekllgnhkodaaGreatDoor
set_option maxHeartbeats 4000000
set_option maxRecDepth 100000
open Go.RowKit Go.Shelf
theorem grown_of {w w1:World} (bp:Nat) (hb:Below w.heap.size w w1):w.grownBy w1 (some bp):=⟨hb.os,hb.tape,hb.output,hb.size,fun k hk _=>hb.block k hk⟩
theorem arg_fin {w w1:World} {bp:Nat} {x:BdrV} (h:BK w1 bp x) (hlt:bp < w.heap.size) (hg:(w.alloc (.cells #[.int .i64 0,.int .i64 0,.int .i64 0] 90)).grownBy w1 (some bp)):Blk w1 w.heap.size 90 #[.int .i64 0,.int .i64 0,.int .i64 0]∧∀a b c:Value,
  Blk (((w1.setCell ⟨w.heap.size,0,none⟩ a).setCell ⟨w.heap.size,1,none⟩ b).setCell ⟨w.heap.size,2,none⟩ c) w.heap.size 90 #[a,b,c]∧BK (((w1.setCell ⟨w.heap.size,0,none⟩ a).setCell ⟨w.heap.size,1,none⟩ b).setCell ⟨w.heap.size,2,none⟩ c) bp x∧w.grownBy (((w1.setCell ⟨w.heap.size,0,none⟩ a).setCell ⟨w.heap.size,1,none⟩ b).setCell ⟨w.heap.size,2,none⟩ c) (some bp):=by
 have hf:Blk w1 w.heap.size 90 #[.int .i64 0,.int .i64 0,.int .i64 0]:=(Blk.new w 90 #[.int .i64 0,.int .i64 0,.int .i64 0]).grown hg (fun e=>by injection e with e;omega)
 refine ⟨hf,fun a b c=>⟨((hf.set 0 a).set 1 b).set 2 c,?_,?_⟩⟩
 ·have hne:bp≠w.heap.size:=by omega
  exact ((h.far (p:=⟨w.heap.size,0,none⟩) hne a).far (p:=⟨w.heap.size,1,none⟩) hne b).far (p:=⟨w.heap.size,2,none⟩) hne c
 ·refine ⟨hg.os,hg.tape,hg.output,?_,fun k hk hne=>?_⟩
  ·rw [World.size_setCell,World.size_setCell,World.size_setCell]
   have:=hg.size
   rw [World.size_alloc] at this
   omega
  ·have hne2:k≠w.heap.size:=by omega
   exact (((Below.heap_setCell _ _ _ _ hne2).trans (Below.heap_setCell _ _ _ _ hne2)).trans (Below.heap_setCell _ _ _ _ hne2)).trans ((hg.block k (by rw [World.size_alloc];omega) hne).trans (Below.heap_alloc _ _ _ hk))
def ArgP (w:World) (bp:Nat) (x:BdrV) (o:Opd) (ext:List UInt8) (e:Ending) (w':World):Prop:=e=.returned o.val∧BK w' bp {x with ex:=x.ex++ext}∧w.grownBy w' (some bp)
theorem bdr_same (x:BdrV):{x with ex:=x.ex++[]}=x:=by cases x;simp
theorem tb_t3 {P:Prop} (h:P:=by
  have hlt:bp < w.heap.size:=h.lt
  have hA:=h.alloc (.cells #[.int .i64 0,.int .i64 0,.int .i64 0] 90)
  have hmf:∀(fn:Fn) (first cap:Array Value) (w:World),(Instr.makeFunc fn first cap).run Tryz.prog w=.ok (.func fn first cap) w:=fun _ _ _ _=>rfl
  have hKB:=fun (w1:World) (hb:Below (w.alloc (.cells #[.int .i64 0,.int .i64 0,.int .i64 0] 90)).heap.size (w.alloc (.cells #[.int .i64 0,.int .i64 0,.int .i64 0] 90)) w1)=>show BK w1 bp {x with ex:=x.ex++[]} from by rw [bdr_same];exact hA.below hb hA.lt
  first
   | ((have _:=Ma0);(have HM:=Lib.hid (regist_any bp x 114 y o _ hA hx hy ho hyl (hT.below ((Below.refl _ w).alloc (Nat.le_refl _) _)))))
   | ((have _:=Ma1);(have HM:=Lib.hid (regist_any bp x 115 y o _ hA hx hy ho hyl (hT.below ((Below.refl _ w).alloc (Nat.le_refl _) _)))))
   | ((have _:=Ma2);(have HM:=Lib.hid (pair_any bp x 112 y o _ hA hx hy ho hyl (hT.below ((Below.refl _ w).alloc (Nat.le_refl _) _)))))
   | (have HM:=Lib.hid (stack_any bp x 113 y o _ hA hx hy ho hyl (hT.below ((Below.refl _ w).alloc (Nat.le_refl _) _))))
  clear hT hy ho hyl
  obtain ⟨ok,orr,on⟩:=o
  clear h hx hA
  go_enter Tryz.func100,Tryz.ntmps100
  first
   | ((have _:=Mb0);(go_wp2_with (go_at_call 150;refine HM.out.mono ?_;rintro e w1 ⟨rfl,hb⟩;have HK1:=Lib.hid (hKB w1 hb);have hg:=grown_of bp hb;unfold Opd.val;obtain ⟨hf1,hfin⟩:=arg_fin HK1.out hlt hg;obtain ⟨z0,z1,z2,y0,y1,y2⟩:=hf1.three;have HFIN:=Lib.hid hfin;clear hb hg hf1 hfin)))
   | ((have _:=Mb1);(go_wp2_with (go_at_call 151;refine HM.out.mono ?_;rintro e w1 ⟨rfl,hb⟩;have HK1:=Lib.hid (hKB w1 hb);have hg:=grown_of bp hb;unfold Opd.val;obtain ⟨hf1,hfin⟩:=arg_fin HK1.out hlt hg;obtain ⟨z0,z1,z2,y0,y1,y2⟩:=hf1.three;have HFIN:=Lib.hid hfin;clear hb hg hf1 hfin)))
   | (go_wp2_with (go_at_call 152;refine HM.out.mono ?_;rintro e w1 ⟨rfl,hb⟩;have HK1:=Lib.hid (hKB w1 hb);have hg:=grown_of bp hb;unfold Opd.val;obtain ⟨hf1,hfin⟩:=arg_fin HK1.out hlt hg;obtain ⟨z0,z1,z2,y0,y1,y2⟩:=hf1.three;have HFIN:=Lib.hid hfin;clear hb hg hf1 hfin))
  obtain ⟨q1,q2,q3⟩:=HFIN.out (.int .i64 ok) (.int .i64 orr) (.int .i64 on)
  exact bodyPost_ret (results_row1 rfl _ _ w.heap.size 90 _ (0,0) _ rfl q1 Tryz.underlying90 rfl (by kernel_rfl)) rfl ⟨rfl,q2,q3⟩):P:=h
theorem arg_114 (bp:Nat) (x:BdrV) (y:List UInt8) (o:Opd) (hy:(Lib.fields listR)[fieldF 114 x.op 0 0 x.bits.data.toList]?=some y) (ho:wordF y=some o) (hyl:y.length≤1000) (w:World) (h:BK w bp x) (hx:x.ok) (hT:Spc w):
  Calls Tryz.prog 100 #[.pointer (some ⟨bp,0,none⟩),.string ⟨#[114]⟩] w (ArgP w bp x o []):=by
 have Ma0:=trivial
 have Mb0:=trivial
 exact tb_t3
theorem arg_115 (bp:Nat) (x:BdrV) (y:List UInt8) (o:Opd) (hy:(Lib.fields listR)[fieldF 115 x.op 0 0 x.bits.data.toList]?=some y) (ho:wordF y=some o) (hyl:y.length≤1000) (w:World) (h:BK w bp x) (hx:x.ok) (hT:Spc w):
  Calls Tryz.prog 100 #[.pointer (some ⟨bp,0,none⟩),.string ⟨#[115]⟩] w (ArgP w bp x o []):=by
 have Ma1:=trivial
 have Mb0:=trivial
 exact tb_t3
theorem arg_112 (bp:Nat) (x:BdrV) (y:List UInt8) (o:Opd) (hy:(Lib.fields listP)[fieldF 112 x.op 0 0 x.bits.data.toList]?=some y) (ho:wordF y=some o) (hyl:y.length≤1000) (w:World) (h:BK w bp x) (hx:x.ok) (hT:Spc w):
  Calls Tryz.prog 100 #[.pointer (some ⟨bp,0,none⟩),.string ⟨#[112]⟩] w (ArgP w bp x o []):=by
 have Ma2:=trivial
 have Mb1:=trivial
 exact tb_t3
theorem arg_113 (bp:Nat) (x:BdrV) (y:List UInt8) (o:Opd) (hy:(Lib.fields listQ)[fieldF 113 x.op 0 0 x.bits.data.toList]?=some y) (ho:wordF y=some o) (hyl:y.length≤1000) (w:World) (h:BK w bp x) (hx:x.ok) (hT:Spc w):
  Calls Tryz.prog 100 #[.pointer (some ⟨bp,0,none⟩),.string ⟨#[113]⟩] w (ArgP w bp x o []):=tb_t3
theorem tb_t4 {P:Prop} (h:P:=by
  have hlt:bp < w.heap.size:=h.lt
  have hA:=h.alloc (.cells #[.int .i64 0,.int .i64 0,.int .i64 0] 90)
  have hmf:∀(fn:Fn) (first cap:Array Value) (w:World),(Instr.makeFunc fn first cap).run Tryz.prog w=.ok (.func fn first cap) w:=fun _ _ _ _=>rfl
  have hKB:=fun (w1:World) (hb:Below (w.alloc (.cells #[.int .i64 0,.int .i64 0,.int .i64 0] 90)).heap.size (w.alloc (.cells #[.int .i64 0,.int .i64 0,.int .i64 0] 90)) w1)=>show BK w1 bp {x with ex:=x.ex++[]} from by rw [bdr_same];exact hA.below hb hA.lt
  first
   | ((have _:=Ma0);(have HM:=Lib.hid (condition_any bp x 99 _ hA hx)))
   | ((have _:=Ma1);(have HM:=Lib.hid (condition_any bp x 107 _ hA hx)))
   | ((have _:=Ma2);(have HM:=Lib.hid (bit_any bp x 98 _ hA hx)))
   | (have HM:=Lib.hid (restart_any bp x 116 _ hA hx))
  clear h hx hA
  go_enter Tryz.func100,Tryz.ntmps100
  first
   | ((have _:=Mb0);(go_wp2_with (go_at_call 153;refine HM.out.mono ?_;rintro e w1 ⟨rfl,hb⟩;have HK1:=Lib.hid (hKB w1 hb);have hg:=grown_of bp hb;unfold Opd.val;obtain ⟨hf1,hfin⟩:=arg_fin HK1.out hlt hg;obtain ⟨z0,z1,z2,y0,y1,y2⟩:=hf1.three;have HFIN:=Lib.hid hfin;clear hb hg hf1 hfin));(obtain ⟨q1,q2,q3⟩:=HFIN.out (.int .i64 8) (.int .i64 (fieldF 99 x.op 0 0 x.bits.data.toList:Nat)) (.int .i64 0)))
   | ((have _:=Mb1);(go_wp2_with (go_at_call 153;refine HM.out.mono ?_;rintro e w1 ⟨rfl,hb⟩;have HK1:=Lib.hid (hKB w1 hb);have hg:=grown_of bp hb;unfold Opd.val;obtain ⟨hf1,hfin⟩:=arg_fin HK1.out hlt hg;obtain ⟨z0,z1,z2,y0,y1,y2⟩:=hf1.three;have HFIN:=Lib.hid hfin;clear hb hg hf1 hfin));(obtain ⟨q1,q2,q3⟩:=HFIN.out (.int .i64 8) (.int .i64 (fieldF 107 x.op 0 0 x.bits.data.toList:Nat)) (.int .i64 0)))
   | ((have _:=Mb2);(go_wp2_with (go_at_call 154;refine HM.out.mono ?_;rintro e w1 ⟨rfl,hb⟩;have HK1:=Lib.hid (hKB w1 hb);have hg:=grown_of bp hb;unfold Opd.val;obtain ⟨hf1,hfin⟩:=arg_fin HK1.out hlt hg;obtain ⟨z0,z1,z2,y0,y1,y2⟩:=hf1.three;have HFIN:=Lib.hid hfin;clear hb hg hf1 hfin));(obtain ⟨q1,q2,q3⟩:=HFIN.out (.int .i64 6) (.int .i64 0) (.int .i64 (fieldF 98 x.op 0 0 x.bits.data.toList:Nat))))
   | ((go_wp2_with (go_at_call 155;refine HM.out.mono ?_;rintro e w1 ⟨rfl,hb⟩;have HK1:=Lib.hid (hKB w1 hb);have hg:=grown_of bp hb;unfold Opd.val;obtain ⟨hf1,hfin⟩:=arg_fin HK1.out hlt hg;obtain ⟨z0,z1,z2,y0,y1,y2⟩:=hf1.three;have HFIN:=Lib.hid hfin;clear hb hg hf1 hfin));(obtain ⟨q1,q2,q3⟩:=HFIN.out (.int .i64 6) (.int .i64 0) (.int .i64 (8 * (fieldF 116 x.op 0 0 x.bits.data.toList:Nat)))))
  exact bodyPost_ret (results_row1 rfl _ _ w.heap.size 90 _ (0,0) _ rfl q1 Tryz.underlying90 rfl (by kernel_rfl)) rfl ⟨rfl,q2,q3⟩):P:=h
theorem arg_99 (bp:Nat) (x:BdrV) (w:World) (h:BK w bp x) (hx:x.ok):
  Calls Tryz.prog 100 #[.pointer (some ⟨bp,0,none⟩),.string ⟨#[99]⟩] w (ArgP w bp x ⟨8,(fieldF 99 x.op 0 0 x.bits.data.toList:Nat),0⟩ []):=by
 have Ma0:=trivial
 have Mb0:=trivial
 exact tb_t4
theorem arg_107 (bp:Nat) (x:BdrV) (w:World) (h:BK w bp x) (hx:x.ok):
  Calls Tryz.prog 100 #[.pointer (some ⟨bp,0,none⟩),.string ⟨#[107]⟩] w (ArgP w bp x ⟨8,(fieldF 107 x.op 0 0 x.bits.data.toList:Nat),0⟩ []):=by
 have Ma1:=trivial
 have Mb1:=trivial
 exact tb_t4
theorem arg_98 (bp:Nat) (x:BdrV) (w:World) (h:BK w bp x) (hx:x.ok):
  Calls Tryz.prog 100 #[.pointer (some ⟨bp,0,none⟩),.string ⟨#[98]⟩] w (ArgP w bp x ⟨6,0,(fieldF 98 x.op 0 0 x.bits.data.toList:Nat)⟩ []):=by
 have Ma2:=trivial
 have Mb2:=trivial
 exact tb_t4
theorem arg_116 (bp:Nat) (x:BdrV) (w:World) (h:BK w bp x) (hx:x.ok):
  Calls Tryz.prog 100 #[.pointer (some ⟨bp,0,none⟩),.string ⟨#[116]⟩] w (ArgP w bp x ⟨6,0,(8 * (fieldF 116 x.op 0 0 x.bits.data.toList:Nat))⟩ []):=tb_t4
theorem tb_t5 {P:Prop} (h:P:=by
  have hlt:bp < w.heap.size:=h.lt
  have hA:=h.alloc (.cells #[.int .i64 0,.int .i64 0,.int .i64 0] 90)
  have hmf:∀(fn:Fn) (first cap:Array Value) (w:World),(Instr.makeFunc fn first cap).run Tryz.prog w=.ok (.func fn first cap) w:=fun _ _ _ _=>rfl
  first
   | ((have _:=Ma0);(have HM:=Lib.hid (distance_any bp x 101 _ hA hx)))
   | ((have _:=Ma1);(have HM:=Lib.hid (value_any bp x 110 _ hA hx)))
   | (have HM:=Lib.hid (value_any bp x 119 _ hA hx))
  clear h hx hA
  go_enter Tryz.func100,Tryz.ntmps100
  first
   | ((have _:=Mb0);(go_wp2_with (go_at_call 156;refine HM.out.mono ?_;rintro e w1 ⟨rfl,hk,hg⟩;have HK1:=Lib.hid hk;unfold Opd.val;obtain ⟨hf1,hfin⟩:=arg_fin HK1.out hlt hg;obtain ⟨z0,z1,z2,y0,y1,y2⟩:=hf1.three;have HFIN:=Lib.hid hfin;clear hk hg hf1 hfin));(obtain ⟨q1,q2,q3⟩:=HFIN.out (.int .i64 10) (.int .i64 0) (.int .i64 0)))
   | ((go_wp2_with (go_at_call 157;refine HM.out.mono ?_;rintro e w1 ⟨rfl,hk,hg⟩;have HK1:=Lib.hid hk;unfold Opd.val;obtain ⟨hf1,hfin⟩:=arg_fin HK1.out hlt hg;obtain ⟨z0,z1,z2,y0,y1,y2⟩:=hf1.three;have HFIN:=Lib.hid hfin;clear hk hg hf1 hfin));(obtain ⟨q1,q2,q3⟩:=HFIN.out (.int .i64 6) (.int .i64 0) (.int .i64 0)))
  exact bodyPost_ret (results_row1 rfl _ _ w.heap.size 90 _ (0,0) _ rfl q1 Tryz.underlying90 rfl (by kernel_rfl)) rfl ⟨rfl,q2,q3⟩):P:=h
theorem arg_101 (bp:Nat) (x:BdrV) (w:World) (h:BK w bp x) (hx:x.ok):
  Calls Tryz.prog 100 #[.pointer (some ⟨bp,0,none⟩),.string ⟨#[101]⟩] w (ArgP w bp x ⟨10,0,0⟩ [101]):=by
 have Ma0:=trivial
 have Mb0:=trivial
 exact tb_t5
theorem arg_110 (bp:Nat) (x:BdrV) (w:World) (h:BK w bp x) (hx:x.ok):
  Calls Tryz.prog 100 #[.pointer (some ⟨bp,0,none⟩),.string ⟨#[110]⟩] w (ArgP w bp x ⟨6,0,0⟩ [110]):=by
 have Ma1:=trivial
 exact tb_t5
theorem arg_119 (bp:Nat) (x:BdrV) (w:World) (h:BK w bp x) (hx:x.ok):
  Calls Tryz.prog 100 #[.pointer (some ⟨bp,0,none⟩),.string ⟨#[119]⟩] w (ArgP w bp x ⟨6,0,0⟩ [119]):=tb_t5
theorem tb_t6 {P:Prop} (h:P:=by
  have hlt:bp < w.heap.size:=h.lt
  have hA:=h.alloc (.cells #[.int .i64 0,.int .i64 0,.int .i64 0] 90)
  have hmf:∀(fn:Fn) (first cap:Array Value) (w:World),(Instr.makeFunc fn first cap).run Tryz.prog w=.ok (.func fn first cap) w:=fun _ _ _ _=>rfl
  have hKB:=fun (w1:World) (hb:Below (w.alloc (.cells #[.int .i64 0,.int .i64 0,.int .i64 0] 90)).heap.size (w.alloc (.cells #[.int .i64 0,.int .i64 0,.int .i64 0] 90)) w1)=>show BK w1 bp {x with ex:=x.ex++[]} from by rw [bdr_same];exact hA.below hb hA.lt
  first
   | ((have _:=Ma0);(have HM:Hid (Calls Tryz.prog 158 #[.pointer (some ⟨bp,0,none⟩),.int .u8 48] (w.alloc (.cells #[.int .i64 0,.int .i64 0,.int .i64 0] 90)) fun e w'=>e=.returned (Opd.val ⟨6,0,0⟩)∧Below (w.alloc (.cells #[.int .i64 0,.int .i64 0,.int .i64 0] 90)).heap.size (w.alloc (.cells #[.int .i64 0,.int .i64 0,.int .i64 0] 90)) w'):=zero_any bp 48 _ (by decide)))
   | ((have _:=Ma1);(have HM:Hid (Calls Tryz.prog 158 #[.pointer (some ⟨bp,0,none⟩),.int .u8 49] (w.alloc (.cells #[.int .i64 0,.int .i64 0,.int .i64 0] 90)) fun e w'=>e=.returned (Opd.val ⟨6,0,1⟩)∧Below (w.alloc (.cells #[.int .i64 0,.int .i64 0,.int .i64 0] 90)).heap.size (w.alloc (.cells #[.int .i64 0,.int .i64 0,.int .i64 0] 90)) w'):=zero_any bp 49 _ (by decide)))
   | (have HM:Hid (Calls Tryz.prog 158 #[.pointer (some ⟨bp,0,none⟩),.int .u8 50] (w.alloc (.cells #[.int .i64 0,.int .i64 0,.int .i64 0] 90)) fun e w'=>e=.returned (Opd.val ⟨6,0,2⟩)∧Below (w.alloc (.cells #[.int .i64 0,.int .i64 0,.int .i64 0] 90)).heap.size (w.alloc (.cells #[.int .i64 0,.int .i64 0,.int .i64 0] 90)) w'):=zero_any bp 50 _ (by decide))
  clear h hA
  go_enter Tryz.func100,Tryz.ntmps100
  go_wp2_with (go_at_call 158;refine HM.out.mono ?_;rintro e w1 ⟨rfl,hb⟩;have HK1:=Lib.hid (hKB w1 hb);have hg:=grown_of bp hb;unfold Opd.val;obtain ⟨hf1,hfin⟩:=arg_fin HK1.out hlt hg;obtain ⟨z0,z1,z2,y0,y1,y2⟩:=hf1.three;have HFIN:=Lib.hid hfin;clear hb hg hf1 hfin)
  first
   | ((have _:=Mb0);(obtain ⟨q1,q2,q3⟩:=HFIN.out (.int .i64 6) (.int .i64 0) (.int .i64 0)))
   | ((have _:=Mb1);(obtain ⟨q1,q2,q3⟩:=HFIN.out (.int .i64 6) (.int .i64 0) (.int .i64 1)))
   | (obtain ⟨q1,q2,q3⟩:=HFIN.out (.int .i64 6) (.int .i64 0) (.int .i64 2))
  exact bodyPost_ret (results_row1 rfl _ _ w.heap.size 90 _ (0,0) _ rfl q1 Tryz.underlying90 rfl (by kernel_rfl)) rfl ⟨rfl,q2,q3⟩):P:=h
theorem arg_48 (bp:Nat) (x:BdrV) (w:World) (h:BK w bp x):
  Calls Tryz.prog 100 #[.pointer (some ⟨bp,0,none⟩),.string ⟨#[48]⟩] w (ArgP w bp x ⟨6,0,0⟩ []):=by
 have Ma0:=trivial
 have Mb0:=trivial
 exact tb_t6
theorem arg_49 (bp:Nat) (x:BdrV) (w:World) (h:BK w bp x):
  Calls Tryz.prog 100 #[.pointer (some ⟨bp,0,none⟩),.string ⟨#[49]⟩] w (ArgP w bp x ⟨6,0,1⟩ []):=by
 have Ma1:=trivial
 have Mb1:=trivial
 exact tb_t6
theorem arg_50 (bp:Nat) (x:BdrV) (w:World) (h:BK w bp x):
  Calls Tryz.prog 100 #[.pointer (some ⟨bp,0,none⟩),.string ⟨#[50]⟩] w (ArgP w bp x ⟨6,0,2⟩ []):=tb_t6
end Go.Proofs.YtjmekllgnhkodaaGreatDoor
namespace Go.Proofs.YtjmekllgnhkodaaGreatDoor
set_option maxHeartbeats 4000000
set_option maxRecDepth 100000
open Go.RowKit Go.Shelf
theorem grown_one (w:World) (bp q:Nat) (v:Value) (o1:Obj):w.grownBy ((w.setCell ⟨bp,q,none⟩ v).alloc o1).drew (some bp):=by
 refine ⟨rfl,rfl,rfl,?_,fun k hk hne=>?_⟩
 ·show _≤(World.alloc _ _).heap.size
  rw [World.size_alloc,World.size_setCell];omega
 ·show (World.alloc _ _).heap[k]?=_
  rw [Below.heap_alloc _ _ _ (by rw [World.size_setCell];omega)]
  exact Below.heap_setCell _ _ _ _ (fun e=>hne (by rw [e]))
theorem tc_t1 {P:Prop} (h:P:=by
  have hlt:bp < w.heap.size:=h.lt
  have hA:=h.alloc (.cells #[.int .i64 0,.int .i64 0,.int .i64 0] 90)
  have hmf:∀(fn:Fn) (first cap:Array Value) (w:World),(Instr.makeFunc fn first cap).run Tryz.prog w=.ok (.func fn first cap) w:=fun _ _ _ _=>rfl
  have hKB:=fun (w1:World) (hb:Below (w.alloc (.cells #[.int .i64 0,.int .i64 0,.int .i64 0] 90)).heap.size (w.alloc (.cells #[.int .i64 0,.int .i64 0,.int .i64 0] 90)) w1)=>show BK w1 bp {x with ex:=x.ex++[]} from by rw [bdr_same];exact hA.below hb hA.lt
  first
   | ((have _:=Ma0);(have HM:=Lib.hid (bname_any bp 65 o (w.alloc (.cells #[.int .i64 0,.int .i64 0,.int .i64 0] 90)) ho)))
   | ((have _:=Ma1);(have HM:=Lib.hid (bname_any bp 73 o (w.alloc (.cells #[.int .i64 0,.int .i64 0,.int .i64 0] 90)) ho)))
   | (have HM:=Lib.hid (bname_any bp 82 o (w.alloc (.cells #[.int .i64 0,.int .i64 0,.int .i64 0] 90)) ho))
  clear ho
  obtain ⟨ok,orr,on⟩:=o
  clear h hA
  go_enter Tryz.func100,Tryz.ntmps100
  go_wp2_with (go_at_call 149;refine HM.out.mono ?_;rintro e w1 ⟨rfl,hb⟩;have HK1:=Lib.hid (hKB w1 hb);have hg:=grown_of bp hb;unfold Opd.val;obtain ⟨hf1,hfin⟩:=arg_fin HK1.out hlt hg;obtain ⟨z0,z1,z2,y0,y1,y2⟩:=hf1.three;have HFIN:=Lib.hid hfin;clear hb hg hf1 hfin)
  obtain ⟨q1,q2,q3⟩:=HFIN.out (.int .i64 ok) (.int .i64 orr) (.int .i64 on)
  exact bodyPost_ret (results_row1 rfl _ _ w.heap.size 90 _ (0,0) _ rfl q1 Tryz.underlying90 rfl (by kernel_rfl)) rfl ⟨rfl,q2,q3⟩):P:=h
theorem arg_65 (bp:Nat) (x:BdrV) (o:Opd) (ho:wordF [65]=some o) (w:World) (h:BK w bp x):
  Calls Tryz.prog 100 #[.pointer (some ⟨bp,0,none⟩),.string ⟨#[65]⟩] w (ArgP w bp x o []):=by
 have Ma0:=trivial
 exact tc_t1
theorem arg_73 (bp:Nat) (x:BdrV) (o:Opd) (ho:wordF [73]=some o) (w:World) (h:BK w bp x):
  Calls Tryz.prog 100 #[.pointer (some ⟨bp,0,none⟩),.string ⟨#[73]⟩] w (ArgP w bp x o []):=by
 have Ma1:=trivial
 exact tc_t1
theorem arg_82 (bp:Nat) (x:BdrV) (o:Opd) (ho:wordF [82]=some o) (w:World) (h:BK w bp x):
  Calls Tryz.prog 100 #[.pointer (some ⟨bp,0,none⟩),.string ⟨#[82]⟩] w (ArgP w bp x o []):=tc_t1
theorem arg_long (bp:Nat) (x:BdrV) (s:ByteArray) (o:Opd) (ho:wordF s.data.toList=some o) (hs:s.size≤1000) (h1:1 < s.size) (hn:s.data.toList≠[40,110,41]) (hw:s.data.toList≠[40,119,41]) (w:World) (h:BK w bp x):
  Calls Tryz.prog 100 #[.pointer (some ⟨bp,0,none⟩),.string s] w (ArgP w bp x o []):=by
 have hlt:bp < w.heap.size:=h.lt
 have hA:=h.alloc (.cells #[.int .i64 0,.int .i64 0,.int .i64 0] 90)
 have hmf:∀(fn:Fn) (first cap:Array Value) (w:World),(Instr.makeFunc fn first cap).run Tryz.prog w=.ok (.func fn first cap) w:=fun _ _ _ _=>rfl
 have hKB:=fun (w1:World) (hb:Below (w.alloc (.cells #[.int .i64 0,.int .i64 0,.int .i64 0] 90)).heap.size (w.alloc (.cells #[.int .i64 0,.int .i64 0,.int .i64 0] 90)) w1)=>show BK w1 bp {x with ex:=x.ex++[]} from by rw [bdr_same];exact hA.below hb hA.lt
 have HM:=Lib.hid (tword_any s o (w.alloc (.cells #[.int .i64 0,.int .i64 0,.int .i64 0] 90)) ho hs)
 have hs1:(s.size:Int)≤1000:=by omega
 have hs2:(1:Int) < (s.size:Int):=by omega
 have e1:(s.toList==[40,110,41])=false:=by rw [Go.ByteArray.toList_eq,beq_eq_false_iff_ne];exact hn
 have e2:(s.toList==[40,119,41])=false:=by rw [Go.ByteArray.toList_eq,beq_eq_false_iff_ne];exact hw
 clear ho hn hw
 obtain ⟨ok,orr,on⟩:=o
 clear h hA
 go_enter Tryz.func100,Tryz.ntmps100
 go_wp2_with (go_at_call 148;refine HM.out.mono ?_;rintro e w1 ⟨rfl,hb⟩;have HK1:=Lib.hid (hKB w1 hb);have hg:=grown_of bp hb;unfold Opd.val;obtain ⟨hf1,hfin⟩:=arg_fin HK1.out hlt hg;obtain ⟨z0,z1,z2,y0,y1,y2⟩:=hf1.three;have HFIN:=Lib.hid hfin;clear hb hg hf1 hfin)
 obtain ⟨q1,q2,q3⟩:=HFIN.out (.int .i64 ok) (.int .i64 orr) (.int .i64 on)
 exact bodyPost_ret (results_row1 rfl _ _ w.heap.size 90 _ (0,0) _ rfl q1 Tryz.underlying90 rfl (by kernel_rfl)) rfl ⟨rfl,q2,q3⟩
theorem arg_mem110 (bp:Nat) (x:BdrV) (w:World) (h:BK w bp x) (hx:x.ok):
  Calls Tryz.prog 100 #[.pointer (some ⟨bp,0,none⟩),.string ⟨#[40,110,41]⟩] w (ArgP w bp x ⟨7,0,0⟩ [110]):=by
 obtain ⟨pg,op,iop,ia,ex,al,bits,rop,ra,ral⟩:=x
 have hex:=hx.ex
 simp only at hex
 have h0:Blk w bp 154 (bdr pg op iop ia ex al bits rop ra ral):=h
 have hlt:bp < w.heap.size:=h.lt
 have hne1:¬bp=w.heap.size:=Nat.ne_of_lt hlt
 have hsl:∀W:World,(Instr.sliceAt 9 (.string ⟨#[40,110,41]⟩) (some (.int .i64 1)) (some (.int .i64 2)) none).run Tryz.prog W=.ok (.string ⟨#[110]⟩) W:=fun W=>by kernel_rfl
 have a4:(w.alloc (.cells #[.int .i64 0,.int .i64 0,.int .i64 0] 90)).cell? ⟨bp,4,none⟩=some (.string ⟨ex.toArray⟩):=(h0.alloc (.cells #[.int .i64 0,.int .i64 0,.int .i64 0] 90)).cell 4
 have a4f:(w.alloc (.cells #[.int .i64 0,.int .i64 0,.int .i64 0] 90)).frozen? ⟨bp,4,none⟩=false:=(h0.alloc (.cells #[.int .i64 0,.int .i64 0,.int .i64 0] 90)).free 4
 have HK0:=Lib.hid h0
 obtain ⟨exB,hexB⟩:∃b:ByteArray,b=⟨ex.toArray⟩:=⟨_,rfl⟩
 have hsz:exB.size≤100:=by rw [hexB];show ex.toArray.size≤_;rw [List.size_toArray];exact hex
 have HEX:=Lib.hid hexB
 rw [←hexB] at a4
 clear h h0 hx hex hexB
 go_enter Tryz.func100,Tryz.ntmps100
 go_upto_region 2 with fail
 go_region
 all_goals
  go_wp2
  have hcat:(exB++⟨#[110]⟩:ByteArray)=⟨(ex++[110]).toArray⟩:=by rw [HEX.out];apply ByteArray.ext;simp
  rw [hcat]
  have hfin:Blk ((w.setCell ⟨bp,4,none⟩ (.string ⟨(ex++[110]).toArray⟩)).alloc (.cells #[.int .i64 7,.int .i64 0,.int .i64 0] 90)).drew w.heap.size 90 #[.int .i64 7,.int .i64 0,.int .i64 0]:=by
   have h1:=Blk.new (w.setCell ⟨bp,4,none⟩ (.string ⟨(ex++[110]).toArray⟩)) 90 #[.int .i64 7,.int .i64 0,.int .i64 0]
   rw [World.size_setCell] at h1
   exact h1
  refine bodyPost_ret (results_row1 rfl _ _ w.heap.size 90 #[.int .i64 7,.int .i64 0,.int .i64 0] (0,0) _ rfl hfin Tryz.underlying90 rfl (by kernel_rfl)) rfl ⟨rfl,?_,?_⟩
  ·exact (HK0.out.set 4 (.string ⟨(ex++[110]).toArray⟩)).alloc (.cells #[.int .i64 7,.int .i64 0,.int .i64 0] 90)
  ·exact grown_one w bp 4 _ _
theorem arg_mem119 (bp:Nat) (x:BdrV) (w:World) (h:BK w bp x) (hx:x.ok):
  Calls Tryz.prog 100 #[.pointer (some ⟨bp,0,none⟩),.string ⟨#[40,119,41]⟩] w (ArgP w bp x ⟨7,0,0⟩ [119]):=by
 obtain ⟨pg,op,iop,ia,ex,al,bits,rop,ra,ral⟩:=x
 have hex:=hx.ex
 simp only at hex
 have h0:Blk w bp 154 (bdr pg op iop ia ex al bits rop ra ral):=h
 have hlt:bp < w.heap.size:=h.lt
 have hne1:¬bp=w.heap.size:=Nat.ne_of_lt hlt
 have hsl:∀W:World,(Instr.sliceAt 9 (.string ⟨#[40,119,41]⟩) (some (.int .i64 1)) (some (.int .i64 2)) none).run Tryz.prog W=.ok (.string ⟨#[119]⟩) W:=fun W=>by kernel_rfl
 have a4:(w.alloc (.cells #[.int .i64 0,.int .i64 0,.int .i64 0] 90)).cell? ⟨bp,4,none⟩=some (.string ⟨ex.toArray⟩):=(h0.alloc (.cells #[.int .i64 0,.int .i64 0,.int .i64 0] 90)).cell 4
 have a4f:(w.alloc (.cells #[.int .i64 0,.int .i64 0,.int .i64 0] 90)).frozen? ⟨bp,4,none⟩=false:=(h0.alloc (.cells #[.int .i64 0,.int .i64 0,.int .i64 0] 90)).free 4
 have HK0:=Lib.hid h0
 obtain ⟨exB,hexB⟩:∃b:ByteArray,b=⟨ex.toArray⟩:=⟨_,rfl⟩
 have hsz:exB.size≤100:=by rw [hexB];show ex.toArray.size≤_;rw [List.size_toArray];exact hex
 have HEX:=Lib.hid hexB
 rw [←hexB] at a4
 clear h h0 hx hex hexB
 go_enter Tryz.func100,Tryz.ntmps100
 go_upto_region 2 with fail
 go_region
 all_goals
  go_wp2
  have hcat:(exB++⟨#[119]⟩:ByteArray)=⟨(ex++[119]).toArray⟩:=by rw [HEX.out];apply ByteArray.ext;simp
  rw [hcat]
  have hfin:Blk ((w.setCell ⟨bp,4,none⟩ (.string ⟨(ex++[119]).toArray⟩)).alloc (.cells #[.int .i64 7,.int .i64 0,.int .i64 0] 90)).drew w.heap.size 90 #[.int .i64 7,.int .i64 0,.int .i64 0]:=by
   have h1:=Blk.new (w.setCell ⟨bp,4,none⟩ (.string ⟨(ex++[119]).toArray⟩)) 90 #[.int .i64 7,.int .i64 0,.int .i64 0]
   rw [World.size_setCell] at h1
   exact h1
  refine bodyPost_ret (results_row1 rfl _ _ w.heap.size 90 #[.int .i64 7,.int .i64 0,.int .i64 0] (0,0) _ rfl hfin Tryz.underlying90 rfl (by kernel_rfl)) rfl ⟨rfl,?_,?_⟩
  ·exact (HK0.out.set 4 (.string ⟨(ex++[119]).toArray⟩)).alloc (.cells #[.int .i64 7,.int .i64 0,.int .i64 0] 90)
  ·exact grown_one w bp 4 _ _
end Go.Proofs.YtjmekllgnhkodaaGreatDoor
namespace Go.Proofs.YtjmekllgnhkodaaGreatDoor
set_option maxHeartbeats 4000000
set_option maxRecDepth 100000
open Go.RowKit Go.Shelf
theorem Index44 (x:ByteArray) (w:World):Calls Tryz.prog 122 #[.string x,.string ⟨#[44]⟩] w fun e w'=>e=.returned (.int .i64 (Lib.indexB x ⟨#[44]⟩))∧w'=w:=
 (Any.strings_Index_one (ρ:=Tryz.lays146_ren) {Tryz.lays146 with} x 44 w).mono fun e w' ⟨h1,h2⟩=>⟨by rw [h1,←Lib.index_one],h2⟩
theorem Count44 (x:ByteArray) (w:World):Calls Tryz.prog 76 #[.string x,.string ⟨#[44]⟩] w fun e w'=>e=.returned (.int .i64 (Lib.countB x ⟨#[44]⟩))∧w'=w:=
 (Tryz.strings_Count_one x 44 w).mono fun e w' ⟨h1,h2⟩=>⟨by rw [h1];exact ret_int (by show ((List.count _ _:Nat):Int)=_;rw [←Lib.count_one]),h2⟩
theorem Split44 (s:ByteArray) (w:World) (hs:s.size < 4294967281):
  Calls Tryz.prog 147 #[.string s,.string ⟨#[44]⟩] w fun e w'=>∃L:List ByteArray,L.map (·.data.toList)=Lib.split s.data.toList [44]∧e=.returned (.slice (some ⟨w.heap.size,0,none⟩) L.length L.length)∧w'=w.alloc (.cells (L.map Value.string).toArray 9):=by
 have hle:=Lib.countB_le ⟨#[44]⟩ (by decide) s.size s (Nat.le_refl _)
 have hlen:=Lib.splitB_all ⟨#[44]⟩ (by decide) 0 _ s rfl
 have c:=Any.strings_genSplit_core (ρ:=Tryz.lays146_ren) {Tryz.lays146 with} (by kernel_rfl) s ⟨#[44]⟩ 0 (-1) (Lib.countB s ⟨#[44]⟩+1) w hs (by decide) (Nat.zero_le _) (fun x _ _=>Index44 x _) (Count44 s w) (by decide) (by decide) (by rw [if_pos (by decide)];omega)
 rw [Nat.add_sub_cancel,hlen] at c
 have e2:Lib.cellsOf (Lib.splitB ⟨#[44]⟩ 0 (Lib.countB s ⟨#[44]⟩) s) (Lib.countB s ⟨#[44]⟩+1)=((Lib.splitB ⟨#[44]⟩ 0 (Lib.countB s ⟨#[44]⟩) s).map Value.string).toArray:=by rw [←hlen];exact Lib.cellsOf_full _
 rw [e2] at c
 have HD:Hid ((Lib.splitB ⟨#[44]⟩ 0 (Lib.countB s ⟨#[44]⟩) s).map (·.data.toList)=Lib.split s.data.toList [44]):=by
  show _=_
  rw [Lib.splitB_data];rfl
 generalize Lib.splitB ⟨#[44]⟩ 0 (Lib.countB s ⟨#[44]⟩) s=L at *
 have HL:=Lib.hid hlen
 have HC:=Lib.hid c
 clear hle hlen e2 c
 generalize Lib.countB s ⟨#[44]⟩=n at *
 go_enter Tryz.func147,Tryz.ntmps147
 go_wp2_with (go_at_call 184;refine HC.out.mono ?_;rintro e w' ⟨rfl,hw⟩;have HW:=Lib.hid hw;clear hw)
 go_ret
 exact ⟨L,HD.out,by rw [HL.out];rfl,HW.out⟩
theorem Fields_words (s:ByteArray) (F:List (List UInt8)) (w:World) (hF:Lib.fields s.data.toList=F) (hs:s.size≤1000) (ha:∀b∈s.data.toList,b.toNat < 128) (hT:Spc w):
  Calls Tryz.prog 146 #[.string s] w fun e w'=>∃g:Nat,e=.returned (.slice (some ⟨g,0,none⟩) F.length F.length)∧Blk w' g 9 (F.map fun l=>Value.string ⟨l.toArray⟩).toArray∧Below w.heap.size w w':=
 (Tryz.strings_Fields s w (by omega) (fun j b hb=>ha b (List.mem_of_getElem? hb)) hT).mono fun e w' ⟨h1,h2⟩=>by
  rw [hF] at h1 h2
  subst h2
  exact ⟨_,h1,Blk.new _ _ _,(Below.refl _ w).alloc (Nat.le_refl _) _⟩
end Go.Proofs.YtjmekllgnhkodaaGreatDoor
namespace Go.Proofs.YtjmekllgnhkodaaGreatDoor
set_option maxHeartbeats 4000000
set_option maxRecDepth 100000
open Go.RowKit Go.Shelf
theorem Blk.drew' {w:World} {g:Nat} {t:TypeId} {cs:Array Value} (h:Blk w g t cs):Blk w.drew g t cs:=h
theorem four_cells {w:World} {g:Nat} {t:TypeId} {a b c d:Value} (h:Blk w g t #[a,b,c,d]):w.cell? ⟨g,0,none⟩=some a∧w.cell? ⟨g,1,none⟩=some b∧w.cell? ⟨g,2,none⟩=some c∧w.cell? ⟨g,3,none⟩=some d:=⟨h.cell 0,h.cell 1,h.cell 2,h.cell 3⟩
theorem four_free {w:World} {g:Nat} {t:TypeId} {a b c d:Value} (h:Blk w g t #[a,b,c,d]):w.frozen? ⟨g,0,none⟩=false∧w.frozen? ⟨g,1,none⟩=false∧w.frozen? ⟨g,2,none⟩=false∧w.frozen? ⟨g,3,none⟩=false:=⟨h.free 0,h.free 1,h.free 2,h.free 3⟩
theorem slR_strs' (w:World) (L:List ByteArray) (hm:L.length≤1000000):SlR strR (w.alloc (.cells (L.map Value.string).toArray 9)) (fun k=>k=w.heap.size) (.slice (some ⟨w.heap.size,0,none⟩) L.length L.length) L:=by
 refine ⟨_,_,rfl,Nat.le_refl _,by unfold maxLen;omega,fun i x hx=>⟨w.heap.size,0,[.string x],rfl,rfl,by rw [World.size_alloc];omega,?_,rfl⟩⟩
 have hb:=Blk.new w 9 (L.map Value.string).toArray
 refine Cells.one ?_
 unfold World.cell?
 rw [show (w.alloc (.cells (L.map Value.string).toArray 9)).heap[w.heap.size]?=_ from hb]
 show (L.map Value.string).toArray[0+i * 1]?=_
 rw [List.getElem?_toArray,List.getElem?_map,Nat.zero_add,Nat.mul_one,hx];rfl
theorem parse_3 (s:ByteArray) (b o a:List UInt8) (ho:o≠[42]) (ha:a≠[42]) (w:World) (hF:Lib.fields s.data.toList=[b,o,a]) (hs:s.size≤1000) (hasc:∀b∈s.data.toList,b.toNat < 128) (hal:a.length≤1000) (hsl:(Lib.split a [44]).length≤1000) (hT:Spc w):
  Calls Tryz.prog 99 #[.string s] w fun e w'=>∃v LS,e=.returned (.agg #[.string ⟨b.toArray⟩,.string ⟨o.toArray⟩,v,.bool false])∧SlR strR w' (fun k=>w.heap.size≤k) v LS∧LS.map (·.data.toList)=Lib.split a [44]∧Below w.heap.size w w':=by
 have hal0:=(Below.refl w.heap.size w).alloc (Nat.le_refl _) (.cells #[.string ⟨#[]⟩,.string ⟨#[]⟩,.slice none 0 0,.bool false] 150)
 have HFW:=Lib.hid (Fields_words s _ (w.alloc (.cells #[.string ⟨#[]⟩,.string ⟨#[]⟩,.slice none 0 0,.bool false] 150)) hF hs hasc (hT.below hal0))
 have HFX:Hid (Calls Tryz.prog 146 #[.string s] (w.alloc (.cells #[.string ⟨#[]⟩,.string ⟨#[]⟩,.slice none 0 0,.bool false] 150)) fun e w'=>∃g:Nat,e=.returned (.slice (some ⟨g,0,none⟩) 3 3)∧g < w'.heap.size∧w'.cell? ⟨g,0,none⟩=some (.string ⟨b.toArray⟩)∧w'.cell? ⟨g,1,none⟩=some (.string ⟨o.toArray⟩)∧w'.cell? ⟨g,2,none⟩=some (.string ⟨a.toArray⟩)∧Below (w.alloc (.cells #[.string ⟨#[]⟩,.string ⟨#[]⟩,.slice none 0 0,.bool false] 150)).heap.size (w.alloc (.cells #[.string ⟨#[]⟩,.string ⟨#[]⟩,.slice none 0 0,.bool false] 150)) w'):=HFW.out.mono fun e w' ⟨g,h1,h2,h3⟩=>⟨g,h1,h2.lt,h2.cell 0,h2.cell 1,h2.cell 2,h3⟩
 clear HFW
 have HF0:=Lib.hid (Blk.new w 150 #[.string ⟨#[]⟩,.string ⟨#[]⟩,.slice none 0 0,.bool false])
 have HB0:=Lib.hid hal0
 have eo:(⟨o.toArray⟩:ByteArray).toList=o:=toList_mk o
 have no:((⟨o.toArray⟩:ByteArray).toList==[42])=false:=by rw [eo,beq_eq_false_iff_ne];exact ho
 have ea:(⟨a.toArray⟩:ByteArray).toList=a:=toList_mk a
 have na:((⟨a.toArray⟩:ByteArray).toList==[42])=false:=by rw [ea,beq_eq_false_iff_ne];exact ha
 have HSP:=Lib.hid (fun W=>Split44 ⟨a.toArray⟩ W (by show a.toArray.size < _;rw [List.size_toArray];omega))
 rw [show (⟨a.toArray⟩:ByteArray).data.toList=a by simp] at HSP
 have HLSZ:Hid (∀LS:List ByteArray,LS.map (·.data.toList)=Lib.split a [44]→LS.length≤1000000):=fun LS h=>by have h2:=congrArg List.length h;rw [List.length_map] at h2;omega
 clear hF hs hasc hT hal0 ho eo ha ea hal hsl
 generalize (⟨b.toArray⟩:ByteArray)=B at *
 generalize (⟨o.toArray⟩:ByteArray)=O at *
 generalize (⟨a.toArray⟩:ByteArray)=A at *
 have hwr:IntKind.i64.wrap ((3:Int) - 1)=2:=by decide
 have hwr2:IntKind.i64.wrap (2:Int)=2:=by decide
 go_enter Tryz.func99,Tryz.ntmps99
 go_upto_region 2 with (go_at_call 146;refine HFX.out.mono ?_;rintro e w1 ⟨g,rfl,hgl,d0,d1,d2,hb⟩;have HF1:=Lib.hid (HF0.out.below hb HF0.out.lt);have HB1:=Lib.hid (HB0.out.trans (hb.mono HB0.out.size));have HBK:=Lib.hid hgl;clear hgl hb)
 go_region_held3 (fun w'=>w'.cell? ⟨g,0,none⟩=some (.string B)∧w'.cell? ⟨g,1,none⟩=some (.string O)∧w'.cell? ⟨g,2,none⟩=some (.string A)) (go_keep) (fail)
 all_goals
  have hR:=Blk.new w1 150 #[.string B,.string O,.slice none 0 0,.bool false]
  have hal2:=(Below.refl w1.heap.size w1).alloc (Nat.le_refl _) (.cells #[.string B,.string O,.slice none 0 0,.bool false] 150)
  have HF2:=Lib.hid (HF1.out.below hal2 HF1.out.lt).drew'
  have HB2:=Lib.hid (HB1.out.trans (hal2.mono HB1.out.size)).drew
  have HR:=Lib.hid hR.drew'
  have hfl:¬w.heap.size=w1.heap.size:=Nat.ne_of_lt HF1.out.lt
  have hgd:∀j,(w1.alloc (.cells #[.string B,.string O,.slice none 0 0,.bool false] 150)).drew.cell? ⟨g,j,none⟩=w1.cell? ⟨g,j,none⟩:=fun j=>World.cell?_alloc_old _ _ _ (Nat.ne_of_lt HBK.out)
  have k2:=(hgd 2).trans d2
  clear hR hal2
  generalize (w1.alloc (.cells #[.string B,.string O,.slice none 0 0,.bool false] 150)).drew=wR at *
  have HRB:Hid (w.heap.size≤w1.heap.size):=HB1.out.size
  generalize w1.heap.size=rb at *
  obtain ⟨r0,r1,r2,r3⟩:=four_cells HR.out
  obtain ⟨s0,s1,s2,s3⟩:=four_free HR.out
  clear hgd
  go_wp2_with (go_at_call 147;refine (HSP.out _).mono ?_;rintro e w3 ⟨LS,hLS,rfl,hw3⟩;have hal3:=(Below.refl wR.heap.size wR).alloc (Nat.le_refl _) (.cells (LS.map Value.string).toArray 9);rw [←hw3] at hal3;have HR3:=Lib.hid (HR.out.below hal3 HR.out.lt);have HF3:=Lib.hid (HF2.out.below hal3 HF2.out.lt);have HB3:=Lib.hid (HB2.out.trans (hal3.mono HB2.out.size));have HL3:Hid (SlR strR w3 (fun k=>k=wR.heap.size) (.slice (some ⟨wR.heap.size,0,none⟩) LS.length LS.length) LS):=(by show SlR _ _ _ _ _;rw [hw3];exact slR_strs' wR LS (HLSZ.out LS hLS));have HLS:=Lib.hid hLS;obtain ⟨t0,t1,t2,t3⟩:=four_cells HR3.out;obtain ⟨u0,u1,u2,u3⟩:=four_free HR3.out;obtain ⟨v0,v1,v2,v3⟩:=four_cells HF3.out;obtain ⟨y0,y1,y2,y3⟩:=four_free HF3.out;have HSZ:=Lib.hid HB2.out.size;clear hal3 hw3 hLS)
  have hlg:∀k,k=wR.heap.size→k≠w.heap.size:=fun k hk e=>by have:=HF2.out.lt;omega
  have hlr:∀k,k=wR.heap.size→k≠rb:=fun k hk e=>by have:=HR.out.lt;omega
  refine bodyPost_ret (results_row1 rfl _ _ w.heap.size 150 #[.string B,.string O,.slice (some ⟨wR.heap.size,0,none⟩) LS.length LS.length,.bool false] (0,0) _ rfl (show Blk _ w.heap.size 150 #[.string B,.string O,.slice (some ⟨wR.heap.size,0,none⟩) LS.length LS.length,.bool false] from ((((HF3.out.far (p:=⟨rb,2,none⟩) hfl (.slice (some ⟨wR.heap.size,0,none⟩) LS.length LS.length)).set 0 _).set 1 _).set 2 _).set 3 _) Tryz.underlying150 rfl (by kernel_rfl)) rfl ⟨_,LS,rfl,?_,HLS.out,?_⟩
  ·refine (HL3.out.keep ?_).mono (fun k hk=>by rw [hk];exact HSZ.out)
   exact ((((Keep.setCell hlr _).trans (Keep.setCell hlg _)).trans (Keep.setCell hlg _)).trans (Keep.setCell hlg _)).trans (Keep.setCell hlg _)
  ·exact ((((HB3.out.setCell HRB.out _).setCell (Nat.le_refl _) _).setCell (Nat.le_refl _) _).setCell (Nat.le_refl _) _).setCell (Nat.le_refl _) _
theorem parse_2 (s:ByteArray) (b o:List UInt8) (ho:o≠[42]) (w:World) (hF:Lib.fields s.data.toList=[b,o]) (hs:s.size≤1000) (hasc:∀b∈s.data.toList,b.toNat < 128) (hT:Spc w):
  Calls Tryz.prog 99 #[.string s] w fun e w'=>∃v LS,e=.returned (.agg #[.string ⟨b.toArray⟩,.string ⟨o.toArray⟩,v,.bool false])∧SlR strR w' (fun k=>w.heap.size≤k) v LS∧LS.map (·.data.toList)=[]∧Below w.heap.size w w':=by
 have hal0:=(Below.refl w.heap.size w).alloc (Nat.le_refl _) (.cells #[.string ⟨#[]⟩,.string ⟨#[]⟩,.slice none 0 0,.bool false] 150)
 have HFW:=Lib.hid (Fields_words s _ (w.alloc (.cells #[.string ⟨#[]⟩,.string ⟨#[]⟩,.slice none 0 0,.bool false] 150)) hF hs hasc (hT.below hal0))
 have HFX:Hid (Calls Tryz.prog 146 #[.string s] (w.alloc (.cells #[.string ⟨#[]⟩,.string ⟨#[]⟩,.slice none 0 0,.bool false] 150)) fun e w'=>∃g:Nat,e=.returned (.slice (some ⟨g,0,none⟩) 2 2)∧g < w'.heap.size∧w'.cell? ⟨g,0,none⟩=some (.string ⟨b.toArray⟩)∧w'.cell? ⟨g,1,none⟩=some (.string ⟨o.toArray⟩)∧Below (w.alloc (.cells #[.string ⟨#[]⟩,.string ⟨#[]⟩,.slice none 0 0,.bool false] 150)).heap.size (w.alloc (.cells #[.string ⟨#[]⟩,.string ⟨#[]⟩,.slice none 0 0,.bool false] 150)) w'):=HFW.out.mono fun e w' ⟨g,h1,h2,h3⟩=>⟨g,h1,h2.lt,h2.cell 0,h2.cell 1,h3⟩
 clear HFW
 have HF0:=Lib.hid (Blk.new w 150 #[.string ⟨#[]⟩,.string ⟨#[]⟩,.slice none 0 0,.bool false])
 have HB0:=Lib.hid hal0
 have eo:(⟨o.toArray⟩:ByteArray).toList=o:=toList_mk o
 have no:((⟨o.toArray⟩:ByteArray).toList==[42])=false:=by rw [eo,beq_eq_false_iff_ne];exact ho
 clear hF hs hasc hT hal0 ho eo
 generalize (⟨b.toArray⟩:ByteArray)=B at *
 generalize (⟨o.toArray⟩:ByteArray)=O at *
 have hwr:IntKind.i64.wrap ((2:Int) - 1)=1:=by decide
 have hwr2:IntKind.i64.wrap (1:Int)=1:=by decide
 go_enter Tryz.func99,Tryz.ntmps99
 go_upto_region 2 with (go_at_call 146;refine HFX.out.mono ?_;rintro e w1 ⟨g,rfl,hgl,d0,d1,hb⟩;have HF1:=Lib.hid (HF0.out.below hb HF0.out.lt);have HB1:=Lib.hid (HB0.out.trans (hb.mono HB0.out.size));have HBK:=Lib.hid hgl;clear hgl hb)
 go_region_held3 (fun w'=>w'.cell? ⟨g,0,none⟩=some (.string B)∧w'.cell? ⟨g,1,none⟩=some (.string O)) (go_keep) (fail)
 all_goals
  have hal2:=(Below.refl w1.heap.size w1).alloc (Nat.le_refl _) (.cells #[.string B,.string O,.slice none 0 0,.bool false] 150)
  have hR:=Blk.new w1 150 #[.string B,.string O,.slice none 0 0,.bool false]
  have HR:=Lib.hid hR.drew'
  have HF2:=Lib.hid (HF1.out.below hal2 HF1.out.lt).drew'
  have HB2:=Lib.hid (HB1.out.trans (hal2.mono HB1.out.size)).drew
  have hfl:¬w.heap.size=w1.heap.size:=Nat.ne_of_lt HF1.out.lt
  have hgd:∀j,(w1.alloc (.cells #[.string B,.string O,.slice none 0 0,.bool false] 150)).drew.cell? ⟨g,j,none⟩=w1.cell? ⟨g,j,none⟩:=fun j=>World.cell?_alloc_old _ _ _ (Nat.ne_of_lt HBK.out)
  have _:=hgd
  clear hR hal2
  generalize (w1.alloc (.cells #[.string B,.string O,.slice none 0 0,.bool false] 150)).drew=wR at *
  generalize w1.heap.size=rb at *
  obtain ⟨r0,r1,r2,r3⟩:=four_cells HR.out
  obtain ⟨v0,v1,v2,v3⟩:=four_cells HF2.out
  obtain ⟨y0,y1,y2,y3⟩:=four_free HF2.out
  clear hgd
  go_wp2
  refine bodyPost_ret (results_row1 rfl _ _ w.heap.size 150 #[.string B,.string O,.slice none 0 0,.bool false] (0,0) _ rfl (show Blk _ w.heap.size 150 #[.string B,.string O,.slice none 0 0,.bool false] from (((HF2.out.set 0 _).set 1 _).set 2 _).set 3 _) Tryz.underlying150 rfl (by kernel_rfl)) rfl ⟨_,[],rfl,SlR.nil _ _ _,rfl,?_⟩
  exact (((HB2.out.setCell (Nat.le_refl _) _).setCell (Nat.le_refl _) _).setCell (Nat.le_refl _) _).setCell (Nat.le_refl _) _
theorem parse_3s (s:ByteArray) (b o:List UInt8) (ho:o≠[42]) (w:World) (hF:Lib.fields s.data.toList=[b,o,[42]]) (hs:s.size≤1000) (hasc:∀b∈s.data.toList,b.toNat < 128) (hT:Spc w):
  Calls Tryz.prog 99 #[.string s] w fun e w'=>∃v LS,e=.returned (.agg #[.string ⟨b.toArray⟩,.string ⟨o.toArray⟩,v,.bool true])∧SlR strR w' (fun k=>w.heap.size≤k) v LS∧LS.map (·.data.toList)=[]∧Below w.heap.size w w':=by
 have hal0:=(Below.refl w.heap.size w).alloc (Nat.le_refl _) (.cells #[.string ⟨#[]⟩,.string ⟨#[]⟩,.slice none 0 0,.bool false] 150)
 have HFW:=Lib.hid (Fields_words s _ (w.alloc (.cells #[.string ⟨#[]⟩,.string ⟨#[]⟩,.slice none 0 0,.bool false] 150)) hF hs hasc (hT.below hal0))
 have HFX:Hid (Calls Tryz.prog 146 #[.string s] (w.alloc (.cells #[.string ⟨#[]⟩,.string ⟨#[]⟩,.slice none 0 0,.bool false] 150)) fun e w'=>∃g:Nat,e=.returned (.slice (some ⟨g,0,none⟩) 3 3)∧g < w'.heap.size∧w'.cell? ⟨g,0,none⟩=some (.string ⟨b.toArray⟩)∧w'.cell? ⟨g,1,none⟩=some (.string ⟨o.toArray⟩)∧w'.cell? ⟨g,2,none⟩=some (.string ⟨#[42]⟩)∧Below (w.alloc (.cells #[.string ⟨#[]⟩,.string ⟨#[]⟩,.slice none 0 0,.bool false] 150)).heap.size (w.alloc (.cells #[.string ⟨#[]⟩,.string ⟨#[]⟩,.slice none 0 0,.bool false] 150)) w'):=HFW.out.mono fun e w' ⟨g,h1,h2,h3⟩=>⟨g,h1,h2.lt,h2.cell 0,h2.cell 1,h2.cell 2,h3⟩
 clear HFW
 have HF0:=Lib.hid (Blk.new w 150 #[.string ⟨#[]⟩,.string ⟨#[]⟩,.slice none 0 0,.bool false])
 have HB0:=Lib.hid hal0
 have eo:(⟨o.toArray⟩:ByteArray).toList=o:=toList_mk o
 have no:((⟨o.toArray⟩:ByteArray).toList==[42])=false:=by rw [eo,beq_eq_false_iff_ne];exact ho
 clear hF hs hasc hT hal0 ho eo
 generalize (⟨b.toArray⟩:ByteArray)=B at *
 generalize (⟨o.toArray⟩:ByteArray)=O at *
 have hwr:IntKind.i64.wrap ((3:Int) - 1)=2:=by decide
 have hwr2:IntKind.i64.wrap (2:Int)=2:=by decide
 go_enter Tryz.func99,Tryz.ntmps99
 go_upto_region 2 with (go_at_call 146;refine HFX.out.mono ?_;rintro e w1 ⟨g,rfl,hgl,d0,d1,d2,hb⟩;have HF1:=Lib.hid (HF0.out.below hb HF0.out.lt);have HB1:=Lib.hid (HB0.out.trans (hb.mono HB0.out.size));have HBK:=Lib.hid hgl;clear hgl hb)
 go_region_held3 (fun w'=>w'.cell? ⟨g,0,none⟩=some (.string B)∧w'.cell? ⟨g,1,none⟩=some (.string O)∧w'.cell? ⟨g,2,none⟩=some (.string ⟨#[42]⟩)) (go_keep) (fail)
 all_goals
  have hal2:=(Below.refl w1.heap.size w1).alloc (Nat.le_refl _) (.cells #[.string B,.string O,.slice none 0 0,.bool true] 150)
  have hR:=Blk.new w1 150 #[.string B,.string O,.slice none 0 0,.bool true]
  have HR:=Lib.hid hR.drew'
  have HF2:=Lib.hid (HF1.out.below hal2 HF1.out.lt).drew'
  have HB2:=Lib.hid (HB1.out.trans (hal2.mono HB1.out.size)).drew
  have hfl:¬w.heap.size=w1.heap.size:=Nat.ne_of_lt HF1.out.lt
  have hgd:∀j,(w1.alloc (.cells #[.string B,.string O,.slice none 0 0,.bool true] 150)).drew.cell? ⟨g,j,none⟩=w1.cell? ⟨g,j,none⟩:=fun j=>World.cell?_alloc_old _ _ _ (Nat.ne_of_lt HBK.out)
  have k2:=(hgd 2).trans d2
  clear hR hal2
  generalize (w1.alloc (.cells #[.string B,.string O,.slice none 0 0,.bool true] 150)).drew=wR at *
  generalize w1.heap.size=rb at *
  obtain ⟨r0,r1,r2,r3⟩:=four_cells HR.out
  obtain ⟨v0,v1,v2,v3⟩:=four_cells HF2.out
  obtain ⟨y0,y1,y2,y3⟩:=four_free HF2.out
  clear hgd
  go_wp2
  refine bodyPost_ret (results_row1 rfl _ _ w.heap.size 150 #[.string B,.string O,.slice none 0 0,.bool true] (0,0) _ rfl (show Blk _ w.heap.size 150 #[.string B,.string O,.slice none 0 0,.bool true] from (((HF2.out.set 0 _).set 1 _).set 2 _).set 3 _) Tryz.underlying150 rfl (by kernel_rfl)) rfl ⟨_,[],rfl,SlR.nil _ _ _,rfl,?_⟩
  exact (((HB2.out.setCell (Nat.le_refl _) _).setCell (Nat.le_refl _) _).setCell (Nat.le_refl _) _).setCell (Nat.le_refl _) _
theorem parse_4 (s:ByteArray) (b o a:List UInt8) (ho:o≠[42]) (ha:a≠[42]) (w:World) (hF:Lib.fields s.data.toList=[b,o,a,[42]]) (hs:s.size≤1000) (hasc:∀b∈s.data.toList,b.toNat < 128) (hal:a.length≤1000) (hsl:(Lib.split a [44]).length≤1000) (hT:Spc w):
  Calls Tryz.prog 99 #[.string s] w fun e w'=>∃v LS,e=.returned (.agg #[.string ⟨b.toArray⟩,.string ⟨o.toArray⟩,v,.bool true])∧SlR strR w' (fun k=>w.heap.size≤k) v LS∧LS.map (·.data.toList)=Lib.split a [44]∧Below w.heap.size w w':=by
 have hal0:=(Below.refl w.heap.size w).alloc (Nat.le_refl _) (.cells #[.string ⟨#[]⟩,.string ⟨#[]⟩,.slice none 0 0,.bool false] 150)
 have HFW:=Lib.hid (Fields_words s _ (w.alloc (.cells #[.string ⟨#[]⟩,.string ⟨#[]⟩,.slice none 0 0,.bool false] 150)) hF hs hasc (hT.below hal0))
 have HFX:Hid (Calls Tryz.prog 146 #[.string s] (w.alloc (.cells #[.string ⟨#[]⟩,.string ⟨#[]⟩,.slice none 0 0,.bool false] 150)) fun e w'=>∃g:Nat,e=.returned (.slice (some ⟨g,0,none⟩) 4 4)∧g < w'.heap.size∧w'.cell? ⟨g,0,none⟩=some (.string ⟨b.toArray⟩)∧w'.cell? ⟨g,1,none⟩=some (.string ⟨o.toArray⟩)∧w'.cell? ⟨g,2,none⟩=some (.string ⟨a.toArray⟩)∧w'.cell? ⟨g,3,none⟩=some (.string ⟨#[42]⟩)∧Below (w.alloc (.cells #[.string ⟨#[]⟩,.string ⟨#[]⟩,.slice none 0 0,.bool false] 150)).heap.size (w.alloc (.cells #[.string ⟨#[]⟩,.string ⟨#[]⟩,.slice none 0 0,.bool false] 150)) w'):=HFW.out.mono fun e w' ⟨g,h1,h2,h3⟩=>⟨g,h1,h2.lt,h2.cell 0,h2.cell 1,h2.cell 2,h2.cell 3,h3⟩
 clear HFW
 have HF0:=Lib.hid (Blk.new w 150 #[.string ⟨#[]⟩,.string ⟨#[]⟩,.slice none 0 0,.bool false])
 have HB0:=Lib.hid hal0
 have eo:(⟨o.toArray⟩:ByteArray).toList=o:=toList_mk o
 have no:((⟨o.toArray⟩:ByteArray).toList==[42])=false:=by rw [eo,beq_eq_false_iff_ne];exact ho
 have ea:(⟨a.toArray⟩:ByteArray).toList=a:=toList_mk a
 have na:((⟨a.toArray⟩:ByteArray).toList==[42])=false:=by rw [ea,beq_eq_false_iff_ne];exact ha
 have HSP:=Lib.hid (fun W=>Split44 ⟨a.toArray⟩ W (by show a.toArray.size < _;rw [List.size_toArray];omega))
 rw [show (⟨a.toArray⟩:ByteArray).data.toList=a by simp] at HSP
 have HLSZ:Hid (∀LS:List ByteArray,LS.map (·.data.toList)=Lib.split a [44]→LS.length≤1000000):=fun LS h=>by have h2:=congrArg List.length h;rw [List.length_map] at h2;omega
 clear hF hs hasc hT hal0 ho eo ha ea hal hsl
 generalize (⟨b.toArray⟩:ByteArray)=B at *
 generalize (⟨o.toArray⟩:ByteArray)=O at *
 generalize (⟨a.toArray⟩:ByteArray)=A at *
 have hwr:IntKind.i64.wrap ((4:Int) - 1)=3:=by decide
 have hwr2:IntKind.i64.wrap (3:Int)=3:=by decide
 go_enter Tryz.func99,Tryz.ntmps99
 go_upto_region 2 with (go_at_call 146;refine HFX.out.mono ?_;rintro e w1 ⟨g,rfl,hgl,d0,d1,d2,d3,hb⟩;have HF1:=Lib.hid (HF0.out.below hb HF0.out.lt);have HB1:=Lib.hid (HB0.out.trans (hb.mono HB0.out.size));have HBK:=Lib.hid hgl;clear hgl hb)
 go_region_held3 (fun w'=>w'.cell? ⟨g,0,none⟩=some (.string B)∧w'.cell? ⟨g,1,none⟩=some (.string O)∧w'.cell? ⟨g,2,none⟩=some (.string A)∧w'.cell? ⟨g,3,none⟩=some (.string ⟨#[42]⟩)) (go_keep) (fail)
 all_goals
  have hR:=Blk.new w1 150 #[.string B,.string O,.slice none 0 0,.bool true]
  have hal2:=(Below.refl w1.heap.size w1).alloc (Nat.le_refl _) (.cells #[.string B,.string O,.slice none 0 0,.bool true] 150)
  have HF2:=Lib.hid (HF1.out.below hal2 HF1.out.lt).drew'
  have HB2:=Lib.hid (HB1.out.trans (hal2.mono HB1.out.size)).drew
  have HR:=Lib.hid hR.drew'
  have hfl:¬w.heap.size=w1.heap.size:=Nat.ne_of_lt HF1.out.lt
  have hgd:∀j,(w1.alloc (.cells #[.string B,.string O,.slice none 0 0,.bool true] 150)).drew.cell? ⟨g,j,none⟩=w1.cell? ⟨g,j,none⟩:=fun j=>World.cell?_alloc_old _ _ _ (Nat.ne_of_lt HBK.out)
  have k2:=(hgd 2).trans d2
  clear hR hal2
  generalize (w1.alloc (.cells #[.string B,.string O,.slice none 0 0,.bool true] 150)).drew=wR at *
  have HRB:Hid (w.heap.size≤w1.heap.size):=HB1.out.size
  generalize w1.heap.size=rb at *
  obtain ⟨r0,r1,r2,r3⟩:=four_cells HR.out
  obtain ⟨s0,s1,s2,s3⟩:=four_free HR.out
  clear hgd
  go_wp2_with (go_at_call 147;refine (HSP.out _).mono ?_;rintro e w3 ⟨LS,hLS,rfl,hw3⟩;have hal3:=(Below.refl wR.heap.size wR).alloc (Nat.le_refl _) (.cells (LS.map Value.string).toArray 9);rw [←hw3] at hal3;have HR3:=Lib.hid (HR.out.below hal3 HR.out.lt);have HF3:=Lib.hid (HF2.out.below hal3 HF2.out.lt);have HB3:=Lib.hid (HB2.out.trans (hal3.mono HB2.out.size));have HL3:Hid (SlR strR w3 (fun k=>k=wR.heap.size) (.slice (some ⟨wR.heap.size,0,none⟩) LS.length LS.length) LS):=(by show SlR _ _ _ _ _;rw [hw3];exact slR_strs' wR LS (HLSZ.out LS hLS));have HLS:=Lib.hid hLS;obtain ⟨t0,t1,t2,t3⟩:=four_cells HR3.out;obtain ⟨u0,u1,u2,u3⟩:=four_free HR3.out;obtain ⟨v0,v1,v2,v3⟩:=four_cells HF3.out;obtain ⟨y0,y1,y2,y3⟩:=four_free HF3.out;have HSZ:=Lib.hid HB2.out.size;clear hal3 hw3 hLS)
  have hlg:∀k,k=wR.heap.size→k≠w.heap.size:=fun k hk e=>by have:=HF2.out.lt;omega
  have hlr:∀k,k=wR.heap.size→k≠rb:=fun k hk e=>by have:=HR.out.lt;omega
  refine bodyPost_ret (results_row1 rfl _ _ w.heap.size 150 #[.string B,.string O,.slice (some ⟨wR.heap.size,0,none⟩) LS.length LS.length,.bool true] (0,0) _ rfl (show Blk _ w.heap.size 150 #[.string B,.string O,.slice (some ⟨wR.heap.size,0,none⟩) LS.length LS.length,.bool true] from ((((HF3.out.far (p:=⟨rb,2,none⟩) hfl (.slice (some ⟨wR.heap.size,0,none⟩) LS.length LS.length)).set 0 _).set 1 _).set 2 _).set 3 _) Tryz.underlying150 rfl (by kernel_rfl)) rfl ⟨_,LS,rfl,?_,HLS.out,?_⟩
  ·refine (HL3.out.keep ?_).mono (fun k hk=>by rw [hk];exact HSZ.out)
   exact ((((Keep.setCell hlr _).trans (Keep.setCell hlg _)).trans (Keep.setCell hlg _)).trans (Keep.setCell hlg _)).trans (Keep.setCell hlg _)
  ·exact ((((HB3.out.setCell HRB.out _).setCell (Nat.le_refl _) _).setCell (Nat.le_refl _) _).setCell (Nat.le_refl _) _).setCell (Nat.le_refl _) _
end Go.Proofs.YtjmekllgnhkodaaGreatDoor
namespace Go.Proofs.YtjmekllgnhkodaaGreatDoor
set_option maxHeartbeats 4000000
set_option maxRecDepth 100000
open Go.RowKit Go.Shelf
def numF (bits:List UInt8) (op:Nat) (c:UInt8):Nat:=fieldF c op 0 0 bits
def argF (bits:List UInt8) (op:Nat) (s:List UInt8):Option (Opd × List UInt8):=
 if s=[40,110,41] then some (⟨7,0,0⟩,[110]) else if s=[40,119,41] then some (⟨7,0,0⟩,[119])
 else if s=[114] then ((Lib.fields listR)[numF bits op 114]?.bind wordF).map (·,[]) else if s=[115] then ((Lib.fields listR)[numF bits op 115]?.bind wordF).map (·,[])
 else if s=[112] then ((Lib.fields listP)[numF bits op 112]?.bind wordF).map (·,[]) else if s=[113] then ((Lib.fields listQ)[numF bits op 113]?.bind wordF).map (·,[])
 else if s=[99] then some (⟨8,numF bits op 99,0⟩,[]) else if s=[107] then some (⟨8,numF bits op 107,0⟩,[])
 else if s=[98] then some (⟨6,0,numF bits op 98⟩,[]) else if s=[116] then some (⟨6,0,8 * numF bits op 116⟩,[])
 else if s=[101] then some (⟨10,0,0⟩,[101]) else if s=[110] then some (⟨6,0,0⟩,[110]) else if s=[119] then some (⟨6,0,0⟩,[119])
 else if s=[48] then some (⟨6,0,0⟩,[]) else if s=[49] then some (⟨6,0,1⟩,[]) else if s=[50] then some (⟨6,0,2⟩,[])
 else if s=[65] then (wordF [65]).map (·,[]) else if s=[73] then (wordF [73]).map (·,[]) else if s=[82] then (wordF [82]).map (·,[])
 else if 1 < s.length then (wordF s).map (·,[]) else none
theorem fields_short:(∀y∈Lib.fields listR,y.length≤1000)∧(∀y∈Lib.fields listP,y.length≤1000)∧∀y∈Lib.fields listQ,y.length≤1000:=by decide+kernel
theorem bytes_is {s:ByteArray} {l:List UInt8} (h:s.data.toList=l):s=⟨l.toArray⟩:=by
 subst h
 simp
theorem bind_two {α β:Type} {a:Option α} {f:α→Option β} {o:β} {ext:List UInt8} (h:(a.bind f).map (·,([]:List UInt8))=some (o,ext)):ext=[]∧∃y,a=some y∧f y=some o:=by
 cases a with
 | none=>cases h
 | some y=>
  rw [Option.bind_some] at h
  cases hy:f y with
  | none=>rw [hy] at h;cases h
  | some z=>
   rw [hy] at h
   injection h with h
   injection h with h1 h2
   exact ⟨h2.symm,y,rfl,hy.trans (by rw [h1])⟩
theorem map_two {β:Type} {a:Option β} {o:β} {ext:List UInt8} (h:a.map (·,([]:List UInt8))=some (o,ext)):ext=[]∧a=some o:=by
 cases a with
 | none=>cases h
 | some z=>
  injection h with h
  injection h with h1 h2
  exact ⟨h2.symm,by rw [h1]⟩
theorem some_two {β:Type} {a o:β} {e ext:List UInt8} (h:some (a,e)=some (o,ext)):a=o∧e=ext:=by
 injection h with h
 injection h with h1 h2
 exact ⟨h1,h2⟩
theorem arg_any (bp:Nat) (x:BdrV) (s:ByteArray) (o:Opd) (ext:List UInt8) (w:World) (h:BK w bp x) (hx:x.ok) (ha:argF x.bits.data.toList x.op s.data.toList=some (o,ext)) (hs:s.size≤1000) (hT:Spc w):
  Calls Tryz.prog 100 #[.pointer (some ⟨bp,0,none⟩),.string s] w (ArgP w bp x o ext):=by
 unfold argF at ha
 by_cases e0:s.data.toList=[40,110,41]
 ·rw [if_pos e0] at ha
  obtain ⟨rfl,rfl⟩:=some_two ha
  rw [bytes_is e0]
  exact arg_mem110 bp x w h hx
 rw [if_neg e0] at ha
 by_cases e1:s.data.toList=[40,119,41]
 ·rw [if_pos e1] at ha
  obtain ⟨rfl,rfl⟩:=some_two ha
  rw [bytes_is e1]
  exact arg_mem119 bp x w h hx
 rw [if_neg e1] at ha
 by_cases e114:s.data.toList=[114]
 ·rw [if_pos e114] at ha
  obtain ⟨rfl,y,hy,ho⟩:=bind_two ha
  rw [bytes_is e114]
  exact arg_114 bp x y o hy ho (fields_short.1 y (List.mem_of_getElem? hy)) w h hx hT
 rw [if_neg e114] at ha
 by_cases e115:s.data.toList=[115]
 ·rw [if_pos e115] at ha
  obtain ⟨rfl,y,hy,ho⟩:=bind_two ha
  rw [bytes_is e115]
  exact arg_115 bp x y o hy ho (fields_short.1 y (List.mem_of_getElem? hy)) w h hx hT
 rw [if_neg e115] at ha
 by_cases e112:s.data.toList=[112]
 ·rw [if_pos e112] at ha
  obtain ⟨rfl,y,hy,ho⟩:=bind_two ha
  rw [bytes_is e112]
  exact arg_112 bp x y o hy ho (fields_short.2.1 y (List.mem_of_getElem? hy)) w h hx hT
 rw [if_neg e112] at ha
 by_cases e113:s.data.toList=[113]
 ·rw [if_pos e113] at ha
  obtain ⟨rfl,y,hy,ho⟩:=bind_two ha
  rw [bytes_is e113]
  exact arg_113 bp x y o hy ho (fields_short.2.2 y (List.mem_of_getElem? hy)) w h hx hT
 rw [if_neg e113] at ha
 by_cases e99:s.data.toList=[99]
 ·rw [if_pos e99] at ha
  obtain ⟨rfl,rfl⟩:=some_two ha
  rw [bytes_is e99]
  exact arg_99 bp x w h hx
 rw [if_neg e99] at ha
 by_cases e107:s.data.toList=[107]
 ·rw [if_pos e107] at ha
  obtain ⟨rfl,rfl⟩:=some_two ha
  rw [bytes_is e107]
  exact arg_107 bp x w h hx
 rw [if_neg e107] at ha
 by_cases e98:s.data.toList=[98]
 ·rw [if_pos e98] at ha
  obtain ⟨rfl,rfl⟩:=some_two ha
  rw [bytes_is e98]
  exact arg_98 bp x w h hx
 rw [if_neg e98] at ha
 by_cases e116:s.data.toList=[116]
 ·rw [if_pos e116] at ha
  obtain ⟨rfl,rfl⟩:=some_two ha
  rw [bytes_is e116]
  exact arg_116 bp x w h hx
 rw [if_neg e116] at ha
 by_cases e101:s.data.toList=[101]
 ·rw [if_pos e101] at ha
  obtain ⟨rfl,rfl⟩:=some_two ha
  rw [bytes_is e101]
  exact arg_101 bp x w h hx
 rw [if_neg e101] at ha
 by_cases e110:s.data.toList=[110]
 ·rw [if_pos e110] at ha
  obtain ⟨rfl,rfl⟩:=some_two ha
  rw [bytes_is e110]
  exact arg_110 bp x w h hx
 rw [if_neg e110] at ha
 by_cases e119:s.data.toList=[119]
 ·rw [if_pos e119] at ha
  obtain ⟨rfl,rfl⟩:=some_two ha
  rw [bytes_is e119]
  exact arg_119 bp x w h hx
 rw [if_neg e119] at ha
 by_cases e48:s.data.toList=[48]
 ·rw [if_pos e48] at ha
  obtain ⟨rfl,rfl⟩:=some_two ha
  rw [bytes_is e48]
  exact arg_48 bp x w h
 rw [if_neg e48] at ha
 by_cases e49:s.data.toList=[49]
 ·rw [if_pos e49] at ha
  obtain ⟨rfl,rfl⟩:=some_two ha
  rw [bytes_is e49]
  exact arg_49 bp x w h
 rw [if_neg e49] at ha
 by_cases e50:s.data.toList=[50]
 ·rw [if_pos e50] at ha
  obtain ⟨rfl,rfl⟩:=some_two ha
  rw [bytes_is e50]
  exact arg_50 bp x w h
 rw [if_neg e50] at ha
 by_cases e65:s.data.toList=[65]
 ·rw [if_pos e65] at ha
  obtain ⟨rfl,ho⟩:=map_two ha
  rw [bytes_is e65]
  exact arg_65 bp x o ho w h
 rw [if_neg e65] at ha
 by_cases e73:s.data.toList=[73]
 ·rw [if_pos e73] at ha
  obtain ⟨rfl,ho⟩:=map_two ha
  rw [bytes_is e73]
  exact arg_73 bp x o ho w h
 rw [if_neg e73] at ha
 by_cases e82:s.data.toList=[82]
 ·rw [if_pos e82] at ha
  obtain ⟨rfl,ho⟩:=map_two ha
  rw [bytes_is e82]
  exact arg_82 bp x o ho w h
 rw [if_neg e82] at ha
 by_cases hl:1 < s.data.toList.length
 ·rw [if_pos hl] at ha
  obtain ⟨rfl,ho⟩:=map_two ha
  exact arg_long bp x s o ho hs (by simpa using hl) e0 e1 w h
 ·rw [if_neg hl] at ha
  cases ha
structure RuleV where
 bits:List UInt8
 op:List UInt8
 args:List (List UInt8)
 alias:Bool
def ruleF (t:List UInt8):Option RuleV:=
 match Lib.fields t with
 | [b,o]=>if o=[42] then none else some ⟨b,o,[],false⟩
 | [b,o,a]=>if o=[42] then none else if a=[42] then some ⟨b,o,[],true⟩ else if a.length≤1000∧(Lib.split a [44]).length≤1000 then some ⟨b,o,Lib.split a [44],false⟩ else none
 | [b,o,a,x]=>if o=[42]∨a=[42] then none else if x=[42]∧a.length≤1000∧(Lib.split a [44]).length≤1000 then some ⟨b,o,Lib.split a [44],true⟩ else none
 | _=>none
theorem parse_any (s:ByteArray) (r:RuleV) (w:World) (hr:ruleF s.data.toList=some r) (hs:s.size≤1000) (hasc:∀b∈s.data.toList,b.toNat < 128) (hT:Spc w):
  Calls Tryz.prog 99 #[.string s] w fun e w'=>∃v LS,e=.returned (.agg #[.string ⟨r.bits.toArray⟩,.string ⟨r.op.toArray⟩,v,.bool r.alias])∧SlR strR w' (fun k=>w.heap.size≤k) v LS∧LS.map (·.data.toList)=r.args∧Below w.heap.size w w':=by
 unfold ruleF at hr
 split at hr
 ·rename_i b o hF
  split at hr
  ·cases hr
  ·rename_i ho
   injection hr with hr
   subst hr
   exact parse_2 s b o ho w hF hs hasc hT
 ·rename_i b o a hF
  split at hr
  ·cases hr
  ·rename_i ho
   split at hr
   ·rename_i ha
    injection hr with hr
    subst hr ha
    exact parse_3s s b o ho w hF hs hasc hT
   ·rename_i ha
    split at hr
    ·rename_i hl
     injection hr with hr
     subst hr
     exact parse_3 s b o a ho ha w hF hs hasc hl.1 hl.2 hT
    ·cases hr
 ·rename_i b o a x hF
  split at hr
  ·cases hr
  ·rename_i ho
   split at hr
   ·rename_i hl
    injection hr with hr
    subst hr
    obtain ⟨rfl,hl1,hl2⟩:=hl
    exact parse_4 s b o a (fun h=>ho (.inl h)) (fun h=>ho (.inr h)) w hF hs hasc hl1 hl2 hT
   ·cases hr
 ·cases hr
end Go.Proofs.YtjmekllgnhkodaaGreatDoor
