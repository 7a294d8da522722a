/-
  The entries with a mnemonic. Conditions: the library's table as its initialiser lays it.
-/
import Derived.Test.YtjmekllgnhkodaaGreatDoorPA
import Derived.Test.YtjmekllgnhkodaaGreatDoorPK
namespace Go.Proofs.YtjmekllgnhkodaaGreatDoor
set_option maxHeartbeats 8000000
set_option maxRecDepth 100000
open Go.RowKit Go.Shelf Go.Sort
def entR:Rep EntV where
 size:=6
 rel:=fun w p cs x=>∃v,cs=[.int .i64 x.pg,.int .u8 x.op,.string ⟨x.iop.toArray⟩,v,.string ⟨x.ex.toArray⟩,.bool x.al]∧SlR opdR w p v x.args
 len:=fun ⟨_,e,_⟩=>by subst e;rfl
 keep:=fun hk ⟨v,e,h⟩=>⟨v,e,h.keep hk⟩
 mono:=fun hp ⟨v,e,h⟩=>⟨v,e,h.mono hp⟩
 old:=fun ⟨v,e,h⟩=>⟨v,e,h.old⟩
 one:=fun ⟨v,e,a,cap,hv,_⟩ u hu=>by subst e;subst hv;simp at hu;rcases hu with rfl | rfl | rfl | rfl | rfl | rfl<;>rfl
theorem elE9:ElT Tryz.prog 121 53 entR.size 80:=ElT.mk' (z:=.agg #[.int .i64 0,.int .u8 0,.string ⟨#[]⟩,.slice none 0 0,.string ⟨#[]⟩,.bool false]) Tryz.underlying121 (by kernel_rfl) rfl (by decide)
theorem elET:ElT Tryz.prog 119 50 entR.size 80:=ElT.mk' (z:=.agg #[.int .i64 0,.int .u8 0,.string ⟨#[]⟩,.slice none 0 0,.string ⟨#[]⟩,.bool false]) Tryz.underlying119 (by kernel_rfl) rfl (by decide)
theorem entR_rel {w:World} {q:Blocks} {v:Value} {x:EntV} (h:OpdOwn w q v x.args):entR.rel w q [.int .i64 x.pg,.int .u8 x.op,.string ⟨x.iop.toArray⟩,v,.string ⟨x.ex.toArray⟩,.bool x.al] x:=⟨v,rfl,h.slR⟩
def entsK (p:Int) (k:Nat):List EntV:=(List.range k).filterMap fun op=>(atF p op).1
def entsF (p:Int):List EntV:=entsK p 256
theorem entsK_no {p:Int} {k:Nat} (h:(atF p k).1=none):entsK p (k+1)=entsK p k:=by
 unfold entsK;rw [List.range_succ,List.filterMap_append];simp [h]
theorem entsK_yes {p:Int} {k:Nat} {x:EntV} (h:(atF p k).1=some x):entsK p (k+1)=entsK p k++[x]:=by
 unfold entsK;rw [List.range_succ,List.filterMap_append];simp [h]
theorem entsK_len (p:Int) (k:Nat):(entsK p k).length≤k:=by
 unfold entsK;exact Nat.le_trans (List.length_filterMap_le _ _) (by simp)
theorem wrap_u8f:∀x:Fin 256,IntKind.u8.wrap (x.val:Int)=x.val:=by decide+kernel
theorem wrap_u8 {k:Nat} (h:k < 256):IntKind.u8.wrap (k:Int)=k:=wrap_u8f ⟨k,h⟩
def EntsP (t:TypeId) (w:World) (l:List EntV) (e:Ending) (w':World):Prop:=∃v,e=.returned v∧Acc entR w' w.heap.size t v l∧Below w.heap.size w w'
end Go.Proofs.YtjmekllgnhkodaaGreatDoor
namespace Go.Proofs.YtjmekllgnhkodaaGreatDoor
set_option maxHeartbeats 8000000
set_option maxRecDepth 100000
open Go.RowKit Go.Shelf Go.Sort
def pagesF (l:List Int):List Int:=if l=[] then [0,1,2,3,4,5,6] else l
def upI (k:Nat):List Int:=(List.range k).map fun (j:Nat)=>(j:Int)
theorem upI_succ (k:Nat):upI (k+1)=upI k++[(k:Int)]:=by unfold upI;rw [List.range_succ,List.map_append];rfl
theorem upI_len (k:Nat):(upI k).length=k:=by unfold upI;simp
theorem every_any (p:Blocks) (v:Value) (l:List Int) (w:World) (h:SlR intR w p v l):
  Calls Tryz.prog 173 #[v] w fun e w'=>∃v' q,e=.returned v'∧SlR intR w' q v' (pagesF l)∧Below w.heap.size w w':=by
 by_cases hl:l=[]
 ·subst hl
  obtain ⟨a,c,rfl,_,_,_⟩:=h
  have HP:Hid (pagesF []=upI 7):=rfl
  rw [HP.out]
  go_enter Tryz.func173,Tryz.ntmps173
  go_wp2
  go_loopw [3,9] (fun s3 s9 wx=>∃k:Nat,k≤7∧s9=.int .i64 k∧Own intR wx w.heap.size 3 NoB s3 (upI k)∧Below w.heap.size w wx) (fun _ s9 _=>7 - (intOf s9).toNat)
  case atStart=>exact ⟨0,by omega,rfl,Own.nil _ _ _ _ _,Below.refl _ _⟩
  case round=>
   obtain ⟨k,hk,rfl,ho,hb⟩:=hrel
   have HO:=Lib.hid ho
   have HB:=Lib.hid hb
   obtain ⟨a3,c3,rfl⟩:=ho.form
   clear ho hb
   by_cases hlt:k < 7
   ·have HLB:Hid (((upI k).length+1) * 8≤140737488355328):=(by show _≤_;rw [upI_len];omega)
    have HLL:Hid ((upI k).length+1≤9223372036854775807):=(by show _≤_;rw [upI_len];omega)
    have HUS:=Lib.hid (upI_succ k)
    generalize upI k=L at *
    go_wp2_with (at_builtin;refine wpList_push rfl (.tmp 12) (.tmp 14) 165 rfl w.heap.size 3 8 elInt _ L (k:Int) _ rfl rfl HO.out rfl HLB.out HLL.out HB.out.size ?_;intro a' c' w' hp;have HP:=Lib.hid hp;clear hp)
    go_round
    case rel=>exact ⟨k+1,by omega,by go_num,by rw [HUS.out];exact HP.out.1,HB.out.grown HP.out.2 HB.out.size (fun j hj=>(HO.out.lt j hj).1)⟩
    case measure=>simp [intOf];omega
   ·obtain rfl:k=7:=by omega
    go_wp2
    go_ret
    exact ⟨_,fun k=>w.heap.size≤k,rfl,HO.out.slR (fun _ h=>h.elim) (fun _ h=>h),HB.out⟩
 ·have HP:Hid (pagesF l=l):=if_neg hl
  rw [HP.out]
  have HS:=Lib.hid h
  obtain ⟨a,c,rfl,_,_,_⟩:=h
  have hl0:(0:Int) < l.length:=by have:=List.length_pos_iff.2 hl;omega
  clear hl
  go_enter Tryz.func173,Tryz.ntmps173
  go_wp2
  go_ret
  exact ⟨_,p,rfl,HS.out,Below.refl _ _⟩
end Go.Proofs.YtjmekllgnhkodaaGreatDoor
namespace Go.Proofs.YtjmekllgnhkodaaGreatDoor
set_option maxHeartbeats 8000000
set_option maxRecDepth 100000
open Go.RowKit Go.Shelf Go.Sort
def patB (p:Int):ByteArray:=if p=0∨p=3∨p=4 then mainB else if p=1∨p=5∨p=6 then cbB else if p=2 then edB else ⟨#[]⟩
def patL (p:Int):List (List UInt8):=splitC (patB p).data.toList
def mnemF (t:List UInt8):List UInt8:=(Lib.cut (t.drop 9) [32]).1
def wordB (op t:List UInt8):Bool:=decide (9≤t.length)&&decide (mnemF t=op)
def withF (op:List UInt8) (L:List (List UInt8)):List (List UInt8):=L.filter (wordB op)
def nameOk (p:Int) (x:Nat):Bool:=match (atF p x).1 with
 | some e=>(match lookF x (patL p) with | some t=>decide (9≤t.length)&&(decide (mnemF t=e.iop)&&fitsF t x) | none=>false)
 | none=>true
theorem nok0:∀x:Fin 256,nameOk 0 x.val=true:=by decide+kernel
theorem nok1:∀x:Fin 256,nameOk 1 x.val=true:=by decide+kernel
theorem nok2:∀x:Fin 256,nameOk 2 x.val=true:=by decide+kernel
theorem nok3:∀x:Fin 256,nameOk 3 x.val=true:=by decide+kernel
theorem nok4:∀x:Fin 256,nameOk 4 x.val=true:=by decide+kernel
theorem nok5:∀x:Fin 256,nameOk 5 x.val=true:=by decide+kernel
theorem nok6:∀x:Fin 256,nameOk 6 x.val=true:=by decide+kernel
theorem atF_out {p:Int} (h:¬(0≤p∧p < 7)) (op:Nat):atF p op=(none,0):=by
 unfold atF;rw [if_neg (by omega),if_neg (by omega),if_neg (by omega),if_neg (by omega),if_neg (by omega)]
theorem nok_all (p:Int) (x:Nat) (hx:x < 256):nameOk p x=true:=by
 by_cases h:0≤p∧p < 7
 ·have:p=0∨p=1∨p=2∨p=3∨p=4∨p=5∨p=6:=by omega
  rcases this with rfl | rfl | rfl | rfl | rfl | rfl | rfl
  ·exact nok0 ⟨x,hx⟩
  ·exact nok1 ⟨x,hx⟩
  ·exact nok2 ⟨x,hx⟩
  ·exact nok3 ⟨x,hx⟩
  ·exact nok4 ⟨x,hx⟩
  ·exact nok5 ⟨x,hx⟩
  ·exact nok6 ⟨x,hx⟩
 ·unfold nameOk;rw [atF_out h]
theorem lookF_mem {op:Nat} {t:List UInt8}:∀{L:List (List UInt8)},lookF op L=some t→t∈L
 | [],h=>by cases h
 | x::r,h=>by
  rw [lookF] at h
  split at h
  ·injection h with h;rw [h];simp
  ·exact List.mem_cons_of_mem _ (lookF_mem h)
def askB (op:List UInt8) (p:Int) (x:Nat):Bool:=((withF op (patL p)).any fun t=>fitsF t x)&&((withF op (patL p)).contains ((lookF x (patL p)).getD []))
def namK (op:List UInt8) (p:Int) (k:Nat):List EntV:=(entsK p k).filter fun e=>e.iop==op
def namF (op:List UInt8) (p:Int):List EntV:=namK op p 256
theorem namF_eq (op:List UInt8) (p:Int):namF op p=(entsF p).filter fun e=>e.iop==op:=rfl
theorem ask_yes {op:List UInt8} {p:Int} {x:Nat} (hx:x < 256) {e:EntV} (he:(atF p x).1=some e):askB op p x=(e.iop==op):=by
 have h:=nok_all p x hx
 unfold nameOk at h
 rw [he] at h
 cases hl:lookF x (patL p) with
 | none=>rw [hl] at h;cases h
 | some t=>
  rw [hl] at h
  simp only [Bool.and_eq_true,decide_eq_true_eq] at h
  obtain ⟨h1,h2,h3⟩:=h
  unfold askB
  rw [hl,Option.getD_some]
  have hm:t∈withF op (patL p)↔e.iop=op:=by
   unfold withF
   rw [List.mem_filter]
   simp only [wordB,Bool.and_eq_true,decide_eq_true_eq,h2]
   exact ⟨fun h=>h.2.2,fun h=>⟨lookF_mem hl,h1,h⟩⟩
  by_cases hop:e.iop=op
  ·have hi:=hm.2 hop
   have ha:((withF op (patL p)).any fun t=>fitsF t x)=true:=List.any_eq_true.2 ⟨t,hi,h3⟩
   have hc:(withF op (patL p)).contains t=true:=List.contains_iff_mem.2 hi
   rw [ha,hc,hop];simp
  ·have hi:(withF op (patL p)).contains t=false:=by
    cases hc:(withF op (patL p)).contains t
    ·rfl
    ·exact absurd (hm.1 (List.contains_iff_mem.1 hc)) hop
   rw [hi,Bool.and_false]
   exact (beq_eq_false_iff_ne.2 hop).symm
theorem namK_no {op:List UInt8} {p:Int} {k:Nat} (h:(atF p k).1=none):namK op p (k+1)=namK op p k:=by
 unfold namK;rw [entsK_no h]
theorem namK_out {op:List UInt8} {p:Int} {k:Nat} (hk:k < 256) (h:askB op p k=false):namK op p (k+1)=namK op p k:=by
 cases hx:(atF p k).1 with
 | none=>exact namK_no hx
 | some e=>
  have:=ask_yes (op:=op) hk hx
  rw [h] at this
  unfold namK
  rw [entsK_yes hx,List.filter_append]
  simp [←this]
theorem namK_in {op:List UInt8} {p:Int} {k:Nat} (hk:k < 256) (h:askB op p k=true) {e:EntV} (he:(atF p k).1=some e):namK op p (k+1)=namK op p k++[e]:=by
 have:=ask_yes (op:=op) hk he
 rw [h] at this
 unfold namK
 rw [entsK_yes he,List.filter_append]
 simp [←this]
theorem namK_len (op:List UInt8) (p:Int) (k:Nat):(namK op p k).length≤k:=Nat.le_trans (List.length_filter_le _ _) (entsK_len p k)
end Go.Proofs.YtjmekllgnhkodaaGreatDoor
namespace Go.Proofs.YtjmekllgnhkodaaGreatDoor
set_option maxHeartbeats 8000000
set_option maxRecDepth 100000
open Go.RowKit Go.Shelf Go.Sort
attribute [local go_sem] Oper.semAt_some
theorem patterns_any (p:Int) (w:World):Calls Tryz.prog 175 #[.int .i64 p] w fun e w'=>e=.returned (.string (patB p))∧w'=w:=by
 by_cases h0:p=0
 ·subst h0
  rw [show patB 0=mainB from if_pos (.inl rfl)]
  go_enter Tryz.func175,Tryz.ntmps175
  go_wp2
  go_ret
  exact ⟨rfl,rfl⟩
 have c0:(p==0)=false:=by rw [beq_eq_false_iff_ne];exact h0
 by_cases h3:p=3
 ·subst h3
  rw [show patB 3=mainB from if_pos (.inr (.inl rfl))]
  go_enter Tryz.func175,Tryz.ntmps175
  go_wp2
  go_ret
  exact ⟨rfl,rfl⟩
 have c3:(p==3)=false:=by rw [beq_eq_false_iff_ne];exact h3
 by_cases h4:p=4
 ·subst h4
  rw [show patB 4=mainB from if_pos (.inr (.inr rfl))]
  go_enter Tryz.func175,Tryz.ntmps175
  go_wp2
  go_ret
  exact ⟨rfl,rfl⟩
 have c4:(p==4)=false:=by rw [beq_eq_false_iff_ne];exact h4
 have e0:patB p=if p=1∨p=5∨p=6 then cbB else if p=2 then edB else ⟨#[]⟩:=if_neg (fun e=>e.elim h0 (fun e=>e.elim h3 h4))
 rw [e0]
 by_cases h1:p=1
 ·subst h1
  rw [if_pos (.inl rfl)]
  go_enter Tryz.func175,Tryz.ntmps175
  go_wp2
  go_ret
  exact ⟨rfl,rfl⟩
 have c1:(p==1)=false:=by rw [beq_eq_false_iff_ne];exact h1
 by_cases h5:p=5
 ·subst h5
  rw [if_pos (.inr (.inl rfl))]
  go_enter Tryz.func175,Tryz.ntmps175
  go_wp2
  go_ret
  exact ⟨rfl,rfl⟩
 have c5:(p==5)=false:=by rw [beq_eq_false_iff_ne];exact h5
 by_cases h6:p=6
 ·subst h6
  rw [if_pos (.inr (.inr rfl))]
  go_enter Tryz.func175,Tryz.ntmps175
  go_wp2
  go_ret
  exact ⟨rfl,rfl⟩
 have c6:(p==6)=false:=by rw [beq_eq_false_iff_ne];exact h6
 rw [if_neg (fun e=>e.elim h1 (fun e=>e.elim h5 h6))]
 by_cases h2:p=2
 ·subst h2
  rw [if_pos rfl]
  go_enter Tryz.func175,Tryz.ntmps175
  go_wp2
  go_ret
  exact ⟨rfl,rfl⟩
 have c2:(p==2)=false:=by rw [beq_eq_false_iff_ne];exact h2
 rw [if_neg h2]
 clear h0 h1 h2 h3 h4 h5 h6
 go_enter Tryz.func175,Tryz.ntmps175
 go_wp2
 go_ret
 exact ⟨rfl,rfl⟩
structure WiB (w0:World) (b:Nat) (op:ByteArray) (l:List (List UInt8)) (w:World):Prop where
 op:Blk w b 9 #[.string op]
 acc:∃v,Blk w (b+1) 40 #[v]∧Own strR w (b+3) 9 NoB v (l.map bs)
 below:Below w0.heap.size w0 w
 at_:w0.heap.size≤b
 sz:b+3≤w.heap.size
theorem Own.ownBF {α:Type} {R:Rep α} {w w':World} {B0 bx B:Nat} {e:TypeId} {v:Value} {xs:List α} {row:Option Nat} (h:Own R w B0 e NoB v xs) (hne:bx < B0) (hg:w.grownBy w' row) (hr:∀r,row=some r→r=bx∨(B≤r∧∃o:Obj,w.heap[r]?=some o∧o.isCells=false)):Own R w' B0 e NoB v xs:=by
 have hlt:=h.lt
 have hcells:∀k,v.ownBlock=some k→∃cs t fz,w.heap[k]?=some (.cells cs t fz):=by
  obtain ⟨cs,hrow,_⟩:=h
  intro k hk
  rcases hrow.2 with ⟨rfl,_⟩ | ⟨g,cap,cur,rfl,hb,hg2,_⟩
  ·cases hk
  ·injection hk with hk;subst hk;exact ⟨_,_,_,hg2⟩
 refine h.keep (fun k hk=>?_)
 rcases hk with hk | hk
 ·exact hk.elim
 ·refine hg.block k (hlt k hk).2 (fun e=>?_)
  rcases hr k e.symm with h1 | ⟨_,o,ho,hc⟩
  ·have:=(hlt k hk).1;omega
  ·obtain ⟨cs,t,fz,h2⟩:=hcells k hk
   rw [h2] at ho
   injection ho with ho
   subst ho
   cases hc
theorem WiB.own {w0:World} {b bx B:Nat} {op:ByteArray} {l:List (List UInt8)} (hbx:bx=b+2) (hB:w0.heap.size≤B) {w w':World} {row:Option Nat} (h:WiB w0 b op l w) (hg:w.grownBy w' row) (hr:∀r,row=some r→r=bx∨(B≤r∧∃o:Obj,w.heap[r]?=some o∧o.isCells=false)):WiB w0 b op l w':=by
 obtain ⟨v,h1,h2⟩:=h.acc
 exact ⟨h.op.ownBF (by omega) hg hr,⟨v,h1.ownBF (by omega) hg hr,h2.ownBF (by omega) hg hr⟩,h.below.grown hg h.below.size (fun k hk=>by
  have:=h.at_
  rcases hr k hk with h1 | ⟨h1,_⟩<;>omega),h.at_,Nat.le_trans h.sz hg.size⟩
theorem withF_snoc (op:List UInt8) (l:List (List UInt8)) (t:List UInt8):withF op (l++[t])=if wordB op t then withF op l++[t] else withF op l:=by
 unfold withF
 rw [List.filter_append]
 cases h:wordB op t<;>simp [h]
theorem wpListIn_append_run {F:Fence} {nF:Nat} {P:Program} {ops:Array Oper} {rest:List Oper} {o:Oper} {a:Act} {w:World} {Q:Exit→Act→World→Prop} (hgd:o.guard=none) (s x:Operand) (t:TypeId)
  (ho:o.op=.call {callee:=.builtin .append,args:=#[s,x],argTypes:=#[t,t]}) {v vx r:Value} {w':World} (hs:a.eval s=v) (hxe:a.eval x=vx) (hrun:(Builtin.append_ #[t,t] o.type #[v,vx]).run P w=.ok r w')
  (h:wpListIn F nF P ops Q rest (a.put o.dst r) w'):wpListIn F nF P ops Q (o::rest) a w:=by
 refine wpListIn_plain hgd fun K hK'=>?_
 unfold Oper.wpIn
 refine ⟨?_,?_⟩
 ·simp [Oper.about,ho,resolve,Target.leads,Sem.run_pure]
 ·rw [Oper.semAt_plain F _ _ (by rw [ho];intro c hc';cases hc')]
  simp [execOp,ho,resolve,invoke,builtin,hs,hxe,hrun,Result.andThen]
  exact hK' _ _ h
theorem mnem_eq (x:List UInt8) (op:ByteArray) (h:9≤x.length):wordB op.data.toList x=((⟨(mnemF x).toArray⟩:ByteArray).toList==op.toList):=by
 unfold wordB
 rw [decide_eq_true h,Bool.true_and,Go.ByteArray.toList_eq,Go.ByteArray.toList_eq]
 show decide (mnemF x=op.data.toList)=(mnemF x==op.data.toList)
 rw [Bool.eq_iff_iff]
 simp
theorem drop9 (x:List UInt8):((⟨x.toArray⟩:ByteArray).extract 9 x.length).data.toList=x.drop 9:=by
 simp
 exact List.take_of_length_le (by simp)
theorem WiB.drewN {w0 w:World} {b:Nat} {op:ByteArray} {l:List (List UInt8)} (h:WiB w0 b op l w) (n:Nat):WiB w0 b op l (w.drewN n):=by
 obtain ⟨v,h1,h2⟩:=h.acc
 exact ⟨h.op,⟨v,h1,h2.keep (fun _ _=>rfl)⟩,below_dN h.below n,h.at_,h.sz⟩
theorem WiB.app {w0 W:World} {b:Nat} {op:ByteArray} {l:List (List UInt8)} {oa:Option Addr} {oc:Nat} (x:List UInt8) (h:WiB w0 b op l W) (h1:Blk W (b+1) 40 #[.slice oa l.length oc]) (hov:Own strR W (b+3) 9 NoB (.slice oa l.length oc) (l.map bs))
  (hlen:l.length≤100000) (n:Nat):∃a5 c5 w3,(Builtin.append_ #[40,40] 40 #[.slice oa l.length oc,.slice (some ⟨W.heap.size,0,none⟩) 1 1]).run Tryz.prog ((W.drewN n).alloc (.cells #[.string ⟨x.toArray⟩] 9))=.ok (.slice a5 (l.length+1) c5) w3∧
   Blk w3 (b+1) 40 #[.slice oa l.length oc]∧KeepsFrom (b+3) W (w3.setCell ⟨b+1,0,none⟩ (.slice a5 (l.length+1) c5))∧(w3.setCell ⟨b+1,0,none⟩ (.slice a5 (l.length+1) c5)).heap[b+2]?=W.heap[b+2]?∧WiB w0 b op (l++[x]) (w3.setCell ⟨b+1,0,none⟩ (.slice a5 (l.length+1) c5)):=by
 have hov2:Own strR (W.drewN n) (b+3) 9 NoB (.slice oa l.length oc) (l.map bs):=hov.keep (fun _ _=>rfl)
 have hlt:=hov.lt
 have hat:=h.at_
 have hB:=h.sz
 have hcells:∀k,Value.ownBlock (.slice oa l.length oc)=some k→∃cs t fz,W.heap[k]?=some (.cells cs t fz):=by
  obtain ⟨cs,hrow,_⟩:=hov
  intro k hk
  rcases hrow.2 with ⟨e,_⟩ | ⟨g,cap,cur,e,hb,hg2,_⟩
  ·rw [e] at hk;cases hk
  ·rw [e] at hk;injection hk with hk;subst hk;exact ⟨_,_,_,hg2⟩
 obtain ⟨a5,c5,w3,hrun,ho,hg⟩:=Own.pushed (P:=Tryz.prog) (t:=40) (ty:=40) (x:=bs x) elStr hov2 #[.string ⟨x.toArray⟩] rfl (by rw [List.length_map];omega) (by rw [List.length_map];omega) hB
 rw [List.length_map] at hrun ho
 have hkeep:∀k o,W.heap[k]?=some o→Value.ownBlock (.slice oa l.length oc)≠some k→w3.heap[k]?=some o:=fun k o hk hne=>(hg.block k (Array.getElem?_eq_some_iff.1 hk).1 (fun e=>hne e.symm)).trans hk
 have hnot:∀k,k < b+3→Value.ownBlock (.slice oa l.length oc)≠some k:=fun k hk e=>by have:=(hlt k e).1;omega
 have h13:Blk w3 (b+1) 40 #[.slice oa l.length oc]:=hkeep _ _ h1 (hnot _ (by omega))
 have hsz:W.heap.size≤w3.heap.size:=hg.size
 refine ⟨a5,c5,w3,hrun,h13,⟨by rw [World.size_setCell];exact hsz,fun k o hk hko hc=>?_⟩,?_,⟨?_,⟨_,h13.set 0 _,?_⟩,?_,hat,by rw [World.size_setCell];omega⟩⟩
 ·refine (Below.heap_setCell _ _ _ _ (by show k≠b+1;omega)).trans (hkeep _ _ hko (fun e=>?_))
  obtain ⟨cs,t,fz,h2⟩:=hcells k e
  rw [h2] at hko
  injection hko with hko
  subst hko
  cases hc
 ·refine (Below.heap_setCell _ _ _ _ (by show b+2≠b+1;omega)).trans ?_
  exact hg.block (b+2) (by show b+2 < W.heap.size;omega) (fun e=>hnot _ (by omega) e.symm)
 ·have h0:Blk w3 b 9 #[.string op]:=hkeep _ _ h.op (hnot _ (by omega))
  exact h0.far (p:=⟨b+1,0,none⟩) (by show b≠b+1;omega) _
 ·rw [List.map_append]
  refine ho.keep (fun k hk=>Below.heap_setCell _ _ _ _ ?_)
  rcases hk with hk | hk
  ·exact hk.elim
  ·have:=(ho.lt k hk).1
   show k≠b+1
   omega
 ·refine Below.setCell ?_ (by show _≤b+1;omega) _
  exact h.below.trans (((below_dN (Below.refl W.heap.size W) n).mono h.below.size).trans ((Below.refl _ _).grown hg h.below.size (fun k hk=>by have:=(hlt k hk).1;omega)))
theorem with_any (s op:ByteArray) (w:World) (hs:s.size≤1000000) (hl:(splitC s.data.toList).length≤100000):
  Calls Tryz.prog 174 #[.string s,.string op] w fun e w'=>∃v,e=.returned v∧Own strR w' w.heap.size 9 NoB v ((withF op.data.toList (splitC s.data.toList)).map bs)∧Below w.heap.size w w':=by
 have hk0:WiB w w.heap.size op [] (((w.alloc (.cells #[.string op] 9)).alloc (.cells #[.slice none 0 0] 40)).alloc (.cells #[.string s] 9)):=by
  have h2:=(Blk.new (w.alloc (.cells #[.string op] 9)) 40 #[.slice none 0 0]).alloc (.cells #[.string s] 9)
  simp only [World.size_alloc] at h2
  refine ⟨((Blk.new w 9 #[.string op]).alloc _).alloc _,⟨_,h2,Own.nil _ _ _ _ _⟩,?_,Nat.le_refl _,by simp only [World.size_alloc];omega⟩
  refine (((Below.refl _ w).alloc (Nat.le_refl _) _).alloc ?_ _).alloc ?_ _<;>simp only [World.size_alloc]<;>omega
 have hbs:Blk (((w.alloc (.cells #[.string op] 9)).alloc (.cells #[.slice none 0 0] 40)).alloc (.cells #[.string s] 9)) (w.heap.size+2) 9 #[.string s]:=by
  have h3:=Blk.new ((w.alloc (.cells #[.string op] 9)).alloc (.cells #[.slice none 0 0] 40)) 9 #[.string s]
  simp only [World.size_alloc] at h3
  exact h3
 have HK0:=Lib.hid hk0
 have HSEQ:=Lib.hid (texts_seq (w.heap.size+2) s _ hbs hs)
 have HLT:Hid (w.heap.size+2 < (((w.alloc (.cells #[.string op] 9)).alloc (.cells #[.slice none 0 0] 40)).alloc (.cells #[.string s] 9)).heap.size):=hbs.lt
 have HLL:=Lib.hid hl
 clear hk0 hbs hs hl
 generalize splitC s.data.toList=L at *
 refine (callsIn_wide (n:=9)).1 ?_
 refine callsIn_of_wp_marks Tryz.func174 rfl trivial ?_ rfl
 simp only [Tryz.ntmps174,List.size_toArray,List.length_cons,List.length_nil,Nat.reduceAdd,Nat.reduceSub,Array.replicate_succ,Array.replicate_zero,List.push_toArray,List.append_toArray,List.nil_append,List.cons_append]
 gi_wp2_with (refine ⟨trivial,?_⟩;gi_at_call 144;refine (callsIn_wide.2 (texts_any s _)).mono ?_;rintro e w' ⟨rfl,rfl⟩)
 generalize ((w.alloc (.cells #[.string op] 9)).alloc (.cells #[.slice none 0 0] 40)).alloc (.cells #[.string s] 9)=W0 at *
 have hwl:∀pre:List SL,vals pre <+: L→(withF op.data.toList (vals pre)).length≤100000:=fun pre hp=>Nat.le_trans (List.length_filter_le _ _) (Nat.le_trans hp.length_le HLL.out)
 refine wpIn_rangeFunc_box rfl (by omega) (gf:=180) (lb:=#[.pointer (some ⟨w.heap.size+2,0,none⟩)]) rfl trivial (enters_of Tryz.func180 (by kernel_rfl) rfl)
  (encs:=encS) HLT.out HSEQ.out (Below.refl _ _) (fun _=>rfl)
  (fun pre W=>WiB w w.heap.size op (withF op.data.toList (vals pre)) W)
  (fun _ _ _=>False)
  (fun pre W W' row hi hg hr=>hi.own rfl HK0.out.below.size hg hr)
  (fun c pre W W' row hi hg hr=>hi.elim)
  HK0.out
  (fun x=>{tmps:=#[.string s,.string op,undef,.pointer (some ⟨w.heap.size,0,none⟩),.slice none 0 0,.pointer (some ⟨w.heap.size+1,0,none⟩),.string ⟨x.1.toArray⟩,undef,undef,undef,.string s,.func (.func 180) #[] #[.pointer (some ⟨w.heap.size+2,0,none⟩)],.string ⟨x.1.toArray⟩,undef,undef,undef,undef,undef,undef,undef,undef,undef,undef,undef,undef,undef,undef,undef,undef,undef,undef],defers:=[]})
  ?assign ?body ?done ?stop
 case assign=>
  intro l x W K hK
  dsimp only [encS]
  gi_wp2
  exact hK
 case body=>
  rintro l pre x W hsp hk
  have HW:=Lib.hid (withF_snoc op.data.toList (vals pre) x.1)
  have hva:vals (pre++[x])=vals pre++[x.1]:=by simp [vals]
  have HVA:=Lib.hid hva
  have HWL:=Lib.hid (hwl pre ((List.prefix_append _ _).trans (by rw [hva] at hsp;exact hsp)))
  have HK:=Lib.hid hk
  have HB:=Lib.hid hk.below
  obtain ⟨v,hb1,hov⟩:=hk.acc
  have HOV:=Lib.hid hov
  have HB1:=Lib.hid hb1
  obtain ⟨oa,oc,rfl⟩:=hov.form
  have d0:=hk.op.cell 0
  have d1:=hb1.cell 0
  have g1:=hb1.free 0
  have hxl:=x.2
  obtain ⟨x,hx⟩:=x
  dsimp only at *
  clear hk hb1 hov hsp hva hwl
  by_cases h9:x.length < 9
  ·have hwb:wordB op.data.toList x=false:=by unfold wordB;rw [decide_eq_false (by omega)];rfl
   rw [hwb] at HW
   have h9':(x.length:Int) < 9:=by omega
   gi_wp2
   exact ⟨KeepsFrom.refl _ _,rfl,by show WiB _ _ _ (withF _ (vals _)) _;rw [HVA.out,HW.out];exact HK.out⟩
  ·have h9':¬(x.length:Int) < 9:=by omega
   have h90:9≤x.length:=by omega
   have hxs:((⟨x.toArray⟩:ByteArray).extract 9 x.length).size≤1000000:=by
    show ((⟨x.toArray⟩:ByteArray).extract 9 x.length).data.size≤_
    rw [←Array.length_toList,drop9,List.length_drop];omega
   have HCU:=Lib.hid (Cut_any ((⟨x.toArray⟩:ByteArray).extract 9 x.length) 32 W hxs)
   rw [drop9] at HCU
   have hm:=mnem_eq x op h90
   rw [hm] at HW
   unfold mnemF at HW
   generalize Lib.cut (x.drop 9) [32]=q at *
   obtain ⟨q1,q2,q3⟩:=q
   dsimp only at *
   generalize (⟨q1.toArray⟩:ByteArray)=m at *
   have HBD:=Lib.hid (fun n=>below_dN (Below.refl W.heap.size W) n)
   clear hxs hm
   cases hq:(m.toList==op.toList)
   ·rw [hq] at HW
    gi_wp2_with (refine ⟨trivial,?_⟩;gi_at_call 181;refine (CallsIn.inRound l (callsIn_wide.2 HCU.out)).mono ?_;rintro e w2 ⟨rfl,nq,rfl⟩)
    exact ⟨⟨Nat.le_refl _,fun _ _ _ h _=>h⟩,rfl,by show WiB _ _ _ (withF _ (vals _)) _;rw [HVA.out,HW.out];exact HK.out.drewN nq⟩
   ·rw [hq] at HW
    rw [List.length_map] at HB1 HOV
    have HAPP:=Lib.hid (fun n=>WiB.app x HK.out HB1.out HOV.out HWL.out n)
    rw [List.length_map] at d1
    generalize withF op.data.toList (vals pre)=F at *
    gi_wp2_with (first
     | (refine ⟨trivial,?_⟩;gi_at_call 181;refine (CallsIn.inRound l (callsIn_wide.2 HCU.out)).mono ?_;rintro e w2 ⟨rfl,nq,rfl⟩;obtain ⟨a5,c5,w3,hrun,hb3,hkf,hbx,hwi⟩:=HAPP.out nq;have HRN:=Lib.hid hrun;have g3:=hb3.free 0;have d3:=hb3.cell 0;have HKF:=Lib.hid hkf;have HBX:=Lib.hid hbx;have HWI:=Lib.hid hwi;clear hkf hbx hwi hb3 hrun)
     | (gi_at_builtin;refine wpListIn_append_run rfl (.tmp 26) (.tmp 28) 40 rfl rfl rfl HRN.out ?_))
    have hlt:=HLT.out
    exact ⟨⟨HKF.out.size,fun k o hk ho hc=>HKF.out.same k o (by omega) ho hc⟩,HBX.out,by show WiB _ _ _ (withF _ (vals _)) _;rw [HVA.out,HW.out];exact HWI.out⟩
 case done=>
  rintro D xs W hD hall hk hK
  have HKD:=Lib.hid hK
  have hk2:=hk.own (bx:=w.heap.size+2) (B:=W0.heap.size) rfl HK0.out.below.size (grownBy_putObj' _ D (.deferred none)) (fun r e=>by injection e with e;subst e;exact .inr ⟨hD,_,hK,rfl⟩)
  rw [hall] at hk2
  obtain ⟨v,hb1,hov⟩:=hk.acc
  obtain ⟨v2,hb2,hov2⟩:=hk2.acc
  have hvv:v2=v:=by
   have hne:w.heap.size+1≠D:=by have:=HLT.out;omega
   have e1:(W.putObj D (.deferred none)).heap[w.heap.size+1]?=W.heap[w.heap.size+1]?:=World.putObj_heap_other hne
   have e2:_=some _:=hb1
   have e3:_=some _:=hb2
   rw [e1,e2] at e3
   injection e3 with e3
   injection e3 with e3
   injection e3 with e3
   injection e3 with e3
   exact e3.symm
  subst hvv
  have HOV:=Lib.hid (hov2.base (B':=w.heap.size) (by omega))
  have HBW:=Lib.hid hk2.below
  have d1:=hb1.cell 0
  clear hk hk2 hb1 hb2 hov hov2 hK hwl
  gi_wp2
  refine ⟨by simp,.inl ⟨_,_,rfl,run_takeDeferred HKD.out,?_⟩⟩
  refine ⟨v2,?_,?_⟩
  ·simp [results,Tryz.results174,go_sem]
  ·exact ⟨_,rfl,HOV.out,HBW.out⟩
 case stop=>
  rintro D c pre W hD hpre h hK
  exact h.elim
end Go.Proofs.YtjmekllgnhkodaaGreatDoor
namespace Go.Proofs.YtjmekllgnhkodaaGreatDoor
set_option maxHeartbeats 8000000
set_option maxRecDepth 100000
open Go.RowKit Go.Shelf Go.Sort
theorem patL_short (p:Int):∀t∈patL p,t.length≤1000:=by
 have h0:(splitC mainB.data.toList).all (fun t=>decide (t.length≤1000))=true:=by decide+kernel
 have h1:(splitC cbB.data.toList).all (fun t=>decide (t.length≤1000))=true:=by decide+kernel
 have h2:(splitC edB.data.toList).all (fun t=>decide (t.length≤1000))=true:=by decide+kernel
 have h3:(splitC (⟨#[]⟩:ByteArray).data.toList).all (fun t=>decide (t.length≤1000))=true:=by decide+kernel
 have key:(patL p).all (fun t=>decide (t.length≤1000))=true:=by
  unfold patL patB
  split
  ·exact h0
  split
  ·exact h1
  split
  ·exact h2
  ·exact h3
 intro t ht
 exact of_decide_eq_true (List.all_eq_true.1 key t ht)
theorem patB_size (p:Int):(patB p).size≤1000000:=by
 unfold patB
 split
 ·decide+kernel
 split
 ·decide+kernel
 split
 ·decide+kernel
 ·decide+kernel
theorem patL_len (p:Int):(splitC (patB p).data.toList).length≤100000:=by
 unfold patB
 split
 ·decide+kernel
 split
 ·decide+kernel
 split
 ·decide+kernel
 ·decide+kernel
theorem nam1_any (t:ByteArray) (x b:Nat) (hx:x < 256) (w:World) (hb:Blk w b 3 #[.int .i64 x]) (ht:t.size≤1000000):
  Calls Tryz.prog 177 #[.string t,.pointer (some ⟨b,0,none⟩)] w fun e w'=>e=.returned (.bool (fitsF t.data.toList x))∧w'=w:=by
 have HF:=Lib.hid (tfits_any t x hx w ht)
 have d0:=hb.cell 0
 have hwr:=wrap_u8 hx
 clear hb
 go_enter Tryz.func177,Tryz.ntmps177
 go_wp2_with (go_at_call 145;refine HF.out.mono ?_;rintro e w' ⟨rfl,rfl⟩)
 go_ret
 exact ⟨rfl,rfl⟩
theorem idxN_any (x b:Nat) (hx:x < 256) (p:Blocks) (v:Value) (l:List ByteArray) (w:World) (h:SlR strR w p v l) (hs:∀t∈l,t.size≤1000000) (hb:Blk w b 3 #[.int .i64 x]):
  Calls Tryz.prog 200 #[v,.func (.func 177) #[] #[.pointer (some ⟨b,0,none⟩)]] w fun e w'=>(∃r:Int,e=.returned (.int .i64 r)∧decide (0≤r)=l.any fun t=>fitsF t.data.toList x)∧w'=w:=by
 obtain ⟨a,c,rfl,_,_,g1⟩:=h.str
 have hl:=h.len_le
 have HN:=Lib.hid (fun t ht=>nam1_any t x b hx w hb ht)
 have HS:=Lib.hid hs
 have HG:=Lib.hid g1
 clear h hs g1 hb
 go_enter Tryz.func200,Tryz.ntmps200
 go_wp2
 go_loop [8] (fun i=>∃k:Nat,k≤l.length∧i=.int .i64 k∧(l.any fun t=>fitsF t.data.toList x)=((l.drop k).any fun t=>fitsF t.data.toList x)) (fun i=>l.length - (intOf i).toNat)
 case atStart=>exact ⟨0,Nat.zero_le _,rfl,rfl⟩
 case round=>
  obtain ⟨k,hk,rfl,ht⟩:=hrel
  have HT:=Lib.hid ht
  clear ht
  by_cases hlt:k < l.length
  ·have hg:=HG.out k l[k] (List.getElem?_eq_getElem hlt)
   obtain ⟨b1,o1,rfl,d1⟩:∃b o,a=some ⟨b,o,none⟩∧w.cell? ⟨b,o+k,none⟩=some (.string l[k]):=by
    obtain ⟨b,o,e1,_,e2⟩:=hg
    exact ⟨b,o,e1,by simpa using e2⟩
   have HD:=Lib.hid (List.drop_eq_getElem_cons hlt)
   have HVA:=Lib.hid (HN.out l[k] (HS.out _ (List.getElem_mem hlt)))
   clear hg
   generalize l[k]=t at *
   cases hvx:fitsF t.data.toList x
   all_goals
    rw [hvx] at HVA
    have HVX:=Lib.hid hvx
    clear hvx
   ·go_wp2_with (go_at_call 177;refine HVA.out.mono ?_;rintro e w2 ⟨rfl,rfl⟩)
    go_round
    case rel=>exact ⟨k+1,by omega,by go_num,by rw [HT.out,HD.out,List.any_cons,HVX.out,Bool.false_or]⟩
    case measure=>simp [intOf];omega
   ·go_wp2_with (go_at_call 177;refine HVA.out.mono ?_;rintro e w2 ⟨rfl,rfl⟩)
    go_ret
    exact ⟨⟨k,rfl,by rw [HT.out,HD.out,List.any_cons,HVX.out];simp⟩,rfl⟩
  ·go_wp2
   go_ret
   exact ⟨⟨-1,rfl,by rw [HT.out,List.drop_of_length_le (by omega)];simp⟩,rfl⟩
theorem cntN_any (x b:Nat) (hx:x < 256) (p:Blocks) (v:Value) (l:List ByteArray) (w:World) (h:SlR strR w p v l) (hs:∀t∈l,t.size≤1000000) (hb:Blk w b 3 #[.int .i64 x]):
  Calls Tryz.prog 176 #[v,.func (.func 177) #[] #[.pointer (some ⟨b,0,none⟩)]] w fun e w'=>e=.returned (.bool (l.any fun t=>fitsF t.data.toList x))∧w'=w:=by
 have HI:=Lib.hid (idxN_any x b hx p v l w h hs hb)
 obtain ⟨a,c,rfl,_⟩:=h.str
 clear h hb
 go_enter Tryz.func176,Tryz.ntmps176
 go_wp2_with (go_at_call 200;refine HI.out.mono ?_;rintro e w1 ⟨⟨r,rfl,hr⟩,rfl⟩;have HR:=Lib.hid hr;clear hr)
 go_ret
 exact ⟨ret_bool HR.out,rfl⟩
theorem cntS_any (p:Blocks) (v:Value) (l:List (List UInt8)) (t:List UInt8) (w:World) (h:SlR strR w p v (l.map bs)):
  Calls Tryz.prog 178 #[v,.string ⟨t.toArray⟩] w fun e w'=>e=.returned (.bool (l.contains t))∧w'=w:=by
 have hl:=h.len_le
 obtain ⟨a,c,rfl,_,_,g1⟩:=h.str
 cases l with
 | nil=>exact (Tryz.slices_Contains_string_empty a c ⟨t.toArray⟩ w).mono (fun e w' h=>h)
 | cons y l=>
  obtain ⟨b,o,rfl,_⟩:=g1 0 (bs y) rfl
  have hcs:∀j,j < ((y::l).map bs).length→w.cell? ⟨b,o+j,none⟩=some (.string (((y::l).map bs).getD j ByteArray.empty)):=fun j hj=>by
   obtain ⟨b2,o2,e2,_,hc⟩:=g1 j _ (List.getElem?_eq_getElem hj)
   injection e2 with e2
   injection e2 with e2 e3
   subst e2 e3
   rw [List.getD_eq_getElem?_getD,List.getElem?_eq_getElem hj]
   exact hc
  refine (Tryz.slices_Contains_string b o _ c ((y::l).map bs) ⟨t.toArray⟩ w (Nat.le_refl _) hl hcs).mono ?_
  rintro e w' ⟨rfl,rfl⟩
  refine ⟨ret_bool ?_,rfl⟩
  rw [List.take_length,Bool.eq_iff_iff,Lib.containsS_iff,List.contains_iff_mem,List.mem_map]
  constructor
  ·rintro ⟨z,hz,e⟩
   have:z=t:=by
    have:=congrArg (fun s:ByteArray=>s.data.toList) e
    simpa [bs] using this
   rwa [this] at hz
  ·intro hz
   exact ⟨t,hz,rfl⟩
theorem Own.apart {α β:Type} {R:Rep α} {S:Rep β} {w:World} {B C:Nat} {e t:TypeId} {p q:Blocks} {v u:Value} {xs:List α} {ys:List β} (h1:Own R w B e p v xs) (h2:Own S w C t q u ys) (hte:e≠t):∀k,v.ownBlock=some k→u.ownBlock≠some k:=by
 obtain ⟨c1,r1,_⟩:=h1
 obtain ⟨c2,r2,_⟩:=h2
 intro k hk hk2
 rcases r1.2 with ⟨rfl,_⟩ | ⟨g,cap,cur,rfl,_,hg,_⟩
 ·cases hk
 rcases r2.2 with ⟨rfl,_⟩ | ⟨g2,cap2,cur2,rfl,_,hg2,_⟩
 ·cases hk2
 obtain rfl:g=k:=Option.some.inj hk
 obtain rfl:g2=g:=Option.some.inj hk2
 rw [hg] at hg2
 injection hg2 with hg2
 injection hg2 with _ h
 exact hte h
theorem withB_ok (op:List UInt8) (p:Int):∀t∈(withF op (patL p)).map bs,t.size≤1000000:=by
 intro t ht
 obtain ⟨y,hy,rfl⟩:=List.mem_map.1 ht
 have:=patL_short p y (List.mem_filter.1 hy).1
 show y.toArray.size≤_
 rw [List.size_toArray];omega
theorem any_bs (f:List UInt8→Bool) (l:List (List UInt8)):((l.map bs).any fun t=>f t.data.toList)=l.any f:=by
 rw [List.any_map]
 congr 1
theorem flat_namF_len (op:List UInt8) (L:List Int):(L.flatMap (namF op)).length≤L.length * 256:=by
 induction L with
 | nil=>simp
 | cons a L ih=>
  have:=namK_len op a 256
  rw [List.flatMap_cons,List.length_append,List.length_cons]
  unfold namF at *
  omega
theorem lookP_at {w:World} {o:Option (List UInt8)} {e:Ending} {w':World} (h:lookP w o e w'):e=.returned (.tuple #[.string ⟨(o.getD []).toArray⟩,.bool o.isSome])∧Below w.heap.size w w':=by
 obtain ⟨h1,h2⟩:=h
 refine ⟨?_,h2⟩
 rw [h1]
 cases o<;>rfl
theorem Named_tab_any (op:ByteArray) (p:Blocks) (v:Value) (l:List Int) (w:World) (h:SlR intR w p v l) (hn:(pagesF l).length≤1000) (hT:Spc w):
  Calls Tryz.prog 137 #[.string op,v] w (EntsP 50 w ((pagesF l).flatMap (namF op.data.toList))):=by
 have HEP:Hid (EntsP 50 w ((pagesF l).flatMap (namF op.data.toList))=fun e w'=>∃v,e=.returned v∧Acc entR w' w.heap.size 50 v ((pagesF l).flatMap (namF op.data.toList))∧Below w.heap.size w w'):=rfl
 rw [HEP.out]
 have HEV:=Lib.hid (every_any p v l w h)
 generalize pagesF l=L at *
 have HT:=Lib.hid hT
 clear HEP h hT
 go_enter Tryz.func137,Tryz.ntmps137
 go_wp2_with fail
 refine HEV.out.mono ?_
 rintro e w1 ⟨v1,q,rfl,hs,hb⟩
 have HS:=Lib.hid hs
 have HB1:=Lib.hid hb
 obtain ⟨a1,c1,rfl,_,_,_⟩:=hs.int
 clear hs hb HEV
 go_wp2
 go_loopw [5,17] (fun s5 s17 wx=>∃k:Nat,k≤L.length∧s17=.int .i64 k∧Acc entR wx w1.heap.size 50 s5 ((L.take k).flatMap (namF op.data.toList))∧Below w1.heap.size w1 wx) (fun _ s17 _=>L.length - (intOf s17).toNat)
 case atStart=>exact ⟨0,by omega,rfl,Acc.nil _ _ _,Below.refl _ _⟩
 case round=>
  obtain ⟨k,hk,rfl,hacc,hb⟩:=hrel
  have HC:=Lib.hid hacc
  have HB:=Lib.hid hb
  clear hacc hb
  by_cases hlt:k < L.length
  ·obtain ⟨a9,c9,e9,_,_,g9⟩:=(HS.out.below HB.out).int
   injection e9 with e9 e10 e11
   clear e10
   subst e9 e11
   obtain ⟨b,o,rfl,d1⟩:∃b o,a1=some ⟨b,o,none⟩∧wr.cell? ⟨b,o+k,none⟩=some (.int .i64 L[k]):=by
    obtain ⟨b,o,e1,_,e2⟩:=g9 k L[k] (List.getElem?_eq_getElem hlt)
    exact ⟨b,o,e1,by simpa using e2⟩
   have hft:(L.take (k+1)).flatMap (namF op.data.toList)=(L.take k).flatMap (namF op.data.toList)++namF op.data.toList L[k]:=by
    rw [List.take_succ_eq_append_getElem hlt,List.flatMap_append];simp
   have HFT:=Lib.hid hft
   have hfl:=flat_namF_len op.data.toList (L.take k)
   have htl:(L.take k).length≤k:=List.length_take_le _ _
   have HPL:Hid (((L.take k).flatMap (namF op.data.toList)).length≤256000):=(by show _≤_;omega)
   clear g9 hfl htl hft
   generalize L[k]=page at *
   generalize (L.take k).flatMap (namF op.data.toList)=pre at *
   obtain ⟨a3,c3,rfl⟩:=HC.out.form
   have HPA:=Lib.hid (fun W=>patterns_any page W)
   have HWI:=Lib.hid (with_any (patB page) op wr (patB_size page) (patL_len page))
   have HWO:=Lib.hid (withB_ok op.data.toList page)
   go_wp2_with (first
    | (go_at_call 175;refine (HPA.out _).mono ?_;rintro e w2 ⟨rfl,rfl⟩)
    | (go_at_call 174;refine HWI.out.mono ?_;rintro e w2 ⟨v2,rfl,ho2,hb2⟩;obtain ⟨a2,c2,rfl⟩:=ho2.form;have HO2:=Lib.hid (ho2.base (B':=w1.heap.size) HB.out.size);have HC2:=Lib.hid (HC.out.stay hb2);have HB2:=Lib.hid (HB.out.trans (hb2.mono HB.out.size));clear ho2 hb2))
   have HASK:Hid (∀j,askB op.data.toList page j=((withF op.data.toList (splitC (patB page).data.toList)).any (fun t=>fitsF t j)&&(withF op.data.toList (splitC (patB page).data.toList)).contains ((lookF j (splitC (patB page).data.toList)).getD []))):=fun _=>rfl
   have HWP:Hid (∀t∈(withF op.data.toList (splitC (patB page).data.toList)).map bs,t.size≤1000000):=HWO.out
   have HLK:=Lib.hid (fun j hj W=>lookup_any (patB page) j hj W (patB_size page))
   rw [List.length_map] at HO2
   clear HWI HWO
   generalize withF op.data.toList (splitC (patB page).data.toList)=M at *
   generalize splitC (patB page).data.toList=PL at *
   have HK:=Lib.hid hk
   go_loopw [5,25] (fun s5 s25 wx=>∃j:Nat,j≤256∧s25=.int .i64 j∧Acc entR wx w1.heap.size 50 s5 (pre++namK op.data.toList page j)∧Own strR wx w1.heap.size 9 NoB (.slice a2 M.length c2) (M.map bs)∧Below w1.heap.size w1 wx) (fun _ s25 _=>256 - (intOf s25).toNat)
   case atStart=>exact ⟨0,by omega,rfl,by simpa [namK,entsK] using HC2.out,HO2.out,HB2.out⟩
   case round=>
    clear HC2 HO2 HB2 HC HB d1
    obtain ⟨j,hj,rfl,hacc,hown,hb⟩:=hrel
    have HC:=Lib.hid hacc
    have HO:=Lib.hid hown
    have HB:=Lib.hid hb
    clear hacc hown hb
    by_cases hlt2:j < 256
    ·have hwr:=wrap_u8 hlt2
     have HBa:=Lib.hid ((Below.refl wr.heap.size wr).alloc (Nat.le_refl _) (.cells #[.int .i64 (j:Int)] 3))
     have HJ:=Lib.hid (Blk.new wr 3 #[.int .i64 (j:Int)])
     have HSL:=Lib.hid ((HO.out.slR (q:=fun k=>w1.heap.size≤k) (fun _ h=>h.elim) (fun _ h=>h)).alloc (.cells #[.int .i64 (j:Int)] 3))
     have HCF:=Lib.hid (cntN_any j wr.heap.size hlt2 _ _ _ _ HSL.out HWP.out HJ.out)
     rw [any_bs (fun t=>fitsF t j)] at HCF
     have HAJ:=Lib.hid (HASK.out j)
     have HNO:=Lib.hid (fun h=>namK_out (op:=op.data.toList) (p:=page) hlt2 h)
     have hml:=namK_len op.data.toList page j
     have HML:Hid ((pre++namK op.data.toList page j).length+1≤1000000):=(by have:=HPL.out;show _≤_;rw [List.length_append];omega)
     clear hml
     generalize hpm:pre++namK op.data.toList page j=PM at *
     have HPM:=Lib.hid hpm
     clear hpm
     obtain ⟨a4,c4,rfl⟩:=HC.out.form
     cases hc1:M.any (fun t=>fitsF t j)
     ·rw [hc1,Bool.false_and] at HAJ
      rw [hc1] at HCF
      have HN:=Lib.hid (HNO.out HAJ.out)
      clear HNO hc1
      go_wp2_with (go_at_call 176;refine HCF.out.mono ?_;rintro e w2 ⟨rfl,rfl⟩)
      go_round
      case rel=>exact ⟨j+1,by omega,by go_num,by rw [HN.out,HPM.out];exact HC.out.stay HBa.out,HO.out.keep (Keep.of_below HBa.out (fun k hk=>by rcases hk with hk | hk;exact hk.elim;exact (HO.out.lt k hk).2)),HB.out.trans (HBa.out.mono HB.out.size)⟩
      case measure=>simp [intOf];omega
     rw [hc1,Bool.true_and] at HAJ
     rw [hc1] at HCF
     clear hc1
     go_upto_region 10 with (go_at_call 176;refine HCF.out.mono ?_;rintro e w2 ⟨rfl,rfl⟩)
     have HJB:Hid (∀(w':World),Below wr.heap.size (wr.alloc (.cells #[.int .i64 (j:Int)] 3)) w'→True):=fun _ _=>trivial
     have hj0:=HJ.out.cell 0
     have hjl:=HJ.out.lt
     go_region_held3 (fun w'=>w'.cell? ⟨wr.heap.size,0,none⟩=some (.int .i64 (j:Int))) (go_keep)
      (first
       | (go_at_call 175;refine (HPA.out _).mono ?_;rintro e w2 ⟨rfl,rfl⟩)
       | (go_at_call 98;refine (HLK.out j hlt2 _).mono ?_;rintro e w2 hlk;obtain ⟨rfl,hb⟩:=lookP_at hlk;have hjc:=hb.cell (p:=⟨wr.heap.size,0,none⟩) hjl;have HBL:=Lib.hid hb;clear hlk hb))
     have HBW:Hid (Below (wr.alloc (.cells #[.int .i64 (j:Int)] 3)).heap.size (wr.alloc (.cells #[.int .i64 (j:Int)] 3)) w2):=(Below.refl _ _).drew.trans HBL.out
     have HB2:Hid (Below wr.heap.size wr w2):=HBa.out.trans (HBW.out.mono HBa.out.size)
     have HS2:=Lib.hid (HSL.out.below HBW.out)
     have HCO:=Lib.hid (cntS_any _ _ M ((lookF j PL).getD []) w2 HS2.out)
     have HO2:=Lib.hid (HO.out.keep (Keep.of_below HB2.out (fun k hk=>by rcases hk with hk | hk;exact hk.elim;exact (HO.out.lt k hk).2)))
     have HC2:=Lib.hid (HC.out.stay HB2.out)
     have HB3:=Lib.hid (HB.out.trans (HB2.out.mono HB.out.size))
     have HYE:=Lib.hid (fun h x=>namK_in (op:=op.data.toList) (p:=page) hlt2 h (e:=x))
     clear HBL HBW HCF HSL HS2 hj0 hjl HJB HBa HJ
     generalize (lookF j PL).getD []=lk at *
     cases hc2:M.contains lk
     ·rw [hc2] at HAJ HCO
      have HN:=Lib.hid (HNO.out HAJ.out)
      clear HNO hc2 HYE
      go_wp2_with (go_at_call 178;refine HCO.out.mono ?_;rintro e w3 ⟨rfl,rfl⟩)
      go_round
      case rel=>exact ⟨j+1,by omega,by go_num,by rw [HN.out,HPM.out];exact HC2.out,HO2.out,HB3.out⟩
      case measure=>simp [intOf];omega
     rw [hc2] at HAJ HCO
     have HA1:=Lib.hid (At_any page j hlt2 w2 (HT.out.below (HB1.out.trans (HB3.out.mono HB1.out.size))))
     have HK1:=Lib.hid (atF_kind page j)
     have HY:=Lib.hid (fun x=>HYE.out HAJ.out x)
     have HN:=Lib.hid (namK_no (op:=op.data.toList) (p:=page) (k:=j))
     clear HNO HYE hc2
     generalize atF page j=xk at *
     obtain ⟨x,kd⟩:=xk
     dsimp only at *
     go_upto_region 12 with (go_at_call 178;refine HCO.out.mono ?_;rintro e w3 ⟨rfl,hw3⟩;subst w3)
     go_wp2_with fail
     refine HA1.out.mono ?_
     rintro e w4 ⟨he,hb4⟩
     have HB4:=Lib.hid hb4
     have HS4:=Lib.hid hb4.size
     have HO4:=Lib.hid (HO2.out.keep (Keep.of_below hb4 (fun k hk=>by rcases hk with hk | hk;exact hk.elim;exact (HO2.out.lt k hk).2)))
     clear hb4
     rcases x with _ | x
     ·have hk1:¬kd=1:=by rcases HK1.out.2 rfl with h | h | h<;>omega
      subst he
      have HN1:=Lib.hid (HN.out rfl)
      clear HN HY
      have HB5:=Lib.hid (HB4.out.alloc HS4.out (.cells #[.int .i64 0,.int .u8 0,.string ⟨#[]⟩,.slice none 0 0,.string ⟨#[]⟩,.bool false] 50))
      unfold ent0
      go_wp2
      go_round
      case rel=>exact ⟨j+1,by omega,by go_num,by rw [HN1.out,HPM.out];exact HC2.out.stay HB5.out,HO2.out.keep (Keep.of_below HB5.out (fun k hk=>by rcases hk with hk | hk;exact hk.elim;exact (HO2.out.lt k hk).2)),HB3.out.trans (HB5.out.mono HB3.out.size)⟩
      case measure=>simp [intOf];omega
     ·obtain rfl:kd=1:=HK1.out.1 _ rfl
      obtain ⟨v,rfl,ho⟩:=he
      obtain ⟨va,vc,rfl⟩:=ho.form
      have HX:=Lib.hid (HY.out x rfl)
      obtain ⟨p1,o1,i1,l1,s1,f1⟩:=x
      dsimp only at *
      have HB5:=Lib.hid (HB4.out.alloc HS4.out (.cells #[.int .i64 p1,.int .u8 o1,.string ⟨i1.toArray⟩,.slice va l1.length vc,.string ⟨s1.toArray⟩,.bool f1] 50))
      have HR:=Lib.hid (entR_rel (x:=⟨p1,o1,i1,l1,s1,f1⟩) (ho.below ((Below.refl w4.heap.size w4).alloc (Nat.le_refl _) (.cells #[.int .i64 p1,.int .u8 o1,.string ⟨i1.toArray⟩,.slice va l1.length vc,.string ⟨s1.toArray⟩,.bool f1] 50))))
      have HCC:=Lib.hid (HC2.out.stay HB5.out)
      have HO5:=Lib.hid (HO2.out.keep (Keep.of_below HB5.out (fun k hk=>by rcases hk with hk | hk;exact hk.elim;exact (HO2.out.lt k hk).2)))
      have HQ:Hid (∀k,w2.heap.size≤k→w1.heap.size≤k∧Value.ownBlock (.slice a4 PM.length c4)≠some k):=fun k hk=>⟨Nat.le_trans HB3.out.size hk,fun e=>absurd (HC2.out.lt k e).2 (Nat.not_lt.2 hk)⟩
      have HLB:Hid ((PM.length+1) * 80≤140737488355328):=(by have:=HML.out;show _≤_;omega)
      have HLL:Hid (PM.length+1≤9223372036854775807):=(by have:=HML.out;show _≤_;omega)
      have HSZ:Hid (w1.heap.size≤(w4.alloc (.cells #[.int .i64 p1,.int .u8 o1,.string ⟨i1.toArray⟩,.slice va l1.length vc,.string ⟨s1.toArray⟩,.bool f1] 50)).heap.size):=Nat.le_trans HB3.out.size HB5.out.size
      have HAP:Hid (∀k,Value.ownBlock (.slice a2 M.length c2)=some k→Value.ownBlock (.slice a4 PM.length c4)≠some k):=by
       obtain ⟨pp,h1,_⟩:=HCC.out
       exact Own.apart HO5.out h1 (by decide)
      clear ho HN HY
      unfold entVal
      dsimp only
      go_wp2_with (at_builtin;refine wpList_push_A rfl (.tmp 53) (.tmp 55) 119 rfl w1.heap.size 50 80 elET _ PM ⟨p1,o1,i1,l1,s1,f1⟩ _ (fun b=>w2.heap.size≤b) rfl (by rw [World.size_alloc];rfl) HCC.out HR.out HQ.out HLB.out HLL.out HSZ.out ?_;intro a' c' w' hp;have HP:=Lib.hid hp;clear hp)
      go_round
      case rel=>exact ⟨j+1,by omega,by go_num,by rw [HX.out,←List.append_assoc,HPM.out];have:=HP.out.1;simpa using this,HO5.out.keep (Keep.grown HP.out.2.1 (fun k hk=>by rcases hk with hk | hk;exact hk.elim;exact ⟨(HO5.out.lt k hk).2,fun e=>HAP.out k hk e.symm⟩)),HB3.out.trans ((HB5.out.mono HB3.out.size).trans (AccP.below HP.out HCC.out HSZ.out))⟩
      case measure=>simp [intOf];omega
    ·obtain rfl:j=256:=by omega
     obtain ⟨a4,c4,rfl⟩:=HC.out.form
     go_wp2
     go_round
     case rel=>exact ⟨k+1,by omega,by go_num,by rw [HFT.out];exact HC.out,HB.out⟩
     case measure=>simp [intOf];omega
  ·obtain rfl:k=L.length:=by omega
   rw [List.take_length] at HC
   go_wp2
   go_ret
   exact ⟨_,rfl,HC.out.base HB1.out.size,HB1.out.trans (HB.out.mono HB1.out.size)⟩
end Go.Proofs.YtjmekllgnhkodaaGreatDoor
