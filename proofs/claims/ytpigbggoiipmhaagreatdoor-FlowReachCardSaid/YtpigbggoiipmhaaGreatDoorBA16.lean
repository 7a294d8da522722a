/-
  table.patterns, table.with. table.Named. search.candidates' iterator. Conditions: sizes; the library's table as its initialiser lays it; the number of pages.
-/
import Derived.Test.YtpigbggoiipmhaaGreatDoorBA14
import Derived.Test.YtpigbggoiipmhaaGreatDoorBA15
namespace Go.Proofs.YtpigbggoiipmhaaGreatDoor
set_option maxHeartbeats 4000000
set_option maxRecDepth 100000
open Go.RowKit Go.Shelf Go.Sort
attribute [local go_sem] Oper.semAt_some
theorem zQ (p:Int) (w:World):Calls Tryz.prog 230 #[.int .i64 p] w λe w'=>e=.returned (.string (lA p))/\w'=w:=by
 by_cases h0:p=0
 ·subst h0;rw [show lA 0=lQ from if_pos (.inl rfl)];exact tX66
 have c0:(p==0)=false:=by rw [yW];exact h0
 by_cases h3:p=3
 ·subst h3;rw [show lA 3=lQ from if_pos (.inr (.inl rfl))];exact tX66
 have c3:(p==3)=false:=by rw [yW];exact h3
 by_cases h4:p=4
 ·subst h4;rw [show lA 4=lQ from if_pos (.inr (.inr rfl))];exact tX66
 have c4:(p==4)=false:=by rw [yW];exact h4
 have e0:lA p=if p=1\/p=5\/p=6 then cbB else if p=2 then edB else ⟨#[]⟩:=if_neg (λe=>e.elim h0 (λe=>e.elim h3 h4));rw [e0];by_cases h1:p=1
 ·subst h1;rw [if_pos (.inl rfl)];exact tX66
 have c1:(p==1)=false:=by rw [yW];exact h1
 by_cases h5:p=5
 ·subst h5;rw [if_pos (.inr (.inl rfl))];exact tX66
 have c5:(p==5)=false:=by rw [yW];exact h5
 by_cases h6:p=6
 ·subst h6;rw [if_pos (.inr (.inr rfl))];exact tX66
 have c6:(p==6)=false:=by rw [yW];exact h6
 rw [if_neg (λe=>e.elim h1 (λe=>e.elim h5 h6))];by_cases h2:p=2
 ·subst h2;rw [if_pos rfl];exact tX66
 have c2:(p==2)=false:=by rw [yW];exact h2
 rw [if_neg h2];clear h0 h1 h2 h3 h4 h5 h6;exact tX66
structure WiB (w0:World) (b:Nat) (op:ByteArray) (l:List (List UInt8)) (w:World):Prop where
 op:Blk w b 9 #[.string op]
 acc:∃v,Blk w (b+1) 24 #[v]/\Own eN w (b+3) 9 NoB v (l.map bs)
 below:Below w0.heap.size w0 w
 at_:w0.heap.size<=b
 sz:b+3<=w.heap.size
theorem Own.ownBF {α:Type} {R:Rep α} {w w':World} {B0 bx B:Nat} {e:TypeId} {v:Value} {xs:List α} {row:Option Nat} (h:Own R w B0 e NoB v xs) (hne:bx < B0) (hg:w.grownBy w' row) (hr:∀r,row=some r->r=bx\/(B<=r/\∃o:Obj,w.heap[r]?=some o/\o.isCells=false)):Own R w' B0 e NoB v xs:=by
 have hlt:=h.lt;have hcells:∀k,v.ownBlock=some k->∃cs t fz,w.heap[k]?=some (.cells cs t fz):=by
  obtain ⟨cs,hrow,_⟩:=h;intro k hk;rcases hrow.2 with ⟨rfl,_⟩ | ⟨g,cap,cur,rfl,hb,hg2,_⟩
  ·cases hk
  ·injection hk with hk;subst hk;exact ⟨_,_,_,hg2⟩
 refine h.keep (λk hk=>?_);rcases hk with hk | hk
 ·exact hk.elim
 ·refine hg.block k (hlt k hk).2 (λe=>?_);rcases hr k e.symm with h1 | ⟨_,o,ho,hc⟩
  ·have:=(hlt k hk).1;omega
  ·obtain ⟨cs,t,fz,h2⟩:=hcells k hk;rw [h2] at ho;injection ho with ho;subst ho;cases hc
theorem WiB.own {w0:World} {b bx B:Nat} {op:ByteArray} {l:List (List UInt8)} (hbx:bx=b+2) (hB:w0.heap.size<=B) {w w':World} {row:Option Nat} (h:WiB w0 b op l w) (hg:w.grownBy w' row) (hr:∀r,row=some r->r=bx\/(B<=r/\∃o:Obj,w.heap[r]?=some o/\o.isCells=false)):WiB w0 b op l w':=by obtain ⟨v,h1,h2⟩:=h.acc;exact ⟨h.op.ownBF (by omega) hg hr,⟨v,h1.ownBF (by omega) hg hr,h2.ownBF (by omega) hg hr⟩,h.below.grown hg h.below.size (λk hk=>by have:=h.at_;rcases hr k hk with h1 | ⟨h1,_⟩<;>omega),h.at_,qJ h.sz hg.size⟩
theorem DM (op:List UInt8) (l:List (List UInt8)) (t:List UInt8):eT op (l++[t])=if rO op t then eT op l++[t] else eT op l:=by unfold eT;rw [z1T];cases h:rO op t<;>simp [h]
theorem fI {F:Fence} {nF:Nat} {P:Program} {ops:Array Oper} {rest:List Oper} {o:Oper} {a:Act} {w:World} {Q:Exit->Act->World->Prop} (hgd:o.guard=none) (s x:Operand) (t:TypeId)
  (ho:o.op=.call {callee:=.builtin .append,args:=#[s,x],argTypes:=#[t,t]}) {v vx r:Value} {w':World} (hs:a.eval s=v) (hxe:a.eval x=vx) (hrun:(Builtin.append_ #[t,t] o.type #[v,vx]).run P w=.ok r w')
  (h:wpListIn F nF P ops Q rest (a.put o.dst r) w'):wpListIn F nF P ops Q (o::rest) a w:=by
 refine wpListIn_plain hgd λK hK'=>?_;unfold Oper.wpIn;refine ⟨?_,?_⟩
 ·simp [Oper.about,ho,resolve,Target.leads,Sem.run_pure]
 ·rw [Oper.semAt_plain F _ _ (by rw [ho];intro c hc';cases hc')];simp [execOp,ho,resolve,invoke,builtin,hs,hxe,hrun,Result.andThen];exact hK' _ _ h
theorem mnem_eq (x:List UInt8) (op:ByteArray) (h:9<=x.length):rO op.data.toList x=((⟨(wJ x).toArray⟩:ByteArray).toList==op.toList):=by unfold rO;rw [z0P h,z0Y,Go.ByteArray.toList_eq,Go.ByteArray.toList_eq];show decide (wJ x=op.data.toList)=(wJ x==op.data.toList);rw [z0C];simp
theorem drop9 (x:List UInt8):((⟨x.toArray⟩:ByteArray).extract 9 x.length).data.toList=x.drop 9:=by simp;exact QD (by simp)
theorem WiB.drewN {w0 w:World} {b:Nat} {op:ByteArray} {l:List (List UInt8)} (h:WiB w0 b op l w) (n:Nat):WiB w0 b op l (w.drewN n):=by obtain ⟨v,h1,h2⟩:=h.acc;exact ⟨h.op,⟨v,h1,h2.keep (λ_ _=>rfl)⟩,aY h.below n,h.at_,h.sz⟩
theorem WiB.app {w0 W:World} {b:Nat} {op:ByteArray} {l:List (List UInt8)} {oa:Option Addr} {oc:Nat} (x:List UInt8) (h:WiB w0 b op l W) (h1:Blk W (b+1) 24 #[.slice oa l.length oc]) (hov:Own eN W (b+3) 9 NoB (.slice oa l.length oc) (l.map bs))
  (hlen:l.length<=100000) (n:Nat):∃a5 c5 w3,(Builtin.append_ #[24,24] 24 #[.slice oa l.length oc,.slice (some ⟨W.heap.size,0,none⟩) 1 1]).run Tryz.prog ((W.drewN n).alloc (.cells #[.string ⟨x.toArray⟩] 9))=.ok (.slice a5 (l.length+1) c5) w3/\
   Blk w3 (b+1) 24 #[.slice oa l.length oc]/\KeepsFrom (b+3) W (w3.setCell ⟨b+1,0,none⟩ (.slice a5 (l.length+1) c5))/\(w3.setCell ⟨b+1,0,none⟩ (.slice a5 (l.length+1) c5)).heap[b+2]?=W.heap[b+2]?/\WiB w0 b op (l++[x]) (w3.setCell ⟨b+1,0,none⟩ (.slice a5 (l.length+1) c5)):=by
 have hov2:Own eN (W.drewN n) (b+3) 9 NoB (.slice oa l.length oc) (l.map bs):=hov.keep (λ_ _=>rfl);have hlt:=hov.lt;have hat:=h.at_;have hB:=h.sz;have hcells:∀k,Value.ownBlock (.slice oa l.length oc)=some k->∃cs t fz,W.heap[k]?=some (.cells cs t fz):=by obtain ⟨cs,hrow,_⟩:=hov;exact tX4b
 obtain ⟨a5,c5,w3,hrun,ho,hg⟩:=Own.pushed (P:=Tryz.prog) (t:=24) (ty:=24) (x:=bs x) elStr hov2 #[.string ⟨x.toArray⟩] rfl (by rw [z0B];omega) (by rw [z0B];omega) hB;rw [z0B] at hrun ho;have hkeep:∀k o,W.heap[k]?=some o->Value.ownBlock (.slice oa l.length oc)≠some k->w3.heap[k]?=some o:=λk o hk hne=>(hg.block k (jN.1 hk).1 (λe=>hne e.symm)).trans hk;have hnot:∀k,k < b+3->Value.ownBlock (.slice oa l.length oc)≠some k:=λk hk e=>by have:=(hlt k e).1;omega
 have h13:Blk w3 (b+1) 24 #[.slice oa l.length oc]:=hkeep _ _ h1 (hnot _ (by omega));have hsz:W.heap.size<=w3.heap.size:=hg.size;refine ⟨a5,c5,w3,hrun,h13,⟨by rw [yY];exact hsz,λk o hk hko hc=>?_⟩,?_,⟨?_,⟨_,h13.set 0 _,?_⟩,?_,hat,by rw [yY];omega⟩⟩
 ·refine (xV _ _ _ _ (by show k≠b+1;omega)).trans (hkeep _ _ hko (λe=>?_));exact tX76
 ·refine (xV _ _ _ _ (by show b+2≠b+1;omega)).trans ?_;exact hg.block (b+2) (by show b+2 < W.heap.size;omega) (λe=>hnot _ (by omega) e.symm)
 ·have h0:Blk w3 b 9 #[.string op]:=hkeep _ _ h.op (hnot _ (by omega));exact h0.far (p:=⟨b+1,0,none⟩) (by show b≠b+1;omega) _
 ·rw [z0O];refine ho.keep (λk hk=>xV _ _ _ _ ?_);rcases hk with hk | hk
  ·exact hk.elim
  ·have:=(ho.lt k hk).1;show k≠b+1;omega
 ·refine Below.setCell ?_ (by show _<=b+1;omega) _;exact h.below.trans (((aY (zY W.heap.size W) n).mono h.below.size).trans ((zY _ _).grown hg h.below.size (λk hk=>by have:=(hlt k hk).1;omega)))
theorem SR (s op:ByteArray) (w:World) (hs:s.size<=1000000) (hl:(aU s.data.toList).length<=100000):
  Calls Tryz.prog 229 #[.string s,.string op] w λe w'=>∃v,e=.returned v/\Own eN w' w.heap.size 9 NoB v ((eT op.data.toList (aU s.data.toList)).map bs)/\Below w.heap.size w w':=by
 have hk0:WiB w w.heap.size op [] (((w.alloc (.cells #[.string op] 9)).alloc (.cells #[.slice none 0 0] 24)).alloc (.cells #[.string s] 9)):=by have h2:=(Blk.new (w.alloc (.cells #[.string op] 9)) 24 #[.slice none 0 0]).alloc (.cells #[.string s] 9);simp only [World.size_alloc] at h2;refine ⟨((Blk.new w 9 #[.string op]).alloc _).alloc _,⟨_,h2,Own.nil _ _ _ _ _⟩,?_,zI _,by simp only [World.size_alloc];omega⟩;refine (((zY _ w).alloc (zI _) _).alloc ?_ _).alloc ?_ _<;>simp only [World.size_alloc]<;>omega
 have hbs:Blk (((w.alloc (.cells #[.string op] 9)).alloc (.cells #[.slice none 0 0] 24)).alloc (.cells #[.string s] 9)) (w.heap.size+2) 9 #[.string s]:=by have h3:=Blk.new ((w.alloc (.cells #[.string op] 9)).alloc (.cells #[.slice none 0 0] 24)) 9 #[.string s];simp only [World.size_alloc] at h3;exact h3
 have HK0:=aA hk0;have HSEQ:=aA (vU (w.heap.size+2) s _ hbs hs);have HLT:Hid (w.heap.size+2 < (((w.alloc (.cells #[.string op] 9)).alloc (.cells #[.slice none 0 0] 24)).alloc (.cells #[.string s] 9)).heap.size):=hbs.lt;have HLL:=aA hl;clear hk0 hbs hs hl;generalize aU s.data.toList=L at *;refine (callsIn_wide (n:=9)).1 ?_;refine callsIn_of_wp_marks Tryz.func229 rfl trivial ?_ rfl;simp only [Tryz.ntmps229,List.size_toArray,List.length_cons,List.length_nil,Nat.reduceAdd,Nat.reduceSub,Array.replicate_succ,Array.replicate_zero,List.push_toArray,List.append_toArray,List.nil_append,List.cons_append];gi_wp2_with (refine ⟨trivial,?_⟩;gi_at_call 256;refine (callsIn_wide.2 (xR s _)).mono ?_;rintro e w' ⟨rfl,rfl⟩);generalize ((w.alloc (.cells #[.string op] 9)).alloc (.cells #[.slice none 0 0] 24)).alloc (.cells #[.string s] 9)=W0 at *;have hwl:∀pre:List SL,iR pre <+: L->(eT op.data.toList (iR pre)).length<=100000:=λpre hp=>qJ (List.length_filter_le _ _) (qJ hp.length_le HLL.out);refine jD rfl (by omega) (gf:=278) (lb:=#[.pointer (some ⟨w.heap.size+2,0,none⟩)]) rfl trivial (enters_of Tryz.func278 (by kernel_rfl) rfl)
  (encs:=MU) HLT.out HSEQ.out (zY _ _) (λ_=>rfl)
  (λpre W=>WiB w w.heap.size op (eT op.data.toList (iR pre)) W)
  (λ_ _ _=>False)
  (λpre W W' row hi hg hr=>hi.own rfl HK0.out.below.size hg hr)
  (λc pre W W' row hi hg hr=>hi.elim)
  HK0.out
  (λx=>{tmps:=#[.string s,.string op,undef,.pointer (some ⟨w.heap.size,0,none⟩),.slice none 0 0,.pointer (some ⟨w.heap.size+1,0,none⟩),.string ⟨x.1.toArray⟩,undef,undef,undef,.string s,.func (.func 278) #[] #[.pointer (some ⟨w.heap.size+2,0,none⟩)],.string ⟨x.1.toArray⟩,undef,undef,undef,undef,undef,undef,undef,undef,undef,undef,undef,undef,undef,undef,undef,undef,undef,undef],defers:=[]})
  ?assign ?body ?done ?stop
 case assign=>intro l x W K hK;dsimp only [MU];gi_wp2;exact hK
 case body=>
  rintro l pre x W hsp hk;have HW:=aA (DM op.data.toList (iR pre) x.1);have hva:iR (pre++[x])=iR pre++[x.1]:=by simp [iR]
  have HVA:=aA hva;have HWL:=aA (hwl pre ((List.prefix_append _ _).trans (by rw [hva] at hsp;exact hsp)));have HK:=aA hk;have HB:=aA hk.below;obtain ⟨v,hb1,hov⟩:=hk.acc;have HOV:=aA hov;have HB1:=aA hb1;obtain ⟨oa,oc,rfl⟩:=hov.form;have d0:=hk.op.cell 0;have d1:=hb1.cell 0;have g1:=hb1.free 0;have hxl:=x.2;obtain ⟨x,hx⟩:=x;dsimp only at *;clear hk hb1 hov hsp hva hwl;by_cases h9:x.length < 9
  ·have hwb:rO op.data.toList x=false:=(by unfold rO;rw [z0A (by omega)];rfl);rw [hwb] at HW;have h9':(x.length:Int) < 9:=(by omega);gi_wp2;exact ⟨KeepsFrom.refl _ _,rfl,by show WiB _ _ _ (eT _ (iR _)) _;rw [HVA.out,HW.out];exact HK.out⟩
  ·have h9':¬(x.length:Int) < 9:=(by omega);have h90:9<=x.length:=(by omega);have hxs:((⟨x.toArray⟩:ByteArray).extract 9 x.length).size<=1000000:=(by show ((⟨x.toArray⟩:ByteArray).extract 9 x.length).data.size<=_;rw [<-Array.length_toList,drop9,JS];omega);have HCU:=aA (KG ((⟨x.toArray⟩:ByteArray).extract 9 x.length) 32 W hxs);rw [drop9] at HCU;have hm:=mnem_eq x op h90;rw [hm] at HW;unfold wJ at HW;generalize Lib.cut (x.drop 9) [32]=q at *;obtain ⟨q1,q2,q3⟩:=q;dsimp only at *;generalize (⟨q1.toArray⟩:ByteArray)=m at *;have HBD:=aA (λn=>aY (zY W.heap.size W) n);clear hxs hm;cases hq:(m.toList==op.toList)
   ·rw [hq] at HW;gi_wp2_with (refine ⟨trivial,?_⟩;gi_at_call 257;refine (CallsIn.inRound l (callsIn_wide.2 HCU.out)).mono ?_;rintro e w2 ⟨rfl,nq,rfl⟩);exact ⟨⟨zI _,λ_ _ _ h _=>h⟩,rfl,by show WiB _ _ _ (eT _ (iR _)) _;rw [HVA.out,HW.out];exact HK.out.drewN nq⟩
   ·rw [hq] at HW;rw [z0B] at HB1 HOV;have HAPP:=aA (λn=>WiB.app x HK.out HB1.out HOV.out HWL.out n);rw [z0B] at d1;generalize eT op.data.toList (iR pre)=F at *
    gi_wp2_with (first
     | (refine ⟨trivial,?_⟩;gi_at_call 257;refine (CallsIn.inRound l (callsIn_wide.2 HCU.out)).mono ?_;rintro e w2 ⟨rfl,nq,rfl⟩;obtain ⟨a5,c5,w3,hrun,hb3,hkf,hbx,hwi⟩:=HAPP.out nq;have HRN:=aA hrun;have g3:=hb3.free 0;have d3:=hb3.cell 0;have HKF:=aA hkf;have HBX:=aA hbx;have HWI:=aA hwi;clear hkf hbx hwi hb3 hrun)
     | (gi_at_builtin;refine fI rfl (.tmp 26) (.tmp 28) 24 rfl rfl rfl HRN.out ?_))
    have hlt:=HLT.out;exact ⟨⟨HKF.out.size,λk o hk ho hc=>HKF.out.same k o (by omega) ho hc⟩,HBX.out,by show WiB _ _ _ (eT _ (iR _)) _;rw [HVA.out,HW.out];exact HWI.out⟩
 case done=>
  rintro D xs W hD hall hk hK;have HKD:=aA hK;have hk2:=hk.own (bx:=w.heap.size+2) (B:=W0.heap.size) rfl HK0.out.below.size (grownBy_putObj' _ D (.deferred none)) (λr e=>by injection e with e;subst e;exact .inr ⟨hD,_,hK,rfl⟩);rw [hall] at hk2;obtain ⟨v,hb1,hov⟩:=hk.acc;obtain ⟨v2,hb2,hov2⟩:=hk2.acc;have hvv:v2=v:=by have hne:w.heap.size+1≠D:=(by have:=HLT.out;omega);have e1:(W.putObj D (.deferred none)).heap[w.heap.size+1]?=W.heap[w.heap.size+1]?:=QU hne;exact tX4d
  subst hvv;have HOV:=aA (hov2.base (B':=w.heap.size) (by omega));have HBW:=aA hk2.below;have d1:=hb1.cell 0;clear hk hk2 hb1 hb2 hov hov2 hK hwl;gi_wp2;refine ⟨by simp,.inl ⟨_,_,rfl,run_takeDeferred HKD.out,?_⟩⟩;refine ⟨v2,?_,?_⟩
  ·simp [results,Tryz.results229,go_sem]
  ·exact ⟨_,rfl,HOV.out,HBW.out⟩
 case stop=>rintro D c pre W hD hpre h hK;exact h.elim
set_option maxHeartbeats 8000000
theorem EV (p:Int):∀t∈oV p,t.length<=1000:=by
 have h0:(aU lQ.data.toList).all (λt=>decide (t.length<=1000))=true:=by decide+kernel
 have h1:(aU cbB.data.toList).all (λt=>decide (t.length<=1000))=true:=by decide+kernel
 have h2:(aU edB.data.toList).all (λt=>decide (t.length<=1000))=true:=by decide+kernel
 have h3:(aU (⟨#[]⟩:ByteArray).data.toList).all (λt=>decide (t.length<=1000))=true:=by decide+kernel
 have key:(oV p).all (λt=>decide (t.length<=1000))=true:=by
  unfold oV lA;split
  ·exact h0
  split
  ·exact h1
  split
  ·exact h2
  ·exact h3
 intro t ht;exact jU (z1A.1 key t ht)
theorem xQ (p:Int):(lA p).size<=1000000:=by exact tX79
theorem RZ (p:Int):(aU (lA p).data.toList).length<=100000:=by exact tX79
theorem RL (t:ByteArray) (x b:Nat) (hx:x < 256) (w:World) (hb:Blk w b 3 #[.int .i64 x]) (ht:t.size<=1000000):
  Calls Tryz.prog 232 #[.string t,.pointer (some ⟨b,0,none⟩)] w λe w'=>e=.returned (.bool (eY t.data.toList x))/\w'=w:=by
 have HF:=aA (xE t x hx w ht);have d0:=hb.cell 0;have hwr:=JJ hx;clear hb;go_enter Tryz.func232,Tryz.ntmps232;go_wp2_with (go_at_call 233;refine HF.out.mono ?_;rintro e w' ⟨rfl,rfl⟩);go_ret;exact ⟨rfl,rfl⟩
theorem QA (x b:Nat) (hx:x < 256) (p:aB) (v:Value) (l:List ByteArray) (w:World) (h:SlR eN w p v l) (hs:∀t∈l,t.size<=1000000) (hb:Blk w b 3 #[.int .i64 x]):
  Calls Tryz.prog 258 #[v,.func (.func 232) #[] #[.pointer (some ⟨b,0,none⟩)]] w λe w'=>(∃r:Int,e=.returned (.int .i64 r)/\decide (0<=r)=l.any λt=>eY t.data.toList x)/\w'=w:=by
 obtain ⟨a,c,rfl,_,_,g1⟩:=h.str;have hl:=h.len_le;have HN:=aA (λt ht=>RL t x b hx w hb ht);have HS:=aA hs;have HG:=aA g1;clear h hs g1 hb;go_enter Tryz.func258,Tryz.ntmps258;go_wp2;go_loop [8] (λi=>∃k:Nat,k<=l.length/\i=.int .i64 k/\(l.any λt=>eY t.data.toList x)=((l.drop k).any λt=>eY t.data.toList x)) (λi=>l.length - (intOf i).toNat);case atStart=>exact ⟨0,YD _,rfl,rfl⟩
 case round=>
  obtain ⟨k,hk,rfl,ht⟩:=hrel;have HT:=aA ht;clear ht;by_cases hlt:k < l.length
  ·have hg:=HG.out k l[k] (zL hlt);obtain ⟨b1,o1,rfl,d1⟩:∃b o,a=some ⟨b,o,none⟩/\w.cell? ⟨b,o+k,none⟩=some (.string l[k]):=(by obtain ⟨b,o,e1,_,e2⟩:=hg;exact ⟨b,o,e1,by simpa using e2⟩);have HD:=aA (ZX hlt);have HVA:=aA (HN.out l[k] (HS.out _ (z0J hlt)));clear hg;generalize l[k]=t at *;cases hvx:eY t.data.toList x;all_goals rw [hvx] at HVA;have HVX:=aA hvx;clear hvx
   ·go_wp2_with (go_at_call 232;refine HVA.out.mono ?_;rintro e w2 ⟨rfl,rfl⟩);go_round;case rel=>exact ⟨k+1,by omega,by go_num,by rw [HT.out,HD.out,z1C,HVX.out,Bool.false_or]⟩
    case measure=>simp [intOf];omega
   ·go_wp2_with (go_at_call 232;refine HVA.out.mono ?_;rintro e w2 ⟨rfl,rfl⟩);go_ret;exact ⟨⟨k,rfl,by rw [HT.out,HD.out,z1C,HVX.out];simp⟩,rfl⟩
  ·go_wp2;go_ret;exact ⟨⟨-1,rfl,by rw [HT.out,VA (by omega)];simp⟩,rfl⟩
theorem UD (x b:Nat) (hx:x < 256) (p:aB) (v:Value) (l:List ByteArray) (w:World) (h:SlR eN w p v l) (hs:∀t∈l,t.size<=1000000) (hb:Blk w b 3 #[.int .i64 x]):
  Calls Tryz.prog 231 #[v,.func (.func 232) #[] #[.pointer (some ⟨b,0,none⟩)]] w λe w'=>e=.returned (.bool (l.any λt=>eY t.data.toList x))/\w'=w:=by
 have HI:=aA (QA x b hx p v l w h hs hb);obtain ⟨a,c,rfl,_⟩:=h.str;clear h hb;go_enter Tryz.func231,Tryz.ntmps231;go_wp2_with (go_at_call 258;refine HI.out.mono ?_;rintro e w1 ⟨⟨r,rfl,hr⟩,rfl⟩;have HR:=aA hr;clear hr);go_ret;exact ⟨aF HR.out,rfl⟩
theorem RA (p:aB) (v:Value) (l:List (List UInt8)) (t:List UInt8) (w:World) (h:SlR eN w p v (l.map bs)):
  Calls Tryz.prog 12 #[v,.string ⟨t.toArray⟩] w λe w'=>e=.returned (.bool (l.contains t))/\w'=w:=by
 have hl:=h.len_le;obtain ⟨a,c,rfl,_,_,g1⟩:=h.str;cases l with
 | nil=>exact (Tryz.slices_Contains_string_empty a c ⟨t.toArray⟩ w).mono (λe w' h=>h)
 | cons y l=>
  obtain ⟨b,o,rfl,_⟩:=g1 0 (bs y) rfl;have hcs:∀j,j < ((y::l).map bs).length->w.cell? ⟨b,o+j,none⟩=some (.string (((y::l).map bs).getD j ByteArray.empty)):=λj hj=>by obtain ⟨b2,o2,e2,_,hc⟩:=g1 j _ (zL hj);injection e2 with e2;injection e2 with e2 e3;subst e2 e3;rw [JL,zL hj];exact hc
  refine (Tryz.slices_Contains_string b o _ c ((y::l).map bs) ⟨t.toArray⟩ w (zI _) hl hcs).mono ?_;rintro e w' ⟨rfl,rfl⟩;refine ⟨aF ?_,rfl⟩;rw [z0L,z0C,Lib.containsS_iff,List.contains_iff_mem,z2A];constructor
  ·rintro ⟨z,hz,e⟩;have:z=t:=(by have:=congrArg (λs:ByteArray=>s.data.toList) e;simpa [bs] using this);rwa [this] at hz
  ·intro hz;exact ⟨t,hz,rfl⟩
theorem Own.apart {α β:Type} {R:Rep α} {S:Rep β} {w:World} {B C:Nat} {e t:TypeId} {p q:aB} {v u:Value} {xs:List α} {ys:List β} (h1:Own R w B e p v xs) (h2:Own S w C t q u ys) (hte:e≠t):∀k,v.ownBlock=some k->u.ownBlock≠some k:=by
 obtain ⟨c1,r1,_⟩:=h1;obtain ⟨c2,r2,_⟩:=h2;intro k hk hk2;rcases r1.2 with ⟨rfl,_⟩ | ⟨g,cap,cur,rfl,_,hg,_⟩
 ·cases hk
 rcases r2.2 with ⟨rfl,_⟩ | ⟨g2,cap2,cur2,rfl,_,hg2,_⟩
 ·cases hk2
 obtain rfl:g=k:=ZS hk;obtain rfl:g2=g:=ZS hk2;rw [hg] at hg2;injection hg2 with hg2;injection hg2 with _ h;exact hte h
theorem SU (op:List UInt8) (p:Int):∀t∈(eT op (oV p)).map bs,t.size<=1000000:=by intro t ht;obtain ⟨y,hy,rfl⟩:=z2A.1 ht;have:=EV p y (List.mem_filter.1 hy).1;show y.toArray.size<=_;rw [XF];omega
theorem any_bs (f:List UInt8->Bool) (l:List (List UInt8)):((l.map bs).any λt=>f t.data.toList)=l.any f:=by rw [List.any_map];congr 1
theorem nE (op:List UInt8) (L:List Int):(L.flatMap (oN op)).length<=L.length * 256:=by
 induction L with
 | nil=>simp
 | cons a L ih=>have:=CA op a 256;rw [z1M,YL,VH];unfold oN at *;omega
theorem XA {w:World} {o:Option (List UInt8)} {e:Ending} {w':World} (h:JV w o e w'):e=.returned (.tuple #[.string ⟨(o.getD []).toArray⟩,.bool o.isSome])/\Below w.heap.size w w':=by obtain ⟨h1,h2⟩:=h;refine ⟨?_,h2⟩;rw [h1];cases o<;>rfl
theorem vI (op:ByteArray) (p:aB) (v:Value) (l:List Int) (w:World) (h:SlR oO w p v l) (hn:(fJ l).length<=1000) (hT:Spc w):
  Calls Tryz.prog 198 #[.string op,v] w (JA 158 w ((fJ l).flatMap (oN op.data.toList))):=by
 have HEP:Hid (JA 158 w ((fJ l).flatMap (oN op.data.toList))=λe w'=>∃v,e=.returned v/\Acc oG w' w.heap.size 158 v ((fJ l).flatMap (oN op.data.toList))/\Below w.heap.size w w'):=rfl;rw [HEP.out];have HEV:=aA (MC p v l w h);generalize fJ l=L at *;have HT:=aA hT;clear HEP h hT;go_enter Tryz.func198,Tryz.ntmps198;go_wp2_with fail;refine HEV.out.mono ?_;rintro e w1 ⟨v1,q,rfl,hs,hb⟩;have HS:=aA hs;have HB1:=aA hb;obtain ⟨a1,c1,rfl,_,_,_⟩:=hs.int;clear hs hb HEV;go_wp2;go_loopw [5,17] (λs5 s17 wx=>∃k:Nat,k<=L.length/\s17=.int .i64 k/\Acc oG wx w1.heap.size 158 s5 ((L.take k).flatMap (oN op.data.toList))/\Below w1.heap.size w1 wx) (λ_ s17 _=>L.length - (intOf s17).toNat);case atStart=>exact ⟨0,by omega,rfl,Acc.nil _ _ _,zY _ _⟩
 case round=>
  obtain ⟨k,hk,rfl,hacc,hb⟩:=hrel;have HC:=aA hacc;have HB:=aA hb;clear hacc hb;by_cases hlt:k < L.length
  ·obtain ⟨a9,c9,e9,_,_,g9⟩:=(HS.out.below HB.out).int;injection e9 with e9 e10 e11;clear e10;subst e9 e11;obtain ⟨b,o,rfl,d1⟩:∃b o,a1=some ⟨b,o,none⟩/\wr.cell? ⟨b,o+k,none⟩=some (.int .i64 L[k]):=(by obtain ⟨b,o,e1,_,e2⟩:=g9 k L[k] (zL hlt);exact ⟨b,o,e1,by simpa using e2⟩);have hft:(L.take (k+1)).flatMap (oN op.data.toList)=(L.take k).flatMap (oN op.data.toList)++oN op.data.toList L[k]:=(by rw [ZP hlt,List.flatMap_append];simp);have HFT:=aA hft;have hfl:=nE op.data.toList (L.take k);have htl:(L.take k).length<=k:=List.length_take_le _ _;have HPL:Hid (((L.take k).flatMap (oN op.data.toList)).length<=256000):=(by show _<=_;omega);clear g9 hfl htl hft;generalize L[k]=page at *;generalize (L.take k).flatMap (oN op.data.toList)=pre at *;obtain ⟨a3,c3,rfl⟩:=HC.out.form;have HPA:=aA (λW=>zQ page W);have HWI:=aA (SR (lA page) op wr (xQ page) (RZ page));have HWO:=aA (SU op.data.toList page)
   go_wp2_with (first
    | (go_at_call 230;refine (HPA.out _).mono ?_;rintro e w2 ⟨rfl,rfl⟩)
    | (go_at_call 229;refine HWI.out.mono ?_;rintro e w2 ⟨v2,rfl,ho2,hb2⟩;obtain ⟨a2,c2,rfl⟩:=ho2.form;have HO2:=aA (ho2.base (B':=w1.heap.size) HB.out.size);have HC2:=aA (HC.out.stay hb2);have HB2:=aA (HB.out.trans (hb2.mono HB.out.size));clear ho2 hb2))
   have HASK:Hid (∀j,WH op.data.toList page j=((eT op.data.toList (aU (lA page).data.toList)).any (λt=>eY t j)&&(eT op.data.toList (aU (lA page).data.toList)).contains ((dV j (aU (lA page).data.toList)).getD []))):=λ_=>rfl;have HWP:Hid (∀t∈(eT op.data.toList (aU (lA page).data.toList)).map bs,t.size<=1000000):=HWO.out;have HLK:=aA (λj hj W=>oE (lA page) j hj W (xQ page));rw [z0B] at HO2;clear HWI HWO;generalize eT op.data.toList (aU (lA page).data.toList)=M at *;generalize aU (lA page).data.toList=PL at *;have HK:=aA hk;go_loopw [5,25] (λs5 s25 wx=>∃j:Nat,j<=256/\s25=.int .i64 j/\Acc oG wx w1.heap.size 158 s5 (pre++nO op.data.toList page j)/\Own eN wx w1.heap.size 9 NoB (.slice a2 M.length c2) (M.map bs)/\Below w1.heap.size w1 wx) (λ_ s25 _=>256 - (intOf s25).toNat);case atStart=>exact ⟨0,by omega,rfl,by simpa [nO,iG] using HC2.out,HO2.out,HB2.out⟩
   case round=>
    clear HC2 HO2 HB2 HC HB d1;obtain ⟨j,hj,rfl,hacc,hown,hb⟩:=hrel;have HC:=aA hacc;have HO:=aA hown;have HB:=aA hb;clear hacc hown hb;by_cases hlt2:j < 256
    ·have hwr:=JJ hlt2;have HBa:=aA ((zY wr.heap.size wr).alloc (zI _) (.cells #[.int .i64 (j:Int)] 3));have HJ:=aA (Blk.new wr 3 #[.int .i64 (j:Int)]);have HSL:=aA ((HO.out.slR (q:=λk=>w1.heap.size<=k) (λ_ h=>h.elim) (λ_ h=>h)).alloc (.cells #[.int .i64 (j:Int)] 3));have HCF:=aA (UD j wr.heap.size hlt2 _ _ _ _ HSL.out HWP.out HJ.out);rw [any_bs (λt=>eY t j)] at HCF;have HAJ:=aA (HASK.out j);have HNO:=aA (λh=>UW (op:=op.data.toList) (p:=page) hlt2 h);have hml:=CA op.data.toList page j;have HML:Hid ((pre++nO op.data.toList page j).length+1<=1000000):=(by have:=HPL.out;show _<=_;rw [YL];omega);clear hml;generalize hpm:pre++nO op.data.toList page j=PM at *;have HPM:=aA hpm;clear hpm;obtain ⟨a4,c4,rfl⟩:=HC.out.form;cases hc1:M.any (λt=>eY t j)
     ·rw [hc1,z1Z] at HAJ;rw [hc1] at HCF;have HN:=aA (HNO.out HAJ.out);clear HNO hc1;go_wp2_with (go_at_call 231;refine HCF.out.mono ?_;rintro e w2 ⟨rfl,rfl⟩);go_round;case rel=>exact ⟨j+1,by omega,by go_num,by rw [HN.out,HPM.out];exact HC.out.stay HBa.out,HO.out.keep (aS.of_below HBa.out (λk hk=>by rcases hk with hk | hk;exact hk.elim;exact (HO.out.lt k hk).2)),HB.out.trans (HBa.out.mono HB.out.size)⟩
      case measure=>simp [intOf];omega
     rw [hc1,z0Y] at HAJ;rw [hc1] at HCF;clear hc1;go_upto_region 10 with (go_at_call 231;refine HCF.out.mono ?_;rintro e w2 ⟨rfl,rfl⟩);have HJB:Hid (∀(w':World),Below wr.heap.size (wr.alloc (.cells #[.int .i64 (j:Int)] 3)) w'->True):=λ_ _=>trivial;have hj0:=HJ.out.cell 0;have hjl:=HJ.out.lt;go_region_held3 (λw'=>w'.cell? ⟨wr.heap.size,0,none⟩=some (.int .i64 (j:Int))) (go_keep)
      (first
       | (go_at_call 230;refine (HPA.out _).mono ?_;rintro e w2 ⟨rfl,rfl⟩)
       | (go_at_call 234;refine (HLK.out j hlt2 _).mono ?_;rintro e w2 hlk;obtain ⟨rfl,hb⟩:=XA hlk;have hjc:=hb.cell (p:=⟨wr.heap.size,0,none⟩) hjl;have HBL:=aA hb;clear hlk hb))
     have HBW:Hid (Below (wr.alloc (.cells #[.int .i64 (j:Int)] 3)).heap.size (wr.alloc (.cells #[.int .i64 (j:Int)] 3)) w2):=(zY _ _).drew.trans HBL.out;have HB2:Hid (Below wr.heap.size wr w2):=HBa.out.trans (HBW.out.mono HBa.out.size);have HS2:=aA (HSL.out.below HBW.out);have HCO:=aA (RA _ _ M ((dV j PL).getD []) w2 HS2.out);have HO2:=aA (HO.out.keep (aS.of_below HB2.out (λk hk=>by rcases hk with hk | hk;exact hk.elim;exact (HO.out.lt k hk).2)));have HC2:=aA (HC.out.stay HB2.out);have HB3:=aA (HB.out.trans (HB2.out.mono HB.out.size));have HYE:=aA (λh x=>namK_in (op:=op.data.toList) (p:=page) hlt2 h (e:=x));clear HBL HBW HCF HSL HS2 hj0 hjl HJB HBa HJ;generalize (dV j PL).getD []=lk at *;cases hc2:M.contains lk
     ·rw [hc2] at HAJ HCO;have HN:=aA (HNO.out HAJ.out);clear HNO hc2 HYE;go_wp2_with (go_at_call 12;refine HCO.out.mono ?_;rintro e w3 ⟨rfl,rfl⟩);go_round;case rel=>exact ⟨j+1,by omega,by go_num,by rw [HN.out,HPM.out];exact HC2.out,HO2.out,HB3.out⟩
      case measure=>simp [intOf];omega
     rw [hc2] at HAJ HCO;have HA1:=aA (DI page j hlt2 w2 (HT.out.below (HB1.out.trans (HB3.out.mono HB1.out.size))));have HK1:=aA (uB page j);have HY:=aA (λx=>HYE.out HAJ.out x);have HN:=aA (GQ (op:=op.data.toList) (p:=page) (k:=j));clear HNO HYE hc2;generalize atF page j=xk at *;obtain ⟨x,kd⟩:=xk;dsimp only at *;go_upto_region 12 with (go_at_call 12;refine HCO.out.mono ?_;rintro e w3 ⟨rfl,hw3⟩;subst w3);go_wp2_with fail;refine HA1.out.mono ?_;rintro e w4 ⟨he,hb4⟩;have HB4:=aA hb4;have HS4:=aA hb4.size;have HO4:=aA (HO2.out.keep (aS.of_below hb4 (λk hk=>by rcases hk with hk | hk;exact hk.elim;exact (HO2.out.lt k hk).2)));clear hb4;rcases x with _ | x
     ·have hk1:¬kd=1:=(by rcases HK1.out.2 rfl with h | h | h<;>omega);subst he;have HN1:=aA (HN.out rfl);clear HN HY;have HB5:=aA (HB4.out.alloc HS4.out (.cells #[.int .i64 0,.int .u8 0,.string ⟨#[]⟩,.slice none 0 0,.string ⟨#[]⟩,.bool false] 158));unfold mX;go_wp2;go_round;case rel=>exact ⟨j+1,by omega,by go_num,by rw [HN1.out,HPM.out];exact HC2.out.stay HB5.out,HO2.out.keep (aS.of_below HB5.out (λk hk=>by rcases hk with hk | hk;exact hk.elim;exact (HO2.out.lt k hk).2)),HB3.out.trans (HB5.out.mono HB3.out.size)⟩
      case measure=>simp [intOf];omega
     ·obtain rfl:kd=1:=HK1.out.1 _ rfl;obtain ⟨v,rfl,ho⟩:=he;obtain ⟨va,vc,rfl⟩:=ho.form;have HX:=aA (HY.out x rfl);obtain ⟨p1,o1,i1,l1,s1,f1⟩:=x;dsimp only at *;have HB5:=aA (HB4.out.alloc HS4.out (.cells #[.int .i64 p1,.int .u8 o1,.string ⟨i1.toArray⟩,.slice va l1.length vc,.string ⟨s1.toArray⟩,.bool f1] 158));have HR:=aA (AL (x:=⟨p1,o1,i1,l1,s1,f1⟩) (ho.below ((zY w4.heap.size w4).alloc (zI _) (.cells #[.int .i64 p1,.int .u8 o1,.string ⟨i1.toArray⟩,.slice va l1.length vc,.string ⟨s1.toArray⟩,.bool f1] 158))));have HCC:=aA (HC2.out.stay HB5.out);have HO5:=aA (HO2.out.keep (aS.of_below HB5.out (λk hk=>by rcases hk with hk | hk;exact hk.elim;exact (HO2.out.lt k hk).2)));have HQ:Hid (∀k,w2.heap.size<=k->w1.heap.size<=k/\Value.ownBlock (.slice a4 PM.length c4)≠some k):=λk hk=>⟨qJ HB3.out.size hk,λe=>absurd (HC2.out.lt k e).2 (Nat.not_lt.2 hk)⟩;have HLB:Hid ((PM.length+1) * 80<=140737488355328):=(by have:=HML.out;show _<=_;omega);have HLL:Hid (PM.length+1<=9223372036854775807):=(by have:=HML.out;show _<=_;omega);have HSZ:Hid (w1.heap.size<=(w4.alloc (.cells #[.int .i64 p1,.int .u8 o1,.string ⟨i1.toArray⟩,.slice va l1.length vc,.string ⟨s1.toArray⟩,.bool f1] 158)).heap.size):=qJ HB3.out.size HB5.out.size;have HAP:Hid (∀k,Value.ownBlock (.slice a2 M.length c2)=some k->Value.ownBlock (.slice a4 PM.length c4)≠some k):=(by obtain ⟨pp,h1,_⟩:=HCC.out;exact Own.apart HO5.out h1 (by decide));clear ho HN HY;unfold bQ;dsimp only;go_wp2_with (at_builtin;refine eM rfl (.tmp 53) (.tmp 55) 258 rfl w1.heap.size 158 80 elET _ PM ⟨p1,o1,i1,l1,s1,f1⟩ _ (λb=>w2.heap.size<=b) rfl (by rw [zW];rfl) HCC.out HR.out HQ.out HLB.out HLL.out HSZ.out ?_;intro a' c' w' hp;have HP:=aA hp;clear hp);go_round;case rel=>exact ⟨j+1,by omega,by go_num,by rw [HX.out,<-JP,HPM.out];have:=HP.out.1;simpa using this,HO5.out.keep (aS.grown HP.out.2.1 (λk hk=>by rcases hk with hk | hk;exact hk.elim;exact ⟨(HO5.out.lt k hk).2,λe=>HAP.out k hk e.symm⟩)),HB3.out.trans ((HB5.out.mono HB3.out.size).trans (vM.below HP.out HCC.out HSZ.out))⟩
      case measure=>simp [intOf];omega
    ·obtain rfl:j=256:=(by omega);obtain ⟨a4,c4,rfl⟩:=HC.out.form;go_wp2;go_round;case rel=>exact ⟨k+1,by omega,by go_num,by rw [HFT.out];exact HC.out,HB.out⟩
     case measure=>simp [intOf];omega
  ·obtain rfl:k=L.length:=(by omega);rw [z0L] at HC;go_wp2;go_ret;exact ⟨_,rfl,HC.out.base HB1.out.size,HB1.out.trans (HB.out.mono HB1.out.size)⟩
set_option maxHeartbeats 4000000
attribute [local go_sem] Oper.semAt_some
theorem nU {w:World} {b j:Nat} {v:Value} (h:w.cell? ⟨b,j,none⟩=some v):∃o,w.heap[b]?=some o/\o.isCells=true:=by exact tX74
theorem SlR.tk {w w':World} {p P:aB} {v:Value} {xs:List Opd} (h:SlR aM w p v xs) (ht:Tk P w w') (hp:∀k,p k->P k):SlR aM w' p v xs:=by obtain ⟨a,cap,e,h1,h2,h3⟩:=h;refine ⟨a,cap,e,h1,h2,λi x hx=>?_⟩;obtain ⟨b,o,cs,ea,hb,hbs,hc,hr⟩:=h3 i x hx;have hr2:cs=x.cells:=hr;obtain ⟨ob,ho,hoc⟩:=nU (hc 0 _ (by rw [hr2];rfl));exact tX37
theorem SlR.tkE {w w':World} {p P:aB} {v:Value} {xs:List aL} (h:SlR oG w p v xs) (ht:Tk P w w') (hp:∀k,p k->P k):SlR oG w' p v xs:=by obtain ⟨a,cap,e,h1,h2,h3⟩:=h;refine ⟨a,cap,e,h1,h2,λi x hx=>?_⟩;obtain ⟨b,o,cs,ea,hb,hbs,hc,v2,hr,hs⟩:=h3 i x hx;obtain ⟨ob,ho,hoc⟩:=nU (hc 0 _ (by rw [hr];rfl));have ho2:=ht b ob (hp b hb) ho hoc;exact ⟨b,o,cs,ea,hb,(jN.1 ho2).1,λj v hv=>(z0E (ho2.trans ho.symm)).trans (hc j v hv),v2,hr,hs.tk ht hp⟩
theorem SlR.ent6 {w:World} {p:aB} {v:Value} {l:List aL} (h:SlR oG w p v l):∃a cap,v=.slice a l.length cap/\l.length<=9223372036854775807/\
  ∀i x,l[i]?=some x->∃b o va vc,a=some ⟨b,o,none⟩/\b < w.heap.size/\w.cell? ⟨b,o+i * 6,none⟩=some (.int .i64 x.pg)/\w.cell? ⟨b,o+i * 6+1,none⟩=some (.int .u8 x.op)/\w.cell? ⟨b,o+i * 6+2,none⟩=some (.string ⟨x.iop.toArray⟩)/\
   w.cell? ⟨b,o+i * 6+3,none⟩=some (.slice va x.args.length vc)/\w.cell? ⟨b,o+i * 6+4,none⟩=some (.string ⟨x.ex.toArray⟩)/\w.cell? ⟨b,o+i * 6+5,none⟩=some (.bool x.al)/\SlR aM w p (.slice va x.args.length vc) x.args:=by
 have hl:=h.len_le;obtain ⟨a,cap,e,h1,h2,h3⟩:=h;refine ⟨a,cap,e,hl,λi x hx=>?_⟩;obtain ⟨b,o,cs,ea,hb,hbs,hc,v,hcs,hr⟩:=h3 i x hx;subst hcs;obtain ⟨va,vc,rfl⟩:∃va vc,v=.slice va x.args.length vc:=by obtain ⟨a,c,e,_⟩:=hr;exact ⟨a,c,e⟩
 exact ⟨b,o,va,vc,ea,hbs,hc 0 _ rfl,hc 1 _ rfl,hc 2 _ rfl,hc 3 _ rfl,hc 4 _ rfl,hc 5 _ rfl,hr⟩
def eC (t:List UInt8) (l:List Opd):List aL:=(fJ (eI l)).flatMap (oN t)
def YB (x:aL × Value):Array Value:=#[bQ x.1 x.2]
theorem sK:∀l:List Opd,(fJ (eI l)).length<=7
 | []=>by decide
 | o::r=>by
  rw [eI];split
  ·decide
  ·split
   ·decide
   ·exact sK r
theorem xU (t:List UInt8) (l:List Opd):(eC t l).length<=1792:=by have h1:=nE t (fJ (eI l));have h2:=sK l;unfold eC;omega
theorem TS (bc:Nat) (t:ByteArray) (l:List Opd) (u:Value) (q:aB) (w:World) (hB:Blk w bc 30 #[.string t,u]) (hs:SlR aM w q u l) (hT:Spc w):
  zT Fence.wide 8 Tryz.prog 197 #[.pointer (some ⟨bc,0,none⟩)] YB (Tk λk=>w.heap.size<=k) (λpre x W=>SlR aM W (λk=>w.heap.size<=k) x.2 x.1.args/\(pre.map (·.1)++[x.1]) <+: eC t.data.toList l) (λxs=>xs.map (·.1)=eC t.data.toList l) (λpre=>pre.map (·.1) <+: eC t.data.toList l) w:=by
 intro b J Jx W hW hJ hJx hY h0;have hPG:=λW2 (hb:Below W.heap.size W W2)=>KZ t l q u W2 ((hs.below hW).below hb);have hNM:=λp v W2 (hb:Below W.heap.size W W2) h=>vI t p v (eI l) W2 h (qJ (sK l) (by decide)) ((hT.below hW).below hb);have hCL:=xU t.data.toList l;unfold eC at *;generalize (fJ (eI l)).flatMap (oN t.data.toList)=L at *;have HB:=aA (hB.below hW hB.lt);have HPG:=aA hPG;have HNM:=aA hNM;have HJ:=aA hJ;have HJx:=aA hJx;have HY:=aA hY;have H0:=aA h0;have HWS:=aA hW.size;obtain ⟨ua,uc,rfl⟩:∃a c,u=.slice a l.length c:=by obtain ⟨a,c,e,_⟩:=hs;exact ⟨a,c,e⟩
 clear hB hW hJ hJx hY h0 hs hT hPG hNM;refine callsIn_of_wp Tryz.func197 rfl trivial ?_ rfl;simp only [Tryz.ntmps197,List.size_toArray,List.length_cons,List.length_nil,Nat.reduceAdd,Nat.reduceSub,Array.replicate_succ,Array.replicate_zero,List.push_toArray,List.append_toArray,List.nil_append,List.cons_append];gi_wp2;refine wpIn_wide.2 ?_;have d0:=HB.out.cell 0;have d1:=HB.out.cell 1;have hbl:=HB.out.lt;have HDB:Hid (Below W.heap.size W W.drew):=aA (zY _ _).drew;go_region_held3 (λw'=>w'.cell? ⟨bc,0,none⟩=some (.string t)/\w'.cell? ⟨bc,1,none⟩=some (.slice ua l.length uc)) (go_keep)
  (first
   | (go_at_call 199;refine (HPG.out _ HDB.out).mono ?_;rintro e w1 ⟨v1,rfl,hs1,hb1⟩;obtain ⟨pa,pc,rfl⟩:∃a c,v1=.slice a (eI l).length c:=(by obtain ⟨a,c,e,_⟩:=hs1;exact ⟨a,c,e⟩);have HB1:=aA (HDB.out.trans hb1);have HS1:=aA hs1;have d0:=(hb1.cell (p:=⟨bc,0,none⟩) hbl).trans d0;have d1:=(hb1.cell (p:=⟨bc,1,none⟩) hbl).trans d1;clear hb1 hs1)
   | (go_at_call 198;refine (HNM.out _ _ _ HB1.out HS1.out).mono ?_;rintro e w2 ⟨v2,rfl,ha2,hb2⟩;obtain ⟨na,nc,rfl⟩:=ha2.form;have HA2:=aA ha2;have HB2:=aA (HB1.out.trans (hb2.mono HB1.out.size));have hb1l:=vB hbl HB1.out.size;have d0:=(hb2.cell (p:=⟨bc,0,none⟩) hb1l).trans d0;have d1:=(hb2.cell (p:=⟨bc,1,none⟩) hb1l).trans d1;clear hb2 ha2))
 have HSL:=aA (HA2.out.slR.mono (q:=λk=>w.heap.size<=k) (λk hk=>by have h1:=hk.1;have:=HWS.out;have:=HB1.out.size;omega));have HJ2:=aA (HJ.out _ _ _ H0.out HB2.out);clear HA2 HB1 HB2 HS1 d0 d1 hbl HDB hb1l HPG HNM H0 HB;gi_wp2;gi_loopw [11] (λi wr=>∃(pre:List (aL × Value)),pre.map (·.1)=L.take pre.length/\pre.length<=L.length/\i=.int .i64 (pre.length:Nat)/\SlR oG wr (λk=>w.heap.size<=k) (.slice na L.length nc) L/\J pre wr) (λi _=>L.length - (intOf i).toNat);case atStart=>exact ⟨[],rfl,YD _,rfl,HSL.out,HJ2.out⟩
 case round=>
  obtain ⟨pre,hpre,hk,rfl,hsl,hj⟩:=hrel;clear HSL HJ2;have HPR:=aA hpre;have HS:=aA hsl;have HJW:=aA hj;have hl9:(L.length:Int)<=1792:=by omega
  clear hpre hsl hj;by_cases hlt:pre.length < L.length
  ·obtain ⟨a9,c9,e9,_,g9⟩:=HS.out.ent6;injection e9 with e9 e10 e11;clear e10;subst e9 e11;obtain ⟨bb,oo,va,vc,rfl,hbb,x0,x1,x2,x3,x4,x5,hxs⟩:=g9 pre.length L[pre.length] (zL hlt);have hpx:pre.map (·.1)++[L[pre.length]]=L.take (pre.length+1):=(by rw [HPR.out,ZP hlt]);have HPX:=aA hpx;have HXS:=aA hxs;clear g9 hpx hxs;generalize L[pre.length]=x at *;obtain ⟨p1,o1,i1,l1,s1,f1⟩:=x;dsimp only at *;have HBN:Hid (Below wr.heap.size wr (wr.alloc (.cells #[.int .i64 p1,.int .u8 o1,.string ⟨i1.toArray⟩,.slice va l1.length vc,.string ⟨s1.toArray⟩,.bool f1] 158))):=aA ((zY _ _).alloc (zI _) _);have HYY:=aA (HY.out pre (⟨p1,o1,i1,l1,s1,f1⟩,.slice va l1.length vc) _ (HJ.out _ _ _ HJW.out HBN.out) ⟨HXS.out.below HBN.out,by rw [HPX.out];exact List.take_prefix _ _⟩);have HS2:=aA (HS.out.below HBN.out);have HNE:=aA (Blk.new wr 158 #[.int .i64 p1,.int .u8 o1,.string ⟨i1.toArray⟩,.slice va l1.length vc,.string ⟨s1.toArray⟩,.bool f1]);obtain ⟨fn,tmps,assign,body,hy,hR⟩:=HYY.out;dsimp only [YB,bQ] at hy;have HR:=aA hR;clear hR HYY;gi_wp2;refine HR.out.mono ?_;rintro e W' (⟨rfl,hj3,hT⟩ | ⟨rfl,hjx⟩)
   ·have HJ3:=aA hj3;have HS3:=aA (HS2.out.tkE hT (λ_ h=>h));clear hj3 hT hy x0 x1 x2 x3 x4 x5;gi_wp2;go_roundw;case rel=>exact ⟨pre++[(⟨p1,o1,i1,l1,s1,f1⟩,.slice va l1.length vc)],by rw [z0O,YL];exact HPX.out,by rw [YL];exact hlt,by rw [YL];go_num,HS3.out,HJ3.out⟩
    case measure=>simp [intOf];omega
   ·have HJ3:=aA hjx;clear hjx hy x0 x1 x2 x3 x4 x5;gi_wp2;refine yR (results_none rfl _ _ _) rfl ?_;exact ⟨⟨_,rfl⟩,.inr ⟨_,by rw [z0O];show pre.map (·.1)++[(⟨p1,o1,i1,l1,s1,f1⟩:aL)] <+: L;rw [HPX.out];exact List.take_prefix _ _,HJ3.out⟩⟩
  ·have hkl:pre.length=L.length:=(by omega);have HE:Hid (pre.map (·.1)=L):=aA (by rw [HPR.out,hkl,z0L]);gi_wp2;go_end0;exact ⟨⟨_,rfl⟩,.inl ⟨pre,HE.out,HJW.out⟩⟩
end Go.Proofs.YtpigbggoiipmhaaGreatDoor
