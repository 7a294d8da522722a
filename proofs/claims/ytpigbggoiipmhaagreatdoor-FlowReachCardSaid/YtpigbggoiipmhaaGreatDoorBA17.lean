/-
  The next letter of a string, as a run; what is known of every entry. search.Find. breadboardlaw10.SearchFits. breadboardlaw10.SearchFills. search.Legal. Arguments opened. MORE ARGUMENTS OPENED: lists of operands, numbers, strings, bytes. Conditions: the library's table as its initialiser lays it; sizes; short instructions.
-/
import Derived.Test.YtpigbggoiipmhaaGreatDoorBA16
import Derived.Test.YtpigbggoiipmhaaGreatDoorCards
import Derived.Test.YtpigbggoiipmhaaGreatDoorTie
import Derived.MapKept
import Derived.Laws.RangeString
import Derived.RangeFuncRecord
import Derived.ProofKit
import Derived.OpenShut
import Derived.LaidMore
import Derived.LaidOnce
import Derived.Deep.DeepHandedRow
import Derived.Deep.DeepWitnessRowRef
import Derived.Deep.Slices
import Derived.Lib.LaidTab
import Derived.Lib.LaidU8
import Derived.Lib.SmallJoins
namespace Go.Proofs.YtpigbggoiipmhaaGreatDoor
open Go.RowKit Go.Shelf Go.Sort
def rN (b:UInt8):Prop:=b=100\/b=101\/b=110\/b=119
theorem MP:∀s∈gR,s.size<=10:=by
 have h:gR.all (λs=>decide (s.size<=10))=true:=by decide+kernel
 intro s hs;exact jU (z1A.1 h s hs)
theorem fA.size {x:aL} (h:fA x):(⟨x.iop.toArray⟩:ByteArray).size<=10/\x.args.length<=3:=by have hl:=h.l;unfold XS at hl;obtain ⟨h1,hl⟩:=xS.1 hl;exact ⟨MP _ (yM.1 h1),jU (xS.1 hl).1⟩
def chkW (p:Int) (x:Nat):Bool:=match (atF p x).1 with
 | some e=>(e.pg==p)&&(decide (e.op=x)&&(e.ex.all (λb=>b==100 || (b==101 || (b==110 || b==119)))&&(decide (e.ex.length<=10)&&(decide (p < 5) || e.ex==[100]))))
 | none=>true
theorem ckw:∀p:Fin 7,∀x:Fin 256,chkW p.val x.val=true:=by decide+kernel
structure zD (x:aL):Prop where
 op:x.op < 256
 lets:∀b∈x.ex,rN b
 hi:5<=x.pg->x.ex=[100]
 len:x.ex.length<=10
theorem kZ {p x:Nat} (hp:p < 7) (hx:x < 256) {e:aL} (he:(atF p x).1=some e):zD e/\e.pg=p/\e.op=x:=by
 have h:=ckw ⟨p,hp⟩ ⟨x,hx⟩;unfold chkW at h;dsimp only at h;rw [he] at h;obtain ⟨h1,h⟩:=xS.1 h;obtain ⟨h2,h⟩:=xS.1 h;obtain ⟨h3,h⟩:=xS.1 h;obtain ⟨h4,h5⟩:=xS.1 h;have h1:=eq_of_beq h1;have h2:=jU h2;refine ⟨⟨by omega,λb hb=>?_,λh6=>?_,jU h4⟩,h1,h2⟩
 ·have:=z1A.1 h3 b hb;rcases z1R.1 this with e | e
  ·exact .inl (eq_of_beq e)
  ·rcases z1R.1 e with e | e
   ·exact .inr (.inl (eq_of_beq e))
   ·rcases z1R.1 e with e | e
    ·exact .inr (.inr (.inl (eq_of_beq e)))
    ·exact .inr (.inr (.inr (eq_of_beq e)))
 ·rcases z1R.1 h5 with e | e
  ·have:=jU e;omega
  ·exact eq_of_beq e
set_option maxHeartbeats 8000000
set_option maxRecDepth 100000
attribute [local go_sem] Oper.semAt_some
theorem Tk.own {P:aB} {B:Nat} {W W':World} {row:Option Nat} (hg:W.grownBy W' row) (hr:∀r,row=some r->B<=r/\∃o:Obj,W.heap[r]?=some o/\o.isCells=false):Tk P W W':=λk o _ hk hc=>(hg.block k (jN.1 hk).1 (λe=>by obtain ⟨_,o2,ho,hc2⟩:=hr k e.symm;rw [hk] at ho;injection ho with ho;subst ho;rw [hc] at hc2;cases hc2)).trans hk
def dL (t:ByteArray) (c:List Opd) (e:aL):Bool:=!e.al&&shF ⟨e.iop.toArray⟩ t e.args c
def iA (t:ByteArray) (c:List Opd) (e:aL):Bool:=dL t c e&&(fQ ⟨e.iop.toArray⟩ t e.ex e.args c).2.2
def jP (t:ByteArray) (c:List Opd) (L:List aL):Int:=if L.any (dL t c)=true then 2 else 11
def cQ (x:Ins):Option aL × Int:=
 if bH x=0 then (match (eC x.op.data.toList (aE x).args).find? (iA x.op (aE x).args) with
  | some e=>(some e,0)
  | none=>(none,jP x.op (aE x).args (eC x.op.data.toList (aE x).args))) else (none,bH x)
def TQ (w:World) (r:Option aL × Int) (e:Ending) (w':World):Prop:=(match r.1 with | some x=>∃v q,e=.returned (.tuple #[bQ x v,.int .i64 r.2])/\SlR aM w' q v x.args | none=>e=.returned (.tuple #[mX,.int .i64 r.2]))/\Below w.heap.size w w'
theorem gW {P:Program} {fn:Func} {p q:Tmp} {ty tz:TypeId} (h:fn.results=#[.cell p ty,.cell q tz]) (tmps:Array Value) (w:World) (g b:Nat) (t:TypeId) (cs:Array Value) (fr:Nat × Nat) (d:TypeDesc) (v:Value)
  (hp:tmps.getD p undef=.pointer (some ⟨g,0,none⟩)) (hg:w.heap[g]?=some (.cells cs t fr))
  (hu:P.underlying ty=some d) (hd:(match d with | .struct _ | .array _ _=>true | _=>false)=true) (hi:(P.info? ty).map (·.size)=some cs.size)
  (hq:tmps.getD q undef=.pointer (some ⟨b,0,none⟩)) (hl:(loadVar tz ⟨b,0,none⟩).run P w=.ok v w):
  (results fn tmps).run P w=.ok (.tuple #[.agg cs,v]) w:=by
 have hp':tmps[p]?.getD undef=.pointer (some ⟨g,0,none⟩):=by simpa using hp
 have hq':tmps[q]?.getD undef=.pointer (some ⟨b,0,none⟩):=by simpa using hq
 simp [results,h,hp',hq',asAddr,run_loadVar_row w g t ty cs fr d hg hu hd hi,hl]
theorem qW {w:World} {b:Nat} {k:Int} (h:w.cell? ⟨b,0,none⟩=some (.int .i64 k)):(loadVar 68 ⟨b,0,none⟩).run Tryz.prog w=.ok (.int .i64 k) w:=by simp [go_sem,h]
theorem xP {α:Type} {f:α->Bool} {L pre:List α} {x:α} (h:pre++[x] <+: L) (hn:∀e∈pre,f e=false) (hx:f x=true):L.find? f=some x:=by obtain ⟨r,rfl⟩:=h;rw [JP,List.find?_append];have:pre.find? f=none:=List.find?_eq_none.2 (λe he=>by rw [hn e he];decide);rw [this];simp [hx]
theorem jG {t:List UInt8} {l:List Opd} {x:aL} (h:x∈eC t l):∃p k,k < 256/\(atF p k).1=some x:=by unfold eC at h;obtain ⟨p,_,hx⟩:=List.mem_flatMap.1 h;rw [yZ] at hx;have h2:=(List.mem_filter.1 hx).1;unfold eJ iG at h2;obtain ⟨k,hk,he⟩:=List.mem_filterMap.1 h2;exact ⟨p,k,z1D.1 hk,he⟩
def SV (x:aL) (v:Value):Array Value:=#[.int .i64 x.pg,.int .u8 x.op,.string ⟨x.iop.toArray⟩,v,.string ⟨x.ex.toArray⟩,.bool x.al]
structure iI (w wS:World) (b6:Nat) (t:ByteArray) (cn:List Opd) (pre:List aL) (W:World):Prop where
 tk:Tk (λk=>k≠b6) wS W
 code:Blk W b6 68 #[.int .i64 (jP t cn pre)]
 no:∀e∈pre,iA t cn e=false
 below:Below w.heap.size w W
 size:wS.heap.size<=W.heap.size
theorem iI.own {w wS W W':World} {b6:Nat} {t:ByteArray} {cn:List Opd} {pre:List aL} {row:Option Nat} (hB:w.heap.size<=wS.heap.size) (h:iI w wS b6 t cn pre W) (hg:W.grownBy W' row) (hr:∀r,row=some r->wS.heap.size<=r/\∃o:Obj,W.heap[r]?=some o/\o.isCells=false):iI w wS b6 t cn pre W':=⟨h.tk.trans (Tk.own hg hr),eR h.code hg hr,h.no,h.below.grown hg h.below.size (λk hk=>qJ hB (hr k hk).1),qJ h.size hg.size⟩
theorem iI.stay {w wS W W':World} {b6:Nat} {t:ByteArray} {cn:List Opd} {pre:List aL} (h:iI w wS b6 t cn pre W) (hb:Below W.heap.size W W'):iI w wS b6 t cn pre W':=⟨h.tk.trans (Tk.below hb),h.code.below hb h.code.lt,h.no,h.below.trans (hb.mono h.below.size),qJ h.size hb.size⟩
theorem lB (t:ByteArray) (c:List Opd) (L:List aL) (x:aL):jP t c (L++[x])=if dL t c x=true then 2 else jP t c L:=by unfold jP;rw [List.any_append];cases h:dL t c x<;>simp [h]
theorem sF {f:aL->Bool} {L:List aL} {x:aL} (h:∀e∈L,f e=false) (hx:f x=false):∀e∈L++[x],f e=false:=by
 intro e he;rcases z2D.1 he with he | he
 ·exact h e he
 ·rw [XJ.1 he];exact hx
theorem iI.snoc_no {w wS W:World} {b6:Nat} {t:ByteArray} {cn:List Opd} {pre:List aL} {x:aL} (h:iI w wS b6 t cn pre W) (hn:dL t cn x=false) (hh:iA t cn x=false):iI w wS b6 t cn (pre++[x]) W:=⟨h.tk,by rw [lB,if_neg (by rw [hn];decide)];exact h.code,sF h.no hh,h.below,h.size⟩
theorem iI.snoc_near {w wS W W2:World} {b6:Nat} {t:ByteArray} {cn:List Opd} {pre:List aL} {x:aL} (h:iI w wS b6 t cn pre W) (hn:dL t cn x=true) (hh:iA t cn x=false) (hb:Below W.heap.size W W2) (hw:w.heap.size<=b6):iI w wS b6 t cn (pre++[x]) (W2.setCell ⟨b6,0,none⟩ (.int .i64 2)):=⟨(h.tk.trans (Tk.below hb)).trans (Tk.setCell (λe=>e rfl) 0 _),by rw [lB,if_pos hn];exact (h.code.below hb h.code.lt).set 0 _,sF h.no hh,(h.below.trans (hb.mono h.below.size)).setCell hw _,by rw [yY];exact qJ h.size hb.size⟩
def GP (w:World) (b2 b3:Nat) (t:ByteArray) (cn:List Opd) (pre:List aL) (W:World):Prop:=∃pre0 x v q,pre=pre0++[x]/\(∀e∈pre0,iA t cn e=false)/\iA t cn x=true/\Blk W b2 158 (SV x v)/\Blk W b3 68 #[.int .i64 0]/\SlR aM W q v x.args/\Below w.heap.size w W
theorem GP.own {w wS W W':World} {b2 b3:Nat} {t:ByteArray} {cn:List Opd} {pre:List aL} {row:Option Nat} (hB:w.heap.size<=wS.heap.size) (h:GP w b2 b3 t cn pre W) (hg:W.grownBy W' row) (hr:∀r,row=some r->wS.heap.size<=r/\∃o:Obj,W.heap[r]?=some o/\o.isCells=false):GP w b2 b3 t cn pre W':=by obtain ⟨pre0,x,v,q,h1,h2,h3,h4,h5,h6,h7⟩:=h;exact ⟨pre0,x,v,q,h1,h2,h3,eR h4 hg hr,eR h5 hg hr,h6.tk (Tk.own (P:=λ_=>True) hg hr) (λ_ _=>trivial),h7.grown hg h7.size (λk hk=>qJ hB (hr k hk).1)⟩
theorem VU (p:aB) (x:Ins) (v:Value) (w:World) (h:SlR aM w p v x.args) (hT:Spc w) (hs:x.op.size<=1000000) (hn:x.args.length<=1000000) (hc:(aE x).args.length<=1000000) (hf:∀y∈x.args,cN y.n):
  Calls Tryz.prog 100 #[.agg #[.string x.op,v]] w (TQ w (cQ x)):=by
 have HCH:=aA (λW hb=>MY p x v W (h.below hb) (hT.below hb) (qJ hs (by decide)));have HOf:=aA (λW (hb:RowKit.Below w.heap.size w W)=>EB p x v W (h.below hb) (hT.below hb) hn hf);have HT:=aA hT;have HNO:=aA (show ¬bH x=0->cQ x=(none,bH x) from λh=>if_neg h);have HYE:=aA (show bH x=0->cQ x=(match (eC x.op.data.toList (aE x).args).find? (iA x.op (aE x).args) with | some e=>(some e,0) | none=>(none,jP x.op (aE x).args (eC x.op.data.toList (aE x).args))) from λh=>if_pos h);obtain ⟨va,vc,rfl⟩:∃a c,v=.slice a x.args.length c:=by obtain ⟨a,c,e,_⟩:=h;exact ⟨a,c,e⟩
 have HOK:=aA (λe (he:e∈eC x.op.data.toList (aE x).args)=>by obtain ⟨p,k,hk,hx⟩:=jG he;exact (mG hk hx).size);have HCN:=aA hc;have HSZ:=aA hs;clear h hT hs hn hf;obtain ⟨t,m⟩:=x;dsimp only at *;generalize (aE ⟨t,m⟩).args=cn at *;generalize bH ⟨t,m⟩=ck at *;generalize cQ ⟨t,m⟩=R at *;have HF:=aA ((((Fr.start w).new 30 #[.string t,.slice va m.length vc]).new' 158 #[.int .i64 0,.int .u8 0,.string ⟨#[]⟩,.slice none 0 0,.string ⟨#[]⟩,.bool false] (zW _ _)).new' 68 #[.int .i64 0] (show _=w.heap.size+1+1 from by rw [zW,zW]));obtain ⟨W0,hW0⟩:∃W0:World,W0=(((w.alloc (.cells #[.string t,.slice va m.length vc] 30)).alloc (.cells #[.int .i64 0,.int .u8 0,.string ⟨#[]⟩,.slice none 0 0,.string ⟨#[]⟩,.bool false] 158)).alloc (.cells #[.int .i64 0] 68)):=⟨_,rfl⟩;rw [<-hW0] at HF;have hmf:∀(fn:Fn) (first cap:Array Value) (w:World),(Instr.makeFunc fn first cap).run Tryz.prog w=.ok (.func fn first cap) w:=λ_ _ _ _=>rfl;refine (callsIn_wide (n:=9)).1 ?_;refine callsIn_of_wp_marks Tryz.func100 rfl trivial ?_ rfl;simp only [Tryz.ntmps100,List.size_toArray,List.length_cons,List.length_nil,Nat.reduceAdd,Nat.reduceSub,Array.replicate_succ,Array.replicate_zero,List.push_toArray,List.append_toArray,List.nil_append,List.cons_append];refine wpIn_wide.2 ?_;go_upto_region 1 with fail;rw [<-hW0];clear hW0;have a0:=(HF.out.blk 2 rfl).cell 0;have a1:=(HF.out.blk 2 rfl).cell 1;have HC1:=aA (HCH.out _ HF.out.below);by_cases hck:ck=0;rotate_left
 ·have HR:=aA (HNO.out hck);have bck:(ck==0)=false:=by rw [yW];exact hck
  have bck2:(ck != 0)=true:=by rw [bne_iff_ne];exact hck
  clear HNO HYE hck;go_wp2_with (go_at_call 142;refine HC1.out.mono ?_;rintro e w1 ⟨rfl,hb1⟩;have HF1:=aA (HF.out.next hb1);have r0:=(HF1.out.blk 1 rfl).cell 0;have r1:=(HF1.out.blk 1 rfl).cell 1;have r2:=(HF1.out.blk 1 rfl).cell 2;have r3:=(HF1.out.blk 1 rfl).cell 3;have r4:=(HF1.out.blk 1 rfl).cell 4;have r5:=(HF1.out.blk 1 rfl).cell 5;have s0:=(HF1.out.blk 1 rfl).free 0;have s1:=(HF1.out.blk 1 rfl).free 1;have s2:=(HF1.out.blk 1 rfl).free 2;have s3:=(HF1.out.blk 1 rfl).free 3;have s4:=(HF1.out.blk 1 rfl).free 4;have s5:=(HF1.out.blk 1 rfl).free 5;have k0:=(HF1.out.blk 0 rfl).cell 0;have k1:=(HF1.out.blk 0 rfl).free 0;clear hb1 a0 a1);have HE1:=((((((HF1.out.blk 1 rfl).set 0 (.int .i64 0)).set 1 (.int .u8 0)).set 2 (.string ⟨#[]⟩)).set 3 (.slice none 0 0)).set 4 (.string ⟨#[]⟩)).set 5 (.bool false);have HE2:=HE1.far (p:=⟨w.heap.size+1+1,0,none⟩) (by dsimp only;omega) (.int .i64 ck);have HE3:=((((((((HF1.out.blk 0 rfl).far (p:=⟨w.heap.size+1,0,none⟩) (by dsimp only;omega) (.int .i64 0)).far (p:=⟨w.heap.size+1,1,none⟩) (by dsimp only;omega) (.int .u8 0)).far (p:=⟨w.heap.size+1,2,none⟩) (by dsimp only;omega) (.string ⟨#[]⟩)).far (p:=⟨w.heap.size+1,3,none⟩) (by dsimp only;omega) (.slice none 0 0)).far (p:=⟨w.heap.size+1,4,none⟩) (by dsimp only;omega) (.string ⟨#[]⟩)).far (p:=⟨w.heap.size+1,5,none⟩) (by dsimp only;omega) (.bool false))).set 0 (.int .i64 ck);refine ⟨_,gW rfl _ _ _ _ _ _ _ _ _ rfl HE2 Tryz.underlying158 rfl (by kernel_rfl) rfl (qW (HE3.cell 0)),?_⟩;rw [HR.out];refine ⟨rfl,?_⟩;exact ((((((HF1.out.below.setCell (p:=⟨w.heap.size+1,0,none⟩) (jQ _) _).setCell (p:=⟨w.heap.size+1,1,none⟩) (jQ _) _).setCell (p:=⟨w.heap.size+1,2,none⟩) (jQ _) _).setCell (p:=⟨w.heap.size+1,3,none⟩) (jQ _) _).setCell (p:=⟨w.heap.size+1,4,none⟩) (jQ _) _).setCell (p:=⟨w.heap.size+1,5,none⟩) (jQ _) _).setCell (p:=⟨w.heap.size+1+1,0,none⟩) (by dsimp only;omega) _
 subst hck;have HR:=aA (HYE.out rfl);clear HNO HYE HCH;go_upto_region 4 with (go_at_call 142;refine HC1.out.mono ?_;rintro e w1 ⟨rfl,hb1⟩;have HF1:=aA (HF.out.next hb1);have a0:=(HF1.out.blk 2 rfl).cell 0;have a1:=(HF1.out.blk 2 rfl).cell 1;clear hb1);have HO1:=aA (HOf.out _ HF1.out.below);clear HOf HC1 HF;go_upto_region 6 with (go_at_call 54;refine HO1.out.mono ?_;rintro e w2 ⟨u1,rfl,ho1,hb2⟩;obtain ⟨ca,cc,rfl⟩:=ho1.form;have HF2:=aA (HF1.out.next hb2);have HO2:=aA ho1.slR.old;clear ho1 hb2 a0 a1);have HF4:=aA ((HF2.out.new 30 #[.string t,.slice ca cn.length cc]).new' 68 #[.int .i64 11] (zW _ _));have HO4:=aA ((HO2.out.alloc (.cells #[.string t,.slice ca cn.length cc] 30)).alloc (.cells #[.int .i64 11] 68));have HG5:=aA (HF2.out.blk 0 rfl).lt;obtain ⟨b6,hb6⟩:∃b,w2.heap.size+1=b:=⟨_,rfl⟩;have H56:Hid (w2.heap.size < b6):=aA (by omega);rw [hb6] at HF4 ⊢;obtain ⟨b5,hb5⟩:∃b,w2.heap.size=b:=⟨_,rfl⟩;rw [hb5] at HF4 HG5 H56 HO4 ⊢;obtain ⟨W4,hW4⟩:∃W:World,W=((w2.alloc (.cells #[.string t,.slice ca cn.length cc] 30)).alloc (.cells #[.int .i64 11] 68)):=⟨_,rfl⟩;rw [<-hW4] at HF4 HO4 ⊢;clear hW4 hb5 hb6 HF2 HF1 HO2 HO1;have c0:=(HF4.out.blk 1 rfl).cell 0;have c1:=(HF4.out.blk 1 rfl).cell 1;have HG6:=aA (HF4.out.blk 0 rfl).lt;go_wp2_with (go_at_call 143;refine (sL _ _ _).mono ?_;rintro e w5 ⟨rfl,rfl⟩);have HF5:=aA (HF4.out.new 30 #[.string t,.slice ca cn.length cc]);have HO5:=aA (HO4.out.alloc (.cells #[.string t,.slice ca cn.length cc] 30));obtain ⟨bc,hbc⟩:∃b,W4.heap.size=b:=⟨_,rfl⟩;rw [hbc] at HF5 HG6 ⊢;obtain ⟨wS,hwS⟩:∃W:World,W=W4.alloc (.cells #[.string t,.slice ca cn.length cc] 30):=⟨_,rfl⟩;rw [<-hwS] at HF5 HO5 ⊢;clear hwS hbc HF4 HO4 c0 c1;have HGC:=aA (HF5.out.blk 0 rfl).lt;have HSEQ:=aA (TS bc t cn (.slice ca cn.length cc) _ wS (HF5.out.blk 0 rfl) HO5.out (HT.out.below HF5.out.below));have HSH:=aA (λ(x:aL) (p q:aB) (v u:Value) (W:World) (h:x∈eC t.data.toList cn) hp hq=>rW x.pg x.op ⟨x.iop.toArray⟩ ⟨x.ex.toArray⟩ t x.al x.args cn p q v u W hp hq (by have:=(HOK.out x h).2;omega) HCN.out (by have:=(HOK.out x h).1;omega) (by have:=HSZ.out;omega));have HFT:=aA (λ(x:aL) (p q:aB) (v u:Value) (W:World) (h:x∈eC t.data.toList cn) hp hq=>wM x.pg x.op ⟨x.iop.toArray⟩ ⟨x.ex.toArray⟩ t x.al x.args cn p q v u W hp hq (by have:=(HOK.out x h).2;omega) HCN.out (by have:=(HOK.out x h).1;omega) (by have:=HSZ.out;omega));have HI0:Hid (iI w wS b6 t cn [] wS):=aA ⟨Tk.refl,HF5.out.blk 1 rfl,λ_ h=>(by cases h),HF5.out.below,zI _⟩;have HWS:=aA HF5.out.below.size;generalize eC t.data.toList cn=L at *;refine (wpIn_wide (n:=9)).1 ?_;refine fW rfl (by omega) (gf:=197) (lb:=#[.pointer (some ⟨bc,0,none⟩)]) rfl trivial (enters_of Tryz.func197 (by kernel_rfl) rfl)
  (encs:=YB) (λ_=>rfl) HSEQ.out (λh k=>h.trans k) (λW l o o' h1 h2=>Tk.put W l o o' h1 h2)
  (λpre W=>iI w wS b6 t cn (pre.map (·.1)) W)
  (λc pre W=>c=.ret/\GP w (w.heap.size+1) (w.heap.size+1+1) t cn (pre.map (·.1)) W)
  (λpre W W' row hi hg hr=>hi.own HWS.out hg hr)
  (λc pre W W' row hi hg hr=>by dsimp only at hi ⊢;exact ⟨hi.1,hi.2.own HWS.out hg hr⟩)
  HI0.out
  (λpre x a' W=>∃(g:Nat) (u0 u4 u8 u9 u10 u11 u12 u13 u14 u15 u16 u17 u18 u19 u20 u21 u22 u23 u24 u25 u26 u27 u28 u29 u30 u31 u32 u33 u34 u35 u36 u37 u38 u39 u40:Value),wS.heap.size<=g/\Blk W g 158 (SV x.1 x.2)/\SlR aM W (λk=>wS.heap.size<=k) x.2 x.1.args/\(pre.map (·.1)++[x.1]) <+: L/\a'={tmps:=#[u0,.pointer (some ⟨w.heap.size,0,none⟩),.pointer (some ⟨w.heap.size+1,0,none⟩),.pointer (some ⟨w.heap.size+1+1,0,none⟩),u4,.pointer (some ⟨b5,0,none⟩),.pointer (some ⟨b6,0,none⟩),.pointer (some ⟨g,0,none⟩),u8,u9,u10,u11,u12,u13,u14,u15,u16,u17,u18,u19,u20,u21,u22,u23,u24,u25,u26,u27,u28,u29,u30,u31,u32,u33,u34,u35,u36,u37,u38,u39,u40],defers:=[]})
  ?ax ?assign ?body ?done ?stop
 case ax=>rintro pre x a' W l o o' ⟨g,u0,u4,u8,u9,u10,u11,u12,u13,u14,u15,u16,u17,u18,u19,u20,u21,u22,u23,u24,u25,u26,u27,u28,u29,u30,u31,u32,u33,u34,u35,u36,u37,u38,u39,u40,hg,hb,hs,hpre,rfl⟩ hl ho hc;exact ⟨g,u0,u4,u8,u9,u10,u11,u12,u13,u14,u15,u16,u17,u18,u19,u20,u21,u22,u23,u24,u25,u26,u27,u28,u29,u30,u31,u32,u33,u34,u35,u36,u37,u38,u39,u40,hg,eR (B:=0) hb (cU o') (λr e=>by injection e with e;subst e;exact ⟨YD _,o,ho,hc⟩),hs.tk (Tk.put (p:=λ_=>True) W l o o' ho hc) (λ_ _=>trivial),hpre,rfl⟩
 case assign=>
  rintro l pre ⟨⟨p1,o1,i1,l1,s1,f1⟩,v1⟩ W K hi ⟨hs,hpre⟩ hK;obtain ⟨xa,xc,rfl⟩:∃a c,v1=.slice a l1.length c:=by obtain ⟨a,c,e,_⟩:=hs;exact ⟨a,c,e⟩
  have HK:=aA hK;have HI:=aA hi;have HS:=aA hs;have HP:=aA hpre;have HBN:Hid (Below W.heap.size W (W.alloc (.cells #[.int .i64 p1,.int .u8 o1,.string ⟨i1.toArray⟩,.slice xa l1.length xc,.string ⟨s1.toArray⟩,.bool f1] 158))):=aA ((zY _ _).alloc (zI _) _);clear hK hi hs hpre;dsimp only [YB,bQ];gi_wp2;exact HK.out _ _ (eE.below HBN.out) (Tk.below HBN.out) (HI.out.stay HBN.out) ⟨W.heap.size,_,_,_,_,_,_,_,_,_,_,_,_,_,_,_,_,_,_,_,_,_,_,_,_,_,_,_,_,_,_,_,_,_,_,_,HI.out.size,Blk.new W _ _,HS.out.below HBN.out,HP.out,rfl⟩
 case body=>
  rintro l pre ⟨⟨p1,o1,i1,l1,s1,f1⟩,v1⟩ a' W hl hi ⟨g,u0,u4,u8,u9,u10,u11,u12,u13,u14,u15,u16,u17,u18,u19,u20,u21,u22,u23,u24,u25,u26,u27,u28,u29,u30,u31,u32,u33,u34,u35,u36,u37,u38,u39,u40,hg,hb,hs,hpre,rfl⟩;dsimp only [SV] at hb hs hpre;obtain ⟨xa,xc,rfl⟩:∃a c,v1=.slice a l1.length c:=by obtain ⟨a,c,e,_⟩:=hs;exact ⟨a,c,e⟩
  have hmem:(⟨p1,o1,i1,l1,s1,f1⟩:aL)∈L:=hpre.subset (by simp);have HI:=aA hi;have HS:=aA hs;have HB:=aA hb;have HC:=aA (HI.out.tk.blk (HF5.out.blk 2 rfl) (by have:=H56.out;omega));have HCS:=aA (HO5.out.tk HI.out.tk (λk hk=>by have:=hk.2;have:=H56.out;omega));have HSHX:=aA (HSH.out _ _ _ _ _ W hmem HS.out HCS.out);have HFTX:=aA (λW2 (hb:Below W.heap.size W W2)=>HFT.out _ _ _ _ _ W2 hmem (HS.out.below hb) (HCS.out.below hb));have HME:=aA (show (pre++[((⟨p1,o1,i1,l1,s1,f1⟩:aL),Value.slice xa l1.length xc)]).map (·.1)=pre.map (·.1)++[(⟨p1,o1,i1,l1,s1,f1⟩:aL)] from by rw [z0O];rfl);have HNE:Hid (dL t cn ⟨p1,o1,i1,l1,s1,f1⟩=(!f1&&shF ⟨i1.toArray⟩ t l1 cn)):=aA rfl;have HHI:Hid (iA t cn ⟨p1,o1,i1,l1,s1,f1⟩=(dL t cn ⟨p1,o1,i1,l1,s1,f1⟩&&(fQ ⟨i1.toArray⟩ t s1 l1 cn).2.2)):=aA rfl;have y4:=HB.out.cell 4;have y5:=HB.out.cell 5;clear hi hs hb hmem hpre HSEQ;cases f1;rotate_left
  ·have hn:dL t cn ⟨p1,o1,i1,l1,s1,true⟩=false:=HNE.out;have hh:iA t cn ⟨p1,o1,i1,l1,s1,true⟩=false:=(by rw [HHI.out,hn];rfl);have HEND:=aA (HI.out.snoc_no hn hh);clear hn hh;gi_wp2_with (refine ⟨trivial,?_⟩);exact ⟨eE.refl _ _,Tk.refl,by show iI w wS b6 t cn (List.map (λz:aL × Value=>z.1) _) _;rw [HME.out];exact HEND.out⟩
  have y0:=HB.out.cell 0;have y1:=HB.out.cell 1;have y2:=HB.out.cell 2;have y3:=HB.out.cell 3;have c0:=HC.out.cell 0;have c1:=HC.out.cell 1;generalize hsf:shF ⟨i1.toArray⟩ t l1 cn=sf at *;clear hsf;dsimp only at HSHX HFTX;cases sf
  ·have hn:dL t cn ⟨p1,o1,i1,l1,s1,false⟩=false:=HNE.out;have hh:iA t cn ⟨p1,o1,i1,l1,s1,false⟩=false:=(by rw [HHI.out,hn];rfl);have HEND:=aA (HI.out.snoc_no hn hh);clear hn hh;gi_wp2_with (refine ⟨trivial,?_⟩;gi_at_call 144;refine (CallsIn.inRound l (callsIn_wide.2 HSHX.out)).mono ?_;rintro e w6 ⟨rfl,hb6⟩;have HB6:=aA hb6;clear hb6);exact ⟨eE.below HB6.out,Tk.below HB6.out,by show iI w wS b6 t cn (List.map (λz:aL × Value=>z.1) _) _;rw [HME.out];exact HEND.out.stay HB6.out⟩
  have hn:dL t cn ⟨p1,o1,i1,l1,s1,false⟩=true:=HNE.out;have HN:=aA hn;rw [hn] at HHI;clear hn;generalize hfs:fQ ⟨i1.toArray⟩ t s1 l1 cn=fs at *;obtain ⟨fd,fn,fk⟩:=fs;clear hfs;dsimp only at HFTX HHI;cases fk
  ·have hh:iA t cn ⟨p1,o1,i1,l1,s1,false⟩=false:=HHI.out;have HEND:=aA (λW2 hb hc=>HI.out.snoc_near (W2:=W2) HN.out hh hb hc);clear hh
   gi_wp2_with (refine ⟨trivial,?_⟩;first
    | (gi_at_call 144;refine (CallsIn.inRound l (callsIn_wide.2 HSHX.out)).mono ?_;rintro e w6 ⟨rfl,hb6⟩;have HB6:=aA hb6;have HG6b:=aA (HB.out.below hb6 HB.out.lt);have HC6:=aA (HC.out.below hb6 HC.out.lt);have y0:=HG6b.out.cell 0;have y1:=HG6b.out.cell 1;have y2:=HG6b.out.cell 2;have y3:=HG6b.out.cell 3;have y4:=HG6b.out.cell 4;have y5:=HG6b.out.cell 5;have c0:=HC6.out.cell 0;have c1:=HC6.out.cell 1;clear hb6)
    | (gi_at_call 145;refine (CallsIn.inRound l (callsIn_wide.2 (HFTX.out _ HB6.out))).mono ?_;rintro e w7 ⟨rfl,hb7⟩;have HB7:=aA (HB6.out.trans (hb7.mono HB6.out.size));have HK7:=aA (HI.out.code.below HB7.out HI.out.code.lt);have k0:=HK7.out.cell 0;have k1:=HK7.out.free 0;clear hb7))
   exact ⟨(eE.below HB7.out).trans (eE.setCell HK7.out 0 _),(Tk.below HB7.out).trans (Tk.setCell (by have:=HG6.out;have:=HGC.out;omega) 0 _),by show iI w wS b6 t cn (List.map (λz:aL × Value=>z.1) _) _;rw [HME.out];exact HEND.out _ HB7.out (by have:=H56.out;have:=HG5.out;omega)⟩
  ·have HH:Hid (iA t cn ⟨p1,o1,i1,l1,s1,false⟩=true):=aA HHI.out
   gi_wp2_with (refine ⟨trivial,?_⟩;first
    | (gi_at_call 144;refine (CallsIn.inRound l (callsIn_wide.2 HSHX.out)).mono ?_;rintro e w6 ⟨rfl,hb6⟩;have HB6:=aA hb6;have HG6b:=aA (HB.out.below hb6 HB.out.lt);have HC6:=aA (HC.out.below hb6 HC.out.lt);have y0:=HG6b.out.cell 0;have y1:=HG6b.out.cell 1;have y2:=HG6b.out.cell 2;have y3:=HG6b.out.cell 3;have y4:=HG6b.out.cell 4;have y5:=HG6b.out.cell 5;have c0:=HC6.out.cell 0;have c1:=HC6.out.cell 1;clear hb6)
    | (gi_at_call 145;refine (CallsIn.inRound l (callsIn_wide.2 (HFTX.out _ HB6.out))).mono ?_;rintro e w7 ⟨rfl,hb7⟩;have HB7:=aA (HB6.out.trans (hb7.mono HB6.out.size));have HG7:=aA (HG6b.out.below hb7 HG6b.out.lt);have HE7:=aA ((HI.out.tk.blk (HF5.out.blk 4 rfl) (by have:=H56.out;have:=HG5.out;omega)).below HB7.out (HI.out.tk.blk (HF5.out.blk 4 rfl) (by have:=H56.out;have:=HG5.out;omega)).lt);have HD7:=aA ((HI.out.tk.blk (HF5.out.blk 3 rfl) (by have:=H56.out;have:=HG5.out;omega)).below HB7.out (HI.out.tk.blk (HF5.out.blk 3 rfl) (by have:=H56.out;have:=HG5.out;omega)).lt);have y0:=HG7.out.cell 0;have y1:=HG7.out.cell 1;have y2:=HG7.out.cell 2;have y3:=HG7.out.cell 3;have y4:=HG7.out.cell 4;have y5:=HG7.out.cell 5;have e0:=HE7.out.cell 0;have e1:=HE7.out.cell 1;have e2:=HE7.out.cell 2;have e3:=HE7.out.cell 3;have e4:=HE7.out.cell 4;have e5:=HE7.out.cell 5;have k0:=HE7.out.free 0;have k1:=HE7.out.free 1;have k2:=HE7.out.free 2;have k3:=HE7.out.free 3;have k4:=HE7.out.free 4;have k5:=HE7.out.free 5;have d0:=HD7.out.cell 0;have d1:=HD7.out.free 0;clear hb7))
   refine ⟨?_,rfl,pre.map (·.1),⟨p1,o1,i1,l1,s1,false⟩,.slice xa l1.length xc,(λk=>wS.heap.size<=k),HME.out,HI.out.no,HH.out,?_,?_,?_,?_⟩
   ·exact ((((((((eE.below HB7.out).trans (eE.setCell HE7.out 0 (.int .i64 p1))).trans (eE.setCell (HE7.out.set 0 (.int .i64 p1)) 1 (.int .u8 o1))).trans (eE.setCell ((HE7.out.set 0 (.int .i64 p1)).set 1 (.int .u8 o1)) 2 (.string ⟨i1.toArray⟩))).trans (eE.setCell (((HE7.out.set 0 (.int .i64 p1)).set 1 (.int .u8 o1)).set 2 (.string ⟨i1.toArray⟩)) 3 (.slice xa l1.length xc))).trans (eE.setCell ((((HE7.out.set 0 (.int .i64 p1)).set 1 (.int .u8 o1)).set 2 (.string ⟨i1.toArray⟩)).set 3 (.slice xa l1.length xc)) 4 (.string ⟨s1.toArray⟩))).trans (eE.setCell (((((HE7.out.set 0 (.int .i64 p1)).set 1 (.int .u8 o1)).set 2 (.string ⟨i1.toArray⟩)).set 3 (.slice xa l1.length xc)).set 4 (.string ⟨s1.toArray⟩)) 5 (.bool false))).trans (eE.setCell ((((((HD7.out.far (p:=⟨w.heap.size+1,0,none⟩) (by dsimp only;omega) (.int .i64 p1)).far (p:=⟨w.heap.size+1,1,none⟩) (by dsimp only;omega) (.int .u8 o1)).far (p:=⟨w.heap.size+1,2,none⟩) (by dsimp only;omega) (.string ⟨i1.toArray⟩)).far (p:=⟨w.heap.size+1,3,none⟩) (by dsimp only;omega) (.slice xa l1.length xc)).far (p:=⟨w.heap.size+1,4,none⟩) (by dsimp only;omega) (.string ⟨s1.toArray⟩)).far (p:=⟨w.heap.size+1,5,none⟩) (by dsimp only;omega) (.bool false)) 0 (.int .i64 0)))
   ·exact (((((((HE7.out.set 0 (.int .i64 p1)).set 1 (.int .u8 o1)).set 2 (.string ⟨i1.toArray⟩)).set 3 (.slice xa l1.length xc)).set 4 (.string ⟨s1.toArray⟩)).set 5 (.bool false)).far (p:=⟨w.heap.size+1+1,0,none⟩) (by dsimp only;omega) (.int .i64 0))
   ·exact (((((((HD7.out.far (p:=⟨w.heap.size+1,0,none⟩) (by dsimp only;omega) (.int .i64 p1)).far (p:=⟨w.heap.size+1,1,none⟩) (by dsimp only;omega) (.int .u8 o1)).far (p:=⟨w.heap.size+1,2,none⟩) (by dsimp only;omega) (.string ⟨i1.toArray⟩)).far (p:=⟨w.heap.size+1,3,none⟩) (by dsimp only;omega) (.slice xa l1.length xc)).far (p:=⟨w.heap.size+1,4,none⟩) (by dsimp only;omega) (.string ⟨s1.toArray⟩)).far (p:=⟨w.heap.size+1,5,none⟩) (by dsimp only;omega) (.bool false)).set 0 (.int .i64 0))
   ·exact ((((((((HS.out.below HB7.out).keep (aS.setCell (a:=⟨w.heap.size+1,0,none⟩) (λk hk=>by have:=HG5.out;have:=H56.out;have:=HG6.out;have:=HGC.out;dsimp only;omega) (.int .i64 p1))).keep (aS.setCell (a:=⟨w.heap.size+1,1,none⟩) (λk hk=>by have:=HG5.out;have:=H56.out;have:=HG6.out;have:=HGC.out;dsimp only;omega) (.int .u8 o1))).keep (aS.setCell (a:=⟨w.heap.size+1,2,none⟩) (λk hk=>by have:=HG5.out;have:=H56.out;have:=HG6.out;have:=HGC.out;dsimp only;omega) (.string ⟨i1.toArray⟩))).keep (aS.setCell (a:=⟨w.heap.size+1,3,none⟩) (λk hk=>by have:=HG5.out;have:=H56.out;have:=HG6.out;have:=HGC.out;dsimp only;omega) (.slice xa l1.length xc))).keep (aS.setCell (a:=⟨w.heap.size+1,4,none⟩) (λk hk=>by have:=HG5.out;have:=H56.out;have:=HG6.out;have:=HGC.out;dsimp only;omega) (.string ⟨s1.toArray⟩))).keep (aS.setCell (a:=⟨w.heap.size+1,5,none⟩) (λk hk=>by have:=HG5.out;have:=H56.out;have:=HG6.out;have:=HGC.out;dsimp only;omega) (.bool false))).keep (aS.setCell (a:=⟨w.heap.size+1+1,0,none⟩) (λk hk=>by have:=HG5.out;have:=H56.out;have:=HG6.out;have:=HGC.out;dsimp only;omega) (.int .i64 0)))
   ·exact ((((((((HI.out.below.trans (HB7.out.mono HI.out.below.size)).setCell (p:=⟨w.heap.size+1,0,none⟩) (by dsimp only;omega) (.int .i64 p1)).setCell (p:=⟨w.heap.size+1,1,none⟩) (by dsimp only;omega) (.int .u8 o1)).setCell (p:=⟨w.heap.size+1,2,none⟩) (by dsimp only;omega) (.string ⟨i1.toArray⟩)).setCell (p:=⟨w.heap.size+1,3,none⟩) (by dsimp only;omega) (.slice xa l1.length xc)).setCell (p:=⟨w.heap.size+1,4,none⟩) (by dsimp only;omega) (.string ⟨s1.toArray⟩)).setCell (p:=⟨w.heap.size+1,5,none⟩) (by dsimp only;omega) (.bool false)).setCell (p:=⟨w.heap.size+1+1,0,none⟩) (by dsimp only;omega) (.int .i64 0))
 case done=>
  rintro D xs W hD hall hi hK;have HI:=aA hi;have HKD:=aA hK;have HRR:Hid (R=(none,jP t cn (xs.map (·.1)))):=aA (by rw [HR.out,<-hall,List.find?_eq_none.2 (λe he=>by rw [hi.no e he];decide)]);have HC6:=aA (HI.out.code);have HE7:=aA (HI.out.tk.blk (HF5.out.blk 4 rfl) (by have:=H56.out;have:=HG5.out;omega));have HD7:=aA (HI.out.tk.blk (HF5.out.blk 3 rfl) (by have:=H56.out;have:=HG5.out;omega));clear hi hK hall HSEQ HSH HFT;generalize jP t cn (xs.map (·.1))=cde at *;have q0:=HC6.out.cell 0;have e0:=HE7.out.cell 0;have e1:=HE7.out.cell 1;have e2:=HE7.out.cell 2;have e3:=HE7.out.cell 3;have e4:=HE7.out.cell 4;have e5:=HE7.out.cell 5;have k0:=HE7.out.free 0;have k1:=HE7.out.free 1;have k2:=HE7.out.free 2;have k3:=HE7.out.free 3;have k4:=HE7.out.free 4;have k5:=HE7.out.free 5;have d0:=HD7.out.cell 0;have d1:=HD7.out.free 0;have n1:¬b6=w.heap.size+1:=by have:=H56.out;have:=HG5.out;omega
  have n2:¬w.heap.size+1=b6:=λe=>n1 e.symm;have n3:¬b6=w.heap.size+1+1:=by have:=H56.out;have:=HG5.out;omega
  have n4:¬w.heap.size+1+1=b6:=λe=>n3 e.symm;go_wp2;go_region;go_wp2;have hne1:D≠w.heap.size+1:=by have:=H56.out;have:=HG5.out;have:=HG6.out;have:=HGC.out;omega
  have hne2:D≠w.heap.size+1+1:=by have:=H56.out;have:=HG5.out;have:=HG6.out;have:=HGC.out;omega
  have hx1:=(((((((HE7.out.set 0 (.int .i64 0)).set 1 (.int .u8 0)).set 2 (.string ⟨#[]⟩)).set 3 (.slice none 0 0)).set 4 (.string ⟨#[]⟩)).set 5 (.bool false)).far (p:=⟨w.heap.size+1+1,0,none⟩) (by dsimp only;omega) (.int .i64 cde));have hx2:=(((((((HD7.out.far (p:=⟨w.heap.size+1,0,none⟩) (by dsimp only;omega) (.int .i64 0)).far (p:=⟨w.heap.size+1,1,none⟩) (by dsimp only;omega) (.int .u8 0)).far (p:=⟨w.heap.size+1,2,none⟩) (by dsimp only;omega) (.string ⟨#[]⟩)).far (p:=⟨w.heap.size+1,3,none⟩) (by dsimp only;omega) (.slice none 0 0)).far (p:=⟨w.heap.size+1,4,none⟩) (by dsimp only;omega) (.string ⟨#[]⟩)).far (p:=⟨w.heap.size+1,5,none⟩) (by dsimp only;omega) (.bool false)).set 0 (.int .i64 cde));have hx3:=(((((((HI.out.below.setCell (p:=⟨w.heap.size+1,0,none⟩) (by dsimp only;omega) (.int .i64 0)).setCell (p:=⟨w.heap.size+1,1,none⟩) (by dsimp only;omega) (.int .u8 0)).setCell (p:=⟨w.heap.size+1,2,none⟩) (by dsimp only;omega) (.string ⟨#[]⟩)).setCell (p:=⟨w.heap.size+1,3,none⟩) (by dsimp only;omega) (.slice none 0 0)).setCell (p:=⟨w.heap.size+1,4,none⟩) (by dsimp only;omega) (.string ⟨#[]⟩)).setCell (p:=⟨w.heap.size+1,5,none⟩) (by dsimp only;omega) (.bool false)).setCell (p:=⟨w.heap.size+1+1,0,none⟩) (by dsimp only;omega) (.int .i64 cde));have hx4:=((xV ((((((W.setCell ⟨w.heap.size+1,0,none⟩ (.int .i64 0)).setCell ⟨w.heap.size+1,1,none⟩ (.int .u8 0)).setCell ⟨w.heap.size+1,2,none⟩ (.string ⟨#[]⟩)).setCell ⟨w.heap.size+1,3,none⟩ (.slice none 0 0)).setCell ⟨w.heap.size+1,4,none⟩ (.string ⟨#[]⟩)).setCell ⟨w.heap.size+1,5,none⟩ (.bool false)) ⟨w.heap.size+1+1,0,none⟩ (.int .i64 cde) D hne2).trans ((xV (((((W.setCell ⟨w.heap.size+1,0,none⟩ (.int .i64 0)).setCell ⟨w.heap.size+1,1,none⟩ (.int .u8 0)).setCell ⟨w.heap.size+1,2,none⟩ (.string ⟨#[]⟩)).setCell ⟨w.heap.size+1,3,none⟩ (.slice none 0 0)).setCell ⟨w.heap.size+1,4,none⟩ (.string ⟨#[]⟩)) ⟨w.heap.size+1,5,none⟩ (.bool false) D hne1).trans ((xV ((((W.setCell ⟨w.heap.size+1,0,none⟩ (.int .i64 0)).setCell ⟨w.heap.size+1,1,none⟩ (.int .u8 0)).setCell ⟨w.heap.size+1,2,none⟩ (.string ⟨#[]⟩)).setCell ⟨w.heap.size+1,3,none⟩ (.slice none 0 0)) ⟨w.heap.size+1,4,none⟩ (.string ⟨#[]⟩) D hne1).trans ((xV (((W.setCell ⟨w.heap.size+1,0,none⟩ (.int .i64 0)).setCell ⟨w.heap.size+1,1,none⟩ (.int .u8 0)).setCell ⟨w.heap.size+1,2,none⟩ (.string ⟨#[]⟩)) ⟨w.heap.size+1,3,none⟩ (.slice none 0 0) D hne1).trans ((xV ((W.setCell ⟨w.heap.size+1,0,none⟩ (.int .i64 0)).setCell ⟨w.heap.size+1,1,none⟩ (.int .u8 0)) ⟨w.heap.size+1,2,none⟩ (.string ⟨#[]⟩) D hne1).trans ((xV (W.setCell ⟨w.heap.size+1,0,none⟩ (.int .i64 0)) ⟨w.heap.size+1,1,none⟩ (.int .u8 0) D hne1).trans ((xV W ⟨w.heap.size+1,0,none⟩ (.int .i64 0) D hne1).trans HKD.out)))))));generalize (((((((W.setCell ⟨w.heap.size+1,0,none⟩ (.int .i64 0)).setCell ⟨w.heap.size+1,1,none⟩ (.int .u8 0)).setCell ⟨w.heap.size+1,2,none⟩ (.string ⟨#[]⟩)).setCell ⟨w.heap.size+1,3,none⟩ (.slice none 0 0)).setCell ⟨w.heap.size+1,4,none⟩ (.string ⟨#[]⟩)).setCell ⟨w.heap.size+1,5,none⟩ (.bool false)).setCell ⟨w.heap.size+1+1,0,none⟩ (.int .i64 cde))=W9 at *;refine ⟨by simp,.inl ⟨_,_,rfl,run_takeDeferred (w:=W9.drew) hx4,?_⟩⟩;have hgr:W9.drew.grownBy (W9.drew.putObj D (.deferred none)) (some D):=cU _;have hrr:∀r,some D=some r->wS.heap.size<=r/\∃o:Obj,W9.drew.heap[r]?=some o/\o.isCells=false:=λr e=>by injection e with e;subst e;exact ⟨hD,_,hx4,rfl⟩
  refine ⟨_,gW rfl _ _ _ _ _ _ _ _ _ rfl (eR (W:=W9.drew) hx1 hgr hrr) Tryz.underlying158 rfl (by kernel_rfl) rfl (qW ((eR (W:=W9.drew) hx2 hgr hrr).cell 0)),?_⟩;rw [HRR.out];exact ⟨rfl,hx3.drew.grown hgr hx3.drew.size (λk hk=>qJ HWS.out (hrr k hk).1)⟩
 case stop=>
  rintro D c pre W hD hpre ⟨rfl,pre0,x,v,q,h1,h2,h3,h4,h5,h6,h7⟩ hK;have HRR:Hid (R=(some x,0)):=aA (by rw [HR.out,xP (x:=x) (by rw [<-h1];exact hpre) h2 h3]);have HKD:=aA hK;have HX4:=aA h4;have HX5:=aA h5;have HX6:=aA h6;have HX7:=aA h7;clear h1 h2 h3 h4 h5 h6 h7 hK HSEQ HSH HFT;gi_wp2;refine ⟨by simp,.inl ⟨_,_,rfl,run_takeDeferred HKD.out,?_⟩⟩;have hgr:W.grownBy (W.putObj D (.deferred none)) (some D):=cU _;have hrr:∀r,some D=some r->wS.heap.size<=r/\∃o:Obj,W.heap[r]?=some o/\o.isCells=false:=λr e=>by injection e with e;subst e;exact ⟨hD,_,HKD.out,rfl⟩
  refine ⟨_,gW rfl _ _ _ _ _ _ _ _ _ rfl (eR HX4.out hgr hrr) Tryz.underlying158 rfl (by kernel_rfl) rfl (qW ((eR HX5.out hgr hrr).cell 0)),?_⟩;rw [HRR.out];exact ⟨⟨v,q,rfl,HX6.out.tk (Tk.own (P:=λ_=>True) hgr hrr) (λ_ _=>trivial)⟩,HX7.out.grown hgr HX7.out.size (λk hk=>qJ HWS.out (hrr k hk).1)⟩
theorem mB (x:Ins):(aE x).args.length<=x.args.length+1:=by
 obtain ⟨s,l⟩:=x;show (eB s l).length<=l.length+1;unfold eB;have h1:∀l:List Opd,(gI s l).length=l.length:=by
  intro l;unfold gI;split
  ·rename_i h;rw [jU (xS.1 h).2];rfl
  ·rfl
 dsimp only;rw [z0B,h1];unfold cP;split
 ·split<;>simp
 ·split<;>simp
 ·exact jQ _
theorem Blk.pair {w:World} {b:Nat} {t:TypeId} {x0 x1:Value} (h:Blk w b t #[x0,x1]):w.cell? ⟨b,0,none⟩=some x0/\w.cell? ⟨b,1,none⟩=some x1:=⟨h.cell 0,h.cell 1⟩
structure CV (x:Ins):Prop where
 op:x.op.size<=100
 n:x.args.length<=20
 f:∀y∈x.args,cN y.n
theorem CV.find {x:Ins} (m:CV x) (p:aB) (v:Value) (w:World) (h:SlR aM w p v x.args) (hT:Spc w):Calls Tryz.prog 100 #[.agg #[.string x.op,v]] w (TQ w (cQ x)):=VU p x v w h hT (by have:=m.op;omega) (by have:=m.n;omega) (by have:=m.n;have:=mB x;omega) m.f
end Go.Proofs.YtpigbggoiipmhaaGreatDoor
namespace Go.Proofs.YtpigbggoiipmhaaGreatDoor
set_option maxRecDepth 100000
open Go.RowKit Go.ChangeShapes Go.WideShapes Go.ChangeAt Go.Deep Go.Joins
theorem own_knob:ownKnob Tryz.prog.godebug=none:=by kernel_rfl
theorem gSpc:Tryz.prog.globalNamed "strings.asciiSpace" =some 1:=by kernel_rfl
theorem spc_of_reads {w:World} (h:Lib.VarReads Tryz.prog w "strings.asciiSpace" (Lib.tabData .u8 Lib.asciiSpaceTab)):Spc w:=by obtain ⟨g,t,cs,fuel,p,hg,ht,hv,hd⟩:=h;obtain rfl:=ZS (gSpc.symm.trans hg);obtain rfl:=ZS ((show (Tryz.prog.globals[1]?).map (·.type)=some 290 by kernel_rfl).symm.trans ht);unfold Spc Lib.TabIs;rw [hv,<-Lib.cells_of_tab Tryz.underlying290 Tryz.underlying5 (by kernel_rfl) (by kernel_rfl) hd]
theorem TP:Tryz.prog.cellsOf 3=1:=by kernel_rfl
theorem zS (b o n:Nat):(⟨b,o,none⟩:Addr).add n=⟨b,o+n,none⟩:=by unfold Addr.add;split<;>simp_all
variable {H:Type} {enc:TypeId × Value->H} {W:World}
variable {H:Type} {enc:TypeId × Value->H} {W:World}
theorem qI {α:Type} {f:α->Value} {h1:∀x,∀u∈[f x],u.oneCell'=true} {Q:α->Prop} {t e:TypeId} {fuel:Nat} {cs:List Value} {y:DataW H × List MemPlace} (ht:Tryz.prog.underlying t=some (.slice e)) (hc:Tryz.prog.cellsOf e=1)
  (hel:∀(n:Nat) (v:Value) (y:DataW H × List MemPlace),DataW.trod enc Tryz.prog W 0 (λ_=>true) true n e [v]=some y->∃x,v=f x/\Q x) (h:DataW.trod enc Tryz.prog W 0 (λ_=>true) true fuel t cs=some y):
  ∃v l,cs=[v]/\SlR (Rep.flat 1 (λx=>[f x]) (λ_=>rfl) h1) W (λ_=>True) v l/\∀x∈l,Q x:=by
 rcases open_slice1 ht hc h with ⟨rfl,_⟩ | ⟨a,len,cap,m,n,V,D,Pl,rfl,_,hl,hm,hmm,_,hi⟩
 ·exact ⟨_,[],rfl,SlR.nil _ _ _,by simp⟩
 ·have key:∀i,i < len->∃x:α,W.cell? (a.add i)=some (f x)/\Q x:=λi hil=>by exact tX61
  by_cases h0:0 < len
  ·obtain ⟨x0,_⟩:=key 0 h0;have key2:∀i,∃x:α,i < len->W.cell? (a.add i)=some (f x)/\Q x:=λi=>(by exact tX69);have hg:=λi=>(key2 i).choose_spec;generalize hF:(λi=>(key2 i).choose)=F at hg;have hF':∀i,(key2 i).choose=F i:=λi=>congrFun hF i;simp only [hF'] at hg;have hat:∀i x,((List.range len).map F)[i]?=some x->i < len/\F i=x:=λi x hx=>(by exact tX3b);refine ⟨_,(List.range len).map F,rfl,⟨some a,cap,by simp,by simpa using hl,hm,λi x hx=>?_⟩,λx hx=>?_⟩
   ·obtain ⟨hil,rfl⟩:=hat i x hx;have hcell:=(hg i hil).1;obtain ⟨b,o,spot⟩:=a;have hspot:spot=none:=(by have:=(hg 0 h0).1;simpa [Addr.add] using World.cell?_spot this);subst hspot;rw [zS] at hcell;exact tX47
   ·obtain ⟨i,hi',rfl⟩:=z2A.1 hx;exact (hg i (by simpa using hi')).2
  ·obtain rfl:len=0:=(by omega);exact tX7b
theorem lN {a:Option Addr} {n c:Nat}:(Value.slice a n c).cells.toList=[.slice a n c]:=rfl
theorem XM {b0:Nat} {v:Value} {d:DataW H} {p:List MemPlace} (hv:Value.okWide Tryz.prog W .any b0 38 v) (h:DataW.Trod enc Tryz.prog W 0 (λ_=>true) true 38 v d p):
  ∃l,SlR oO W (λ_=>True) v l/\∀n∈l,cN n:=by
 obtain ⟨a,n,c,rfl⟩:=okWide_slice Tryz.underlying38 hv;obtain ⟨fuel,hf⟩:=h;obtain ⟨v,l,e,hs,hq⟩:=qI (α:=Int) (f:=λn=>.int .i64 n) (h1:=λx u hu=>by simp at hu;subst hu;rfl) (Q:=cN) Tryz.underlying38 TP (λn v y ht=>by obtain ⟨k,q,_,wf⟩:=DataW.trod_int Tryz.underlying3 ht;obtain rfl:=z0V q |>.1;exact ⟨k,rfl,bounds_i64 wf⟩) hf;rw [lN] at e;obtain rfl:=z0V e |>.1;exact ⟨l,hs,hq⟩
end Go.Proofs.YtpigbggoiipmhaaGreatDoor
