/-
  table.find; Index of operands; Prefixes. Conditions: sizes; the library's table as its initialiser lays it.
-/
import Derived.Test.YtpigbggoiipmhaaGreatDoorBA10
namespace Go.Proofs.YtpigbggoiipmhaaGreatDoor
set_option maxHeartbeats 8000000
set_option maxRecDepth 100000
open Go.RowKit Go.Shelf
def lG (bits:List UInt8) (op:Nat):List (List UInt8)->Option (List Opd × List UInt8)
 | []=>some ([],[])
 | s::r=>(EC bits op s).bind λa=>(lG bits op r).map λb=>(a.1::b.1,a.2++b.2)
structure aL where
 pg:Int
 op:Nat
 iop:List UInt8
 args:List Opd
 ex:List UInt8
 al:Bool
def gV (pg:Int) (L:List (List UInt8)) (op:Nat):Option aL:=(dV op L).bind λt=>(tX t).bind λr=>(lG r.bits op r.args).map λa=>⟨pg,op,r.op,a.1,a.2,r.alias⟩
def bQ (x:aL) (v:Value):Value:=.agg #[.int .i64 x.pg,.int .u8 x.op,.string ⟨x.iop.toArray⟩,v,.string ⟨x.ex.toArray⟩,.bool x.al]
def mX:Value:=.agg #[.int .i64 0,.int .u8 0,.string ⟨#[]⟩,.slice none 0 0,.string ⟨#[]⟩,.bool false]
theorem GB {bits:List UInt8} {op:Nat} {s:List UInt8} {r:List (List UInt8)} {os:List Opd} {ex:List UInt8} (h:lG bits op (s::r)=some (os,ex)):∃o e1 os2 e2,EC bits op s=some (o,e1)/\lG bits op r=some (os2,e2)/\os=o::os2/\ex=e1++e2:=by
 rw [lG] at h;cases ha:EC bits op s with
 | none=>rw [ha] at h;cases h
 | some a=>
  rw [ha,Option.bind_some] at h;cases hb:lG bits op r with
  | none=>rw [hb] at h;cases h
  | some b=>rw [hb] at h;injection h with h;injection h with h1 h2;exact ⟨a.1,a.2,b.1,b.2,rfl,rfl,h1.symm,h2.symm⟩
theorem rE {a b c:World} {row:Option Nat} (h:a.grownBy b row) (k:b.grownBy c row):a.grownBy c row:=⟨k.os.trans h.os,k.tape.trans h.tape,k.output.trans h.output,qJ h.size k.size,λi hi hne=>(k.block i (vB hi h.size) hne).trans (h.block i hi hne)⟩
structure FnI (w5:World) (bp:Nat) (x:dO) (ys:List Opd) (w:World):Prop where
 bk:BK w bp x
 own:Own aM w w5.heap.size 52 NoB x.ia ys
 grown:w5.grownBy w (some bp)
 lt:bp < w5.heap.size
theorem FnI.arg {w5 w w':World} {bp:Nat} {x:dO} {ys:List Opd} {ext:List UInt8} (h:FnI w5 bp x ys w) (hb:BK w' bp {x with ex:=x.ex++ext}) (hg:w.grownBy w' (some bp)):FnI w5 bp {x with ex:=x.ex++ext} ys w':=
 ⟨hb,h.own.keep (λk hk=>by
  rcases hk with hk | hk
  ·exact hk.elim
  ·have:=h.own.lt k hk;exact hg.block k this.2 (λe=>by injection e with e;have:=h.lt;omega)),rE h.grown hg,h.lt⟩
theorem FnI.later {w5 w w':World} {bp:Nat} {x:dO} {ys:List Opd} (h:FnI w5 bp x ys w) (hb:Below w.heap.size w w'):FnI w5 bp x ys w':=⟨h.bk.below hb h.bk.lt,h.own.keep (aS.of_below hb (λj hj=>by rcases hj with hj | hj;exact hj.elim;exact (h.own.lt j hj).2)),rE h.grown (bZ bp hb),h.lt⟩
theorem FnI.push {w5 w:World} {bp:Nat} {x:dO} {ys:List Opd} (h:FnI w5 bp x ys w) (o:Opd) (hys:ys.length<=1000):
  ∃a c w3,(Builtin.append_ #[28,28] 28 #[x.ia,.slice (some ⟨w.heap.size,0,none⟩) 1 1]).run Tryz.prog (w.alloc (.cells #[.int .i64 o.kind,.int .i64 o.reg,.int .i64 o.n] 52))=.ok (.slice a (ys.length+1) c) w3/\BK w3 bp x/\
   FnI w5 bp {x with ia:=.slice a (ys.length+1) c} (ys++[o]) (w3.setCell ⟨bp,3,none⟩ (.slice a (ys.length+1) c)):=by
 have hB:w5.heap.size<=w.heap.size:=h.grown.size;obtain ⟨a,c,w3,hrun,hp,hg⟩:=Own.pushed (P:=Tryz.prog) (ty:=28) lH (h:=h.own) (x:=o) #[.int .i64 o.kind,.int .i64 o.reg,.int .i64 o.n] rfl (by omega) (by omega) hB;have hne:∀k,x.ia.ownBlock=some k->k≠bp:=λk hk e=>by have:=(h.own.lt k hk).1;have:=h.lt;omega
 have hk3:BK w3 bp x:=h.bk.grown hg (λe=>hne bp e.symm rfl);refine ⟨a,c,w3,hrun,hk3,⟨?_,?_,?_,h.lt⟩⟩
 ·exact hk3.set 3 _
 ·refine hp.keep (λk hk=>?_);rcases hk with hk | hk
  ·exact hk.elim
  ·have:=(hp.lt k hk).1;exact xV _ _ _ _ (λe=>by have:=h.lt;have e:k=bp:=e;omega)
 ·refine ⟨hg.os.trans h.grown.os,hg.tape.trans h.grown.tape,hg.output.trans h.grown.output,by rw [yY];exact qJ h.grown.size hg.size,λk hk hn=>?_⟩;refine (xV _ _ _ _ (λe=>hn (by rw [show k=bp from e]))).trans ?_;exact (hg.block k (by have:=h.grown.size;omega) (λe=>by have:=(h.own.lt k e.symm).1;omega)).trans (h.grown.block k hk hn)
theorem ite_or {α:Type} {c:Prop} [Decidable c] {a b x:α} (h:(if c then a else b)=x):a=x\/b=x:=by
 by_cases hc:c
 ·rw [if_pos hc] at h;exact .inl h
 ·rw [if_neg hc] at h;exact .inr h
theorem RT {bits:List UInt8} {op:Nat} {s:List UInt8} {o:Opd} {ext:List UInt8} (h:EC bits op s=some (o,ext)):ext.length<=1:=by
 have hm:∀{a:Option Opd},a.map (·,([]:List UInt8))=some (o,ext)->ext.length<=1:=λh=>by rw [(pH h).1];exact YD _
 have hs:∀{a:Opd} {e:List UInt8},e.length<=1->some (a,e)=some (o,ext)->ext.length<=1:=λhl h=>by rw [<-(eA h).2];exact hl
 unfold EC at h;iterate 20
  rcases ite_or h with h | h
  ·first
    | exact hm h
    | exact hs (by decide) h
 cases h
theorem cZ {P:Program} {ops:Array Oper} {o:Oper} {a:Act} {w w':World} {K:Act->World->Prop} {Q:Exit->Act->World->Prop} {E:Prop} (hgd:o.guard=none) (s x:Operand) (t:TypeId)
  (ho:o.op=.call {callee:=.builtin .append,args:=#[s,x],argTypes:=#[t,t]}) (v vx v':Value) (hs:a.eval s=v) (hxe:a.eval x=vx)
  (hrun:(Builtin.append_ #[t,t] o.type #[v,vx]).run P w=.ok v' w') (h:K (a.put o.dst v') w'):if Region.wanted o (yielded ops a.tmps)=true then Oper.wp P o a w K Q else E:=by
 have hw:Region.wanted o (yielded ops a.tmps)=true:=by simp [Region.wanted,hgd]
 rw [if_pos hw];unfold Oper.wp execOp;simp only [ho,resolve,invoke,builtin,Sem.run_bind,Sem.run_pure,Result.andThen_ok,List.map_toArray,List.map_cons,List.map_nil,hs,hxe,hrun];exact h
structure okT (t:List UInt8) (r:rM):Prop where
 size:t.length<=1000
 asc:∀b∈t,b.toNat < 128
 bits:r.bits.length<=8
 args:∀a∈r.args,a.length<=1000
 cnt:r.args.length<=8
theorem vS (pg:Int) (s:ByteArray) (op:Nat) (t:List UInt8) (r:rM) (os:List Opd) (ex:List UInt8) (w:World) (hop:op < 256) (hs:s.size<=1000000) (hl:dV op (aU s.data.toList)=some t) (hr:tX t=some r) (ha:lG r.bits op r.args=some (os,ex)) (hok:okT t r) (hT:Spc w):
  Calls Tryz.prog 211 #[.int .i64 pg,.string s,.int .u8 op] w λe w'=>∃v,e=.returned (.tuple #[bQ ⟨pg,op,r.op,os,ex,r.alias⟩ v,.bool true])/\Own aM w' w.heap.size 52 NoB v os/\Below w.heap.size w w':=by
 have hb0:=(zY w.heap.size w).alloc (zI _) (.cells #[.int .i64 0,.int .u8 0,.string ⟨#[]⟩,.slice none 0 0,.string ⟨#[]⟩,.bool false] 158);have HB0:=aA hb0;have HF0:=aA (Blk.new w 158 #[.int .i64 0,.int .u8 0,.string ⟨#[]⟩,.slice none 0 0,.string ⟨#[]⟩,.bool false]);have HLK:=aA (λW=>oE s op hop W hs);rw [hl] at HLK;have HPA:=aA (λW hT=>KV ⟨t.toArray⟩ r W (by rw [show (⟨t.toArray⟩:ByteArray).data.toList=t by simp];exact hr) (by show t.toArray.size<=_;rw [XF];exact hok.size) (by rw [show (⟨t.toArray⟩:ByteArray).data.toList=t by simp];exact hok.asc) hT);have HT:=aA hT;have HBT:Hid (r.bits.length<=8):=hok.bits;have HAS:=aA hok.args;have HCN:=aA hok.cnt;have HA:=aA ha;have HOP:=aA hop;unfold JV at HLK;dsimp only at HLK;clear hb0 hl hr ha hok hT hs hop;obtain ⟨rb,ro,ra,ral⟩:=r;dsimp only at HPA HBT HAS HCN HA;show Calls _ _ _ _ λe w'=>∃v,e=.returned (.tuple #[.agg #[.int .i64 pg,.int .u8 op,.string ⟨ro.toArray⟩,v,.string ⟨ex.toArray⟩,.bool ral],.bool true])/\_;go_enter Tryz.func211,Tryz.ntmps211;go_wp2_with (first
  | (go_at_call 234;refine (HLK.out _).mono ?_;rintro e w2 ⟨rfl,hb⟩;have HB2:=aA (HB0.out.trans (hb.mono HB0.out.size));have HF2:=aA (HF0.out.below hb HF0.out.lt);clear hb)
  | (go_at_call 248;refine (HPA.out _ (HT.out.below HB2.out)).mono ?_;rintro e w4 ⟨vr,LS,rfl,hls,hlm,hb⟩;have HB4:=aA (HB2.out.trans (hb.mono HB2.out.size));have HF4:=aA (HF2.out.below hb HF2.out.lt);have HLS:=aA hls.old;have HLM:=aA hlm;obtain ⟨la,lc,rfl⟩:∃a c,vr=.slice a LS.length c:=(by obtain ⟨a,c,hv,_⟩:=hls;exact ⟨a,c,hv⟩);clear hls hlm hb))
 have hsz:((w4.alloc (.cells #[.string ⟨rb.toArray⟩,.string ⟨ro.toArray⟩,.slice la LS.length lc,.bool ral] 295)).alloc (.cells #[.int .i64 pg,.int .u8 op,.string ⟨ro.toArray⟩,.slice none 0 0,.string ⟨#[]⟩,.bool ral,.string ⟨rb.toArray⟩,.string ⟨ro.toArray⟩,.slice la LS.length lc,.bool ral] 299)).heap.size=w4.heap.size+2:=by rw [zW,zW]
 have hbk:BK ((w4.alloc (.cells #[.string ⟨rb.toArray⟩,.string ⟨ro.toArray⟩,.slice la LS.length lc,.bool ral] 295)).alloc (.cells #[.int .i64 pg,.int .u8 op,.string ⟨ro.toArray⟩,.slice none 0 0,.string ⟨#[]⟩,.bool ral,.string ⟨rb.toArray⟩,.string ⟨ro.toArray⟩,.slice la LS.length lc,.bool ral] 299)) (w4.heap.size+1) ⟨pg,op,⟨ro.toArray⟩,.slice none 0 0,[],ral,⟨rb.toArray⟩,⟨ro.toArray⟩,.slice la LS.length lc,ral⟩:=by have h:=Blk.new (w4.alloc (.cells #[.string ⟨rb.toArray⟩,.string ⟨ro.toArray⟩,.slice la LS.length lc,.bool ral] 295)) 299 #[.int .i64 pg,.int .u8 op,.string ⟨ro.toArray⟩,.slice none 0 0,.string ⟨#[]⟩,.bool ral,.string ⟨rb.toArray⟩,.string ⟨ro.toArray⟩,.slice la LS.length lc,.bool ral];rw [zW] at h;exact h
 have HBK:=aA hbk;have HSZ:=aA hsz;have HB5:=aA ((HB4.out.alloc HB4.out.size (.cells #[.string ⟨rb.toArray⟩,.string ⟨ro.toArray⟩,.slice la LS.length lc,.bool ral] 295)).alloc (by rw [zW];exact Nat.le_succ_of_le HB4.out.size) (.cells #[.int .i64 pg,.int .u8 op,.string ⟨ro.toArray⟩,.slice none 0 0,.string ⟨#[]⟩,.bool ral,.string ⟨rb.toArray⟩,.string ⟨ro.toArray⟩,.slice la LS.length lc,.bool ral] 299));have HF5:=aA ((HF4.out.alloc (.cells #[.string ⟨rb.toArray⟩,.string ⟨ro.toArray⟩,.slice la LS.length lc,.bool ral] 295)).alloc (.cells #[.int .i64 pg,.int .u8 op,.string ⟨ro.toArray⟩,.slice none 0 0,.string ⟨#[]⟩,.bool ral,.string ⟨rb.toArray⟩,.string ⟨ro.toArray⟩,.slice la LS.length lc,.bool ral] 299));have HLS5:=aA ((HLS.out.alloc (.cells #[.string ⟨rb.toArray⟩,.string ⟨ro.toArray⟩,.slice la LS.length lc,.bool ral] 295)).alloc (.cells #[.int .i64 pg,.int .u8 op,.string ⟨ro.toArray⟩,.slice none 0 0,.string ⟨#[]⟩,.bool ral,.string ⟨rb.toArray⟩,.string ⟨ro.toArray⟩,.slice la LS.length lc,.bool ral] 299));have hltw:w.heap.size < w4.heap.size:=HF4.out.lt;have hbpA:w4.heap.size < w4.heap.size+1:=YH _;have hbpB:=HBK.out.lt;clear HF4 hsz hbk;have hwh:w.heap.size<=w4.heap.size:=HB4.out.size;generalize ((w4.alloc (.cells #[.string ⟨rb.toArray⟩,.string ⟨ro.toArray⟩,.slice la LS.length lc,.bool ral] 295)).alloc (.cells #[.int .i64 pg,.int .u8 op,.string ⟨ro.toArray⟩,.slice none 0 0,.string ⟨#[]⟩,.bool ral,.string ⟨rb.toArray⟩,.string ⟨ro.toArray⟩,.slice la LS.length lc,.bool ral] 299))=w5 at *;generalize w4.heap.size+1=bp at *;have HLT:=aA hltw;have HPA':=aA hbpA;have HPB:=aA hbpB;obtain ⟨a1,c1,heq,hc1,hm1,g1⟩:=HLS5.out.str;injection heq with ea eb ec;subst ea;subst ec;have hm:∀k (x:ByteArray),LS[k]?=some x->ra.drop k=x.data.toList::ra.drop (k+1):=λk x hx=>by rw [<-HLM.out,<-List.map_drop,<-List.map_drop];rw [ZX (ZV.1 hx).1,z0U,(ZV.1 hx).2]
 have hxl:∀k (x:ByteArray),LS[k]?=some x->x.size<=1000:=λk x hx=>by have:=HAS.out x.data.toList (by show _∈ra;rw [<-HLM.out];exact List.mem_map_of_mem (VM hx));simpa using this
 have hcn:LS.length<=8:=by have:=HCN.out;have e:=HLM.out;change ra.length<=8 at this;rw [<-e,z0B] at this;exact this
 have HM:=aA hm;have HXL:=aA hxl;have HG1:=aA g1;clear hltw hbpA hbpB hm hxl g1 hwh HLK HPA HF0 HB0 HB2 HF2 HB4 HLS HLS5;go_loopw [44] (λi wr=>∃(k:Nat) (v:Value) (exk:List UInt8) (ys os2:List Opd) (e2:List UInt8),k<=LS.length/\i=.int .i64 k/\FnI w5 bp ⟨pg,op,⟨ro.toArray⟩,v,exk,ral,⟨rb.toArray⟩,⟨ro.toArray⟩,.slice la LS.length lc,ral⟩ ys wr/\exk.length<=k/\ys.length=k/\lG rb op (ra.drop k)=some (os2,e2)/\os=ys++os2/\ex=exk++e2) (λi _=>LS.length - (intOf i).toNat);case atStart=>exact ⟨0,_,[],[],os,ex,YD _,rfl,⟨HBK.out,Own.nil _ _ _ _ _,bZ _ (zY _ _),HPB.out⟩,zI _,rfl,HA.out,rfl,rfl⟩
 case round=>
  obtain ⟨k,v,exk,ys,os2,e2,hk,rfl,hf,hex,hys,ha2,hos,hexx⟩:=hrel;by_cases hlt:k < LS.length
  ·have hxk:=zL hlt;rw [HM.out k _ hxk] at ha2;obtain ⟨o,e1,os3,e3,h1,h2,rfl,rfl⟩:=GB ha2;obtain ⟨av,cv,rfl⟩:∃a c,v=.slice a ys.length c:=hf.own.form;obtain ⟨b1,o1,rfl,hb1,d1⟩:=HG1.out k _ hxk;have hsx:=HXL.out k _ hxk;have hwk:wr.cell? ⟨b1,o1+k,none⟩=some (.string LS[k]):=(by rw [<-d1];exact z0E (w:=w5) (hf.grown.block b1 (by have:=HPA'.out;have:=HPB.out;omega) (λe=>by injection e with e;have:=HPA'.out;omega)));generalize LS[k]=x at *;have HAR:=aA (arg_any bp ⟨pg,op,⟨ro.toArray⟩,.slice av ys.length cv,exk,ral,⟨rb.toArray⟩,⟨ro.toArray⟩,.slice (some ⟨b1,o1,none⟩) LS.length lc,ral⟩ x o e1 wr hf.bk ⟨HOP.out,by show rb.toArray.size<=_;rw [XF];exact HBT.out,by show exk.length<=_;omega,⟨_,_,_,rfl⟩,⟨_,_,_,rfl⟩⟩ (by rw [show (⟨rb.toArray⟩:ByteArray).data.toList=rb by simp];exact h1) hsx (HT.out.below (HB5.out.grown hf.grown HB5.out.size (λk e=>by injection e with e;have:=HLT.out;have:=HPA'.out;omega))));have HEX:=aA hexx;have HOS:=aA hos;have HF:=aA hf;have HL1:=aA (RT h1);have H2:=aA h2;have HEL:=aA hex;have HYL:=aA hys;clear hexx hos hf h1 h2 ha2 hb1 d1 hsx hex hys hxk;go_upto_region 11 with (go_at_call 249;refine HAR.out.mono ?_;rintro e w6 ⟨rfl,hbk6,hg6⟩;have HF6:=aA (HF.out.arg hbk6 hg6);clear hbk6 hg6;unfold Opd.val);have HF7:=aA (HF6.out.later ((zY _ _).alloc (zI _) (.cells #[.int .i64 o.kind,.int .i64 o.reg,.int .i64 o.n] 52)).drew);obtain ⟨a3,c3,w7,hrun,hk7,hf7⟩:=HF7.out.push o (by have:=HYL.out;omega);have hsz7:(w6.alloc (.cells #[.int .i64 o.kind,.int .i64 o.reg,.int .i64 o.n] 52)).drew.heap.size=w6.heap.size+1:=(by show (w6.alloc (.cells #[.int .i64 o.kind,.int .i64 o.reg,.int .i64 o.n] 52)).heap.size=_;rw [zW]);have hrun2:(Builtin.append_ #[28,28] 28 #[.slice av ys.length cv,.slice (some ⟨w6.heap.size+1,0,none⟩) 1 1]).run Tryz.prog ((w6.alloc (.cells #[.int .i64 o.kind,.int .i64 o.reg,.int .i64 o.n] 52)).alloc (.cells #[.int .i64 o.kind,.int .i64 o.reg,.int .i64 o.n] 52)).drew=.ok (.slice a3 (ys.length+1) c3) w7:=(by rw [hsz7] at hrun;exact hrun);clear hrun hsz7;have q3:(w6.alloc (.cells #[.int .i64 o.kind,.int .i64 o.reg,.int .i64 o.n] 52)).drew.cell? ⟨bp,3,none⟩=some (.slice av ys.length cv):=HF7.out.bk.cell 3;have q3':((w6.alloc (.cells #[.int .i64 o.kind,.int .i64 o.reg,.int .i64 o.n] 52)).alloc (.cells #[.int .i64 o.kind,.int .i64 o.reg,.int .i64 o.n] 52)).drew.cell? ⟨bp,3,none⟩=some (.slice av ys.length cv):=(HF7.out.bk.alloc (.cells #[.int .i64 o.kind,.int .i64 o.reg,.int .i64 o.n] 52)).cell 3;have q7:w7.cell? ⟨bp,3,none⟩=some (.slice av ys.length cv):=hk7.cell 3;have q7f:w7.frozen? ⟨bp,3,none⟩=false:=hk7.free 3;have HF8:=aA hf7;clear hf7 hk7;go_region_law ((refine cZ (by rfl) (.tmp 57) (.tmp 59) 28 (by rfl) _ _ _ (by rfl) (by rfl) hrun2 ?_));all_goals
    go_wp2;go_roundw;case rel=>exact ⟨k+1,.slice a3 (ys.length+1) c3,exk++e1,ys++[o],os3,e3,by omega,by go_num,HF8.out,by rw [YL];have:=HL1.out;have:=HEL.out;omega,by rw [YL,HYL.out];rfl,H2.out,by rw [HOS.out,JP];rfl,by rw [HEX.out,JP]⟩
    case measure=>simp [intOf];omega
  ·have hkl:k=LS.length:=(by omega);have hd:ra.drop k=[]:=(by rw [<-HLM.out,hkl,<-List.map_drop,List.drop_length];rfl);rw [hd,lG] at ha2;injection ha2 with ha2;injection ha2 with hz1 hz2;subst hz1 hz2;rw [z1E] at hos hexx;subst hos hexx;obtain ⟨av,cv,rfl⟩:∃a c,v=.slice a os.length c:=hf.own.form;have HFB:=aA (HF5.out.grown hf.grown (λe=>by injection e with e;have:=HLT.out;have:=HPA'.out;omega));have k0:wr.cell? ⟨bp,0,none⟩=some (.int .i64 pg):=hf.bk.cell 0;have k1:wr.cell? ⟨bp,1,none⟩=some (.int .u8 op):=hf.bk.cell 1;have k2:wr.cell? ⟨bp,2,none⟩=some (.string ⟨ro.toArray⟩):=hf.bk.cell 2;have k3:wr.cell? ⟨bp,3,none⟩=some (.slice av os.length cv):=hf.bk.cell 3;have k4:wr.cell? ⟨bp,4,none⟩=some (.string ⟨ex.toArray⟩):=hf.bk.cell 4;have k5:wr.cell? ⟨bp,5,none⟩=some (.bool ral):=hf.bk.cell 5;have f0:=HFB.out.cell 0;have f1:=HFB.out.cell 1;have f2:=HFB.out.cell 2;have f3:=HFB.out.cell 3;have f4:=HFB.out.cell 4;have f5:=HFB.out.cell 5;have z0:=HFB.out.free 0;have z1:=HFB.out.free 1;have z2:=HFB.out.free 2;have z3:=HFB.out.free 3;have z4:=HFB.out.free 4;have z5:=HFB.out.free 5;have HBW:=aA (HB5.out.grown hf.grown HB5.out.size (λk e=>by injection e with e;have:=HLT.out;have:=HPA'.out;omega));have HO:=aA hf.own;clear hf hd hex hys hk;go_wp2;refine yR (aH rfl _ _ w.heap.size 158 #[.int .i64 pg,.int .u8 op,.string ⟨ro.toArray⟩,.slice av os.length cv,.string ⟨ex.toArray⟩,.bool ral] (0,0) _ rfl (show Blk _ w.heap.size 158 #[.int .i64 pg,.int .u8 op,.string ⟨ro.toArray⟩,.slice av os.length cv,.string ⟨ex.toArray⟩,.bool ral] from (((((HFB.out.set 0 _).set 1 _).set 2 _).set 3 _).set 4 _).set 5 _) Tryz.underlying158 rfl (by kernel_rfl)) rfl ⟨_,rfl,(HO.out.keep (λj hj=>?_)).base (by have:=HLT.out;have:=HPA'.out;have:=HPB.out;omega),?_⟩
   ·have hne:j≠w.heap.size:=by
     rcases hj with hj | hj
     ·exact hj.elim
     ·have:=(HO.out.lt j hj).1;have:=HLT.out;have:=HPA'.out;have:=HPB.out;omega
    rw [xV _ _ _ _ hne,xV _ _ _ _ hne,xV _ _ _ _ hne,xV _ _ _ _ hne,xV _ _ _ _ hne,xV _ _ _ _ hne]
   ·exact (((((HBW.out.setCell (zI _) _).setCell (zI _) _).setCell (zI _) _).setCell (zI _) _).setCell (zI _) _).setCell (zI _) _
def eV (x:Opd):Nat->List Opd->Int
 | _,[]=>-1
 | k,y::r=>if aP x y=true then k else eV x (k+1) r
theorem oW (p:aB) (v:Value) (l:List Opd) (x:Opd) (w:World) (h:SlR aM w p v l):
  Calls Tryz.prog 250 #[v,x.val] w λe w'=>e=.returned (.int .i64 (eV x 0 l))/\Below w.heap.size w w':=by
 obtain ⟨xk,xr,xn⟩:=x;obtain ⟨a1,c1,rfl,hc1,hm1,g1⟩:=h.opd;have HK:=aA (Blk.new w 52 #[.int .i64 xk,.int .i64 xr,.int .i64 xn]);have HB:=aA ((zY w.heap.size w).alloc (zI _) (.cells #[.int .i64 xk,.int .i64 xr,.int .i64 xn] 52));have hlt0:∀b,Hid (b < w.heap.size)->¬b=w.heap.size:=λb hb=>YX hb.out;have g2:∀i y,l[i]?=some y->∃b o,a1=some ⟨b,o,none⟩/\(w.alloc (.cells #[.int .i64 xk,.int .i64 xr,.int .i64 xn] 52)).cell? ⟨b,o+i * 3,none⟩=some (.int .i64 y.kind)/\(w.alloc (.cells #[.int .i64 xk,.int .i64 xr,.int .i64 xn] 52)).cell? ⟨b,o+i * 3+1,none⟩=some (.int .i64 y.reg)/\(w.alloc (.cells #[.int .i64 xk,.int .i64 xr,.int .i64 xn] 52)).cell? ⟨b,o+i * 3+2,none⟩=some (.int .i64 y.n):=by obtain ⟨a2,c2,e2,_,_,g3⟩:=(h.alloc (.cells #[.int .i64 xk,.int .i64 xr,.int .i64 xn] 52)).opd;injection e2 with e2;subst e2;intro i y hy;obtain ⟨b,o,e,_,d1,d2,d3⟩:=g3 i y hy;exact ⟨b,o,e,d1,d2,d3⟩
 have HG:=aA g2;clear h g1 g2 hlt0;have hop:=gD;show Calls _ _ _ _ λe w'=>e=.returned (.int .i64 (eV ⟨xk,xr,xn⟩ 0 l))/\_;unfold Opd.val;go_enter Tryz.func250,Tryz.ntmps250;go_wp2;obtain ⟨k0,k1,k2,_,_,_⟩:=HK.out.three;have hbw:w.heap.size < (w.alloc (.cells #[.int .i64 xk,.int .i64 xr,.int .i64 xn] 52)).heap.size:=HK.out.lt;generalize (w.alloc (.cells #[.int .i64 xk,.int .i64 xr,.int .i64 xn] 52))=w1 at *;go_loopw [5,8] (λ_ i wr=>∃k n:Nat,k<=l.length/\i=.int .i64 k/\wr=w1.drewN n/\eV ⟨xk,xr,xn⟩ 0 l=eV ⟨xk,xr,xn⟩ k (l.drop k)) (λ_ i _=>l.length - (intOf i).toNat);case atStart=>exact ⟨0,0,YD _,rfl,rfl,rfl⟩
 case round=>
  obtain ⟨k,n,hk,rfl,rfl,ht⟩:=hrel;by_cases hlt:k < l.length
  ·obtain ⟨b1,o1,rfl,d1,d2,d3⟩:=HG.out k l[k] (zL hlt);rw [ZX hlt,eV] at ht;generalize l[k]=y at *;obtain ⟨yk,yr,yn⟩:=y;dsimp only at d1 d2 d3;by_cases hxy:aP ⟨xk,xr,xn⟩ ⟨yk,yr,yn⟩=true
   ·rw [if_pos hxy] at ht;have HT:=aA ht;clear ht;go_wp2;go_quiet (fail);go_wp2;go_ret;exact ⟨by rw [HT.out];rfl,aY (aY HB.out _) _⟩
   ·rw [if_neg hxy] at ht;have hxy:aP ⟨xk,xr,xn⟩ ⟨yk,yr,yn⟩=false:=(by simpa using hxy);have HT:=aA ht;clear ht;go_wp2;go_quiet (fail);go_wp2;go_roundw;case rel=>exact ⟨k+1,n+nq,by omega,by go_num,rfl,HT.out⟩
    case measure=>simp [intOf];omega
  ·rw [VA (by omega),eV] at ht;have HT:=aA ht;clear ht;go_wp2;go_ret;exact ⟨by rw [HT.out];rfl,aY HB.out _⟩
def aR (p:Int):List UInt8:=if p=1 then [203] else if p=2 then [237] else if p=3 then [221] else if p=4 then [253] else if p=5 then [221,203] else if p=6 then [253,203] else []
end Go.Proofs.YtpigbggoiipmhaaGreatDoor
