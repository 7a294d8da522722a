/-
  table.At, whole. Conditions: sizes; the library's table as its initialiser lays it.
-/
import Derived.Test.YtnbmbcjnncbaiaaGreatDoorPE
import Derived.Test.YtnbmbcjnncbaiaaGreatDoorPD
import Derived.Test.YtnbmbcjnncbaiaaGreatDoorPG
namespace Go.Proofs.YtnbmbcjnncbaiaaGreatDoor
set_option maxHeartbeats 16000000
set_option maxRecDepth 100000
open Go.RowKit Go.Shelf
def argsF (bits:List UInt8) (op:Nat):List (List UInt8)→Option (List Opd × List UInt8)
 | []=>some ([],[])
 | s::r=>(argF bits op s).bind fun a=>(argsF bits op r).map fun b=>(a.1::b.1,a.2++b.2)
structure EntV where
 pg:Int
 op:Nat
 iop:List UInt8
 args:List Opd
 ex:List UInt8
 al:Bool
def findF (pg:Int) (L:List (List UInt8)) (op:Nat):Option EntV:=
 (lookF op L).bind fun t=>(ruleF t).bind fun r=>(argsF r.bits op r.args).map fun a=>⟨pg,op,r.op,a.1,a.2,r.alias⟩
def entVal (x:EntV) (v:Value):Value:=.agg #[.int .i64 x.pg,.int .u8 x.op,.string ⟨x.iop.toArray⟩,v,.string ⟨x.ex.toArray⟩,.bool x.al]
def ent0:Value:=.agg #[.int .i64 0,.int .u8 0,.string ⟨#[]⟩,.slice none 0 0,.string ⟨#[]⟩,.bool false]
theorem argsF_cons {bits:List UInt8} {op:Nat} {s:List UInt8} {r:List (List UInt8)} {os:List Opd} {ex:List UInt8} (h:argsF bits op (s::r)=some (os,ex)):∃o e1 os2 e2,argF bits op s=some (o,e1)∧argsF bits op r=some (os2,e2)∧os=o::os2∧ex=e1++e2:=by
 rw [argsF] at h
 cases ha:argF bits op s with
 | none=>rw [ha] at h;cases h
 | some a=>
  rw [ha,Option.bind_some] at h
  cases hb:argsF bits op r with
  | none=>rw [hb] at h;cases h
  | some b=>
   rw [hb] at h
   injection h with h
   injection h with h1 h2
   exact ⟨a.1,a.2,b.1,b.2,rfl,rfl,h1.symm,h2.symm⟩
theorem grown_trans {a b c:World} {row:Option Nat} (h:a.grownBy b row) (k:b.grownBy c row):a.grownBy c row:=
 ⟨k.os.trans h.os,k.tape.trans h.tape,k.output.trans h.output,Nat.le_trans h.size k.size,fun i hi hne=>(k.block i (Nat.lt_of_lt_of_le hi h.size) hne).trans (h.block i hi hne)⟩
structure FnI (w5:World) (bp:Nat) (x:BdrV) (ys:List Opd) (w:World):Prop where
 bk:BK w bp x
 own:Own opdR w w5.heap.size 93 NoB x.ia ys
 grown:w5.grownBy w (some bp)
 lt:bp < w5.heap.size
theorem FnI.arg {w5 w w':World} {bp:Nat} {x:BdrV} {ys:List Opd} {ext:List UInt8} (h:FnI w5 bp x ys w) (hb:BK w' bp {x with ex:=x.ex++ext}) (hg:w.grownBy w' (some bp)):FnI w5 bp {x with ex:=x.ex++ext} ys w':=
 ⟨hb,h.own.keep (fun k hk=>by
  rcases hk with hk | hk
  ·exact hk.elim
  ·have:=h.own.lt k hk
   exact hg.block k this.2 (fun e=>by injection e with e;have:=h.lt;omega)),grown_trans h.grown hg,h.lt⟩
theorem FnI.later {w5 w w':World} {bp:Nat} {x:BdrV} {ys:List Opd} (h:FnI w5 bp x ys w) (hb:Below w.heap.size w w'):FnI w5 bp x ys w':=
 ⟨h.bk.below hb h.bk.lt,h.own.keep (Keep.of_below hb (fun j hj=>by rcases hj with hj | hj;exact hj.elim;exact (h.own.lt j hj).2)),grown_trans h.grown (grown_of bp hb),h.lt⟩
theorem FnI.push {w5 w:World} {bp:Nat} {x:BdrV} {ys:List Opd} (h:FnI w5 bp x ys w) (o:Opd) (hys:ys.length≤1000):
  ∃a c w3,(Builtin.append_ #[25,25] 25 #[x.ia,.slice (some ⟨w.heap.size,0,none⟩) 1 1]).run Tryz.prog (w.alloc (.cells #[.int .i64 o.kind,.int .i64 o.reg,.int .i64 o.n] 93))=.ok (.slice a (ys.length+1) c) w3∧BK w3 bp x∧
   FnI w5 bp {x with ia:=.slice a (ys.length+1) c} (ys++[o]) (w3.setCell ⟨bp,3,none⟩ (.slice a (ys.length+1) c)):=by
 have hB:w5.heap.size≤w.heap.size:=h.grown.size
 obtain ⟨a,c,w3,hrun,hp,hg⟩:=Own.pushed (P:=Tryz.prog) (ty:=25) elOpd (h:=h.own) (x:=o) #[.int .i64 o.kind,.int .i64 o.reg,.int .i64 o.n] rfl (by omega) (by omega) hB
 have hne:∀k,x.ia.ownBlock=some k→k≠bp:=fun k hk e=>by have:=(h.own.lt k hk).1;have:=h.lt;omega
 have hk3:BK w3 bp x:=h.bk.grown hg (fun e=>hne bp e.symm rfl)
 refine ⟨a,c,w3,hrun,hk3,⟨?_,?_,?_,h.lt⟩⟩
 ·exact hk3.set 3 _
 ·refine hp.keep (fun k hk=>?_)
  rcases hk with hk | hk
  ·exact hk.elim
  ·have:=(hp.lt k hk).1
   exact Below.heap_setCell _ _ _ _ (fun e=>by have:=h.lt;have e:k=bp:=e;omega)
 ·refine ⟨hg.os.trans h.grown.os,hg.tape.trans h.grown.tape,hg.output.trans h.grown.output,by rw [World.size_setCell];exact Nat.le_trans h.grown.size hg.size,fun k hk hn=>?_⟩
  refine (Below.heap_setCell _ _ _ _ (fun e=>hn (by rw [show k=bp from e]))).trans ?_
  exact (hg.block k (by have:=h.grown.size;omega) (fun e=>by have:=(h.own.lt k e.symm).1;omega)).trans (h.grown.block k hk hn)
end Go.Proofs.YtnbmbcjnncbaiaaGreatDoor
namespace Go.Proofs.YtnbmbcjnncbaiaaGreatDoor
set_option maxHeartbeats 16000000
set_option maxRecDepth 100000
open Go.RowKit Go.Shelf
theorem ite_or {α:Type} {c:Prop} [Decidable c] {a b x:α} (h:(if c then a else b)=x):a=x∨b=x:=by
 by_cases hc:c
 ·rw [if_pos hc] at h;exact .inl h
 ·rw [if_neg hc] at h;exact .inr h
theorem argF_ext {bits:List UInt8} {op:Nat} {s:List UInt8} {o:Opd} {ext:List UInt8} (h:argF bits op s=some (o,ext)):ext.length≤1:=by
 have hm:∀{a:Option Opd},a.map (·,([]:List UInt8))=some (o,ext)→ext.length≤1:=fun h=>by rw [(map_two h).1];exact Nat.zero_le _
 have hs:∀{a:Opd} {e:List UInt8},e.length≤1→some (a,e)=some (o,ext)→ext.length≤1:=fun hl h=>by rw [←(some_two h).2];exact hl
 unfold argF at h
 iterate 20
  rcases ite_or h with h | h
  ·first
    | exact hm h
    | exact hs (by decide) h
 cases h
theorem step_app_run {P:Program} {ops:Array Oper} {o:Oper} {a:Act} {w w':World} {K:Act→World→Prop} {Q:Exit→Act→World→Prop} {E:Prop} (hgd:o.guard=none) (s x:Operand) (t:TypeId)
  (ho:o.op=.call {callee:=.builtin .append,args:=#[s,x],argTypes:=#[t,t]}) (v vx v':Value) (hs:a.eval s=v) (hxe:a.eval x=vx)
  (hrun:(Builtin.append_ #[t,t] o.type #[v,vx]).run P w=.ok v' w') (h:K (a.put o.dst v') w'):if Region.wanted o (yielded ops a.tmps)=true then Oper.wp P o a w K Q else E:=by
 have hw:Region.wanted o (yielded ops a.tmps)=true:=by simp [Region.wanted,hgd]
 rw [if_pos hw]
 unfold Oper.wp execOp
 simp only [ho,resolve,invoke,builtin,Sem.run_bind,Sem.run_pure,Result.andThen_ok,List.map_toArray,List.map_cons,List.map_nil,hs,hxe,hrun]
 exact h
structure okT (t:List UInt8) (r:RuleV):Prop where
 size:t.length≤1000
 asc:∀b∈t,b.toNat < 128
 bits:r.bits.length≤8
 args:∀a∈r.args,a.length≤1000
 cnt:r.args.length≤8
theorem find_some (pg:Int) (s:ByteArray) (op:Nat) (t:List UInt8) (r:RuleV) (os:List Opd) (ex:List UInt8) (w:World) (hop:op < 256) (hs:s.size≤1000000) (hl:lookF op (splitC s.data.toList)=some t) (hr:ruleF t=some r) (ha:argsF r.bits op r.args=some (os,ex)) (hok:okT t r) (hT:Spc w):
  Calls Tryz.prog 147 #[.int .i64 pg,.string s,.int .u8 op] w fun e w'=>∃v,e=.returned (.tuple #[entVal ⟨pg,op,r.op,os,ex,r.alias⟩ v,.bool true])∧Own opdR w' w.heap.size 93 NoB v os∧Below w.heap.size w w':=by
 have hb0:=(Below.refl w.heap.size w).alloc (Nat.le_refl _) (.cells #[.int .i64 0,.int .u8 0,.string ⟨#[]⟩,.slice none 0 0,.string ⟨#[]⟩,.bool false] 77)
 have HB0:=Lib.hid hb0
 have HF0:=Lib.hid (Blk.new w 77 #[.int .i64 0,.int .u8 0,.string ⟨#[]⟩,.slice none 0 0,.string ⟨#[]⟩,.bool false])
 have HLK:=Lib.hid (fun W=>lookup_any s op hop W hs)
 rw [hl] at HLK
 have HPA:=Lib.hid (fun W hT=>parse_any ⟨t.toArray⟩ r W (by rw [show (⟨t.toArray⟩:ByteArray).data.toList=t by simp];exact hr) (by show t.toArray.size≤_;rw [List.size_toArray];exact hok.size) (by rw [show (⟨t.toArray⟩:ByteArray).data.toList=t by simp];exact hok.asc) hT)
 have HT:=Lib.hid hT
 have HBT:Hid (r.bits.length≤8):=hok.bits
 have HAS:=Lib.hid hok.args
 have HCN:=Lib.hid hok.cnt
 have HA:=Lib.hid ha
 have HOP:=Lib.hid hop
 unfold lookP at HLK
 dsimp only at HLK
 clear hb0 hl hr ha hok hT hs hop
 obtain ⟨rb,ro,ra,ral⟩:=r
 dsimp only at HPA HBT HAS HCN HA
 show Calls _ _ _ _ fun e w'=>∃v,e=.returned (.tuple #[.agg #[.int .i64 pg,.int .u8 op,.string ⟨ro.toArray⟩,v,.string ⟨ex.toArray⟩,.bool ral],.bool true])∧_
 go_enter Tryz.func147,Tryz.ntmps147
 go_wp2_with (first
  | (go_at_call 165;refine (HLK.out _).mono ?_;rintro e w2 ⟨rfl,hb⟩;have HB2:=Lib.hid (HB0.out.trans (hb.mono HB0.out.size));have HF2:=Lib.hid (HF0.out.below hb HF0.out.lt);clear hb)
  | (go_at_call 174;refine (HPA.out _ (HT.out.below HB2.out)).mono ?_;rintro e w4 ⟨vr,LS,rfl,hls,hlm,hb⟩;have HB4:=Lib.hid (HB2.out.trans (hb.mono HB2.out.size));have HF4:=Lib.hid (HF2.out.below hb HF2.out.lt);have HLS:=Lib.hid hls.old;have HLM:=Lib.hid hlm;obtain ⟨la,lc,rfl⟩:∃a c,vr=.slice a LS.length c:=(by obtain ⟨a,c,hv,_⟩:=hls;exact ⟨a,c,hv⟩);clear hls hlm hb))
 have hsz:((w4.alloc (.cells #[.string ⟨rb.toArray⟩,.string ⟨ro.toArray⟩,.slice la LS.length lc,.bool ral] 217)).alloc (.cells #[.int .i64 pg,.int .u8 op,.string ⟨ro.toArray⟩,.slice none 0 0,.string ⟨#[]⟩,.bool ral,.string ⟨rb.toArray⟩,.string ⟨ro.toArray⟩,.slice la LS.length lc,.bool ral] 221)).heap.size=w4.heap.size+2:=by rw [World.size_alloc,World.size_alloc]
 have hbk:BK ((w4.alloc (.cells #[.string ⟨rb.toArray⟩,.string ⟨ro.toArray⟩,.slice la LS.length lc,.bool ral] 217)).alloc (.cells #[.int .i64 pg,.int .u8 op,.string ⟨ro.toArray⟩,.slice none 0 0,.string ⟨#[]⟩,.bool ral,.string ⟨rb.toArray⟩,.string ⟨ro.toArray⟩,.slice la LS.length lc,.bool ral] 221)) (w4.heap.size+1) ⟨pg,op,⟨ro.toArray⟩,.slice none 0 0,[],ral,⟨rb.toArray⟩,⟨ro.toArray⟩,.slice la LS.length lc,ral⟩:=by
  have h:=Blk.new (w4.alloc (.cells #[.string ⟨rb.toArray⟩,.string ⟨ro.toArray⟩,.slice la LS.length lc,.bool ral] 217)) 221 #[.int .i64 pg,.int .u8 op,.string ⟨ro.toArray⟩,.slice none 0 0,.string ⟨#[]⟩,.bool ral,.string ⟨rb.toArray⟩,.string ⟨ro.toArray⟩,.slice la LS.length lc,.bool ral]
  rw [World.size_alloc] at h
  exact h
 have HBK:=Lib.hid hbk
 have HSZ:=Lib.hid hsz
 have HB5:=Lib.hid ((HB4.out.alloc HB4.out.size (.cells #[.string ⟨rb.toArray⟩,.string ⟨ro.toArray⟩,.slice la LS.length lc,.bool ral] 217)).alloc (by rw [World.size_alloc];exact Nat.le_succ_of_le HB4.out.size) (.cells #[.int .i64 pg,.int .u8 op,.string ⟨ro.toArray⟩,.slice none 0 0,.string ⟨#[]⟩,.bool ral,.string ⟨rb.toArray⟩,.string ⟨ro.toArray⟩,.slice la LS.length lc,.bool ral] 221))
 have HF5:=Lib.hid ((HF4.out.alloc (.cells #[.string ⟨rb.toArray⟩,.string ⟨ro.toArray⟩,.slice la LS.length lc,.bool ral] 217)).alloc (.cells #[.int .i64 pg,.int .u8 op,.string ⟨ro.toArray⟩,.slice none 0 0,.string ⟨#[]⟩,.bool ral,.string ⟨rb.toArray⟩,.string ⟨ro.toArray⟩,.slice la LS.length lc,.bool ral] 221))
 have HLS5:=Lib.hid ((HLS.out.alloc (.cells #[.string ⟨rb.toArray⟩,.string ⟨ro.toArray⟩,.slice la LS.length lc,.bool ral] 217)).alloc (.cells #[.int .i64 pg,.int .u8 op,.string ⟨ro.toArray⟩,.slice none 0 0,.string ⟨#[]⟩,.bool ral,.string ⟨rb.toArray⟩,.string ⟨ro.toArray⟩,.slice la LS.length lc,.bool ral] 221))
 have hltw:w.heap.size < w4.heap.size:=HF4.out.lt
 have hbpA:w4.heap.size < w4.heap.size+1:=Nat.lt_succ_self _
 have hbpB:=HBK.out.lt
 clear HF4 hsz hbk
 have hwh:w.heap.size≤w4.heap.size:=HB4.out.size
 generalize ((w4.alloc (.cells #[.string ⟨rb.toArray⟩,.string ⟨ro.toArray⟩,.slice la LS.length lc,.bool ral] 217)).alloc (.cells #[.int .i64 pg,.int .u8 op,.string ⟨ro.toArray⟩,.slice none 0 0,.string ⟨#[]⟩,.bool ral,.string ⟨rb.toArray⟩,.string ⟨ro.toArray⟩,.slice la LS.length lc,.bool ral] 221))=w5 at *
 generalize w4.heap.size+1=bp at *
 have HLT:=Lib.hid hltw
 have HPA':=Lib.hid hbpA
 have HPB:=Lib.hid hbpB
 obtain ⟨a1,c1,heq,hc1,hm1,g1⟩:=HLS5.out.str
 injection heq with ea eb ec
 subst ea
 subst ec
 have hm:∀k (x:ByteArray),LS[k]?=some x→ra.drop k=x.data.toList::ra.drop (k+1):=fun k x hx=>by
  rw [←HLM.out,←List.map_drop,←List.map_drop]
  rw [List.drop_eq_getElem_cons (List.getElem?_eq_some_iff.1 hx).1,List.map_cons,(List.getElem?_eq_some_iff.1 hx).2]
 have hxl:∀k (x:ByteArray),LS[k]?=some x→x.size≤1000:=fun k x hx=>by
  have:=HAS.out x.data.toList (by show _∈ra;rw [←HLM.out];exact List.mem_map_of_mem (List.mem_of_getElem? hx))
  simpa using this
 have hcn:LS.length≤8:=by have:=HCN.out;have e:=HLM.out;change ra.length≤8 at this;rw [←e,List.length_map] at this;exact this
 have HM:=Lib.hid hm
 have HXL:=Lib.hid hxl
 have HG1:=Lib.hid g1
 clear hltw hbpA hbpB hm hxl g1 hwh HLK HPA HF0 HB0 HB2 HF2 HB4 HLS HLS5
 go_loopw [44] (fun i wr=>∃(k:Nat) (v:Value) (exk:List UInt8) (ys os2:List Opd) (e2:List UInt8),k≤LS.length∧i=.int .i64 k∧FnI w5 bp ⟨pg,op,⟨ro.toArray⟩,v,exk,ral,⟨rb.toArray⟩,⟨ro.toArray⟩,.slice la LS.length lc,ral⟩ ys wr∧exk.length≤k∧ys.length=k∧argsF rb op (ra.drop k)=some (os2,e2)∧os=ys++os2∧ex=exk++e2) (fun i _=>LS.length - (intOf i).toNat)
 case atStart=>exact ⟨0,_,[],[],os,ex,Nat.zero_le _,rfl,⟨HBK.out,Own.nil _ _ _ _ _,grown_of _ (Below.refl _ _),HPB.out⟩,Nat.le_refl _,rfl,HA.out,rfl,rfl⟩
 case round=>
  obtain ⟨k,v,exk,ys,os2,e2,hk,rfl,hf,hex,hys,ha2,hos,hexx⟩:=hrel
  by_cases hlt:k < LS.length
  ·have hxk:=List.getElem?_eq_getElem hlt
   rw [HM.out k _ hxk] at ha2
   obtain ⟨o,e1,os3,e3,h1,h2,rfl,rfl⟩:=argsF_cons ha2
   obtain ⟨av,cv,rfl⟩:∃a c,v=.slice a ys.length c:=hf.own.form
   obtain ⟨b1,o1,rfl,hb1,d1⟩:=HG1.out k _ hxk
   have hsx:=HXL.out k _ hxk
   have hwk:wr.cell? ⟨b1,o1+k,none⟩=some (.string LS[k]):=by
    rw [←d1];exact World.cell?_of_block (w:=w5) (hf.grown.block b1 (by have:=HPA'.out;have:=HPB.out;omega) (fun e=>by injection e with e;have:=HPA'.out;omega))
   generalize LS[k]=x at *
   have HAR:=Lib.hid (arg_any bp ⟨pg,op,⟨ro.toArray⟩,.slice av ys.length cv,exk,ral,⟨rb.toArray⟩,⟨ro.toArray⟩,.slice (some ⟨b1,o1,none⟩) LS.length lc,ral⟩ x o e1 wr hf.bk ⟨HOP.out,by show rb.toArray.size≤_;rw [List.size_toArray];exact HBT.out,by show exk.length≤_;omega,⟨_,_,_,rfl⟩,⟨_,_,_,rfl⟩⟩ (by rw [show (⟨rb.toArray⟩:ByteArray).data.toList=rb by simp];exact h1) hsx (HT.out.below (HB5.out.grown hf.grown HB5.out.size (fun k e=>by injection e with e;have:=HLT.out;have:=HPA'.out;omega))))
   have HEX:=Lib.hid hexx
   have HOS:=Lib.hid hos
   have HF:=Lib.hid hf
   have HL1:=Lib.hid (argF_ext h1)
   have H2:=Lib.hid h2
   have HEL:=Lib.hid hex
   have HYL:=Lib.hid hys
   clear hexx hos hf h1 h2 ha2 hb1 d1 hsx hex hys hxk
   go_upto_region 11 with (go_at_call 175;refine HAR.out.mono ?_;rintro e w6 ⟨rfl,hbk6,hg6⟩;have HF6:=Lib.hid (HF.out.arg hbk6 hg6);clear hbk6 hg6;unfold Opd.val)
   have HF7:=Lib.hid (HF6.out.later ((Below.refl _ _).alloc (Nat.le_refl _) (.cells #[.int .i64 o.kind,.int .i64 o.reg,.int .i64 o.n] 93)).drew)
   obtain ⟨a3,c3,w7,hrun,hk7,hf7⟩:=HF7.out.push o (by have:=HYL.out;omega)
   have hsz7:(w6.alloc (.cells #[.int .i64 o.kind,.int .i64 o.reg,.int .i64 o.n] 93)).drew.heap.size=w6.heap.size+1:=by show (w6.alloc (.cells #[.int .i64 o.kind,.int .i64 o.reg,.int .i64 o.n] 93)).heap.size=_;rw [World.size_alloc]
   have hrun2:(Builtin.append_ #[25,25] 25 #[.slice av ys.length cv,.slice (some ⟨w6.heap.size+1,0,none⟩) 1 1]).run Tryz.prog ((w6.alloc (.cells #[.int .i64 o.kind,.int .i64 o.reg,.int .i64 o.n] 93)).alloc (.cells #[.int .i64 o.kind,.int .i64 o.reg,.int .i64 o.n] 93)).drew=.ok (.slice a3 (ys.length+1) c3) w7:=by
    rw [hsz7] at hrun
    exact hrun
   clear hrun hsz7
   have q3:(w6.alloc (.cells #[.int .i64 o.kind,.int .i64 o.reg,.int .i64 o.n] 93)).drew.cell? ⟨bp,3,none⟩=some (.slice av ys.length cv):=HF7.out.bk.cell 3
   have q3':((w6.alloc (.cells #[.int .i64 o.kind,.int .i64 o.reg,.int .i64 o.n] 93)).alloc (.cells #[.int .i64 o.kind,.int .i64 o.reg,.int .i64 o.n] 93)).drew.cell? ⟨bp,3,none⟩=some (.slice av ys.length cv):=(HF7.out.bk.alloc (.cells #[.int .i64 o.kind,.int .i64 o.reg,.int .i64 o.n] 93)).cell 3
   have q7:w7.cell? ⟨bp,3,none⟩=some (.slice av ys.length cv):=hk7.cell 3
   have q7f:w7.frozen? ⟨bp,3,none⟩=false:=hk7.free 3
   have HF8:=Lib.hid hf7
   clear hf7 hk7
   go_region_law ((refine step_app_run (by rfl) (.tmp 57) (.tmp 59) 25 (by rfl) _ _ _ (by rfl) (by rfl) hrun2 ?_))
   all_goals
    go_wp2
    go_roundw
    case rel=>exact ⟨k+1,.slice a3 (ys.length+1) c3,exk++e1,ys++[o],os3,e3,by omega,by go_num,HF8.out,by rw [List.length_append];have:=HL1.out;have:=HEL.out;omega,by rw [List.length_append,HYL.out];rfl,H2.out,by rw [HOS.out,List.append_assoc];rfl,by rw [HEX.out,List.append_assoc]⟩
    case measure=>simp [intOf];omega
  ·have hkl:k=LS.length:=by omega
   have hd:ra.drop k=[]:=by rw [←HLM.out,hkl,←List.map_drop,List.drop_length];rfl
   rw [hd,argsF] at ha2
   injection ha2 with ha2
   injection ha2 with hz1 hz2
   subst hz1 hz2
   rw [List.append_nil] at hos hexx
   subst hos hexx
   obtain ⟨av,cv,rfl⟩:∃a c,v=.slice a os.length c:=hf.own.form
   have HFB:=Lib.hid (HF5.out.grown hf.grown (fun e=>by injection e with e;have:=HLT.out;have:=HPA'.out;omega))
   have k0:wr.cell? ⟨bp,0,none⟩=some (.int .i64 pg):=hf.bk.cell 0
   have k1:wr.cell? ⟨bp,1,none⟩=some (.int .u8 op):=hf.bk.cell 1
   have k2:wr.cell? ⟨bp,2,none⟩=some (.string ⟨ro.toArray⟩):=hf.bk.cell 2
   have k3:wr.cell? ⟨bp,3,none⟩=some (.slice av os.length cv):=hf.bk.cell 3
   have k4:wr.cell? ⟨bp,4,none⟩=some (.string ⟨ex.toArray⟩):=hf.bk.cell 4
   have k5:wr.cell? ⟨bp,5,none⟩=some (.bool ral):=hf.bk.cell 5
   have f0:=HFB.out.cell 0
   have f1:=HFB.out.cell 1
   have f2:=HFB.out.cell 2
   have f3:=HFB.out.cell 3
   have f4:=HFB.out.cell 4
   have f5:=HFB.out.cell 5
   have z0:=HFB.out.free 0
   have z1:=HFB.out.free 1
   have z2:=HFB.out.free 2
   have z3:=HFB.out.free 3
   have z4:=HFB.out.free 4
   have z5:=HFB.out.free 5
   have HBW:=Lib.hid (HB5.out.grown hf.grown HB5.out.size (fun k e=>by injection e with e;have:=HLT.out;have:=HPA'.out;omega))
   have HO:=Lib.hid hf.own
   clear hf hd hex hys hk
   go_wp2
   refine bodyPost_ret (results_row_tmp rfl _ _ w.heap.size 77 #[.int .i64 pg,.int .u8 op,.string ⟨ro.toArray⟩,.slice av os.length cv,.string ⟨ex.toArray⟩,.bool ral] (0,0) _ rfl (show Blk _ w.heap.size 77 #[.int .i64 pg,.int .u8 op,.string ⟨ro.toArray⟩,.slice av os.length cv,.string ⟨ex.toArray⟩,.bool ral] from (((((HFB.out.set 0 _).set 1 _).set 2 _).set 3 _).set 4 _).set 5 _) Tryz.underlying77 rfl (by kernel_rfl)) rfl ⟨_,rfl,(HO.out.keep (fun j hj=>?_)).base (by have:=HLT.out;have:=HPA'.out;have:=HPB.out;omega),?_⟩
   ·have hne:j≠w.heap.size:=by
     rcases hj with hj | hj
     ·exact hj.elim
     ·have:=(HO.out.lt j hj).1;have:=HLT.out;have:=HPA'.out;have:=HPB.out;omega
    rw [Below.heap_setCell _ _ _ _ hne,Below.heap_setCell _ _ _ _ hne,Below.heap_setCell _ _ _ _ hne,Below.heap_setCell _ _ _ _ hne,Below.heap_setCell _ _ _ _ hne,Below.heap_setCell _ _ _ _ hne]
   ·exact (((((HBW.out.setCell (Nat.le_refl _) _).setCell (Nat.le_refl _) _).setCell (Nat.le_refl _) _).setCell (Nat.le_refl _) _).setCell (Nat.le_refl _) _).setCell (Nat.le_refl _) _
end Go.Proofs.YtnbmbcjnncbaiaaGreatDoor
namespace Go.Proofs.YtnbmbcjnncbaiaaGreatDoor
set_option maxHeartbeats 16000000
set_option maxRecDepth 100000
open Go.RowKit Go.Shelf
def posO (x:Opd):Nat→List Opd→Int
 | _,[]=>-1
 | k,y::r=>if opdEq x y=true then k else posO x (k+1) r
theorem IndexOpd_any (p:Blocks) (v:Value) (l:List Opd) (x:Opd) (w:World) (h:SlR opdR w p v l):
  Calls Tryz.prog 176 #[v,x.val] w fun e w'=>e=.returned (.int .i64 (posO x 0 l))∧Below w.heap.size w w':=by
 obtain ⟨xk,xr,xn⟩:=x
 obtain ⟨a1,c1,rfl,hc1,hm1,g1⟩:=h.opd
 have HK:=Lib.hid (Blk.new w 93 #[.int .i64 xk,.int .i64 xr,.int .i64 xn])
 have HB:=Lib.hid ((Below.refl w.heap.size w).alloc (Nat.le_refl _) (.cells #[.int .i64 xk,.int .i64 xr,.int .i64 xn] 93))
 have hlt0:∀b,Hid (b < w.heap.size)→¬b=w.heap.size:=fun b hb=>Nat.ne_of_lt hb.out
 have g2:∀i y,l[i]?=some y→∃b o,a1=some ⟨b,o,none⟩∧(w.alloc (.cells #[.int .i64 xk,.int .i64 xr,.int .i64 xn] 93)).cell? ⟨b,o+i * 3,none⟩=some (.int .i64 y.kind)∧(w.alloc (.cells #[.int .i64 xk,.int .i64 xr,.int .i64 xn] 93)).cell? ⟨b,o+i * 3+1,none⟩=some (.int .i64 y.reg)∧(w.alloc (.cells #[.int .i64 xk,.int .i64 xr,.int .i64 xn] 93)).cell? ⟨b,o+i * 3+2,none⟩=some (.int .i64 y.n):=by
  obtain ⟨a2,c2,e2,_,_,g3⟩:=(h.alloc (.cells #[.int .i64 xk,.int .i64 xr,.int .i64 xn] 93)).opd
  injection e2 with e2
  subst e2
  intro i y hy
  obtain ⟨b,o,e,_,d1,d2,d3⟩:=g3 i y hy
  exact ⟨b,o,e,d1,d2,d3⟩
 have HG:=Lib.hid g2
 clear h g1 g2 hlt0
 have hop:=run_eqOpd
 show Calls _ _ _ _ fun e w'=>e=.returned (.int .i64 (posO ⟨xk,xr,xn⟩ 0 l))∧_
 unfold Opd.val
 go_enter Tryz.func176,Tryz.ntmps176
 go_wp2
 obtain ⟨k0,k1,k2,_,_,_⟩:=HK.out.three
 have hbw:w.heap.size < (w.alloc (.cells #[.int .i64 xk,.int .i64 xr,.int .i64 xn] 93)).heap.size:=HK.out.lt
 generalize (w.alloc (.cells #[.int .i64 xk,.int .i64 xr,.int .i64 xn] 93))=w1 at *
 go_loopw [5,8] (fun _ i wr=>∃k n:Nat,k≤l.length∧i=.int .i64 k∧wr=w1.drewN n∧posO ⟨xk,xr,xn⟩ 0 l=posO ⟨xk,xr,xn⟩ k (l.drop k)) (fun _ i _=>l.length - (intOf i).toNat)
 case atStart=>exact ⟨0,0,Nat.zero_le _,rfl,rfl,rfl⟩
 case round=>
  obtain ⟨k,n,hk,rfl,rfl,ht⟩:=hrel
  by_cases hlt:k < l.length
  ·obtain ⟨b1,o1,rfl,d1,d2,d3⟩:=HG.out k l[k] (List.getElem?_eq_getElem hlt)
   rw [List.drop_eq_getElem_cons hlt,posO] at ht
   generalize l[k]=y at *
   obtain ⟨yk,yr,yn⟩:=y
   dsimp only at d1 d2 d3
   by_cases hxy:opdEq ⟨xk,xr,xn⟩ ⟨yk,yr,yn⟩=true
   ·rw [if_pos hxy] at ht
    have HT:=Lib.hid ht
    clear ht
    go_wp2
    go_quiet (fail)
    go_wp2
    go_ret
    exact ⟨by rw [HT.out];rfl,below_dN (below_dN HB.out _) _⟩
   ·rw [if_neg hxy] at ht
    have hxy:opdEq ⟨xk,xr,xn⟩ ⟨yk,yr,yn⟩=false:=by simpa using hxy
    have HT:=Lib.hid ht
    clear ht
    go_wp2
    go_quiet (fail)
    go_wp2
    go_roundw
    case rel=>exact ⟨k+1,n+nq,by omega,by go_num,rfl,HT.out⟩
    case measure=>simp [intOf];omega
  ·rw [List.drop_of_length_le (by omega),posO] at ht
   have HT:=Lib.hid ht
   clear ht
   go_wp2
   go_ret
   exact ⟨by rw [HT.out];rfl,below_dN HB.out _⟩
end Go.Proofs.YtnbmbcjnncbaiaaGreatDoor
namespace Go.Proofs.YtnbmbcjnncbaiaaGreatDoor
set_option maxHeartbeats 16000000
set_option maxRecDepth 100000
open Go.RowKit Go.Shelf
theorem byteR_size:byteR.size=1:=rfl
theorem SlR.byte {w:World} {p:Blocks} {v:Value} {l:List UInt8} (h:SlR byteR w p v l):∃a cap,v=.slice a l.length cap∧l.length≤cap∧cap≤9223372036854775807∧
  ∀i x,l[i]?=some x→∃b o,a=some ⟨b,o,none⟩∧p b∧w.cell? ⟨b,o+i,none⟩=some (.int .u8 x.toNat):=by
 obtain ⟨a,cap,e,h1,h2,h3⟩:=h
 refine ⟨a,cap,e,h1,by simpa [maxLen] using h2,fun i x hx=>?_⟩
 obtain ⟨b,o,cs,ea,hb,hbs,hc,hr⟩:=h3 i x hx
 have hr:cs=[.int .u8 x.toNat]:=hr
 subst hr
 have:=hc 0 _ rfl
 exact ⟨b,o,ea,hb,by simpa [byteR_size] using this⟩
theorem EqualByte_any (p q:Blocks) (v1 v2:Value) (l1 l2:List UInt8) (w:World) (h1:SlR byteR w p v1 l1) (h2:SlR byteR w q v2 l2):
  Calls Tryz.prog 35 #[v1,v2] w fun e w'=>e=.returned (.bool (decide (l1=l2)))∧∃n,w'=w.drewN n:=by
 obtain ⟨a1,c1,rfl,hc1,hm1,g1⟩:=h1.byte
 obtain ⟨a2,c2,rfl,hc2,hm2,g2⟩:=h2.byte
 clear h1 h2
 by_cases hl:l1.length=l2.length
 ·have HL:=Lib.hid hl
  rw [←hl] at hc2 ⊢
  clear hl
  go_enter Tryz.func35,Tryz.ntmps35
  go_wp2
  go_loopw [5,13] (fun _ i wr=>∃k n:Nat,k≤l1.length∧i=.int .i64 k∧wr=w.drewN n∧l1.take k=l2.take k) (fun _ i _=>l1.length - (intOf i).toNat)
  case atStart=>exact ⟨0,0,Nat.zero_le _,rfl,rfl,rfl⟩
  case round=>
   obtain ⟨k,n,hk,rfl,rfl,ht⟩:=hrel
   have HT:=Lib.hid ht
   clear ht
   by_cases hlt:k < l1.length
   ·have hlt2:k < l2.length:=by have:=HL.out;omega
    obtain ⟨b1,o1,rfl,_,d1⟩:=g1 k l1[k] (List.getElem?_eq_getElem hlt)
    obtain ⟨b2,o2,rfl,_,e1⟩:=g2 k l2[k] (List.getElem?_eq_getElem hlt2)
    clear g1 g2
    have HS:=Lib.hid (take_succ_eq hlt hlt2 HT.out)
    have HN:Hid (l1[k]≠l2[k]→l1≠l2):=fun h e=>h (by simp only [e])
    generalize l1[k]=x at *
    generalize l2[k]=y at *
    by_cases hxy:x=y
    ·have hb:((x.toNat:Int) != (y.toNat:Int))=false:=by rw [hxy];simp
     have HXY:=Lib.hid hxy
     clear hxy
     go_wp2
     go_quiet (fail)
     go_wp2
     go_roundw
     case rel=>exact ⟨k+1,n+nq,by omega,by go_num,rfl,HS.out HXY.out⟩
     case measure=>simp [intOf];omega
    ·have hb:((x.toNat:Int) != (y.toNat:Int))=true:=by rw [bne_iff_ne];intro e;exact hxy (UInt8.toNat_inj.1 (by omega))
     have HXY:=Lib.hid (HN.out hxy)
     clear hxy
     go_wp2
     go_quiet (fail)
     go_wp2
     go_ret
     exact ⟨ret_bool (decide_eq_false HXY.out).symm,_,drewN2 _ _ _⟩
   ·go_wp2
    go_ret
    exact ⟨ret_bool (decide_eq_true (by have h1:=HT.out;have h2:=HL.out;rwa [List.take_of_length_le (by omega),List.take_of_length_le (by omega)] at h1)).symm,n,rfl⟩
 ·go_enter Tryz.func35,Tryz.ntmps35
  go_wp2
  go_ret
  exact ⟨by simp;intro h;exact hl (by rw [h]),0,rfl⟩
def prefF (p:Int):List UInt8:=
 if p=1 then [203] else if p=2 then [237] else if p=3 then [221] else if p=4 then [253] else if p=5 then [221,203] else if p=6 then [253,203] else []
theorem Prefixes_low (p:Int) (h5:p≠5) (h6:p≠6) (w:World):
  Calls Tryz.prog 80 #[.int .i64 p] w fun e w'=>∃v,e=.returned v∧Own byteR w' w.heap.size 5 NoB v (prefF p)∧Below w.heap.size w w':=by
 have hal:∀c:UInt8,Own byteR (w.alloc (.cells #[.int .u8 c.toNat] 5)) w.heap.size 5 NoB (.slice (some ⟨w.heap.size,0,none⟩) 1 1) [c]:=fun c=>Own.lit w _ [c] _ 1 rfl rfl (by simp)
 have hb:∀o:Obj,Below w.heap.size w (w.alloc o):=fun o=>(Below.refl _ w).alloc (Nat.le_refl _) o
 have HAL:=Lib.hid hal
 have HB:=Lib.hid hb
 clear hal hb
 by_cases h1:p=1
 ·subst h1
  go_enter Tryz.func80,Tryz.ntmps80
  go_wp2
  go_ret
  exact ⟨_,rfl,HAL.out 203,HB.out _⟩
 by_cases h2:p=2
 ·subst h2
  go_enter Tryz.func80,Tryz.ntmps80
  go_wp2
  go_ret
  exact ⟨_,rfl,HAL.out 237,HB.out _⟩
 by_cases h3:p=3
 ·subst h3
  go_enter Tryz.func80,Tryz.ntmps80
  go_wp2
  go_ret
  exact ⟨_,rfl,HAL.out 221,HB.out _⟩
 by_cases h4:p=4
 ·subst h4
  go_enter Tryz.func80,Tryz.ntmps80
  go_wp2
  go_ret
  exact ⟨_,rfl,HAL.out 253,HB.out _⟩
 have hf:prefF p=[]:=by rw [prefF,if_neg h1,if_neg h2,if_neg h3,if_neg h4,if_neg h5,if_neg h6]
 have b1:(p==1)=false:=by rw [beq_eq_false_iff_ne];exact h1
 have b2:(p==2)=false:=by rw [beq_eq_false_iff_ne];exact h2
 have b3:(p==3)=false:=by rw [beq_eq_false_iff_ne];exact h3
 have b4:(p==4)=false:=by rw [beq_eq_false_iff_ne];exact h4
 have b5:(p==5)=false:=by rw [beq_eq_false_iff_ne];exact h5
 have b6:(p==6)=false:=by rw [beq_eq_false_iff_ne];exact h6
 rw [hf]
 clear hf h1 h2 h3 h4 h5 h6
 go_enter Tryz.func80,Tryz.ntmps80
 go_wp2
 go_ret
 exact ⟨_,rfl,Own.nil _ _ _ _ _,Below.refl _ _⟩
theorem Prefixes_high (p q:Int) (hq:(p=5∧q=3)∨(p=6∧q=4)) (w:World):
  Calls Tryz.prog 80 #[.int .i64 p] w fun e w'=>∃v,e=.returned v∧Own byteR w' w.heap.size 5 NoB v (prefF q++[203])∧Below w.heap.size w w':=by
 have HL:=Lib.hid (Prefixes_low q (by omega) (by omega) w)
 have hln:Hid ((prefF q).length≤10):=by rcases hq with ⟨_,rfl⟩ | ⟨_,rfl⟩<;>(show _≤_;decide)
 rcases hq with ⟨rfl,rfl⟩ | ⟨rfl,rfl⟩
 all_goals
  go_enter Tryz.func80,Tryz.ntmps80
  go_wp2_with (first
   | (go_at_call 80;refine HL.out.mono ?_;rintro e w2 ⟨v,rfl,ho,hb⟩;have HO:=Lib.hid ho;have HB:=Lib.hid hb;obtain ⟨va,vc,rfl⟩:=ho.form;clear ho hb)
   | (at_builtin;refine wpList_push rfl (.tmp 22) (.tmp 23) 22 rfl w.heap.size 5 1 elByte _ (prefF _) 203 _ rfl rfl HO.out rfl (by have:=hln.out;omega) (by have:=hln.out;omega) HB.out.size ?_;intro a' c' w' hp;have HP:=Lib.hid hp;clear hp))
  go_ret
  refine ⟨_,rfl,?_,?_⟩
  ·exact HP.out.1
  ·exact HB.out.grown HP.out.2 HB.out.size (fun k e=>(HO.out.lt k e).1)
theorem Prefixes_any (p:Int) (w:World):
  Calls Tryz.prog 80 #[.int .i64 p] w fun e w'=>∃v,e=.returned v∧Own byteR w' w.heap.size 5 NoB v (prefF p)∧Below w.heap.size w w':=by
 by_cases h5:p=5
 ·subst h5;exact Prefixes_high 5 3 (.inl ⟨rfl,rfl⟩) w
 by_cases h6:p=6
 ·subst h6;exact Prefixes_high 6 4 (.inr ⟨rfl,rfl⟩) w
 exact Prefixes_low p h5 h6 w
end Go.Proofs.YtnbmbcjnncbaiaaGreatDoor
namespace Go.Proofs.YtnbmbcjnncbaiaaGreatDoor
set_option maxHeartbeats 16000000
set_option maxRecDepth 100000
open Go.RowKit Go.Shelf Go.Sort
theorem OpdOwn.setKd {w:World} {q:Blocks} {b o n c:Nat} {l:List Opd} {k:Nat} {x:Opd} {m:Int} (h:OpdOwn w q (.slice (some ⟨b,o,none⟩) n c) l) (hx:l[k]?=some x):OpdOwn (w.setCell ⟨b,o+k * 3,none⟩ (.int .i64 m)) q (.slice (some ⟨b,o,none⟩) n c) (l.set k {x with kind:=m}):=by
 obtain ⟨a,cap,e,h1,h2,h3⟩:=h
 injection e with e1 e2 e3
 subst e1 e3
 refine ⟨_,c,by rw [List.length_set,e2],by rw [List.length_set];exact h1,h2,fun i z hz=>?_⟩
 have hk:=(List.getElem?_eq_some_iff.1 hx).1
 have hi:i < l.length:=by have:=(List.getElem?_eq_some_iff.1 hz).1;simpa using this
 obtain ⟨b',o',eb,hq,hb,c0,c1,c2,f⟩:=h3 i l[i] (List.getElem?_eq_getElem hi)
 injection eb with eb
 injection eb with eb1 eb2
 subst eb1 eb2
 have far:∀j v,j≠o+k * 3→w.cell? ⟨b,j,none⟩=some v→(w.setCell ⟨b,o+k * 3,none⟩ (.int .i64 m)).cell? ⟨b,j,none⟩=some v:=fun j v hj hv=>by
  rw [World.cell?_setCell_other _ _ _ _ (by simp)];exact hv
 refine ⟨b,o,rfl,hq,by simpa [World.setCell] using hb,?_,?_,?_,fun j=>(World.frozen?_setCell _ _ _ _).trans (f j)⟩
 ·by_cases hik:k=i
  ·subst hik
   rw [List.getElem?_set_self hk] at hz
   obtain rfl:=Option.some.inj hz
   exact World.cell?_setCell_same' _ _ _ (by rw [c0];rfl)
  ·rw [List.getElem?_set_ne hik,List.getElem?_eq_getElem hi] at hz
   obtain rfl:=Option.some.inj hz
   exact far _ _ (by omega) c0
 ·by_cases hik:k=i
  ·subst hik
   rw [List.getElem?_set_self hk] at hz
   obtain rfl:=Option.some.inj hz
   obtain rfl:l[k]=x:=Option.some.inj ((List.getElem?_eq_getElem hk).symm.trans hx)
   exact far _ _ (by omega) c1
  ·rw [List.getElem?_set_ne hik,List.getElem?_eq_getElem hi] at hz
   obtain rfl:=Option.some.inj hz
   exact far _ _ (by omega) c1
 ·by_cases hik:k=i
  ·subst hik
   rw [List.getElem?_set_self hk] at hz
   obtain rfl:=Option.some.inj hz
   obtain rfl:l[k]=x:=Option.some.inj ((List.getElem?_eq_getElem hk).symm.trans hx)
   exact far _ _ (by omega) c2
  ·rw [List.getElem?_set_ne hik,List.getElem?_eq_getElem hi] at hz
   obtain rfl:=Option.some.inj hz
   exact far _ _ (by omega) c2
theorem OpdOwn.setRg {w:World} {q:Blocks} {b o n c:Nat} {l:List Opd} {k:Nat} {x:Opd} {m:Int} (h:OpdOwn w q (.slice (some ⟨b,o,none⟩) n c) l) (hx:l[k]?=some x):OpdOwn (w.setCell ⟨b,o+k * 3+1,none⟩ (.int .i64 m)) q (.slice (some ⟨b,o,none⟩) n c) (l.set k {x with reg:=m}):=by
 obtain ⟨a,cap,e,h1,h2,h3⟩:=h
 injection e with e1 e2 e3
 subst e1 e3
 refine ⟨_,c,by rw [List.length_set,e2],by rw [List.length_set];exact h1,h2,fun i z hz=>?_⟩
 have hk:=(List.getElem?_eq_some_iff.1 hx).1
 have hi:i < l.length:=by have:=(List.getElem?_eq_some_iff.1 hz).1;simpa using this
 obtain ⟨b',o',eb,hq,hb,c0,c1,c2,f⟩:=h3 i l[i] (List.getElem?_eq_getElem hi)
 injection eb with eb
 injection eb with eb1 eb2
 subst eb1 eb2
 have far:∀j v,j≠o+k * 3+1→w.cell? ⟨b,j,none⟩=some v→(w.setCell ⟨b,o+k * 3+1,none⟩ (.int .i64 m)).cell? ⟨b,j,none⟩=some v:=fun j v hj hv=>by
  rw [World.cell?_setCell_other _ _ _ _ (by simp)];exact hv
 refine ⟨b,o,rfl,hq,by simpa [World.setCell] using hb,?_,?_,?_,fun j=>(World.frozen?_setCell _ _ _ _).trans (f j)⟩
 ·by_cases hik:k=i
  ·subst hik
   rw [List.getElem?_set_self hk] at hz
   obtain rfl:=Option.some.inj hz
   obtain rfl:l[k]=x:=Option.some.inj ((List.getElem?_eq_getElem hk).symm.trans hx)
   exact far _ _ (by omega) c0
  ·rw [List.getElem?_set_ne hik,List.getElem?_eq_getElem hi] at hz
   obtain rfl:=Option.some.inj hz
   exact far _ _ (by omega) c0
 ·by_cases hik:k=i
  ·subst hik
   rw [List.getElem?_set_self hk] at hz
   obtain rfl:=Option.some.inj hz
   exact World.cell?_setCell_same' _ _ _ (by rw [c1];rfl)
  ·rw [List.getElem?_set_ne hik,List.getElem?_eq_getElem hi] at hz
   obtain rfl:=Option.some.inj hz
   exact far _ _ (by omega) c1
 ·by_cases hik:k=i
  ·subst hik
   rw [List.getElem?_set_self hk] at hz
   obtain rfl:=Option.some.inj hz
   obtain rfl:l[k]=x:=Option.some.inj ((List.getElem?_eq_getElem hk).symm.trans hx)
   exact far _ _ (by omega) c2
  ·rw [List.getElem?_set_ne hik,List.getElem?_eq_getElem hi] at hz
   obtain rfl:=Option.some.inj hz
   exact far _ _ (by omega) c2
theorem OpdOwn.put {w:World} {q:Blocks} {b o n c:Nat} {l:List Opd} {k:Nat} (y:Opd) (h:OpdOwn w q (.slice (some ⟨b,o,none⟩) n c) l) (hk:k < l.length):
  OpdOwn (((w.setCell ⟨b,o+k * 3,none⟩ (.int .i64 y.kind)).setCell ⟨b,o+k * 3+1,none⟩ (.int .i64 y.reg)).setCell ⟨b,o+k * 3+2,none⟩ (.int .i64 y.n)) q (.slice (some ⟨b,o,none⟩) n c) (l.set k y):=by
 have h1:=h.setKd (m:=y.kind) (List.getElem?_eq_getElem hk)
 have h2:=h1.setRg (m:=y.reg) (x:={l[k] with kind:=y.kind}) (k:=k) (by rw [List.getElem?_set_self hk])
 have h3:=h2.setN (m:=y.n) (x:={l[k] with kind:=y.kind,reg:=y.reg}) (k:=k) (by rw [List.getElem?_set_self (by rw [List.length_set];exact hk)])
 rw [List.set_set,List.set_set] at h3
 exact h3
theorem posO_at {x:Opd} {l:List Opd} {k:Nat}:∀{j:Nat},posO x j l=(j+k:Nat)→l[k]?=some x:=by
 intro j h
 induction l generalizing j k with
 | nil=>rw [posO] at h;omega
 | cons y r ih=>
  rw [posO] at h
  by_cases e:opdEq x y=true
  ·rw [if_pos e] at h
   obtain rfl:k=0:=by omega
   rw [opdEq_iff.1 e];rfl
  ·rw [if_neg e] at h
   cases k with
   | zero=>
    exfalso
    have hge:∀(r:List Opd) (j:Nat),posO x j r=-1∨(j:Int)≤posO x j r:=by
     intro r
     induction r with
     | nil=>intro j;exact .inl rfl
     | cons z r ih2=>
      intro j
      rw [posO]
      split
      ·exact .inr (Int.le_refl _)
      ·rcases ih2 (j+1) with h | h
       ·exact .inl h
       ·exact .inr (by omega)
    rcases hge r (j+1) with h' | h'<;>omega
   | succ k=>exact ih (j:=j+1) (k:=k) (by rw [h];congr 1;omega)
theorem indexed_mem (x:EntV) (p:Blocks) (v:Value) (page:Int) (k:Nat) (w:World) (h:SlR opdR w p v x.args) (hpg:page=3∨page=4) (hk:posO ⟨4,2,0⟩ 0 x.args=k) (hn:x.args.length≤1000) (hjp:x.iop≠[74,80])
  (hup:upper ⟨x.iop.toArray⟩=⟨x.iop.toArray⟩) (his:x.iop.length≤1000) (hex:x.ex.length≤1000):
  Calls Tryz.prog 148 #[entVal x v,.int .i64 page] w fun e w'=>∃v',e=.returned (.tuple #[entVal ⟨page,x.op,x.iop,x.args.set k ⟨5,page+2,0⟩,100::x.ex,x.al⟩ v',.bool true])∧OpdOwn w' (fun b=>w.heap.size≤b) v' (x.args.set k ⟨5,page+2,0⟩)∧Below w.heap.size w w':=by
 obtain ⟨pg,op,iop,args,ex,al⟩:=x
 dsimp only at *
 obtain ⟨ca,cc,rfl⟩:∃a c,v=.slice a args.length c:=by obtain ⟨a,c,e,_⟩:=h;exact ⟨a,c,e⟩
 have hkl:k < args.length:=(List.getElem?_eq_some_iff.1 (posO_at (j:=0) (by rw [hk];simp))).1
 have HKL:=Lib.hid hkl
 have HMK:=Lib.hid (fun W (h:SlR opdR W p (.slice ca args.length cc) args)=>Make_any p ⟨iop.toArray⟩ _ args W h (by omega) (by show iop.toArray.size≤_;rw [List.size_toArray];omega))
 rw [hup] at HMK
 obtain ⟨exB,hexB⟩:∃b:ByteArray,b=⟨ex.toArray⟩:=⟨_,rfl⟩
 have hexs:exB.size≤1000:=by rw [hexB];show ex.toArray.size≤_;rw [List.size_toArray];exact hex
 have HEX:=Lib.hid hexB
 have hcat:Hid ((⟨#[100]⟩++exB:ByteArray)=⟨(100::ex).toArray⟩):=by show _=_;rw [hexB];apply ByteArray.ext;simp
 have hsz:(((w.alloc (.cells #[.int .i64 pg,.int .u8 op,.string ⟨iop.toArray⟩,.slice ca args.length cc,.string exB,.bool al] 77)).alloc (.cells #[.int .i64 0,.int .u8 0,.string ⟨#[]⟩,.slice none 0 0,.string ⟨#[]⟩,.bool false] 77)).alloc (.cells #[.int .i64 4,.int .i64 2,.int .i64 0] 93)).heap.size=w.heap.size+3:=by rw [World.size_alloc,World.size_alloc,World.size_alloc]
 have HSZ:=Lib.hid hsz
 have hE:Blk (((w.alloc (.cells #[.int .i64 pg,.int .u8 op,.string ⟨iop.toArray⟩,.slice ca args.length cc,.string exB,.bool al] 77)).alloc (.cells #[.int .i64 0,.int .u8 0,.string ⟨#[]⟩,.slice none 0 0,.string ⟨#[]⟩,.bool false] 77)).alloc (.cells #[.int .i64 4,.int .i64 2,.int .i64 0] 93)) w.heap.size 77 #[.int .i64 pg,.int .u8 op,.string ⟨iop.toArray⟩,.slice ca args.length cc,.string exB,.bool al]:=((Blk.new w _ _).alloc _).alloc _
 have hR:Blk (((w.alloc (.cells #[.int .i64 pg,.int .u8 op,.string ⟨iop.toArray⟩,.slice ca args.length cc,.string exB,.bool al] 77)).alloc (.cells #[.int .i64 0,.int .u8 0,.string ⟨#[]⟩,.slice none 0 0,.string ⟨#[]⟩,.bool false] 77)).alloc (.cells #[.int .i64 4,.int .i64 2,.int .i64 0] 93)) (w.heap.size+1) 77 #[.int .i64 0,.int .u8 0,.string ⟨#[]⟩,.slice none 0 0,.string ⟨#[]⟩,.bool false]:=by
  have h1:=(Blk.new (w.alloc (.cells #[.int .i64 pg,.int .u8 op,.string ⟨iop.toArray⟩,.slice ca args.length cc,.string exB,.bool al] 77)) 77 #[.int .i64 0,.int .u8 0,.string ⟨#[]⟩,.slice none 0 0,.string ⟨#[]⟩,.bool false]).alloc (.cells #[.int .i64 4,.int .i64 2,.int .i64 0] 93)
  rw [World.size_alloc] at h1
  exact h1
 have hM:Blk (((w.alloc (.cells #[.int .i64 pg,.int .u8 op,.string ⟨iop.toArray⟩,.slice ca args.length cc,.string exB,.bool al] 77)).alloc (.cells #[.int .i64 0,.int .u8 0,.string ⟨#[]⟩,.slice none 0 0,.string ⟨#[]⟩,.bool false] 77)).alloc (.cells #[.int .i64 4,.int .i64 2,.int .i64 0] 93)) (w.heap.size+2) 93 #[.int .i64 4,.int .i64 2,.int .i64 0]:=by
  have h1:=Blk.new ((w.alloc (.cells #[.int .i64 pg,.int .u8 op,.string ⟨iop.toArray⟩,.slice ca args.length cc,.string exB,.bool al] 77)).alloc (.cells #[.int .i64 0,.int .u8 0,.string ⟨#[]⟩,.slice none 0 0,.string ⟨#[]⟩,.bool false] 77)) 93 #[.int .i64 4,.int .i64 2,.int .i64 0]
  rw [World.size_alloc,World.size_alloc] at h1
  exact h1
 have HE0:=Lib.hid hE
 have HR0:=Lib.hid hR
 have HM0:=Lib.hid hM
 have HB0:=Lib.hid ((((Below.refl w.heap.size w).alloc (Nat.le_refl _) (.cells #[.int .i64 pg,.int .u8 op,.string ⟨iop.toArray⟩,.slice ca args.length cc,.string exB,.bool al] 77)).alloc (by rw [World.size_alloc];omega) (.cells #[.int .i64 0,.int .u8 0,.string ⟨#[]⟩,.slice none 0 0,.string ⟨#[]⟩,.bool false] 77)).alloc (by rw [World.size_alloc,World.size_alloc];omega) (.cells #[.int .i64 4,.int .i64 2,.int .i64 0] 93))
 have hjb:(iop==[74,80])=false:=by rw [beq_eq_false_iff_ne];exact hjp
 have HS:=Lib.hid (((h.alloc (.cells #[.int .i64 pg,.int .u8 op,.string ⟨iop.toArray⟩,.slice ca args.length cc,.string exB,.bool al] 77)).alloc (.cells #[.int .i64 0,.int .u8 0,.string ⟨#[]⟩,.slice none 0 0,.string ⟨#[]⟩,.bool false] 77)).alloc (.cells #[.int .i64 4,.int .i64 2,.int .i64 0] 93))
 have HIX:=Lib.hid (fun q v W (h:SlR opdR W q v args)=>IndexOpd_any q v args ⟨4,2,0⟩ W h)
 rw [hk] at HIX
 clear h hk hup hsz hE hR hM
 unfold entVal
 dsimp only
 rw [←hexB]
 clear hexB hjp
 have hw1:IntKind.i64.wrap (page - 3)=page - 3:=by rcases hpg with rfl | rfl<;>rfl
 have hw2:IntKind.i64.wrap (page - 3+5)=page+2:=by rcases hpg with rfl | rfl<;>rfl
 go_enter Tryz.func148,Tryz.ntmps148
 go_wp2_with fail
 refine (HMK.out _ HS.out).mono ?_
 rintro e w1 ⟨v1,rfl,ho,hb⟩
 rw [HSZ.out] at ho hb
 obtain ⟨va,vc,rfl⟩:=ho.form
 obtain ⟨vb,vo,rfl,hvb⟩:∃b o,va=some ⟨b,o,none⟩∧w.heap.size+3≤b:=by
  obtain ⟨a3,c3,e3,_,_,g3⟩:=ho.opdOwn (q:=fun b=>w.heap.size+3≤b) (fun j hj=>(ho.lt j hj).1)
  injection e3 with e3
  subst e3
  obtain ⟨b,o,eb,hq,_⟩:=g3 k args[k] (List.getElem?_eq_getElem HKL.out)
  exact ⟨b,o,eb,hq⟩
 have HE1:=Lib.hid (HE0.out.below hb (by omega))
 have HR1:=Lib.hid (HR0.out.below hb (by omega))
 have HM1:=Lib.hid (HM0.out.below hb (by omega))
 have HB1:=Lib.hid (HB0.out.trans (hb.mono (by omega)))
 have HO1:=Lib.hid ho
 have HVB:=Lib.hid hvb
 obtain ⟨m0,m1,m2,_,_,_⟩:=HM1.out.three
 have e0:=HE1.out.cell 0
 have e2:=HE1.out.cell 2
 have e3:=HE1.out.cell 3
 have z0:=HE1.out.free 0
 have z2:=HE1.out.free 2
 have z3:=HE1.out.free 3
 have hlt1:=HE1.out.lt
 clear ho hb hvb HB0 HE0 HR0 HM0 HS HMK
 go_wp2_with fail
 have how:Own opdR (((w1.setCell ⟨w.heap.size,0,none⟩ (.int .i64 page)).setCell ⟨w.heap.size,2,none⟩ (.string ⟨iop.toArray⟩)).setCell ⟨w.heap.size,3,none⟩ (.slice (some ⟨vb,vo,none⟩) args.length vc)) (w.heap.size+3) 93 NoB (.slice (some ⟨vb,vo,none⟩) args.length vc) args:=HO1.out.keep (fun j hj=>by
  have hne:j≠w.heap.size:=by
   rcases hj with hj | hj
   ·exact hj.elim
   ·have:=(HO1.out.lt j hj).1;omega
  rw [Below.heap_setCell _ _ _ _ hne,Below.heap_setCell _ _ _ _ hne,Below.heap_setCell _ _ _ _ hne])
 refine (HIX.out (fun j=>w.heap.size+3≤j) _ _ (how.slR (fun _ h=>h.elim) (fun _ h=>h))).mono ?_
 rintro e w2 ⟨rfl,hb2⟩
 have hE2:Blk w2 w.heap.size 77 #[.int .i64 page,.int .u8 op,.string ⟨iop.toArray⟩,.slice (some ⟨vb,vo,none⟩) args.length vc,.string exB,.bool al]:=(((HE1.out.set 0 _).set 2 _).set 3 _).below hb2 (by rw [World.size_setCell,World.size_setCell,World.size_setCell];exact HE1.out.lt)
 have hR2:=(((HR1.out.far (p:=⟨w.heap.size,0,none⟩) (by simp) (.int .i64 page)).far (p:=⟨w.heap.size,2,none⟩) (by simp) (.string ⟨iop.toArray⟩)).far (p:=⟨w.heap.size,3,none⟩) (by simp) (.slice (some ⟨vb,vo,none⟩) args.length vc)).below hb2 (by rw [World.size_setCell,World.size_setCell,World.size_setCell];exact HR1.out.lt)
 have ho2:Own opdR w2 (w.heap.size+3) 93 NoB (.slice (some ⟨vb,vo,none⟩) args.length vc) args:=how.keep (Keep.of_below hb2 (fun j hj=>by rcases hj with hj | hj;exact hj.elim;exact (how.lt j hj).2))
 have HO2:=Lib.hid (ho2.opdOwn (q:=fun b=>w.heap.size+3≤b) (fun j hj=>(ho2.lt j hj).1))
 have HB2:=Lib.hid ((((HB1.out.setCell (p:=⟨w.heap.size,0,none⟩) (Nat.le_refl _) (.int .i64 page)).setCell (p:=⟨w.heap.size,2,none⟩) (Nat.le_refl _) (.string ⟨iop.toArray⟩)).setCell (p:=⟨w.heap.size,3,none⟩) (Nat.le_refl _) (.slice (some ⟨vb,vo,none⟩) args.length vc)).trans (hb2.mono (by rw [World.size_setCell,World.size_setCell,World.size_setCell];exact Nat.le_of_lt HE1.out.lt)))
 obtain ⟨b9,o9,e9,_,_,d0,d1,d2,df⟩:∃b o,some (⟨vb,vo,none⟩:Addr)=some ⟨b,o,none⟩∧w.heap.size+3≤b∧b < w2.heap.size∧w2.cell? ⟨b,o+k * 3,none⟩=some (.int .i64 args[k].kind)∧w2.cell? ⟨b,o+k * 3+1,none⟩=some (.int .i64 args[k].reg)∧w2.cell? ⟨b,o+k * 3+2,none⟩=some (.int .i64 args[k].n)∧∀j,w2.frozen? ⟨b,j,none⟩=false:=by
  obtain ⟨a3,c3,e3,_,_,g3⟩:=HO2.out
  injection e3 with e3
  subst e3
  exact g3 k args[k] (List.getElem?_eq_getElem HKL.out)
 injection e9 with e9
 injection e9 with e9 e10
 subst e9 e10
 have HE2:=Lib.hid hE2
 have HR2:=Lib.hid hR2
 clear hE2 hR2 ho2 how hb2 e0 e2 e3 z0 z2 z3 hlt1 m0 m1 m2 HE1 HR1 HM1 HB1 HO1
 have e0:=HE2.out.cell 0
 have e1:=HE2.out.cell 1
 have e2:=HE2.out.cell 2
 have e3:=HE2.out.cell 3
 have e4:=HE2.out.cell 4
 have e5:=HE2.out.cell 5
 have z4:=HE2.out.free 4
 have r0:=HR2.out.cell 0
 have r1:=HR2.out.cell 1
 have r2:=HR2.out.cell 2
 have r3:=HR2.out.cell 3
 have r4:=HR2.out.cell 4
 have r5:=HR2.out.cell 5
 have y0:=HR2.out.free 0
 have y1:=HR2.out.free 1
 have y2:=HR2.out.free 2
 have y3:=HR2.out.free 3
 have y4:=HR2.out.free 4
 have y5:=HR2.out.free 5
 have f0:=df (vo+k * 3)
 have f1:=df (vo+k * 3+1)
 have f2:=df (vo+k * 3+2)
 have hne:¬vb=w.heap.size:=by have:=HVB.out;omega
 have hne2:¬vb=w.heap.size+1:=by have:=HVB.out;omega
 clear df
 go_wp2
 rw [hcat.out]
 have hp:=HO2.out.put ⟨5,page+2,0⟩ HKL.out
 refine bodyPost_ret (results_row_tmp rfl _ _ (w.heap.size+1) 77 #[.int .i64 page,.int .u8 op,.string ⟨iop.toArray⟩,.slice (some ⟨vb,vo,none⟩) args.length vc,.string ⟨(100::ex).toArray⟩,.bool al] (0,0) _ rfl (show Blk _ (w.heap.size+1) 77 #[.int .i64 page,.int .u8 op,.string ⟨iop.toArray⟩,.slice (some ⟨vb,vo,none⟩) args.length vc,.string ⟨(100::ex).toArray⟩,.bool al] from (((((((((HR2.out.far (p:=⟨vb,vo+k * 3,none⟩) (Ne.symm hne2) _).far (p:=⟨vb,vo+k * 3+1,none⟩) (Ne.symm hne2) _).far (p:=⟨vb,vo+k * 3+2,none⟩) (Ne.symm hne2) _).far (p:=⟨w.heap.size,4,none⟩) (by simp) _).set 0 _).set 1 _).set 2 _).set 3 _).set 4 _).set 5 _) Tryz.underlying77 rfl (by kernel_rfl)) rfl ⟨_,rfl,(hp.keep (fun j hj=>?_)).mono (fun j hj=>by have hj:w.heap.size+3≤j:=hj;omega),?_⟩
 ·have hj:w.heap.size+3≤j:=hj
  have n1:j≠w.heap.size:=by omega
  have n2:j≠w.heap.size+1:=by omega
  rw [Below.heap_setCell _ _ _ _ n2,Below.heap_setCell _ _ _ _ n2,Below.heap_setCell _ _ _ _ n2,Below.heap_setCell _ _ _ _ n2,Below.heap_setCell _ _ _ _ n2,Below.heap_setCell _ _ _ _ n2,Below.heap_setCell _ _ _ _ n1]
 ·have hv:w.heap.size≤vb:=by have:=HVB.out;omega
  exact (((((((((HB2.out.setCell (p:=⟨vb,_,none⟩) hv _).setCell (p:=⟨vb,_,none⟩) hv _).setCell (p:=⟨vb,_,none⟩) hv _).setCell (p:=⟨w.heap.size,4,none⟩) (Nat.le_refl _) _).setCell (p:=⟨w.heap.size+1,_,none⟩) (Nat.le_succ _) _).setCell (p:=⟨w.heap.size+1,_,none⟩) (Nat.le_succ _) _).setCell (p:=⟨w.heap.size+1,_,none⟩) (Nat.le_succ _) _).setCell (p:=⟨w.heap.size+1,_,none⟩) (Nat.le_succ _) _).setCell (p:=⟨w.heap.size+1,_,none⟩) (Nat.le_succ _) _).setCell (p:=⟨w.heap.size+1,_,none⟩) (Nat.le_succ _) _
end Go.Proofs.YtnbmbcjnncbaiaaGreatDoor
namespace Go.Proofs.YtnbmbcjnncbaiaaGreatDoor
set_option maxHeartbeats 16000000
set_option maxRecDepth 100000
open Go.RowKit Go.Shelf Go.Sort
def mainB:ByteArray:=⟨#[48,48,48,48,48,48,48,48,32,78,79,80,59,48,48,48,48,49,48,48,48,32,69,88,32,65,70,44,65,70,39,59,48,48,48,49,48,48,48,48,32,68,74,78,90,32,101,59,48,48,48,49,49,48,48,48,32,74,82,32,101,59,48,48,49,107,107,48,48,48,32,74,82,32,107,44,101,59,48,48,112,112,48,48,48,49,32,76,68,32,112,44,119,59,48,48,112,112,49,48,48,49,32,65,68,68,32,72,76,44,112,59,48,48,48,48,48,48,49,48,32,76,68,32,40,66,67,41,44,65,59,48,48,48,49,48,48,49,48,32,76,68,32,40,68,69,41,44,65,59,48,48,49,48,48,48,49,48,32,76,68,32,40,119,41,44,72,76,59,48,48,49,49,48,48,49,48,32,76,68,32,40,119,41,44,65,59,48,48,48,48,49,48,49,48,32,76,68,32,65,44,40,66,67,41,59,48,48,48,49,49,48,49,48,32,76,68,32,65,44,40,68,69,41,59,48,48,49,48,49,48,49,48,32,76,68,32,72,76,44,40,119,41,59,48,48,49,49,49,48,49,48,32,76,68,32,65,44,40,119,41,59,48,48,112,112,48,48,49,49,32,73,78,67,32,112,59,48,48,112,112,49,48,49,49,32,68,69,67,32,112,59,48,48,114,114,114,49,48,48,32,73,78,67,32,114,59,48,48,114,114,114,49,48,49,32,68,69,67,32,114,59,48,48,114,114,114,49,49,48,32,76,68,32,114,44,110,59,48,48,48,48,48,49,49,49,32,82,76,67,65,59,48,48,48,48,49,49,49,49,32,82,82,67,65,59,48,48,48,49,48,49,49,49,32,82,76,65,59,48,48,48,49,49,49,49,49,32,82,82,65,59,48,48,49,48,48,49,49,49,32,68,65,65,59,48,48,49,48,49,49,49,49,32,67,80,76,59,48,48,49,49,48,49,49,49,32,83,67,70,59,48,48,49,49,49,49,49,49,32,67,67,70,59,48,49,49,49,48,49,49,48,32,72,65,76,84,59,48,49,114,114,114,115,115,115,32,76,68,32,114,44,115,59,49,48,48,48,48,115,115,115,32,65,68,68,32,65,44,115,59,49,48,48,48,49,115,115,115,32,65,68,67,32,65,44,115,59,49,48,48,49,48,115,115,115,32,83,85,66,32,115,59,49,48,48,49,49,115,115,115,32,83,66,67,32,65,44,115,59,49,48,49,48,48,115,115,115,32,65,78,68,32,115,59,49,48,49,48,49,115,115,115,32,88,79,82,32,115,59,49,48,49,49,48,115,115,115,32,79,82,32,115,59,49,48,49,49,49,115,115,115,32,67,80,32,115,59,49,49,99,99,99,48,48,48,32,82,69,84,32,99,59,49,49,113,113,48,48,48,49,32,80,79,80,32,113,59,49,49,48,48,49,48,48,49,32,82,69,84,59,49,49,48,49,49,48,48,49,32,69,88,88,59,49,49,49,48,49,48,48,49,32,74,80,32,40,72,76,41,59,49,49,49,49,49,48,48,49,32,76,68,32,83,80,44,72,76,59,49,49,99,99,99,48,49,48,32,74,80,32,99,44,119,59,49,49,48,48,48,48,49,49,32,74,80,32,119,59,49,49,48,49,48,48,49,49,32,79,85,84,32,40,110,41,44,65,59,49,49,48,49,49,48,49,49,32,73,78,32,65,44,40,110,41,59,49,49,49,48,48,48,49,49,32,69,88,32,40,83,80,41,44,72,76,59,49,49,49,48,49,48,49,49,32,69,88,32,68,69,44,72,76,59,49,49,49,49,48,48,49,49,32,68,73,59,49,49,49,49,49,48,49,49,32,69,73,59,49,49,99,99,99,49,48,48,32,67,65,76,76,32,99,44,119,59,49,49,113,113,48,49,48,49,32,80,85,83,72,32,113,59,49,49,48,48,49,49,48,49,32,67,65,76,76,32,119,59,49,49,48,48,48,49,49,48,32,65,68,68,32,65,44,110,59,49,49,48,48,49,49,49,48,32,65,68,67,32,65,44,110,59,49,49,48,49,48,49,49,48,32,83,85,66,32,110,59,49,49,48,49,49,49,49,48,32,83,66,67,32,65,44,110,59,49,49,49,48,48,49,49,48,32,65,78,68,32,110,59,49,49,49,48,49,49,49,48,32,88,79,82,32,110,59,49,49,49,49,48,49,49,48,32,79,82,32,110,59,49,49,49,49,49,49,49,48,32,67,80,32,110,59,49,49,116,116,116,49,49,49,32,82,83,84,32,116]⟩
def cbB:ByteArray:=⟨#[48,48,48,48,48,115,115,115,32,82,76,67,32,115,59,48,48,48,48,49,115,115,115,32,82,82,67,32,115,59,48,48,48,49,48,115,115,115,32,82,76,32,115,59,48,48,48,49,49,115,115,115,32,82,82,32,115,59,48,48,49,48,48,115,115,115,32,83,76,65,32,115,59,48,48,49,48,49,115,115,115,32,83,82,65,32,115,59,48,48,49,49,48,115,115,115,32,83,76,76,32,115,59,48,48,49,49,49,115,115,115,32,83,82,76,32,115,59,48,49,98,98,98,115,115,115,32,66,73,84,32,98,44,115,59,49,48,98,98,98,115,115,115,32,82,69,83,32,98,44,115,59,49,49,98,98,98,115,115,115,32,83,69,84,32,98,44,115]⟩
def edB:ByteArray:=⟨#[48,49,49,49,48,48,48,48,32,73,78,32,40,67,41,59,48,49,114,114,114,48,48,48,32,73,78,32,114,44,40,67,41,59,48,49,49,49,48,48,48,49,32,79,85,84,32,40,67,41,44,48,59,48,49,114,114,114,48,48,49,32,79,85,84,32,40,67,41,44,114,59,48,49,112,112,48,48,49,48,32,83,66,67,32,72,76,44,112,59,48,49,112,112,49,48,49,48,32,65,68,67,32,72,76,44,112,59,48,49,49,48,48,48,49,49,32,76,68,32,40,119,41,44,72,76,32,42,59,48,49,49,48,49,48,49,49,32,76,68,32,72,76,44,40,119,41,32,42,59,48,49,112,112,48,48,49,49,32,76,68,32,40,119,41,44,112,59,48,49,112,112,49,48,49,49,32,76,68,32,112,44,40,119,41,59,48,49,48,48,48,49,48,48,32,78,69,71,59,48,49,120,120,120,49,48,48,32,78,69,71,32,42,59,48,49,48,48,49,49,48,49,32,82,69,84,73,59,48,49,48,48,48,49,48,49,32,82,69,84,78,59,48,49,120,120,120,49,48,49,32,82,69,84,78,32,42,59,48,49,48,48,48,49,49,48,32,73,77,32,48,59,48,49,48,49,48,49,49,48,32,73,77,32,49,59,48,49,48,49,49,49,49,48,32,73,77,32,50,59,48,49,120,48,120,49,49,48,32,73,77,32,48,32,42,59,48,49,49,49,48,49,49,48,32,73,77,32,49,32,42,59,48,49,49,49,49,49,49,48,32,73,77,32,50,32,42,59,48,49,48,48,48,49,49,49,32,76,68,32,73,44,65,59,48,49,48,48,49,49,49,49,32,76,68,32,82,44,65,59,48,49,48,49,48,49,49,49,32,76,68,32,65,44,73,59,48,49,48,49,49,49,49,49,32,76,68,32,65,44,82,59,48,49,49,48,48,49,49,49,32,82,82,68,59,48,49,49,48,49,49,49,49,32,82,76,68,59,49,48,49,48,48,48,48,48,32,76,68,73,59,49,48,49,48,48,48,48,49,32,67,80,73,59,49,48,49,48,48,48,49,48,32,73,78,73,59,49,48,49,48,48,48,49,49,32,79,85,84,73,59,49,48,49,48,49,48,48,48,32,76,68,68,59,49,48,49,48,49,48,48,49,32,67,80,68,59,49,48,49,48,49,48,49,48,32,73,78,68,59,49,48,49,48,49,48,49,49,32,79,85,84,68,59,49,48,49,49,48,48,48,48,32,76,68,73,82,59,49,48,49,49,48,48,48,49,32,67,80,73,82,59,49,48,49,49,48,48,49,48,32,73,78,73,82,59,49,48,49,49,48,48,49,49,32,79,84,73,82,59,49,48,49,49,49,48,48,48,32,76,68,68,82,59,49,48,49,49,49,48,48,49,32,67,80,68,82,59,49,48,49,49,49,48,49,48,32,73,78,68,82,59,49,48,49,49,49,48,49,49,32,79,84,68,82]⟩
def mainL:List (List UInt8):=splitC mainB.data.toList
theorem mainB_size:mainB.size≤1000000:=by decide+kernel
theorem entry6 {w:World} {g:Nat} {z0 z1 z2 z3 z4 z5:Value} (h:Blk w g 77 #[z0,z1,z2,z3,z4,z5]) (a0 a1 a2 a3 a4 a5:Value):
  Blk ((((((w.setCell ⟨g,0,none⟩ a0).setCell ⟨g,1,none⟩ a1).setCell ⟨g,2,none⟩ a2).setCell ⟨g,3,none⟩ a3).setCell ⟨g,4,none⟩ a4).setCell ⟨g,5,none⟩ a5) g 77 #[a0,a1,a2,a3,a4,a5]:=(((((h.set 0 _).set 1 _).set 2 _).set 3 _).set 4 _).set 5 _
def set6 (w:World) (g:Nat) (a0 a1 a2 a3 a4 a5:Value):World:=((((((w.setCell ⟨g,0,none⟩ a0).setCell ⟨g,1,none⟩ a1).setCell ⟨g,2,none⟩ a2).setCell ⟨g,3,none⟩ a3).setCell ⟨g,4,none⟩ a4).setCell ⟨g,5,none⟩ a5)
theorem set6_size (w:World) (g:Nat) (a0 a1 a2 a3 a4 a5:Value):(set6 w g a0 a1 a2 a3 a4 a5).heap.size=w.heap.size:=by
 unfold set6;rw [World.size_setCell,World.size_setCell,World.size_setCell,World.size_setCell,World.size_setCell,World.size_setCell]
theorem set6_far (w:World) (g:Nat) (a0 a1 a2 a3 a4 a5:Value) (j:Nat) (h:j≠g):(set6 w g a0 a1 a2 a3 a4 a5).heap[j]?=w.heap[j]?:=by
 unfold set6
 rw [Below.heap_setCell _ _ _ _ h,Below.heap_setCell _ _ _ _ h,Below.heap_setCell _ _ _ _ h,Below.heap_setCell _ _ _ _ h,Below.heap_setCell _ _ _ _ h,Below.heap_setCell _ _ _ _ h]
theorem set6_below {B:Nat} {w0 w:World} {g:Nat} (h:Below B w0 w) (hg:B≤g) (a0 a1 a2 a3 a4 a5:Value):Below B w0 (set6 w g a0 a1 a2 a3 a4 a5):=
 (((((h.setCell (p:=⟨g,0,none⟩) hg _).setCell (p:=⟨g,1,none⟩) hg _).setCell (p:=⟨g,2,none⟩) hg _).setCell (p:=⟨g,3,none⟩) hg _).setCell (p:=⟨g,4,none⟩) hg _).setCell (p:=⟨g,5,none⟩) hg _
end Go.Proofs.YtnbmbcjnncbaiaaGreatDoor
namespace Go.Proofs.YtnbmbcjnncbaiaaGreatDoor
set_option maxHeartbeats 16000000
set_option maxRecDepth 100000
open Go.RowKit Go.Shelf Go.Sort
end Go.Proofs.YtnbmbcjnncbaiaaGreatDoor
namespace Go.Proofs.YtnbmbcjnncbaiaaGreatDoor
set_option maxHeartbeats 16000000
set_option maxRecDepth 100000
open Go.RowKit Go.Shelf Go.Sort
theorem tfind_none (pg:Int) (s:ByteArray) (op:Nat) (w:World) (hop:op < 256) (hs:s.size≤1000000) (hl:lookF op (splitC s.data.toList)=none):
  Calls Tryz.prog 147 #[.int .i64 pg,.string s,.int .u8 op] w fun e w'=>e=.returned (.tuple #[ent0,.bool false])∧Below w.heap.size w w':=by
 have hb0:=(Below.refl w.heap.size w).alloc (Nat.le_refl _) (.cells #[.int .i64 0,.int .u8 0,.string ⟨#[]⟩,.slice none 0 0,.string ⟨#[]⟩,.bool false] 77)
 have HB0:=Lib.hid hb0
 have HF0:=Lib.hid (Blk.new w 77 #[.int .i64 0,.int .u8 0,.string ⟨#[]⟩,.slice none 0 0,.string ⟨#[]⟩,.bool false])
 have HLK:=Lib.hid (fun W=>lookup_any s op hop W hs)
 rw [hl] at HLK
 unfold lookP at HLK
 dsimp only at HLK
 clear hb0 hl hs hop
 go_enter Tryz.func147,Tryz.ntmps147
 go_wp2_with (go_at_call 165;refine (HLK.out _).mono ?_;rintro e w2 ⟨rfl,hb⟩;have HB2:=Lib.hid (HB0.out.trans (hb.mono HB0.out.size));have hF2:=HF0.out.below hb HF0.out.lt;have e0:=hF2.cell 0;have e1:=hF2.cell 1;have e2:=hF2.cell 2;have e3:=hF2.cell 3;have e4:=hF2.cell 4;have e5:=hF2.cell 5;have z0:=hF2.free 0;have z1:=hF2.free 1;have z2:=hF2.free 2;have z3:=hF2.free 3;have z4:=hF2.free 4;have z5:=hF2.free 5;have HF2:=Lib.hid hF2;clear hb hF2)
 refine bodyPost_ret (results_row_tmp rfl _ _ w.heap.size 77 #[.int .i64 0,.int .u8 0,.string ⟨#[]⟩,.slice none 0 0,.string ⟨#[]⟩,.bool false] (0,0) _ rfl (entry6 HF2.out _ _ _ _ _ _) Tryz.underlying77 rfl (by kernel_rfl)) rfl ⟨rfl,?_⟩
 exact set6_below HB2.out (Nat.le_refl _) _ _ _ _ _ _
end Go.Proofs.YtnbmbcjnncbaiaaGreatDoor
namespace Go.Proofs.YtnbmbcjnncbaiaaGreatDoor
set_option maxHeartbeats 16000000
set_option maxRecDepth 100000
open Go.RowKit Go.Shelf Go.Sort
end Go.Proofs.YtnbmbcjnncbaiaaGreatDoor
namespace Go.Proofs.YtnbmbcjnncbaiaaGreatDoor
set_option maxHeartbeats 16000000
set_option maxRecDepth 100000
open Go.RowKit Go.Shelf Go.Sort
def xchg (reg:Int) (o:Opd):Option Opd:=
 if opdEq o ⟨4,2,0⟩=true then some ⟨4,reg,0⟩ else if opdEq o ⟨3,2,0⟩=true then some ⟨3,reg,0⟩
 else if o.kind=1∧o.reg=4 then some ⟨2,2 * (reg - 5),0⟩ else if o.kind=1∧o.reg=5 then some ⟨2,2 * (reg - 5)+1,0⟩ else none
def xmap (reg:Int) (l:List Opd):List Opd:=l.map fun o=>(xchg reg o).getD o
def xany (reg:Int) (l:List Opd):Bool:=l.any fun o=>(xchg reg o).isSome
def xmix (reg:Int) (l:List Opd) (k:Nat):List Opd:=xmap reg (l.take k)++l.drop k
theorem xmix_len (reg:Int) (l:List Opd) (k:Nat):(xmix reg l k).length=l.length:=by
 unfold xmix xmap;rw [List.length_append,List.length_map,List.length_take,List.length_drop];omega
theorem xmix_zero (reg:Int) (l:List Opd):xmix reg l 0=l:=by unfold xmix xmap;simp
theorem xmix_all (reg:Int) (l:List Opd) (k:Nat) (h:l.length≤k):xmix reg l k=xmap reg l:=by
 unfold xmix;rw [List.take_of_length_le h,List.drop_of_length_le h,List.append_nil]
theorem xmix_at (reg:Int) (l:List Opd) (k:Nat) (h:k < l.length):(xmix reg l k)[k]?=some l[k]:=by
 have h1:(xmap reg (l.take k)).length=k:=by unfold xmap;rw [List.length_map,List.length_take];omega
 unfold xmix
 rw [List.getElem?_append_right (by omega),h1,Nat.sub_self,List.getElem?_drop]
 simp [h]
theorem xmix_step (reg:Int) (l:List Opd) (k:Nat) (h:k < l.length):xmix reg l (k+1)=(xmix reg l k).set k ((xchg reg l[k]).getD l[k]):=by
 have h1:(xmap reg (l.take k)).length=k:=by unfold xmap;rw [List.length_map,List.length_take];omega
 unfold xmix
 rw [List.set_append_right _ _ (by omega),h1,Nat.sub_self,List.drop_eq_getElem_cons h,List.set_cons_zero,List.take_succ_eq_append_getElem h]
 unfold xmap
 rw [List.map_append,List.append_assoc]
 rfl
theorem xany_step (reg:Int) (l:List Opd) (k:Nat) (h:k < l.length):xany reg (l.take (k+1))=(xany reg (l.take k) || (xchg reg l[k]).isSome):=by
 rw [List.take_succ_eq_append_getElem h];unfold xany;rw [List.any_append];simp
structure IxI (w:World) (S:Nat) (page:Int) (op:Nat) (iop exB:ByteArray) (al:Bool) (va:Value) (l:List Opd) (wr:World):Prop where
 blkE:Blk wr w.heap.size 77 #[.int .i64 page,.int .u8 op,.string iop,va,.string exB,.bool al]
 blkR:Blk wr (w.heap.size+1) 77 #[.int .i64 0,.int .u8 0,.string ⟨#[]⟩,.slice none 0 0,.string ⟨#[]⟩,.bool false]
 blkM:Blk wr (w.heap.size+2) 93 #[.int .i64 4,.int .i64 2,.int .i64 0]
 own:OpdOwn wr (fun b=>w.heap.size+3≤b∧b < S) va l
 below:Below w.heap.size w wr
 size:S≤wr.heap.size
theorem IxI.later {w wr w':World} {S op:Nat} {page:Int} {iop exB:ByteArray} {al:Bool} {va:Value} {l:List Opd} (h:IxI w S page op iop exB al va l wr) (hb:Below wr.heap.size wr w'):IxI w S page op iop exB al va l w':=
 ⟨h.blkE.below hb h.blkE.lt,h.blkR.below hb h.blkR.lt,h.blkM.below hb h.blkM.lt,h.own.below hb,h.below.trans (hb.mono h.below.size),Nat.le_trans h.size hb.size⟩
theorem IxI.put {w wr:World} {S op b o n c k:Nat} {page:Int} {iop exB:ByteArray} {al:Bool} {l:List Opd} (y:Opd) (h:IxI w S page op iop exB al (.slice (some ⟨b,o,none⟩) n c) l wr) (hb:w.heap.size+3≤b) (hk:k < l.length):
  IxI w S page op iop exB al (.slice (some ⟨b,o,none⟩) n c) (l.set k y) (((wr.setCell ⟨b,o+k * 3,none⟩ (.int .i64 y.kind)).setCell ⟨b,o+k * 3+1,none⟩ (.int .i64 y.reg)).setCell ⟨b,o+k * 3+2,none⟩ (.int .i64 y.n)):=
 ⟨((h.blkE.far (by show _≠b;omega) _).far (by show _≠b;omega) _).far (by show _≠b;omega) _,((h.blkR.far (by show _≠b;omega) _).far (by show _≠b;omega) _).far (by show _≠b;omega) _,((h.blkM.far (by show _≠b;omega) _).far (by show _≠b;omega) _).far (by show _≠b;omega) _,
  h.own.put y hk,((h.below.setCell (by show _≤b;omega) _).setCell (by show _≤b;omega) _).setCell (by show _≤b;omega) _,by rw [World.size_setCell,World.size_setCell,World.size_setCell];exact h.size⟩
end Go.Proofs.YtnbmbcjnncbaiaaGreatDoor
namespace Go.Proofs.YtnbmbcjnncbaiaaGreatDoor
set_option maxHeartbeats 16000000
set_option maxRecDepth 100000
open Go.RowKit Go.Shelf Go.Sort
theorem set_same {α:Type} {l:List α} {k:Nat} {y:α} (h:l[k]?=some y):l.set k y=l:=by
 obtain ⟨hk,rfl⟩:=List.getElem?_eq_some_iff.1 h
 exact List.set_getElem_self hk
theorem indexed_loop (page:Int) (hpg:page=3∨page=4) (x:EntV) (p:Blocks) (v:Value) (w:World) (h:SlR opdR w p v x.args) (hm:posO ⟨4,2,0⟩ 0 x.args=-1∨(0≤posO ⟨4,2,0⟩ 0 x.args∧x.iop=[74,80])) (hop9:x.op < 256) (hn:x.args.length≤1000)
  (hup:upper ⟨x.iop.toArray⟩=⟨x.iop.toArray⟩) (his:x.iop.length≤1000) (hex:x.ex.length≤1000):
  Calls Tryz.prog 148 #[entVal x v,.int .i64 page] w fun e w'=>∃v',e=.returned (.tuple (if x.op=235 then #[ent0,.bool false] else #[entVal ⟨page,x.op,x.iop,xmap (page+2) x.args,x.ex,x.al⟩ v',.bool (xany (page+2) x.args)]))∧OpdOwn w' (fun b=>w.heap.size≤b) v' (xmap (page+2) x.args)∧Below w.heap.size w w':=by
 obtain ⟨reg,hreg⟩:∃r,r=page+2:=⟨_,rfl⟩
 rw [←hreg]
 have hw1:IntKind.i64.wrap (page - 3)=page - 3:=by rcases hpg with rfl | rfl<;>rfl
 have hw2:IntKind.i64.wrap (page - 3+5)=reg:=by subst hreg;rcases hpg with rfl | rfl<;>rfl
 have hw3:IntKind.i64.wrap (reg - 5)=reg - 5:=by subst hreg;rcases hpg with rfl | rfl<;>rfl
 have hw4:IntKind.i64.wrap (2 * (reg - 5))=2 * (reg - 5):=by subst hreg;rcases hpg with rfl | rfl<;>rfl
 have hw5:IntKind.i64.wrap (2 * (reg - 5)+4)=2 * (reg - 5)+4:=by subst hreg;rcases hpg with rfl | rfl<;>rfl
 have hw6:IntKind.i64.wrap (2 * (reg - 5)+4 - 4)=2 * (reg - 5):=by subst hreg;rcases hpg with rfl | rfl<;>rfl
 have hw7:IntKind.i64.wrap (2 * (reg - 5)+5)=2 * (reg - 5)+5:=by subst hreg;rcases hpg with rfl | rfl<;>rfl
 have hw8:IntKind.i64.wrap (2 * (reg - 5)+5 - 4)=2 * (reg - 5)+1:=by subst hreg;rcases hpg with rfl | rfl<;>rfl
 have HP:=Lib.hid hpg
 clear hpg hreg
 obtain ⟨pg,op,iop,args,ex,al⟩:=x
 dsimp only at *
 obtain ⟨ca,cc,rfl⟩:∃a c,v=.slice a args.length c:=by obtain ⟨a,c,e,_⟩:=h;exact ⟨a,c,e⟩
 have HMK:=Lib.hid (fun W (h:SlR opdR W p (.slice ca args.length cc) args)=>Make_any p ⟨iop.toArray⟩ _ args W h (by omega) (by show iop.toArray.size≤_;rw [List.size_toArray];omega))
 rw [hup] at HMK
 obtain ⟨exB,hexB⟩:∃b:ByteArray,b=⟨ex.toArray⟩:=⟨_,rfl⟩
 have hexs:exB.size≤1000:=by rw [hexB];show ex.toArray.size≤_;rw [List.size_toArray];exact hex
 have HEX:=Lib.hid hexB
 have hsz:(((w.alloc (.cells #[.int .i64 pg,.int .u8 op,.string ⟨iop.toArray⟩,.slice ca args.length cc,.string exB,.bool al] 77)).alloc (.cells #[.int .i64 0,.int .u8 0,.string ⟨#[]⟩,.slice none 0 0,.string ⟨#[]⟩,.bool false] 77)).alloc (.cells #[.int .i64 4,.int .i64 2,.int .i64 0] 93)).heap.size=w.heap.size+3:=by rw [World.size_alloc,World.size_alloc,World.size_alloc]
 have HSZ:=Lib.hid hsz
 have hE:Blk (((w.alloc (.cells #[.int .i64 pg,.int .u8 op,.string ⟨iop.toArray⟩,.slice ca args.length cc,.string exB,.bool al] 77)).alloc (.cells #[.int .i64 0,.int .u8 0,.string ⟨#[]⟩,.slice none 0 0,.string ⟨#[]⟩,.bool false] 77)).alloc (.cells #[.int .i64 4,.int .i64 2,.int .i64 0] 93)) w.heap.size 77 #[.int .i64 pg,.int .u8 op,.string ⟨iop.toArray⟩,.slice ca args.length cc,.string exB,.bool al]:=((Blk.new w _ _).alloc _).alloc _
 have hR:Blk (((w.alloc (.cells #[.int .i64 pg,.int .u8 op,.string ⟨iop.toArray⟩,.slice ca args.length cc,.string exB,.bool al] 77)).alloc (.cells #[.int .i64 0,.int .u8 0,.string ⟨#[]⟩,.slice none 0 0,.string ⟨#[]⟩,.bool false] 77)).alloc (.cells #[.int .i64 4,.int .i64 2,.int .i64 0] 93)) (w.heap.size+1) 77 #[.int .i64 0,.int .u8 0,.string ⟨#[]⟩,.slice none 0 0,.string ⟨#[]⟩,.bool false]:=by
  have h1:=(Blk.new (w.alloc (.cells #[.int .i64 pg,.int .u8 op,.string ⟨iop.toArray⟩,.slice ca args.length cc,.string exB,.bool al] 77)) 77 #[.int .i64 0,.int .u8 0,.string ⟨#[]⟩,.slice none 0 0,.string ⟨#[]⟩,.bool false]).alloc (.cells #[.int .i64 4,.int .i64 2,.int .i64 0] 93)
  rw [World.size_alloc] at h1
  exact h1
 have hM:Blk (((w.alloc (.cells #[.int .i64 pg,.int .u8 op,.string ⟨iop.toArray⟩,.slice ca args.length cc,.string exB,.bool al] 77)).alloc (.cells #[.int .i64 0,.int .u8 0,.string ⟨#[]⟩,.slice none 0 0,.string ⟨#[]⟩,.bool false] 77)).alloc (.cells #[.int .i64 4,.int .i64 2,.int .i64 0] 93)) (w.heap.size+2) 93 #[.int .i64 4,.int .i64 2,.int .i64 0]:=by
  have h1:=Blk.new ((w.alloc (.cells #[.int .i64 pg,.int .u8 op,.string ⟨iop.toArray⟩,.slice ca args.length cc,.string exB,.bool al] 77)).alloc (.cells #[.int .i64 0,.int .u8 0,.string ⟨#[]⟩,.slice none 0 0,.string ⟨#[]⟩,.bool false] 77)) 93 #[.int .i64 4,.int .i64 2,.int .i64 0]
  rw [World.size_alloc,World.size_alloc] at h1
  exact h1
 have HE0:=Lib.hid hE
 have HR0:=Lib.hid hR
 have HM0:=Lib.hid hM
 have HB0:=Lib.hid ((((Below.refl w.heap.size w).alloc (Nat.le_refl _) (.cells #[.int .i64 pg,.int .u8 op,.string ⟨iop.toArray⟩,.slice ca args.length cc,.string exB,.bool al] 77)).alloc (by rw [World.size_alloc];omega) (.cells #[.int .i64 0,.int .u8 0,.string ⟨#[]⟩,.slice none 0 0,.string ⟨#[]⟩,.bool false] 77)).alloc (by rw [World.size_alloc,World.size_alloc];omega) (.cells #[.int .i64 4,.int .i64 2,.int .i64 0] 93))
 have HS:=Lib.hid (((h.alloc (.cells #[.int .i64 pg,.int .u8 op,.string ⟨iop.toArray⟩,.slice ca args.length cc,.string exB,.bool al] 77)).alloc (.cells #[.int .i64 0,.int .u8 0,.string ⟨#[]⟩,.slice none 0 0,.string ⟨#[]⟩,.bool false] 77)).alloc (.cells #[.int .i64 4,.int .i64 2,.int .i64 0] 93))
 have HIX:=Lib.hid (fun q v W (h:SlR opdR W q v args)=>IndexOpd_any q v args ⟨4,2,0⟩ W h)
 have HMM:=Lib.hid hm
 clear h hup hsz hE hR hM hm
 generalize posO ⟨4,2,0⟩ 0 args=i0 at *
 unfold entVal
 dsimp only
 rw [←hexB]
 clear hexB
 go_enter Tryz.func148,Tryz.ntmps148
 go_wp2_with fail
 refine (HMK.out _ HS.out).mono ?_
 rintro e w1 ⟨v1,rfl,ho,hb⟩
 rw [HSZ.out] at ho hb
 obtain ⟨va,vc,rfl⟩:=ho.form
 have HE1:=Lib.hid (HE0.out.below hb (by omega))
 have HR1:=Lib.hid (HR0.out.below hb (by omega))
 have HM1:=Lib.hid (HM0.out.below hb (by omega))
 have HB1:=Lib.hid (HB0.out.trans (hb.mono (by omega)))
 have HO1:=Lib.hid ho
 obtain ⟨m0,m1,m2,_,_,_⟩:=HM1.out.three
 have e0:=HE1.out.cell 0
 have e2:=HE1.out.cell 2
 have e3:=HE1.out.cell 3
 have z0:=HE1.out.free 0
 have z2:=HE1.out.free 2
 have z3:=HE1.out.free 3
 have hlt1:=HE1.out.lt
 clear ho hb HB0 HE0 HR0 HM0 HS HMK
 go_wp2_with fail
 have how:Own opdR (((w1.setCell ⟨w.heap.size,0,none⟩ (.int .i64 page)).setCell ⟨w.heap.size,2,none⟩ (.string ⟨iop.toArray⟩)).setCell ⟨w.heap.size,3,none⟩ (.slice va args.length vc)) (w.heap.size+3) 93 NoB (.slice va args.length vc) args:=HO1.out.keep (fun j hj=>by
  have hne:j≠w.heap.size:=by
   rcases hj with hj | hj
   ·exact hj.elim
   ·have:=(HO1.out.lt j hj).1;omega
  rw [Below.heap_setCell _ _ _ _ hne,Below.heap_setCell _ _ _ _ hne,Below.heap_setCell _ _ _ _ hne])
 refine (HIX.out (fun j=>w.heap.size+3≤j) _ _ (how.slR (fun _ h=>h.elim) (fun _ h=>h))).mono ?_
 rintro e w2 ⟨rfl,hb2⟩
 have ho2:Own opdR w2 (w.heap.size+3) 93 NoB (.slice va args.length vc) args:=how.keep (Keep.of_below hb2 (fun j hj=>by rcases hj with hj | hj;exact hj.elim;exact (how.lt j hj).2))
 have HI0:Hid (IxI w w2.heap.size page op ⟨iop.toArray⟩ exB al (.slice va args.length vc) args w2):=by
  refine ⟨(((HE1.out.set 0 _).set 2 _).set 3 _).below hb2 (by rw [World.size_setCell,World.size_setCell,World.size_setCell];exact HE1.out.lt),?_,?_,ho2.opdOwn (fun j hj=>ho2.lt j hj),?_,Nat.le_refl _⟩
  ·exact (((HR1.out.far (p:=⟨w.heap.size,0,none⟩) (by simp) (.int .i64 page)).far (p:=⟨w.heap.size,2,none⟩) (by simp) (.string ⟨iop.toArray⟩)).far (p:=⟨w.heap.size,3,none⟩) (by simp) (.slice va args.length vc)).below hb2 (by rw [World.size_setCell,World.size_setCell,World.size_setCell];exact HR1.out.lt)
  ·exact (((HM1.out.far (p:=⟨w.heap.size,0,none⟩) (by simp) (.int .i64 page)).far (p:=⟨w.heap.size,2,none⟩) (by simp) (.string ⟨iop.toArray⟩)).far (p:=⟨w.heap.size,3,none⟩) (by simp) (.slice va args.length vc)).below hb2 (by rw [World.size_setCell,World.size_setCell,World.size_setCell];exact HM1.out.lt)
  ·exact (((HB1.out.setCell (p:=⟨w.heap.size,0,none⟩) (Nat.le_refl _) (.int .i64 page)).setCell (p:=⟨w.heap.size,2,none⟩) (Nat.le_refl _) (.string ⟨iop.toArray⟩)).setCell (p:=⟨w.heap.size,3,none⟩) (Nat.le_refl _) (.slice va args.length vc)).trans (hb2.mono (by rw [World.size_setCell,World.size_setCell,World.size_setCell];exact Nat.le_of_lt HE1.out.lt))
 have HSB:Hid (w.heap.size+3≤w2.heap.size):=by
  have h1:=HM1.out.lt
  have h2:=hb2.size
  rw [World.size_setCell,World.size_setCell,World.size_setCell] at h2
  show _≤_
  omega
 clear ho2 how hb2 e0 e2 e3 z0 z2 z3 hlt1 m0 m1 m2 HE1 HR1 HM1 HB1 HO1 HIX
 have e3:=HI0.out.blkE.cell 3
 have e2:=HI0.out.blkE.cell 2
 generalize hS:w2.heap.size=S at *
 clear hS
 go_upto_region 5 with fail
 go_cut [38] (fun s38 wx=>s38=.bool false∧wx=w2)
 case first=>
  rcases HMM.out with rfl | ⟨hj1,hj2⟩
  ·go_wp2
   go_meet
   case rel=>exact ⟨rfl,rfl⟩
  ·have hjb:(iop==[74,80])=true:=by rw [hj2];rfl
   have hj0:decide (0≤i0)=true:=decide_eq_true hj1
   clear hj2
   go_wp2
   go_meet
   case rel=>exact ⟨rfl,rfl⟩
 case rest=>
 obtain ⟨rfl,rfl⟩:=hcut
 go_wp2
 go_loopw [9,55] (fun c i wr=>∃k:Nat,k≤args.length∧i=.int .i64 k∧c=.bool (xany reg (args.take k))∧IxI w S page op ⟨iop.toArray⟩ exB al (.slice va args.length vc) (xmix reg args k) wr) (fun _ i _=>args.length - (intOf i).toNat)
 case atStart=>exact ⟨0,Nat.zero_le _,rfl,rfl,by rw [xmix_zero];exact HI0.out⟩
 case round=>
  clear HI0 e3 e2
  obtain ⟨k,hk,rfl,rfl,hI⟩:=hrel
  by_cases hlt:k < args.length
  ·obtain ⟨b,o,rfl,hq,hbl,c0,c1,c2,f⟩:∃b o,va=some ⟨b,o,none⟩∧(w.heap.size+3≤b∧b < S)∧b < wr.heap.size∧wr.cell? ⟨b,o+k * 3,none⟩=some (.int .i64 args[k].kind)∧wr.cell? ⟨b,o+k * 3+1,none⟩=some (.int .i64 args[k].reg)∧wr.cell? ⟨b,o+k * 3+2,none⟩=some (.int .i64 args[k].n)∧∀j,wr.frozen? ⟨b,j,none⟩=false:=by
    obtain ⟨a9,c9,e9,_,_,g9⟩:=hI.own
    injection e9 with e9
    subst e9
    exact g9 k args[k] (xmix_at reg args k hlt)
   have HXS:=Lib.hid (xmix_step reg args k hlt)
   have HSA:=Lib.hid (set_same (xmix_at reg args k hlt))
   have HXA:=Lib.hid (xany_step reg args k hlt)
   have HI:=Lib.hid hI
   have HQ:=Lib.hid hq
   have HKX:Hid (k < (xmix reg args k).length):=by show _ < _;rw [xmix_len];exact hlt
   generalize args[k]=y at *
   obtain ⟨yk,yr,yn⟩:=y
   dsimp only at c0 c1 c2
   generalize xmix reg args k=L at *
   generalize xany reg (args.take k)=ch at *
   have f0:=f (o+k * 3)
   have f1:=f (o+k * 3+1)
   have f2:=f (o+k * 3+2)
   have e3:=HI.out.blkE.cell 3
   have m0:=HI.out.blkM.cell 0
   have m1:=HI.out.blkM.cell 1
   have m2:=HI.out.blkM.cell 2
   have hmb:w.heap.size+2 < wr.heap.size:=HI.out.blkM.lt
   have hm0:w.heap.size < wr.heap.size:=HI.out.blkE.lt
   have n1:¬b=w.heap.size+2:=by omega
   have n2:¬b=wr.heap.size:=Nat.ne_of_lt hbl
   have n3:¬b=w.heap.size:=by omega
   clear hI hq f
   have hop:=run_eqOpd
   have HW:=Lib.hid (fun cs=>HI.out.later ((Below.refl _ wr).alloc (Nat.le_refl _) (.cells cs 93)))
   by_cases ha:opdEq ⟨yk,yr,yn⟩ ⟨4,2,0⟩=true
   ·have hx:xchg reg ⟨yk,yr,yn⟩=some ⟨4,reg,0⟩:=by unfold xchg;rw [if_pos ha]
    obtain ⟨rfl,rfl,rfl⟩:yk=4∧yr=2∧yn=0:=by have:=opdEq_iff.1 ha;injection this with h1 h2 h3;exact ⟨h1,h2,h3⟩
    rw [hx] at HXS HXA
    clear hx
    go_wp2
    go_roundw
    case rel=>exact ⟨k+1,by omega,by go_num,by rw [HXA.out,Option.isSome_some,Bool.or_true],by rw [HXS.out];exact (HI.out.put ⟨4,reg,0⟩ HQ.out.1 HKX.out).later ((Below.refl _ _).alloc (Nat.le_refl _) _)⟩
    case measure=>simp [intOf];omega
   have ha':opdEq ⟨yk,yr,yn⟩ ⟨4,2,0⟩=false:=by simpa using ha
   by_cases hb:opdEq ⟨yk,yr,yn⟩ ⟨3,2,0⟩=true
   ·have hx:xchg reg ⟨yk,yr,yn⟩=some ⟨3,reg,0⟩:=by unfold xchg;rw [if_neg ha,if_pos hb]
    obtain ⟨rfl,rfl,rfl⟩:yk=3∧yr=2∧yn=0:=by have:=opdEq_iff.1 hb;injection this with h1 h2 h3;exact ⟨h1,h2,h3⟩
    rw [hx] at HXS HXA
    clear hx ha
    go_wp2
    go_roundw
    case rel=>exact ⟨k+1,by omega,by go_num,by rw [HXA.out,Option.isSome_some,Bool.or_true],by rw [HXS.out];exact (HI.out.put ⟨3,reg,0⟩ HQ.out.1 HKX.out).later ((Below.refl _ _).alloc (Nat.le_refl _) _)⟩
    case measure=>simp [intOf];omega
   have hb':opdEq ⟨yk,yr,yn⟩ ⟨3,2,0⟩=false:=by simpa using hb
   by_cases hc:yk=1∧yr=4
   ·have hx:xchg reg ⟨yk,yr,yn⟩=some ⟨2,2 * (reg - 5),0⟩:=by unfold xchg;rw [if_neg ha,if_neg hb,if_pos hc]
    obtain ⟨rfl,rfl⟩:=hc
    rw [hx] at HXS HXA
    clear hx ha hb
    go_wp2
    go_roundw
    case rel=>exact ⟨k+1,by omega,by go_num,by rw [HXA.out,Option.isSome_some,Bool.or_true],by rw [HXS.out];exact (HI.out.put ⟨2,2 * (reg - 5),0⟩ HQ.out.1 HKX.out).later ((Below.refl _ _).alloc (Nat.le_refl _) _)⟩
    case measure=>simp [intOf];omega
   by_cases hd:yk=1∧yr=5
   ·have hx:xchg reg ⟨yk,yr,yn⟩=some ⟨2,2 * (reg - 5)+1,0⟩:=by unfold xchg;rw [if_neg ha,if_neg hb,if_neg hc,if_pos hd]
    obtain ⟨rfl,rfl⟩:=hd
    rw [hx] at HXS HXA
    clear hx ha hb hc
    go_wp2
    go_roundw
    case rel=>exact ⟨k+1,by omega,by go_num,by rw [HXA.out,Option.isSome_some,Bool.or_true],by rw [HXS.out];exact (HI.out.put ⟨2,2 * (reg - 5)+1,0⟩ HQ.out.1 HKX.out).later ((Below.refl _ _).alloc (Nat.le_refl _) _)⟩
    case measure=>simp [intOf];omega
   have hx:xchg reg ⟨yk,yr,yn⟩=none:=by unfold xchg;rw [if_neg ha,if_neg hb,if_neg hc,if_neg hd]
   rw [hx] at HXS HXA
   have HL:Hid (L.set k ⟨yk,yr,yn⟩=L):=HSA.out
   clear hx ha hb
   by_cases hk1:yk=1
   ·subst hk1
    have r4:(yr==4)=false:=by rw [beq_eq_false_iff_ne];exact fun e=>hc ⟨rfl,e⟩
    have r5:(yr==5)=false:=by rw [beq_eq_false_iff_ne];exact fun e=>hd ⟨rfl,e⟩
    clear hc hd
    go_wp2
    go_roundw
    case rel=>exact ⟨k+1,by omega,by go_num,by rw [HXA.out,Option.isSome_none,Bool.or_false],by rw [HXS.out,Option.getD_none,HL.out];exact HW.out _⟩
    case measure=>simp [intOf];omega
   ·have r1:(yk==1)=false:=by rw [beq_eq_false_iff_ne];exact hk1
    clear hc hd hk1
    go_wp2
    go_roundw
    case rel=>exact ⟨k+1,by omega,by go_num,by rw [HXA.out,Option.isSome_none,Bool.or_false],by rw [HXS.out,Option.getD_none,HL.out];exact HW.out _⟩
    case measure=>simp [intOf];omega
  ·obtain rfl:k=args.length:=by omega
   rw [xmix_all reg args _ (Nat.le_refl _)] at hI
   rw [List.take_of_length_le (Nat.le_refl _)]
   have HI:=Lib.hid hI
   have e0:=HI.out.blkE.cell 0
   have e1:=HI.out.blkE.cell 1
   have e2:=HI.out.blkE.cell 2
   have e3:=HI.out.blkE.cell 3
   have e4:=HI.out.blkE.cell 4
   have e5:=HI.out.blkE.cell 5
   have r0:=HI.out.blkR.cell 0
   have r1:=HI.out.blkR.cell 1
   have r2:=HI.out.blkR.cell 2
   have r3:=HI.out.blkR.cell 3
   have r4:=HI.out.blkR.cell 4
   have r5:=HI.out.blkR.cell 5
   have y0:=HI.out.blkR.free 0
   have y1:=HI.out.blkR.free 1
   have y2:=HI.out.blkR.free 2
   have y3:=HI.out.blkR.free 3
   have y4:=HI.out.blkR.free 4
   have y5:=HI.out.blkR.free 5
   clear hI hk
   by_cases h235:op=235
   ·subst h235
    go_wp2
    unfold ent0
    refine bodyPost_ret (results_row_tmp rfl _ _ (w.heap.size+1) 77 #[.int .i64 0,.int .u8 0,.string ⟨#[]⟩,.slice none 0 0,.string ⟨#[]⟩,.bool false] (0,0) _ rfl (entry6 HI.out.blkR _ _ _ _ _ _) Tryz.underlying77 rfl (by kernel_rfl)) rfl ⟨rfl,⟨_,(HI.out.own.keep (fun j hj=>set6_far _ _ _ _ _ _ _ _ j (by have:=hj.1;omega))).mono (fun j hj=>by have:=hj.1;omega)⟩,set6_below HI.out.below (Nat.le_succ _) _ _ _ _ _ _⟩
   ·have hq:((op:Int)==235)=false:=by rw [beq_eq_false_iff_ne];omega
    have H235:=Lib.hid h235
    clear h235
    go_wp2
    refine bodyPost_ret (results_row_tmp rfl _ _ (w.heap.size+1) 77 #[.int .i64 page,.int .u8 op,.string ⟨iop.toArray⟩,.slice va args.length vc,.string exB,.bool al] (0,0) _ rfl (entry6 HI.out.blkR _ _ _ _ _ _) Tryz.underlying77 rfl (by kernel_rfl)) rfl ⟨_,rfl,(HI.out.own.keep (fun j hj=>set6_far _ _ _ _ _ _ _ _ j (by have:=hj.1;omega))).mono (fun j hj=>by have:=hj.1;omega),set6_below HI.out.below (Nat.le_succ _) _ _ _ _ _ _⟩
end Go.Proofs.YtnbmbcjnncbaiaaGreatDoor
namespace Go.Proofs.YtnbmbcjnncbaiaaGreatDoor
set_option maxHeartbeats 16000000
set_option maxRecDepth 100000
open Go.RowKit Go.Shelf Go.Sort
theorem els_flat {α:Type} {n:Nat} {enc:α→List Value} {h0:∀x,(enc x).length=n} {h1:∀x,∀u∈enc x,u.oneCell'=true} {w:World} {p:Blocks}:∀{xs:List α} {cs:List Value},Els (Rep.flat n enc h0 h1) w p cs xs→cs=xs.flatMap enc
 | [],_,h=>h
 | x::xs,_,⟨c1,c2,e,hr,h2⟩=>by
  have hr:c1=enc x:=hr
  rw [e,hr,els_flat h2];rfl
theorem flat_els {α:Type} {n:Nat} {enc:α→List Value} {h0:∀x,(enc x).length=n} {h1:∀x,∀u∈enc x,u.oneCell'=true} {w:World} {p:Blocks}:∀(xs:List α),Els (Rep.flat n enc h0 h1) w p (xs.flatMap enc) xs
 | []=>rfl
 | x::xs=>⟨enc x,xs.flatMap enc,rfl,rfl,flat_els xs⟩
theorem cells_set:∀(l:List Opd) (k:Nat) (y:Opd),k < l.length→(((l.flatMap Opd.cells).set (k * 3) (.int .i64 y.kind)).set (k * 3+1) (.int .i64 y.reg)).set (k * 3+2) (.int .i64 y.n)=(l.set k y).flatMap Opd.cells
 | [],k,y,h=>by cases h
 | x::l,0,y,_=>by simp [Opd.cells]
 | x::l,k+1,y,h=>by
  have ih:=cells_set l k y (by simpa using h)
  rw [List.set_cons_succ,List.flatMap_cons,List.flatMap_cons,←ih]
  show (((([.int .i64 x.kind,.int .i64 x.reg,.int .i64 x.n]:List Value)++l.flatMap Opd.cells).set ((k+1) * 3) _).set ((k+1) * 3+1) _).set ((k+1) * 3+2) _=[.int .i64 x.kind,.int .i64 x.reg,.int .i64 x.n]++_
  rw [show (k+1) * 3+2=(k * 3+2)+3 by omega,show (k+1) * 3+1=(k * 3+1)+3 by omega,show (k+1) * 3=k * 3+3 by omega]
  rfl
theorem Own.putO {w:World} {B:Nat} {e:TypeId} {b n c k:Nat} {l:List Opd} (y:Opd) (h:Own opdR w B e NoB (.slice (some ⟨b,0,none⟩) n c) l) (hk:k < l.length):
  Own opdR (((w.setCell ⟨b,k * 3,none⟩ (.int .i64 y.kind)).setCell ⟨b,k * 3+1,none⟩ (.int .i64 y.reg)).setCell ⟨b,k * 3+2,none⟩ (.int .i64 y.n)) B e NoB (.slice (some ⟨b,0,none⟩) n c) (l.set k y):=by
 obtain ⟨cs,hrow,hels⟩:=h
 have hcs:cs=l.flatMap Opd.cells:=els_flat hels
 subst hcs
 refine ⟨(l.set k y).flatMap Opd.cells,⟨?_,?_⟩,flat_els _⟩
 ·rw [←cells_set l k y hk,List.length_set,List.length_set,List.length_set,List.length_set];exact hrow.1
 ·rcases hrow.2 with ⟨hv,_⟩ | ⟨g,cap,cur,hv,hbg,hg,hc1,hc2,hc3,hc4⟩
  ·cases hv
  ·injection hv with hv1 hv2 hv3
   injection hv1 with hv1
   injection hv1 with hv1
   subst hv1 hv2 hv3
   refine .inr ⟨b,c,((cur.setIfInBounds (k * 3) (.int .i64 y.kind)).setIfInBounds (k * 3+1) (.int .i64 y.reg)).setIfInBounds (k * 3+2) (.int .i64 y.n),by rw [List.length_set],hbg,?_,by rw [List.length_set];exact hc1,hc2,by rw [Array.size_setIfInBounds,Array.size_setIfInBounds,Array.size_setIfInBounds];exact hc3,?_⟩
   ·exact ((show Blk w b e cur from hg).set (k * 3) _ |>.set (k * 3+1) _).set (k * 3+2) _
   ·rw [Array.toList_setIfInBounds,Array.toList_setIfInBounds,Array.toList_setIfInBounds,List.length_set,List.take_set,List.take_set,List.take_set,hc4]
    exact cells_set l k y hk
end Go.Proofs.YtnbmbcjnncbaiaaGreatDoor
namespace Go.Proofs.YtnbmbcjnncbaiaaGreatDoor
set_option maxHeartbeats 16000000
set_option maxRecDepth 100000
open Go.RowKit Go.Shelf Go.Sort
theorem or6_u8:∀x:Fin 256,bits .or .u8 (bits .andNot .u8 (x.val:Int) 7) 6=((x.val / 8 * 8+6:Nat):Int):=by decide+kernel
theorem and7_u8:∀x:Fin 256,bits .and .u8 (x.val:Int) 7=((x.val % 8:Nat):Int):=by decide+kernel
def bothF (page:Int) (op:Nat) (r:RuleV) (os:List Opd):EntV:=
 ⟨page,op,r.op,if op % 8=6∨r.op=[66,73,84] then os.set (os.length - 1) ⟨5,page,0⟩ else os.set (os.length - 1) ⟨5,page,0⟩++[⟨1,((op % 8:Nat):Int),0⟩],[100],if op % 8=6 then r.alias else if r.op=[66,73,84] then true else r.alias⟩
theorem Own.at0 {w:World} {B:Nat} {e:TypeId} {v:Value} {l:List Opd} {k:Nat} {y:Opd} (h:Own opdR w B e NoB v l) (hk:l[k]?=some y):∃b c,v=.slice (some ⟨b,0,none⟩) l.length c∧B≤b∧b < w.heap.size∧w.cell? ⟨b,k * 3,none⟩=some (.int .i64 y.kind)∧w.cell? ⟨b,k * 3+1,none⟩=some (.int .i64 y.reg)∧w.cell? ⟨b,k * 3+2,none⟩=some (.int .i64 y.n)∧∀j,w.frozen? ⟨b,j,none⟩=false:=by
 have ho:=h.opdOwn (q:=fun j=>B≤j) (fun j hj=>(h.lt j hj).1)
 obtain ⟨a,c,rfl,_,_,g⟩:=ho
 obtain ⟨b,o,rfl,hq,hb,c0,c1,c2,f⟩:=g k y hk
 obtain ⟨cs,hrow,_⟩:=h
 rcases hrow.2 with ⟨hv,_⟩ | ⟨g,cap,cur,hv,_⟩
 ·cases hv
 ·injection hv with hv
  injection hv with hv
  injection hv with hv1 hv2
  subst hv1 hv2
  rw [Nat.zero_add] at c0 c1 c2
  exact ⟨b,c,rfl,hq,hb,c0,c1,c2,f⟩
theorem Own.ne_blk {α:Type} {R:Rep α} {w:World} {B g:Nat} {e t:TypeId} {p:Blocks} {v:Value} {xs:List α} {cs:Array Value} (h:Own R w B e p v xs) (hb:Blk w g t cs) (hte:t≠e):∀j,v.ownBlock=some j→j≠g:=by
 intro j hj hjg
 subst hjg
 obtain ⟨cs2,hrow,_⟩:=h
 rcases hrow.2 with ⟨rfl,_⟩ | ⟨g,cap,cur,rfl,_,hg,_⟩
 ·cases hj
 ·obtain rfl:g=j:=Option.some.inj hj
  have:=hg.symm.trans (show w.heap[g]?=some (.cells cs t (0,0)) from hb)
  injection this with this
  injection this with h1 h2
  exact hte h2.symm
theorem both_any (page:Int) (hpg:page=5∨page=6) (op:Nat) (t:List UInt8) (r:RuleV) (os:List Opd) (ex:List UInt8) (w:World) (hop:op < 256) (hl:lookF (op / 8 * 8+6) (splitC cbB.data.toList)=some t) (hr:ruleF t=some r) (ha:argsF r.bits (op / 8 * 8+6) r.args=some (os,ex)) (hok:okT t r) (hos:0 < os.length) (hos2:os.length≤100) (hT:Spc w):
  Calls Tryz.prog 149 #[.int .i64 page,.int .u8 op] w fun e w'=>∃v',e=.returned (entVal (bothF page op r os) v')∧Own opdR w' w.heap.size 93 NoB v' (bothF page op r os).args∧Below w.heap.size w w':=by
 have hw1:IntKind.i64.wrap (page - 5)=page - 5:=by rcases hpg with rfl | rfl<;>rfl
 have hw2:IntKind.i64.wrap (page - 5+5)=page:=by rcases hpg with rfl | rfl<;>rfl
 have hw3:IntKind.i64.wrap page=page:=by rcases hpg with rfl | rfl<;>rfl
 clear hpg
 have HFI:=Lib.hid (fun W hT=>find_some page cbB (op / 8 * 8+6) t r os ex W (by omega) (by decide+kernel) hl hr ha hok hT)
 have h6:=or6_u8 ⟨op,hop⟩
 have h7:=and7_u8 ⟨op,hop⟩
 dsimp only at h6 h7
 have hB0:=(Below.refl w.heap.size w).alloc (Nat.le_refl _) (.cells #[.int .i64 0,.int .u8 0,.string ⟨#[]⟩,.slice none 0 0,.string ⟨#[]⟩,.bool false] 77)
 have HT0:=Lib.hid (hT.below hB0)
 have HB0:=Lib.hid hB0
 have HR0:=Lib.hid (Blk.new w 77 #[.int .i64 0,.int .u8 0,.string ⟨#[]⟩,.slice none 0 0,.string ⟨#[]⟩,.bool false])
 have HSZ:Hid ((w.alloc (.cells #[.int .i64 0,.int .u8 0,.string ⟨#[]⟩,.slice none 0 0,.string ⟨#[]⟩,.bool false] 77)).heap.size=w.heap.size+1):=World.size_alloc _ _
 obtain ⟨m,hm⟩:∃m,os.length=m+1:=⟨os.length - 1,by omega⟩
 have HM:=Lib.hid hm
 have HM2:Hid (m≤100):=by show _≤_;omega
 obtain ⟨y,hy⟩:∃y,os[m]?=some y:=⟨_,List.getElem?_eq_getElem (by omega)⟩
 have HY:=Lib.hid hy
 obtain ⟨rb,ro,ra,ral⟩:=r
 unfold bothF
 rw [hm,Nat.add_sub_cancel]
 dsimp only at *
 have hs8:op % 8 < 8:=Nat.mod_lt _ (by decide)
 clear hl hr ha hok hT hB0 hos hos2 hy hm
 generalize op / 8 * 8+6=op2 at *
 generalize op % 8=sl at *
 go_enter Tryz.func149,Tryz.ntmps149
 go_wp2_with fail
 refine (HFI.out _ HT0.out).mono ?_
 rintro e w1 ⟨v1,rfl,ho,hb⟩
 rw [HSZ.out] at ho hb
 obtain ⟨b,vc,hv,hbb,hbs,c0,c1,c2,f⟩:=ho.at0 HY.out
 subst hv
 rw [HM.out] at ho ⊢
 have HR1:=Lib.hid (HR0.out.below hb (by omega))
 have HB1:=Lib.hid (HB0.out.trans (hb.mono (by omega)))
 have HO1:=Lib.hid ho
 have f0:=f (m * 3)
 have f1:=f (m * 3+1)
 have f2:=f (m * 3+2)
 have r0:=HR1.out.cell 0
 have r1:=HR1.out.cell 1
 have r2:=HR1.out.cell 2
 have r3:=HR1.out.cell 3
 have r4:=HR1.out.cell 4
 have r5:=HR1.out.cell 5
 have y0:=HR1.out.free 0
 have y1:=HR1.out.free 1
 have y2:=HR1.out.free 2
 have y3:=HR1.out.free 3
 have y4:=HR1.out.free 4
 have y5:=HR1.out.free 5
 have n1:¬b=w1.heap.size:=Nat.ne_of_lt hbs
 have n2:¬b=w.heap.size:=by omega
 have n3:w.heap.size < w1.heap.size:=HR1.out.lt
 have HBB:=Lib.hid hbb
 have hm2:m≤100:=HM2.out
 have hm3:(m:Int)≤100:=by omega
 clear ho hb hbb f HB0 HR0 HFI h6
 unfold entVal
 dsimp only
 have HO2:Hid (Own opdR (((w1.setCell ⟨b,m * 3,none⟩ (.int .i64 5)).setCell ⟨b,m * 3+1,none⟩ (.int .i64 page)).setCell ⟨b,m * 3+2,none⟩ (.int .i64 0)) (w.heap.size+1) 93 NoB (.slice (some ⟨b,0,none⟩) (m+1) vc) (os.set m ⟨5,page,0⟩)):=HO1.out.putO ⟨5,page,0⟩ (by rw [HM.out];omega)
 have HR2:Hid (Blk (((w1.setCell ⟨b,m * 3,none⟩ (.int .i64 5)).setCell ⟨b,m * 3+1,none⟩ (.int .i64 page)).setCell ⟨b,m * 3+2,none⟩ (.int .i64 0)) w.heap.size 77 #[.int .i64 0,.int .u8 0,.string ⟨#[]⟩,.slice none 0 0,.string ⟨#[]⟩,.bool false]):=((HR1.out.far (p:=⟨b,m * 3,none⟩) (Ne.symm n2) _).far (p:=⟨b,m * 3+1,none⟩) (Ne.symm n2) _).far (p:=⟨b,m * 3+2,none⟩) (Ne.symm n2) _
 have HB2:Hid (Below w.heap.size w (((w1.setCell ⟨b,m * 3,none⟩ (.int .i64 5)).setCell ⟨b,m * 3+1,none⟩ (.int .i64 page)).setCell ⟨b,m * 3+2,none⟩ (.int .i64 0))):=((HB1.out.setCell (p:=⟨b,_,none⟩) (by have:=HBB.out;show _≤b;omega) _).setCell (p:=⟨b,_,none⟩) (by have:=HBB.out;show _≤b;omega) _).setCell (p:=⟨b,_,none⟩) (by have:=HBB.out;show _≤b;omega) _
 by_cases hs:sl=6
 ·subst hs
  go_wp2
  refine bodyPost_ret (results_row1 rfl _ _ w.heap.size 77 #[.int .i64 page,.int .u8 op,.string ⟨ro.toArray⟩,.slice (some ⟨b,0,none⟩) (m+1) vc,.string ⟨#[100]⟩,.bool ral] (0,0) _ rfl ((entry6 HR2.out _ _ _ _ _ _).alloc _) Tryz.underlying77 rfl (by kernel_rfl)) rfl ⟨_,rfl,((HO2.out.keep (fun j hj=>set6_far _ _ _ _ _ _ _ _ j (by
   rcases hj with hj | hj
   ·exact hj.elim
   ·have:=(HO2.out.lt j hj).1;omega))).stay ((Below.refl _ _).alloc (Nat.le_refl _) _)).base (by omega),(set6_below HB2.out (Nat.le_refl _) _ _ _ _ _ _).alloc (by show _≤(set6 _ _ _ _ _ _ _ _).heap.size;rw [set6_size,World.size_setCell,World.size_setCell,World.size_setCell];omega) _⟩
 have hs2:((sl:Int)==6)=false:=by rw [beq_eq_false_iff_ne];omega
 by_cases hbit:ro=[66,73,84]
 ·subst hbit
  go_wp2
  refine bodyPost_ret (results_row1 rfl _ _ w.heap.size 77 #[.int .i64 page,.int .u8 op,.string ⟨#[66,73,84]⟩,.slice (some ⟨b,0,none⟩) (m+1) vc,.string ⟨#[100]⟩,.bool true] (0,0) _ rfl ((entry6 HR2.out _ _ _ _ _ _).alloc _) Tryz.underlying77 rfl (by kernel_rfl)) rfl ⟨_,rfl,((HO2.out.keep (fun j hj=>set6_far _ _ _ _ _ _ _ _ j (by
   rcases hj with hj | hj
   ·exact hj.elim
   ·have:=(HO2.out.lt j hj).1;omega))).stay ((Below.refl _ _).alloc (Nat.le_refl _) _)).base (by omega),(set6_below HB2.out (Nat.le_refl _) _ _ _ _ _ _).alloc (by show _≤(set6 _ _ _ _ _ _ _ _).heap.size;rw [set6_size,World.size_setCell,World.size_setCell,World.size_setCell];omega) _⟩
 have hb2:(ro==[66,73,84])=false:=by rw [beq_eq_false_iff_ne];exact hbit
 have HL2:Hid ((os.set m ⟨5,page,0⟩).length=m+1):=by show _=_;rw [List.length_set,HM.out]
 have HO3:=Lib.hid (HO2.out.stay ((Below.refl _ _).alloc (Nat.le_refl _) (.cells #[.int .i64 page,.int .u8 op,.string ⟨ro.toArray⟩,.slice (some ⟨b,0,none⟩) (m+1) vc,.string ⟨#[100]⟩,.bool ral] 77)))
 have hE3:Blk ((((w1.setCell ⟨b,m * 3,none⟩ (.int .i64 5)).setCell ⟨b,m * 3+1,none⟩ (.int .i64 page)).setCell ⟨b,m * 3+2,none⟩ (.int .i64 0)).alloc (.cells #[.int .i64 page,.int .u8 op,.string ⟨ro.toArray⟩,.slice (some ⟨b,0,none⟩) (m+1) vc,.string ⟨#[100]⟩,.bool ral] 77)) w1.heap.size 77 #[.int .i64 page,.int .u8 op,.string ⟨ro.toArray⟩,.slice (some ⟨b,0,none⟩) (m+1) vc,.string ⟨#[100]⟩,.bool ral]:=by
  have h:=Blk.new (((w1.setCell ⟨b,m * 3,none⟩ (.int .i64 5)).setCell ⟨b,m * 3+1,none⟩ (.int .i64 page)).setCell ⟨b,m * 3+2,none⟩ (.int .i64 0)) 77 #[.int .i64 page,.int .u8 op,.string ⟨ro.toArray⟩,.slice (some ⟨b,0,none⟩) (m+1) vc,.string ⟨#[100]⟩,.bool ral]
  rw [World.size_setCell,World.size_setCell,World.size_setCell] at h
  exact h
 have HE3:=Lib.hid hE3
 have HR3:=Lib.hid (HR2.out.alloc (.cells #[.int .i64 page,.int .u8 op,.string ⟨ro.toArray⟩,.slice (some ⟨b,0,none⟩) (m+1) vc,.string ⟨#[100]⟩,.bool ral] 77))
 have HB3:=Lib.hid (HB2.out.alloc (by rw [World.size_setCell,World.size_setCell,World.size_setCell];omega) (.cells #[.int .i64 page,.int .u8 op,.string ⟨ro.toArray⟩,.slice (some ⟨b,0,none⟩) (m+1) vc,.string ⟨#[100]⟩,.bool ral] 77))
 have HZ3:Hid (w.heap.size+1≤((((w1.setCell ⟨b,m * 3,none⟩ (.int .i64 5)).setCell ⟨b,m * 3+1,none⟩ (.int .i64 page)).setCell ⟨b,m * 3+2,none⟩ (.int .i64 0)).alloc (.cells #[.int .i64 page,.int .u8 op,.string ⟨ro.toArray⟩,.slice (some ⟨b,0,none⟩) (m+1) vc,.string ⟨#[100]⟩,.bool ral] 77)).heap.size):=by
  show _≤_
  rw [World.size_alloc,World.size_setCell,World.size_setCell,World.size_setCell];omega
 have HLA:Hid (((os.set m ⟨5,page,0⟩).length+1) * 24≤140737488355328):=by show _≤_;rw [HL2.out];omega
 have HLB:Hid ((os.set m ⟨5,page,0⟩).length+1≤9223372036854775807):=by show _≤_;rw [HL2.out];omega
 clear hE3 r0 r1 r2 r3 r4 r5 y0 y1 y2 y3 y4 y5
 go_wp2_with (at_builtin;refine wpList_push rfl (.tmp 37) (.tmp 40) 25 rfl (w.heap.size+1) 93 24 elOpd _ (os.set m ⟨5,page,0⟩) ⟨1,(sl:Int),0⟩ _ rfl (by show Value.slice (some ⟨w1.heap.size+1,0,none⟩) 1 1=_;rw [World.size_alloc,World.size_setCell,World.size_setCell,World.size_setCell]) HO3.out rfl HLA.out HLB.out HZ3.out ?_;intro a' c' w' hp;rw [List.length_set] at hp ⊢;have HP:=Lib.hid hp;have hE4:=HE3.out.grown hp.2 (fun e=>n1 (by injection e with e;exact e.symm));have hR4:=HR3.out.grown hp.2 (fun e=>n2 (by injection e with e;exact e.symm));have HE4:=Lib.hid hE4;have HR4:=Lib.hid hR4;have e0:=hE4.cell 0;have e1:=hE4.cell 1;have e2:=hE4.cell 2;have e3:=hE4.cell 3;have e4:=hE4.cell 4;have e5:=hE4.cell 5;have z3:=hE4.free 3;have r0:=hR4.cell 0;have r1:=hR4.cell 1;have r2:=hR4.cell 2;have r3:=hR4.cell 3;have r4:=hR4.cell 4;have r5:=hR4.cell 5;have y0:=hR4.free 0;have y1:=hR4.free 1;have y2:=hR4.free 2;have y3:=hR4.free 3;have y4:=hR4.free 4;have y5:=hR4.free 5;clear hp hE4 hR4)
 all_goals
  refine bodyPost_ret (results_row1 rfl _ _ w.heap.size 77 #[.int .i64 page,.int .u8 op,.string ⟨ro.toArray⟩,.slice a' (os.length+1) c',.string ⟨#[100]⟩,.bool ral] (0,0) _ rfl (entry6 (HR4.out.far (p:=⟨w1.heap.size,3,none⟩) (by show _≠w1.heap.size;omega) _) _ _ _ _ _ _) Tryz.underlying77 rfl (by kernel_rfl)) rfl ⟨_,rfl,(HP.out.1.keep (fun j hj=>?_)).base (by omega),?_⟩
  ·have hj2:j≠w1.heap.size∧w.heap.size+1≤j:=by
    rcases hj with hj | hj
    ·exact hj.elim
    ·exact ⟨HP.out.1.ne_blk HE4.out (by decide) j hj,(HP.out.1.lt j hj).1⟩
   exact (set6_far _ _ _ _ _ _ _ _ j (by omega)).trans (Below.heap_setCell _ _ _ _ hj2.1)
  ·exact set6_below ((HB3.out.grown HP.out.2 (by have:=HZ3.out;omega) (fun k e=>by have e:b=k:=Option.some.inj e;have:=HBB.out;omega)).setCell (p:=⟨w1.heap.size,3,none⟩) (by show _≤w1.heap.size;omega) _) (Nat.le_refl _) _ _ _ _ _ _
end Go.Proofs.YtnbmbcjnncbaiaaGreatDoor
namespace Go.Proofs.YtnbmbcjnncbaiaaGreatDoor
set_option maxHeartbeats 16000000
set_option maxRecDepth 100000
open Go.RowKit Go.Shelf Go.Sort
def chkF (L:List (List UInt8)) (op:Nat):Bool:=
 match lookF op L with
 | none=>true
 | some t=>match ruleF t with
  | none=>false
  | some r=>match argsF r.bits op r.args with
   | none=>false
   | some (os,ex)=>decide (t.length≤1000)&&(t.all (fun b=>decide (b.toNat < 128))&&(decide (r.bits.length≤8)&&(r.args.all (fun a=>decide (a.length≤1000))&&(decide (r.args.length≤8)&&(decide (os.length≤100)&&(((upper ⟨r.op.toArray⟩).data.toList==r.op)&&(decide (r.op.length≤1000)&&decide (ex.length≤1000))))))))
structure Fnd (L:List (List UInt8)) (op:Nat) (t:List UInt8) (r:RuleV) (os:List Opd) (ex:List UInt8):Prop where
 hl:lookF op L=some t
 hr:ruleF t=some r
 ha:argsF r.bits op r.args=some (os,ex)
 ok:okT t r
 hn:os.length≤100
 hup:upper ⟨r.op.toArray⟩=⟨r.op.toArray⟩
 his:r.op.length≤1000
 hex:ex.length≤1000
theorem chk_spec {L:List (List UInt8)} {op:Nat} (h:chkF L op=true):lookF op L=none∨∃t r os ex,Fnd L op t r os ex:=by
 unfold chkF at h
 split at h
 ·rename_i hl
  exact .inl hl
 ·rename_i t hl
  split at h
  ·cases h
  ·rename_i r hr
   split at h
   ·cases h
   ·rename_i os ex ha
    simp only [Bool.and_eq_true,decide_eq_true_eq,List.all_eq_true,beq_iff_eq] at h
    obtain ⟨h1,h2,h3,h4,h5,h6,h7,h8,h9⟩:=h
    exact .inr ⟨t,r,os,ex,hl,hr,ha,⟨h1,h2,h3,h4,h5⟩,h6,by apply ByteArray.ext;apply Array.ext';rw [h7],h8,h9⟩
theorem chk_main:∀x:Fin 256,chkF mainL x.val=true:=by decide+kernel
theorem chk_cb:∀x:Fin 256,chkF (splitC cbB.data.toList) x.val=true:=by decide+kernel
theorem chk_ed:∀x:Fin 256,chkF (splitC edB.data.toList) x.val=true:=by decide+kernel
def AtP (w:World) (x:Option EntV) (k:Int) (e:Ending) (w':World):Prop:=
 (match x with | some x=>∃v,e=.returned (.tuple #[entVal x v,.int .i64 k])∧OpdOwn w' (fun b=>w.heap.size≤b) v x.args | none=>e=.returned (.tuple #[ent0,.int .i64 k]))∧Below w.heap.size w w'
def ixF (page:Int) (x:EntV):Option EntV:=
 if 0≤posO ⟨4,2,0⟩ 0 x.args∧x.iop≠[74,80] then some ⟨page,x.op,x.iop,x.args.set (posO ⟨4,2,0⟩ 0 x.args).toNat ⟨5,page+2,0⟩,100::x.ex,x.al⟩
 else if x.op=235∨xany (page+2) x.args=false then none else some ⟨page,x.op,x.iop,xmap (page+2) x.args,x.ex,x.al⟩
def atF (page:Int) (op:Nat):Option EntV × Int:=
 if page=0 then (match findF 0 mainL op with | some x=>(some x,1) | none=>(none,2))
 else if page=1 then (match findF 1 (splitC cbB.data.toList) op with | some x=>(some x,1) | none=>(none,0))
 else if page=2 then (match findF 2 (splitC edB.data.toList) op with | some x=>(some x,1) | none=>(none,3))
 else if page=3∨page=4 then (if op=203 then (none,2) else match (findF page mainL op).bind (ixF page) with | some x=>(some x,1) | none=>(none,0))
 else if page=5∨page=6 then (match findF page (splitC cbB.data.toList) (op / 8 * 8+6) with | some x=>(some (bothF page op ⟨[],x.iop,[],x.al⟩ x.args),1) | none=>(none,0))
 else (none,0)
theorem Fnd.find {L:List (List UInt8)} {op:Nat} {t:List UInt8} {r:RuleV} {os:List Opd} {ex:List UInt8} (h:Fnd L op t r os ex) (pg:Int):findF pg L op=some ⟨pg,op,r.op,os,ex,r.alias⟩:=by
 unfold findF;rw [h.hl,Option.bind_some,h.hr,Option.bind_some,h.ha];rfl
theorem findF_none {L:List (List UInt8)} {op:Nat} (h:lookF op L=none) (pg:Int):findF pg L op=none:=by unfold findF;rw [h];rfl
theorem chk_both:∀x:Fin 256,(match findF 5 (splitC cbB.data.toList) (x.val / 8 * 8+6) with | some y=>decide (0 < y.args.length) | none=>false)=true:=by decide+kernel
theorem both_found {op:Nat} (hop:op < 256):∃t r os ex,Fnd (splitC cbB.data.toList) (op / 8 * 8+6) t r os ex∧0 < os.length:=by
 have h5:=chk_both ⟨op,hop⟩
 dsimp only at h5
 rcases chk_spec (chk_cb ⟨op / 8 * 8+6,by omega⟩) with h | ⟨t,r,os,ex,h⟩
 ·rw [findF_none h] at h5
  cases h5
 ·rw [h.find] at h5
  exact ⟨t,r,os,ex,h,of_decide_eq_true h5⟩
theorem posO_neg {x:Opd}:∀{l:List Opd} {j:Nat},posO x j l=-1∨(j:Int)≤posO x j l
 | [],_=>.inl rfl
 | y::r,j=>by
  rw [posO]
  split
  ·exact .inr (Int.le_refl _)
  ·rcases posO_neg (x:=x) (l:=r) (j:=j+1) with h | h
   ·exact .inl h
   ·exact .inr (by omega)
def FindP (W:World) (o:Option EntV) (e:Ending) (w':World):Prop:=
 ∃(p q:Int) (i s:ByteArray) (a:Option Addr) (n c:Nat) (f:Bool),e=.returned (.tuple #[.agg #[.int .i64 p,.int .u8 q,.string i,.slice a n c,.string s,.bool f],.bool o.isSome])∧
  (∀x,o=some x→p=x.pg∧q=x.op∧i=⟨x.iop.toArray⟩∧s=⟨x.ex.toArray⟩∧f=x.al∧n=x.args.length∧OpdOwn w' (fun b=>W.heap.size≤b) (.slice a n c) x.args)∧Below W.heap.size W w'
theorem findP_none {W:World} {e:Ending} {w':World} (h:e=.returned (.tuple #[ent0,.bool false])∧Below W.heap.size W w'):FindP W none e w':=
 ⟨0,0,⟨#[]⟩,⟨#[]⟩,none,0,0,false,h.1,fun _ h=>(by cases h),h.2⟩
theorem findP_some {W:World} {x:EntV} {v:Value} {e:Ending} {w':World} (h:e=.returned (.tuple #[entVal x v,.bool true])∧OpdOwn w' (fun b=>W.heap.size≤b) v x.args∧Below W.heap.size W w'):FindP W (some x) e w':=by
 obtain ⟨h1,h2,h3⟩:=h
 obtain ⟨a,c,rfl⟩:=h2.form
 exact ⟨_,_,_,_,a,x.args.length,c,_,h1,fun y hy=>(by cases hy;exact ⟨rfl,rfl,rfl,rfl,rfl,rfl,h2⟩),h3⟩
theorem find_any (pg:Int) (B:ByteArray) (hs:B.size≤1000000) (op:Nat) (hop:op < 256) (hc:chkF (splitC B.data.toList) op=true) (W:World) (hT:Spc W):Calls Tryz.prog 147 #[.int .i64 pg,.string B,.int .u8 op] W (FindP W (findF pg (splitC B.data.toList) op)):=by
 rcases chk_spec hc with h | ⟨t,r,os,ex,h⟩
 ·rw [findF_none h]
  exact (tfind_none pg B op W hop hs h).mono fun e w' h=>findP_none h
 ·rw [h.find]
  exact (find_some pg B op t r os ex W hop hs h.hl h.hr h.ha h.ok hT).mono fun e w' ⟨v,h1,h2,h3⟩=>findP_some ⟨h1,h2.opdOwn (fun j hj=>(h2.lt j hj).1),h3⟩
structure OkIx (x:EntV):Prop where
 op:x.op < 256
 hn:x.args.length≤100
 hup:upper ⟨x.iop.toArray⟩=⟨x.iop.toArray⟩
 his:x.iop.length≤1000
 hex:x.ex.length≤1000
theorem findF_ok {pg:Int} {op:Nat} (hop:op < 256) {x:EntV} (h:findF pg mainL op=some x):OkIx x:=by
 rcases chk_spec (chk_main ⟨op,hop⟩) with h2 | ⟨t,r,os,ex,h2⟩
 ·rw [findF_none h2] at h;cases h
 ·rw [h2.find] at h;cases h
  exact ⟨hop,h2.hn,h2.hup,h2.his,h2.hex⟩
theorem indexed_any (page:Int) (hpg:page=3∨page=4) (x:EntV) (hx:OkIx x) (p:Blocks) (v:Value) (W:World) (h:SlR opdR W p v x.args):Calls Tryz.prog 148 #[entVal x v,.int .i64 page] W (FindP W (ixF page x)):=by
 have hn:x.args.length≤1000:=Nat.le_trans hx.hn (by decide)
 by_cases hm:0≤posO ⟨4,2,0⟩ 0 x.args∧x.iop≠[74,80]
 ·have e:ixF page x=some ⟨page,x.op,x.iop,x.args.set (posO ⟨4,2,0⟩ 0 x.args).toNat ⟨5,page+2,0⟩,100::x.ex,x.al⟩:=if_pos hm
  rw [e]
  exact (indexed_mem x p v page (posO ⟨4,2,0⟩ 0 x.args).toNat W h hpg (by omega) hn hm.2 hx.hup hx.his hx.hex).mono fun e w' ⟨v',h1,h2,h3⟩=>findP_some ⟨h1,h2,h3⟩
 have hm':posO ⟨4,2,0⟩ 0 x.args=-1∨(0≤posO ⟨4,2,0⟩ 0 x.args∧x.iop=[74,80]):=by
  rcases posO_neg (x:=⟨4,2,0⟩) (l:=x.args) (j:=0) with hp | hp
  ·exact .inl hp
  ·exact .inr ⟨hp,Decidable.byContradiction fun hj=>hm ⟨hp,hj⟩⟩
 have e:ixF page x=if x.op=235∨xany (page+2) x.args=false then none else some ⟨page,x.op,x.iop,xmap (page+2) x.args,x.ex,x.al⟩:=if_neg hm
 rw [e]
 refine (indexed_loop page hpg x p v W h hm' hx.op hn hx.hup hx.his hx.hex).mono fun e w' ⟨v',h1,h2,h3⟩=>?_
 by_cases h235:x.op=235
 ·rw [if_pos (.inl h235)]
  rw [if_pos h235] at h1
  exact findP_none ⟨h1,h3⟩
 rw [if_neg h235] at h1
 cases hxa:xany (page+2) x.args
 ·rw [if_pos (.inr rfl)]
  rw [hxa] at h1
  obtain ⟨a,c,rfl⟩:=h2.form
  exact ⟨_,_,_,_,a,_,c,_,h1,fun _ h=>(by cases h),h3⟩
 ·rw [if_neg (fun e=>e.elim h235 (fun e=>by cases e))]
  rw [hxa] at h1
  exact findP_some ⟨h1,h2,h3⟩
theorem bothP (page:Int) (hpg:page=5∨page=6) (op:Nat) (hop:op < 256) (W:World) (hT:Spc W):∃x,(atF page op)=(some x,1)∧Calls Tryz.prog 149 #[.int .i64 page,.int .u8 op] W fun e w'=>∃v',e=.returned (entVal x v')∧OpdOwn w' (fun b=>W.heap.size≤b) v' x.args∧Below W.heap.size W w':=by
 obtain ⟨t,r,os,ex,h,hos⟩:=both_found hop
 refine ⟨bothF page op r os,?_,(both_any page hpg op t r os ex W hop h.hl h.hr h.ha h.ok hos h.hn hT).mono fun e w' ⟨v,h1,h2,h3⟩=>⟨v,h1,h2.opdOwn (fun j hj=>(h2.lt j hj).1),h3⟩⟩
 unfold atF
 rw [if_neg (by omega),if_neg (by omega),if_neg (by omega),if_neg (by omega),if_pos hpg,h.find]
 rfl
theorem Fr.put6 {w0 W:World} {L:List (Nat × TypeId × Array Value)} {b:Nat} {z0 z1 z2 z3 z4 z5:Value} (h:Fr w0 ((b,77,#[z0,z1,z2,z3,z4,z5])::L) W) (hb:w0.heap.size≤b) (hn:∀x∈L,x.1≠b) (a0 a1 a2 a3 a4 a5:Value):Fr w0 ((b,77,#[a0,a1,a2,a3,a4,a5])::L) (set6 W b a0 a1 a2 a3 a4 a5):=
 ⟨set6_below h.below hb _ _ _ _ _ _,fun y hy=>by
  rcases List.mem_cons.1 hy with rfl | hy
  ·exact entry6 (h.blk 0 rfl) _ _ _ _ _ _
  ·exact (set6_far _ _ _ _ _ _ _ _ _ (hn y hy)).trans (h.at' y (List.mem_cons_of_mem _ hy))⟩
def AtM (w:World) (r:Option EntV × Int) (s7 s8:Value) (wx:World):Prop:=∃(o:Option EntV) (k p q:Int) (i s:ByteArray) (a:Option Addr) (n c:Nat) (f:Bool),s7=.bool o.isSome∧s8=.int .i64 k∧
 Fr w [(w.heap.size+1,77,#[.int .i64 p,.int .u8 q,.string i,.slice a n c,.string s,.bool f]),(w.heap.size,77,#[.int .i64 0,.int .u8 0,.string ⟨#[]⟩,.slice none 0 0,.string ⟨#[]⟩,.bool false])] wx∧(∀x,o=some x→p=x.pg∧q=x.op∧i=⟨x.iop.toArray⟩∧s=⟨x.ex.toArray⟩∧f=x.al∧n=x.args.length∧OpdOwn wx (fun b=>w.heap.size+2≤b) (.slice a n c) x.args)∧r=(match o with | some x=>(some x,1) | none=>(none,k))
theorem At_any (page:Int) (op:Nat) (hop:op < 256) (w:World) (hT:Spc w):Calls Tryz.prog 109 #[.int .i64 page,.int .u8 op] w (AtP w (atF page op).1 (atF page op).2):=by
 have H0:=Lib.hid (((Fr.start w).new 77 #[.int .i64 0,.int .u8 0,.string ⟨#[]⟩,.slice none 0 0,.string ⟨#[]⟩,.bool false]).new' 77 #[.int .i64 0,.int .u8 0,.string ⟨#[]⟩,.slice none 0 0,.string ⟨#[]⟩,.bool false] (b:=w.heap.size+1) (by rw [World.size_alloc]))
 have HS0:Hid ((((w.alloc (.cells #[.int .i64 0,.int .u8 0,.string ⟨#[]⟩,.slice none 0 0,.string ⟨#[]⟩,.bool false] 77)).alloc (.cells #[.int .i64 0,.int .u8 0,.string ⟨#[]⟩,.slice none 0 0,.string ⟨#[]⟩,.bool false] 77))).heap.size=w.heap.size+2):=by show _=_;rw [World.size_alloc,World.size_alloc]
 have HT:=Lib.hid hT
 clear hT
 go_enter Tryz.func109,Tryz.ntmps109
 go_upto_region 2 with fail
 iterate 7 (first | go_values | go_skip | go_guarded | go_step | go_upon | go_back)
 go_cut [7,8] (fun s7 s8 wx=>AtM w (atF page op) s7 s8 wx)
 case first=>
  by_cases hlow:page=0∨page=1∨page=2
  ·obtain ⟨B,k,hs,hc,hat,hsel⟩:∃(B:ByteArray) (k:Int),B.size≤1000000∧chkF (splitC B.data.toList) op=true∧atF page op=(match findF page (splitC B.data.toList) op with | some x=>(some x,1) | none=>(none,k))∧(page=0∧B=mainB∧k=2∨page=1∧B=cbB∧k=0∨page=2∧B=edB∧k=3):=by
    rcases hlow with rfl | rfl | rfl
    ·exact ⟨mainB,2,by decide+kernel,chk_main ⟨op,hop⟩,by unfold atF;rw [if_pos rfl];rfl,.inl ⟨rfl,rfl,rfl⟩⟩
    ·exact ⟨cbB,0,by decide+kernel,chk_cb ⟨op,hop⟩,by unfold atF;rw [if_neg (by decide),if_pos rfl],.inr (.inl ⟨rfl,rfl,rfl⟩)⟩
    ·exact ⟨edB,3,by decide+kernel,chk_ed ⟨op,hop⟩,by unfold atF;rw [if_neg (by decide),if_neg (by decide),if_pos rfl],.inr (.inr ⟨rfl,rfl,rfl⟩)⟩
   have HFI:=Lib.hid (fun W hT=>find_any page B hs op hop hc W hT)
   have HAT:=Lib.hid hat
   clear hs hc hat hlow
   generalize findF page (splitC B.data.toList) op=o at *
   rcases hsel with ⟨rfl,rfl,rfl⟩ | ⟨rfl,rfl,rfl⟩ | ⟨rfl,rfl,rfl⟩
   all_goals
    go_wp2_with (go_at_call 147;refine (HFI.out _ (HT.out.below H0.out.below)).mono ?_;rintro e w2 ⟨p,q,i,s,a,n,c,f,rfl,hx,hb⟩;have HX:=Lib.hid hx;have H2:=Lib.hid (H0.out.next hb);clear hx hb;have e0:=(H2.out.blk 0 rfl).cell 0;have e1:=(H2.out.blk 0 rfl).cell 1;have e2:=(H2.out.blk 0 rfl).cell 2;have e3:=(H2.out.blk 0 rfl).cell 3;have e4:=(H2.out.blk 0 rfl).cell 4;have e5:=(H2.out.blk 0 rfl).cell 5;have z0:=(H2.out.blk 0 rfl).free 0;have z1:=(H2.out.blk 0 rfl).free 1;have z2:=(H2.out.blk 0 rfl).free 2;have z3:=(H2.out.blk 0 rfl).free 3;have z4:=(H2.out.blk 0 rfl).free 4;have z5:=(H2.out.blk 0 rfl).free 5)
    go_meet
    case rel=>
     refine ⟨o,_,p,q,i,s,a,n,c,f,rfl,rfl,H2.out.put6 (Nat.le_succ _) (by simp) _ _ _ _ _ _,fun x hx=>?_,HAT.out⟩
     obtain ⟨g1,g2,g3,g4,g5,g6,g7⟩:=HX.out x hx
     exact ⟨g1,g2,g3,g4,g5,g6,(g7.mono (fun b hb=>by rw [HS0.out] at hb;exact hb)).keep (fun j hj=>set6_far _ _ _ _ _ _ _ _ j (by have hj:w.heap.size+2≤j:=hj;omega))⟩
  by_cases h34:page=3∨page=4
  ·by_cases hcb:op=203
   ·subst hcb
    have HAT:Hid (atF page 203=(none,2)):=by
     show _=_
     unfold atF;rw [if_neg (by omega),if_neg (by omega),if_neg (by omega),if_pos h34,if_pos rfl]
    clear hlow
    rcases h34 with rfl | rfl
    all_goals
     go_wp2
     exact bodyPost_ret (results_row_tmp rfl _ _ w.heap.size 77 #[.int .i64 0,.int .u8 0,.string ⟨#[]⟩,.slice none 0 0,.string ⟨#[]⟩,.bool false] (0,0) _ rfl (H0.out.blk 1 rfl) Tryz.underlying77 rfl (by kernel_rfl)) rfl (by rw [HAT.out];exact ⟨rfl,H0.out.below⟩)
   have HAT:Hid (atF page op=(match (findF page mainL op).bind (ixF page) with | some x=>(some x,1) | none=>(none,0))):=by
    show _=_
    unfold atF;rw [if_neg (by omega),if_neg (by omega),if_neg (by omega),if_pos h34,if_neg hcb]
   have hne:((op:Int)==203)=false:=by rw [beq_eq_false_iff_ne];omega
   have HFI:Hid (∀W,Spc W→Calls Tryz.prog 147 #[.int .i64 page,.string mainB,.int .u8 op] W (FindP W (findF page mainL op))):=fun W hT=>find_any page mainB mainB_size op hop (chk_main ⟨op,hop⟩) W hT
   have HOK:=Lib.hid (fun x=>findF_ok (pg:=page) hop (x:=x))
   have HIX:=Lib.hid (fun x hx p v W h=>indexed_any page h34 x hx p v W h)
   clear hlow hcb
   generalize findF page mainL op=o at *
   rcases o with _ | x
   ·clear HOK HIX
    rcases h34 with rfl | rfl
    all_goals
     go_wp2_with (go_at_call 147;refine (HFI.out _ (HT.out.below H0.out.below)).mono ?_;rintro e w2 ⟨p,q,i,s,a,n,c,f,rfl,hx,hb⟩;have HX:=Lib.hid hx;have H2:=Lib.hid (H0.out.next hb);clear hx hb;have e0:=(H2.out.blk 0 rfl).cell 0;have e1:=(H2.out.blk 0 rfl).cell 1;have e2:=(H2.out.blk 0 rfl).cell 2;have e3:=(H2.out.blk 0 rfl).cell 3;have e4:=(H2.out.blk 0 rfl).cell 4;have e5:=(H2.out.blk 0 rfl).cell 5;have z0:=(H2.out.blk 0 rfl).free 0;have z1:=(H2.out.blk 0 rfl).free 1;have z2:=(H2.out.blk 0 rfl).free 2;have z3:=(H2.out.blk 0 rfl).free 3;have z4:=(H2.out.blk 0 rfl).free 4;have z5:=(H2.out.blk 0 rfl).free 5)
     go_meet
     case rel=>exact ⟨none,_,p,q,i,s,a,n,c,f,rfl,rfl,H2.out.put6 (Nat.le_succ _) (by simp) _ _ _ _ _ _,fun x hx=>(by cases hx),HAT.out⟩
   ·have HOX:=Lib.hid (HOK.out x rfl)
    have HIY:=Lib.hid (HIX.out x HOX.out)
    clear HOK HIX HOX
    unfold entVal at HIY
    rw [Option.bind_some] at HAT
    generalize ixF page x=o at *
    obtain ⟨xp,xo,xi,xl,xs,xf⟩:=x
    dsimp only at *
    rcases h34 with rfl | rfl
    all_goals
     go_upto_region 17 with (go_at_call 147;refine (HFI.out _ (HT.out.below H0.out.below)).mono ?_;rintro e w2 ⟨p,q,i,s,a,n,c,f,rfl,hx,hb⟩;have HX:=Lib.hid hx;have H2:=Lib.hid (H0.out.next hb);clear hx hb;have e0:=(H2.out.blk 0 rfl).cell 0;have e1:=(H2.out.blk 0 rfl).cell 1;have e2:=(H2.out.blk 0 rfl).cell 2;have e3:=(H2.out.blk 0 rfl).cell 3;have e4:=(H2.out.blk 0 rfl).cell 4;have e5:=(H2.out.blk 0 rfl).cell 5;have z0:=(H2.out.blk 0 rfl).free 0;have z1:=(H2.out.blk 0 rfl).free 1;have z2:=(H2.out.blk 0 rfl).free 2;have z3:=(H2.out.blk 0 rfl).free 3;have z4:=(H2.out.blk 0 rfl).free 4;have z5:=(H2.out.blk 0 rfl).free 5;obtain ⟨g1,g2,g3,g4,g5,g6,h7⟩:=HX.out _ rfl;clear HX;subst p q i s f n;have H3:=Lib.hid (H2.out.put6 (Nat.le_succ _) (by simp) (.int .i64 xp) (.int .u8 xo) (.string ⟨xi.toArray⟩) (.slice a xl.length c) (.string ⟨xs.toArray⟩) (.bool xf));have HO3:=Lib.hid ((h7.mono (r:=fun b=>w.heap.size+2≤b) (fun b hb=>by rw [HS0.out] at hb;exact hb)).keep (fun j hj=>set6_far w2 (w.heap.size+1) (.int .i64 xp) (.int .u8 xo) (.string ⟨xi.toArray⟩) (.slice a xl.length c) (.string ⟨xs.toArray⟩) (.bool xf) j (by have hj:w.heap.size+2≤j:=hj;omega)));clear h7)
     have hsw:w.heap.size+2≤w2.heap.size:=(H2.out.blk 0 rfl).lt
     have HS6:Hid ((set6 w2 (w.heap.size+1) (.int .i64 xp) (.int .u8 xo) (.string ⟨xi.toArray⟩) (.slice a xl.length c) (.string ⟨xs.toArray⟩) (.bool xf)).heap.size=w2.heap.size):=set6_size _ _ _ _ _ _ _ _
     clear H2
     go_wp2_with (go_at_call 148;refine (HIY.out _ _ _ HO3.out.slR).mono ?_;rintro e w3 ⟨p,q,i,s,a1,n,c1,f,rfl,hx,hb⟩;have HX:=Lib.hid hx;have H4:=Lib.hid (H3.out.next hb);clear hx hb e0 e1 e2 e3 e4 e5 z0 z1 z2 z3 z4 z5;have e0:=(H4.out.blk 0 rfl).cell 0;have e1:=(H4.out.blk 0 rfl).cell 1;have e2:=(H4.out.blk 0 rfl).cell 2;have e3:=(H4.out.blk 0 rfl).cell 3;have e4:=(H4.out.blk 0 rfl).cell 4;have e5:=(H4.out.blk 0 rfl).cell 5;have z0:=(H4.out.blk 0 rfl).free 0;have z1:=(H4.out.blk 0 rfl).free 1;have z2:=(H4.out.blk 0 rfl).free 2;have z3:=(H4.out.blk 0 rfl).free 3;have z4:=(H4.out.blk 0 rfl).free 4;have z5:=(H4.out.blk 0 rfl).free 5)
     go_meet
     case rel=>
      refine ⟨o,_,p,q,i,s,a1,n,c1,f,rfl,rfl,H4.out.put6 (Nat.le_succ _) (by simp) _ _ _ _ _ _,fun x hx=>?_,HAT.out⟩
      obtain ⟨g1,g2,g3,g4,g5,g6,g7⟩:=HX.out x hx
      exact ⟨g1,g2,g3,g4,g5,g6,(g7.mono (r:=fun b=>w.heap.size+2≤b) (fun b hb=>by have hb:(set6 w2 (w.heap.size+1) (.int .i64 xp) (.int .u8 xo) (.string ⟨xi.toArray⟩) (.slice a xl.length c) (.string ⟨xs.toArray⟩) (.bool xf)).heap.size≤b:=hb;rw [HS6.out] at hb;omega)).keep (fun j hj=>set6_far _ _ _ _ _ _ _ _ j (by have hj:w.heap.size+2≤j:=hj;omega))⟩
  by_cases h56:page=5∨page=6
  ·obtain ⟨x,hat,hbo⟩:=bothP page h56 op hop _ (HT.out.below H0.out.below)
   have HAT:=Lib.hid hat
   have HBO:=Lib.hid hbo
   clear hat hbo hlow h34
   unfold entVal at HBO
   obtain ⟨xp,xo,xi,xl,xs,xf⟩:=x
   dsimp only at *
   rcases h56 with rfl | rfl
   all_goals
    go_wp2_with (go_at_call 149;refine HBO.out.mono ?_;rintro e w2 ⟨v,rfl,ho,hb⟩;obtain ⟨va,vc,rfl⟩:=ho.form;have H2:=Lib.hid (H0.out.next hb);have HO:=Lib.hid (ho.mono (r:=fun b=>w.heap.size+2≤b) (fun b hb=>by rw [HS0.out] at hb;exact hb));clear ho hb;have r0:=(H2.out.blk 1 rfl).cell 0;have r1:=(H2.out.blk 1 rfl).cell 1;have r2:=(H2.out.blk 1 rfl).cell 2;have r3:=(H2.out.blk 1 rfl).cell 3;have r4:=(H2.out.blk 1 rfl).cell 4;have r5:=(H2.out.blk 1 rfl).cell 5;have y0:=(H2.out.blk 1 rfl).free 0;have y1:=(H2.out.blk 1 rfl).free 1;have y2:=(H2.out.blk 1 rfl).free 2;have y3:=(H2.out.blk 1 rfl).free 3;have y4:=(H2.out.blk 1 rfl).free 4;have y5:=(H2.out.blk 1 rfl).free 5)
    exact bodyPost_ret (results_row_tmp rfl _ _ w.heap.size 77 #[.int .i64 xp,.int .u8 xo,.string ⟨xi.toArray⟩,.slice va xl.length vc,.string ⟨xs.toArray⟩,.bool xf] (0,0) _ rfl (entry6 (H2.out.blk 1 rfl) _ _ _ _ _ _) Tryz.underlying77 rfl (by kernel_rfl)) rfl (by rw [HAT.out];exact ⟨⟨_,rfl,(HO.out.keep (fun j hj=>set6_far _ _ _ _ _ _ _ _ j (by have hj:w.heap.size+2≤j:=hj;omega))).mono (fun j hj=>by have hj:w.heap.size+2≤j:=hj;omega)⟩,set6_below H2.out.below (Nat.le_refl _) _ _ _ _ _ _⟩)
  have HAT:Hid (atF page op=(none,0)):=by
   show _=_
   unfold atF;rw [if_neg (by omega),if_neg (by omega),if_neg (by omega),if_neg h34,if_neg h56]
  have b0:(page==0)=false:=by rw [beq_eq_false_iff_ne];omega
  have b1:(page==1)=false:=by rw [beq_eq_false_iff_ne];omega
  have b2:(page==2)=false:=by rw [beq_eq_false_iff_ne];omega
  have b3:(page==3)=false:=by rw [beq_eq_false_iff_ne];omega
  have b4:(page==4)=false:=by rw [beq_eq_false_iff_ne];omega
  have b5:(page==5)=false:=by rw [beq_eq_false_iff_ne];omega
  have b6:(page==6)=false:=by rw [beq_eq_false_iff_ne];omega
  clear hlow h34 h56
  go_wp2
  go_meet
  case rel=>exact ⟨none,0,_,_,_,_,_,_,_,_,rfl,rfl,H0.out,fun x hx=>(by cases hx),HAT.out⟩
 case rest=>
  obtain ⟨o,k,p,q,i,s,a,n,c,f,rfl,rfl,hf,hx,hat⟩:=hcut
  have H2:=Lib.hid hf
  have HX:=Lib.hid hx
  have HAT:=Lib.hid hat
  clear hf hx hat H0
  have r0:=(H2.out.blk 1 rfl).cell 0;have r1:=(H2.out.blk 1 rfl).cell 1;have r2:=(H2.out.blk 1 rfl).cell 2;have r3:=(H2.out.blk 1 rfl).cell 3;have r4:=(H2.out.blk 1 rfl).cell 4;have r5:=(H2.out.blk 1 rfl).cell 5;have y0:=(H2.out.blk 1 rfl).free 0;have y1:=(H2.out.blk 1 rfl).free 1;have y2:=(H2.out.blk 1 rfl).free 2;have y3:=(H2.out.blk 1 rfl).free 3;have y4:=(H2.out.blk 1 rfl).free 4;have y5:=(H2.out.blk 1 rfl).free 5
  cases o with
  | none=>
   go_wp2
   exact bodyPost_ret (results_row_tmp rfl _ _ w.heap.size 77 #[.int .i64 0,.int .u8 0,.string ⟨#[]⟩,.slice none 0 0,.string ⟨#[]⟩,.bool false] (0,0) _ rfl (entry6 (H2.out.blk 1 rfl) _ _ _ _ _ _) Tryz.underlying77 rfl (by kernel_rfl)) rfl (by rw [HAT.out];exact ⟨rfl,set6_below H2.out.below (Nat.le_refl _) _ _ _ _ _ _⟩)
  | some x=>
   obtain ⟨rfl,rfl,rfl,rfl,rfl,rfl,h7⟩:=HX.out x rfl
   have HO:=Lib.hid h7
   clear h7 HX
   have e0:=(H2.out.blk 0 rfl).cell 0;have e1:=(H2.out.blk 0 rfl).cell 1;have e2:=(H2.out.blk 0 rfl).cell 2;have e3:=(H2.out.blk 0 rfl).cell 3;have e4:=(H2.out.blk 0 rfl).cell 4;have e5:=(H2.out.blk 0 rfl).cell 5
   go_wp2
   exact bodyPost_ret (results_row_tmp rfl _ _ w.heap.size 77 #[.int .i64 x.pg,.int .u8 x.op,.string ⟨x.iop.toArray⟩,.slice a x.args.length c,.string ⟨x.ex.toArray⟩,.bool x.al] (0,0) _ rfl (entry6 (H2.out.blk 1 rfl) _ _ _ _ _ _) Tryz.underlying77 rfl (by kernel_rfl)) rfl (by rw [HAT.out];exact ⟨⟨_,rfl,(HO.out.keep (fun j hj=>set6_far _ _ _ _ _ _ _ _ j (by have hj:w.heap.size+2≤j:=hj;omega))).mono (fun j hj=>by have hj:w.heap.size+2≤j:=hj;omega)⟩,set6_below H2.out.below (Nat.le_refl _) _ _ _ _ _ _⟩)
end Go.Proofs.YtnbmbcjnncbaiaaGreatDoor
namespace Go.Proofs.YtnbmbcjnncbaiaaGreatDoor
set_option maxHeartbeats 16000000
set_option maxRecDepth 100000
open Go.RowKit Go.Shelf Go.Sort
end Go.Proofs.YtnbmbcjnncbaiaaGreatDoor
