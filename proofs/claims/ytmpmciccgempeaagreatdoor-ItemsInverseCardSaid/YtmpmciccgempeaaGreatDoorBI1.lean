/-
  breadboardlaw11.short; an encoding has the code OK. breadboardlaw11.EncodeEntries. The plain law of chapter 11: an encoding tells its entry and its numbers; none begins with another one. The plain law of EncodeApart. breadboardref11.All. A row of bytes in one cell. slices.Grow and slices.Concat fR bytes. encode.All. items.Decode; law13.alive. PLAIN: how many ways there are to divide bytes into encodings. items.Split. items.Code. items.Count; slices.EqualFunc fR alike instructions. ARGUMENTS OPENED: a list of instructions. Conditions: the library's table as its initialiser lays it; short instructions, twelve at most; sizes; short instructions.
-/
import Derived.Test.YtmpmciccgempeaaGreatDoorBR1
import Derived.Test.YtmpmciccgempeaaGreatDoorBW1
import Derived.Test.YtmpmciccgempeaaGreatDoorBJ1
import Derived.Test.YtmpmciccgempeaaGreatDoorBH2
import Derived.Lib.AppendZerosOnto
namespace Go.Proofs.YtmpmciccgempeaaGreatDoor
open Go.RowKit Go.Shelf Go.Sort
theorem NY {x:Ins} {k:Int} (h:jM x=(none,k)):¬k=0:=by
 unfold jM at h
 cases hR:cQ x with
 | mk o j=>
 rw [hR] at h
 cases o with
 | none=>injection h with _ h;subst h;exact oA hR
 | some e=>cases h
theorem NM {x:Ins} {A:List UInt8} {k:Int} (h:jM x=(some A,k)):k=0:=by
 unfold jM at h
 cases hR:cQ x with
 | mk o j=>
 rw [hR] at h
 cases o with
 | none=>cases h
 | some e=>injection h with _ h;rw [←h];exact (kT hR).2.1
theorem LZ (d n:Int) (b:UInt8):(jN d n b).length=1+if b=119 then 1 else 0:=by
 unfold jN
 by_cases h:b=119
 ·subst h;rfl
 ·rw [if_neg h,if_neg h];split<;>rfl
theorem vT (d n:Int):∀l:List UInt8,(l.flatMap (jN d n)).length=l.length+List.count 119 l
 | []=>rfl
 | b::l=>by
  have ih:=vT d n l
  rw [List.flatMap_cons,List.length_append,List.length_cons,List.count_cons,LZ,ih]
  by_cases h:b=119
  ·subst h;simp;omega
  ·have h2:(b==119)=false:=by simpa using h
   rw [if_neg h,h2];simp;omega
theorem enc_len (x:aL) (hx:zD x) (d n:Int):((kI x d n).length:Int)=((aR x.pg).length:Int)+1+(x.ex.length:Int)+(Lib.countByte x.ex 119:Int):=by
 unfold kI
 split
 ·rename_i h
  rw [hx.hi h,List.length_append,List.length_append]
  simp [Lib.countByte]
 ·have:=vT d n x.ex
  rw [List.length_append,List.length_append,List.length_singleton]
  unfold Lib.countByte
  omega
theorem okN_none {D:Option Nat} {lo hi n:Int} (hD:D.isSome=false) (h:okN D lo hi n=true):n=0:=by
 cases D with
 | none=>exact eq_of_beq h
 | some i=>cases hD
def PW (A B:List UInt8):Prop:=∀(i:Nat) (a b:UInt8),A[i]?=some a→B[i]?=some b→a=b
theorem PW.take {A B:List UInt8} (h:A.take (min A.length B.length)=B.take (min A.length B.length)):PW A B:=fun i a b ha hb=>by
 have h1:=(List.getElem?_eq_some_iff.1 ha).1
 have h2:=(List.getElem?_eq_some_iff.1 hb).1
 have e:=congrArg (fun l:List UInt8=>l[i]?) h
 rw [List.getElem?_take,List.getElem?_take,if_pos (by omega),if_pos (by omega),ha,hb] at e
 exact Option.some.inj e
def lF:List Ins→Nat→Option (Nat × Int)
 | [],_=>none
 | x::r,k=>match (jM x).1 with
  | none=>some (k,(jM x).2)
  | some _=>lF r (k+1)
def nZ (x:Ins):List UInt8:=(jM x).1.getD []
theorem TR (x:Ins):(nZ x).length≤100:=by
 unfold nZ
 cases hR:cQ x with
 | mk o k=>
  cases o with
  | none=>unfold jM;rw [hR];simp
  | some e=>
   have hW:=GT hR
   unfold jM
   rw [hR]
   simp only [Option.getD_some]
   unfold kI
   have h1:=cW e.pg
   have h2:=hW.len
   have h3:=oT (mF e (aE x).args) (lM e (aE x).args) e.ex
   split
   ·simp only [List.length_append,List.length_singleton];omega
   ·simp only [List.length_append,List.length_singleton];omega
def AllP (w:World) (l:List Ins) (e:Ending) (w':World):Prop:=
 (match lF l 0 with
  | some (k,c)=>e=.returned (.tuple #[.slice none 0 0,.int .i64 k,.int .i64 c])
  | none=>∃v,e=.returned (.tuple #[v,.int .i64 l.length,.int .i64 0])∧Own aI w' w.heap.size 5 NoB v (l.map nZ).flatten)∧RowKit.Below w.heap.size w w'
theorem LD {x:Ins} {r:List Ins} {k:Nat} {c:Int} (h:jM x=(none,c)):lF (x::r) k=some (k,c):=by rw [lF,h]
theorem NN {x:Ins} {r:List Ins} {k:Nat} {c:Int} {b:List UInt8} (h:jM x=(some b,c)):lF (x::r) k=lF r (k+1):=by rw [lF,h]
theorem ZR (l:List Ins):(l.map nZ).flatten.length≤100 * l.length:=by
 induction l with
 | nil=>simp
 | cons x r ih=>have:=TR x;rw [List.map_cons,List.flatten_cons,List.length_append,List.length_cons];omega
end Go.Proofs.YtmpmciccgempeaaGreatDoor
namespace Go.Proofs.YtmpmciccgempeaaGreatDoor
open Go.RowKit
theorem elRow:ElT Tryz.prog 39 32 qJ.size 24:=ElT.mk' (z:=.slice none 0 0) Tryz.underlying39 (by kernel_rfl) rfl (by decide)
end Go.Proofs.YtmpmciccgempeaaGreatDoor
namespace Go.Proofs.YtmpmciccgempeaaGreatDoor
set_option maxHeartbeats 4000000
set_option maxRecDepth 100000
open Go.RowKit Go.Shelf Go.Sort
theorem QQ (n G:Nat) (h:0+n≤G):(([]:List Value).toArray++Builtin.zeroCells (Value.int .u8 0).cells n++Builtin.zeroCells (Value.int .u8 0).cells (G - (0+n))).size=G * 1:=by
 simp [size_zeroCells,Value.cells];omega
theorem MF (n:Nat) (hn:n≤1000000) (w:World):
  Calls Tryz.prog 84 #[.slice none 0 0,.int .i64 n] w fun e w'=>∃v,e=.returned v∧Own aI w' w.heap.size 5 NoB v []∧RowKit.Below w.heap.size w w':=by
 by_cases h0:n=0
 ·subst h0
  go_enter Tryz.func84,Tryz.ntmps84
  go_wp2
  go_ret
  exact ⟨_,rfl,Own.nil _ _ _ _ _,Below.refl _ _⟩
 ·have h1:¬((n:Int) < 0):=by omega
  have h4:(n:Int) > 0:=by omega
  have hi:Tryz.prog.info? 5=some ((Tryz.prog.info? 5).get (by kernel_rfl)):=(Option.some_get _).symm
  obtain ⟨i,hI⟩:∃i,i=(Tryz.prog.info? 5).get (by kernel_rfl):=⟨_,rfl⟩
  have hz:i.zero=some (.int .u8 0):=by rw [hI];kernel_rfl
  have hs:i.size=1:=by rw [hI];kernel_rfl
  have hby:i.bytes=1:=by rw [hI];kernel_rfl
  rw [←hI] at hi
  have hfit:Builtin.nextslicecap (0+n) 0 * i.bytes≤281474976710656:=growslice_fits (by omega) (by rw [hby];omega)
  have hrz:∀ty,(Builtin.append_ #[32,3] ty #[.slice none 0 0,.int .i64 n]).run Tryz.prog w=.ok (.slice (some ⟨w.heap.size,0,none⟩) (0+n) (grownCap w (0+n) 0 5)) (w.drew.alloc (.cells (([]:List Value).toArray++Builtin.zeroCells (Value.int .u8 0).cells n++Builtin.zeroCells (Value.int .u8 0).cells (grownCap w (0+n) 0 5 - (0+n))) 5)):=fun ty=>
   Lib.run_append_grow_zeros w 32 3 ty 5 i (.int .u8 0) .i64 .i64 Tryz.underlying32 Tryz.underlying3 hi hz none 0 0 [] (run_firstCells_none w.drew i.size 0 0 0) n (by omega) (by omega) (by omega) (by omega) (by rw [hby];omega) hfit
  have hGn:0+n≤grownCap w (0+n) 0 5:=grownCap_ge w _ _ _
  have hG63:grownCap w (0+n) 0 5≤9223372036854775807:=by
   have:=grownCap_le_maxLen w (0+n) 0 5 (by unfold maxLen;omega)
   unfold maxLen at this;omega
  have HO:Hid (Own aI (w.drew.alloc (.cells (([]:List Value).toArray++Builtin.zeroCells (Value.int .u8 0).cells n++Builtin.zeroCells (Value.int .u8 0).cells (grownCap w (0+n) 0 5 - (0+n))) 5)) w.heap.size 5 NoB (.slice (some ⟨w.heap.size,0,none⟩) 0 (grownCap w (0+n) 0 5)) []):=aA ⟨[],⟨rfl,.inr ⟨_,_,_,rfl,Nat.le_refl _,Blk.new w.drew _ _,Nat.zero_le _,by unfold maxLen;omega,by rw [QQ _ _ hGn];rfl,by simp⟩⟩,rfl⟩
  have HB:Hid (RowKit.Below w.heap.size w (w.drew.alloc (.cells (([]:List Value).toArray++Builtin.zeroCells (Value.int .u8 0).cells n++Builtin.zeroCells (Value.int .u8 0).cells (grownCap w (0+n) 0 5 - (0+n))) 5))):=aA ((Below.refl _ _).drew.alloc (Nat.le_refl _) _)
  rw [Nat.zero_add] at hrz hGn hG63 HO HB
  generalize grownCap w n 0 5=G at *
  generalize w.drew.alloc (.cells (([]:List Value).toArray++Builtin.zeroCells (Value.int .u8 0).cells n++Builtin.zeroCells (Value.int .u8 0).cells (G - n)) 5)=W1 at *
  clear hfit hi hz hs hby hI
  go_enter Tryz.func84,Tryz.ntmps84
  go_wp2_with (at_builtin;refine Lib.wpList_append_run _ rfl _ _ _ _ rfl _ _ rfl rfl _ _ (hrz _) ?_)
  all_goals
   go_ret
   exact ⟨_,rfl,HO.out,HB.out⟩
theorem DG (p:aB) (v:Value) (ls:List (List UInt8)) (w:World) (h:SlR qJ w p v ls) (hl:ls.length≤1000) (hf:ls.flatten.length≤1000000):
  Calls Tryz.prog 30 #[v] w fun e w'=>∃v',e=.returned v'∧Own aI w' w.heap.size 5 NoB v' ls.flatten∧RowKit.Below w.heap.size w w':=by
 obtain ⟨a,c,rfl,_,_,hc⟩:=h.row
 have HH:=aA h
 have HC:=aA hc
 have HF:=aA hf
 have HL:=aA hl
 clear h hc hf
 have HTK:Hid (∀k (hk:k < ls.length),(ls.take (k+1)).flatten=(ls.take k).flatten++ls[k]):=aA (fun k hk=>by rw [List.take_succ_eq_append_getElem hk,List.flatten_append,List.flatten_singleton])
 have HTL:Hid (∀k,(ls.take k).flatten.length≤ls.flatten.length):=aA (fun k=>by
  conv=>rhs;rw [←List.take_append_drop k ls]
  rw [List.flatten_append,List.length_append];omega)
 go_enter Tryz.func30,Tryz.ntmps30
 go_wp2
 go_loopw [3,5,11] (fun s _ i wr=>∃k:Nat,k≤ls.length∧i=.int .i64 k∧s=.int .i64 ((ls.take k).flatten.length:Int)∧wr=w) (fun _ _ i _=>ls.length - (intOf i).toNat)
 case atStart=>exact ⟨0,Nat.zero_le _,rfl,by simp,by first | rfl | trivial⟩
 case round=>
  obtain ⟨k,hk,rfl,rfl,hwr⟩:=hrel
  obtain rfl:=hwr.symm
  by_cases hlt:k < ls.length
  ·obtain ⟨b,o,va,vc,rfl,_,hcell,hrow⟩:=HC.out k ls[k] (List.getElem?_eq_getElem hlt)
   have e1:=congrArg List.length (HTK.out k hlt)
   rw [List.length_append] at e1
   have e2:=HTL.out (k+1)
   have e3:=HF.out
   have HE:Hid ((((ls.take (k+1)).flatten.length:Nat):Int)=((ls.take k).flatten.length:Int)+(ls[k].length:Int)):=aA (by rw [e1];push_cast;rfl)
   have e4:(ls.take k).flatten.length+ls[k].length≤1000000:=by omega
   have hw1:IntKind.i64.wrap (((ls.take k).flatten.length:Int)+(ls[k].length:Int))=((ls.take k).flatten.length:Int)+(ls[k].length:Int):=by rw [IntKind.wrap_i64];omega
   have hn1:¬(((ls.take k).flatten.length:Int)+(ls[k].length:Int)) < 0:=by omega
   clear e1 e2 e3 e4 hrow
   generalize ls[k].length=m at *
   generalize (ls.take k).flatten.length=t at *
   go_wp2
   go_roundw
   case rel=>exact ⟨k+1,by omega,by go_num,by rw [HE.out],by first | rfl | trivial⟩
   case measure=>simp [intOf];omega
  ·obtain rfl:k=ls.length:=by omega
   have e2:=HTL.out ls.length
   have e3:=HF.out
   have HGR:=aA (fun W=>MF (ls.take ls.length).flatten.length (by omega) W)
   generalize (ls.take ls.length).flatten.length=T0 at *
   clear e2 e3 hlt
   go_wp2_with (go_at_call 84;refine (HGR.out _).mono ?_;rintro e w1 ⟨v1,rfl,ho1,hb1⟩;obtain ⟨qa,qc,rfl⟩:=ho1.form;have HO1:=aA ho1;have HB1:=aA hb1;clear ho1 hb1)
   go_loopw [6,8,27] (fun vo _ i wr=>∃k:Nat,k≤ls.length∧i=.int .i64 k∧Own aI wr w.heap.size 5 NoB vo (ls.take k).flatten∧RowKit.Below w.heap.size w wr) (fun _ _ i _=>ls.length - (intOf i).toNat)
   case atStart=>exact ⟨0,Nat.zero_le _,rfl,HO1.out,HB1.out⟩
   case round=>
    obtain ⟨k,hk,rfl,ho,hb⟩:=hrel
    clear HO1 HB1 HGR
    obtain ⟨ua,uc,rfl⟩:=ho.form
    have HO:=aA ho
    have HB:=aA hb
    by_cases hlt:k < ls.length
    ·obtain ⟨b,o,va,vc,rfl,hbl,hcell,hrow⟩:=HC.out k ls[k] (List.getElem?_eq_getElem hlt)
     have hcell:wr.cell? ⟨b,o+k,none⟩=some (.slice va ls[k].length vc):=by
      have:=hb.block b hbl
      unfold World.cell? at hcell ⊢;rw [this];exact hcell
     have HR:=aA ((hrow.old).below hb)
     have e1:=congrArg List.length (HTK.out k hlt)
     rw [List.length_append] at e1
     have e2:=HTL.out (k+1)
     have e3:=HF.out
     have HN:Hid ((ls.take k).flatten.length+ls[k].length≤1000000):=aA (by omega)
     have HK2:=aA (HTK.out k hlt)
     have HQ:Hid (∀j,p j∧j < w.heap.size→some j≠Value.ownBlock (.slice ua (ls.take k).flatten.length uc)):=aA (fun j hj e=>by have:=(HO.out.lt j e.symm).1;omega)
     clear e1 e2 e3 hrow ho hb
     generalize ls[k]=x at *
     generalize (ls.take k).flatten=T at *
     go_wp2_with (at_builtin;refine dJ _ rfl (.tmp 31) (.tmp 32) 32 rfl w.heap.size 5 1 mH NoB _ _ _ T x rfl rfl HO.out HR.out (fun _ h=>False.elim h) HQ.out (by have:=HN.out;omega) (by have:=HN.out;omega) HB.out.size ?_;intro v' w' hap;obtain ⟨ho,hg,_⟩:=hap;have HO2:=aA (ho.flat NoB);have HB2:=aA (HB.out.grown hg HB.out.size (fun k e=>(HO.out.lt k e).1));clear ho hg)
     go_roundw
     case rel=>exact ⟨k+1,by omega,by go_num,by rw [HK2.out];exact HO2.out,HB2.out⟩
     case measure=>simp [intOf];omega
    ·obtain rfl:k=ls.length:=by omega
     have HTT:Hid (ls.take ls.length=ls):=aA List.take_length
     clear hlt
     go_wp2
     go_ret
     exact ⟨_,rfl,by rw [←congrArg List.flatten HTT.out];exact HO.out,HB.out⟩
set_option maxHeartbeats 8000000
theorem AllE_any (p:aB) (v:Value) (l:List Ins) (w:World) (h:SlR rP w p v l) (hT:Spc w) (hm:∀x∈l,CV x) (hl:l.length≤1000):
  Calls Tryz.prog 38 #[v] w (AllP w l):=by
 obtain ⟨a,c,rfl,_,_,hc⟩:=h.ins
 have HOLD:=aA h.old
 have HT:=aA (fun W (hb:RowKit.Below w.heap.size w W)=>hT.below hb)
 have HM:=aA hm
 have HL:=aA hl
 have HC:Hid (∀W,RowKit.Below w.heap.size w W→∀i x,l[i]?=some x→∃b o va,a=some ⟨b,o,none⟩∧W.cell? ⟨b,o+i * 2,none⟩=some (.string x.op)∧W.cell? ⟨b,o+i * 2+1,none⟩=some va∧SlR aM W (fun _=>True) va x.args):=aA (fun W hb i x hx=>by
  obtain ⟨a',c',e,_,_,hc'⟩:=(HOLD.out.below hb).ins
  injection e with e1 e2 e3
  subst e1
  obtain ⟨b,o,va,ea,_,h1,h2,h3⟩:=hc' i x hx
  exact ⟨b,o,va,ea,h1,h2,h3.mono (fun _ _=>trivial)⟩)
 obtain ⟨RS,hRS⟩:∃R,R=lF l 0:=⟨_,rfl⟩
 have HRS:=aA hRS
 clear h hm hl hc hT
 go_enter Tryz.func38,Tryz.ntmps38
 go_wp2
 go_loopw [5,6,7,8,9,12] (fun vo _ _ _ _ i wr=>∃k:Nat,k≤l.length∧i=.int .i64 k∧Acc qJ wr w.heap.size 32 vo ((l.take k).map nZ)∧RowKit.Below w.heap.size w wr∧lF (l.drop k) k=RS) (fun _ _ _ _ _ i _=>l.length - (intOf i).toNat)
 case atStart=>exact ⟨0,Nat.zero_le _,rfl,Acc.nil _ _ _,Below.refl _ _,hRS.symm⟩
 case round=>
  obtain ⟨k,hk,rfl,ho,hb,hst⟩:=hrel
  obtain ⟨ua,uc,rfl⟩:=ho.form
  have HO:=aA ho
  have HB:=aA hb
  have HST:=aA hst
  have HLK:Hid (((l.take k).map nZ).length≤1000):=aA (by have:=HL.out;rw [List.length_map,List.length_take];omega)
  clear ho hb hst hRS
  by_cases hlt:k < l.length
  ·have HD:Hid (l.drop k=l[k]::l.drop (k+1)):=aA (List.drop_eq_getElem_cons hlt)
   have HK2:Hid ((l.take (k+1)).map nZ=(l.take k).map nZ++[nZ l[k]]):=aA (by rw [List.take_succ_eq_append_getElem hlt,List.map_append];rfl)
   obtain ⟨b,o,va,rfl,x0,x1,hx⟩:=HC.out _ HB.out k l[k] (List.getElem?_eq_getElem hlt)
   have HBE:Hid (nZ l[k]=(jM l[k]).1.getD []):=aA rfl
   obtain ⟨va',vc',rfl⟩:∃a c,va=.slice a l[k].args.length c:=by obtain ⟨a,c,e,_⟩:=hx;exact ⟨a,c,e⟩
   have HAL:=aA ((Below.refl wr.heap.size wr).alloc (Nat.le_refl _) (.cells #[.string l[k].op,.slice va' l[k].args.length vc'] 24))
   have HE:=aA (GC l[k] (HM.out _ (List.getElem_mem hlt)) _ (.slice va' l[k].args.length vc') _ (hx.below HAL.out) (HT.out _ (HB.out.trans (HAL.out.mono HB.out.size))))
   clear hx
   generalize l[k]=x at *
   generalize (l.take k).map nZ=T at *
   cases hR:jM x with
   | mk o9 c9=>
   rw [hR] at HE HBE
   have HR:=aA hR
   clear hR
   cases o9 with
   | none=>
    have hne:=NY HR.out
    have HSP:Hid (lF l 0=some (k,c9)):=aA (by rw [←HRS.out,←HST.out,HD.out,LD HR.out])
    go_wp2_with (go_at_call 24;refine (HE.out).mono ?_;rintro e w1 ⟨rfl,hb1⟩;have HB1:=aA ((HB.out.trans (HAL.out.mono HB.out.size)).trans (hb1.mono (HB.out.trans (HAL.out.mono HB.out.size)).size));clear hb1)
    refine bodyPost_ret (results_tmp3 rfl _ _ _) rfl ⟨?_,HB1.out⟩
    rw [HSP.out]
    rfl
   | some bb=>
    obtain rfl:=NM HR.out
    have HBB:Hid (nZ x=bb):=aA (by rw [HBE.out];rfl)
    rw [HBB.out] at HK2
    have HNX:Hid (lF (l.drop (k+1)) (k+1)=RS):=aA (by rw [←HST.out,HD.out,NN HR.out])
    have HLB:Hid ((T.length+1) * 24≤140737488355328):=aA (by have:=HLK.out;omega)
    have HLL:Hid (T.length+1≤9223372036854775807):=aA (by have:=HLK.out;omega)
    have HQ:Hid (∀j,wr.heap.size≤j→w.heap.size≤j∧Value.ownBlock (.slice ua T.length uc)≠some j):=aA (fun j hj=>⟨Nat.le_trans HB.out.size hj,fun e=>absurd (HO.out.lt j e).2 (Nat.not_lt.2 hj)⟩)
    clear HBE
    go_wp2_with (first
     | (go_at_call 24;refine (HE.out).mono ?_;rintro e w1 ⟨⟨v1,rfl,ho1⟩,hb1⟩;obtain ⟨wa,wc,rfl⟩:=ho1.form;have HWB:=aA (HAL.out.trans (hb1.mono HAL.out.size));have HO1:=aA (HO.out.stay HWB.out);have HR1:=aA (show qJ.rel w1 (fun j=>wr.heap.size≤j) [.slice wa bb.length wc] bb from ⟨_,rfl,Own.slR (q:=fun j=>wr.heap.size≤j) ho1 (fun _ h=>h.elim) (fun j h=>Nat.le_trans HAL.out.size h)⟩);have HSZ:=aA (show w.heap.size≤w1.heap.size from Nat.le_trans HB.out.size HWB.out.size);clear ho1 hb1)
     | (at_builtin;refine eM rfl (.tmp 26) (.tmp 28) 39 rfl w.heap.size 32 24 elRow _ T bb _ (fun j=>wr.heap.size≤j) rfl rfl HO1.out HR1.out HQ.out HLB.out HLL.out HSZ.out ?_;intro a' c' w' hp;have HP:=aA hp;clear hp))
    go_roundw
    case rel=>exact ⟨k+1,by omega,by go_num,by rw [HK2.out];have:=HP.out.1;simpa using this,(HB.out.trans (HWB.out.mono HB.out.size)).trans (vM.below HP.out HO1.out HSZ.out),HNX.out⟩
    case measure=>simp [intOf];omega
  ·obtain rfl:k=l.length:=by omega
   have HNO:Hid (lF l 0=none):=aA (by rw [←HRS.out,←HST.out,List.drop_length];rfl)
   have HTT:Hid ((l.take l.length).map nZ=l.map nZ):=aA (by rw [List.take_length])
   have HCC:=aA (DG _ _ _ wr HO.out.slR HLK.out (by have h1:=ZR l;rw [HTT.out];have:=HL.out;omega))
   generalize (l.take l.length).map nZ=T at *
   clear hlt
   go_wp2_with (go_at_call 30;refine (HCC.out).mono ?_;rintro e w1 ⟨v1,rfl,ho1,hb1⟩;have HO1:=aA ho1;have HB1:=aA (HB.out.trans (hb1.mono HB.out.size));clear ho1 hb1)
   refine bodyPost_ret (results_tmp3 rfl _ _ _) rfl ⟨?_,HB1.out⟩
   rw [HNO.out]
   refine ⟨_,rfl,?_⟩
   rw [←HTT.out]
   exact Own.base HO1.out HB.out.size
abbrev cI : Array Value := #[.int .u8 0, .int .u8 221, .int .u8 0, .int .u8 237]
theorem litI (W : World) : SlR aI (W.alloc (.cells cI 5)) (fun _ => True) (.slice (some ⟨W.heap.size, 0, none⟩) 4 4) [0, 221, 0, 237] := fS W 5 (fun _ => True) [0, 221, 0, 237] cI 4 rfl rfl (by simp) (fun _ _ => trivial)
theorem ex13 : ((aX ([0, 221, 0, 237] : List UInt8)).map (fun x => x.k)) = [1, 2, 1, 4] ∧ ((aX ([0, 221, 0, 237] : List UInt8))[2]?.map (fun x => x.op)) = some [78, 79, 80] := by decide +kernel
theorem decI (W : World) (hT : Spc W) : Calls Tryz.prog 39 #[.slice (some ⟨W.heap.size, 0, none⟩) 4 4] (W.alloc (.cells cI 5)) fun e w' => (∃ b o c, e = .returned (.slice (some ⟨b, o, none⟩) 4 c) ∧ 4 ≤ c ∧ w'.cell? ⟨b, o, none⟩ = some (.int .i64 1) ∧ w'.cell? ⟨b, o + 5, none⟩ = some (.int .i64 2) ∧ w'.cell? ⟨b, o + 12, none⟩ = some (.string ⟨#[78, 79, 80]⟩) ∧ w'.cell? ⟨b, o + 15, none⟩ = some (.int .i64 4)) ∧ RowKit.Below W.heap.size W w' := by
  have hb : RowKit.Below W.heap.size W (W.alloc (.cells cI 5)) := (Below.refl _ _).alloc (Nat.le_refl _) _
  refine (a0A _ (some ⟨W.heap.size, 0, none⟩) 4 [0, 221, 0, 237] _ (hT.below hb) (litI W) (by decide)).mono ?_
  rintro e w' ⟨⟨v, rfl, ha⟩, hb2⟩
  refine ⟨?_, hb.trans (hb2.mono hb.size)⟩
  obtain ⟨h1, h2⟩ := ex13
  generalize aX ([0, 221, 0, 237] : List UInt8) = L at *
  have hlen : L.length = 4 := by have := congrArg List.length h1; simpa using this
  obtain ⟨x0, x1, x2, x3, rfl⟩ : ∃ x0 x1 x2 x3, L = [x0, x1, x2, x3] := by
    clear ha h1 h2
    match L, hlen with
    | [a, b, c, d], _ => exact ⟨a, b, c, d, rfl⟩
  simp only [List.map_cons, List.map_nil, List.cons.injEq, and_true] at h1
  obtain ⟨e0, e1, e2, e3⟩ := h1
  have h2 : some x2.op = some [78, 79, 80] := h2
  injection h2 with h2
  obtain ⟨a9, c9, rfl, hc, _, g⟩ := ha.slR.it
  obtain ⟨b, o, _, _, _, _, rfl, _, y0, _⟩ := g 0 x0 rfl
  obtain ⟨b1, o1, _, _, _, _, e, _, y1, _⟩ := g 1 x1 rfl
  injection e with e; injection e with e5 e6; subst e5 e6
  obtain ⟨b1, o1, _, _, _, _, e, _, _, _, y2, _⟩ := g 2 x2 rfl
  injection e with e; injection e with e5 e6; subst e5 e6
  obtain ⟨b1, o1, _, _, _, _, e, _, y3, _⟩ := g 3 x3 rfl
  injection e with e; injection e with e5 e6; subst e5 e6
  exact ⟨b, o, c9, rfl, hc, by rw [e0] at y0; exact y0, by rw [e1] at y1; exact y1, by rw [h2] at y2; exact y2, by rw [e3] at y3; exact y3⟩
set_option maxHeartbeats 4000000 in
set_option maxRecDepth 100000 in
theorem alive13_any (w : World) (hT : Spc w) : Calls Tryz.prog 37 #[] w fun e w' => e = .returned (.bool true) ∧ RowKit.Below w.heap.size w w' := by
  have HD := aA (decI w hT)
  clear hT
  go_enter Tryz.func37, Tryz.ntmps37
  go_wp2_with (go_at_call 39; refine (HD.out).mono ?_; rintro e w1 ⟨⟨b, o, c, rfl, hc, y0, y1, y2, y3⟩, hb⟩; have H1 := aA hb; clear hb)
  go_ret
  exact ⟨rfl, H1.out⟩
/-- an encoding that no alias has made -/
def okI (x : It) : Bool := decide (x.k = 1) && !x.al
/-- how many ways there are -/
def rD (l : List UInt8) : Nat := if (aX l).all okI then 1 else 0
attribute [local go_sem] Oper.semAt_some
theorem iD {fn : Func} {p : Tmp} (h : fn.results = #[.cell p 3]) (tmps : Array Value) (w : World) (b : Nat) (k : Int) (hp : tmps.getD p undef = .pointer (some ⟨b, 0, none⟩)) (hc : w.cell? ⟨b, 0, none⟩ = some (.int .i64 k)) : (results fn tmps).run Tryz.prog w = .ok (.int .i64 k) w := by
  have hp' : tmps[p]?.getD undef = .pointer (some ⟨b, 0, none⟩) := by simpa using hp
  simp [results, h, hp', go_sem, hc]
/-- what the loop holds -/
structure SpI (n0 : Nat) (w wS : World) (pre : List It) (W : World) : Prop where
  tk : Tk (fun k => k < n0) wS W
  below : Below w.heap.size w W
  size : wS.heap.size ≤ W.heap.size
  all : ∀ x ∈ pre, okI x = true
theorem SpI.own {n0 : Nat} {w wS W W' : World} {L : List It} {row : Option Nat} (hB : w.heap.size ≤ wS.heap.size) (h : SpI n0 w wS L W) (hg : W.grownBy W' row) (hr : ∀ r, row = some r → wS.heap.size ≤ r ∧ ∃ o : Obj, W.heap[r]? = some o ∧ o.isCells = false) : SpI n0 w wS L W' :=
  ⟨h.tk.trans (Tk.ownI hg hr), h.below.grown hg h.below.size (fun k hk => Nat.le_trans hB (hr k hk).1), Nat.le_trans h.size hg.size, h.all⟩
/-- where a round stops -/
structure SpX (w : World) (rc : Nat) (l : List UInt8) (W : World) : Prop where
  blk : Blk W rc 3 #[.int .i64 0]
  below : Below w.heap.size w W
  no : rD l = 0
theorem SpX.own {w wS W W' : World} {rc : Nat} {l : List UInt8} {row : Option Nat} (hB : w.heap.size ≤ wS.heap.size) (h : SpX w rc l W) (hg : W.grownBy W' row) (hr : ∀ r, row = some r → wS.heap.size ≤ r ∧ ∃ o : Obj, W.heap[r]? = some o ∧ o.isCells = false) : SpX w rc l W' :=
  ⟨eR h.blk hg hr, h.below.grown hg h.below.size (fun k hk => Nat.le_trans hB (hr k hk).1), h.no⟩
theorem YD {l : List UInt8} {x : It} (h : x ∈ aX l) (hn : okI x = false) : rD l = 0 := by
  unfold rD
  rw [if_neg]
  intro e
  rw [List.all_eq_true] at e
  rw [e x h] at hn
  cases hn
theorem VH {l : List UInt8} (h : ∀ x ∈ aX l, okI x = true) : rD l = 1 := by
  unfold rD
  rw [if_pos (List.all_eq_true.2 h)]
set_option maxHeartbeats 8000000 in
set_option maxRecDepth 100000 in
theorem Split_any (p : aB) (a : Option Addr) (c : Nat) (l : List UInt8) (w : World) (hT : Spc w) (hs : SlR aI w p (.slice a l.length c) l) (hl : l.length ≤ 1000000) :
    Calls Tryz.prog 42 #[.slice a l.length c] w fun e w' => e = .returned (.int .i64 (rD l)) ∧ Below w.heap.size w w' := by
  have HF := aA (((Fr.start w).new 3 #[.int .i64 0]).new' 32 #[.slice a l.length c] (b := w.heap.size + 1) (World.size_alloc _ _))
  obtain ⟨wS, hwS⟩ : ∃ W : World, W = (w.alloc (.cells #[.int .i64 0] 3)).alloc (.cells #[.slice a l.length c] 32) := ⟨_, rfl⟩
  have hsz : wS.heap.size = w.heap.size + 1 + 1 := by rw [hwS, World.size_alloc, World.size_alloc]
  have HSZ := aA hsz
  rw [← hwS] at HF
  have HSEQ := aA (AJ (fun A C => Tk (fun k => k < wS.heap.size) A C ∧ A.heap.size ≤ C.heap.size) (fun _ => True) wS.heap.size (w.heap.size + 1) a c l (fun k => p k ∧ k < w.heap.size) wS (HF.out.blk 0 rfl) (by omega) (hs.old.below HF.out.below) (fun k hk => by have := hk.2; omega) (hT.below HF.out.below) (by have := hT.at; omega) hl
    (fun A C h => h.1) trivial (fun _ _ _ _ => trivial) (fun _ _ _ _ => trivial))
  have HI0 : Hid (SpI wS.heap.size w wS [] wS) := aA ⟨Tk.refl, HF.out.below, Nat.le_refl _, by simp⟩
  have HWS : Hid (w.heap.size ≤ wS.heap.size) := aA HF.out.below.size
  have HNW := aA (fun (x : It) (h : x ∈ aX l) (hn : okI x = false) => YD h hn)
  have HAW := aA (VH (l := l))
  obtain ⟨L, hL⟩ : ∃ L, aX l = L := ⟨_, rfl⟩
  have HLQ := aA hL
  rw [hL] at HSEQ HNW HAW
  clear hL hs hT hl hsz
  refine (callsIn_wide (n := 9)).1 ?_
  refine callsIn_of_wp_marks Tryz.func42 rfl trivial ?_ rfl
  simp only [Tryz.ntmps42, List.size_toArray, List.length_cons, List.length_nil, Nat.reduceAdd, Nat.reduceSub, Array.replicate_succ, Array.replicate_zero, List.push_toArray, List.append_toArray, List.nil_append, List.cons_append]
  refine wpIn_wide.2 ?_
  go_wp2_with (go_at_call 93; refine (AE _ _ _ _).mono ?_; rintro e w1 ⟨rfl, hw1⟩; subst w1)
  rw [← hwS]
  clear hwS
  refine (wpIn_wide (n := 9)).1 ?_
  refine fW rfl (by omega) (gf := 150) (lb := #[.pointer (some ⟨w.heap.size + 1, 0, none⟩)]) rfl trivial (enters_of Tryz.func150 (by kernel_rfl) rfl)
    (encs := AT) (fun _ => rfl) HSEQ.out (fun h k => ⟨h.1.trans k.1, Nat.le_trans h.2 k.2⟩) (fun W l o o' h1 h2 => ⟨Tk.put W l o o' h1 h2, (cU (W := W) (l := l) o').size⟩)
    (fun (pre : List (It × Value)) W => SpI wS.heap.size w wS (pre.map (fun z : It × Value => z.1)) W)
    (fun cd _ W => cd = .ret ∧ SpX w w.heap.size l W)
    (fun pre W W' row hi hg hr => SpI.own HWS.out (show SpI wS.heap.size w wS (pre.map (fun z : It × Value => z.1)) W from hi) hg hr)
    (fun cd pre W W' row hi hg hr => ⟨hi.1, hi.2.own HWS.out hg hr⟩)
    HI0.out
    (fun pre x a' W => ∃ (g : Nat) (ra va : Option Addr) (r9 v9 : Nat) (u0 u1 u4 u5 u6 u7 u8 u9 u10 u11 u12 u13 : Value), wS.heap.size ≤ g ∧ Blk W g 34 (kY x.1 ra r9 va v9) ∧ (pre.map (·.1) ++ [x.1]) <+: L ∧ a' = { tmps := #[u0, u1, .pointer (some ⟨w.heap.size, 0, none⟩), .pointer (some ⟨g, 0, none⟩), u4, u5, u6, u7, u8, u9, u10, u11, u12, u13], defers := [] })
    ?ax ?assign ?body ?done ?stop
  case ax =>
    rintro pre x a' W l o o' ⟨g, ra, va, r9, v9, u0, u1, u4, u5, u6, u7, u8, u9, u10, u11, u12, u13, hg, hb, hpre, rfl⟩ hl ho hc
    have htk : Tk (fun _ => True) W (W.putObj l o') := Tk.put W l o o' ho hc
    exact ⟨g, ra, va, r9, v9, u0, u1, u4, u5, u6, u7, u8, u9, u10, u11, u12, u13, hg, htk.blk hb trivial, hpre, rfl⟩
  case assign =>
    rintro l pre ⟨x1, v1⟩ W K hi ⟨⟨A, q, _, hAW, ⟨ra, r9, va, v9, hv, _, _⟩, hq⟩, hpre⟩ hK
    dsimp only at hv hpre
    rw [HLQ.out] at hpre
    subst hv
    have HK := aA hK
    have HI := aA hi
    have HP := aA hpre
    obtain ⟨k9, R1, op, args, al⟩ := x1
    dsimp only [kY] at HP ⊢
    have HBN : Hid (Below W.heap.size W (W.alloc (.cells #[.int .i64 k9, .slice ra R1.length r9, .string ⟨op.toArray⟩, .slice va args.length v9, .bool al] 34))) := aA ((Below.refl _ _).alloc (Nat.le_refl _) _)
    clear hK hi hpre hq hAW
    dsimp only [AT]
    gi_wp2
    exact HK.out _ _ (eE.below HBN.out) ⟨Tk.below HBN.out, HBN.out.size⟩ ⟨HI.out.tk.trans (Tk.below HBN.out), HI.out.below.trans (HBN.out.mono HI.out.below.size), Nat.le_trans HI.out.size HBN.out.size, HI.out.all⟩ ⟨W.heap.size, ra, va, r9, v9, _, _, _, _, _, _, _, _, _, _, _, _, HI.out.size, Blk.new W _ _, HP.out, rfl⟩
  case body =>
    rintro l2 pre ⟨x1, v1⟩ a' W hl hi ⟨g, ra, va, r9, v9, u0, u1, u4, u5, u6, u7, u8, u9, u10, u11, u12, u13, hg, hb, hpre, rfl⟩
    dsimp only at hb hpre
    have HMEM : Hid (x1 ∈ L) := aA (hpre.subset (by simp))
    have hme : (pre ++ [(x1, v1)]).map (fun z : It × Value => z.1) = pre.map (fun z : It × Value => z.1) ++ [x1] := by rw [List.map_append]; rfl
    have HME := aA hme
    have HI := aA hi
    have HRB := aA (hi.tk.blk (HF.out.blk 1 rfl) (by have := HSZ.out; omega))
    have r0 := HRB.out.cell 0
    have z0 := HRB.out.free 0
    have HOK : Hid (okI x1 = (decide (x1.k = 1) && !x1.al)) := aA rfl
    have HN1 := aA (fun h => HNW.out x1 HMEM.out h)
    obtain ⟨k9, R1, op, args, al⟩ := x1
    dsimp only [kY] at hb HOK
    obtain ⟨⟨y0, y1, y2, y3, y4⟩, _⟩ := hb.five
    clear hi hb hpre hme HSEQ
    by_cases hk9 : k9 = 1
    · subst hk9
      cases al
      · have HO1 : Hid (okI ⟨1, R1, op, args, false⟩ = true) := aA (by rw [HOK.out]; rfl)
        gi_wp2
        exact ⟨eE.refl _ _, ⟨Tk.refl, Nat.le_refl _⟩, by show SpI wS.heap.size w wS (List.map (fun z : It × Value => z.1) _) W; rw [HME.out]; exact ⟨HI.out.tk, HI.out.below, HI.out.size, fun x hx => by
          rcases List.mem_append.1 hx with h | h
          · exact HI.out.all x h
          · rw [List.mem_singleton.1 h]; exact HO1.out⟩⟩
      · have HO1 : Hid (okI ⟨1, R1, op, args, true⟩ = false) := aA (by rw [HOK.out]; rfl)
        gi_wp2
        exact ⟨eE.setCell HRB.out 0 _, rfl, HRB.out.set 0 _, HI.out.below.setCell (p := ⟨w.heap.size, 0, none⟩) (Nat.le_refl _) _, HN1.out HO1.out⟩
    · have HO1 : Hid (okI ⟨k9, R1, op, args, al⟩ = false) := aA (by rw [HOK.out, decide_eq_false hk9]; rfl)
      gi_wp2
      exact ⟨eE.setCell HRB.out 0 _, rfl, HRB.out.set 0 _, HI.out.below.setCell (p := ⟨w.heap.size, 0, none⟩) (Nat.le_refl _) _, HN1.out HO1.out⟩
  case done =>
    rintro D xs W hD hall hi hK
    have HKD := aA hK
    have HI := aA hi
    have HW1 : Hid (rD l = 1) := aA (HAW.out (by rw [← hall]; exact hi.all))
    have HRB := aA (hi.tk.blk (HF.out.blk 1 rfl) (by have := HSZ.out; omega))
    have z0 := HRB.out.free 0
    have r0 := HRB.out.cell 0
    clear hK hi hall HSEQ
    go_wp2
    have hne1 : D ≠ w.heap.size := by have := HSZ.out; omega
    have hx1 := HRB.out.set 0 (.int .i64 1)
    have hx3 := HI.out.below.setCell (p := ⟨w.heap.size, 0, none⟩) (Nat.le_refl _) (.int .i64 1)
    have hx4 : (W.setCell ⟨w.heap.size, 0, none⟩ (.int .i64 1)).heap[D]? = some (.deferred (some [])) := (Below.heap_setCell _ _ _ _ hne1).trans HKD.out
    generalize W.setCell ⟨w.heap.size, 0, none⟩ (.int .i64 1) = W9 at *
    refine ⟨by simp, .inl ⟨_, _, rfl, run_takeDeferred (w := W9) hx4, ?_⟩⟩
    have hgr : W9.grownBy (W9.putObj D (.deferred none)) (some D) := cU _
    have hrr : ∀ r, some D = some r → wS.heap.size ≤ r ∧ ∃ o : Obj, W9.heap[r]? = some o ∧ o.isCells = false := fun r e => by injection e with e; subst e; exact ⟨hD, _, hx4, rfl⟩
    refine ⟨_, iD rfl _ _ w.heap.size 1 rfl ((eR hx1 hgr hrr).cell 0), ?_⟩
    rw [HW1.out]
    exact ⟨rfl, hx3.grown hgr hx3.size (fun k hk => Nat.le_trans HWS.out (hrr k hk).1)⟩
  case stop =>
    rintro D cd pre W hD hpre ⟨rfl, h1, h2, h3⟩ hK
    have HW0 := aA h3
    have HKD := aA hK
    have HX4 := aA h1
    have HX7 := aA h2
    clear h1 h2 h3 hK HSEQ
    gi_wp2
    refine ⟨by simp, .inl ⟨_, _, rfl, run_takeDeferred HKD.out, ?_⟩⟩
    have hgr : W.grownBy (W.putObj D (.deferred none)) (some D) := cU _
    have hrr : ∀ r, some D = some r → wS.heap.size ≤ r ∧ ∃ o : Obj, W.heap[r]? = some o ∧ o.isCells = false := fun r e => by injection e with e; subst e; exact ⟨hD, _, HKD.out, rfl⟩
    refine ⟨_, iD rfl _ _ w.heap.size 0 rfl ((eR HX4.out hgr hrr).cell 0), ?_⟩
    rw [HW0.out]
    exact ⟨rfl, HX7.out.grown hgr HX7.out.size (fun k hk => Nat.le_trans HWS.out (hrr k hk).1)⟩
theorem elInsI : ElT Tryz.prog 60 24 rP.size 40 := ElT.mk' (z := .agg #[.string ⟨#[]⟩, .slice none 0 0]) Tryz.underlying60 (by kernel_rfl) rfl (by decide)
def It.ins (x : It) : Ins := ⟨⟨x.op.toArray⟩, x.args⟩
/-- the instructions of items -/
def kD (L : List It) : List Ins := (L.filter (fun x => decide (x.k = 1))).map It.ins
theorem KY {L : List It} {k : Nat} (h : k < L.length) (hk : L[k].k = 1) : kD (L.take (k + 1)) = kD (L.take k) ++ [L[k].ins] := by
  unfold kD; rw [List.take_succ_eq_append_getElem h, List.filter_append, List.map_append]; simp [hk]
theorem QN {L : List It} {k : Nat} (h : k < L.length) (hk : ¬ L[k].k = 1) : kD (L.take (k + 1)) = kD (L.take k) := by
  unfold kD; rw [List.take_succ_eq_append_getElem h, List.filter_append, List.map_append]; simp [hk]
theorem PQ (L : List It) (k : Nat) : (kD (L.take k)).length ≤ L.length := by
  unfold kD; rw [List.length_map]
  exact Nat.le_trans (List.length_filter_le _ _) (by rw [List.length_take]; omega)
theorem Acc.farI {α : Type} {R : Rep α} {w : World} {B k : Nat} {e : TypeId} {v : Value} {xs : List α} (h : Acc R w B e v xs) (hk : w.heap.size ≤ k) : v.ownBlock ≠ some k := fun e => by have := (h.lt k e).2; omega
set_option maxHeartbeats 8000000 in
set_option maxRecDepth 100000 in
theorem Code_any (p : aB) (v : Value) (ls : List It) (w : World) (h : SlR itR w p v ls) (hn : ls.length ≤ 1000) (ha : ∀ x ∈ ls, x.args.length ≤ 1000) :
    Calls Tryz.prog 40 #[v] w fun e w' => (∃ v', e = .returned v' ∧ Acc rP w' w.heap.size 24 v' (kD ls)) ∧ RowKit.Below w.heap.size w w' := by
  have HH := aA h.old
  obtain ⟨a, c, rfl, _, _, _⟩ := h.it
  have HN := aA hn
  have HAL := aA ha
  clear h hn ha
  go_enter Tryz.func40, Tryz.ntmps40
  go_wp2
  go_loopw [3, 5, 6, 9] (fun vo _ _ i wr => ∃ k : Nat, k ≤ ls.length ∧ i = .int .i64 k ∧ Acc rP wr w.heap.size 24 vo (kD (ls.take k)) ∧ RowKit.Below w.heap.size w wr) (fun _ _ _ i _ => ls.length - (intOf i).toNat)
  case atStart => exact ⟨0, Nat.zero_le _, rfl, Acc.nil _ _ _, Below.refl _ _⟩
  case round =>
    obtain ⟨k, hk, rfl, ho, hb⟩ := hrel
    obtain ⟨ua, uc, rfl⟩ := ho.form
    have HO := aA ho
    have HB := aA hb
    by_cases hlt : k < ls.length
    · obtain ⟨a9, c9, e9, _, _, g9⟩ := (HH.out.below hb).it
      injection e9 with e9 e10 e11
      clear e10
      subst e9 e11
      obtain ⟨b, o, ra, rc, va, vc, rfl, hbl, x0, x1, x2, x3, x4, _, hr⟩ := g9 k ls[k] (List.getElem?_eq_getElem hlt)
      have HR := aA hr
      have HYS := aA (fun h => KY hlt h)
      have HNO := aA (fun h => QN hlt h)
      have HLE := aA (PQ ls k)
      have HAK := aA (HAL.out ls[k] (List.getElem_mem hlt))
      clear ho hb g9 hr
      generalize ls[k] = x at *
      obtain ⟨k9, R1, op, args, al⟩ := x
      dsimp only at x0 x1 x2 x3 x4 HR HYS HNO HAK
      have HI : Hid (It.ins ⟨k9, R1, op, args, al⟩ = ⟨⟨op.toArray⟩, args⟩) := aA rfl
      obtain ⟨T2, hT2⟩ : ∃ T, kD (ls.take (k + 1)) = T := ⟨_, rfl⟩
      rw [hT2] at HYS HNO
      have HT2 := aA hT2
      clear hT2
      generalize kD (ls.take k) = T at *
      generalize (⟨op.toArray⟩ : ByteArray) = O at *
      have HBN : Hid (RowKit.Below wr.heap.size wr (wr.alloc (.cells #[.int .i64 k9, .slice ra R1.length rc, .string O, .slice va args.length vc, .bool al] 34))) := aA ((Below.refl _ _).alloc (Nat.le_refl _) _)
      by_cases hk1 : k9 = 1
      · subst hk1
        have HE := aA (HYS.out rfl)
        rw [HI.out] at HE
        go_upto_region 5 with fail
        have HK1 := aA (Blk.new wr 34 #[.int .i64 1, .slice ra R1.length rc, .string O, .slice va args.length vc, .bool al])
        have HZ1 : Hid ((wr.alloc (.cells #[.int .i64 1, .slice ra R1.length rc, .string O, .slice va args.length vc, .bool al] 34)).heap.size = wr.heap.size + 1) := aA (World.size_alloc _ _)
        generalize wr.alloc (.cells #[.int .i64 1, .slice ra R1.length rc, .string O, .slice va args.length vc, .bool al] 34) = W1 at *
        obtain ⟨⟨c0, c1, c2, c3, c4⟩, _⟩ := HK1.out.five
        go_upto_region 7 with fail
        have HK2 := aA (Blk.new W1 24 #[.string O, .slice va args.length vc])
        have HB2 := aA (HBN.out.alloc HBN.out.size (.cells #[.string O, .slice va args.length vc] 24))
        have HZ2 : Hid (wr.heap.size ≤ W1.heap.size) := aA HBN.out.size
        generalize W1.alloc (.cells #[.string O, .slice va args.length vc] 24) = W2 at *
        clear c0 c1 c2 c3 c4 HK1 HZ1 HBN
        generalize W1.heap.size = b2 at *
        have HL2 : Hid (b2 < W2.heap.size) := aA HK2.out.lt
        obtain ⟨m0, m1, f0, f1⟩ := HK2.out.two
        have HCL := aA (kV _ _ _ W2 (HR.out.below HB2.out) (by have := HAK.out; omega))
        go_upto_region 8 with (go_at_call 94; refine (HCL.out).mono ?_; rintro e w4 ⟨v4, rfl, ho4, hb4⟩; obtain ⟨ca, cc, rfl⟩ := ho4.form; have HK4 := aA (HK2.out.below hb4 HK2.out.lt); have HB4 := aA (HB2.out.trans (hb4.mono HB2.out.size)); have HS4 := aA (ho4.slR (q := fun b => W2.heap.size ≤ b) (fun _ h => h.elim) (fun _ h => h)); clear m0 m1 f0 f1 ho4 hb4; obtain ⟨m0, m1, f0, f1⟩ := HK4.out.two)
        have HK5 : Hid (Blk (w4.setCell ⟨b2, 1, none⟩ (.slice ca args.length cc)) b2 24 #[.string O, .slice ca args.length cc]) := aA (HK4.out.set 1 _)
        have HB5 := aA (HB4.out.setCell (p := ⟨b2, 1, none⟩) HZ2.out (.slice ca args.length cc))
        have HS5 := aA (HS4.out.keep (aS.setCell (a := ⟨b2, 1, none⟩) (fun k hk => by have := HL2.out; have hk : W2.heap.size ≤ k := hk; show k ≠ b2; omega) (.slice ca args.length cc)))
        generalize w4.setCell ⟨b2, 1, none⟩ (.slice ca args.length cc) = W5 at *
        clear m0 m1 f0 f1
        obtain ⟨m0, m1, f0, f1⟩ := HK5.out.two
        have HA5 := aA (HO.out.stay HB5.out)
        have HBW := aA (HB.out.trans (HB5.out.mono HB.out.size))
        have HQ : Hid (∀ k, W2.heap.size ≤ k → w.heap.size ≤ k ∧ Value.ownBlock (.slice ua T.length uc) ≠ some k) := aA (fun k hk => ⟨by have := HB.out.size; have := HB2.out.size; omega, HO.out.farI (by have := HB2.out.size; omega)⟩)
        go_wp2_with (at_builtin; refine eM rfl (.tmp 22) (.tmp 24) 60 rfl w.heap.size 24 40 elInsI _ T ⟨O, args⟩ _ (fun b => W2.heap.size ≤ b) rfl rfl HA5.out ⟨_, rfl, HS5.out⟩ HQ.out (by have := HLE.out; have := HN.out; omega) (by have := HLE.out; have := HN.out; omega) HBW.out.size ?_; intro a5 c5 w6 hp; have HP := aA hp; clear hp)
        go_roundw
        case rel => exact ⟨k + 1, by omega, by go_num, by rw [HT2.out, HE.out]; exact HP.out.1, HBW.out.trans (HP.out.below HA5.out HBW.out.size)⟩
        case measure => simp [intOf]; omega
      · have HE := aA (HNO.out hk1)
        go_wp2
        go_roundw
        case rel => exact ⟨k + 1, by omega, by go_num, by rw [HT2.out, HE.out]; exact HO.out.stay HBN.out, HB.out.trans (HBN.out.mono HB.out.size)⟩
        case measure => simp [intOf]; omega
    · obtain rfl : k = ls.length := by omega
      have HTT : Hid (ls.take ls.length = ls) := aA List.take_length
      clear hlt
      go_wp2
      go_ret
      exact ⟨⟨_, rfl, by rw [← congrArg kD HTT.out]; exact HO.out⟩, HB.out⟩
/-- how many items of a kind there are -/
def tD (kd : Int) (L : List It) : Nat := (L.filter (fun x => decide (x.k = kd))).length
theorem MT {kd : Int} {L : List It} {k : Nat} (h : k < L.length) : tD kd (L.take (k + 1)) = tD kd (L.take k) + (if L[k].k = kd then 1 else 0) := by
  unfold tD
  rw [List.take_succ_eq_append_getElem h, List.filter_append, List.length_append]
  by_cases e : L[k].k = kd <;> simp [e]
theorem cntF_le (kd : Int) (L : List It) (k : Nat) : tD kd (L.take k) ≤ k := by
  unfold tD
  exact Nat.le_trans (List.length_filter_le _ _) (by rw [List.length_take]; omega)
set_option maxHeartbeats 4000000 in
set_option maxRecDepth 100000 in
theorem EF (bk bn : Nat) (kd : Int) (n : Nat) (x0 : Int) (v1 v2 v3 v4 : Value) (w : World) (hk : w.cell? ⟨bk, 0, none⟩ = some (.int .i64 kd)) (hb : Blk w bn 3 #[.int .i64 n]) (hn : n ≤ 1000000) :
    Calls Tryz.prog 95 #[.agg #[.int .i64 x0, v1, v2, v3, v4], .pointer (some ⟨bk, 0, none⟩), .pointer (some ⟨bn, 0, none⟩)] w fun e w' => (∃ v, e = .returned v) ∧ w.grownBy w' (some bn) ∧ Blk w' bn 3 #[.int .i64 ((n + (if x0 = kd then 1 else 0) : Nat))] := by
  have HBN := aA ((Below.refl w.heap.size w).alloc (Nat.le_refl _) (.cells #[.int .i64 x0, v1, v2, v3, v4] 34))
  have c0 : (w.alloc (.cells #[.int .i64 x0, v1, v2, v3, v4] 34)).cell? ⟨w.heap.size, 0, none⟩ = some (.int .i64 x0) := (Blk.new w _ _).cell 0
  have k0 := (HBN.out.cell (p := ⟨bk, 0, none⟩) (World.block_lt_of_cell? w _ hk)).trans hk
  have HB2 := aA (hb.below HBN.out hb.lt)
  have n0 := HB2.out.cell 0
  have z0 := HB2.out.free 0
  have HG := aA (bZ bn HBN.out)
  have hw1 : IntKind.i64.wrap ((n : Int) + 1) = (n : Int) + 1 := by rw [IntKind.wrap_i64]; omega
  clear hk hb hn
  go_enter Tryz.func95, Tryz.ntmps95
  go_upto_region 1 with fail
  generalize w.alloc (.cells #[.int .i64 x0, v1, v2, v3, v4] 34) = W1 at *
  by_cases e : x0 = kd
  · subst e
    go_wp2
    go_end0
    exact ⟨⟨_, rfl⟩, jL HG.out 0 _, HB2.out.set 0 _⟩
  · go_wp2
    go_end0
    exact ⟨⟨_, rfl⟩, HG.out, HB2.out⟩
set_option maxHeartbeats 4000000 in
set_option maxRecDepth 100000 in
theorem Count_any (p : aB) (kd : Int) (v : Value) (ls : List It) (w : World) (h : SlR itR w p v ls) (hn : ls.length ≤ 100000) :
    Calls Tryz.prog 41 #[.int .i64 kd, v] w fun e w' => e = .returned (.int .i64 (tD kd ls)) ∧ RowKit.Below w.heap.size w w' := by
  have hmf : ∀ (fn : Fn) (first cap : Array Value) (w : World), (Instr.makeFunc fn first cap).run Tryz.prog w = .ok (.func fn first cap) w := fun _ _ _ _ => rfl
  have HF0 := aA (((Fr.start w).new 3 #[.int .i64 kd]).new' 3 #[.int .i64 0] (b := w.heap.size + 1) (World.size_alloc _ _))
  have HSZ : Hid (((w.alloc (.cells #[.int .i64 kd] 3)).alloc (.cells #[.int .i64 0] 3)).heap.size = w.heap.size + 1 + 1) := aA (by rw [World.size_alloc, World.size_alloc])
  have HS0 := aA (h.old.below HF0.out.below)
  obtain ⟨a, c, rfl, _, _, _⟩ := h.it
  have HN := aA hn
  clear h hn
  go_enter Tryz.func41, Tryz.ntmps41
  go_upto_region 2 with fail
  generalize (w.alloc (.cells #[.int .i64 kd] 3)).alloc (.cells #[.int .i64 0] 3) = W0 at *
  obtain ⟨bk, hbk⟩ : ∃ b, w.heap.size = b := ⟨_, rfl⟩
  have HBK := aA hbk
  rw [hbk] at HF0 HSZ HS0 ⊢
  clear hbk
  go_wp2
  go_loopw [8, 12] (fun _ i wr => ∃ k : Nat, k ≤ ls.length ∧ i = .int .i64 k ∧ W0.grownBy wr (some (bk + 1)) ∧ Blk wr (bk + 1) 3 #[.int .i64 (tD kd (ls.take k) : Nat)]) (fun _ i _ => ls.length - (intOf i).toNat)
  case atStart => exact ⟨0, Nat.zero_le _, rfl, bZ _ (Below.refl _ _), HF0.out.blk 0 rfl⟩
  case round =>
    obtain ⟨k, hk, rfl, hgr, hb⟩ := hrel
    have HG := aA hgr
    have HB := aA hb
    have n0 := hb.cell 0
    clear hgr hb
    by_cases hlt : k < ls.length
    · obtain ⟨a8, c8, e8, _, _, g8⟩ := (HS0.out.keep (aS.grown HG.out (fun j hj => ⟨by have := hj.2; have := HSZ.out; omega, fun e => by have := Option.some.inj e; have := hj.2; omega⟩))).it
      injection e8 with e8 e10 e11
      clear e10
      subst e8 e11
      obtain ⟨b1, o1, ra1, rc1, va1, vc1, rfl, _, x0, x1, x2, x3, x4, _, _⟩ := g8 k ls[k] (List.getElem?_eq_getElem hlt)
      have HSU := aA (MT (kd := kd) hlt)
      have HLE := aA (cntF_le kd ls k)
      clear g8
      generalize ls[k] = x at *
      obtain ⟨k9, R1, op, args, al⟩ := x
      dsimp only at x0 x1 x2 x3 x4 HSU
      obtain ⟨C2, hC2⟩ : ∃ C, tD kd (ls.take (k + 1)) = C := ⟨_, rfl⟩
      rw [hC2] at HSU
      have HC2 := aA hC2
      clear hC2
      generalize tD kd (ls.take k) = C1 at *
      have HBN := aA ((Below.refl wr.heap.size wr).alloc (Nat.le_refl _) (.cells #[.int .i64 k9, .slice ra1 R1.length rc1, .string ⟨op.toArray⟩, .slice va1 args.length vc1, .bool al] 34))
      have HKK := aA ((HF0.out.blk 1 rfl).grown HG.out (fun e => by have := Option.some.inj e; omega))
      have HCT := aA (EF bk (bk + 1) kd C1 k9 (.slice ra1 R1.length rc1) (.string ⟨op.toArray⟩) (.slice va1 args.length vc1) (.bool al) _ ((HKK.out.below HBN.out HKK.out.lt).cell 0) (HB.out.below HBN.out HB.out.lt) (by have := HLE.out; have := HN.out; omega))
      have HGN := aA (fZ HG.out (bZ (bk + 1) HBN.out))
      rw [← HSU.out] at HCT
      go_wp2_with (go_at_call 95; refine (HCT.out).mono ?_; rintro e w5 ⟨⟨v5, rfl⟩, hg5, hb5⟩; have HG5 := aA (fZ HGN.out hg5); have HB5 := aA hb5; clear hg5 hb5)
      go_roundw
      case rel => exact ⟨k + 1, by omega, by go_num, HG5.out, by rw [HC2.out]; exact HB5.out⟩
      case measure => simp [intOf]; omega
    · have HE : Hid (tD kd (ls.take k) = tD kd ls) := aA (by rw [List.take_of_length_le (by omega)])
      rw [HE.out] at n0
      go_wp2
      go_ret
      exact ⟨rfl, HF0.out.below.grown HG.out HF0.out.below.size (fun j e => by have := Option.some.inj e; have := HBK.out; omega)⟩
end Go.Proofs.YtmpmciccgempeaaGreatDoor
namespace Go.Proofs.YtmpmciccgempeaaGreatDoor
set_option maxRecDepth 100000
open Go.RowKit Go.ChangeShapes Go.WideShapes Go.ChangeAt Go.Deep Go.Joins
variable {H:Type} {enc:TypeId × Value→H} {W:World}
theorem list2' {α:Type} {l:List α} (h:l.length=2):∃a b,l=[a,b]:=by
 match l,h with
 | [a,b],_=>exact ⟨a,b,rfl⟩
instance:Inhabited Ins:=⟨⟨⟨#[]⟩,[]⟩⟩
def JX (x:Ins):Prop:=(∀y∈x.args,cN y.n)∧x.op.size≤maxLen
theorem XJ {b0:Nat} {v:Value} {d:DataW H} {p:List MemPlace} (hv:Value.okWide Tryz.prog W .any b0 60 v) (h:DataW.Trod enc Tryz.prog W 0 (fun _=>true) true 60 v d p):
  ∃l,SlR rP W (fun _=>True) v l∧∀x∈l,JX x:=by
 have hcl:v.cells.toList=[v]:=by
  obtain ⟨a,n,c,rfl⟩:=okWide_slice Tryz.underlying60 hv
  rfl
 obtain ⟨fuel,hf⟩:=h
 rw [hcl] at hf
 rcases open_slice Tryz.underlying60 hf with ⟨hv,_⟩ | ⟨a,len,cap,m,n,D,Pl,hv,_,hl,hm,hmm,_,hi⟩
 ·obtain rfl:=List.cons.inj hv |>.1
  exact ⟨[],SlR.nil _ _ _,by simp⟩
 ·obtain rfl:=List.cons.inj hv |>.1
  have key:∀i,i < len→∃x:Ins,(∃va,W.cell? (a.add (i * 2))=some (.string x.op)∧W.cell? (a.add (i * 2+1))=some va∧SlR aM W (fun _=>True) va x.args)∧JX x:=fun i hil=>by
   obtain ⟨cs,hc,ht⟩:=hi i (by rw [hmm,if_pos rfl];omega)
   rw [QX] at hc
   obtain ⟨_,hlen,hat⟩:=World.cells?_some hc
   obtain ⟨y0,y1,n',_,_,h0,h1⟩:=trod_struct2 Tryz.underlying24 ht
   obtain ⟨c0,c1,rfl⟩:=list2' hlen
   have e0:=hat 0 (by omega)
   have e1:=hat 1 (by omega)
   rw [add_add] at e0 e1
   dsimp only at h0 h1
   rw [uN] at h0
   rw [TN] at h1
   obtain ⟨s,q0,_,hs⟩:=DataW.trod_string Tryz.underlying9 (fuel:=n') (cs:=[c0]) h0
   obtain rfl:=List.cons.inj q0 |>.1
   obtain ⟨l,hl,hf⟩:=mR (fuel:=n') (v:=c1) h1
   exact ⟨⟨s,l⟩,⟨c1,e0,e1,hl⟩,hf,hs⟩
  obtain ⟨f,hf⟩:=choose_lt key
  have hg:∀i x,((List.range len).map f)[i]?=some x→i < len∧f i=x:=fun i x hx=>by
   rw [List.getElem?_map,Option.map_eq_some_iff] at hx
   obtain ⟨j,hj,rfl⟩:=hx
   obtain ⟨h1,h2⟩:=List.getElem?_eq_some_iff.1 hj
   simp at h1 h2
   subst h2
   exact ⟨h1,rfl⟩
  refine ⟨(List.range len).map f,⟨some a,cap,by simp,by simpa using hl,hm,fun i x hx=>?_⟩,fun x hx=>?_⟩
  ·obtain ⟨hil,rfl⟩:=hg i x hx
   obtain ⟨⟨va,h0,h1,h2⟩,_⟩:=hf i hil
   obtain ⟨b,o,spot⟩:=a
   have hspot:spot=none:=by
    obtain ⟨⟨_,h00,_⟩,_⟩:=hf 0 (by omega)
    simpa [Addr.add] using World.cell?_spot h00
   subst hspot
   rw [zS] at h0 h1
   refine ⟨b,o,[.string (f i).op,va],rfl,trivial,World.block_lt_of_cell? W _ h0,fun j u hu=>?_,va,rfl,h2⟩
   show W.cell? ⟨b,o+i * 2+j,none⟩=_
   rw [Nat.add_assoc]
   match j,hu with
   | 0,hu=>simp at hu;subst hu;exact h0
   | 1,hu=>simp at hu;subst hu;exact h1
  ·obtain ⟨i,hi,rfl⟩:=List.mem_map.1 hx
   exact (hf i (by simpa using hi)).2
end Go.Proofs.YtmpmciccgempeaaGreatDoor
