/-
  breadboardref11.Bytes, whole. Lists of rows of bytes. encode.Forms. breadboardref11.Forms. slices.ContainsFunc fR rows with the closure of law11.EncodeForms. decode.read fR no bytes. decode.First fR no bytes. decode.Instr where the bytes are no instruction. Conditions: an entry of the table; a short instruction; the library's table as its initialiser lays it; sizes.
-/
import Derived.Test.YtmpmciccgempeaaGreatDoorBG1
import Derived.Test.YtmpmciccgempeaaGreatDoorBH2
namespace Go.Proofs.YtmpmciccgempeaaGreatDoor
set_option maxHeartbeats 16000000
set_option maxRecDepth 100000
open Go.RowKit Go.Shelf Go.Sort
theorem yW (p1:Int) (ob:UInt8) (s1:ByteArray) (a:Option Addr) (m c:Nat) (s2:ByteArray) (f:Bool) (d n:Int) (R:Option (List Opd)) (w:World) (hp:p1 ≥ 5)
  (hF:∀W,RowKit.Below w.heap.size w W→Calls Tryz.prog 77 #[.agg #[.int .i64 p1,.int .u8 ob.toNat,.string s1,.slice a m c,.string s2,.bool f],.int .i64 d,.int .i64 n] W (SJ W s1 R)):
  Calls Tryz.prog 83 #[.agg #[.int .i64 p1,.int .u8 ob.toNat,.string s1,.slice a m c,.string s2,.bool f],.int .i64 d,.int .i64 n] w (ZP w (if R.isSome=true then some (aR p1++[eW d]++[ob]) else none)):=by
 have A1:=lC d
 have HF:=aA hF
 have HP:=aA (fun W=>fU p1 W)
 clear hF
 have HI:=aA ((Fr.start w).new 72 #[.int .i64 p1,.int .u8 ob.toNat,.string s1,.slice a m c,.string s2,.bool f])
 obtain ⟨W0,hW0⟩:∃W:World,W=w.alloc (.cells #[.int .i64 p1,.int .u8 ob.toNat,.string s1,.slice a m c,.string s2,.bool f] 72):=⟨_,rfl⟩
 rw [←hW0] at HI
 go_enter Tryz.func83,Tryz.ntmps83
 go_upto_region 1 with fail
 rw [←hW0]
 clear hW0
 obtain ⟨c0,c1,c2,c3,c4,c5⟩:=(HI.out.blk 0 rfl).six
 cases R with
 | none=>
  go_wp2_with (go_at_call 77;refine (HF.out _ HI.out.below).mono ?_;rintro e w3 ⟨rfl,hb⟩;have H3:=aA ((HI.out.next hb).alloc (.cells #[.string ⟨#[]⟩,.slice none 0 0] 24));clear hb)
  go_ret2
  exact ⟨rfl,H3.out.below⟩
 | some cn=>
  go_upto_region 4 with (go_at_call 77;refine (HF.out _ HI.out.below).mono ?_;rintro e w3 ⟨⟨v3,rfl,ho3⟩,hb⟩;obtain ⟨va3,vc3,rfl⟩:=ho3.form;have H3:=aA ((HI.out.next hb).alloc (.cells #[.string s1,.slice va3 cn.length vc3] 24));clear hb ho3 c0 c1 c2 c3 c4 c5)
  generalize w3.alloc (.cells #[.string s1,.slice va3 cn.length vc3] 24)=W3 at *
  have HW3:=aA H3.out.size
  have hl3:=(H3.out.blk 0 rfl).lt
  obtain ⟨c0,c1,c2,c3,c4,c5⟩:=((H3.out.alloc (.cells #[] 5)).blk 0 rfl).six
  have HM:=aA (Own.made (R:=aI) W3 5 NoB)
  go_upto_region 5 with (first
   | (go_at_call 136;refine (HP.out _).mono ?_;rintro e w4 ⟨v4,rfl,ho4,hb4⟩;obtain ⟨qa,qm,qc,w5,hrun,ho5,hb5,hs5⟩:=jQ HM.out hb4 (ho4.slR (fun _ h=>h.elim) (fun k h=>h)) (fun _ h=>h) (by rw [World.size_alloc];omega) (by simp) (by have:=cW p1;omega);have HRUN:=aA hrun;have HO5:=aA ho5;have HB5:=aA (((Below.refl W3.heap.size W3).alloc (Nat.le_refl _) _).trans hb5);clear hrun ho5 hb5 hs5 ho4 hb4 c0 c1 c2 c3 c4 c5)
   | (at_builtin;refine bX rfl (.tmp 21) (.tmp 24) 32 rfl rfl rfl HRUN.out ?_))
  have H5:=aA (H3.out.next HB5.out)
  obtain ⟨c0,c1,c2,c3,c4,c5⟩:=(H5.out.blk 0 rfl).six
  obtain ⟨ra,rm,rc,w6,hrun6,ho6,hb6,_⟩:=jQ HO5.out ((Below.refl w5.heap.size w5).alloc (Nat.le_refl _) _) (mK w5 [eW d,ob] #[.int .u8 (d % 256),.int .u8 ob.toNat] 2 rfl (by simp [mP]) (by simp)) (fun _ h=>h) HB5.out.size (by have:=cW p1;rw [List.nil_append];omega) (by simp)
  have HRUN6:=aA hrun6
  have HO6:=aA ho6
  have HB6:=aA (HB5.out.trans hb6)
  have H6:=aA (H3.out.next HB6.out)
  clear hrun6 ho6 hb6 HRUN
  go_wp2_with (at_builtin;refine bX rfl (.tmp 29) (.tmp 35) 32 rfl rfl rfl HRUN6.out ?_)
  go_ret2
  exact ⟨⟨_,rfl,by have h9:=Own.base HO6.out HW3.out;rw [List.nil_append] at h9;exact h9⟩,H6.out.below⟩
theorem AB (x:aL) (hok:fA x) (hx:zD x) (d n:Int) (p:aB) (v:Value) (w:World) (h:SlR aM w p v x.args):
  Calls Tryz.prog 83 #[bQ x v,.int .i64 d,.int .i64 n] w (ZP w (zW x d n)):=by
 have hz:=hok.size
 have ho:((UInt8.ofNat x.op).toNat:Int)=x.op:=by rw [UInt8.toNat_ofNat',Nat.mod_eq_of_lt hx.op]
 have hlen:=hx.len
 have hF:=fun W (hb:RowKit.Below w.heap.size w W)=>vA x.pg (UInt8.ofNat x.op).toNat d n ⟨x.iop.toArray⟩ ⟨x.ex.toArray⟩ x.al x.args p v W (h.below hb) (by have:=hz.2;omega) (by show x.ex.toArray.size≤_;rw [List.size_toArray];omega)
 rw [show (⟨x.ex.toArray⟩:ByteArray).data.toList=x.ex from rfl] at hF
 obtain ⟨va,vc,rfl⟩:∃a c,v=.slice a x.args.length c:=by obtain ⟨a,c,e,_⟩:=h;exact ⟨a,c,e⟩
 unfold bQ zW
 rw [←ho]
 by_cases h5:5≤x.pg
 ·have hE:kI x d n=aR x.pg++[eW d]++[UInt8.ofNat x.op]:=by unfold kI;rw [if_pos h5]
  rw [hE]
  exact yW x.pg _ _ va _ vc _ _ d n _ w h5 hF
 ·have hE:kI x d n=aR x.pg++[UInt8.ofNat x.op]++(⟨x.ex.toArray⟩:ByteArray).data.toList.flatMap (jN d n):=by unfold kI;rw [if_neg h5]
  rw [hE]
  refine AP x.pg _ _ va _ vc _ _ d n _ w h5 ?_ (fun k hk=>hx.lets _ ?_) hF
  ·show x.ex.toArray.size≤1000;rw [List.size_toArray];omega
  ·have hk3:(⟨x.ex.toArray⟩:ByteArray).size=x.ex.length:=by show x.ex.toArray.size=_;rw [List.size_toArray]
   have hk2:k < x.ex.length:=by omega
   have e:(⟨x.ex.toArray⟩:ByteArray)[k]=x.ex[k]:=by show x.ex.toArray[k]=_;simp
   rw [e];exact List.getElem_mem hk2
theorem elRow:ElT Tryz.prog 39 32 qJ.size 24:=ElT.mk' (z:=.slice none 0 0) Tryz.underlying39 (by kernel_rfl) rfl (by decide)
def RowsP (w:World) (l:List (List UInt8)) (e:Ending) (w':World):Prop:=∃v,e=.returned v∧Acc qJ w' w.heap.size 32 v l∧Below w.heap.size w w'
theorem WT (x:Ins):(lI x).length≤1792:=Nat.le_trans (List.length_filter_le _ _) (xU _ _)
set_option maxHeartbeats 8000000
theorem YX {x:Ins} {e:aL} (h:e∈lI x):qV ⟨e.iop.toArray⟩ x.op e.ex e.args (aE x).args=(mF e (aE x).args,lM e (aE x).args):=by
 obtain ⟨hx,_,h2⟩:=pM h
 have h3:=(KH h).1
 rw [yJ hx.var hx.up hx.ne] at h3
 injection h3 with h4 h5
 injection h5 with h5 _
 exact Prod.ext h4 h5
theorem allR_ex {x:Ins} {e:aL} (h:e∈lI x):(⟨e.ex.toArray⟩:ByteArray).size≤9223372036854775807:=by
 obtain ⟨p,k,hk,hx⟩:=jG (List.mem_filter.1 h).1
 obtain ⟨q,hq,rfl⟩:=sG hx
 exact Nat.le_trans (UP hq hk hx) (by decide)
theorem Forms11_any (x:Ins) (m:CV x) (p:aB) (v:Value) (w:World) (h:SlR aM w p v x.args):
  Calls Tryz.prog 25 #[.agg #[.string x.op,v]] w (RowsP w (nV x)):=by
 have hcl:(aE x).args.length≤1000000:=by have:=m.n;have:=mB x;omega
 have HA:=aA (fun W (hb:RowKit.Below w.heap.size w W)=>RO p x v W (h.below hb) (by have:=m.n;omega) m.f)
 have HBY:=aA (fun e (he:e∈lI x) p v W h=>AB e (pM he).1 (pM he).2.1 (mF e (aE x).args) (lM e (aE x).args) p v W h)
 have HVA:=aA (fun e (he:e∈lI x) p2 v2 W h2 (hb:RowKit.Below w.heap.size w W)=>zY e.pg e.op ⟨e.iop.toArray⟩ ⟨e.ex.toArray⟩ e.al e.args x p2 p v2 v W h2 (h.below hb) (by have:=m.n;omega) m.f (allR_ex he))
 have HNM:=aA (fun e (he:e∈lI x)=>And.intro (YX he) (KH he).2)
 have HLN:=aA (WT x)
 have HFR:Hid (nV x=(lI x).map (forB x)):=aA rfl
 have HEP:Hid (RowsP w (nV x)=fun e w'=>∃v,e=.returned v∧Acc qJ w' w.heap.size 32 v (nV x)∧Below w.heap.size w w'):=aA rfl
 rw [HEP.out]
 clear HEP
 obtain ⟨va,vc,rfl⟩:∃a c,v=.slice a x.args.length c:=by obtain ⟨a,c,e,_⟩:=h;exact ⟨a,c,e⟩
 clear h m hcl
 generalize nV x=R at *
 generalize hFB:forB x=FB at *
 clear hFB
 generalize lI x=L at *
 have HF:=aA ((Fr.start w).new 24 #[.string x.op,.slice va x.args.length vc])
 obtain ⟨W0,hW0⟩:∃W0:World,W0=w.alloc (.cells #[.string x.op,.slice va x.args.length vc] 24):=⟨_,rfl⟩
 rw [←hW0] at HF
 go_enter Tryz.func25,Tryz.ntmps25
 go_upto_region 1 with fail
 rw [←hW0]
 clear hW0
 obtain ⟨a0,a1⟩:=(HF.out.blk 0 rfl).pair
 have HA1:=aA (HA.out _ HF.out.below)
 clear HA
 go_upto_region 4 with (go_at_call 81;refine HA1.out.mono ?_;rintro e w1 ⟨v1,rfl,ho1,hb1⟩;obtain ⟨la,lc,rfl⟩:=ho1.form;have HF1:=aA (HF.out.next hb1);have HS1:=aA ho1.slR.old;clear hb1 ho1 a0 a1)
 clear HF HA1
 have HWW:=aA HF1.out.below.size
 have hgl:=(HF1.out.blk 0 rfl).lt
 go_loopw [3,5] (fun c i wr=>∃k:Nat,k≤L.length∧i=.int .i64 k∧Acc qJ wr w1.heap.size 32 c ((L.take k).map FB)∧Below w1.heap.size w1 wr) (fun _ i _=>L.length - (intOf i).toNat)
 case atStart=>exact ⟨0,Nat.zero_le _,rfl,Acc.nil _ _ _,Below.refl _ _⟩
 case round=>
  obtain ⟨k,hk,rfl,htr,hb⟩:=hrel
  have HTR:=aA htr
  have HB:=aA hb
  obtain ⟨a4,k4,rfl⟩:=htr.form
  have hlk:((L.take k).map FB).length=k:=by rw [List.length_map,List.length_take,Nat.min_eq_left hk]
  have HLK:=aA hlk
  clear htr hb hlk
  have hl9:(L.length:Int)≤1792:=by have:=HLN.out;omega
  by_cases hlt:k < L.length
  ·obtain ⟨a9,c9,e9,_,g9⟩:=(HS1.out.below HB.out).ent6
   injection e9 with e9 e10 e11
   clear e10
   subst e9 e11
   obtain ⟨bb,oo,xa,xc,rfl,hbb,x0,x1,x2,x3,x4,x5,hxs⟩:=g9 k L[k] (List.getElem?_eq_getElem hlt)
   have HXS:=aA hxs
   have hmem:L[k]∈L:=List.getElem_mem hlt
   have htk:(L.take (k+1)).map FB=(L.take k).map FB++[FB L[k]]:=by rw [List.take_succ_eq_append_getElem hlt,List.map_append];rfl
   have HTK:=aA htk
   have HV1:=aA (HVA.out _ hmem)
   have HB1:=aA (HBY.out _ hmem)
   obtain ⟨hn1,hn2⟩:=HNM.out _ hmem
   rw [hn1] at HV1
   rw [hn2] at HB1
   clear g9 hxs hmem htk hn1 hn2 HVA HBY HNM
   generalize L[k]=y at *
   generalize FB y=fb at *
   generalize mF y _=nd at *
   generalize lM y _=nn at *
   generalize (L.take k).map FB=F at *
   obtain ⟨p1,o1,i1,l1,s1,f1⟩:=y
   dsimp only at *
   unfold bQ at HB1
   dsimp only at HB1
   obtain ⟨d0,d1⟩:=((HF1.out.next HB.out).blk 0 rfl).pair
   have HQ:Hid (∀j,wr.heap.size≤j→w1.heap.size≤j∧Value.ownBlock (.slice a4 F.length k4)≠some j):=aA (fun j hj=>⟨Nat.le_trans HB.out.size hj,fun e=>absurd (HTR.out.lt j e).2 (Nat.not_lt.2 hj)⟩)
   have HLB:Hid ((F.length+1) * 24≤140737488355328):=aA (by have:=HLK.out;omega)
   have HLL:Hid (F.length+1≤9223372036854775807):=aA (by have:=HLK.out;omega)
   have HD:Hid (Below wr.heap.size wr wr.drew):=aA (Below.refl _ _).drew
   have HG:=aA ((HF1.out.next HB.out).next HD.out)
   have hdl:w.heap.size < wr.heap.size:=by have:=HB.out.size;omega
   have HXD:=aA (HXS.out.below HD.out)
   have HTD:=aA (HTR.out.stay HD.out)
   have HSL:=aA (HS1.out.below HB.out)
   go_wp2_with fail
   go_region_held3 (fun w'=>w'.cell? ⟨w.heap.size,0,none⟩=some (.string x.op)∧w'.cell? ⟨w.heap.size,1,none⟩=some (.slice va x.args.length vc)∧w'.cell? ⟨bb,oo+k * 6,none⟩=some (.int .i64 p1)∧w'.cell? ⟨bb,oo+k * 6+1,none⟩=some (.int .u8 o1)∧w'.cell? ⟨bb,oo+k * 6+2,none⟩=some (.string ⟨i1.toArray⟩)∧w'.cell? ⟨bb,oo+k * 6+3,none⟩=some (.slice xa l1.length xc)∧w'.cell? ⟨bb,oo+k * 6+4,none⟩=some (.string ⟨s1.toArray⟩)∧w'.cell? ⟨bb,oo+k * 6+5,none⟩=some (.bool f1)) (go_keep)
    (first | (go_at_call 82;refine (HV1.out _ _ _ HXD.out HG.out.below).mono ?_;rintro e w6 ⟨rfl,hb⟩;have HG6:=aA (HG.out.next hb);have HB6:=aA (HD.out.trans hb);have HX6:=aA (HXD.out.below hb);have HT6:=aA (HTD.out.stay hb);have d0:=(hb.cell (p:=⟨w.heap.size,0,none⟩) hdl).trans d0;have d1:=(hb.cell (p:=⟨w.heap.size,1,none⟩) hdl).trans d1;have x0:=(hb.cell (p:=⟨bb,oo+k * 6,none⟩) hbb).trans x0;have x1:=(hb.cell (p:=⟨bb,oo+k * 6+1,none⟩) hbb).trans x1;have x2:=(hb.cell (p:=⟨bb,oo+k * 6+2,none⟩) hbb).trans x2;have x3:=(hb.cell (p:=⟨bb,oo+k * 6+3,none⟩) hbb).trans x3;have x4:=(hb.cell (p:=⟨bb,oo+k * 6+4,none⟩) hbb).trans x4;have x5:=(hb.cell (p:=⟨bb,oo+k * 6+5,none⟩) hbb).trans x5;clear hb))
   go_wp2_with (first
    | (go_at_call 83;refine (HB1.out _ _ _ HX6.out).mono ?_;rintro e w7 ⟨⟨v7,rfl,ho7⟩,hb⟩;obtain ⟨ba,bc,rfl⟩:=ho7.form;have HG7:=aA (HG6.out.next hb);have HB67:=aA (HB6.out.trans (hb.mono HB6.out.size));have HT7:=aA (HT6.out.stay hb);have HR7:=aA (show qJ.rel w7 (fun j=>wr.heap.size≤j) [.slice ba fb.length bc] fb from ⟨_,rfl,Own.slR (q:=fun j=>wr.heap.size≤j) ho7 (fun _ h=>h.elim) (fun j h=>by have:=HB6.out.size;omega)⟩);have HSZ:=aA (show w1.heap.size≤w7.heap.size by have:=HB.out.size;have:=HB67.out.size;omega);clear hb ho7)
    | (at_builtin;refine eM rfl (.tmp 37) (.tmp 39) 39 rfl w1.heap.size 32 24 elRow _ F fb _ (fun j=>wr.heap.size≤j) rfl rfl HT7.out HR7.out HQ.out HLB.out HLL.out HSZ.out ?_;intro a' c' w' hp;have HP:=aA hp;clear hp))
   go_round
   case rel=>exact ⟨k+1,hlt,by go_num,by rw [HTK.out];have:=HP.out.1;simpa using this,(HB.out.trans (HB67.out.mono HB.out.size)).trans (vM.below HP.out HT7.out HSZ.out)⟩
   case measure=>simp [intOf];omega
  ·obtain rfl:k=L.length:=by omega
   have hRR:(L.take L.length).map FB=R:=by rw [List.take_length,HFR.out]
   rw [hRR] at HTR ⊢
   clear hRR
   go_wp2
   go_ret
   exact ⟨_,rfl,HTR.out.base HWW.out,HF1.out.below.trans (HB.out.mono HWW.out)⟩
set_option maxHeartbeats 4000000 in
set_option maxRecDepth 100000 in
theorem UG (a : Option Addr) (c : Nat) (w : World) :
    Calls Tryz.prog 71 #[.slice a 0 c] w fun e w' => (∃ g, e = .returned (.tuple #[.agg cD, .pointer (some ⟨g, 0, none⟩)])) ∧ RowKit.Below w.heap.size w w' := by
  have hmf : ∀ (fn : Fn) (first cap : Array Value) (w : World), (Instr.makeFunc fn first cap).run Tryz.prog w = .ok (.func fn first cap) w := fun _ _ _ _ => rfl
  go_enter_defers Tryz.func71, Tryz.ntmps71
  go_upto_region 3 with fail
  have HF := aA (((((Fr.start w).new' 32 #[.slice a 0 c] (b := w.heap.size) rfl).new' 34 cD (b := w.heap.size + 1) (World.size_alloc _ _)).new' 97 #[.pointer (some ⟨w.heap.size + 1 + 1 + 1, 0, none⟩)] (b := w.heap.size + 1 + 1) (by rw [World.size_alloc, World.size_alloc])).alloc (.cells #[.slice a 0 c, .int .i64 0, .slice none 0 0, .int .i64 0, .int .u8 0, .string ⟨#[]⟩, .slice none 0 0, .string ⟨#[]⟩, .bool false, .int .i64 0, .int .i64 0] dC))
  generalize (((w.alloc (.cells #[.slice a 0 c] 32)).alloc (.cells cD 34)).alloc (.cells #[.pointer (some ⟨w.heap.size + 1 + 1 + 1, 0, none⟩)] 97)).alloc (.cells #[.slice a 0 c, .int .i64 0, .slice none 0 0, .int .i64 0, .int .u8 0, .string ⟨#[]⟩, .slice none 0 0, .string ⟨#[]⟩, .bool false, .int .i64 0, .int .i64 0] dC) = W1 at *
  obtain ⟨⟨c0, c1, c2, c3, c4⟩, f0, f1, f2, f3, f4⟩ := (HF.out.blk 1 rfl).five
  have x0 := (HF.out.blk 0 rfl).one
  obtain ⟨x0, z0⟩ := x0
  go_region
  all_goals go_wp2
  all_goals have FA := (((HF.out.swap.set5 (by omega) (fun x hx => by rcases List.mem_cons.1 hx with e | hx; rw [e]; show w.heap.size + 1 + 1 ≠ w.heap.size + 1; omega; rw [List.mem_singleton.1 hx]; show w.heap.size ≠ w.heap.size + 1; omega) (.int .i64 0) (.slice none 0 0) (.string ⟨#[]⟩) (.slice none 0 0) (.bool false)).swap).set (by omega) (fun x hx => by rcases List.mem_cons.1 hx with e | hx; rw [e]; show w.heap.size + 1 ≠ w.heap.size + 1 + 1; omega; rw [List.mem_singleton.1 hx]; show w.heap.size ≠ w.heap.size + 1 + 1; omega) 0 (.pointer (some ⟨w.heap.size + 1 + 1 + 1, 0, none⟩))).drew
  all_goals have FB := ((HF.out.set (by omega) (fun x hx => by rcases List.mem_cons.1 hx with e | hx; rw [e]; show w.heap.size + 1 ≠ w.heap.size + 1 + 1; omega; rw [List.mem_singleton.1 hx]; show w.heap.size ≠ w.heap.size + 1 + 1; omega) 0 (.pointer (some ⟨w.heap.size + 1 + 1 + 1, 0, none⟩))).swap.set5 (by omega) (fun x hx => by rcases List.mem_cons.1 hx with e | hx; rw [e]; show w.heap.size + 1 + 1 ≠ w.heap.size + 1; omega; rw [List.mem_singleton.1 hx]; show w.heap.size ≠ w.heap.size + 1; omega) (.int .i64 0) (.slice none 0 0) (.string ⟨#[]⟩) (.slice none 0 0) (.bool false)).drew
  all_goals first
    | exact ⟨_, oP rfl rfl (FA.blk 1 rfl) ((FA.blk 0 rfl).cell 0), ⟨_, rfl⟩, FA.below⟩
    | exact ⟨_, oP rfl rfl (FB.blk 0 rfl) ((FB.blk 1 rfl).cell 0), ⟨_, rfl⟩, FB.below⟩
set_option maxHeartbeats 4000000 in
set_option maxRecDepth 100000 in
theorem MO (a : Option Addr) (c : Nat) (w : World) :
    Calls Tryz.prog 22 #[.slice a 0 c] w fun e w' => e = .returned (.agg cD) ∧ RowKit.Below w.heap.size w w' := by
  have HRD := aA (fun W => UG a c W)
  have HF0 := aA ((Fr.start w).new 34 cD)
  obtain ⟨W0, hW0⟩ : ∃ W : World, W = w.alloc (.cells cD 34) := ⟨_, rfl⟩
  rw [← hW0] at HF0
  go_enter Tryz.func22, Tryz.ntmps22
  go_upto_region 1 with fail
  rw [← hW0]
  clear hW0
  go_upto_region 2 with (go_at_call 71; refine (HRD.out _).mono ?_; rintro e w1 ⟨⟨g, rfl⟩, hb⟩; have HF1 := aA (HF0.out.next hb); clear hb)
  have HF2 := aA ((HF1.out.new' 34 cD (b := w1.heap.size) rfl))
  have HZ : Hid (w.heap.size < w1.heap.size) := aA ((HF1.out.blk 0 rfl).lt)
  generalize w1.alloc (.cells cD 34) = W2 at *
  generalize w1.heap.size = tb at *
  obtain ⟨⟨c0, c1, c2, c3, c4⟩, _⟩ := (HF2.out.blk 0 rfl).five
  obtain ⟨⟨m0, m1, m2, m3, m4⟩, g0, g1, g2, g3, g4⟩ := (HF2.out.blk 1 rfl).five
  go_wp2
  have F5 := aA (HF2.out.swap.set5 (Nat.le_refl _) (fun x hx => by rw [List.mem_singleton.1 hx]; have := HZ.out; show tb ≠ w.heap.size; omega) (.int .i64 0) (.slice none 0 0) (.string ⟨#[]⟩) (.slice none 0 0) (.bool false))
  exact bodyPost_ret (eG rfl rfl (F5.out.blk 0 rfl) rfl) rfl ⟨rfl, F5.out.below⟩
set_option maxHeartbeats 4000000 in
set_option maxRecDepth 100000 in
theorem InstrD_nil (a : Option Addr) (c : Nat) (w : World) :
    Calls Tryz.prog 26 #[.slice a 0 c] w fun e w' => e = .returned (.tuple #[.agg #[.string ⟨#[]⟩, .slice none 0 0], .bool false]) ∧ RowKit.Below w.heap.size w w' := by
  have HFI := aA (fun W => MO a c W)
  have HF0 := aA ((Fr.start w).new 24 #[.string ⟨#[]⟩, .slice none 0 0])
  obtain ⟨W0, hW0⟩ : ∃ W : World, W = w.alloc (.cells #[.string ⟨#[]⟩, .slice none 0 0] 24) := ⟨_, rfl⟩
  rw [← hW0] at HF0
  go_enter Tryz.func26, Tryz.ntmps26
  go_upto_region 1 with fail
  rw [← hW0]
  clear hW0
  go_upto_region 2 with (go_at_call 22; refine (HFI.out _).mono ?_; rintro e w1 ⟨rfl, hb⟩; have HF1 := aA (HF0.out.next hb); clear hb)
  have HF2 := aA ((HF1.out.new' 34 cD (b := w1.heap.size) rfl))
  have HZ : Hid (w.heap.size < w1.heap.size) := aA ((HF1.out.blk 0 rfl).lt)
  generalize w1.alloc (.cells cD 34) = W2 at *
  generalize w1.heap.size = tb at *
  obtain ⟨⟨c0, c1, c2, c3, c4⟩, _⟩ := (HF2.out.blk 0 rfl).five
  obtain ⟨m0, m1, g0, g1⟩ := (HF2.out.blk 1 rfl).two
  go_wp2
  have F2 := aA ((HF2.out.swap.set (Nat.le_refl _) (fun x hx => by rw [List.mem_singleton.1 hx]; have := HZ.out; show tb ≠ w.heap.size; omega) 0 (.string ⟨#[]⟩)).set (Nat.le_refl _) (fun x hx => by rw [List.mem_singleton.1 hx]; have := HZ.out; show tb ≠ w.heap.size; omega) 1 (.slice none 0 0))
  exact bodyPost_ret (aN rfl rfl (F2.out.blk 0 rfl)) rfl ⟨rfl, F2.out.below⟩
set_option maxHeartbeats 4000000 in
set_option maxRecDepth 100000 in
theorem InstrD_no (p : aB) (a : Option Addr) (c : Nat) (l : List UInt8) (w : World) (hT : Spc w) (hs : SlR aI w p (.slice a l.length c) l) (h0 : 0 < l.length) (hl : l.length ≤ 1000000) (hno : ¬ ((itF l).k = 1 ∧ (l.take (itF l).n).length = l.length)) :
    Calls Tryz.prog 26 #[.slice a l.length c] w fun e w' => e = .returned (.tuple #[.agg #[.string ⟨#[]⟩, .slice none 0 0], .bool false]) ∧ RowKit.Below w.heap.size w w' := by
  have HFI := aA (fun W (hb : RowKit.Below w.heap.size w W) => kE p a c l W (hT.below hb) (hs.below hb) h0 hl)
  have HNO := aA hno
  have HF0 := aA ((Fr.start w).new 24 #[.string ⟨#[]⟩, .slice none 0 0])
  obtain ⟨R1, hR1⟩ : ∃ R, R = l.take (itF l).n := ⟨_, rfl⟩
  rw [← hR1] at HNO
  have HR1 := aA hR1
  clear hT hs h0 hl hno hR1
  generalize itF l = IT at *
  obtain ⟨W0, hW0⟩ : ∃ W : World, W = w.alloc (.cells #[.string ⟨#[]⟩, .slice none 0 0] 24) := ⟨_, rfl⟩
  rw [← hW0] at HF0
  by_cases hk : IT.k = 1
  · have hn : ¬ (R1.length : Int) = (l.length : Int) := fun h => HNO.out ⟨hk, by omega⟩
    have HK := aA hk
    clear hk
    go_enter Tryz.func26, Tryz.ntmps26
    go_upto_region 1 with fail
    rw [← hW0]
    clear hW0
    go_upto_region 2 with (go_at_call 22; refine (HFI.out _ HF0.out.below).mono ?_; rintro e w1 ⟨⟨v, rfl, hi⟩, hb⟩; obtain ⟨ra, rc, va, vc, hv, _, h2⟩ := hi; unfold qU at hv; rw [← HR1.out, HK.out] at hv; subst hv; have HF1 := aA (HF0.out.next hb); clear h2 hb)
    have HF2 := aA ((HF1.out.new' 34 #[.int .i64 1, .slice ra R1.length rc, .string ⟨IT.op.toArray⟩, .slice va IT.args.length vc, .bool IT.al] (b := w1.heap.size) rfl))
    have HZ : Hid (w.heap.size < w1.heap.size) := aA ((HF1.out.blk 0 rfl).lt)
    generalize w1.alloc (.cells #[.int .i64 1, .slice ra R1.length rc, .string ⟨IT.op.toArray⟩, .slice va IT.args.length vc, .bool IT.al] 34) = W2 at *
    generalize w1.heap.size = tb at *
    obtain ⟨⟨c0, c1, c2, c3, c4⟩, _⟩ := (HF2.out.blk 0 rfl).five
    obtain ⟨m0, m1, g0, g1⟩ := (HF2.out.blk 1 rfl).two
    go_wp2
    have F2 := aA ((HF2.out.swap.set (Nat.le_refl _) (fun x hx => by rw [List.mem_singleton.1 hx]; have := HZ.out; show tb ≠ w.heap.size; omega) 0 (.string ⟨#[]⟩)).set (Nat.le_refl _) (fun x hx => by rw [List.mem_singleton.1 hx]; have := HZ.out; show tb ≠ w.heap.size; omega) 1 (.slice none 0 0))
    exact bodyPost_ret (aN rfl rfl (F2.out.blk 0 rfl)) rfl ⟨rfl, F2.out.below⟩
  · go_enter Tryz.func26, Tryz.ntmps26
    go_upto_region 1 with fail
    rw [← hW0]
    clear hW0
    go_upto_region 2 with (go_at_call 22; refine (HFI.out _ HF0.out.below).mono ?_; rintro e w1 ⟨⟨v, rfl, hi⟩, hb⟩; obtain ⟨ra, rc, va, vc, hv, _, h2⟩ := hi; unfold qU at hv; rw [← HR1.out] at hv; subst hv; have HF1 := aA (HF0.out.next hb); clear h2 hb)
    have HF2 := aA ((HF1.out.new' 34 #[.int .i64 IT.k, .slice ra R1.length rc, .string ⟨IT.op.toArray⟩, .slice va IT.args.length vc, .bool IT.al] (b := w1.heap.size) rfl))
    have HZ : Hid (w.heap.size < w1.heap.size) := aA ((HF1.out.blk 0 rfl).lt)
    generalize w1.alloc (.cells #[.int .i64 IT.k, .slice ra R1.length rc, .string ⟨IT.op.toArray⟩, .slice va IT.args.length vc, .bool IT.al] 34) = W2 at *
    generalize w1.heap.size = tb at *
    obtain ⟨⟨c0, c1, c2, c3, c4⟩, _⟩ := (HF2.out.blk 0 rfl).five
    obtain ⟨m0, m1, g0, g1⟩ := (HF2.out.blk 1 rfl).two
    go_wp2
    have F2 := aA ((HF2.out.swap.set (Nat.le_refl _) (fun x hx => by rw [List.mem_singleton.1 hx]; have := HZ.out; show tb ≠ w.heap.size; omega) 0 (.string ⟨#[]⟩)).set (Nat.le_refl _) (fun x hx => by rw [List.mem_singleton.1 hx]; have := HZ.out; show tb ≠ w.heap.size; omega) 1 (.slice none 0 0))
    exact bodyPost_ret (aN rfl rfl (F2.out.blk 0 rfl)) rfl ⟨rfl, F2.out.below⟩
end Go.Proofs.YtmpmciccgempeaaGreatDoor
