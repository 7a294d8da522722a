/-
  Functions of the program and of the reference, walked; plain facts on what they compute. Conditions: sizes.
-/
import Derived.Test.YtpigbggoiipmhaaGreatDoorBC3
import Derived.Defers
import Derived.Recover
namespace Go.Proofs.YtpigbggoiipmhaaGreatDoor
open Go.RowKit Go.Shelf Go.Sort
theorem UB (a b c:Value):(#[a,b,c]:Array Value)++Array.replicate (Tryz.f112.ntmps-(#[a,b,c]:Array Value).size) undef=#[a,b,c,undef,undef,undef,undef,undef,undef,undef,undef,undef,undef,undef,undef,undef,undef,undef,undef]:=by rw [Tryz.ntmps112];rfl
set_option maxHeartbeats 4000000 in
set_option maxRecDepth 100000 in
theorem DR (x b o:Addr) (w:World):
  CallsD Tryz.prog 112 #[.pointer (some x),.pointer (some b),.pointer (some o)] .returning w λe u' w'=>e=.returned (.tuple #[])/\u'=.returning/\w'=w:=by
 refine callsD_of_wpS Tryz.func112 rfl λc₀ cs hu=>?_;rw [UB];apply wpS_seq;apply wpS_region;simp [wpOpsS,go_sem,recoverD,hu,Exit.thenS];refine wpS_of_wp ?_;go_wp2;cases c₀
 simp_all [bodyPostS,results,Tryz.results112]
def CatP (wz:World) (xb bb ob g:Nat) (cs:Array Value) (l:List UInt8) (vx vb:Value) (w':World):Prop:=∃ra rc,Fr wz [(ob,tJ,#[.int .i64 4,.slice ra l.length rc,.string ⟨#[]⟩,.slice none 0 0,.bool false]),(g,dC,cs),(xb,110,#[vx]),(bb,22,#[vb])] w'/\SlR aI w' (λk=>wz.heap.size<=k) (.slice ra l.length rc) l
set_option maxHeartbeats 4000000 in
set_option maxRecDepth 100000 in
theorem DV (wz:World) (p:aB) (xb bb ob g:Nat) (cs:Array Value) (ad:Addr) (c:Nat) (l:List UInt8) (older:List PanicEntry) (w:World)
  (h:Fr wz [(ob,tJ,cD),(g,dC,cs),(xb,110,#[.pointer (some ⟨g,0,none⟩)]),(bb,22,#[.slice (some ad) l.length c])] w)
  (h0:cs[0]?=some (.slice (some ad) l.length c)) (hs:SlR aI wz p (.slice (some ad) l.length c) l) (hl:l.length<=1000000) (hz:wz.heap.size<=ob) (hn:g≠ob/\xb≠ob/\bb≠ob):
  CallsD Tryz.prog 112 #[.pointer (some ⟨xb,0,none⟩),.pointer (some ⟨bb,0,none⟩),.pointer (some ⟨ob,0,none⟩)] (.panicking ({v:=.iface 179 (.agg #[]),recovered:=false}::older)) w λe u' w'=>e=.returned (.tuple #[])/\u'=.panicking ({v:=.iface 179 (.agg #[]),recovered:=true}::older)/\CatP wz xb bb ob g cs l (.pointer (some ⟨g,0,none⟩)) (.slice (some ad) l.length c) w':=by
 have hta:∀W:World,(Instr.typeAssert (.iface 179 (.agg #[])) 20 179 true).run Tryz.prog W=.ok (.tuple #[.agg #[],.bool true]) W:=λ_=>by kernel_rfl
 refine callsD_of_wpS Tryz.func112 rfl λc₀ cc hu=>?_;rw [UB];apply wpS_seq;apply wpS_region;simp [wpOpsS,go_sem,recoverD,hu,Exit.thenS];refine wpS_of_wp ?_;go_upto_region 7 with fail;have HF:=aA (h.alloc (.cells #[] 179));have HFD:=aA HF.out.drew;have HRW:=aA (pN g cs _ ad c l l.length _ (HFD.out.blk 1 rfl) h0 (hs.old.below HFD.out.below) (zI _) hl);rw [z0L] at HRW;have x0:(w.alloc (.cells #[] 179)).cell? ⟨xb,0,none⟩=some (.pointer (some ⟨g,0,none⟩)):=(HF.out.blk 2 rfl).cell 0;have y0:(w.alloc (.cells #[] 179)).cell? ⟨bb,0,none⟩=some (.slice (some ad) l.length c):=(HF.out.blk 3 rfl).cell 0;have HZO:Hid (ob<(w.alloc (.cells #[] 179)).drew.heap.size):=aA ((HFD.out.blk 0 rfl).lt);generalize w.alloc (.cells #[] 179)=W at *;clear h h0 hs hl;go_region_law ((go_simp;(go_at_call 113;refine (HRW.out).mono ?_;rintro e w4 ⟨v4,rfl,ho4,hb4⟩;obtain ⟨ra,rc,rfl⟩:=ho4.form;have HO4:=aA ho4;have HF4:=aA (HFD.out.next hb4);obtain ⟨⟨c0,c1,c2,c3,c4⟩,f0,f1,f2,f3,f4⟩:=(HF4.out.blk 0 rfl).five;clear ho4 hb4);dsimp only));all_goals go_wp2
 all_goals have F5:=aA (HF4.out.set5 hz (λx hx=>by rcases ZR.1 hx with e|hx;rw [e];exact hn.1;rcases ZR.1 hx with e|hx;rw [e];exact hn.2.1;rw [XJ.1 hx];exact hn.2.2) (.int .i64 4) (.slice ra l.length rc) (.string ⟨#[]⟩) (.slice none 0 0) (.bool false))
 all_goals have HC:CatP wz xb bb ob g cs l (.pointer (some ⟨g,0,none⟩)) (.slice (some ad) l.length c) (((((w4.setCell ⟨ob,0,none⟩ (.int .i64 4)).setCell ⟨ob,1,none⟩ (.slice ra l.length rc)).setCell ⟨ob,2,none⟩ (.string ⟨#[]⟩)).setCell ⟨ob,3,none⟩ (.slice none 0 0)).setCell ⟨ob,4,none⟩ (.bool false)):=⟨ra,rc,F5.out,Own.slR (q:=λk=>wz.heap.size<=k) (((((HO4.out.off HZO.out 0 _).off HZO.out 1 _).off HZO.out 2 _).off HZO.out 3 _).off HZO.out 4 _) (λ_ h=>h.elim) (λk hk=>by have:=HZO.out;omega)⟩
 all_goals generalize ((((w4.setCell ⟨ob,0,none⟩ (.int .i64 4)).setCell ⟨ob,1,none⟩ (.slice ra l.length rc)).setCell ⟨ob,2,none⟩ (.string ⟨#[]⟩)).setCell ⟨ob,3,none⟩ (.slice none 0 0)).setCell ⟨ob,4,none⟩ (.bool false)=W5 at *
 all_goals simp [bodyPostS,results,Tryz.results112]
 all_goals exact HC
theorem TT {l:List UInt8} (h:(itF l).k=4):itF l=⟨4,l.length,[],[],false⟩:=by
 unfold itF itS at h ⊢;split
 ·rfl
 ·rename_i h1;rw [if_neg h1] at h;split at h
  ·rename_i e k he;unfold itE at h ⊢;split
   ·rfl
   ·rename_i h2;rw [if_neg h2] at h;exact absurd h (by show ¬(1:Int)=4;decide)
  ·rename_i k he;split at h
   ·exact absurd h (by show ¬(2:Int)=4;decide)
   ·exact absurd h (by show ¬(3:Int)=4;decide)
def WI (w:World) (l:List UInt8) (vb:Value) (e:Ending) (w':World):Prop:=(∃g v,e=.returned (.tuple #[v,.pointer (some ⟨g,0,none⟩)])/\dW w' w.heap.size (itF l) l v/\((itF l).k=4->JY w' g vb l))/\RowKit.Below w.heap.size w w'
theorem oP {tmps:Array Value} {w':World} {ob xb:Nat} {v0 v1 v2 v3 v4:Value} {u:Option Addr} (hp:tmps.getD 2 undef=.pointer (some ⟨ob,0,none⟩)) (hq:tmps.getD 3 undef=.pointer (some ⟨xb,0,none⟩)) (ho:Blk w' ob tJ #[v0,v1,v2,v3,v4]) (hx:w'.cell? ⟨xb,0,none⟩=some (.pointer u)):
  (results Tryz.f67 tmps).run Tryz.prog w'=.ok (.tuple #[.agg #[v0,v1,v2,v3,v4],.pointer u]) w':=by
 obtain ⟨⟨c0,c1,c2,c3,c4⟩,_⟩:=ho.five;have hp':tmps[2]?.getD undef=.pointer (some ⟨ob,0,none⟩):=by simpa using hp
 have hq':tmps[3]?.getD undef=.pointer (some ⟨xb,0,none⟩):=by simpa using hq
 simp [results,Tryz.results67,hp',hq',go_sem,hx,c0,c1,c2,c3,c4]
theorem tP (w wz w4:World) (p:aB) (bb ob xb g:Nat) (ad:Addr) (c:Nat) (l:List UInt8) (tmps:Array Value) (hp:tmps.getD 2 undef=.pointer (some ⟨ob,0,none⟩)) (hq:tmps.getD 3 undef=.pointer (some ⟨xb,0,none⟩))
  (hz:Fr w [(xb,110,#[.pointer (some ⟨g,0,none⟩)]),(ob,32,cD),(bb,22,#[.slice (some ad) l.length c])] wz) (hb:RowKit.Below wz.heap.size wz w4) (hn:JY w4 g (.slice (some ad) l.length c) l) (hk:(itF l).k=4)
  (hs:SlR aI w p (.slice (some ad) l.length c) l) (hl:l.length<=1000000) (ho:w.heap.size<=ob) (hne:g≠ob/\xb≠ob/\bb≠ob):
  bodyPostD Tryz.prog Tryz.f67 (WI w l (.slice (some ad) l.length c)) (Exit.panic xA) {tmps:=tmps,defers:=[{target:=Target.fn (Fn.func 112) #[.pointer (some ⟨xb,0,none⟩),.pointer (some ⟨bb,0,none⟩),.pointer (some ⟨ob,0,none⟩)],args:=#[]}]} w4:=by
 obtain ⟨xe,va,qa,vn,vc,qc,k,d,n,hblk,hcase⟩:=hn;have hF:=hz.next hb;have hF4:Fr w [(ob,tJ,cD),(g,dC,dcC (.slice (some ad) l.length c) (.slice qa (aR (pgB l)).length qc) xe.pg xe.op ⟨xe.iop.toArray⟩ (.slice va vn vc) ⟨xe.ex.toArray⟩ xe.al k d n),(xb,110,#[.pointer (some ⟨g,0,none⟩)]),(bb,22,#[.slice (some ad) l.length c])] w4:=⟨hF.below,λx hx=>by
  rcases ZR.1 hx with e|hx
  ·rw [e];exact hF.blk 1 rfl
  rcases ZR.1 hx with e|hx
  ·rw [e];exact hblk
  rcases ZR.1 hx with e|hx
  ·rw [e];exact hF.blk 0 rfl
  ·rw [XJ.1 hx];exact hF.blk 2 rfl⟩
 refine leaves_cons (f:=112) (args:=#[.pointer (some ⟨xb,0,none⟩),.pointer (some ⟨bb,0,none⟩),.pointer (some ⟨ob,0,none⟩)]) (by simp) (by simp [go_sem]) ?_;refine (DV w p xb bb ob g _ ad c l [] w4 hF4 rfl hs hl ho hne).mono ?_;rintro e u' w5 ⟨rfl,rfl,ra,rc,hF5,hS5⟩;have hres:=oP hp hq (hF5.blk 0 rfl) ((hF5.blk 2 rfl).cell 0);simp only [Leaves,settle,List.dropWhile];refine ⟨_,hres,⟨g,_,rfl,?_,λ_=>⟨xe,va,qa,vn,vc,qc,k,d,n,hF5.blk 1 rfl,hcase⟩⟩,hF5.below⟩;rw [TT hk];have ht:l.take (⟨4,l.length,[],[],false⟩:Itm).n=l:=z0L;refine ⟨ra,rc,none,0,?_,?_,SlR.nil _ _ _⟩
 ·rw [ht];rfl
 ·rw [ht];exact hS5
theorem AW (w w5:World) (bb ob xb g:Nat) (vb:Value) (l:List UInt8) (v0 v1 v2 v3 v4:Value) (tmps:Array Value) (hp:tmps.getD 2 undef=.pointer (some ⟨ob,0,none⟩)) (hq:tmps.getD 3 undef=.pointer (some ⟨xb,0,none⟩))
  (ho:Blk w5 ob tJ #[v0,v1,v2,v3,v4]) (hx:w5.cell? ⟨xb,0,none⟩=some (.pointer (some ⟨g,0,none⟩))) (hi:dW w5 w.heap.size (itF l) l (.agg #[v0,v1,v2,v3,v4])) (hk:¬(itF l).k=4) (hb:RowKit.Below w.heap.size w w5):
  bodyPostD Tryz.prog Tryz.f67 (WI w l vb) Exit.ret {tmps:=tmps,defers:=[{target:=Target.fn (Fn.func 112) #[.pointer (some ⟨xb,0,none⟩),.pointer (some ⟨bb,0,none⟩),.pointer (some ⟨ob,0,none⟩)],args:=#[]}]} w5:=by
 refine leaves_cons (f:=112) (args:=#[.pointer (some ⟨xb,0,none⟩),.pointer (some ⟨bb,0,none⟩),.pointer (some ⟨ob,0,none⟩)]) (by simp) (by simp [go_sem]) ?_;refine (DR ⟨xb,0,none⟩ ⟨bb,0,none⟩ ⟨ob,0,none⟩ w5).mono ?_;rintro e u' w6 ⟨rfl,rfl,hw6⟩;subst w6;exact ⟨_,oP hp hq ho hx,⟨g,_,rfl,hi,λh=>absurd h hk⟩,hb⟩
set_option maxHeartbeats 4000000 in
set_option maxRecDepth 100000 in
theorem BH (p:aB) (a:Option Addr) (c:Nat) (l:List UInt8) (w:World) (hT:Spc w) (hs:SlR aI w p (.slice a l.length c) l) (h0:0<l.length) (hl:l.length<=1000000):
  Calls Tryz.prog 67 #[.slice a l.length c] w (WI w l (.slice a l.length c)):=by
 obtain ⟨b0,o0,rfl,_,_,_⟩:=nN hs h0;have hmf:∀(fn:Fn) (first cap:Array Value) (w:World),(Instr.makeFunc fn first cap).run Tryz.prog w=.ok (.func fn first cap) w:=λ_ _ _ _=>rfl;have h0':¬(l.length:Int)=0:=by omega
 have HZ:=aA ((((Fr.start w).new' 22 #[.slice (some ⟨b0,o0,none⟩) l.length c] (b:=w.heap.size) rfl).new' 32 cD (b:=w.heap.size+1) (zW _ _)).new' 110 #[.pointer (some ⟨w.heap.size+1+1+1,0,none⟩)] (b:=w.heap.size+1+1) (by rw [zW,zW]));obtain ⟨wz,hwz⟩:∃W:World,W=((w.alloc (.cells #[.slice (some ⟨b0,o0,none⟩) l.length c] 22)).alloc (.cells cD 32)).alloc (.cells #[.pointer (some ⟨w.heap.size+1+1+1,0,none⟩)] 110):=⟨_,rfl⟩;have hzs:wz.heap.size=w.heap.size+1+1+1:=by rw [hwz,zW,zW,zW]
 rw [<-hwz] at HZ;have HFg:=aA ((Fr.start wz).new' dC (dcC (.slice (some ⟨b0,o0,none⟩) l.length c) (.slice none 0 0) 0 0 ⟨#[]⟩ (.slice none 0 0) ⟨#[]⟩ false 0 0 0) (b:=w.heap.size+1+1+1) hzs);have HIT:=aA (λW h=>VY wz (hT.below HZ.out.below) (w.heap.size+1+1+1) (by omega) _ (some ⟨b0,o0,none⟩) c l (hs.old.below HZ.out.below) h0 hl W h);have HFW:=aA (HZ.out.next ((zY _ _).alloc (zI _) (.cells (dcC (.slice (some ⟨b0,o0,none⟩) l.length c) (.slice none 0 0) 0 0 ⟨#[]⟩ (.slice none 0 0) ⟨#[]⟩ false 0 0 0) dC)));have HSZ:=aA hzs;have HSL:=aA hs;have HL:=aA hl;clear hT hs hl hzs;go_enter_defers Tryz.func67,Tryz.ntmps67;go_upto_region 5 with fail;rw [<-hwz];clear hwz;have HWD:Hid (wz.alloc (.cells #[.slice (some ⟨b0,o0,none⟩) l.length c,.int .i64 0,.slice none 0 0,.int .i64 0,.int .u8 0,.string ⟨#[]⟩,.slice none 0 0,.string ⟨#[]⟩,.bool false,.int .i64 0,.int .i64 0] dC)=wz.alloc (.cells (dcC (.slice (some ⟨b0,o0,none⟩) l.length c) (.slice none 0 0) 0 0 ⟨#[]⟩ (.slice none 0 0) ⟨#[]⟩ false 0 0 0) dC)):=aA rfl;rw [HWD.out];generalize wz.alloc (.cells (dcC (.slice (some ⟨b0,o0,none⟩) l.length c) (.slice none 0 0) 0 0 ⟨#[]⟩ (.slice none 0 0) ⟨#[]⟩ false 0 0 0) dC)=W at *;clear HWD;have HFgd:=aA HFg.out.drew;have x0:W.cell? ⟨w.heap.size+1+1,0,none⟩=some (.pointer (some ⟨w.heap.size+1+1+1,0,none⟩)):=(HFW.out.blk 0 rfl).cell 0;by_cases hk:(itF l).k=4
 ·have HK:=aA hk;clear hk;refine wp_region_any (by kernel_rfl) ?_;change wpAny _ _ _ _ _ _ _ (World.drew _);refine wpAny_ready (rs:=[0,2]) (by kernel_rfl) (by simp) ?_;refine AllReady.cons rfl (λK hK=>?_) ?_
  ·go_simp;refine hK _ _ ?_;clear hK K;refine wpAny_ready (rs:=[1,2]) (by kernel_rfl) (by simp) ?_;refine AllReady.cons rfl (λK hK=>?_) ?_
   ·go_simp;exact tX1e
   exact tX13
  refine AllReady.cons rfl (λK hK=>?_) AllReady.nil;go_simp;refine hK _ _ ?_;clear hK K;refine wpAny_ready (rs:=[0]) (by kernel_rfl) (by simp) ?_;exact tX13
 ·have HK:=aA hk;clear hk;obtain ⟨R1,hR1⟩:∃R,R=l.take (itF l).n:=⟨_,rfl⟩;have HR1:=aA hR1;clear hR1;go_region_law ((go_simp;(go_at_call 114;refine (HIT.out _ HFgd.out).mono ?_;rintro e w4 ⟨hb4,hi4⟩;rw [if_neg HK.out] at hi4;obtain ⟨_,v4,rfl,hi5⟩:=hi4;obtain ⟨ra,rc,va,vc,rfl,h1,h2⟩:=hi5;rw [<-HR1.out] at h1 ⊢;have H1:=aA h1;have H2:=aA h2;have HF4:=aA (HZ.out.next hb4);obtain ⟨⟨c0,c1,c2,c3,c4⟩,f0,f1,f2,f3,f4⟩:=(HF4.out.blk 1 rfl).five;clear x0;have x0:w4.cell? ⟨w.heap.size+1+1,0,none⟩=some (.pointer (some ⟨w.heap.size+1+1+1,0,none⟩)):=(HF4.out.blk 0 rfl).cell 0;have z0:=(HF4.out.blk 0 rfl).free 0;clear h1 h2 hb4;unfold qU);dsimp only));all_goals go_wp2
  all_goals have HM:dW w4 wz.heap.size (itF l) l (.agg #[.int .i64 (itF l).k,.slice ra R1.length rc,.string ⟨(itF l).op.toArray⟩,.slice va (itF l).args.length vc,.bool (itF l).al]):=⟨ra,rc,va,vc,by rw [<-HR1.out];rfl,by rw [<-HR1.out];exact H1.out,H2.out⟩
  all_goals have hb1:w.heap.size+1<wz.heap.size:=by rw [HSZ.out];omega
  all_goals have hb2:w.heap.size+1+1<wz.heap.size:=by rw [HSZ.out];omega
  all_goals have hb3:w.heap.size<=wz.heap.size:=by omega
  all_goals have FA:=((HF4.out.swap.set5 (by omega) (λx hx=>by rcases ZR.1 hx with e|hx;rw [e];show w.heap.size+1+1≠w.heap.size+1;omega;rw [XJ.1 hx];show w.heap.size≠w.heap.size+1;omega) (.int .i64 (itF l).k) (.slice ra R1.length rc) (.string ⟨(itF l).op.toArray⟩) (.slice va (itF l).args.length vc) (.bool (itF l).al)).swap).set (by omega) (λx hx=>by rcases ZR.1 hx with e|hx;rw [e];show w.heap.size+1≠w.heap.size+1+1;omega;rw [XJ.1 hx];show w.heap.size≠w.heap.size+1+1;omega) 0 (.pointer (some ⟨w.heap.size+1+1+1,0,none⟩))
  all_goals have FB:=((HF4.out.set (by omega) (λx hx=>by rcases ZR.1 hx with e|hx;rw [e];show w.heap.size+1≠w.heap.size+1+1;omega;rw [XJ.1 hx];show w.heap.size≠w.heap.size+1+1;omega) 0 (.pointer (some ⟨w.heap.size+1+1+1,0,none⟩))).swap.set5 (by omega) (λx hx=>by rcases ZR.1 hx with e|hx;rw [e];show w.heap.size+1+1≠w.heap.size+1;omega;rw [XJ.1 hx];show w.heap.size≠w.heap.size+1;omega) (.int .i64 (itF l).k) (.slice ra R1.length rc) (.string ⟨(itF l).op.toArray⟩) (.slice va (itF l).args.length vc) (.bool (itF l).al))
  all_goals first
   | exact AW w _ w.heap.size (w.heap.size+1) (w.heap.size+1+1) (w.heap.size+1+1+1) _ l _ _ _ _ _ _ rfl rfl (FA.blk 1 rfl) ((FA.blk 0 rfl).cell 0) (((HM.off5 hb1 _ _ _ _ _).off hb2 0 _).base hb3) HK.out FA.below
   | exact AW w _ w.heap.size (w.heap.size+1) (w.heap.size+1+1) (w.heap.size+1+1+1) _ l _ _ _ _ _ _ rfl rfl (FB.blk 0 rfl) ((FB.blk 1 rfl).cell 0) (((HM.off hb2 0 _).off5 hb1 _ _ _ _ _).base hb3) HK.out FB.below
set_option maxHeartbeats 4000000 in
set_option maxRecDepth 100000 in
theorem kE (p:aB) (a:Option Addr) (c:Nat) (l:List UInt8) (w:World) (hT:Spc w) (hs:SlR aI w p (.slice a l.length c) l) (h0:0<l.length) (hl:l.length<=1000000):
  Calls Tryz.prog 25 #[.slice a l.length c] w (WJ w (itF l) l):=by
 have HRD:=aA (λW (hb:RowKit.Below w.heap.size w W)=>BH p a c l W (hT.below hb) (hs.below hb) h0 hl);have HF0:=aA ((Fr.start w).new 32 cD);clear hT hs h0 hl;obtain ⟨W0,hW0⟩:∃W:World,W=w.alloc (.cells cD 32):=⟨_,rfl⟩;rw [<-hW0] at HF0;obtain ⟨R1,hR1⟩:∃R,R=l.take (itF l).n:=⟨_,rfl⟩;have HR1:=aA hR1;clear hR1;go_enter Tryz.func25,Tryz.ntmps25;go_upto_region 1 with fail;rw [<-hW0];clear hW0;go_upto_region 2 with (go_at_call 67;refine (HRD.out _ HF0.out.below).mono ?_;rintro e w1 ⟨⟨g,v,rfl,hi,_⟩,hb⟩;obtain ⟨ra,rc,va,vc,rfl,h1,h2⟩:=hi;rw [<-HR1.out] at h1 ⊢;have H1:=aA h1;have H2:=aA h2;have HF1:=aA (HF0.out.next hb);clear h1 h2 hb;unfold qU);have HF2:=aA ((HF1.out.new' 32 #[.int .i64 (itF l).k,.slice ra R1.length rc,.string ⟨(itF l).op.toArray⟩,.slice va (itF l).args.length vc,.bool (itF l).al] (b:=w1.heap.size) rfl));have HZ:Hid (w.heap.size<w1.heap.size):=aA ((HF1.out.blk 0 rfl).lt);have HZ0:Hid (w.heap.size<W0.heap.size):=aA ((HF0.out.blk 0 rfl).lt);have HA1:=aA (H1.out.alloc (.cells #[.int .i64 (itF l).k,.slice ra R1.length rc,.string ⟨(itF l).op.toArray⟩,.slice va (itF l).args.length vc,.bool (itF l).al] 32));have HA2:=aA (H2.out.alloc (.cells #[.int .i64 (itF l).k,.slice ra R1.length rc,.string ⟨(itF l).op.toArray⟩,.slice va (itF l).args.length vc,.bool (itF l).al] 32));generalize w1.alloc (.cells #[.int .i64 (itF l).k,.slice ra R1.length rc,.string ⟨(itF l).op.toArray⟩,.slice va (itF l).args.length vc,.bool (itF l).al] 32)=W2 at *;generalize w1.heap.size=tb at *;obtain ⟨⟨c0,c1,c2,c3,c4⟩,_⟩:=(HF2.out.blk 0 rfl).five;obtain ⟨⟨m0,m1,m2,m3,m4⟩,g0,g1,g2,g3,g4⟩:=(HF2.out.blk 1 rfl).five;go_wp2;have F5:=aA (HF2.out.swap.set5 (zI _) (λx hx=>by rw [XJ.1 hx];have:=HZ.out;show tb≠w.heap.size;omega) (.int .i64 (itF l).k) (.slice ra R1.length rc) (.string ⟨(itF l).op.toArray⟩) (.slice va (itF l).args.length vc) (.bool (itF l).al));refine yR (eG rfl rfl (F5.out.blk 0 rfl) rfl) rfl ⟨⟨_,rfl,?_⟩,F5.out.below⟩;have HM:dW W2 W0.heap.size (itF l) l (.agg #[.int .i64 (itF l).k,.slice ra R1.length rc,.string ⟨(itF l).op.toArray⟩,.slice va (itF l).args.length vc,.bool (itF l).al]):=⟨ra,rc,va,vc,by rw [<-HR1.out];rfl,by rw [<-HR1.out];exact HA1.out,HA2.out⟩;exact (HM.off5 HZ0.out _ _ _ _ _).base (z0I HZ0.out)
end Go.Proofs.YtpigbggoiipmhaaGreatDoor
