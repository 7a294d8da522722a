/-
  Functions of the program and of the reference, walked; plain facts on what they compute. Conditions: sizes.
-/
import Derived.Test.YtpigbggoiipmhaaGreatDoorBA17
namespace Go.Proofs.YtpigbggoiipmhaaGreatDoor
open Go.RowKit
section
variable {P:Program} (w:World)
end
section
variable {P:Program} {α:Type} {n:Nat} {enc:α->List Value} {h0:∀x,(enc x).length=n} {h1:∀x,∀u∈enc x,u.oneCell'=true}
end
theorem mH:ElT Tryz.prog 22 5 aI.size 1:=ElT.mk' (z:=.int .u8 0) Tryz.underlying22 (by kernel_rfl) rfl (by decide)
end Go.Proofs.YtpigbggoiipmhaaGreatDoor
namespace Go.Proofs.YtpigbggoiipmhaaGreatDoor
set_option maxHeartbeats 4000000
set_option maxRecDepth 100000
open Go.RowKit Go.Shelf Go.Sort
theorem put_no (idx n:Int) (f:Value) (br:Nat) (w:World):
  Calls Tryz.prog 214 #[.agg #[.int .i64 idx,f],.bool false,.int .i64 n,.pointer (some ⟨br,0,none⟩)] w λe w'=>e=.returned (.bool (n==0))/\Below w.heap.size w w':=by
 have HF:=aA ((Fr.start w).new 262 #[.int .i64 idx,f]);go_enter Tryz.func214,Tryz.ntmps214;go_wp2;go_ret;exact ⟨rfl,HF.out.below⟩
theorem put_yes (k:Nat) (lo hi n:Int) (a b br B:Nat) (t:ByteArray) (l:List Opd) (v:Value) (q:aB) (w:World) (x:Opd) (hx:l[k]?=some x) (hr:Blk w br 30 #[.string t,v]) (ho:aD w q v l)
  (h1:w.cell? ⟨a,0,none⟩=some (.int .i64 lo)) (h2:w.cell? ⟨b,0,none⟩=some (.int .i64 hi)) (ha:a<w.heap.size) (hb:b<w.heap.size) (hB:B<=br) (hq:∀k,q k->B<=k/\k≠br/\k≠a/\k≠b)
  (bv:Nat) (tv:TypeId) (cv:Array Value) (hv:Blk w bv tv cv) (hnv:∀k,q k->k≠bv):
  Calls Tryz.prog 214 #[.agg #[.int .i64 k,(.func (.func 259) #[] #[.pointer (some ⟨a,0,none⟩),.pointer (some ⟨b,0,none⟩)])],.bool true,.int .i64 n,.pointer (some ⟨br,0,none⟩)] w λe w'=>e=.returned (.bool (bG lo hi n))/\
   aD w' q v (l.set k {x with n:=n})/\Blk w' br 30 #[.string t,v]/\Below B w w'/\Blk w' bv tv cv:=by
 obtain ⟨va,vc,rfl⟩:=ho.form;have hk:k<l.length:=(ZV.1 hx).1;have hb1:RowKit.Below w.heap.size w (w.alloc (.cells #[.int .i64 k,(.func (.func 259) #[] #[.pointer (some ⟨a,0,none⟩),.pointer (some ⟨b,0,none⟩)])] 262)):=(zY _ _).alloc (zI _) _;have HA1:=aA ((hb1.cell (p:=⟨a,0,none⟩) ha).trans h1);have HA2:=aA ((hb1.cell (p:=⟨b,0,none⟩) hb).trans h2);have HR:=aA (hr.below hb1 hr.lt);have HV:=aA (hv.below hb1 hv.lt);have HNV:=aA hnv;have HO:=aA (ho.below hb1);have HBW:=aA hb1;have HFN:=aA (Blk.new w 262 #[.int .i64 k,(.func (.func 259) #[] #[.pointer (some ⟨a,0,none⟩),.pointer (some ⟨b,0,none⟩)])]);have HQ:=aA hq;have HLT:=aA hr.lt;have HOL:=aA ho;obtain ⟨W1,hW1⟩:∃W:World,W=w.alloc (.cells #[.int .i64 k,(.func (.func 259) #[] #[.pointer (some ⟨a,0,none⟩),.pointer (some ⟨b,0,none⟩)])] 262):=⟨_,rfl⟩;rw [<-hW1] at HR HO HBW HFN HA1 HA2 HV;obtain ⟨a1,c1,e1,hc1,hc2,g1⟩:=HO.out;obtain ⟨a0,c0,e0,_,_,g0⟩:=HOL.out;injection e1 with e1 e2 e3;injection e0 with e0 e8 e9;obtain ⟨ob,oo,rfl,hqb,hbl,x0,x1,x2,hfz⟩:=g1 k x hx;obtain ⟨ob2,oo2,h9,_,hb0,_⟩:=g0 k x hx;subst e1 e3;rw [<-e0] at h9;injection h9 with h9;injection h9 with h9 h10;subst h9;clear e2 hc1 hc2 g1 g0 e0 e8 e9 h10 hr ho h1 h2 hb1 hq ha hb x0 x1 hv hnv;have f2:=hfz (oo+k*3+2);have HON:=aA (HO.out.setN (m:=n) hx);have HQB:=aA hqb;have HB0:=aA hb0;clear hfz hqb hbl hb0;go_enter Tryz.func214,Tryz.ntmps214;go_upto_region 3 with fail;rw [<-hW1];clear hW1;have r1:=HR.out.cell 1;have v0:=HFN.out.cell 0;go_upto_region 4 with fail;have HRs:=aA (HR.out.far (p:=⟨ob,oo+k*3+2,none⟩) (by have:=(HQ.out ob HQB.out).2.1;dsimp only;omega) (.int .i64 n));have HVs:=aA (HV.out.far (p:=⟨ob,oo+k*3+2,none⟩) (by have:=HNV.out ob HQB.out;dsimp only;omega) (.int .i64 n));have HFs:=aA (HFN.out.far (p:=⟨ob,oo+k*3+2,none⟩) (by have:=HB0.out;dsimp only;omega) (.int .i64 n));have ka:=(show (W1.setCell ⟨ob,oo+k*3+2,none⟩ (.int .i64 n)).cell? ⟨a,0,none⟩=W1.cell? ⟨a,0,none⟩ from z0E (xV W1 ⟨ob,oo+k*3+2,none⟩ (.int .i64 n) a (by have:=(HQ.out ob HQB.out).2.2.1;dsimp only;omega))).trans HA1.out;have kb:=(show (W1.setCell ⟨ob,oo+k*3+2,none⟩ (.int .i64 n)).cell? ⟨b,0,none⟩=W1.cell? ⟨b,0,none⟩ from z0E (xV W1 ⟨ob,oo+k*3+2,none⟩ (.int .i64 n) b (by have:=(HQ.out ob HQB.out).2.2.2;dsimp only;omega))).trans HA2.out;have HIN:=aA (GU lo hi n a b _ ka kb);have HBs:=aA ((HBW.out.mono (z0I (z1G hB HLT.out))).setCell (p:=⟨ob,oo+k*3+2,none⟩) (HQ.out ob HQB.out).1 (.int .i64 n));obtain ⟨W2,hW2⟩:∃W:World,W=W1.setCell ⟨ob,oo+k*3+2,none⟩ (.int .i64 n):=⟨_,rfl⟩;rw [<-hW2] at HRs HFs HON HIN HBs HVs ⊢;clear hW2 ka kb r1 v0 f2 x2;have v1:=HFs.out.cell 1;go_wp2_with (go_at_call 259;refine HIN.out.mono ?_;rintro e w3 ⟨rfl,hb3⟩;have HR3:=aA (HRs.out.below hb3 HRs.out.lt);have HV3:=aA (HVs.out.below hb3 HVs.out.lt);have HO3:=aA (HON.out.below hb3);have HB3:=aA (HBs.out.trans (hb3.mono (z0I (z1G hB HRs.out.lt))));clear hb3);go_ret;exact ⟨rfl,HO3.out,HR3.out,HB3.out,HV3.out⟩
set_option maxHeartbeats 8000000
theorem WX (idx lo hi:Int) (there:Bool) (n:Int) (l:List Opd):(qK idx lo hi there n l).2.length=l.length:=by
 unfold qK;split
 ·split
  ·dsimp only;rw [QQ]
  ·rfl
 ·rfl
theorem JW (idx lo hi n:Int) (there:Bool) (f:Value) (br B:Nat) (t:ByteArray) (l:List Opd) (v:Value) (q:aB) (w:World) (hr:Blk w br 30 #[.string t,v]) (ho:aD w q v l)
  (hf:there=true->∃a b,f=funV a b/\br<a/\br<b/\a<w.heap.size/\b<w.heap.size/\w.cell? ⟨a,0,none⟩=some (.int .i64 lo)/\w.cell? ⟨b,0,none⟩=some (.int .i64 hi)) (hi2:there=true->0<=idx/\idx<l.length)
  (hB:B<=br) (hq:∀k,q k->B<=k/\k<br)
  (bv:Nat) (tv:TypeId) (cv:Array Value) (hv:Blk w bv tv cv) (hnv:br<bv):
  Calls Tryz.prog 214 #[.agg #[.int .i64 idx,f],.bool there,.int .i64 n,.pointer (some ⟨br,0,none⟩)] w λe w'=>e=.returned (.bool (qK idx lo hi there n l).1)/\
   aD w' q v (qK idx lo hi there n l).2/\Blk w' br 30 #[.string t,v]/\Below B w w'/\Blk w' bv tv cv:=by
 cases there
 ·refine (put_no idx n f br w).mono ?_;rintro e w' ⟨rfl,hb⟩;exact ⟨rfl,ho.below hb,hr.below hb hr.lt,hb.mono (qJ hB (z0I hr.lt)),hv.below hb hv.lt⟩
 ·obtain ⟨a,b,rfl,hba,hbb,ha,hb,h1,h2⟩:=hf rfl;obtain ⟨h0,hlt⟩:=hi2 rfl;obtain ⟨k,rfl⟩:=z1N h0;have hk:k<l.length:=by omega
  have hx:l[k]?=some l[k]:=zL hk;have ht:qK (k:Int) lo hi true n l=(bG lo hi n,l.set k {l[k] with n:=n}):=by unfold qK;rw [if_pos rfl,z0X,hx]
  rw [ht];exact put_yes k lo hi n a b br B t l v q w l[k] hx hr ho h1 h2 ha hb hB (λk hk=>⟨(hq k hk).1,by have:=(hq k hk).2;omega,by have:=(hq k hk).2;omega,by have:=(hq k hk).2;omega⟩) bv tv cv hv (λk hk=>by have:=(hq k hk).2;omega)
def FilQ (w:World) (s:ByteArray) (r:Option (List Opd)) (e:Ending) (w':World):Prop:=(match r with|some c=>∃v',e=.returned (.tuple #[.agg #[.string s,v'],.bool true])/\aD w' (λb=>w.heap.size<=b) v' c|none=>e=.returned (.tuple #[.agg #[.string ⟨#[]⟩,.slice none 0 0],.bool false]))/\RowKit.Below w.heap.size w w'
theorem xD {w:World} {s:ByteArray} {e:Ending} {w':World} (h:e=.returned (.tuple #[.agg #[.string ⟨#[]⟩,.slice none 0 0],.bool false])) (hb:RowKit.Below w.heap.size w w'):FilQ w s none e w':=⟨h,hb⟩
theorem KN {w:World} {s:ByteArray} {c:List Opd} {e:Ending} {w':World} {v':Value} (h:e=.returned (.tuple #[.agg #[.string s,v'],.bool true])) (ho:aD w' (λb=>w.heap.size<=b) v' c) (hb:RowKit.Below w.heap.size w w'):FilQ w s (some c) e w':=⟨⟨v',h,ho⟩,hb⟩
theorem xM (pg op d n:Int) (s ex:ByteArray) (al:Bool) (l:List Opd) (p:aB) (v:Value) (w:World) (h:SlR aM w p v l) (hl:l.length<=1000000) (hs:s.size<=9223372036854775807):
  Calls Tryz.prog 162 #[.agg #[.int .i64 pg,.int .u8 op,.string s,v,.string ex,.bool al],.int .i64 d,.int .i64 n] w (FilQ w (dG s) (tH ex.data.toList l d n)):=by
 have HMK:=aA (λW hb=>mC p s v l W (h.below hb) hl hs);have HDI:=aA (λW hb=>nJ pg op s ex al l p v W (h.below hb));have HNU:=aA (λW hb=>pW pg op s ex al l p v W (h.below hb));have HF:=aA (((Fr.start w).new 158 #[.int .i64 pg,.int .u8 op,.string s,v,.string ex,.bool al]).new' 30 #[.string ⟨#[]⟩,.slice none 0 0] (zW _ _));obtain ⟨va,vc,rfl⟩:∃a c,v=.slice a l.length c:=by obtain ⟨a,c,e,_⟩:=h;exact ⟨a,c,e⟩
 clear h hl hs;obtain ⟨W0,hW0⟩:∃W0:World,W0=((w.alloc (.cells #[.int .i64 pg,.int .u8 op,.string s,.slice va l.length vc,.string ex,.bool al] 158)).alloc (.cells #[.string ⟨#[]⟩,.slice none 0 0] 30)):=⟨_,rfl⟩;rw [<-hW0] at HF;have HMK2:=aA (HMK.out _ HF.out.below);obtain ⟨r1,hr1⟩:∃r1,qK (bU [5] l l.length) (-128) 127 (cO ex.data.toList 100&&decide (0<=bU [5] l l.length)) d l=r1:=⟨_,rfl⟩;obtain ⟨r2,hr2⟩:∃r2,qK (cX ex.data.toList l).1 (cX ex.data.toList l).2.1 (cX ex.data.toList l).2.2.1 (cX ex.data.toList l).2.2.2 n r1.2=r2:=⟨_,rfl⟩;have HR:Hid (tH ex.data.toList l d n=if r2.1=true then (if r1.1=true then some r2.2 else none) else none):=by subst hr2 hr1;rfl
 have HLR1:=aA (show r1.2.length=l.length from by rw [<-hr1];exact WX _ _ _ _ _ _);have HR1:=aA hr1;have HR2:=aA hr2;have HNL:=aA (sE (ex:=ex.data.toList) (l:=l));have HDL:=aA (kK [5] l l.length);clear hr1 hr2;generalize tH ex.data.toList l d n=R at *;go_enter Tryz.func162,Tryz.ntmps162;go_upto_region 1 with fail;rw [<-hW0];clear hW0 HMK;have e2:=(HF.out.blk 1 rfl).cell 2;have e3:=(HF.out.blk 1 rfl).cell 3;go_upto_region 3 with (go_at_call 23;refine HMK2.out.mono ?_;rintro e w2 ⟨u2,rfl,ho,hb2⟩;obtain ⟨ca,cc,rfl⟩:=ho.form;have HF2:=aA (HF.out.next hb2);have HO:=aA ho;have HB12:=aA hb2;clear ho hb2);have HF3:=aA (HF2.out.new 30 #[.string (dG s),.slice ca l.length cc]);have HGE:=aA (vB (HF.out.blk 0 rfl).lt HB12.out.size);have HO3:=aA ((Own.opdOwn (q:=λk=>w.heap.size+1+1<=k/\k<w2.heap.size) HO.out (λk hk=>by have h8:=(HO.out.lt k hk).1;have h9:=(HO.out.lt k hk).2;have:=(HF.out.blk 0 rfl).lt;omega)).below ((zY _ _).alloc (zI _) (.cells #[.string (dG s),.slice ca l.length cc] 30)));obtain ⟨br,hbr⟩:∃br,w2.heap.size=br:=⟨_,rfl⟩;rw [hbr] at HF3 HO3 HGE ⊢;obtain ⟨W3,hW3⟩:∃W:World,W=w2.alloc (.cells #[.string (dG s),.slice ca l.length cc] 30):=⟨_,rfl⟩;rw [<-hW3] at HF3 HO3 ⊢;clear hW3 hbr HO HF2 HF HB12 HMK2 e2 e3;have e0:=(HF3.out.blk 2 rfl).cell 0;have e1:=(HF3.out.blk 2 rfl).cell 1;have e2:=(HF3.out.blk 2 rfl).cell 2;have e3:=(HF3.out.blk 2 rfl).cell 3;have e4:=(HF3.out.blk 2 rfl).cell 4;have e5:=(HF3.out.blk 2 rfl).cell 5;have HD2:=aA (HDI.out _ HF3.out.below);have HBL:=aA (HF3.out.blk 0 rfl).lt;go_upto_region 4 with (go_at_call 203;refine HD2.out.mono ?_;rintro e w4 ⟨f4,rfl,hf4,hb4,ho4⟩;have hst:=λ(a:Addr) (W:World)=>run_store Tryz.prog W a f4 .plain ho4;clear ho4;have HF4:=aA (HF3.out.next hb4);have HO4:=aA (HO3.out.below hb4);have HFF:=aA hf4;have HS4:=aA hb4.size;clear hf4 hb4 e0 e1 e2 e3 e4 e5);have HBN:Hid (RowKit.Below w4.heap.size w4 (w4.alloc (.cells #[.int .i64 (bU [5] l l.length),f4] 262))):=aA ((zY _ _).alloc (zI _) _);have HF5:=aA (HF4.out.alloc (.cells #[.int .i64 (bU [5] l l.length),f4] 262));have HV5:=aA (Blk.new w4 262 #[.int .i64 (bU [5] l l.length),f4]);have HO5:=aA (HO4.out.below HBN.out);have HG5:Hid (br<w4.heap.size):=aA (vB HBL.out HS4.out);have HT5:=aA (JW (bU [5] l l.length) (-128) 127 d (cO ex.data.toList 100&&decide (0<=bU [5] l l.length)) f4 br (w.heap.size+1+1) (dG s) l _ _ _ (HF5.out.blk 0 rfl) HO5.out
  (λh=>by obtain ⟨a,b,h1,g1,g2,h2,h3,h4,h5⟩:=HFF.out h;exact ⟨a,b,h1,by have:=HBL.out;omega,by have:=HBL.out;omega,by rw [zW];omega,by rw [zW];omega,(HBN.out.cell (p:=⟨a,0,none⟩) h2).trans h4,(HBN.out.cell (p:=⟨b,0,none⟩) h3).trans h5⟩)
  (λh=>⟨jU (xS.1 h).2,by have:=HDL.out;omega⟩) (by have:=HGE.out;omega) (λk hk=>hk) _ _ _ HV5.out HG5.out)
 obtain ⟨bv,hbv⟩:∃bv,w4.heap.size=bv:=⟨_,rfl⟩;rw [hbv] at HV5 HT5 HG5 ⊢;obtain ⟨W5,hW5⟩:∃W:World,W=w4.alloc (.cells #[.int .i64 (bU [5] l l.length),f4] 262):=⟨_,rfl⟩;rw [<-hW5] at HF5 HV5 HO5 HT5 ⊢;clear hW5 hbv HBN HFF HD2 HDI HF4 HO4 HF3 HO3 HS4 HBL;have v0:=HV5.out.cell 0;have v1:=HV5.out.cell 1;go_upto_region 5 with (go_at_call 214;refine HT5.out.mono ?_;rw [HR1.out];rintro e w6 ⟨rfl,ho6,hk6,hb6,hv6⟩;have HO6:=aA ho6;have HV6:=aA hv6;have HK6:=aA hk6;have HF6:=aA (HF5.out.drop.nextB hb6 (by omega) (by intro y hy;simp only [List.mem_cons,List.not_mem_nil,or_false] at hy;rcases hy with rfl|rfl<;>dsimp only<;>omega));clear ho6 hk6 hb6 hv6 v0 v1);clear HT5 HF5 HV5 HO5;have e0:=(HF6.out.blk 1 rfl).cell 0;have e1:=(HF6.out.blk 1 rfl).cell 1;have e2:=(HF6.out.blk 1 rfl).cell 2;have e3:=(HF6.out.blk 1 rfl).cell 3;have e4:=(HF6.out.blk 1 rfl).cell 4;have e5:=(HF6.out.blk 1 rfl).cell 5;have HN2:=aA (HNU.out _ HF6.out.below);have HVL:=aA HV6.out.lt;go_upto_region 6 with (go_at_call 204;refine HN2.out.mono ?_;rintro e w7 ⟨f6,rfl,hf6,hb7,ho6⟩;have hst6:=λ(a:Addr) (W:World)=>run_store Tryz.prog W a f6 .plain ho6;clear ho6;have HF7:=aA (HF6.out.next hb7);have HO7:=aA (HO6.out.below hb7);have HK7:=aA (HK6.out.below hb7 HK6.out.lt);have HV7:=aA (HV6.out.below hb7 HV6.out.lt);have HFF:=aA hf6;clear hf6 hb7 e0 e1 e2 e3 e4 e5;have g0:=HV7.out.cell 0;have g1:=HV7.out.cell 1;have g2:=HV7.out.free 0;have g3:=HV7.out.free 1);clear HN2 HNU HF6 HO6 HK6 HV6;have HV8:=aA ((HV7.out.set 0 (.int .i64 (cX ex.data.toList l).1)).set 1 f6);have HO8:=aA ((HO7.out.far (p:=⟨bv,0,none⟩) (λk h=>by have:=h.2;have:=HG5.out;dsimp only at *;omega) (.int .i64 (cX ex.data.toList l).1)).far (p:=⟨bv,1,none⟩) (λk h=>by have:=h.2;have:=HG5.out;dsimp only at *;omega) f6);have HK8:=aA ((HK7.out.far (p:=⟨bv,0,none⟩) (by have:=HG5.out;dsimp only;omega) (.int .i64 (cX ex.data.toList l).1)).far (p:=⟨bv,1,none⟩) (by have:=HG5.out;dsimp only;omega) f6);have HF8:=aA ((HF7.out.off ⟨bv,0,none⟩ (by have:=HG5.out;have:=HGE.out;dsimp only;omega) (by intro y hy;simp only [List.mem_cons,List.not_mem_nil,or_false] at hy;have:=HG5.out;have:=HGE.out;rcases hy with rfl|rfl<;>dsimp only<;>omega) (.int .i64 (cX ex.data.toList l).1)).off ⟨bv,1,none⟩ (by have:=HG5.out;have:=HGE.out;dsimp only;omega) (by intro y hy;simp only [List.mem_cons,List.not_mem_nil,or_false] at hy;have:=HG5.out;have:=HGE.out;rcases hy with rfl|rfl<;>dsimp only<;>omega) f6);have hcl:∀(a:Nat),bv<a->((w7.setCell ⟨bv,0,none⟩ (.int .i64 (cX ex.data.toList l).1)).setCell ⟨bv,1,none⟩ f6).cell? ⟨a,0,none⟩=w7.cell? ⟨a,0,none⟩:=λa ha=>(z0E (xV _ ⟨bv,1,none⟩ f6 a (by show a≠bv;omega))).trans (z0E (xV _ ⟨bv,0,none⟩ (.int .i64 (cX ex.data.toList l).1) a (by show a≠bv;omega)));have HT8:=aA (JW (cX ex.data.toList l).1 (cX ex.data.toList l).2.1 (cX ex.data.toList l).2.2.1 n (cX ex.data.toList l).2.2.2 f6 br (w.heap.size+1+1) (dG s) r1.2 _ _ _ HK8.out HO8.out
  (λh=>by obtain ⟨a,b,h1,k1,k2,h2,h3,h4,h5⟩:=HFF.out h;exact ⟨a,b,h1,by have:=HVL.out;have:=HG5.out;omega,by have:=HVL.out;have:=HG5.out;omega,by rw [yY,yY];exact h2,by rw [yY,yY];exact h3,(hcl a (by have:=HVL.out;omega)).trans h4,(hcl b (by have:=HVL.out;omega)).trans h5⟩)
  (λh=>⟨(HNL.out h).1,by have h1:=(HNL.out h).2;have:=HLR1.out;omega⟩) (by have:=HGE.out;omega) (λk hk=>hk) _ _ _ HV8.out HG5.out)
 obtain ⟨W8,hW8⟩:∃W:World,W=(w7.setCell ⟨bv,0,none⟩ (.int .i64 (cX ex.data.toList l).1)).setCell ⟨bv,1,none⟩ f6:=⟨_,rfl⟩;rw [<-hW8] at HF8 HV8 HO8 HK8 HT8 ⊢;clear hW8 hcl g0 g1 g2 g3 HF7 HO7 HK7 HV7 HFF;have v0:=HV8.out.cell 0;have v1:=HV8.out.cell 1;rw [HR2.out] at HT8;clear HR1 HR2;obtain ⟨o1,m1⟩:=r1;obtain ⟨o2,m2⟩:=r2;dsimp only at *;cases o2
 ·have HRN:Hid (R=none):=HR.out;exact tXf
 cases o1
 ·have HRN:Hid (R=none):=HR.out;exact tXf
 ·have HRN:Hid (R=some m2):=HR.out;go_wp2_with (go_at_call 214;refine HT8.out.mono ?_;rintro e w9 ⟨rfl,ho9,hk9,hb9,_⟩;have HF9:=aA (HF8.out.nextB hb9 (by omega) (by intro y hy;simp only [List.mem_cons,List.not_mem_nil,or_false] at hy;rcases hy with rfl|rfl<;>dsimp only<;>omega));have HO9:=aA ho9;have k0:=hk9.cell 0;have k1:=hk9.cell 1;have r0:=(HF9.out.blk 0 rfl).cell 0;have r1:=(HF9.out.blk 0 rfl).cell 1;have r2:=(HF9.out.blk 0 rfl).free 0;have r3:=(HF9.out.blk 0 rfl).free 1;clear ho9 hk9 hb9 v0 v1);refine yR (aN rfl rfl (((HF9.out.blk 0 rfl).set 0 _).set 1 _)) rfl ?_;rw [HRN.out];exact KN rfl (((HO9.out.far (p:=⟨w.heap.size+1,0,none⟩) (λk h=>by have:=h.1;dsimp only at *;omega) _).far (p:=⟨w.heap.size+1,1,none⟩) (λk h=>by have:=h.1;dsimp only at *;omega) _).mono (λk hk=>by have:=hk.1;omega)) ((HF9.out.below.setCell (p:=⟨w.heap.size+1,0,none⟩) (jQ _) _).setCell (p:=⟨w.heap.size+1,1,none⟩) (jQ _) _)
end Go.Proofs.YtpigbggoiipmhaaGreatDoor
namespace Go.Proofs.YtpigbggoiipmhaaGreatDoor
set_option maxHeartbeats 2000000
set_option maxRecDepth 100000
open Go.RowKit Go.Shelf
theorem EK:aI.size=1:=rfl
theorem SlR.byte {w:World} {p:aB} {v:Value} {l:List UInt8} (h:SlR aI w p v l):∃a cap,v=.slice a l.length cap/\l.length<=cap/\cap<=9223372036854775807/\
  ∀i x,l[i]?=some x->∃b o,a=some ⟨b,o,none⟩/\p b/\w.cell? ⟨b,o+i,none⟩=some (.int .u8 x.toNat):=by
 obtain ⟨a,cap,e,h1,h2,h3⟩:=h;refine ⟨a,cap,e,h1,by simpa [maxLen] using h2,λi x hx=>?_⟩;obtain ⟨b,o,cs,ea,hb,hbs,hc,hr⟩:=h3 i x hx;have hr:cs=[.int .u8 x.toNat]:=hr;subst hr;have:=hc 0 _ rfl;exact ⟨b,o,ea,hb,by simpa [EK] using this⟩
theorem vP (p q:aB) (v1 v2:Value) (l1 l2:List UInt8) (w:World) (h1:SlR aI w p v1 l1) (h2:SlR aI w q v2 l2):
  Calls Tryz.prog 208 #[v1,v2] w λe w'=>e=.returned (.bool (decide (l1=l2)))/\∃n,w'=w.drewN n:=by
 obtain ⟨a1,c1,rfl,hc1,hm1,g1⟩:=h1.byte;obtain ⟨a2,c2,rfl,hc2,hm2,g2⟩:=h2.byte;clear h1 h2;by_cases hl:l1.length=l2.length
 ·have HL:=aA hl;rw [<-hl] at hc2 ⊢;clear hl;go_enter Tryz.func208,Tryz.ntmps208;go_wp2;go_loopw [5,13] (λ_ i wr=>∃k n:Nat,k<=l1.length/\i=.int .i64 k/\wr=w.drewN n/\l1.take k=l2.take k) (λ_ i _=>l1.length-(intOf i).toNat);case atStart=>exact ⟨0,0,YD _,rfl,rfl,rfl⟩
  case round=>
   obtain ⟨k,n,hk,rfl,rfl,ht⟩:=hrel;have HT:=aA ht;clear ht;by_cases hlt:k<l1.length
   ·have hlt2:k<l2.length:=(by have:=HL.out;omega);obtain ⟨b1,o1,rfl,_,d1⟩:=g1 k l1[k] (zL hlt);obtain ⟨b2,o2,rfl,_,e1⟩:=g2 k l2[k] (zL hlt2);clear g1 g2;have HS:=aA (iV hlt hlt2 HT.out);have HN:Hid (l1[k]≠l2[k]->l1≠l2):=λh e=>h (by simp only [e]);generalize l1[k]=x at *;generalize l2[k]=y at *;by_cases hxy:x=y
    ·have hb:((x.toNat:Int) != (y.toNat:Int))=false:=(by rw [hxy];simp);have HXY:=aA hxy;clear hxy;go_wp2;go_quiet (fail);go_wp2;go_roundw;case rel=>exact ⟨k+1,n+nq,by omega,by go_num,rfl,HS.out HXY.out⟩
     case measure=>simp [intOf];omega
    ·have hb:((x.toNat:Int) != (y.toNat:Int))=true:=(by rw [bne_iff_ne];intro e;exact hxy (z1O.1 (by omega)));have HXY:=aA (HN.out hxy);clear hxy;go_wp2;go_quiet (fail);go_wp2;go_ret;exact ⟨aF (z0A HXY.out).symm,_,ER _ _ _⟩
   ·go_wp2;exact tX41
 ·go_enter Tryz.func208,Tryz.ntmps208;exact tX84
theorem pT (p:Int) (h5:p≠5) (h6:p≠6) (w:World):
  Calls Tryz.prog 209 #[.int .i64 p] w λe w'=>∃v,e=.returned v/\Own aI w' w.heap.size 5 NoB v (aR p)/\Below w.heap.size w w':=by
 have hal:∀c:UInt8,Own aI (w.alloc (.cells #[.int .u8 c.toNat] 5)) w.heap.size 5 NoB (.slice (some ⟨w.heap.size,0,none⟩) 1 1) [c]:=λc=>Own.lit w _ [c] _ 1 rfl rfl (by simp);have hb:∀o:Obj,Below w.heap.size w (w.alloc o):=λo=>(zY _ w).alloc (zI _) o;have HAL:=aA hal;have HB:=aA hb;clear hal hb;by_cases h1:p=1
 ·subst h1;go_enter Tryz.func209,Tryz.ntmps209;go_wp2;go_ret;exact ⟨_,rfl,HAL.out 203,HB.out _⟩
 by_cases h2:p=2
 ·subst h2;go_enter Tryz.func209,Tryz.ntmps209;go_wp2;go_ret;exact ⟨_,rfl,HAL.out 237,HB.out _⟩
 by_cases h3:p=3
 ·subst h3;go_enter Tryz.func209,Tryz.ntmps209;go_wp2;go_ret;exact ⟨_,rfl,HAL.out 221,HB.out _⟩
 by_cases h4:p=4
 ·subst h4;go_enter Tryz.func209,Tryz.ntmps209;go_wp2;go_ret;exact ⟨_,rfl,HAL.out 253,HB.out _⟩
 have hf:aR p=[]:=by rw [aR,if_neg h1,if_neg h2,if_neg h3,if_neg h4,if_neg h5,if_neg h6]
 have b1:(p==1)=false:=by rw [yW];exact h1
 have b2:(p==2)=false:=by rw [yW];exact h2
 have b3:(p==3)=false:=by rw [yW];exact h3
 have b4:(p==4)=false:=by rw [yW];exact h4
 have b5:(p==5)=false:=by rw [yW];exact h5
 have b6:(p==6)=false:=by rw [yW];exact h6
 rw [hf];clear hf h1 h2 h3 h4 h5 h6;go_enter Tryz.func209,Tryz.ntmps209;go_wp2;go_ret;exact ⟨_,rfl,Own.nil _ _ _ _ _,zY _ _⟩
theorem nD (p q:Int) (hq:(p=5/\q=3)\/(p=6/\q=4)) (w:World):
  Calls Tryz.prog 209 #[.int .i64 p] w λe w'=>∃v,e=.returned v/\Own aI w' w.heap.size 5 NoB v (aR q++[203])/\Below w.heap.size w w':=by
 have HL:=aA (pT q (by omega) (by omega) w);have hln:Hid ((aR q).length<=10):=by rcases hq with ⟨_,rfl⟩|⟨_,rfl⟩<;>(show _<=_;decide)
 rcases hq with ⟨rfl,rfl⟩|⟨rfl,rfl⟩;all_goals
  go_enter Tryz.func209,Tryz.ntmps209
  go_wp2_with (first
   | (go_at_call 209;refine HL.out.mono ?_;rintro e w2 ⟨v,rfl,ho,hb⟩;have HO:=aA ho;have HB:=aA hb;obtain ⟨va,vc,rfl⟩:=ho.form;clear ho hb)
   | (at_builtin;refine cK rfl (.tmp 22) (.tmp 23) 22 rfl w.heap.size 5 1 mH _ (aR _) 203 _ rfl rfl HO.out rfl (by have:=hln.out;omega) (by have:=hln.out;omega) HB.out.size ?_;intro a' c' w' hp;have HP:=aA hp;clear hp))
  go_ret;refine ⟨_,rfl,?_,?_⟩
  ·exact HP.out.1
  ·exact HB.out.grown HP.out.2 HB.out.size (λk e=>(HO.out.lt k e).1)
theorem pS (p:Int) (w:World):
  Calls Tryz.prog 209 #[.int .i64 p] w λe w'=>∃v,e=.returned v/\Own aI w' w.heap.size 5 NoB v (aR p)/\Below w.heap.size w w':=by
 by_cases h5:p=5
 ·subst h5;exact nD 5 3 (.inl ⟨rfl,rfl⟩) w
 by_cases h6:p=6
 ·subst h6;exact nD 6 4 (.inr ⟨rfl,rfl⟩) w
 exact pT p h5 h6 w
end Go.Proofs.YtpigbggoiipmhaaGreatDoor
namespace Go.Proofs.YtpigbggoiipmhaaGreatDoor
open Go.RowKit Go.Shelf Go.Sort
theorem rS {W:World} {b:Nat} {s:ByteArray} {pos:Nat} (ty:TypeId) (hb:W.heap[b]?=some (.stringIter s pos)) (h:pos<s.size) (ha:(s[pos]'h).toNat<128):
  (Instr.next (.pointer (some ⟨b,0,none⟩)) true ty).run Tryz.prog W=.ok (.tuple #[.bool true,.int .i64 pos,.int .i32 (s[pos]'h).toNat]) (W.putObj b (.stringIter s (pos+1))):=by
 simp only [Instr.next,getObj,setObj,Sem.run_bind,Sem.run,hb,Result.andThen,h,if_true,decode_ascii s pos h ha];simp [goInt,World.putObj]
theorem mZ {W:World} {b:Nat} {s:ByteArray} {pos:Nat} (ty:TypeId) (hb:W.heap[b]?=some (.stringIter s pos)) (h:¬pos<s.size):
  (Instr.next (.pointer (some ⟨b,0,none⟩)) true ty).run Tryz.prog W=.ok (.tuple #[.bool false]) W:=by
 simp [Instr.next,getObj,Sem.run,hb,h]
def pK (w:World) (b:Nat):Nat:=match w.heap[b]? with|some (.stringIter s k)=>s.size-k|_=>0
theorem dA {w:World} {b k:Nat} {s:ByteArray} (h:w.heap[b]?=some (.stringIter s k)):pK w b=s.size-k:=by unfold pK;rw [h]
theorem cW (p:Int):(aR p).length<=2:=by
 unfold aR
 repeat' split
 all_goals simp
set_option maxHeartbeats 4000000
set_option maxRecDepth 100000
end Go.Proofs.YtpigbggoiipmhaaGreatDoor
namespace Go.Proofs.YtpigbggoiipmhaaGreatDoor
set_option maxHeartbeats 4000000
set_option maxRecDepth 100000
open Go.RowKit Go.Shelf
def nI (l:List UInt8):Nat->Nat->Option Nat
 | 0,_=>none
 | n+1,k=>if aR k=l then some k else nI l n (k+1)
theorem FW (l:List UInt8) (k:Nat) (hk:k<7):nI l (7-k) k=if aR k=l then some k else nI l (7-(k+1)) (k+1):=by rw [show 7-k=(7-(k+1))+1 by omega,nI]
theorem FF (p:aB) (v:Value) (l:List UInt8) (w:World) (h:SlR aI w p v l):
  Calls Tryz.prog 158 #[v] w λe w'=>e=.returned (.tuple #[.int .i64 ((nI l 7 0).getD 0),.bool (nI l 7 0).isSome])/\Below w.heap.size w w':=by
 have HPF:=aA (λk W=>pS k W);have H:=aA h;obtain ⟨va,vc,rfl⟩:∃a c,v=.slice a l.length c:=by obtain ⟨a,c,e,_⟩:=h;exact ⟨a,c,e⟩
 clear h;obtain ⟨R,hR⟩:∃R,R=nI l 7 0:=⟨_,rfl⟩;rw [<-hR];go_enter Tryz.func158,Tryz.ntmps158;go_wp2;go_loopw [4,5] (λ_ i wr=>∃k:Nat,k<=7/\i=.int .i64 k/\Below w.heap.size w wr/\R=nI l (7-k) k) (λ_ i _=>7-(intOf i).toNat);case atStart=>exact ⟨0,YD _,rfl,zY _ _,hR⟩
 case round=>
  clear hR;obtain ⟨k,hk,rfl,hb,ht⟩:=hrel;have HB:=aA hb;by_cases hlt:k<7
  ·rw [FW l k hlt] at ht;have HEQ:=aA (λq v1 l1 W (h1:SlR aI W q v1 l1) (h2:SlR aI W p (.slice va l.length vc) l)=>vP q p v1 _ l1 l W h1 h2);have hpl:=HPF.out (k:Int);by_cases he:aR k=l
   ·rw [if_pos he] at ht;have HT:=aA ht;have HD:=aA he;have HP:=aA hpl;generalize aR (k:Int)=pl at *;clear ht hb he hpl
    go_wp2_with (first
     | (go_at_call 209;refine (HP.out _).mono ?_;rintro e w2 ⟨v2,rfl,ho,hb⟩;obtain ⟨a2,c2,rfl⟩:=ho.form;have HB2:=aA (HB.out.trans (hb.mono HB.out.size));have HS2:=aA (ho.slR (q:=λ_=>True) (λ_ h=>h.elim) (λ_ _=>trivial));clear ho hb)
     | (go_at_call 208;refine (HEQ.out _ _ _ _ HS2.out (H.out.below HB2.out)).mono ?_;rintro e w3 ⟨rfl,nq,rfl⟩;rw [z0P HD.out]))
    refine yR (results_tmp2 rfl _ _ _) rfl ⟨by rw [HT.out];rfl,aY HB2.out _⟩
   ·rw [if_neg he] at ht;have HT:=aA ht;have HD:=aA he;have HP:=aA hpl;generalize aR (k:Int)=pl at *;clear ht hb he hpl
    go_wp2_with (first
     | (go_at_call 209;refine (HP.out _).mono ?_;rintro e w2 ⟨v2,rfl,ho,hb⟩;obtain ⟨a2,c2,rfl⟩:=ho.form;have HB2:=aA (HB.out.trans (hb.mono HB.out.size));have HS2:=aA (ho.slR (q:=λ_=>True) (λ_ h=>h.elim) (λ_ _=>trivial));clear ho hb)
     | (go_at_call 208;refine (HEQ.out _ _ _ _ HS2.out (H.out.below HB2.out)).mono ?_;rintro e w3 ⟨rfl,nq,rfl⟩;rw [z0A HD.out]))
    go_roundw;case rel=>exact ⟨k+1,by omega,by go_num,aY HB2.out _,HT.out⟩
    case measure=>simp [intOf];omega
  ·obtain rfl:k=7:=(by omega);have HT:=aA ht;clear ht hb;go_wp2;refine yR (results_tmp2 rfl _ _ _) rfl ⟨by rw [HT.out];rfl,HB.out⟩
end Go.Proofs.YtpigbggoiipmhaaGreatDoor
namespace Go.Proofs.YtpigbggoiipmhaaGreatDoor
set_option maxHeartbeats 4000000
set_option maxRecDepth 100000
open Go.RowKit Go.Shelf Go.Sort
def bAt (l:List UInt8) (k:Nat):Nat:=(l.getD k 0).toNat
theorem bT (l:List UInt8) (k:Nat):bAt l k<256:=UInt8.toNat_lt _
theorem sC {l:List UInt8} {k:Nat} (h:k<l.length):bAt l k=(l[k]).toNat:=by simp [bAt,List.getD,List.getElem?_eq_getElem h]
def sg (b:Nat):Int:=if 128<=b then (b:Int)-256 else b
def rdF:List UInt8->List UInt8->Nat->Int->Int->Int × Int
 | [],_,_,d,n=>(d,n)
 | c::ex,l,k,d,n=>
  if c=100 then rdF ex l (k+1) (sg (bAt l k)) n
  else if c=101 then rdF ex l (k+1) d (sg (bAt l k))
  else if c=110 then rdF ex l (k+1) d (bAt l k)
  else rdF ex l (k+2) d ((bAt l k:Int)+256*bAt l (k+1))
def rdN:List UInt8->Nat
 | []=>0
 | c::ex=>(if c=119 then 2 else 1)+rdN ex
structure Itm where
 k:Int
 n:Nat
 op:List UInt8
 args:List Opd
 al:Bool
def gX (e:aL):Nat:=(aR e.pg).length+1+rdN e.ex
def pos (p:Nat):Nat:=(aR p).length+(if 5<=p then 1 else 0)
def pgB (l:List UInt8):Nat:=
 if bAt l 0=203 then 1 else if bAt l 0=237 then 2
 else if bAt l 0=221 then (if 1<l.length/\bAt l 1=203 then 5 else 3)
 else if bAt l 0=253 then (if 1<l.length/\bAt l 1=203 then 6 else 4) else 0
def jO (e:aL) (d n:Int):List UInt8 × List Opd:=match fN e.ex e.args d n with|some c=>(e.iop,c)|none=>([],[])
def gP (p:Nat) (e:aL) (l:List UInt8):Int × Int:=rdF e.ex l (if 5<=p then 2 else pos p+1) 0 0
def itE (p:Nat) (e:aL) (l:List UInt8):Itm:=
 if l.length<gX e then ⟨4,l.length,[],[],false⟩
 else ⟨1,gX e,(jO e (gP p e l).1 (gP p e l).2).1,(jO e (gP p e l).1 (gP p e l).2).2,e.al⟩
def itS (p:Nat) (l:List UInt8):Itm:=
 if l.length<=pos p then ⟨4,l.length,[],[],false⟩
 else match atF p (bAt l (pos p)) with
  | (some e,_)=>itE p e l
  | (none,k)=>if k=0 then ⟨2,1,[],[],false⟩ else ⟨3,2,[],[],false⟩
def itF (l:List UInt8):Itm:=itS (pgB l) l
def cF (p x:Nat):Bool:=((p==0)&&((x==203) || ((x==237) || ((x==221) || (x==253))))) || (((p==3) || (p==4))&&(x==203))
def nx (p x:Nat):Nat:=if p=0 then (if x=203 then 1 else if x=237 then 2 else if x=221 then 3 else 4) else p+2
def chkD (p x:Nat):Bool:=match atF p x with
 | (none,k)=>((k==2)&&cF p x) || (!cF p x&&(((k==0)&&((p==3) || (p==4))) || ((k==3)&&(p==2))))
 | (some e,k)=>!cF p x&&((k==1)&&decide (p<5\/e.ex=[100]))
theorem ckd:∀p:Fin 7,∀x:Fin 256,chkD p.val x.val=true:=by decide+kernel
theorem at_pre {p x:Nat} (hp:p<7) (hx:x<256) (h:cF p x=true):atF p x=(none,2):=by
 have:=ckd ⟨p,hp⟩ ⟨x,hx⟩;unfold chkD at this;dsimp only at this;rw [h] at this;cases hA:atF p x with
 | mk o k=>
  rw [hA] at this;cases o with
  | none=>simp at this;rw [this]
  | some e=>simp at this
theorem sA {p x:Nat} {k:Int} (hp:p<7) (hx:x<256) (h:cF p x=false) (ha:atF p x=(none,k)):(k=0/\(p=3\/p=4))\/(k=3/\p=2):=by have:=ckd ⟨p,hp⟩ ⟨x,hx⟩;unfold chkD at this;dsimp only at this;rw [h,ha] at this;simpa using this
theorem xZ {p x:Nat} {k:Int} {e:aL} (hp:p<7) (hx:x<256) (ha:atF p x=(some e,k)):k=1/\cF p x=false/\(p<5\/e.ex=[100]):=by have:=ckd ⟨p,hp⟩ ⟨x,hx⟩;unfold chkD at this;dsimp only at this;rw [ha] at this;obtain ⟨h1,h2⟩:=xS.1 this;obtain ⟨h2,h3⟩:=xS.1 h2;exact ⟨eq_of_beq h2,by simpa using h1,jU h3⟩
theorem prefs:∀p:Fin 7,nI (aR p.val) 7 0=some p.val:=by decide+kernel
structure PgI (p:Nat) (l:List UInt8):Prop where
 lt:p<7
 le:(aR p).length<=l.length
 adv:(if p=0 then pgB l else if (p=3\/p=4)/\1<l.length/\bAt l 1=203 then p+2 else p)=pgB l
theorem pgI0 (l:List UInt8):PgI 0 l:=⟨by decide,YD _,rfl⟩
theorem PgI.stop {p:Nat} {l:List UInt8} (h:PgI p l) (hl:0<l.length) (hs:l.length<=pos p\/cF p (bAt l (pos p))=false):pgB l=p:=by
 obtain ⟨h1,h2,h3⟩:=h;have:p=0\/p=1\/p=2\/p=3\/p=4\/p=5\/p=6:=by omega
 rcases this with rfl|rfl|rfl|rfl|rfl|rfl|rfl
 ·rcases hs with hs|hs
  ·exact absurd hs (by show ¬l.length<=0;omega)
  ·have hs:cF 0 (bAt l 0)=false:=hs;simp [cF] at hs;unfold pgB;rw [if_neg hs.1,if_neg hs.2.1,if_neg hs.2.2.1,if_neg hs.2.2.2]
 ·exact h3.symm
 ·exact h3.symm
 ·rcases hs with hs|hs
  ·have hs:l.length<=1:=hs;exact tX85
  ·have hs:cF 3 (bAt l 1)=false:=hs;simp [cF] at hs;exact tX85
 ·rcases hs with hs|hs
  ·have hs:l.length<=1:=hs;exact tX85
  ·have hs:cF 4 (bAt l 1)=false:=hs;simp [cF] at hs;exact tX85
 ·exact h3.symm
 ·exact h3.symm
theorem PgI.go {p:Nat} {l:List UInt8} (h:PgI p l) (hl:pos p<l.length) (hs:cF p (bAt l (pos p))=true):PgI (nx p (bAt l (pos p))) l/\p<nx p (bAt l (pos p))/\aR (nx p (bAt l (pos p)))=aR p++[l[pos p]]:=by
 obtain ⟨h1,h2,h3⟩:=h;have hb:=sC hl;have:p=0\/p=1\/p=2\/p=3\/p=4\/p=5\/p=6:=by omega
 rcases this with rfl|rfl|rfl|rfl|rfl|rfl|rfl
 ·have e:pos ((0:Nat):Int).toNat=0:=rfl;have hs:cF 0 (bAt l 0)=true:=hs;have hl:0<l.length:=hl;have hb:bAt l 0=l[0].toNat:=hb;simp [cF] at hs;show PgI (nx 0 (bAt l 0)) l/\0<nx 0 (bAt l 0)/\aR (nx 0 (bAt l 0))=aR 0++[l[0]];have key:∀(x:UInt8) (q:Nat),bAt l 0=x.toNat->nx 0 x.toNat=q->aR q=[x]->0<q->q<7->q<5->(if (q=3\/q=4)/\1<l.length/\bAt l 1=203 then q+2 else q)=pgB l->PgI (nx 0 (bAt l 0)) l/\0<nx 0 (bAt l 0)/\aR (nx 0 (bAt l 0))=aR 0++[l[0]]:=by intro x q e1 e2 e3 e4 e5 e6 e7;have e8:l[0]=x:=z1O.1 (hb.symm.trans e1);rw [e1,e2,e8];exact ⟨⟨e5,by rw [e3];exact hl,by rw [if_neg (by omega)];exact e7⟩,e4,by rw [e3];rfl⟩
  rcases hs with hs|hs|hs|hs
  ·exact key 203 1 hs rfl rfl (by decide) (by decide) (by decide) (by rw [show pgB l=1 by unfold pgB;rw [if_pos hs]];rfl)
  ·have n1:¬bAt l 0=203:=(by rw [hs];decide);exact key 237 2 hs rfl rfl (by decide) (by decide) (by decide) (by rw [show pgB l=2 by unfold pgB;rw [if_neg n1,if_pos hs]];rfl)
  ·have n1:¬bAt l 0=203:=(by rw [hs];decide);have n2:¬bAt l 0=237:=(by rw [hs];decide);exact key 221 3 hs rfl rfl (by decide) (by decide) (by decide) (by unfold pgB;rw [if_neg n1,if_neg n2,if_pos hs];simp)
  ·have n1:¬bAt l 0=203:=(by rw [hs];decide);have n2:¬bAt l 0=237:=(by rw [hs];decide);have n3:¬bAt l 0=221:=(by rw [hs];decide);exact key 253 4 hs rfl rfl (by decide) (by decide) (by decide) (by unfold pgB;rw [if_neg n1,if_neg n2,if_neg n3,if_pos hs];simp)
 ·simp [cF] at hs
 ·simp [cF] at hs
 ·have hs:cF 3 (bAt l 1)=true:=hs;have hl:1<l.length:=hl;have hb:bAt l 1=l[1].toNat:=hb;simp [cF] at hs;have e8:l[1]=203:=z1O.1 (hb.symm.trans hs);exact ⟨⟨by show 5<7;decide,by show 2<=l.length;omega,by rw [if_neg (by decide),if_pos ⟨.inl rfl,hl,hs⟩] at h3;exact h3⟩,by show 3<5;decide,by show aR 5=aR 3++[l[1]];rw [e8];rfl⟩
 ·have hs:cF 4 (bAt l 1)=true:=hs;have hl:1<l.length:=hl;have hb:bAt l 1=l[1].toNat:=hb;simp [cF] at hs;have e8:l[1]=203:=z1O.1 (hb.symm.trans hs);exact ⟨⟨by show 6<7;decide,by show 2<=l.length;omega,by rw [if_neg (by decide),if_pos ⟨.inr rfl,hl,hs⟩] at h3;exact h3⟩,by show 4<6;decide,by show aR 6=aR 4++[l[1]];rw [e8];rfl⟩
 ·simp [cF] at hs
 ·simp [cF] at hs
set_option maxHeartbeats 2000000
abbrev dC:TypeId:=177
abbrev xA:List PanicEntry:=[{v:=.iface 179 (.agg #[]),recovered:=false}]
theorem jB (g:Nat) (cs:Array Value) (a:Option Addr) (m c:Nat) (k:Nat) (w:World) (h:Blk w g dC cs) (h0:cs[0]?=some (.slice a m c)) (h1:cs[1]?=some (.int .i64 k)) (hk:m<=k):
  Calls Tryz.prog 160 #[.pointer (some ⟨g,0,none⟩)] w λe w'=>e=.panicked xA/\Below w.heap.size w w':=by
 have f0:w.cell? ⟨g,0,none⟩=some (.slice a m c):=(h.cell 0).trans h0;have f1:w.cell? ⟨g,1,none⟩=some (.int .i64 k):=(h.cell 1).trans h1;have hk':(m:Int)<=(k:Int):=by omega
 clear h h0 h1 hk;go_enter Tryz.func160,Tryz.ntmps160;go_wp2;go_quiet (fail);go_wp2;exact ⟨rfl,rfl,aY (zY _ _) _⟩
theorem dY (g:Nat) (cs:Array Value) (p:aB) (a:Option Addr) (c:Nat) (l:List UInt8) (k:Nat) (w:World) (h:Blk w g dC cs) (h0:cs[0]?=some (.slice a l.length c)) (h1:cs[1]?=some (.int .i64 k)) (hs:SlR aI w p (.slice a l.length c) l) (hp:∀b,p b->b≠g) (hk:k<l.length) (hl:l.length<=1000000):
  Calls Tryz.prog 160 #[.pointer (some ⟨g,0,none⟩)] w λe w'=>e=.returned (.int .u8 (bAt l k))/\Blk w' g dC (cs.setIfInBounds 1 (.int .i64 ((k+1:Nat):Int)))/\w.grownBy w' (some g):=by
 have f0:w.cell? ⟨g,0,none⟩=some (.slice a l.length c):=(h.cell 0).trans h0;have f1:w.cell? ⟨g,1,none⟩=some (.int .i64 k):=(h.cell 1).trans h1;have g1:w.frozen? ⟨g,1,none⟩=false:=h.free 1;obtain ⟨a',c',e,_,_,gg⟩:=hs.byte;obtain ⟨rfl,rfl⟩:a=a'/\c=c':=by injection e with h1 h2 h3;exact ⟨h1,h3⟩
 obtain ⟨b,o,rfl,hb,hc⟩:=gg k l[k] (zL hk);have hbg:=hp b hb;have hB:=aA (sC hk);have HB:=aA (h.set 1 (.int .i64 ((k+1:Nat):Int)));have k1:IntKind.i64.wrap (k:Int)=k:=by rw [IntKind.wrap_i64];omega
 have F2:∀n v,((w.drewN n).setCell ⟨g,1,none⟩ v).cell? ⟨b,o+k,none⟩=some (.int .u8 l[k].toNat):=λn v=>(z0D _ _ _ _ (by simp)).trans hc;rw [hB.out];clear h h0 h1 hs e gg hb hp hc hB;generalize l[k].toNat=z at *;generalize l.length=m at *;have hk':(k:Int)<(m:Int):=by omega
 go_enter Tryz.func160,Tryz.ntmps160;go_wp2;go_quiet (fail);go_wp2;go_quiet (fail);go_wp2;go_ret;exact ⟨rfl,HB.out,⟨rfl,rfl,rfl,by simp,λi _ hi=>xV _ _ _ _ (λe=>hi (by rw [e]))⟩⟩
def dcC (vb vq:Value) (pg op:Int) (iop:ByteArray) (va:Value) (ex:ByteArray) (al:Bool) (k:Nat) (d n:Int):Array Value:=#[vb,.int .i64 k,vq,.int .i64 pg,.int .u8 op,.string iop,va,.string ex,.bool al,.int .i64 d,.int .i64 n]
theorem SlR.cutB {w:World} {p:aB} {a:Option Addr} {n c m:Nat} {xs:List UInt8} (h:SlR aI w p (.slice a n c) xs) (hm:m<=xs.length):SlR aI w p (.slice a m c) (xs.take m)/\n=xs.length/\n<=c/\c<=9223372036854775807:=by
 obtain ⟨a2,c2,e,h1,h2,h3⟩:=h;injection e with e1 e2 e3;subst e1 e2 e3;have hl:(xs.take m).length=m:=by rw [JX];omega
 refine ⟨⟨a,c,by rw [hl],by omega,h2,λi x hx=>h3 i x ?_⟩,rfl,h1,by simpa [maxLen] using h2⟩;rw [List.getElem?_take] at hx;split at hx
 ·exact hx
 ·cases hx
theorem UX (ad:Addr) (len cap h:Nat) (h2:h<=cap) (W:World):(Instr.sliceAt 22 (.slice (some ad) len cap) none (some (.int .i64 (h:Int))) none).run Tryz.prog W=.ok (.slice (some ad) h cap) W:=by rw [run_sliceAt_slice _ _ _ _ _ _ (by kernel_rfl),run_slice_h W _ (some ad) len cap (by kernel_rfl) .i64 (h:Int) (by omega) (by omega)];go_simp
theorem FP (p:aB) (ad:Addr) (m c:Nat) (l:List UInt8) (w:World) (h:SlR aI w p (.slice (some ad) m c) l) (hn:l.length<=1000000):
  Calls Tryz.prog 157 #[.slice (some ad) m c] w λe w'=>∃v',e=.returned v'/\Own aI w' w.heap.size 5 NoB v' l/\Below w.heap.size w w':=by
 have HN:=aA hn;clear hn;obtain ⟨a',c',e,_,_,_⟩:=h.byte;obtain ⟨rfl,rfl⟩:m=l.length/\c=c':=by injection e with h1 h2 h3;exact ⟨h2,h3⟩
 have HH:=aA h;clear h e;have heq:=λwx a n c=>Lib.run_eql_slice_nil (P:=Tryz.prog) wx 22 5 a n c 0 0 Tryz.underlying22;go_enter Tryz.func157,Tryz.ntmps157;have HB:Below w.heap.size w (w.alloc (.cells #[] 5)):=(zY _ _).alloc (zI _) _;have HX:Hid (SlR aI (w.alloc (.cells #[] 5)) (λk=>p k/\k<w.heap.size) (.slice (some ad) l.length c) l):=HH.out.old.below HB;have HO:Hid (Own aI (w.alloc (.cells #[] 5)) w.heap.size 5 NoB (.slice (some ⟨w.heap.size,0,none⟩) 0 0) []):=Own.made w _ _;have C2:Hid (∀k,p k/\k<w.heap.size->some k≠Value.ownBlock (.slice (some ⟨w.heap.size,0,none⟩) 0 0)):=λk hk e=>by simp [Value.ownBlock] at e;omega
 have C3:Hid (([]:List UInt8).length+l.length<=1000000):=by have:=HN.out;simp;omega
 go_wp2_with (at_builtin;refine dJ _ rfl (.tmp 5) (.tmp 6) 22 rfl w.heap.size 5 1 mH NoB _ _ _ [] l rfl rfl HO.out HX.out (λ_ h=>False.elim h) C2.out (by have:=C3.out;omega) (by have:=C3.out;omega) HB.size ?_;intro v' w' hap;have HAP:=aA hap;clear hap);obtain ⟨ho,hg,_⟩:=HAP.out;go_ret;exact ⟨_,rfl,ho.flat NoB,HB.grown hg HB.size (λk hk=>by cases hk;exact zI _)⟩
theorem pN (g:Nat) (cs:Array Value) (p:aB) (ad:Addr) (c:Nat) (l:List UInt8) (n:Nat) (w:World) (h:Blk w g dC cs) (h0:cs[0]?=some (.slice (some ad) l.length c)) (hs:SlR aI w p (.slice (some ad) l.length c) l) (hn:n<=l.length) (hl:l.length<=1000000):
  Calls Tryz.prog 113 #[.pointer (some ⟨g,0,none⟩),.int .i64 n] w λe w'=>∃v',e=.returned v'/\Own aI w' w.heap.size 5 NoB v' (l.take n)/\Below w.heap.size w w':=by
 have f0:w.cell? ⟨g,0,none⟩=some (.slice (some ad) l.length c):=(h.cell 0).trans h0;obtain ⟨hs2,_,hc,_⟩:=hs.cutB hn;have hcut:=UX ad l.length c n (by omega);have HC:=aA (FP p ad n c (l.take n) w hs2 (by rw [JX];omega));clear hs2 hs h h0;generalize l.take n=l2 at *;generalize l.length=m at *;go_enter Tryz.func113,Tryz.ntmps113;go_wp2_with (go_at_call 157;refine HC.out.mono ?_;rintro e w1 ⟨v1,rfl,ho,hb⟩;have H1:=aA ho;have H2:=aA hb;clear ho hb);go_ret;exact ⟨_,rfl,H1.out,H2.out⟩
theorem sg_wrap {b:Nat} (hb:b<256):IntKind.i8.wrap (b:Int)=sg b/\IntKind.i64.wrap (sg b)=sg b:=by
 unfold sg;constructor
 ·have h8:(2:Int)^IntKind.i8.bits=256:=by decide
  have h7:(2:Int)^(IntKind.i8.bits-1)=128:=by decide
  have hm:(b:Int)%256=b:=by omega
  have hs:IntKind.i8.signed=true:=rfl;simp only [IntKind.wrap,h8,h7,hm,hs,Bool.true_and,decide_eq_true_eq];by_cases h:128<=b
  ·rw [if_pos h,if_pos (by omega)]
  ·rw [if_neg h,if_neg (by omega)]
 ·rw [IntKind.wrap_i64];split<;>omega
theorem nP (b:Nat) (hb:b<256) (w:World):Calls Tryz.prog 210 #[.int .u8 b] w λe w'=>e=.returned (.int .i64 (sg b))/\w'=w:=by obtain ⟨h1,h2⟩:=sg_wrap hb;go_enter Tryz.func210,Tryz.ntmps210;go_wp2;go_ret;exact ⟨rfl,rfl⟩
end Go.Proofs.YtpigbggoiipmhaaGreatDoor
