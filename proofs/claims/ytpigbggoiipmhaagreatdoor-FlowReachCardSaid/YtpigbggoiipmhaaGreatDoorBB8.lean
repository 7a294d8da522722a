/-
  Functions of the program and of the reference, walked; plain facts on what they compute. Conditions: sizes.
-/
import Derived.Test.YtpigbggoiipmhaaGreatDoorBB4
import Derived.Test.YtpigbggoiipmhaaGreatDoorBB6
import Derived.Test.YtpigbggoiipmhaaGreatDoorBB7
import Derived.Test.YtpigbggoiipmhaaGreatDoorBA17
namespace Go.Proofs.YtpigbggoiipmhaaGreatDoor
set_option maxHeartbeats 20000000
set_option maxRecDepth 100000
open Go.RowKit Go.Shelf Go.Sort
def BR:Value:=.agg #[.int .i64 0,.int .u8 0,.string ⟨#[]⟩,.slice none 0 0,.string ⟨#[]⟩,.bool false]
theorem eD {fn:Func} {p u:Tmp} (h:fn.results=#[.cell p 122,.tmp u]) {tmps:Array Value} {w':World} {g:Nat} {a0 a1 a2 a3 a4 a5:Value} (hp:tmps.getD p undef=.pointer (some ⟨g,0,none⟩))
  (hg:Blk w' g 122 #[a0,a1,a2,a3,a4,a5]):(results fn tmps).run Tryz.prog w'=.ok (.tuple #[.agg #[a0,a1,a2,a3,a4,a5],tmps.getD u undef]) w':=
 aH h tmps w' g 122 _ (0,0) _ hp hg Tryz.underlying122 rfl (by kernel_rfl)
theorem mJ {s:ByteArray} (h:¬s=⟨#[]⟩):(s.toList==[])=false/\s.toList.isEmpty=false:=by have h1:s.toList≠[]:=λe=>h (gA (by rw [e];exact (Go.ByteArray.toList_eq (⟨#[]⟩:ByteArray)).symm));exact ⟨by rw [yW];exact h1,by cases hl:s.toList with|nil=>exact absurd hl h1|cons a b=>rfl⟩
theorem aD.set6 {w:World} {q:aB} {g:Nat} {v:Value} {l:List Opd} (h:aD w q v l) (hg:∀k,q k->k≠g) (a0 a1 a2 a3 a4 a5:Value):aD (rB w g a0 a1 a2 a3 a4 a5) q v l:=h.keep (λk hk=>eH _ _ _ _ _ _ _ _ k (hg k hk))
theorem QB (op:Int) (h0:0<=op) (h8:op<256) (hs:(aK op).1=⟨#[]⟩) (w:World):Calls Tryz.prog 74 #[.int .i64 0,.int .u8 op] w λe w'=>e=.returned (.tuple #[BR,.int .i64 2])/\Below w.heap.size w w':=by
 have HCB:=aA (λW=>mN op h0 h8 W);have HF:=aA (((Fr.start w).new 122 #[.int .i64 0,.int .u8 0,.string ⟨#[]⟩,.slice none 0 0,.string ⟨#[]⟩,.bool false]).new' 122 #[.int .i64 0,.int .u8 op,.string ⟨#[]⟩,.slice none 0 0,.string ⟨#[]⟩,.bool false] (b:=w.heap.size+1) (by rw [zW]));generalize (aK op).1=s at *;generalize (aK op).2.1=l at *;generalize (aK op).2.2=ex at *;subst hs;go_enter Tryz.func74,Tryz.ntmps74;go_wp2_with fail;refine (HCB.out _).mono ?_;rintro e w1 ⟨v,rfl,ho,hb⟩;obtain ⟨va,vc,rfl⟩:=ho.form;have H:=aA (HF.out.next hb);have hs1:w.heap.size+2<=w1.heap.size:=by have:=(H.out.blk 0 rfl).lt;omega
 have HO:Hid (aD w1 (λk=>w.heap.size+2<=k) (.slice va l.length vc) l):=ho.mono (λk hk=>by rw [zW,zW] at hk;omega);clear ho hb;exact tX7
theorem NU (op:Int) (h0:0<=op) (h8:op<256) (hs:¬(aK op).1=⟨#[]⟩) (w:World):Calls Tryz.prog 74 #[.int .i64 0,.int .u8 op] w λe w'=>∃v,e=.returned (.tuple #[.agg #[.int .i64 0,.int .u8 op,.string (aK op).1,v,.string (aK op).2.2,.bool false],.int .i64 1])/\aD w' (λb=>w.heap.size<=b) v (aK op).2.1/\Below w.heap.size w w':=by
 have HCB:=aA (λW=>mN op h0 h8 W);have HF:=aA (((Fr.start w).new 122 #[.int .i64 0,.int .u8 0,.string ⟨#[]⟩,.slice none 0 0,.string ⟨#[]⟩,.bool false]).new' 122 #[.int .i64 0,.int .u8 op,.string ⟨#[]⟩,.slice none 0 0,.string ⟨#[]⟩,.bool false] (b:=w.heap.size+1) (by rw [zW]));generalize (aK op).1=s at *;generalize (aK op).2.1=l at *;generalize (aK op).2.2=ex at *;obtain ⟨t1,t2⟩:=mJ hs;go_enter Tryz.func74,Tryz.ntmps74;go_wp2_with fail;refine (HCB.out _).mono ?_;rintro e w1 ⟨v,rfl,ho,hb⟩;obtain ⟨va,vc,rfl⟩:=ho.form;have H:=aA (HF.out.next hb);have hs1:w.heap.size+2<=w1.heap.size:=by have:=(H.out.blk 0 rfl).lt;omega
 have HO:Hid (aD w1 (λk=>w.heap.size+2<=k) (.slice va l.length vc) l):=ho.mono (λk hk=>by rw [zW,zW] at hk;omega);clear ho hb;exact tX4
theorem VB (op:Int) (h0:0<=op) (h8:op<256) (hs:(edF op).1=⟨#[]⟩) (w:World):Calls Tryz.prog 74 #[.int .i64 2,.int .u8 op] w λe w'=>e=.returned (.tuple #[BR,.int .i64 3])/\Below w.heap.size w w':=by
 have HCB:=aA (λW=>JN op h0 h8 W);have HF:=aA (((Fr.start w).new 122 #[.int .i64 0,.int .u8 0,.string ⟨#[]⟩,.slice none 0 0,.string ⟨#[]⟩,.bool false]).new' 122 #[.int .i64 2,.int .u8 op,.string ⟨#[]⟩,.slice none 0 0,.string ⟨#[]⟩,.bool false] (b:=w.heap.size+1) (by rw [zW]));generalize (edF op).1=s at *;generalize (edF op).2.1=l at *;generalize (edF op).2.2.1=ex at *;generalize (edF op).2.2.2=al at *;subst hs;go_enter Tryz.func74,Tryz.ntmps74;go_wp2_with fail;refine (HCB.out _).mono ?_;rintro e w1 ⟨v,rfl,ho,hb⟩;obtain ⟨va,vc,rfl⟩:=ho.form;have H:=aA (HF.out.next hb);have hs1:w.heap.size+2<=w1.heap.size:=by have:=(H.out.blk 0 rfl).lt;omega
 have HO:Hid (aD w1 (λk=>w.heap.size+2<=k) (.slice va l.length vc) l):=ho.mono (λk hk=>by rw [zW,zW] at hk;omega);clear ho hb;have e0:=(H.out.blk 0 rfl).cell 0;have e1:=(H.out.blk 0 rfl).cell 1;have e2:=(H.out.blk 0 rfl).cell 2;have e3:=(H.out.blk 0 rfl).cell 3;have e4:=(H.out.blk 0 rfl).cell 4;have e5:=(H.out.blk 0 rfl).cell 5;have r0:=(H.out.blk 1 rfl).cell 0;have r1:=(H.out.blk 1 rfl).cell 1;have r2:=(H.out.blk 1 rfl).cell 2;have r3:=(H.out.blk 1 rfl).cell 3;have r4:=(H.out.blk 1 rfl).cell 4;have r5:=(H.out.blk 1 rfl).cell 5;have z0:=(H.out.blk 0 rfl).free 0;have y0:=(H.out.blk 1 rfl).free 0;have z1:=(H.out.blk 0 rfl).free 1;have y1:=(H.out.blk 1 rfl).free 1;have z2:=(H.out.blk 0 rfl).free 2;have y2:=(H.out.blk 1 rfl).free 2;have z3:=(H.out.blk 0 rfl).free 3;have y3:=(H.out.blk 1 rfl).free 3;have z4:=(H.out.blk 0 rfl).free 4;have y4:=(H.out.blk 1 rfl).free 4;have z5:=(H.out.blk 0 rfl).free 5;have y5:=(H.out.blk 1 rfl).free 5;go_wp2;exact yR (eD rfl rfl (fV (((((H.out.blk 1 rfl).far (p:=⟨w.heap.size+1,2,none⟩) (YX (YH _)) _).far (p:=⟨w.heap.size+1,3,none⟩) (YX (YH _)) _).far (p:=⟨w.heap.size+1,4,none⟩) (YX (YH _)) _).far (p:=⟨w.heap.size+1,5,none⟩) (YX (YH _)) _) _ _ _ _ _ _)) rfl ⟨rfl,bE ((((H.out.below.setCell (p:=⟨w.heap.size+1,2,none⟩) (jQ _) _).setCell (p:=⟨w.heap.size+1,3,none⟩) (jQ _) _).setCell (p:=⟨w.heap.size+1,4,none⟩) (jQ _) _).setCell (p:=⟨w.heap.size+1,5,none⟩) (jQ _) _) (zI _) _ _ _ _ _ _⟩
theorem LX (op:Int) (h0:0<=op) (h8:op<256) (hs:¬(edF op).1=⟨#[]⟩) (w:World):Calls Tryz.prog 74 #[.int .i64 2,.int .u8 op] w λe w'=>∃v,e=.returned (.tuple #[.agg #[.int .i64 2,.int .u8 op,.string (edF op).1,v,.string (edF op).2.2.1,.bool (edF op).2.2.2],.int .i64 1])/\aD w' (λb=>w.heap.size<=b) v (edF op).2.1/\Below w.heap.size w w':=by
 have HCB:=aA (λW=>JN op h0 h8 W);have HF:=aA (((Fr.start w).new 122 #[.int .i64 0,.int .u8 0,.string ⟨#[]⟩,.slice none 0 0,.string ⟨#[]⟩,.bool false]).new' 122 #[.int .i64 2,.int .u8 op,.string ⟨#[]⟩,.slice none 0 0,.string ⟨#[]⟩,.bool false] (b:=w.heap.size+1) (by rw [zW]));generalize (edF op).1=s at *;generalize (edF op).2.1=l at *;generalize (edF op).2.2.1=ex at *;generalize (edF op).2.2.2=al at *;obtain ⟨t1,t2⟩:=mJ hs;go_enter Tryz.func74,Tryz.ntmps74;go_wp2_with fail;refine (HCB.out _).mono ?_;rintro e w1 ⟨v,rfl,ho,hb⟩;obtain ⟨va,vc,rfl⟩:=ho.form;have H:=aA (HF.out.next hb);have hs1:w.heap.size+2<=w1.heap.size:=by have:=(H.out.blk 0 rfl).lt;omega
 have HO:Hid (aD w1 (λk=>w.heap.size+2<=k) (.slice va l.length vc) l):=ho.mono (λk hk=>by rw [zW,zW] at hk;omega);clear ho hb;have e0:=(H.out.blk 0 rfl).cell 0;have e1:=(H.out.blk 0 rfl).cell 1;have e2:=(H.out.blk 0 rfl).cell 2;have e3:=(H.out.blk 0 rfl).cell 3;have e4:=(H.out.blk 0 rfl).cell 4;have e5:=(H.out.blk 0 rfl).cell 5;have r0:=(H.out.blk 1 rfl).cell 0;have r1:=(H.out.blk 1 rfl).cell 1;have r2:=(H.out.blk 1 rfl).cell 2;have r3:=(H.out.blk 1 rfl).cell 3;have r4:=(H.out.blk 1 rfl).cell 4;have r5:=(H.out.blk 1 rfl).cell 5;have z0:=(H.out.blk 0 rfl).free 0;have y0:=(H.out.blk 1 rfl).free 0;have z1:=(H.out.blk 0 rfl).free 1;have y1:=(H.out.blk 1 rfl).free 1;have z2:=(H.out.blk 0 rfl).free 2;have y2:=(H.out.blk 1 rfl).free 2;have z3:=(H.out.blk 0 rfl).free 3;have y3:=(H.out.blk 1 rfl).free 3;have z4:=(H.out.blk 0 rfl).free 4;have y4:=(H.out.blk 1 rfl).free 4;have z5:=(H.out.blk 0 rfl).free 5;have y5:=(H.out.blk 1 rfl).free 5;go_wp2;refine yR (eD rfl rfl (fV (((((H.out.blk 1 rfl).far (p:=⟨w.heap.size+1,2,none⟩) (YX (YH _)) _).far (p:=⟨w.heap.size+1,3,none⟩) (YX (YH _)) _).far (p:=⟨w.heap.size+1,4,none⟩) (YX (YH _)) _).far (p:=⟨w.heap.size+1,5,none⟩) (YX (YH _)) _) _ _ _ _ _ _)) rfl ⟨_,rfl,((((((HO.out.far (p:=⟨w.heap.size+1,2,none⟩) (λk hk=>by show k≠w.heap.size+1;omega) _).far (p:=⟨w.heap.size+1,3,none⟩) (λk hk=>by show k≠w.heap.size+1;omega) _).far (p:=⟨w.heap.size+1,4,none⟩) (λk hk=>by show k≠w.heap.size+1;omega) _).far (p:=⟨w.heap.size+1,5,none⟩) (λk hk=>by show k≠w.heap.size+1;omega) _).set6 (λk hk=>by omega) _ _ _ _ _ _).mono (λk hk=>by omega)),bE ((((H.out.below.setCell (p:=⟨w.heap.size+1,2,none⟩) (jQ _) _).setCell (p:=⟨w.heap.size+1,3,none⟩) (jQ _) _).setCell (p:=⟨w.heap.size+1,4,none⟩) (jQ _) _).setCell (p:=⟨w.heap.size+1,5,none⟩) (jQ _) _) (zI _) _ _ _ _ _ _⟩
theorem NJ (op:Int) (h0:0<=op) (h8:op<256) (hs:¬(cbF op (rF (op%8))).1=⟨#[]⟩) (w:World):Calls Tryz.prog 74 #[.int .i64 1,.int .u8 op] w λe w'=>∃v,e=.returned (.tuple #[.agg #[.int .i64 1,.int .u8 op,.string (cbF op (rF (op%8))).1,v,.string ⟨#[]⟩,.bool false],.int .i64 1])/\aD w' (λb=>w.heap.size<=b) v (cbF op (rF (op%8))).2/\Below w.heap.size w w':=by
 have HCB:=aA (λW=>JM op (rF (op%8)) h0 h8 W);have HF:=aA (((Fr.start w).new 122 #[.int .i64 0,.int .u8 0,.string ⟨#[]⟩,.slice none 0 0,.string ⟨#[]⟩,.bool false]).new' 122 #[.int .i64 1,.int .u8 op,.string ⟨#[]⟩,.slice none 0 0,.string ⟨#[]⟩,.bool false] (b:=w.heap.size+1) (by rw [zW]));generalize (cbF op (rF (op%8))).1=s at *;generalize (cbF op (rF (op%8))).2=l at *;obtain ⟨t1,t2⟩:=mJ hs;go_enter Tryz.func74,Tryz.ntmps74;go_wp2_with fail;refine (oX _ _).mono ?_;rintro e w1 ⟨rfl,hb⟩;have H1:=aA (HF.out.next hb);clear hb;go_wp2_with fail;refine (HCB.out _).mono ?_;rintro e w2 ⟨v,rfl,ho,hb⟩;obtain ⟨va,vc,rfl⟩:=ho.form;have hs1:w.heap.size+2<=w1.heap.size:=by have:=(H1.out.blk 0 rfl).lt;omega
 have H:=aA (H1.out.next hb);have HO:Hid (aD w2 (λk=>w.heap.size+2<=k) (.slice va l.length vc) l):=ho.opd hs1;clear ho hb H1;have e0:=(H.out.blk 0 rfl).cell 0;have e1:=(H.out.blk 0 rfl).cell 1;have e2:=(H.out.blk 0 rfl).cell 2;have e3:=(H.out.blk 0 rfl).cell 3;have e4:=(H.out.blk 0 rfl).cell 4;have e5:=(H.out.blk 0 rfl).cell 5;have r0:=(H.out.blk 1 rfl).cell 0;have r1:=(H.out.blk 1 rfl).cell 1;have r2:=(H.out.blk 1 rfl).cell 2;have r3:=(H.out.blk 1 rfl).cell 3;have r4:=(H.out.blk 1 rfl).cell 4;have r5:=(H.out.blk 1 rfl).cell 5;have z0:=(H.out.blk 0 rfl).free 0;have y0:=(H.out.blk 1 rfl).free 0;have z1:=(H.out.blk 0 rfl).free 1;have y1:=(H.out.blk 1 rfl).free 1;have z2:=(H.out.blk 0 rfl).free 2;have y2:=(H.out.blk 1 rfl).free 2;have z3:=(H.out.blk 0 rfl).free 3;have y3:=(H.out.blk 1 rfl).free 3;have z4:=(H.out.blk 0 rfl).free 4;have y4:=(H.out.blk 1 rfl).free 4;have z5:=(H.out.blk 0 rfl).free 5;have y5:=(H.out.blk 1 rfl).free 5;go_wp2;refine yR (eD rfl rfl (fV (((H.out.blk 1 rfl).far (p:=⟨w.heap.size+1,2,none⟩) (YX (YH _)) _).far (p:=⟨w.heap.size+1,3,none⟩) (YX (YH _)) _) _ _ _ _ _ _)) rfl ⟨_,rfl,((((HO.out.far (p:=⟨w.heap.size+1,2,none⟩) (λk hk=>by show k≠w.heap.size+1;omega) _).far (p:=⟨w.heap.size+1,3,none⟩) (λk hk=>by show k≠w.heap.size+1;omega) _).set6 (λk hk=>by omega) _ _ _ _ _ _).mono (λk hk=>by omega)),bE ((H.out.below.setCell (p:=⟨w.heap.size+1,2,none⟩) (jQ _) _).setCell (p:=⟨w.heap.size+1,3,none⟩) (jQ _) _) (zI _) _ _ _ _ _ _⟩
theorem AY (q r:Int) (hq:q=3/\r=5\/q=4/\r=6) (op:Int) (h0:0<=op) (h8:op<256) (hcb:¬op=203) (hl1:(aK op).2.1.length<=1000) (hl2:(aK op).1.size<=1000) (hl3:(aK op).2.2.size<=1000) (hs:(ixR r (aK op).1 (aK op).2.1 (aK op).2.2).1=⟨#[]⟩) (w:World):Calls Tryz.prog 74 #[.int .i64 q,.int .u8 op] w λe w'=>e=.returned (.tuple #[BR,.int .i64 0])/\Below w.heap.size w w':=by
 have HM:=aA (λW=>mN op h0 h8 W);have HIX:=aA (λp v W h=>oK r (aK op).1 (aK op).2.2 (aK op).2.1 p v W h (by omega) (by omega) hl1 hl2 hl3);clear hl1 hl2 hl3;have hcb2:(op==203)=false:=by rw [yW];exact hcb
 have HF:=aA (((Fr.start w).new 122 #[.int .i64 0,.int .u8 0,.string ⟨#[]⟩,.slice none 0 0,.string ⟨#[]⟩,.bool false]).new' 122 #[.int .i64 q,.int .u8 op,.string ⟨#[]⟩,.slice none 0 0,.string ⟨#[]⟩,.bool false] (b:=w.heap.size+1) (by rw [zW]));generalize (ixR r (aK op).1 (aK op).2.1 (aK op).2.2).1=s at *;generalize (ixR r (aK op).1 (aK op).2.1 (aK op).2.2).2.1=l at *;generalize (ixR r (aK op).1 (aK op).2.1 (aK op).2.2).2.2=ex at *;generalize (aK op).1=s1 at *;generalize (aK op).2.1=l1 at *;generalize (aK op).2.2=ex1 at *;subst hs;rcases hq with ⟨rfl,rfl⟩|⟨rfl,rfl⟩;all_goals
  go_enter Tryz.func74,Tryz.ntmps74;go_wp2_with fail;refine (HM.out _).mono ?_;rintro e w1 ⟨v1,rfl,ho1,hb⟩;obtain ⟨va1,vc1,rfl⟩:=ho1.form;have H1:=aA ((HF.out.next hb).alloc (.cells #[.string s1,.slice va1 l1.length vc1] 30));have HF1:=aA (Blk.new w1 30 #[.string s1,.slice va1 l1.length vc1]);have HS1:=aA (ho1.slR.alloc (.cells #[.string s1,.slice va1 l1.length vc1] 30));have hs1:w.heap.size+2<=w1.heap.size:=by have:=((HF.out.next hb).blk 0 rfl).lt;omega
  obtain ⟨m0,m1,_,_⟩:=HF1.out.two;clear hb ho1;go_wp2_with fail;refine (HIX.out _ _ _ HS1.out).mono ?_;rintro e w2 ⟨v,rfl,ho,hb⟩;obtain ⟨va,vc,rfl⟩:=ho.form;have H:=aA (H1.out.next hb);have HO:Hid (aD w2 (λk=>w.heap.size+2<=k) (.slice va l.length vc) l):=ho.mono (λk hk=>by rw [zW] at hk;omega);clear ho hb H1 m0 m1;exact tX7
theorem xL (q r:Int) (hq:q=3/\r=5\/q=4/\r=6) (op:Int) (h0:0<=op) (h8:op<256) (hcb:¬op=203) (hl1:(aK op).2.1.length<=1000) (hl2:(aK op).1.size<=1000) (hl3:(aK op).2.2.size<=1000) (hs:¬(ixR r (aK op).1 (aK op).2.1 (aK op).2.2).1=⟨#[]⟩) (w:World):Calls Tryz.prog 74 #[.int .i64 q,.int .u8 op] w λe w'=>∃v,e=.returned (.tuple #[.agg #[.int .i64 q,.int .u8 op,.string (ixR r (aK op).1 (aK op).2.1 (aK op).2.2).1,v,.string (ixR r (aK op).1 (aK op).2.1 (aK op).2.2).2.2,.bool false],.int .i64 1])/\aD w' (λb=>w.heap.size<=b) v (ixR r (aK op).1 (aK op).2.1 (aK op).2.2).2.1/\Below w.heap.size w w':=by
 have HM:=aA (λW=>mN op h0 h8 W);have HIX:=aA (λp v W h=>oK r (aK op).1 (aK op).2.2 (aK op).2.1 p v W h (by omega) (by omega) hl1 hl2 hl3);clear hl1 hl2 hl3;have hcb2:(op==203)=false:=by rw [yW];exact hcb
 have HF:=aA (((Fr.start w).new 122 #[.int .i64 0,.int .u8 0,.string ⟨#[]⟩,.slice none 0 0,.string ⟨#[]⟩,.bool false]).new' 122 #[.int .i64 q,.int .u8 op,.string ⟨#[]⟩,.slice none 0 0,.string ⟨#[]⟩,.bool false] (b:=w.heap.size+1) (by rw [zW]));generalize (ixR r (aK op).1 (aK op).2.1 (aK op).2.2).1=s at *;generalize (ixR r (aK op).1 (aK op).2.1 (aK op).2.2).2.1=l at *;generalize (ixR r (aK op).1 (aK op).2.1 (aK op).2.2).2.2=ex at *;generalize (aK op).1=s1 at *;generalize (aK op).2.1=l1 at *;generalize (aK op).2.2=ex1 at *;obtain ⟨t1,t2⟩:=mJ hs;rcases hq with ⟨rfl,rfl⟩|⟨rfl,rfl⟩;all_goals
  go_enter Tryz.func74,Tryz.ntmps74;go_wp2_with fail;refine (HM.out _).mono ?_;rintro e w1 ⟨v1,rfl,ho1,hb⟩;obtain ⟨va1,vc1,rfl⟩:=ho1.form;have H1:=aA ((HF.out.next hb).alloc (.cells #[.string s1,.slice va1 l1.length vc1] 30));have HF1:=aA (Blk.new w1 30 #[.string s1,.slice va1 l1.length vc1]);have HS1:=aA (ho1.slR.alloc (.cells #[.string s1,.slice va1 l1.length vc1] 30));have hs1:w.heap.size+2<=w1.heap.size:=by have:=((HF.out.next hb).blk 0 rfl).lt;omega
  obtain ⟨m0,m1,_,_⟩:=HF1.out.two;clear hb ho1;go_wp2_with fail;refine (HIX.out _ _ _ HS1.out).mono ?_;rintro e w2 ⟨v,rfl,ho,hb⟩;obtain ⟨va,vc,rfl⟩:=ho.form;have H:=aA (H1.out.next hb);have HO:Hid (aD w2 (λk=>w.heap.size+2<=k) (.slice va l.length vc) l):=ho.mono (λk hk=>by rw [zW] at hk;omega);clear ho hb H1 m0 m1;exact tX4
set_option maxHeartbeats 4000000
theorem At9_cb3 (w:World):Calls Tryz.prog 74 #[.int .i64 3,.int .u8 203] w λe w'=>e=.returned (.tuple #[BR,.int .i64 2])/\Below w.heap.size w w':=by exact tX28
theorem YZ (w:World):Calls Tryz.prog 74 #[.int .i64 4,.int .u8 203] w λe w'=>e=.returned (.tuple #[BR,.int .i64 2])/\Below w.heap.size w w':=by exact tX28
theorem At9_out (pg op:Int) (h:pg<0\/6<pg) (w:World):Calls Tryz.prog 74 #[.int .i64 pg,.int .u8 op] w λe w'=>e=.returned (.tuple #[BR,.int .i64 0])/\Below w.heap.size w w':=by
 have q0:(pg==0)=false:=by rw [yW];omega
 have q1:(pg==1)=false:=by rw [yW];omega
 have q2:(pg==2)=false:=by rw [yW];omega
 have q3:(pg==3)=false:=by rw [yW];omega
 have q4:(pg==4)=false:=by rw [yW];omega
 have q5:(pg==5)=false:=by rw [yW];omega
 have q6:(pg==6)=false:=by rw [yW];omega
 clear h;exact tX28
theorem At9_5 (op:Int) (h0:0<=op) (h8:op<256) (hl:(cbF op ⟨5,5,0⟩).2.length<=100) (w:World):Calls Tryz.prog 74 #[.int .i64 5,.int .u8 op] w λe w'=>∃v,e=.returned (.tuple #[.agg #[.int .i64 5,.int .u8 op,.string (eF 5 op).1,v,.string ⟨#[100]⟩,.bool (eF 5 op).2.2],.int .i64 1])/\aD w' (λb=>w.heap.size<=b) v (eF 5 op).2.1/\Below w.heap.size w w':=by have HCB:=aA (λW=>wI 5 op h0 h8 hl W);have HF:=aA (((Fr.start w).new 122 #[.int .i64 0,.int .u8 0,.string ⟨#[]⟩,.slice none 0 0,.string ⟨#[]⟩,.bool false]).new' 122 #[.int .i64 5,.int .u8 op,.string ⟨#[]⟩,.slice none 0 0,.string ⟨#[]⟩,.bool false] (b:=w.heap.size+1) (by rw [zW]));clear hl;generalize (eF 5 op).1=s at *;generalize (eF 5 op).2.1=l at *;generalize (eF 5 op).2.2=al at *;exact tXa
theorem At9_6 (op:Int) (h0:0<=op) (h8:op<256) (hl:(cbF op ⟨5,6,0⟩).2.length<=100) (w:World):Calls Tryz.prog 74 #[.int .i64 6,.int .u8 op] w λe w'=>∃v,e=.returned (.tuple #[.agg #[.int .i64 6,.int .u8 op,.string (eF 6 op).1,v,.string ⟨#[100]⟩,.bool (eF 6 op).2.2],.int .i64 1])/\aD w' (λb=>w.heap.size<=b) v (eF 6 op).2.1/\Below w.heap.size w w':=by have HCB:=aA (λW=>wI 6 op h0 h8 hl W);have HF:=aA (((Fr.start w).new 122 #[.int .i64 0,.int .u8 0,.string ⟨#[]⟩,.slice none 0 0,.string ⟨#[]⟩,.bool false]).new' 122 #[.int .i64 6,.int .u8 op,.string ⟨#[]⟩,.slice none 0 0,.string ⟨#[]⟩,.bool false] (b:=w.heap.size+1) (by rw [zW]));clear hl;generalize (eF 6 op).1=s at *;generalize (eF 6 op).2.1=l at *;generalize (eF 6 op).2.2=al at *;exact tXa
def yA (p:Int) (op:Nat) (k:Int) (s:ByteArray) (l:List Opd) (ex:ByteArray) (al:Bool):Option aL × Int:=if s.data.toList=[] then (none,k) else (some ⟨p,op,s.data.toList,l,ex.data.toList,al⟩,1)
def nM (p:Int) (op:Nat):Option aL × Int:=
 if p=0 then yA 0 op 2 (aK op).1 (aK op).2.1 (aK op).2.2 false
 else if p=1 then yA 1 op 0 (cbF op (rF ((op:Int)%8))).1 (cbF op (rF ((op:Int)%8))).2 ⟨#[]⟩ false
 else if p=2 then yA 2 op 3 (edF op).1 (edF op).2.1 (edF op).2.2.1 (edF op).2.2.2
 else if p=3\/p=4 then (if op=203 then (none,2) else yA p op 0 (ixR (p+2) (aK op).1 (aK op).2.1 (aK op).2.2).1 (ixR (p+2) (aK op).1 (aK op).2.1 (aK op).2.2).2.1 (ixR (p+2) (aK op).1 (aK op).2.1 (aK op).2.2).2.2 false)
 else (some ⟨p,op,(eF p op).1.data.toList,(eF p op).2.1,[100],(eF p op).2.2⟩,1)
def FD (a b:aL):Bool:=decide (a.pg=b.pg)&&(decide (a.op=b.op)&&(decide (a.iop=b.iop)&&(decide (a.args=b.args)&&(decide (a.ex=b.ex)&&(a.al==b.al)))))
theorem DB {a b:aL} (h:FD a b=true):a=b:=by obtain ⟨a1,a2,a3,a4,a5,a6⟩:=a;obtain ⟨b1,b2,b3,b4,b5,b6⟩:=b;unfold FD at h;simp only [Bool.and_eq_true,decide_eq_true_eq,beq_iff_eq] at h;obtain ⟨rfl,rfl,rfl,rfl,rfl,rfl⟩:=h;rfl
def pI (x y:Option aL × Int):Bool:=decide (x.2=y.2)&&(match x.1,y.1 with|some a,some b=>FD a b|none,none=>true|_,_=>false)
theorem gQ {x y:Option aL × Int} (h:pI x y=true):x=y:=by
 obtain ⟨x,k⟩:=x;obtain ⟨y,m⟩:=y;unfold pI at h;rw [z0K,decide_eq_true_eq] at h;obtain ⟨h1,h2⟩:=h;dsimp only at h1 h2;subst h1;cases x<;>cases y<;>simp at h2
 ·rfl
 ·rw [DB h2]
theorem same0:∀x:Fin 256,pI (nM 0 x.val) (atF 0 x.val)=true:=by decide+kernel
theorem same1:∀x:Fin 256,pI (nM 1 x.val) (atF 1 x.val)=true:=by decide+kernel
theorem same2:∀x:Fin 256,pI (nM 2 x.val) (atF 2 x.val)=true:=by decide+kernel
theorem same3:∀x:Fin 256,pI (nM 3 x.val) (atF 3 x.val)=true:=by decide+kernel
theorem same4:∀x:Fin 256,pI (nM 4 x.val) (atF 4 x.val)=true:=by decide+kernel
theorem same5:∀x:Fin 256,pI (nM 5 x.val) (atF 5 x.val)=true:=by decide+kernel
theorem same6:∀x:Fin 256,pI (nM 6 x.val) (atF 6 x.val)=true:=by decide+kernel
theorem small9:∀x:Fin 256,(decide ((aK x.val).2.1.length<=1000)&&(decide ((aK x.val).1.size<=1000)&&(decide ((aK x.val).2.2.size<=1000)&&(decide ((cbF x.val ⟨5,5,0⟩).2.length<=100)&&decide ((cbF x.val ⟨5,6,0⟩).2.length<=100)))))=true:=by decide+kernel
theorem pZ {s:ByteArray}:s.data.toList=[]↔s=⟨#[]⟩:=by obtain ⟨⟨l⟩⟩:=s;simp
theorem yO {w:World} {k:Int} {e:Ending} {w':World} (h:e=.returned (.tuple #[BR,.int .i64 k])/\Below w.heap.size w w'):AtP w none k e w':=⟨h.1,h.2⟩
theorem zH {w:World} {pg:Int} {op:Nat} {s ex:ByteArray} {l:List Opd} {al:Bool} {e:Ending} {w':World}
  (h:∃v,e=.returned (.tuple #[.agg #[.int .i64 pg,.int .u8 op,.string s,v,.string ex,.bool al],.int .i64 1])/\aD w' (λb=>w.heap.size<=b) v l/\Below w.heap.size w w'):AtP w (some ⟨pg,op,s.data.toList,l,ex.data.toList,al⟩) 1 e w':=by
 obtain ⟨v,h1,h2,h3⟩:=h;refine ⟨⟨v,?_,h2⟩,h3⟩;rw [h1];rfl
theorem jE {pg k:Int} {op:Nat} {s ex:ByteArray} {l:List Opd} {al:Bool} {w:World} {args:Array Value}
  (hno:s=⟨#[]⟩->Calls Tryz.prog 74 args w λe w'=>e=.returned (.tuple #[BR,.int .i64 k])/\Below w.heap.size w w')
  (hyes:¬s=⟨#[]⟩->Calls Tryz.prog 74 args w λe w'=>∃v,e=.returned (.tuple #[.agg #[.int .i64 pg,.int .u8 op,.string s,v,.string ex,.bool al],.int .i64 1])/\aD w' (λb=>w.heap.size<=b) v l/\Below w.heap.size w w'):
  Calls Tryz.prog 74 args w (AtP w (yA pg op k s l ex al).1 (yA pg op k s l ex al).2):=by
 unfold yA;by_cases hs:s.data.toList=[]
 ·rw [if_pos hs];exact (hno (pZ.1 hs)).mono λ_ _ h=>yO h
 ·rw [if_neg hs];exact (hyes (λe=>hs (pZ.2 e))).mono λ_ _ h=>zH h
theorem YW:∀x:Fin 256,decide ((cbF x.val (rF ((x.val:Int)%8))).1.data.toList=[])=false:=by decide+kernel
theorem pY (page:Int) (op:Nat) (hop:op<256) (w:World):Calls Tryz.prog 74 #[.int .i64 page,.int .u8 op] w (AtP w (atF page op).1 (atF page op).2):=by
 have h0:(0:Int)<=op:=by omega
 have h8:(op:Int)<256:=by omega
 have hsm:=small9 ⟨op,hop⟩;simp only [Bool.and_eq_true,decide_eq_true_eq] at hsm;obtain ⟨l1,l2,l3,l4,l5⟩:=hsm;by_cases p0:page=0
 ·subst p0;rw [<-gQ (same0 ⟨op,hop⟩)];exact jE (λhs=>QB op h0 h8 hs w) (λhs=>NU op h0 h8 hs w)
 by_cases p1:page=1
 ·subst p1;rw [<-gQ (same1 ⟨op,hop⟩)];exact jE (λhs=>absurd (pZ.2 hs) (z0R (YW ⟨op,hop⟩))) (λhs=>NJ op h0 h8 hs w)
 by_cases p2:page=2
 ·subst p2;rw [<-gQ (same2 ⟨op,hop⟩)];exact jE (λhs=>VB op h0 h8 hs w) (λhs=>LX op h0 h8 hs w)
 by_cases p3:page=3
 ·subst p3;by_cases hcb:op=203
  ·subst hcb;rw [<-gQ (same3 ⟨203,by decide⟩)];exact (At9_cb3 w).mono λ_ _ h=>yO h
  ·rw [<-gQ (same3 ⟨op,hop⟩)];have e:nM 3 op=yA 3 op 0 (ixR 5 (aK op).1 (aK op).2.1 (aK op).2.2).1 (ixR 5 (aK op).1 (aK op).2.1 (aK op).2.2).2.1 (ixR 5 (aK op).1 (aK op).2.1 (aK op).2.2).2.2 false:=(by exact tX73);show Calls _ _ _ _ (AtP w (nM 3 op).1 (nM 3 op).2);rw [e];exact jE (λhs=>AY 3 5 (.inl ⟨rfl,rfl⟩) op h0 h8 (by omega) l1 l2 l3 hs w) (λhs=>xL 3 5 (.inl ⟨rfl,rfl⟩) op h0 h8 (by omega) l1 l2 l3 hs w)
 by_cases p4:page=4
 ·subst p4;by_cases hcb:op=203
  ·subst hcb;rw [<-gQ (same4 ⟨203,by decide⟩)];exact (YZ w).mono λ_ _ h=>yO h
  ·rw [<-gQ (same4 ⟨op,hop⟩)];have e:nM 4 op=yA 4 op 0 (ixR 6 (aK op).1 (aK op).2.1 (aK op).2.2).1 (ixR 6 (aK op).1 (aK op).2.1 (aK op).2.2).2.1 (ixR 6 (aK op).1 (aK op).2.1 (aK op).2.2).2.2 false:=(by exact tX73);show Calls _ _ _ _ (AtP w (nM 4 op).1 (nM 4 op).2);rw [e];exact jE (λhs=>AY 4 6 (.inr ⟨rfl,rfl⟩) op h0 h8 (by omega) l1 l2 l3 hs w) (λhs=>xL 4 6 (.inr ⟨rfl,rfl⟩) op h0 h8 (by omega) l1 l2 l3 hs w)
 by_cases p5:page=5
 ·subst p5;rw [<-gQ (same5 ⟨op,hop⟩)];exact (At9_5 op h0 h8 l4 w).mono λ_ _ h=>zH h
 by_cases p6:page=6
 ·subst p6;rw [<-gQ (same6 ⟨op,hop⟩)];exact (At9_6 op h0 h8 l5 w).mono λ_ _ h=>zH h
 have e:atF page op=(none,0):=by unfold atF;rw [if_neg p0,if_neg p1,if_neg p2,if_neg (λe=>e.elim p3 p4),if_neg (λe=>e.elim p5 p6)]
 rw [e];exact (At9_out page op (by omega) w).mono λ_ _ h=>yO h
def ixO (o:Opd):Bool:=(o.kind==2) || (decide (o.kind ≥ 3)&&decide (o.kind<=5)&&((o.reg==5) || (o.reg==6)))
def bL (l:List Opd):Int:=if l.any ixO=true then 3 else 0
def pg9 (l:List Opd):List Int:=if l.any ixO=true then [3,4,5,6] else [0,1,2]
def gJ (c:List Opd) (j k:Nat):List aL:=((pg9 c).take j).flatMap eJ++iG (bL c+j) k
theorem pJ {c:List Opd} {j k:Nat} {x:aL} (h:(atF (bL c+j) k).1=some x):gJ c j (k+1)=gJ c j k++[x]:=by unfold gJ;rw [qY h,JP]
end Go.Proofs.YtpigbggoiipmhaaGreatDoor
