/-
  The reference's instructions of x = 0. ref10.Letter. Marks, numbers and shapes of instructions, the program's and the references'. The reference's lists of operands, owned. Conditions: the bits; the index lies in the list of operands; sizes.
-/
import Derived.Test.YtpigbggoiipmhaaGreatDoorBB1
import Derived.Test.YtpigbggoiipmhaaGreatDoorBA9
namespace Go.Proofs.YtpigbggoiipmhaaGreatDoor
set_option maxHeartbeats 4000000
set_option maxRecDepth 100000
open Go.RowKit Go.Shelf Go.Sort
def cL (w:World) (s:ByteArray) (l:List Opd) (ex:ByteArray) (e:Ending) (w':World):Prop:=∃v,e=.returned (.tuple #[.agg #[.string s,v],.string ex])/\aD w' (λb=>w.heap.size<=b) v l/\Below w.heap.size w w'
theorem YR (w:World):Calls Tryz.prog 165 #[.int .i64 0,.int .i64 0] w (cL w ⟨#[78,79,80]⟩ [] ⟨#[]⟩):=by
 have H0:=aA ((Fr.start w).new' 30 #[.string ⟨#[]⟩,.slice none 0 0] rfl);go_enter Tryz.func165,Tryz.ntmps165;go_wp2_with fail;refine (dT _ _ _).mono ?_;rintro e w1 ⟨o1,rfl,hb⟩;have LT1:=aA (((H0.out.next hb).blk 0 rfl).lt);have H1:=aA ((H0.out.next hb).new' 52 #[.int .i64 o1.kind,.int .i64 o1.reg,.int .i64 o1.n] rfl);clear hb;go_wp2_with fail;refine (dT _ _ _).mono ?_;rintro e w2 ⟨o2,rfl,hb⟩;have LT2:=aA (((H1.out.next hb).blk 0 rfl).lt);have H:=aA ((H1.out.next hb).new' 52 #[.int .i64 o2.kind,.int .i64 o2.reg,.int .i64 o2.n] rfl);obtain ⟨e0,e1,d0,d1⟩:=(H.out.blk 2 rfl).two;clear hb
 go_wp2_with (first
  | (go_at_call 166;refine (frI H (aO _ none 0 0 _ (aV _ (λk=>w.heap.size < k)))).mono ?_;rintro e w' ⟨rfl,HO,H⟩;obtain ⟨e0,e1,d0,d1⟩:=(H.out.blk 2 rfl).two))
 have hpo:=λx=>aW (x:=x) (y:=.slice none 0 0) H.out.below HO.out (λk hk=>hk) (zI _);exact tX6f
theorem ZJ (w:World):Calls Tryz.prog 165 #[.int .i64 1,.int .i64 0] w (cL w ⟨#[69,88]⟩ [rpF 3 4,rpF 3 7] ⟨#[]⟩):=by have H0:=aA ((Fr.start w).new' 30 #[.string ⟨#[]⟩,.slice none 0 0] rfl);go_enter Tryz.func165,Tryz.ntmps165;go_wp2_with fail;refine (dT _ _ _).mono ?_;rintro e w1 ⟨o1,rfl,hb⟩;have LT1:=aA (((H0.out.next hb).blk 0 rfl).lt);have H1:=aA ((H0.out.next hb).new' 52 #[.int .i64 o1.kind,.int .i64 o1.reg,.int .i64 o1.n] rfl);clear hb;go_wp2_with fail;refine (dT _ _ _).mono ?_;rintro e w2 ⟨o2,rfl,hb⟩;have LT2:=aA (((H1.out.next hb).blk 0 rfl).lt);have H:=aA ((H1.out.next hb).new' 52 #[.int .i64 o2.kind,.int .i64 o2.reg,.int .i64 o2.n] rfl);obtain ⟨e0,e1,d0,d1⟩:=(H.out.blk 2 rfl).two;exact tX11
theorem s3_t1 {P:Prop} (h:P:=by
  have H0:=aA ((Fr.start w).new' 30 #[.string ⟨#[]⟩,.slice none 0 0] rfl);go_enter Tryz.func165,Tryz.ntmps165;go_wp2_with fail;refine (dT _ _ _).mono ?_;rintro e w1 ⟨o1,rfl,hb⟩;have LT1:=aA (((H0.out.next hb).blk 0 rfl).lt);have H1:=aA ((H0.out.next hb).new' 52 #[.int .i64 o1.kind,.int .i64 o1.reg,.int .i64 o1.n] rfl);clear hb;go_wp2_with fail;refine (dT _ _ _).mono ?_;rintro e w2 ⟨o2,rfl,hb⟩;have LT2:=aA (((H1.out.next hb).blk 0 rfl).lt);have H:=aA ((H1.out.next hb).new' 52 #[.int .i64 o2.kind,.int .i64 o2.reg,.int .i64 o2.n] rfl);obtain ⟨e0,e1,d0,d1⟩:=(H.out.blk 2 rfl).two;clear hb
  go_wp2_with (first
   | (go_at_call 217;refine (frO H (AF _)).mono ?_;rintro e w' ⟨rfl,H⟩)
   | (go_at_call 170;refine (frL H 2 rfl (fC _ _)).mono ?_;rintro e w' ⟨va,vc,rfl,HO,H⟩)
   | (go_at_call 166;refine (frI H (aO _ _ _ _ _ HO.out)).mono ?_;rintro e w' ⟨rfl,HO,H⟩;obtain ⟨e0,e1,d0,d1⟩:=(H.out.blk 2 rfl).two))
  have hpo:=λx=>aW (x:=x) (y:=.slice va 1 vc) H.out.below HO.out (λk hk=>hk) (zI _);exact yR (aN rfl rfl (((H.out.blk 2 rfl).set 0 _).set 1 _)) rfl ⟨_,rfl,(hpo _).1,(hpo _).2⟩):P:=h
theorem low_0_2 (w:World):Calls Tryz.prog 165 #[.int .i64 2,.int .i64 0] w (cL w ⟨#[68,74,78,90]⟩ [CY] ⟨#[101]⟩):=s3_t1
theorem low_0_3 (w:World):Calls Tryz.prog 165 #[.int .i64 3,.int .i64 0] w (cL w ⟨#[74,82]⟩ [CY] ⟨#[101]⟩):=s3_t1
theorem ZE (y:Int) (h4:4<=y) (h8:y < 8) (w:World):Calls Tryz.prog 165 #[.int .i64 y,.int .i64 0] w (cL w ⟨#[74,82]⟩ [ccO (y - 4),CY] ⟨#[101]⟩):=by
 have H0:=aA ((Fr.start w).new' 30 #[.string ⟨#[]⟩,.slice none 0 0] rfl);go_enter Tryz.func165,Tryz.ntmps165;go_wp2_with fail;refine (dT _ _ _).mono ?_;rintro e w1 ⟨o1,rfl,hb⟩;have LT1:=aA (((H0.out.next hb).blk 0 rfl).lt);have H1:=aA ((H0.out.next hb).new' 52 #[.int .i64 o1.kind,.int .i64 o1.reg,.int .i64 o1.n] rfl);clear hb;go_wp2_with fail;refine (dT _ _ _).mono ?_;rintro e w2 ⟨o2,rfl,hb⟩;have LT2:=aA (((H1.out.next hb).blk 0 rfl).lt);have H:=aA ((H1.out.next hb).new' 52 #[.int .i64 o2.kind,.int .i64 o2.reg,.int .i64 o2.n] rfl);obtain ⟨e0,e1,d0,d1⟩:=(H.out.blk 2 rfl).two;clear hb
 go_wp2_with (first
  | (go_at_call 218;refine (frO H (yT _ _)).mono ?_;rintro e w' ⟨rfl,H⟩)
  | (go_at_call 217;refine (frO H (AF _)).mono ?_;rintro e w' ⟨rfl,H⟩)
  | (go_at_call 167;refine (frL H 2 rfl (cC _ _ _)).mono ?_;rintro e w' ⟨va,vc,rfl,HO,H⟩)
  | (go_at_call 166;refine (frI H (aO _ _ _ _ _ HO.out)).mono ?_;rintro e w' ⟨rfl,HO,H⟩;obtain ⟨e0,e1,d0,d1⟩:=(H.out.blk 2 rfl).two))
 exact tX30
theorem ZC (y:Int) (h0:0<=y) (h8:y < 8) (hq:y % 2=0) (w:World):Calls Tryz.prog 165 #[.int .i64 y,.int .i64 1] w (cL w ⟨#[76,68]⟩ [rpF (y / 2) 3,cV 0] ⟨#[119]⟩):=by
 have H0:=aA ((Fr.start w).new' 30 #[.string ⟨#[]⟩,.slice none 0 0] rfl);go_enter Tryz.func165,Tryz.ntmps165;go_wp2_with fail;refine (cY (y / 2) 3 _).mono ?_;rintro e w1 ⟨rfl,hb⟩;have LT1:=aA (((H0.out.next hb).blk 0 rfl).lt);have H1:=aA ((H0.out.next hb).new' 52 #[.int .i64 (rpF (y / 2) 3).kind,.int .i64 (rpF (y / 2) 3).reg,.int .i64 (rpF (y / 2) 3).n] rfl);clear hb;go_wp2_with fail;refine (dT _ _ _).mono ?_;rintro e w2 ⟨o2,rfl,hb⟩;have LT2:=aA (((H1.out.next hb).blk 0 rfl).lt);have H:=aA ((H1.out.next hb).new' 52 #[.int .i64 o2.kind,.int .i64 o2.reg,.int .i64 o2.n] rfl);obtain ⟨e0,e1,d0,d1⟩:=(H.out.blk 2 rfl).two;obtain ⟨f0,f1,f2,_,_,_⟩:=(H.out.blk 1 rfl).three;clear hb;go_upto_region 18 with fail;have HX:=H;have H:=aA H.out.drew;have n1:¬w1.heap.size=w.heap.size:=by have:=LT1.out;omega
 have n2:¬w.heap.size=w1.heap.size:=λe=>n1 e.symm;go_region_held3 (λw'=>w'.cell? ⟨w1.heap.size,0,none⟩=some (.int .i64 (rpF (y / 2) 3).kind)/\w'.cell? ⟨w1.heap.size,1,none⟩=some (.int .i64 (rpF (y / 2) 3).reg)/\w'.cell? ⟨w1.heap.size,2,none⟩=some (.int .i64 (rpF (y / 2) 3).n)) (go_keep)
  (first
   | (go_at_call 172;refine (frO H (cY _ _ _)).mono ?_;rintro e w' ⟨rfl,H⟩;obtain ⟨f0,f1,f2,_,_,_⟩:=(H.out.blk 1 rfl).three)
   | (go_at_call 171;refine (frO H (fK _ _)).mono ?_;rintro e w' ⟨rfl,H⟩;obtain ⟨f0,f1,f2,_,_,_⟩:=(H.out.blk 1 rfl).three)
   | (go_at_call 167;refine (frL H 2 rfl (cC _ _ _)).mono ?_;rintro e w' ⟨va,vc,rfl,HO,H⟩;obtain ⟨f0,f1,f2,_,_,_⟩:=(H.out.blk 1 rfl).three)
   | (go_at_call 166;refine (frI H (aO _ _ _ _ _ HO.out)).mono ?_;rintro e w' ⟨rfl,HO,H⟩;obtain ⟨e0,e1,d0,d1⟩:=(H.out.blk 2 rfl).two;obtain ⟨f0,f1,f2,_,_,_⟩:=(H.out.blk 1 rfl).three))
 go_wp2;exact tX30
theorem low_1_1 (y:Int) (h0:0<=y) (h8:y < 8) (hq:y % 2=1) (w:World):Calls Tryz.prog 165 #[.int .i64 y,.int .i64 1] w (cL w ⟨#[65,68,68]⟩ [rpF 2 3,rpF (y / 2) 3] ⟨#[]⟩):=by have H0:=aA ((Fr.start w).new' 30 #[.string ⟨#[]⟩,.slice none 0 0] rfl);go_enter Tryz.func165,Tryz.ntmps165;go_wp2_with fail;refine (cY (y / 2) 3 _).mono ?_;rintro e w1 ⟨rfl,hb⟩;have LT1:=aA (((H0.out.next hb).blk 0 rfl).lt);have H1:=aA ((H0.out.next hb).new' 52 #[.int .i64 (rpF (y / 2) 3).kind,.int .i64 (rpF (y / 2) 3).reg,.int .i64 (rpF (y / 2) 3).n] rfl);clear hb;go_wp2_with fail;refine (cY 2 3 _).mono ?_;rintro e w2 ⟨rfl,hb⟩;have LT2:=aA (((H1.out.next hb).blk 0 rfl).lt);have H:=aA ((H1.out.next hb).new' 52 #[.int .i64 (rpF 2 3).kind,.int .i64 (rpF 2 3).reg,.int .i64 (rpF 2 3).n] rfl);obtain ⟨e0,e1,d0,d1⟩:=(H.out.blk 2 rfl).two;obtain ⟨f0,f1,f2,_,_,_⟩:=(H.out.blk 1 rfl).three;obtain ⟨g0,g1,g2,_,_,_⟩:=(H.out.blk 0 rfl).three;exact tX11
theorem s3_t2 {P:Prop} (h:P:=by
  have H0:=aA ((Fr.start w).new' 30 #[.string ⟨#[]⟩,.slice none 0 0] rfl);go_enter Tryz.func165,Tryz.ntmps165;go_wp2_with fail;refine (dT _ _ _).mono ?_;rintro e w1 ⟨o1,rfl,hb⟩;have LT1:=aA (((H0.out.next hb).blk 0 rfl).lt);have H1:=aA ((H0.out.next hb).new' 52 #[.int .i64 o1.kind,.int .i64 o1.reg,.int .i64 o1.n] rfl);clear hb;go_wp2_with fail;refine (dT _ _ _).mono ?_;rintro e w2 ⟨o2,rfl,hb⟩;have LT2:=aA (((H1.out.next hb).blk 0 rfl).lt);have H:=aA ((H1.out.next hb).new' 52 #[.int .i64 o2.kind,.int .i64 o2.reg,.int .i64 o2.n] rfl);obtain ⟨e0,e1,d0,d1⟩:=(H.out.blk 2 rfl).two;clear hb;have HP:=aA (H.out.new' 52 #[.int .i64 0,.int .i64 0,.int .i64 0] (b:=w2.heap.size+1) (by rw [zW]));have l1:=LT1.out;have l2:=LT2.out;go_wp2_with fail;refine (gO _).mono ?_;rintro e w3 ⟨rfl,hb⟩;have l3:=((HP.out.next hb).blk 0 rfl).lt;have H:=aA ((HP.out.next hb).new' 52 #[.int .i64 bV.kind,.int .i64 bV.reg,.int .i64 bV.n] rfl);clear hb e0 e1 d0 d1;go_wp2_with fail;refine (gM (y / 2) _).mono ?_;rintro e w4 ⟨rfl,hb⟩;have H:=aA ((H.out.next hb).sub (M:=(w2.heap.size+1,52,#[.int .i64 0,.int .i64 0,.int .i64 0])::(w3.heap.size,52,#[.int .i64 bV.kind,.int .i64 bV.reg,.int .i64 bV.n])::[(w2.heap.size,52,#[.int .i64 o2.kind,.int .i64 o2.reg,.int .i64 o2.n]),(w1.heap.size,52,#[.int .i64 o1.kind,.int .i64 o1.reg,.int .i64 o1.n]),(w.heap.size,30,#[.string ⟨#[]⟩,.slice none 0 0])]) (by simp));obtain ⟨f0,f1,f2,x0,x1,x2⟩:=(H.out.blk 0 rfl).three;have H:=aA (H.out.set3 (by omega) (by simp;omega) (.int .i64 (jF (y / 2)).kind) (.int .i64 (jF (y / 2)).reg) (.int .i64 (jF (y / 2)).n));clear hb;obtain ⟨z0,z1,z2,_,_,_⟩:=(H.out.blk 0 rfl).three;obtain ⟨y0,y1,y2,_,_,_⟩:=(H.out.blk 1 rfl).three
  go_wp2_with (first
   | (go_at_call 173;refine (frO H (gM _ _)).mono ?_;rintro e w' ⟨rfl,H⟩)
   | (go_at_call 175;refine (frO H (gO _)).mono ?_;rintro e w' ⟨rfl,H⟩)
   | (go_at_call 167;refine (frL H 4 rfl (cC _ _ _)).mono ?_;rintro e w' ⟨va,vc,rfl,HO,H⟩)
   | (go_at_call 166;refine (frI H (aO _ _ _ _ _ HO.out)).mono ?_;rintro e w' ⟨rfl,HO,H⟩;obtain ⟨e0,e1,d0,d1⟩:=(H.out.blk 4 rfl).two))
  have hpo:=λx=>aW (x:=x) (y:=.slice va 2 vc) H.out.below HO.out (λk hk=>hk) (zI _);exact yR (aN rfl rfl (((H.out.blk 4 rfl).set 0 _).set 1 _)) rfl ⟨_,rfl,(hpo _).1,(hpo _).2⟩):P:=h
theorem UL (y:Int) (h0:0<=y) (h4:y < 4) (hq:y % 2=0) (w:World):Calls Tryz.prog 165 #[.int .i64 y,.int .i64 2] w (cL w ⟨#[76,68]⟩ [jF (y / 2),bV] ⟨#[]⟩):=s3_t2
theorem s3_t3 {P:Prop} (h:P:=by
  have H0:=aA ((Fr.start w).new' 30 #[.string ⟨#[]⟩,.slice none 0 0] rfl);go_enter Tryz.func165,Tryz.ntmps165;go_wp2_with fail;refine (dT _ _ _).mono ?_;rintro e w1 ⟨o1,rfl,hb⟩;have LT1:=aA (((H0.out.next hb).blk 0 rfl).lt);have H1:=aA ((H0.out.next hb).new' 52 #[.int .i64 o1.kind,.int .i64 o1.reg,.int .i64 o1.n] rfl);clear hb;go_wp2_with fail;refine (cY 2 3 _).mono ?_;rintro e w2 ⟨rfl,hb⟩;have LT2:=aA (((H1.out.next hb).blk 0 rfl).lt);have H:=aA ((H1.out.next hb).new' 52 #[.int .i64 (rpF 2 3).kind,.int .i64 (rpF 2 3).reg,.int .i64 (rpF 2 3).n] rfl);obtain ⟨e0,e1,d0,d1⟩:=(H.out.blk 2 rfl).two;clear hb;have HP:=aA (H.out.new' 52 #[.int .i64 0,.int .i64 0,.int .i64 0] (b:=w2.heap.size+1) (by rw [zW]));have l1:=LT1.out;have l2:=LT2.out;go_wp2_with fail;refine (gO _).mono ?_;rintro e w3 ⟨rfl,hb⟩;have l3:=((HP.out.next hb).blk 0 rfl).lt;have H:=aA ((HP.out.next hb).new' 52 #[.int .i64 bV.kind,.int .i64 bV.reg,.int .i64 bV.n] rfl);clear hb e0 e1 d0 d1;go_wp2_with fail;refine (iK _).mono ?_;rintro e w4 ⟨rfl,hb⟩;have H:=aA ((H.out.next hb).sub (M:=(w2.heap.size+1,52,#[.int .i64 0,.int .i64 0,.int .i64 0])::(w3.heap.size,52,#[.int .i64 bV.kind,.int .i64 bV.reg,.int .i64 bV.n])::[(w2.heap.size,52,#[.int .i64 (rpF 2 3).kind,.int .i64 (rpF 2 3).reg,.int .i64 (rpF 2 3).n]),(w1.heap.size,52,#[.int .i64 o1.kind,.int .i64 o1.reg,.int .i64 o1.n]),(w.heap.size,30,#[.string ⟨#[]⟩,.slice none 0 0])]) (by simp));obtain ⟨f0,f1,f2,x0,x1,x2⟩:=(H.out.blk 0 rfl).three;have H:=aA (H.out.set3 (by omega) (by simp;omega) (.int .i64 fH.kind) (.int .i64 fH.reg) (.int .i64 fH.n));clear hb;obtain ⟨g0,g1,g2,_,_,_⟩:=(H.out.blk 2 rfl).three;obtain ⟨a0,a1,a2,b0,b1,b2⟩:=(H.out.blk 1 rfl).three;have H:=aA ((H.out.sub (M:=(w3.heap.size,52,#[.int .i64 bV.kind,.int .i64 bV.reg,.int .i64 bV.n])::(w2.heap.size+1,52,#[.int .i64 fH.kind,.int .i64 fH.reg,.int .i64 fH.n])::[(w2.heap.size,52,#[.int .i64 (rpF 2 3).kind,.int .i64 (rpF 2 3).reg,.int .i64 (rpF 2 3).n]),(w1.heap.size,52,#[.int .i64 o1.kind,.int .i64 o1.reg,.int .i64 o1.n]),(w.heap.size,30,#[.string ⟨#[]⟩,.slice none 0 0])]) (by simp)).set3 (by omega) (by simp;omega) (.int .i64 (rpF 2 3).kind) (.int .i64 (rpF 2 3).reg) (.int .i64 (rpF 2 3).n));obtain ⟨z0,z1,z2,_,_,_⟩:=(H.out.blk 0 rfl).three;obtain ⟨y0,y1,y2,_,_,_⟩:=(H.out.blk 1 rfl).three
  go_wp2_with (first
   | (go_at_call 172;refine (frO H (cY _ _ _)).mono ?_;rintro e w' ⟨rfl,H⟩)
   | (go_at_call 174;refine (frO H (iK _)).mono ?_;rintro e w' ⟨rfl,H⟩)
   | (go_at_call 167;refine (frL H 4 rfl (cC _ _ _)).mono ?_;rintro e w' ⟨va,vc,rfl,HO,H⟩)
   | (go_at_call 166;refine (frI H (aO _ _ _ _ _ HO.out)).mono ?_;rintro e w' ⟨rfl,HO,H⟩;obtain ⟨e0,e1,d0,d1⟩:=(H.out.blk 4 rfl).two))
  have hpo:=λx=>aW (x:=x) (y:=.slice va 2 vc) H.out.below HO.out (λk hk=>hk) (zI _);exact yR (aN rfl rfl (((H.out.blk 4 rfl).set 0 _).set 1 _)) rfl ⟨_,rfl,(hpo _).1,(hpo _).2⟩):P:=h
theorem VI (y:Int) (h0:4<=y) (h4:y < 6) (hq:y % 2=0) (w:World):Calls Tryz.prog 165 #[.int .i64 y,.int .i64 2] w (cL w ⟨#[76,68]⟩ [fH,rpF 2 3] ⟨#[119]⟩):=s3_t3
theorem s3_t4 {P:Prop} (h:P:=by
  have H0:=aA ((Fr.start w).new' 30 #[.string ⟨#[]⟩,.slice none 0 0] rfl);go_enter Tryz.func165,Tryz.ntmps165;go_wp2_with fail;refine (dT _ _ _).mono ?_;rintro e w1 ⟨o1,rfl,hb⟩;have LT1:=aA (((H0.out.next hb).blk 0 rfl).lt);have H1:=aA ((H0.out.next hb).new' 52 #[.int .i64 o1.kind,.int .i64 o1.reg,.int .i64 o1.n] rfl);clear hb;go_wp2_with fail;refine (dT _ _ _).mono ?_;rintro e w2 ⟨o2,rfl,hb⟩;have LT2:=aA (((H1.out.next hb).blk 0 rfl).lt);have H:=aA ((H1.out.next hb).new' 52 #[.int .i64 o2.kind,.int .i64 o2.reg,.int .i64 o2.n] rfl);obtain ⟨e0,e1,d0,d1⟩:=(H.out.blk 2 rfl).two;clear hb;have HP:=aA (H.out.new' 52 #[.int .i64 0,.int .i64 0,.int .i64 0] (b:=w2.heap.size+1) (by rw [zW]));have l1:=LT1.out;have l2:=LT2.out;go_wp2_with fail;refine (gO _).mono ?_;rintro e w3 ⟨rfl,hb⟩;have l3:=((HP.out.next hb).blk 0 rfl).lt;have H:=aA ((HP.out.next hb).new' 52 #[.int .i64 bV.kind,.int .i64 bV.reg,.int .i64 bV.n] rfl);clear hb e0 e1 d0 d1;go_wp2_with fail;refine (iK _).mono ?_;rintro e w4 ⟨rfl,hb⟩;have H:=aA ((H.out.next hb).sub (M:=(w2.heap.size+1,52,#[.int .i64 0,.int .i64 0,.int .i64 0])::(w3.heap.size,52,#[.int .i64 bV.kind,.int .i64 bV.reg,.int .i64 bV.n])::[(w2.heap.size,52,#[.int .i64 o2.kind,.int .i64 o2.reg,.int .i64 o2.n]),(w1.heap.size,52,#[.int .i64 o1.kind,.int .i64 o1.reg,.int .i64 o1.n]),(w.heap.size,30,#[.string ⟨#[]⟩,.slice none 0 0])]) (by simp));obtain ⟨f0,f1,f2,x0,x1,x2⟩:=(H.out.blk 0 rfl).three;have H:=aA (H.out.set3 (by omega) (by simp;omega) (.int .i64 fH.kind) (.int .i64 fH.reg) (.int .i64 fH.n));clear hb;obtain ⟨z0,z1,z2,_,_,_⟩:=(H.out.blk 0 rfl).three;obtain ⟨y0,y1,y2,_,_,_⟩:=(H.out.blk 1 rfl).three
  go_wp2_with (first
   | (go_at_call 174;refine (frO H (iK _)).mono ?_;rintro e w' ⟨rfl,H⟩)
   | (go_at_call 175;refine (frO H (gO _)).mono ?_;rintro e w' ⟨rfl,H⟩)
   | (go_at_call 167;refine (frL H 4 rfl (cC _ _ _)).mono ?_;rintro e w' ⟨va,vc,rfl,HO,H⟩)
   | (go_at_call 166;refine (frI H (aO _ _ _ _ _ HO.out)).mono ?_;rintro e w' ⟨rfl,HO,H⟩;obtain ⟨e0,e1,d0,d1⟩:=(H.out.blk 4 rfl).two))
  have hpo:=λx=>aW (x:=x) (y:=.slice va 2 vc) H.out.below HO.out (λk hk=>hk) (zI _);exact yR (aN rfl rfl (((H.out.blk 4 rfl).set 0 _).set 1 _)) rfl ⟨_,rfl,(hpo _).1,(hpo _).2⟩):P:=h
theorem UY (y:Int) (h0:6<=y) (h4:y < 8) (hq:y % 2=0) (w:World):Calls Tryz.prog 165 #[.int .i64 y,.int .i64 2] w (cL w ⟨#[76,68]⟩ [fH,bV] ⟨#[119]⟩):=s3_t4
theorem UJ (y:Int) (h0:0<=y) (h4:y < 4) (hq:y % 2=1) (w:World):Calls Tryz.prog 165 #[.int .i64 y,.int .i64 2] w (cL w ⟨#[76,68]⟩ [bV,jF (y / 2)] ⟨#[]⟩):=s3_t2
theorem WL (y:Int) (h0:4<=y) (h4:y < 6) (hq:y % 2=1) (w:World):Calls Tryz.prog 165 #[.int .i64 y,.int .i64 2] w (cL w ⟨#[76,68]⟩ [rpF 2 3,fH] ⟨#[119]⟩):=s3_t3
theorem VP (y:Int) (h0:6<=y) (h4:y < 8) (hq:y % 2=1) (w:World):Calls Tryz.prog 165 #[.int .i64 y,.int .i64 2] w (cL w ⟨#[76,68]⟩ [bV,fH] ⟨#[119]⟩):=s3_t4
theorem s3_t5 {P:Prop} (h:P:=by
  have H0:=aA ((Fr.start w).new' 30 #[.string ⟨#[]⟩,.slice none 0 0] rfl);go_enter Tryz.func165,Tryz.ntmps165;go_wp2_with fail;refine (cY (y / 2) 3 _).mono ?_;rintro e w1 ⟨rfl,hb⟩;have LT1:=aA (((H0.out.next hb).blk 0 rfl).lt);have H1:=aA ((H0.out.next hb).new' 52 #[.int .i64 (rpF (y / 2) 3).kind,.int .i64 (rpF (y / 2) 3).reg,.int .i64 (rpF (y / 2) 3).n] rfl);clear hb;go_wp2_with fail;refine (dT _ _ _).mono ?_;rintro e w2 ⟨o2,rfl,hb⟩;have LT2:=aA (((H1.out.next hb).blk 0 rfl).lt);have H:=aA ((H1.out.next hb).new' 52 #[.int .i64 o2.kind,.int .i64 o2.reg,.int .i64 o2.n] rfl);obtain ⟨e0,e1,d0,d1⟩:=(H.out.blk 2 rfl).two;obtain ⟨f0,f1,f2,_,_,_⟩:=(H.out.blk 1 rfl).three;clear hb;go_upto_region 34 with fail;have HX:=H;have H:=aA H.out.drew;have n1:¬w1.heap.size=w.heap.size:=by have:=LT1.out;omega
  have n2:¬w.heap.size=w1.heap.size:=λe=>n1 e.symm;obtain ⟨f0,f1,f2,x0,x1,x2⟩:=(H.out.mem w1.heap.size 52 #[.int .i64 (rpF (y / 2) 3).kind,.int .i64 (rpF (y / 2) 3).reg,.int .i64 (rpF (y / 2) 3).n] (by simp)).three;have HA:=aA (HX.out.new' 9 #[.string ⟨#[73,78,67]⟩,.string ⟨#[68,69,67]⟩] (b:=w2.heap.size+1) (by rw [zW])).drew;obtain ⟨p0,p1,p2,_,_,_⟩:=(HA.out.mem w1.heap.size 52 #[.int .i64 (rpF (y / 2) 3).kind,.int .i64 (rpF (y / 2) 3).reg,.int .i64 (rpF (y / 2) 3).n] (by simp)).three
  go_region_law ((go_simp;(first
    | (go_at_call 170;refine (fC _ _).mono ?_;rintro e w' ⟨v,rfl,ho,hb⟩;obtain ⟨va,vc,rfl⟩:=ho.form;have HO:=aA (ho.mono (r:=λk=>w.heap.size < k) (λk hk=>vB (H.out.mem w.heap.size 30 #[.string ⟨#[]⟩,.slice none 0 0] (by simp)).lt (qJ (by first | (with_reducible exact zI _) | (simp only [World.size_drew,World.size_alloc];omega)) hk)));have H:=aA ((HX.out.new' 9 #[.string ⟨#[73,78,67]⟩,.string ⟨#[68,69,67]⟩] (b:=w2.heap.size+1) (by rw [zW])).drew.next hb);obtain ⟨s0,s1,_,_⟩:=(H.out.blk 0 rfl).two;obtain ⟨f0,f1,f2,x0,x1,x2⟩:=(H.out.mem w1.heap.size 52 #[.int .i64 (rpF (y / 2) 3).kind,.int .i64 (rpF (y / 2) 3).reg,.int .i64 (rpF (y / 2) 3).n] (by simp)).three;obtain ⟨e0,e1,d0,d1⟩:=(H.out.mem w.heap.size 30 #[.string ⟨#[]⟩,.slice none 0 0] (by simp)).two;clear ho hb)
    | (go_at_call 170;refine (fC _ _).mono ?_;rintro e w' ⟨v,rfl,ho,hb⟩;obtain ⟨va,vc,rfl⟩:=ho.form;have HO:=aA (ho.mono (r:=λk=>w.heap.size < k) (λk hk=>vB (H.out.mem w.heap.size 30 #[.string ⟨#[]⟩,.slice none 0 0] (by simp)).lt (qJ (by first | (with_reducible exact zI _) | (simp only [World.size_drew,World.size_alloc];omega)) hk)));have H:=aA (H.out.next hb);obtain ⟨f0,f1,f2,x0,x1,x2⟩:=(H.out.mem w1.heap.size 52 #[.int .i64 (rpF (y / 2) 3).kind,.int .i64 (rpF (y / 2) 3).reg,.int .i64 (rpF (y / 2) 3).n] (by simp)).three;obtain ⟨e0,e1,d0,d1⟩:=(H.out.mem w.heap.size 30 #[.string ⟨#[]⟩,.slice none 0 0] (by simp)).two;clear ho hb)
    | (go_at_call 166;refine (aO _ _ _ _ _ HO.out).mono ?_;rintro e w' ⟨rfl,ho,hb⟩;have HO:=aA ho;have H:=aA (H.out.next hb);obtain ⟨f0,f1,f2,x0,x1,x2⟩:=(H.out.mem w1.heap.size 52 #[.int .i64 (rpF (y / 2) 3).kind,.int .i64 (rpF (y / 2) 3).reg,.int .i64 (rpF (y / 2) 3).n] (by simp)).three;obtain ⟨e0,e1,d0,d1⟩:=(H.out.mem w.heap.size 30 #[.string ⟨#[]⟩,.slice none 0 0] (by simp)).two;clear ho hb)
    | (go_at_call 166;refine (aO _ _ _ _ _ (HO.out.below ((zY _ _).alloc (zI _) _))).mono ?_;rintro e w' ⟨rfl,ho,hb⟩;have HO:=aA ho;have H:=aA ((H.out.alloc _).next hb);obtain ⟨f0,f1,f2,x0,x1,x2⟩:=(H.out.mem w1.heap.size 52 #[.int .i64 (rpF (y / 2) 3).kind,.int .i64 (rpF (y / 2) 3).reg,.int .i64 (rpF (y / 2) 3).n] (by simp)).three;obtain ⟨e0,e1,d0,d1⟩:=(H.out.mem w.heap.size 30 #[.string ⟨#[]⟩,.slice none 0 0] (by simp)).two;clear ho hb));dsimp only))
  all_goals go_wp2
  all_goals have hpo:=λx=>aW (x:=x) (y:=.slice va 1 vc) H.out.below HO.out (λk hk=>hk) (zI _)
  all_goals exact yR (aN rfl rfl (((H.out.mem w.heap.size 30 #[.string ⟨#[]⟩,.slice none 0 0] (by simp)).set 0 _).set 1 _)) rfl ⟨_,rfl,(hpo _).1,(hpo _).2⟩):P:=h
theorem YU (y:Int) (h0:0<=y) (h8:y < 8) (hq:y % 2=0) (w:World):Calls Tryz.prog 165 #[.int .i64 y,.int .i64 3] w (cL w ⟨#[73,78,67]⟩ [rpF (y / 2) 3] ⟨#[]⟩):=s3_t5
theorem YP (y:Int) (h0:0<=y) (h8:y < 8) (hq:y % 2=1) (w:World):Calls Tryz.prog 165 #[.int .i64 y,.int .i64 3] w (cL w ⟨#[68,69,67]⟩ [rpF (y / 2) 3] ⟨#[]⟩):=s3_t5
theorem s3_t6 {P:Prop} (h:P:=by
  have H0:=aA ((Fr.start w).new' 30 #[.string ⟨#[]⟩,.slice none 0 0] rfl);go_enter Tryz.func165,Tryz.ntmps165;go_wp2_with fail;refine (dT _ _ _).mono ?_;rintro e w1 ⟨o1,rfl,hb⟩;have LT1:=aA (((H0.out.next hb).blk 0 rfl).lt);have H1:=aA ((H0.out.next hb).new' 52 #[.int .i64 o1.kind,.int .i64 o1.reg,.int .i64 o1.n] rfl);clear hb;go_wp2_with fail;refine (dT _ _ _).mono ?_;rintro e w2 ⟨o2,rfl,hb⟩;have LT2:=aA (((H1.out.next hb).blk 0 rfl).lt);have H:=aA ((H1.out.next hb).new' 52 #[.int .i64 o2.kind,.int .i64 o2.reg,.int .i64 o2.n] rfl);obtain ⟨e0,e1,d0,d1⟩:=(H.out.blk 2 rfl).two;clear hb
  go_wp2_with (first
   | (go_at_call 119;refine (frO H (oX _ _)).mono ?_;rintro e w' ⟨rfl,H⟩)
   | (go_at_call 170;refine (frL H 2 rfl (fC _ _)).mono ?_;rintro e w' ⟨va,vc,rfl,HO,H⟩)
   | (go_at_call 166;refine (frI H (aO _ _ _ _ _ HO.out)).mono ?_;rintro e w' ⟨rfl,HO,H⟩;obtain ⟨e0,e1,d0,d1⟩:=(H.out.blk 2 rfl).two))
  have hpo:=λx=>aW (x:=x) (y:=.slice va 1 vc) H.out.below HO.out (λk hk=>hk) (zI _);exact yR (aN rfl rfl (((H.out.blk 2 rfl).set 0 _).set 1 _)) rfl ⟨_,rfl,(hpo _).1,(hpo _).2⟩):P:=h
theorem low_4 (y:Int) (h0:0<=y) (h8:y < 8) (w:World):Calls Tryz.prog 165 #[.int .i64 y,.int .i64 4] w (cL w ⟨#[73,78,67]⟩ [rF y] ⟨#[]⟩):=s3_t6
theorem low_5 (y:Int) (h0:0<=y) (h8:y < 8) (w:World):Calls Tryz.prog 165 #[.int .i64 y,.int .i64 5] w (cL w ⟨#[68,69,67]⟩ [rF y] ⟨#[]⟩):=s3_t6
theorem low_6 (y:Int) (h0:0<=y) (h8:y < 8) (w:World):Calls Tryz.prog 165 #[.int .i64 y,.int .i64 6] w (cL w ⟨#[76,68]⟩ [rF y,cV 0] ⟨#[110]⟩):=by
 have H0:=aA ((Fr.start w).new' 30 #[.string ⟨#[]⟩,.slice none 0 0] rfl);go_enter Tryz.func165,Tryz.ntmps165;go_wp2_with fail;refine (dT _ _ _).mono ?_;rintro e w1 ⟨o1,rfl,hb⟩;have LT1:=aA (((H0.out.next hb).blk 0 rfl).lt);have H1:=aA ((H0.out.next hb).new' 52 #[.int .i64 o1.kind,.int .i64 o1.reg,.int .i64 o1.n] rfl);clear hb;go_wp2_with fail;refine (dT _ _ _).mono ?_;rintro e w2 ⟨o2,rfl,hb⟩;have LT2:=aA (((H1.out.next hb).blk 0 rfl).lt);have H:=aA ((H1.out.next hb).new' 52 #[.int .i64 o2.kind,.int .i64 o2.reg,.int .i64 o2.n] rfl);obtain ⟨e0,e1,d0,d1⟩:=(H.out.blk 2 rfl).two;clear hb
 go_wp2_with (first
  | (go_at_call 119;refine (frO H (oX _ _)).mono ?_;rintro e w' ⟨rfl,H⟩)
  | (go_at_call 171;refine (frO H (fK _ _)).mono ?_;rintro e w' ⟨rfl,H⟩)
  | (go_at_call 167;refine (frL H 2 rfl (cC _ _ _)).mono ?_;rintro e w' ⟨va,vc,rfl,HO,H⟩)
  | (go_at_call 166;refine (frI H (aO _ _ _ _ _ HO.out)).mono ?_;rintro e w' ⟨rfl,HO,H⟩;obtain ⟨e0,e1,d0,d1⟩:=(H.out.blk 2 rfl).two))
 exact tX30
theorem rH {P:Prop} (h:P:=by
  have H0:=aA ((Fr.start w).new' 30 #[.string ⟨#[]⟩,.slice none 0 0] rfl);go_enter Tryz.func165,Tryz.ntmps165;go_wp2_with fail;refine (dT _ _ _).mono ?_;rintro e w1 ⟨o1,rfl,hb⟩;have LT1:=aA (((H0.out.next hb).blk 0 rfl).lt);have H1:=aA ((H0.out.next hb).new' 52 #[.int .i64 o1.kind,.int .i64 o1.reg,.int .i64 o1.n] rfl);clear hb;go_wp2_with fail;refine (dT _ _ _).mono ?_;rintro e w2 ⟨o2,rfl,hb⟩;have LT2:=aA (((H1.out.next hb).blk 0 rfl).lt);have H:=aA ((H1.out.next hb).new' 52 #[.int .i64 o2.kind,.int .i64 o2.reg,.int .i64 o2.n] rfl);obtain ⟨e0,e1,d0,d1⟩:=(H.out.blk 2 rfl).two;clear hb
  go_wp2_with (first
   | (go_at_call 166;refine (frI (aA (H.out.alloc _)) (aO _ none 0 0 _ (aV _ (λk=>w.heap.size < k)))).mono ?_;rintro e w' ⟨rfl,HO,H⟩;obtain ⟨e0,e1,d0,d1⟩:=(H.out.blk 2 rfl).two))
  have hpo:=λx=>aW (x:=x) (y:=.slice none 0 0) H.out.below HO.out (λk hk=>hk) (zI _);exact yR (aN rfl rfl (((H.out.blk 2 rfl).set 0 _).set 1 _)) rfl ⟨_,rfl,(hpo _).1,(hpo _).2⟩):P:=h
theorem low_7_0 (w:World):Calls Tryz.prog 165 #[.int .i64 0,.int .i64 7] w (cL w ⟨#[82,76,67,65]⟩ [] ⟨#[]⟩):=rH
theorem low_7_1 (w:World):Calls Tryz.prog 165 #[.int .i64 1,.int .i64 7] w (cL w ⟨#[82,82,67,65]⟩ [] ⟨#[]⟩):=rH
theorem XU (w:World):Calls Tryz.prog 165 #[.int .i64 2,.int .i64 7] w (cL w ⟨#[82,76,65]⟩ [] ⟨#[]⟩):=rH
theorem low_7_3 (w:World):Calls Tryz.prog 165 #[.int .i64 3,.int .i64 7] w (cL w ⟨#[82,82,65]⟩ [] ⟨#[]⟩):=rH
theorem XV (w:World):Calls Tryz.prog 165 #[.int .i64 4,.int .i64 7] w (cL w ⟨#[68,65,65]⟩ [] ⟨#[]⟩):=rH
theorem low_7_5 (w:World):Calls Tryz.prog 165 #[.int .i64 5,.int .i64 7] w (cL w ⟨#[67,80,76]⟩ [] ⟨#[]⟩):=rH
theorem low_7_6 (w:World):Calls Tryz.prog 165 #[.int .i64 6,.int .i64 7] w (cL w ⟨#[83,67,70]⟩ [] ⟨#[]⟩):=rH
theorem YM (w:World):Calls Tryz.prog 165 #[.int .i64 7,.int .i64 7] w (cL w ⟨#[67,67,70]⟩ [] ⟨#[]⟩):=rH
set_option maxHeartbeats 8000000
theorem oF {a b:Int} (h:a=b):Ending.returned (.int .u8 a)=.returned (.int .u8 b):=by rw [h]
theorem oJ (pg op:Int) (s ex:ByteArray) (al:Bool) (l:List Opd) (p:aB) (v:Value) (k:Nat) (hk:k < l.length) (w:World) (h:SlR aM w p v l) (hex:ex.size<=9223372036854775807):
  Calls Tryz.prog 124 #[.agg #[.int .i64 pg,.int .u8 op,.string s,v,.string ex,.bool al],.int .i64 k] w λe w'=>e=.returned (.int .u8 (eQ l ex.data.toList k))/\Below w.heap.size w w':=by
 obtain ⟨va,vc,rfl⟩:∃a c,v=.slice a l.length c:=by obtain ⟨a,c,e,_⟩:=h;exact ⟨a,c,e⟩
 have hll:=h.len_le;have hlt:eQ l ex.data.toList k=vL l[k] (l.drop (k+1)) ex.data.toList:=by unfold eQ;rw [zL hk]
 rw [hlt];have HS:=aA (h.alloc (.cells #[.int .i64 pg,.int .u8 op,.string s,.slice va l.length vc,.string ex,.bool al] 122));have HA1:=aA ((Fr.start w).new 122 #[.int .i64 pg,.int .u8 op,.string s,.slice va l.length vc,.string ex,.bool al]);have hAl:=(HA1.out.blk 0 rfl).lt;obtain ⟨a1,c1,e1,_,_,g1⟩:=HS.out.opd;injection e1 with e1 e2 e3;clear e2;subst e1 e3;obtain ⟨b,o,rfl,_,d0,d1,d2⟩:=g1 k l[k] (zL hk);have HG:=aA g1;have HHS:=aA (λc W=>XP ex c W hex);clear g1 hlt h;generalize l[k]=x at *;obtain ⟨xk,xr,xn⟩:=x;dsimp only at *;have HLE:Hid (vL ⟨xk,xr,xn⟩ (l.drop (k+1)) ex.data.toList=(if (xk==5&&cO ex.data.toList 100)=true then 100 else if (xk==10&&cO ex.data.toList 101)=true then 101 else if isN ⟨xk,xr,xn⟩=false then 0
  else if (l.drop (k+1)).any isN=true then 0 else if cO ex.data.toList 110=true then 110 else if cO ex.data.toList 119=true then 119 else 0)):=rfl
 generalize vL ⟨xk,xr,xn⟩ (l.drop (k+1)) ex.data.toList=R at *;have HF:=aA (HA1.out.new 52 #[.int .i64 xk,.int .i64 xr,.int .i64 xn]);have hsz:(w.alloc (.cells #[.int .i64 pg,.int .u8 op,.string s,.slice (some ⟨b,o,none⟩) l.length vc,.string ex,.bool al] 122)).heap.size=w.heap.size+1:=zW _ _;have HSZ:=aA hsz;clear hsz;cases h5:(xk==5);rotate_left
 ·obtain rfl:xk=5:=by simpa using h5
  cases hd:cO ex.data.toList 100;all_goals rw [hd] at HLE;have HH:=aA (HHS.out 100);exact tX26
 cases h10:(xk==10);rotate_left
 ·obtain rfl:xk=10:=by simpa using h10
  cases hd:cO ex.data.toList 101;all_goals rw [hd] at HLE;have HH:=aA (HHS.out 101);exact tX26
 rw [h5,h10,z1Z,z1Z,if_neg XN,if_neg XN] at HLE;cases hN:isN ⟨xk,xr,xn⟩
 ·rw [hN,if_pos rfl] at HLE;have n6:(xk != 6)=true:=by rw [bne_iff_ne];intro e;subst e;simp [isN] at hN
  have n7:(xk != 7)=true:=by rw [bne_iff_ne];intro e;subst e;simp [isN] at hN
  clear hN;go_enter Tryz.func124,Tryz.ntmps124;go_wp2;go_ret;exact ⟨oF HLE.out.symm,HF.out.below⟩
 rw [hN,if_neg (by decide)] at HLE;have h67:xk=6\/xk=7:=by simpa [isN] using hN
 clear hN h5 h10;have HS2:=aA (HS.out.alloc (.cells #[.int .i64 xk,.int .i64 xr,.int .i64 xn] 52));obtain ⟨W2,hW2⟩:∃W:World,W=((w.alloc (.cells #[.int .i64 pg,.int .u8 op,.string s,.slice (some ⟨b,o,none⟩) l.length vc,.string ex,.bool al] 122)).alloc (.cells #[.int .i64 xk,.int .i64 xr,.int .i64 xn] 52)):=⟨_,rfl⟩;rw [<-hW2] at HF HS2;rcases h67 with rfl | rfl;all_goals
  go_enter Tryz.func124,Tryz.ntmps124;go_upto_region 9 with fail;rw [<-hW2];clear d0 d1 d2 hW2;have q3:=(HF.out.blk 1 rfl).cell 3;have q4:=(HF.out.blk 1 rfl).cell 4;go_loop [6] (λi=>∃m:Nat,m<=l.length/\i=.int .i64 m/\(l.drop (k+1)).any isN=(l.drop m).any isN) (λi=>l.length - (intOf i).toNat);case atStart=>exact ⟨k+1,hk,by simp,rfl⟩
  case round=>
   obtain ⟨m,hm,rfl,ht⟩:=hrel;have HT:=aA ht;clear ht;by_cases hlt:m < l.length
   ·obtain ⟨a1,c1,e1,_,_,g1⟩:=HS2.out.opd;injection e1 with e1 e2 e3;clear e2;subst e1 e3;obtain ⟨b3,o3,e5,_,d0,d1,d2⟩:=g1 m l[m] (zL hlt);injection e5 with e5;injection e5 with e5 e6;subst e5 e6;have HD:=aA (ZX hlt);have hin:isN l[m]=true->(l.drop (k+1)).any isN=true:=λh=>(by rw [HT.out,HD.out,z1C,h];rfl);have hno:isN l[m]=false->(l.drop (k+1)).any isN=(l.drop (m+1)).any isN:=λh=>(by rw [HT.out,HD.out,z1C,h];rfl);have HIN:=aA hin;have HNO:=aA hno;clear g1 hin hno;generalize l[m]=y at *;obtain ⟨yk,yr,yn⟩:=y;dsimp only at d0;cases h6:(yk==6)
    ·cases h7:(yk==7)
     ·have HN:=aA (HNO.out (by unfold isN;rw [h6,h7];rfl));clear HNO HIN;go_wp2;go_round;case rel=>exact ⟨m+1,by omega,by go_num,HN.out⟩
      case measure=>simp [intOf];omega
     ·have HN:=aA (HIN.out (by unfold isN;rw [h6,h7];rfl));exact tX81
    ·have HN:=aA (HIN.out (by unfold isN;rw [h6];rfl));exact tX81
   ·have hml:m=l.length:=(by omega);have hN:(l.drop (k+1)).any isN=false:=(by rw [HT.out,hml,List.drop_length];rfl);rw [hN,if_neg XN] at HLE;clear hml hN HT;cases hn:cO ex.data.toList 110
    ·rw [hn,if_neg XN] at HLE;have HH:=aA (HHS.out 110);rw [hn] at HH;have HH2:=aA (HHS.out 119);cases hw:cO ex.data.toList 119;all_goals rw [hw] at HLE HH2;go_wp2_with (go_at_call 177;first | (with_reducible refine (HH.out _).mono ?_;rintro e w' ⟨rfl,rfl⟩) | (with_reducible refine (HH2.out _).mono ?_;rintro e w' ⟨rfl,rfl⟩));go_ret;exact ⟨oF (by rw [HLE.out];rfl),HF.out.below⟩
    ·rw [hn,if_pos rfl] at HLE;have HH:=aA (HHS.out 110);rw [hn] at HH;go_wp2_with (go_at_call 177;refine (HH.out _).mono ?_;rintro e w' ⟨rfl,rfl⟩);go_ret;exact ⟨oF HLE.out.symm,HF.out.below⟩
end Go.Proofs.YtpigbggoiipmhaaGreatDoor
namespace Go.Proofs.YtpigbggoiipmhaaGreatDoor
open Go.RowKit
theorem ShH.step {w0 w w':World} {x:Ins} {b0 bm k:Nat} {va vm v':Value} (h:ShH w0 x b0 bm va vm k w) (hk:k < x.args.length) (hb:Below bm w w') (hm:Blk w' bm 24 #[v'])
  (ho:Own eN w' (bm+1) 9 NoB v' ((x.args.take k).map fM++[fM x.args[k]])):ShH w0 x b0 bm va v' (k+1) w':=
 ⟨h.below.trans (hb.mono h.lt),h.lt,h.sx.keep (aS.of_below hb λ_ hk=>hk),h.blk.below hb h.lt0,h.lt0,hm,by rw [ZP hk,z0O];exact ho⟩
end Go.Proofs.YtpigbggoiipmhaaGreatDoor
namespace Go.Proofs.YtpigbggoiipmhaaGreatDoor
open Go.RowKit Go.Shelf Go.Sort
theorem JD (x:Opd) (w:World):Calls Tryz.prog 170 #[.agg #[.int .i64 x.kind,.int .i64 x.reg,.int .i64 x.n]] w λe w'=>∃v,e=.returned v/\OwO w' w.heap.size v [x]/\Below w.heap.size w w':=by go_enter Tryz.func170,Tryz.ntmps170;go_wp2;go_ret;refine ⟨_,rfl,?_,((zY _ _).alloc (zI _) _).alloc (by simp) _⟩;have h:=(Own.lit (h0:=λ_=>rfl) (h1:=λ_ u hu=>by simp [Opd.cells] at hu;rcases hu with rfl | rfl | rfl<;>rfl) (w.alloc (.cells #[.int .i64 x.kind,.int .i64 x.reg,.int .i64 x.n] 52)) 52 [x] (#[.int .i64 x.kind,.int .i64 x.reg,.int .i64 x.n]) 1 rfl (enc:=Opd.cells) (n:=3) rfl (by simp));rw [zW] at h;exact h.base (by omega)
theorem XT (x y:Opd) (w:World):Calls Tryz.prog 167 #[.agg #[.int .i64 x.kind,.int .i64 x.reg,.int .i64 x.n],.agg #[.int .i64 y.kind,.int .i64 y.reg,.int .i64 y.n]] w λe w'=>∃v,e=.returned v/\OwO w' w.heap.size v [x,y]/\Below w.heap.size w w':=by go_enter Tryz.func167,Tryz.ntmps167;go_wp2;go_ret;refine ⟨_,rfl,?_,(((zY _ _).alloc (zI _) _).alloc (by simp) _).alloc (by rw [zW,zW];omega) _⟩;have h:=(Own.lit (h0:=λ_=>rfl) (h1:=λ_ u hu=>by simp [Opd.cells] at hu;rcases hu with rfl | rfl | rfl<;>rfl) ((w.alloc (.cells #[.int .i64 x.kind,.int .i64 x.reg,.int .i64 x.n] 52)).alloc (.cells #[.int .i64 y.kind,.int .i64 y.reg,.int .i64 y.n] 52)) 52 [x,y] (#[.int .i64 x.kind,.int .i64 x.reg,.int .i64 x.n,.int .i64 y.kind,.int .i64 y.reg,.int .i64 y.n]) 2 rfl (enc:=Opd.cells) (n:=3) rfl (by simp));rw [zW,zW] at h;exact h.base (by omega)
theorem yF (s:ByteArray) (a:Option Addr) (n c:Nat) (w:World) {B:Nat} {l:List Opd} (ho:OwO w B (.slice a n c) l):Calls Tryz.prog 166 #[.string s,.slice a n c] w λe w'=>e=.returned (.agg #[.string s,.slice a n c])/\OwO w' B (.slice a n c) l/\Below w.heap.size w w':=by exact tX21
def vV (w:World) (s:ByteArray) (l:List Opd) (e:Ending) (w':World):Prop:=∃v,e=.returned (.agg #[.string s,v])/\OwO w' w.heap.size v l/\Below w.heap.size w w'
theorem GY {w0 w1:World} {b B:Nat} {v x y:Value} {l:List Opd} (hB:Below w0.heap.size w0 w1) (ho:OwO w1 B v l) (hq:b < B) (hb:w0.heap.size<=b):
  OwO ((w1.setCell ⟨b,0,none⟩ x).setCell ⟨b,1,none⟩ y) w0.heap.size v l/\Below w0.heap.size w0 ((w1.setCell ⟨b,0,none⟩ x).setCell ⟨b,1,none⟩ y):=
 ⟨Own.base ((ho.far (p:=⟨b,0,none⟩) hq x).far (p:=⟨b,1,none⟩) hq y) (by omega),(hB.setCell hb _).setCell hb _⟩
theorem frLo {f:FuncId} {args:Array Value} {w0 W:World} {L:List (Nat × TypeId × Array Value)} {l:List Opd} {b:Nat} {t:TypeId} {cs:Array Value} (H:Hid (Fr w0 L W)) (hi:(b,t,cs)∈L)
  (h:Calls Tryz.prog f args W λe w'=>∃v,e=.returned v/\OwO w' W.heap.size v l/\Below W.heap.size W w'):Calls Tryz.prog f args W λe w'=>∃a c,e=.returned (.slice a l.length c)/\Hid (OwO w' (b+1) (.slice a l.length c) l)/\Hid (Fr w0 L w'):=
 h.mono λ_ _ ⟨_,hv,ho,hb⟩=>by obtain ⟨a,c,rfl⟩:=ho.form;exact ⟨a,c,hv,aA (Own.base ho (H.out.mem b t cs hi).lt),aA (H.out.next hb)⟩
theorem frIo {f:FuncId} {args:Array Value} {w0 W:World} {L:List (Nat × TypeId × Array Value)} {l:List Opd} {B:Nat} {v r:Value} (H:Hid (Fr w0 L W))
  (h:Calls Tryz.prog f args W λe w'=>e=.returned r/\OwO w' B v l/\Below W.heap.size W w'):Calls Tryz.prog f args W λe w'=>e=.returned r/\Hid (OwO w' B v l)/\Hid (Fr w0 L w'):=
 h.mono λ_ _ ⟨hr,ho,hb⟩=>⟨hr,aA ho,aA (H.out.next hb)⟩
end Go.Proofs.YtpigbggoiipmhaaGreatDoor
