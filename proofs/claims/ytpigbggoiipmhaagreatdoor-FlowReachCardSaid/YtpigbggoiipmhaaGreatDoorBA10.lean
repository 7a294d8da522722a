/-
  arg; the rule of a text. Conditions: sizes.
-/
import Derived.Test.YtpigbggoiipmhaaGreatDoorBA9
import Derived.Lib.SplitLaws
namespace Go.Proofs.YtpigbggoiipmhaaGreatDoor
set_option maxHeartbeats 4000000
set_option maxRecDepth 100000
open Go.RowKit Go.Shelf
theorem xI (w:World) (bp q:Nat) (v:Value) (o1:Obj):w.grownBy ((w.setCell ⟨bp,q,none⟩ v).alloc o1).drew (some bp):=by
 refine ⟨rfl,rfl,rfl,?_,λk hk hne=>?_⟩
 ·show _<=(World.alloc _ _).heap.size;rw [zW,yY];omega
 ·show (World.alloc _ _).heap[k]?=_;rw [z1S _ _ _ (by rw [yY];omega)];exact xV _ _ _ _ (λe=>hne (by rw [e]))
theorem SG {P:Prop} (h:P:=by
  have hlt:bp < w.heap.size:=h.lt;have hA:=h.alloc (.cells #[.int .i64 0,.int .i64 0,.int .i64 0] 52);have hmf:∀(fn:Fn) (first cap:Array Value) (w:World),(Instr.makeFunc fn first cap).run Tryz.prog w=.ok (.func fn first cap) w:=λ_ _ _ _=>rfl;have hKB:=λ(w1:World) (hb:Below (w.alloc (.cells #[.int .i64 0,.int .i64 0,.int .i64 0] 52)).heap.size (w.alloc (.cells #[.int .i64 0,.int .i64 0,.int .i64 0] 52)) w1)=>show BK w1 bp {x with ex:=x.ex++[]} from by rw [mD];exact hA.below hb hA.lt
  first
   | ((have _:=Ma0);(have HM:=aA (qD bp 65 o (w.alloc (.cells #[.int .i64 0,.int .i64 0,.int .i64 0] 52)) ho)))
   | ((have _:=Ma1);(have HM:=aA (qD bp 73 o (w.alloc (.cells #[.int .i64 0,.int .i64 0,.int .i64 0] 52)) ho)))
   | (have HM:=aA (qD bp 82 o (w.alloc (.cells #[.int .i64 0,.int .i64 0,.int .i64 0] 52)) ho))
  clear ho;obtain ⟨ok,orr,on⟩:=o;clear h hA;go_enter Tryz.func249,Tryz.ntmps249;go_wp2_with (go_at_call 264;refine HM.out.mono ?_;rintro e w1 ⟨rfl,hb⟩;have HK1:=aA (hKB w1 hb);have hg:=bZ bp hb;unfold Opd.val;obtain ⟨hf1,hfin⟩:=fT HK1.out hlt hg;obtain ⟨z0,z1,z2,y0,y1,y2⟩:=hf1.three;have HFIN:=aA hfin;clear hb hg hf1 hfin);obtain ⟨q1,q2,q3⟩:=HFIN.out (.int .i64 ok) (.int .i64 orr) (.int .i64 on);exact yR (aJ rfl _ _ w.heap.size 52 _ (0,0) _ rfl q1 Tryz.underlying52 rfl (by kernel_rfl)) rfl ⟨rfl,q2,q3⟩):P:=h
theorem arg_65 (bp:Nat) (x:dO) (o:Opd) (ho:eX [65]=some o) (w:World) (h:BK w bp x):
  Calls Tryz.prog 249 #[.pointer (some ⟨bp,0,none⟩),.string ⟨#[65]⟩] w (jY w bp x o []):=by
 have Ma0:=trivial;exact SG
theorem arg_73 (bp:Nat) (x:dO) (o:Opd) (ho:eX [73]=some o) (w:World) (h:BK w bp x):
  Calls Tryz.prog 249 #[.pointer (some ⟨bp,0,none⟩),.string ⟨#[73]⟩] w (jY w bp x o []):=by
 have Ma1:=trivial;exact SG
theorem arg_82 (bp:Nat) (x:dO) (o:Opd) (ho:eX [82]=some o) (w:World) (h:BK w bp x):
  Calls Tryz.prog 249 #[.pointer (some ⟨bp,0,none⟩),.string ⟨#[82]⟩] w (jY w bp x o []):=SG
theorem ST (bp:Nat) (x:dO) (s:ByteArray) (o:Opd) (ho:eX s.data.toList=some o) (hs:s.size<=1000) (h1:1 < s.size) (hn:s.data.toList≠[40,110,41]) (hw:s.data.toList≠[40,119,41]) (w:World) (h:BK w bp x):
  Calls Tryz.prog 249 #[.pointer (some ⟨bp,0,none⟩),.string s] w (jY w bp x o []):=by
 have hlt:bp < w.heap.size:=h.lt;have hA:=h.alloc (.cells #[.int .i64 0,.int .i64 0,.int .i64 0] 52);have hmf:∀(fn:Fn) (first cap:Array Value) (w:World),(Instr.makeFunc fn first cap).run Tryz.prog w=.ok (.func fn first cap) w:=λ_ _ _ _=>rfl;have hKB:=λ(w1:World) (hb:Below (w.alloc (.cells #[.int .i64 0,.int .i64 0,.int .i64 0] 52)).heap.size (w.alloc (.cells #[.int .i64 0,.int .i64 0,.int .i64 0] 52)) w1)=>show BK w1 bp {x with ex:=x.ex++[]} from by rw [mD];exact hA.below hb hA.lt
 have HM:=aA (qT s o (w.alloc (.cells #[.int .i64 0,.int .i64 0,.int .i64 0] 52)) ho hs);have hs1:(s.size:Int)<=1000:=by omega
 have hs2:(1:Int) < (s.size:Int):=by omega
 have e1:(s.toList==[40,110,41])=false:=by rw [Go.ByteArray.toList_eq,yW];exact hn
 have e2:(s.toList==[40,119,41])=false:=by rw [Go.ByteArray.toList_eq,yW];exact hw
 clear ho hn hw;obtain ⟨ok,orr,on⟩:=o;clear h hA;go_enter Tryz.func249,Tryz.ntmps249;go_wp2_with (go_at_call 263;refine HM.out.mono ?_;rintro e w1 ⟨rfl,hb⟩;have HK1:=aA (hKB w1 hb);have hg:=bZ bp hb;unfold Opd.val;obtain ⟨hf1,hfin⟩:=fT HK1.out hlt hg;obtain ⟨z0,z1,z2,y0,y1,y2⟩:=hf1.three;have HFIN:=aA hfin;clear hb hg hf1 hfin);obtain ⟨q1,q2,q3⟩:=HFIN.out (.int .i64 ok) (.int .i64 orr) (.int .i64 on);exact yR (aJ rfl _ _ w.heap.size 52 _ (0,0) _ rfl q1 Tryz.underlying52 rfl (by kernel_rfl)) rfl ⟨rfl,q2,q3⟩
theorem EJ (bp:Nat) (x:dO) (w:World) (h:BK w bp x) (hx:x.ok):
  Calls Tryz.prog 249 #[.pointer (some ⟨bp,0,none⟩),.string ⟨#[40,110,41]⟩] w (jY w bp x ⟨7,0,0⟩ [110]):=by
 obtain ⟨pg,op,iop,ia,ex,al,bits,rop,ra,ral⟩:=x;have hex:=hx.ex;simp only at hex;have h0:Blk w bp 299 (bdr pg op iop ia ex al bits rop ra ral):=h;have hlt:bp < w.heap.size:=h.lt;have hne1:¬bp=w.heap.size:=YX hlt;have hsl:∀W:World,(Instr.sliceAt 9 (.string ⟨#[40,110,41]⟩) (some (.int .i64 1)) (some (.int .i64 2)) none).run Tryz.prog W=.ok (.string ⟨#[110]⟩) W:=λW=>by kernel_rfl
 have a4:(w.alloc (.cells #[.int .i64 0,.int .i64 0,.int .i64 0] 52)).cell? ⟨bp,4,none⟩=some (.string ⟨ex.toArray⟩):=(h0.alloc (.cells #[.int .i64 0,.int .i64 0,.int .i64 0] 52)).cell 4;have a4f:(w.alloc (.cells #[.int .i64 0,.int .i64 0,.int .i64 0] 52)).frozen? ⟨bp,4,none⟩=false:=(h0.alloc (.cells #[.int .i64 0,.int .i64 0,.int .i64 0] 52)).free 4;have HK0:=aA h0;obtain ⟨exB,hexB⟩:∃b:ByteArray,b=⟨ex.toArray⟩:=⟨_,rfl⟩;have hsz:exB.size<=100:=by rw [hexB];show ex.toArray.size<=_;rw [XF];exact hex
 have HEX:=aA hexB;rw [<-hexB] at a4;clear h h0 hx hex hexB;go_enter Tryz.func249,Tryz.ntmps249;go_upto_region 2 with fail;go_region;all_goals
  go_wp2;have hcat:(exB++⟨#[110]⟩:ByteArray)=⟨(ex++[110]).toArray⟩:=by rw [HEX.out];apply ByteArray.ext;simp
  rw [hcat];have hfin:Blk ((w.setCell ⟨bp,4,none⟩ (.string ⟨(ex++[110]).toArray⟩)).alloc (.cells #[.int .i64 7,.int .i64 0,.int .i64 0] 52)).drew w.heap.size 52 #[.int .i64 7,.int .i64 0,.int .i64 0]:=by have h1:=Blk.new (w.setCell ⟨bp,4,none⟩ (.string ⟨(ex++[110]).toArray⟩)) 52 #[.int .i64 7,.int .i64 0,.int .i64 0];rw [yY] at h1;exact h1
  refine yR (aJ rfl _ _ w.heap.size 52 #[.int .i64 7,.int .i64 0,.int .i64 0] (0,0) _ rfl hfin Tryz.underlying52 rfl (by kernel_rfl)) rfl ⟨rfl,?_,?_⟩
  ·exact (HK0.out.set 4 (.string ⟨(ex++[110]).toArray⟩)).alloc (.cells #[.int .i64 7,.int .i64 0,.int .i64 0] 52)
  ·exact xI w bp 4 _ _
theorem FC (bp:Nat) (x:dO) (w:World) (h:BK w bp x) (hx:x.ok):
  Calls Tryz.prog 249 #[.pointer (some ⟨bp,0,none⟩),.string ⟨#[40,119,41]⟩] w (jY w bp x ⟨7,0,0⟩ [119]):=by
 obtain ⟨pg,op,iop,ia,ex,al,bits,rop,ra,ral⟩:=x;have hex:=hx.ex;simp only at hex;have h0:Blk w bp 299 (bdr pg op iop ia ex al bits rop ra ral):=h;have hlt:bp < w.heap.size:=h.lt;have hne1:¬bp=w.heap.size:=YX hlt;have hsl:∀W:World,(Instr.sliceAt 9 (.string ⟨#[40,119,41]⟩) (some (.int .i64 1)) (some (.int .i64 2)) none).run Tryz.prog W=.ok (.string ⟨#[119]⟩) W:=λW=>by kernel_rfl
 have a4:(w.alloc (.cells #[.int .i64 0,.int .i64 0,.int .i64 0] 52)).cell? ⟨bp,4,none⟩=some (.string ⟨ex.toArray⟩):=(h0.alloc (.cells #[.int .i64 0,.int .i64 0,.int .i64 0] 52)).cell 4;have a4f:(w.alloc (.cells #[.int .i64 0,.int .i64 0,.int .i64 0] 52)).frozen? ⟨bp,4,none⟩=false:=(h0.alloc (.cells #[.int .i64 0,.int .i64 0,.int .i64 0] 52)).free 4;have HK0:=aA h0;obtain ⟨exB,hexB⟩:∃b:ByteArray,b=⟨ex.toArray⟩:=⟨_,rfl⟩;have hsz:exB.size<=100:=by rw [hexB];show ex.toArray.size<=_;rw [XF];exact hex
 have HEX:=aA hexB;rw [<-hexB] at a4;clear h h0 hx hex hexB;go_enter Tryz.func249,Tryz.ntmps249;go_upto_region 2 with fail;go_region;all_goals
  go_wp2;have hcat:(exB++⟨#[119]⟩:ByteArray)=⟨(ex++[119]).toArray⟩:=by rw [HEX.out];apply ByteArray.ext;simp
  rw [hcat];have hfin:Blk ((w.setCell ⟨bp,4,none⟩ (.string ⟨(ex++[119]).toArray⟩)).alloc (.cells #[.int .i64 7,.int .i64 0,.int .i64 0] 52)).drew w.heap.size 52 #[.int .i64 7,.int .i64 0,.int .i64 0]:=by have h1:=Blk.new (w.setCell ⟨bp,4,none⟩ (.string ⟨(ex++[119]).toArray⟩)) 52 #[.int .i64 7,.int .i64 0,.int .i64 0];rw [yY] at h1;exact h1
  refine yR (aJ rfl _ _ w.heap.size 52 #[.int .i64 7,.int .i64 0,.int .i64 0] (0,0) _ rfl hfin Tryz.underlying52 rfl (by kernel_rfl)) rfl ⟨rfl,?_,?_⟩
  ·exact (HK0.out.set 4 (.string ⟨(ex++[119]).toArray⟩)).alloc (.cells #[.int .i64 7,.int .i64 0,.int .i64 0] 52)
  ·exact xI w bp 4 _ _
theorem ZM (x:ByteArray) (w:World):Calls Tryz.prog 260 #[.string x,.string ⟨#[44]⟩] w λe w'=>e=.returned (.int .i64 (Lib.indexB x ⟨#[44]⟩))/\w'=w:=(Any.strings_Index_one (ρ:=Tryz.lays146_ren) {Tryz.lays146 with} x 44 w).mono λe w' ⟨h1,h2⟩=>⟨by rw [h1,<-Lib.index_one],h2⟩
theorem Count44 (x:ByteArray) (w:World):Calls Tryz.prog 294 #[.string x,.string ⟨#[44]⟩] w λe w'=>e=.returned (.int .i64 (Lib.countB x ⟨#[44]⟩))/\w'=w:=(Tryz.strings_Count_one x 44 w).mono λe w' ⟨h1,h2⟩=>⟨by rw [h1];exact bK (by show ((List.count _ _:Nat):Int)=_;rw [<-Lib.count_one]),h2⟩
theorem GE (s:ByteArray) (w:World) (hs:s.size < 4294967281):
  Calls Tryz.prog 262 #[.string s,.string ⟨#[44]⟩] w λe w'=>∃L:List ByteArray,L.map (·.data.toList)=Lib.split s.data.toList [44]/\e=.returned (.slice (some ⟨w.heap.size,0,none⟩) L.length L.length)/\w'=w.alloc (.cells (L.map Value.string).toArray 9):=by
 have hle:=Lib.countB_le ⟨#[44]⟩ (by decide) s.size s (zI _);have hlen:=Lib.splitB_all ⟨#[44]⟩ (by decide) 0 _ s rfl;have c:=Any.strings_genSplit_core (ρ:=Tryz.lays146_ren) {Tryz.lays146 with} (by kernel_rfl) s ⟨#[44]⟩ 0 (-1) (Lib.countB s ⟨#[44]⟩+1) w hs (by decide) (YD _) (λx _ _=>ZM x _) (Count44 s w) (by decide) (by decide) (by rw [if_pos (by decide)];omega);rw [Nat.add_sub_cancel,hlen] at c;have e2:Lib.cellsOf (Lib.splitB ⟨#[44]⟩ 0 (Lib.countB s ⟨#[44]⟩) s) (Lib.countB s ⟨#[44]⟩+1)=((Lib.splitB ⟨#[44]⟩ 0 (Lib.countB s ⟨#[44]⟩) s).map Value.string).toArray:=by rw [<-hlen];exact Lib.cellsOf_full _
 rw [e2] at c;have HD:Hid ((Lib.splitB ⟨#[44]⟩ 0 (Lib.countB s ⟨#[44]⟩) s).map (·.data.toList)=Lib.split s.data.toList [44]):=by show _=_;rw [Lib.splitB_data];rfl
 generalize Lib.splitB ⟨#[44]⟩ 0 (Lib.countB s ⟨#[44]⟩) s=L at *;have HL:=aA hlen;have HC:=aA c;clear hle hlen e2 c;generalize Lib.countB s ⟨#[44]⟩=n at *;go_enter Tryz.func262,Tryz.ntmps262;go_wp2_with (go_at_call 283;refine HC.out.mono ?_;rintro e w' ⟨rfl,hw⟩;have HW:=aA hw;clear hw);go_ret;exact ⟨L,HD.out,by rw [HL.out];rfl,HW.out⟩
theorem iX (s:ByteArray) (F:List (List UInt8)) (w:World) (hF:Lib.fields s.data.toList=F) (hs:s.size<=1000) (ha:∀b∈s.data.toList,b.toNat < 128) (hT:Spc w):
  Calls Tryz.prog 205 #[.string s] w λe w'=>∃g:Nat,e=.returned (.slice (some ⟨g,0,none⟩) F.length F.length)/\Blk w' g 9 (F.map λl=>Value.string ⟨l.toArray⟩).toArray/\Below w.heap.size w w':=
 (Tryz.strings_Fields s w (by omega) (λj b hb=>ha b (VM hb)) hT).mono λe w' ⟨h1,h2⟩=>by rw [hF] at h1 h2;subst h2;exact ⟨_,h1,Blk.new _ _ _,(zY _ w).alloc (zI _) _⟩
theorem Blk.drew' {w:World} {g:Nat} {t:TypeId} {cs:Array Value} (h:Blk w g t cs):Blk w.drew g t cs:=h
theorem dP {w:World} {g:Nat} {t:TypeId} {a b c d:Value} (h:Blk w g t #[a,b,c,d]):w.cell? ⟨g,0,none⟩=some a/\w.cell? ⟨g,1,none⟩=some b/\w.cell? ⟨g,2,none⟩=some c/\w.cell? ⟨g,3,none⟩=some d:=⟨h.cell 0,h.cell 1,h.cell 2,h.cell 3⟩
theorem gE {w:World} {g:Nat} {t:TypeId} {a b c d:Value} (h:Blk w g t #[a,b,c,d]):w.frozen? ⟨g,0,none⟩=false/\w.frozen? ⟨g,1,none⟩=false/\w.frozen? ⟨g,2,none⟩=false/\w.frozen? ⟨g,3,none⟩=false:=⟨h.free 0,h.free 1,h.free 2,h.free 3⟩
theorem xJ (w:World) (L:List ByteArray) (hm:L.length<=1000000):SlR eN (w.alloc (.cells (L.map Value.string).toArray 9)) (λk=>k=w.heap.size) (.slice (some ⟨w.heap.size,0,none⟩) L.length L.length) L:=by refine ⟨_,_,rfl,zI _,by unfold maxLen;omega,λi x hx=>⟨w.heap.size,0,[.string x],rfl,rfl,by rw [zW];omega,?_,rfl⟩⟩;have hb:=Blk.new w 9 (L.map Value.string).toArray;refine dR.one ?_;unfold World.cell?;rw [show (w.alloc (.cells (L.map Value.string).toArray 9)).heap[w.heap.size]?=_ from hb];show (L.map Value.string).toArray[0+i * 1]?=_;rw [z1Y,z0Q,z2H,Nat.mul_one,hx];rfl
theorem ZF (s:ByteArray) (b o a:List UInt8) (ho:o≠[42]) (ha:a≠[42]) (w:World) (hF:Lib.fields s.data.toList=[b,o,a]) (hs:s.size<=1000) (hasc:∀b∈s.data.toList,b.toNat < 128) (hal:a.length<=1000) (hsl:(Lib.split a [44]).length<=1000) (hT:Spc w):
  Calls Tryz.prog 248 #[.string s] w λe w'=>∃v LS,e=.returned (.agg #[.string ⟨b.toArray⟩,.string ⟨o.toArray⟩,v,.bool false])/\SlR eN w' (λk=>w.heap.size<=k) v LS/\LS.map (·.data.toList)=Lib.split a [44]/\Below w.heap.size w w':=by
 have hal0:=(zY w.heap.size w).alloc (zI _) (.cells #[.string ⟨#[]⟩,.string ⟨#[]⟩,.slice none 0 0,.bool false] 295);have HFW:=aA (iX s _ (w.alloc (.cells #[.string ⟨#[]⟩,.string ⟨#[]⟩,.slice none 0 0,.bool false] 295)) hF hs hasc (hT.below hal0));have HFX:Hid (Calls Tryz.prog 205 #[.string s] (w.alloc (.cells #[.string ⟨#[]⟩,.string ⟨#[]⟩,.slice none 0 0,.bool false] 295)) λe w'=>∃g:Nat,e=.returned (.slice (some ⟨g,0,none⟩) 3 3)/\g < w'.heap.size/\w'.cell? ⟨g,0,none⟩=some (.string ⟨b.toArray⟩)/\w'.cell? ⟨g,1,none⟩=some (.string ⟨o.toArray⟩)/\w'.cell? ⟨g,2,none⟩=some (.string ⟨a.toArray⟩)/\Below (w.alloc (.cells #[.string ⟨#[]⟩,.string ⟨#[]⟩,.slice none 0 0,.bool false] 295)).heap.size (w.alloc (.cells #[.string ⟨#[]⟩,.string ⟨#[]⟩,.slice none 0 0,.bool false] 295)) w'):=HFW.out.mono λe w' ⟨g,h1,h2,h3⟩=>⟨g,h1,h2.lt,h2.cell 0,h2.cell 1,h2.cell 2,h3⟩;clear HFW;have HF0:=aA (Blk.new w 295 #[.string ⟨#[]⟩,.string ⟨#[]⟩,.slice none 0 0,.bool false]);have HB0:=aA hal0;have eo:(⟨o.toArray⟩:ByteArray).toList=o:=dK o;have no:((⟨o.toArray⟩:ByteArray).toList==[42])=false:=by rw [eo,yW];exact ho
 have ea:(⟨a.toArray⟩:ByteArray).toList=a:=dK a;have na:((⟨a.toArray⟩:ByteArray).toList==[42])=false:=by rw [ea,yW];exact ha
 have HSP:=aA (λW=>GE ⟨a.toArray⟩ W (by show a.toArray.size < _;rw [XF];omega));rw [show (⟨a.toArray⟩:ByteArray).data.toList=a by simp] at HSP;have HLSZ:Hid (∀LS:List ByteArray,LS.map (·.data.toList)=Lib.split a [44]->LS.length<=1000000):=λLS h=>by have h2:=congrArg List.length h;rw [z0B] at h2;omega
 clear hF hs hasc hT hal0 ho eo ha ea hal hsl;generalize (⟨b.toArray⟩:ByteArray)=B at *;generalize (⟨o.toArray⟩:ByteArray)=O at *;generalize (⟨a.toArray⟩:ByteArray)=A at *;have hwr:IntKind.i64.wrap ((3:Int) - 1)=2:=by decide
 have hwr2:IntKind.i64.wrap (2:Int)=2:=by decide
 go_enter Tryz.func248,Tryz.ntmps248;go_upto_region 2 with (go_at_call 205;refine HFX.out.mono ?_;rintro e w1 ⟨g,rfl,hgl,d0,d1,d2,hb⟩;have HF1:=aA (HF0.out.below hb HF0.out.lt);have HB1:=aA (HB0.out.trans (hb.mono HB0.out.size));have HBK:=aA hgl;clear hgl hb);go_region_held3 (λw'=>w'.cell? ⟨g,0,none⟩=some (.string B)/\w'.cell? ⟨g,1,none⟩=some (.string O)/\w'.cell? ⟨g,2,none⟩=some (.string A)) (go_keep) (fail);all_goals
  have hR:=Blk.new w1 295 #[.string B,.string O,.slice none 0 0,.bool false];have hal2:=(zY w1.heap.size w1).alloc (zI _) (.cells #[.string B,.string O,.slice none 0 0,.bool false] 295);have HF2:=aA (HF1.out.below hal2 HF1.out.lt).drew';have HB2:=aA (HB1.out.trans (hal2.mono HB1.out.size)).drew;have HR:=aA hR.drew';have hfl:¬w.heap.size=w1.heap.size:=YX HF1.out.lt;have hgd:∀j,(w1.alloc (.cells #[.string B,.string O,.slice none 0 0,.bool false] 295)).drew.cell? ⟨g,j,none⟩=w1.cell? ⟨g,j,none⟩:=λj=>z2K _ _ _ (YX HBK.out);have k2:=(hgd 2).trans d2;clear hR hal2;generalize (w1.alloc (.cells #[.string B,.string O,.slice none 0 0,.bool false] 295)).drew=wR at *;have HRB:Hid (w.heap.size<=w1.heap.size):=HB1.out.size;generalize w1.heap.size=rb at *;obtain ⟨r0,r1,r2,r3⟩:=dP HR.out;obtain ⟨s0,s1,s2,s3⟩:=gE HR.out;clear hgd;go_wp2_with (go_at_call 262;refine (HSP.out _).mono ?_;rintro e w3 ⟨LS,hLS,rfl,hw3⟩;have hal3:=(zY wR.heap.size wR).alloc (zI _) (.cells (LS.map Value.string).toArray 9);rw [<-hw3] at hal3;have HR3:=aA (HR.out.below hal3 HR.out.lt);have HF3:=aA (HF2.out.below hal3 HF2.out.lt);have HB3:=aA (HB2.out.trans (hal3.mono HB2.out.size));have HL3:Hid (SlR eN w3 (λk=>k=wR.heap.size) (.slice (some ⟨wR.heap.size,0,none⟩) LS.length LS.length) LS):=(by show SlR _ _ _ _ _;rw [hw3];exact xJ wR LS (HLSZ.out LS hLS));have HLS:=aA hLS;obtain ⟨t0,t1,t2,t3⟩:=dP HR3.out;obtain ⟨u0,u1,u2,u3⟩:=gE HR3.out;obtain ⟨v0,v1,v2,v3⟩:=dP HF3.out;obtain ⟨y0,y1,y2,y3⟩:=gE HF3.out;have HSZ:=aA HB2.out.size;clear hal3 hw3 hLS);have hlg:∀k,k=wR.heap.size->k≠w.heap.size:=λk hk e=>by have:=HF2.out.lt;omega
  have hlr:∀k,k=wR.heap.size->k≠rb:=λk hk e=>by have:=HR.out.lt;omega
  refine yR (aJ rfl _ _ w.heap.size 295 #[.string B,.string O,.slice (some ⟨wR.heap.size,0,none⟩) LS.length LS.length,.bool false] (0,0) _ rfl (show Blk _ w.heap.size 295 #[.string B,.string O,.slice (some ⟨wR.heap.size,0,none⟩) LS.length LS.length,.bool false] from ((((HF3.out.far (p:=⟨rb,2,none⟩) hfl (.slice (some ⟨wR.heap.size,0,none⟩) LS.length LS.length)).set 0 _).set 1 _).set 2 _).set 3 _) Tryz.underlying295 rfl (by kernel_rfl)) rfl ⟨_,LS,rfl,?_,HLS.out,?_⟩
  ·refine (HL3.out.keep ?_).mono (λk hk=>by rw [hk];exact HSZ.out);exact tX5f
  ·exact ((((HB3.out.setCell HRB.out _).setCell (zI _) _).setCell (zI _) _).setCell (zI _) _).setCell (zI _) _
theorem ZA (s:ByteArray) (b o:List UInt8) (ho:o≠[42]) (w:World) (hF:Lib.fields s.data.toList=[b,o]) (hs:s.size<=1000) (hasc:∀b∈s.data.toList,b.toNat < 128) (hT:Spc w):
  Calls Tryz.prog 248 #[.string s] w λe w'=>∃v LS,e=.returned (.agg #[.string ⟨b.toArray⟩,.string ⟨o.toArray⟩,v,.bool false])/\SlR eN w' (λk=>w.heap.size<=k) v LS/\LS.map (·.data.toList)=[]/\Below w.heap.size w w':=by
 have hal0:=(zY w.heap.size w).alloc (zI _) (.cells #[.string ⟨#[]⟩,.string ⟨#[]⟩,.slice none 0 0,.bool false] 295);have HFW:=aA (iX s _ (w.alloc (.cells #[.string ⟨#[]⟩,.string ⟨#[]⟩,.slice none 0 0,.bool false] 295)) hF hs hasc (hT.below hal0));have HFX:Hid (Calls Tryz.prog 205 #[.string s] (w.alloc (.cells #[.string ⟨#[]⟩,.string ⟨#[]⟩,.slice none 0 0,.bool false] 295)) λe w'=>∃g:Nat,e=.returned (.slice (some ⟨g,0,none⟩) 2 2)/\g < w'.heap.size/\w'.cell? ⟨g,0,none⟩=some (.string ⟨b.toArray⟩)/\w'.cell? ⟨g,1,none⟩=some (.string ⟨o.toArray⟩)/\Below (w.alloc (.cells #[.string ⟨#[]⟩,.string ⟨#[]⟩,.slice none 0 0,.bool false] 295)).heap.size (w.alloc (.cells #[.string ⟨#[]⟩,.string ⟨#[]⟩,.slice none 0 0,.bool false] 295)) w'):=HFW.out.mono λe w' ⟨g,h1,h2,h3⟩=>⟨g,h1,h2.lt,h2.cell 0,h2.cell 1,h3⟩;clear HFW;have HF0:=aA (Blk.new w 295 #[.string ⟨#[]⟩,.string ⟨#[]⟩,.slice none 0 0,.bool false]);have HB0:=aA hal0;have eo:(⟨o.toArray⟩:ByteArray).toList=o:=dK o;have no:((⟨o.toArray⟩:ByteArray).toList==[42])=false:=by rw [eo,yW];exact ho
 clear hF hs hasc hT hal0 ho eo;generalize (⟨b.toArray⟩:ByteArray)=B at *;generalize (⟨o.toArray⟩:ByteArray)=O at *;have hwr:IntKind.i64.wrap ((2:Int) - 1)=1:=by decide
 have hwr2:IntKind.i64.wrap (1:Int)=1:=by decide
 go_enter Tryz.func248,Tryz.ntmps248;go_upto_region 2 with (go_at_call 205;refine HFX.out.mono ?_;rintro e w1 ⟨g,rfl,hgl,d0,d1,hb⟩;have HF1:=aA (HF0.out.below hb HF0.out.lt);have HB1:=aA (HB0.out.trans (hb.mono HB0.out.size));have HBK:=aA hgl;clear hgl hb);go_region_held3 (λw'=>w'.cell? ⟨g,0,none⟩=some (.string B)/\w'.cell? ⟨g,1,none⟩=some (.string O)) (go_keep) (fail);all_goals have hal2:=(zY w1.heap.size w1).alloc (zI _) (.cells #[.string B,.string O,.slice none 0 0,.bool false] 295);have hR:=Blk.new w1 295 #[.string B,.string O,.slice none 0 0,.bool false];have HR:=aA hR.drew';have HF2:=aA (HF1.out.below hal2 HF1.out.lt).drew';have HB2:=aA (HB1.out.trans (hal2.mono HB1.out.size)).drew;have hfl:¬w.heap.size=w1.heap.size:=YX HF1.out.lt;have hgd:∀j,(w1.alloc (.cells #[.string B,.string O,.slice none 0 0,.bool false] 295)).drew.cell? ⟨g,j,none⟩=w1.cell? ⟨g,j,none⟩:=λj=>z2K _ _ _ (YX HBK.out);have _:=hgd;clear hR hal2;generalize (w1.alloc (.cells #[.string B,.string O,.slice none 0 0,.bool false] 295)).drew=wR at *;generalize w1.heap.size=rb at *;obtain ⟨r0,r1,r2,r3⟩:=dP HR.out;obtain ⟨v0,v1,v2,v3⟩:=dP HF2.out;obtain ⟨y0,y1,y2,y3⟩:=gE HF2.out;clear hgd;go_wp2;refine yR (aJ rfl _ _ w.heap.size 295 #[.string B,.string O,.slice none 0 0,.bool false] (0,0) _ rfl (show Blk _ w.heap.size 295 #[.string B,.string O,.slice none 0 0,.bool false] from (((HF2.out.set 0 _).set 1 _).set 2 _).set 3 _) Tryz.underlying295 rfl (by kernel_rfl)) rfl ⟨_,[],rfl,SlR.nil _ _ _,rfl,?_⟩;exact tX64
theorem UM (s:ByteArray) (b o:List UInt8) (ho:o≠[42]) (w:World) (hF:Lib.fields s.data.toList=[b,o,[42]]) (hs:s.size<=1000) (hasc:∀b∈s.data.toList,b.toNat < 128) (hT:Spc w):
  Calls Tryz.prog 248 #[.string s] w λe w'=>∃v LS,e=.returned (.agg #[.string ⟨b.toArray⟩,.string ⟨o.toArray⟩,v,.bool true])/\SlR eN w' (λk=>w.heap.size<=k) v LS/\LS.map (·.data.toList)=[]/\Below w.heap.size w w':=by
 have hal0:=(zY w.heap.size w).alloc (zI _) (.cells #[.string ⟨#[]⟩,.string ⟨#[]⟩,.slice none 0 0,.bool false] 295);have HFW:=aA (iX s _ (w.alloc (.cells #[.string ⟨#[]⟩,.string ⟨#[]⟩,.slice none 0 0,.bool false] 295)) hF hs hasc (hT.below hal0));have HFX:Hid (Calls Tryz.prog 205 #[.string s] (w.alloc (.cells #[.string ⟨#[]⟩,.string ⟨#[]⟩,.slice none 0 0,.bool false] 295)) λe w'=>∃g:Nat,e=.returned (.slice (some ⟨g,0,none⟩) 3 3)/\g < w'.heap.size/\w'.cell? ⟨g,0,none⟩=some (.string ⟨b.toArray⟩)/\w'.cell? ⟨g,1,none⟩=some (.string ⟨o.toArray⟩)/\w'.cell? ⟨g,2,none⟩=some (.string ⟨#[42]⟩)/\Below (w.alloc (.cells #[.string ⟨#[]⟩,.string ⟨#[]⟩,.slice none 0 0,.bool false] 295)).heap.size (w.alloc (.cells #[.string ⟨#[]⟩,.string ⟨#[]⟩,.slice none 0 0,.bool false] 295)) w'):=HFW.out.mono λe w' ⟨g,h1,h2,h3⟩=>⟨g,h1,h2.lt,h2.cell 0,h2.cell 1,h2.cell 2,h3⟩;clear HFW;have HF0:=aA (Blk.new w 295 #[.string ⟨#[]⟩,.string ⟨#[]⟩,.slice none 0 0,.bool false]);have HB0:=aA hal0;have eo:(⟨o.toArray⟩:ByteArray).toList=o:=dK o;have no:((⟨o.toArray⟩:ByteArray).toList==[42])=false:=by rw [eo,yW];exact ho
 clear hF hs hasc hT hal0 ho eo;generalize (⟨b.toArray⟩:ByteArray)=B at *;generalize (⟨o.toArray⟩:ByteArray)=O at *;have hwr:IntKind.i64.wrap ((3:Int) - 1)=2:=by decide
 have hwr2:IntKind.i64.wrap (2:Int)=2:=by decide
 go_enter Tryz.func248,Tryz.ntmps248;go_upto_region 2 with (go_at_call 205;refine HFX.out.mono ?_;rintro e w1 ⟨g,rfl,hgl,d0,d1,d2,hb⟩;have HF1:=aA (HF0.out.below hb HF0.out.lt);have HB1:=aA (HB0.out.trans (hb.mono HB0.out.size));have HBK:=aA hgl;clear hgl hb);go_region_held3 (λw'=>w'.cell? ⟨g,0,none⟩=some (.string B)/\w'.cell? ⟨g,1,none⟩=some (.string O)/\w'.cell? ⟨g,2,none⟩=some (.string ⟨#[42]⟩)) (go_keep) (fail);all_goals have hal2:=(zY w1.heap.size w1).alloc (zI _) (.cells #[.string B,.string O,.slice none 0 0,.bool true] 295);have hR:=Blk.new w1 295 #[.string B,.string O,.slice none 0 0,.bool true];have HR:=aA hR.drew';have HF2:=aA (HF1.out.below hal2 HF1.out.lt).drew';have HB2:=aA (HB1.out.trans (hal2.mono HB1.out.size)).drew;have hfl:¬w.heap.size=w1.heap.size:=YX HF1.out.lt;have hgd:∀j,(w1.alloc (.cells #[.string B,.string O,.slice none 0 0,.bool true] 295)).drew.cell? ⟨g,j,none⟩=w1.cell? ⟨g,j,none⟩:=λj=>z2K _ _ _ (YX HBK.out);have k2:=(hgd 2).trans d2;clear hR hal2;generalize (w1.alloc (.cells #[.string B,.string O,.slice none 0 0,.bool true] 295)).drew=wR at *;generalize w1.heap.size=rb at *;obtain ⟨r0,r1,r2,r3⟩:=dP HR.out;obtain ⟨v0,v1,v2,v3⟩:=dP HF2.out;obtain ⟨y0,y1,y2,y3⟩:=gE HF2.out;clear hgd;go_wp2;refine yR (aJ rfl _ _ w.heap.size 295 #[.string B,.string O,.slice none 0 0,.bool true] (0,0) _ rfl (show Blk _ w.heap.size 295 #[.string B,.string O,.slice none 0 0,.bool true] from (((HF2.out.set 0 _).set 1 _).set 2 _).set 3 _) Tryz.underlying295 rfl (by kernel_rfl)) rfl ⟨_,[],rfl,SlR.nil _ _ _,rfl,?_⟩;exact tX64
theorem parse_4 (s:ByteArray) (b o a:List UInt8) (ho:o≠[42]) (ha:a≠[42]) (w:World) (hF:Lib.fields s.data.toList=[b,o,a,[42]]) (hs:s.size<=1000) (hasc:∀b∈s.data.toList,b.toNat < 128) (hal:a.length<=1000) (hsl:(Lib.split a [44]).length<=1000) (hT:Spc w):
  Calls Tryz.prog 248 #[.string s] w λe w'=>∃v LS,e=.returned (.agg #[.string ⟨b.toArray⟩,.string ⟨o.toArray⟩,v,.bool true])/\SlR eN w' (λk=>w.heap.size<=k) v LS/\LS.map (·.data.toList)=Lib.split a [44]/\Below w.heap.size w w':=by
 have hal0:=(zY w.heap.size w).alloc (zI _) (.cells #[.string ⟨#[]⟩,.string ⟨#[]⟩,.slice none 0 0,.bool false] 295);have HFW:=aA (iX s _ (w.alloc (.cells #[.string ⟨#[]⟩,.string ⟨#[]⟩,.slice none 0 0,.bool false] 295)) hF hs hasc (hT.below hal0));have HFX:Hid (Calls Tryz.prog 205 #[.string s] (w.alloc (.cells #[.string ⟨#[]⟩,.string ⟨#[]⟩,.slice none 0 0,.bool false] 295)) λe w'=>∃g:Nat,e=.returned (.slice (some ⟨g,0,none⟩) 4 4)/\g < w'.heap.size/\w'.cell? ⟨g,0,none⟩=some (.string ⟨b.toArray⟩)/\w'.cell? ⟨g,1,none⟩=some (.string ⟨o.toArray⟩)/\w'.cell? ⟨g,2,none⟩=some (.string ⟨a.toArray⟩)/\w'.cell? ⟨g,3,none⟩=some (.string ⟨#[42]⟩)/\Below (w.alloc (.cells #[.string ⟨#[]⟩,.string ⟨#[]⟩,.slice none 0 0,.bool false] 295)).heap.size (w.alloc (.cells #[.string ⟨#[]⟩,.string ⟨#[]⟩,.slice none 0 0,.bool false] 295)) w'):=HFW.out.mono λe w' ⟨g,h1,h2,h3⟩=>⟨g,h1,h2.lt,h2.cell 0,h2.cell 1,h2.cell 2,h2.cell 3,h3⟩;clear HFW;have HF0:=aA (Blk.new w 295 #[.string ⟨#[]⟩,.string ⟨#[]⟩,.slice none 0 0,.bool false]);have HB0:=aA hal0;have eo:(⟨o.toArray⟩:ByteArray).toList=o:=dK o;have no:((⟨o.toArray⟩:ByteArray).toList==[42])=false:=by rw [eo,yW];exact ho
 have ea:(⟨a.toArray⟩:ByteArray).toList=a:=dK a;have na:((⟨a.toArray⟩:ByteArray).toList==[42])=false:=by rw [ea,yW];exact ha
 have HSP:=aA (λW=>GE ⟨a.toArray⟩ W (by show a.toArray.size < _;rw [XF];omega));rw [show (⟨a.toArray⟩:ByteArray).data.toList=a by simp] at HSP;have HLSZ:Hid (∀LS:List ByteArray,LS.map (·.data.toList)=Lib.split a [44]->LS.length<=1000000):=λLS h=>by have h2:=congrArg List.length h;rw [z0B] at h2;omega
 clear hF hs hasc hT hal0 ho eo ha ea hal hsl;generalize (⟨b.toArray⟩:ByteArray)=B at *;generalize (⟨o.toArray⟩:ByteArray)=O at *;generalize (⟨a.toArray⟩:ByteArray)=A at *;have hwr:IntKind.i64.wrap ((4:Int) - 1)=3:=by decide
 have hwr2:IntKind.i64.wrap (3:Int)=3:=by decide
 go_enter Tryz.func248,Tryz.ntmps248;go_upto_region 2 with (go_at_call 205;refine HFX.out.mono ?_;rintro e w1 ⟨g,rfl,hgl,d0,d1,d2,d3,hb⟩;have HF1:=aA (HF0.out.below hb HF0.out.lt);have HB1:=aA (HB0.out.trans (hb.mono HB0.out.size));have HBK:=aA hgl;clear hgl hb);go_region_held3 (λw'=>w'.cell? ⟨g,0,none⟩=some (.string B)/\w'.cell? ⟨g,1,none⟩=some (.string O)/\w'.cell? ⟨g,2,none⟩=some (.string A)/\w'.cell? ⟨g,3,none⟩=some (.string ⟨#[42]⟩)) (go_keep) (fail);all_goals
  have hR:=Blk.new w1 295 #[.string B,.string O,.slice none 0 0,.bool true];have hal2:=(zY w1.heap.size w1).alloc (zI _) (.cells #[.string B,.string O,.slice none 0 0,.bool true] 295);have HF2:=aA (HF1.out.below hal2 HF1.out.lt).drew';have HB2:=aA (HB1.out.trans (hal2.mono HB1.out.size)).drew;have HR:=aA hR.drew';have hfl:¬w.heap.size=w1.heap.size:=YX HF1.out.lt;have hgd:∀j,(w1.alloc (.cells #[.string B,.string O,.slice none 0 0,.bool true] 295)).drew.cell? ⟨g,j,none⟩=w1.cell? ⟨g,j,none⟩:=λj=>z2K _ _ _ (YX HBK.out);have k2:=(hgd 2).trans d2;clear hR hal2;generalize (w1.alloc (.cells #[.string B,.string O,.slice none 0 0,.bool true] 295)).drew=wR at *;have HRB:Hid (w.heap.size<=w1.heap.size):=HB1.out.size;generalize w1.heap.size=rb at *;obtain ⟨r0,r1,r2,r3⟩:=dP HR.out;obtain ⟨s0,s1,s2,s3⟩:=gE HR.out;clear hgd;go_wp2_with (go_at_call 262;refine (HSP.out _).mono ?_;rintro e w3 ⟨LS,hLS,rfl,hw3⟩;have hal3:=(zY wR.heap.size wR).alloc (zI _) (.cells (LS.map Value.string).toArray 9);rw [<-hw3] at hal3;have HR3:=aA (HR.out.below hal3 HR.out.lt);have HF3:=aA (HF2.out.below hal3 HF2.out.lt);have HB3:=aA (HB2.out.trans (hal3.mono HB2.out.size));have HL3:Hid (SlR eN w3 (λk=>k=wR.heap.size) (.slice (some ⟨wR.heap.size,0,none⟩) LS.length LS.length) LS):=(by show SlR _ _ _ _ _;rw [hw3];exact xJ wR LS (HLSZ.out LS hLS));have HLS:=aA hLS;obtain ⟨t0,t1,t2,t3⟩:=dP HR3.out;obtain ⟨u0,u1,u2,u3⟩:=gE HR3.out;obtain ⟨v0,v1,v2,v3⟩:=dP HF3.out;obtain ⟨y0,y1,y2,y3⟩:=gE HF3.out;have HSZ:=aA HB2.out.size;clear hal3 hw3 hLS);have hlg:∀k,k=wR.heap.size->k≠w.heap.size:=λk hk e=>by have:=HF2.out.lt;omega
  have hlr:∀k,k=wR.heap.size->k≠rb:=λk hk e=>by have:=HR.out.lt;omega
  refine yR (aJ rfl _ _ w.heap.size 295 #[.string B,.string O,.slice (some ⟨wR.heap.size,0,none⟩) LS.length LS.length,.bool true] (0,0) _ rfl (show Blk _ w.heap.size 295 #[.string B,.string O,.slice (some ⟨wR.heap.size,0,none⟩) LS.length LS.length,.bool true] from ((((HF3.out.far (p:=⟨rb,2,none⟩) hfl (.slice (some ⟨wR.heap.size,0,none⟩) LS.length LS.length)).set 0 _).set 1 _).set 2 _).set 3 _) Tryz.underlying295 rfl (by kernel_rfl)) rfl ⟨_,LS,rfl,?_,HLS.out,?_⟩
  ·refine (HL3.out.keep ?_).mono (λk hk=>by rw [hk];exact HSZ.out);exact tX5f
  ·exact ((((HB3.out.setCell HRB.out _).setCell (zI _) _).setCell (zI _) _).setCell (zI _) _).setCell (zI _) _
def CL (bits:List UInt8) (op:Nat) (c:UInt8):Nat:=bP c op 0 0 bits
def EC (bits:List UInt8) (op:Nat) (s:List UInt8):Option (Opd × List UInt8):=
 if s=[40,110,41] then some (⟨7,0,0⟩,[110]) else if s=[40,119,41] then some (⟨7,0,0⟩,[119])
 else if s=[114] then ((Lib.fields pB)[CL bits op 114]?.bind eX).map (·,[]) else if s=[115] then ((Lib.fields pB)[CL bits op 115]?.bind eX).map (·,[])
 else if s=[112] then ((Lib.fields uQ)[CL bits op 112]?.bind eX).map (·,[]) else if s=[113] then ((Lib.fields uK)[CL bits op 113]?.bind eX).map (·,[])
 else if s=[99] then some (⟨8,CL bits op 99,0⟩,[]) else if s=[107] then some (⟨8,CL bits op 107,0⟩,[])
 else if s=[98] then some (⟨6,0,CL bits op 98⟩,[]) else if s=[116] then some (⟨6,0,8 * CL bits op 116⟩,[])
 else if s=[101] then some (⟨10,0,0⟩,[101]) else if s=[110] then some (⟨6,0,0⟩,[110]) else if s=[119] then some (⟨6,0,0⟩,[119])
 else if s=[48] then some (⟨6,0,0⟩,[]) else if s=[49] then some (⟨6,0,1⟩,[]) else if s=[50] then some (⟨6,0,2⟩,[])
 else if s=[65] then (eX [65]).map (·,[]) else if s=[73] then (eX [73]).map (·,[]) else if s=[82] then (eX [82]).map (·,[])
 else if 1 < s.length then (eX s).map (·,[]) else none
theorem iW:(∀y∈Lib.fields pB,y.length<=1000)/\(∀y∈Lib.fields uQ,y.length<=1000)/\∀y∈Lib.fields uK,y.length<=1000:=by decide+kernel
theorem cG {s:ByteArray} {l:List UInt8} (h:s.data.toList=l):s=⟨l.toArray⟩:=by subst h;simp
theorem pR {α β:Type} {a:Option α} {f:α->Option β} {o:β} {ext:List UInt8} (h:(a.bind f).map (·,([]:List UInt8))=some (o,ext)):ext=[]/\∃y,a=some y/\f y=some o:=by
 cases a with
 | none=>cases h
 | some y=>
  rw [Option.bind_some] at h;cases hy:f y with
  | none=>rw [hy] at h;cases h
  | some z=>rw [hy] at h;injection h with h;injection h with h1 h2;exact ⟨h2.symm,y,rfl,hy.trans (by rw [h1])⟩
theorem pH {β:Type} {a:Option β} {o:β} {ext:List UInt8} (h:a.map (·,([]:List UInt8))=some (o,ext)):ext=[]/\a=some o:=by
 cases a with
 | none=>cases h
 | some z=>injection h with h;injection h with h1 h2;exact ⟨h2.symm,by rw [h1]⟩
theorem eA {β:Type} {a o:β} {e ext:List UInt8} (h:some (a,e)=some (o,ext)):a=o/\e=ext:=by injection h with h;injection h with h1 h2;exact ⟨h1,h2⟩
theorem arg_any (bp:Nat) (x:dO) (s:ByteArray) (o:Opd) (ext:List UInt8) (w:World) (h:BK w bp x) (hx:x.ok) (ha:EC x.bits.data.toList x.op s.data.toList=some (o,ext)) (hs:s.size<=1000) (hT:Spc w):
  Calls Tryz.prog 249 #[.pointer (some ⟨bp,0,none⟩),.string s] w (jY w bp x o ext):=by
 unfold EC at ha;by_cases e0:s.data.toList=[40,110,41]
 ·rw [if_pos e0] at ha;obtain ⟨rfl,rfl⟩:=eA ha;rw [cG e0];exact EJ bp x w h hx
 rw [if_neg e0] at ha;by_cases e1:s.data.toList=[40,119,41]
 ·rw [if_pos e1] at ha;obtain ⟨rfl,rfl⟩:=eA ha;rw [cG e1];exact FC bp x w h hx
 rw [if_neg e1] at ha;by_cases e114:s.data.toList=[114]
 ·rw [if_pos e114] at ha;obtain ⟨rfl,y,hy,ho⟩:=pR ha;rw [cG e114];exact ZZ bp x y o hy ho (iW.1 y (VM hy)) w h hx hT
 rw [if_neg e114] at ha;by_cases e115:s.data.toList=[115]
 ·rw [if_pos e115] at ha;obtain ⟨rfl,y,hy,ho⟩:=pR ha;rw [cG e115];exact arg_115 bp x y o hy ho (iW.1 y (VM hy)) w h hx hT
 rw [if_neg e115] at ha;by_cases e112:s.data.toList=[112]
 ·rw [if_pos e112] at ha;obtain ⟨rfl,y,hy,ho⟩:=pR ha;rw [cG e112];exact arg_112 bp x y o hy ho (iW.2.1 y (VM hy)) w h hx hT
 rw [if_neg e112] at ha;by_cases e113:s.data.toList=[113]
 ·rw [if_pos e113] at ha;obtain ⟨rfl,y,hy,ho⟩:=pR ha;rw [cG e113];exact YG bp x y o hy ho (iW.2.2 y (VM hy)) w h hx hT
 rw [if_neg e113] at ha;by_cases e99:s.data.toList=[99]
 ·rw [if_pos e99] at ha;obtain ⟨rfl,rfl⟩:=eA ha;rw [cG e99];exact arg_99 bp x w h hx
 rw [if_neg e99] at ha;by_cases e107:s.data.toList=[107]
 ·rw [if_pos e107] at ha;obtain ⟨rfl,rfl⟩:=eA ha;rw [cG e107];exact YS bp x w h hx
 rw [if_neg e107] at ha;by_cases e98:s.data.toList=[98]
 ·rw [if_pos e98] at ha;obtain ⟨rfl,rfl⟩:=eA ha;rw [cG e98];exact arg_98 bp x w h hx
 rw [if_neg e98] at ha;by_cases e116:s.data.toList=[116]
 ·rw [if_pos e116] at ha;obtain ⟨rfl,rfl⟩:=eA ha;rw [cG e116];exact arg_116 bp x w h hx
 rw [if_neg e116] at ha;by_cases e101:s.data.toList=[101]
 ·rw [if_pos e101] at ha;obtain ⟨rfl,rfl⟩:=eA ha;rw [cG e101];exact ZG bp x w h hx
 rw [if_neg e101] at ha;by_cases e110:s.data.toList=[110]
 ·rw [if_pos e110] at ha;obtain ⟨rfl,rfl⟩:=eA ha;rw [cG e110];exact arg_110 bp x w h hx
 rw [if_neg e110] at ha;by_cases e119:s.data.toList=[119]
 ·rw [if_pos e119] at ha;obtain ⟨rfl,rfl⟩:=eA ha;rw [cG e119];exact XZ bp x w h hx
 rw [if_neg e119] at ha;by_cases e48:s.data.toList=[48]
 ·rw [if_pos e48] at ha;obtain ⟨rfl,rfl⟩:=eA ha;rw [cG e48];exact arg_48 bp x w h
 rw [if_neg e48] at ha;by_cases e49:s.data.toList=[49]
 ·rw [if_pos e49] at ha;obtain ⟨rfl,rfl⟩:=eA ha;rw [cG e49];exact arg_49 bp x w h
 rw [if_neg e49] at ha;by_cases e50:s.data.toList=[50]
 ·rw [if_pos e50] at ha;obtain ⟨rfl,rfl⟩:=eA ha;rw [cG e50];exact arg_50 bp x w h
 rw [if_neg e50] at ha;by_cases e65:s.data.toList=[65]
 ·rw [if_pos e65] at ha;obtain ⟨rfl,ho⟩:=pH ha;rw [cG e65];exact arg_65 bp x o ho w h
 rw [if_neg e65] at ha;by_cases e73:s.data.toList=[73]
 ·rw [if_pos e73] at ha;obtain ⟨rfl,ho⟩:=pH ha;rw [cG e73];exact arg_73 bp x o ho w h
 rw [if_neg e73] at ha;by_cases e82:s.data.toList=[82]
 ·rw [if_pos e82] at ha;obtain ⟨rfl,ho⟩:=pH ha;rw [cG e82];exact arg_82 bp x o ho w h
 rw [if_neg e82] at ha;by_cases hl:1 < s.data.toList.length
 ·rw [if_pos hl] at ha;obtain ⟨rfl,ho⟩:=pH ha;exact ST bp x s o ho hs (by simpa using hl) e0 e1 w h
 ·rw [if_neg hl] at ha;cases ha
structure rM where
 bits:List UInt8
 op:List UInt8
 args:List (List UInt8)
 alias:Bool
def tX (t:List UInt8):Option rM:=
 match Lib.fields t with
 | [b,o]=>if o=[42] then none else some ⟨b,o,[],false⟩
 | [b,o,a]=>if o=[42] then none else if a=[42] then some ⟨b,o,[],true⟩ else if a.length<=1000/\(Lib.split a [44]).length<=1000 then some ⟨b,o,Lib.split a [44],false⟩ else none
 | [b,o,a,x]=>if o=[42]\/a=[42] then none else if x=[42]/\a.length<=1000/\(Lib.split a [44]).length<=1000 then some ⟨b,o,Lib.split a [44],true⟩ else none
 | _=>none
theorem KV (s:ByteArray) (r:rM) (w:World) (hr:tX s.data.toList=some r) (hs:s.size<=1000) (hasc:∀b∈s.data.toList,b.toNat < 128) (hT:Spc w):
  Calls Tryz.prog 248 #[.string s] w λe w'=>∃v LS,e=.returned (.agg #[.string ⟨r.bits.toArray⟩,.string ⟨r.op.toArray⟩,v,.bool r.alias])/\SlR eN w' (λk=>w.heap.size<=k) v LS/\LS.map (·.data.toList)=r.args/\Below w.heap.size w w':=by
 unfold tX at hr;split at hr
 ·rename_i b o hF;split at hr
  ·cases hr
  ·rename_i ho;injection hr with hr;subst hr;exact ZA s b o ho w hF hs hasc hT
 ·rename_i b o a hF;split at hr
  ·cases hr
  ·rename_i ho;split at hr
   ·rename_i ha;injection hr with hr;subst hr ha;exact UM s b o ho w hF hs hasc hT
   ·rename_i ha;split at hr
    ·rename_i hl;injection hr with hr;subst hr;exact ZF s b o a ho ha w hF hs hasc hl.1 hl.2 hT
    ·cases hr
 ·rename_i b o a x hF;split at hr
  ·cases hr
  ·rename_i ho;split at hr
   ·rename_i hl;injection hr with hr;subst hr;obtain ⟨rfl,hl1,hl2⟩:=hl;exact parse_4 s b o a (λh=>ho (.inl h)) (λh=>ho (.inr h)) w hF hs hasc hl1 hl2 hT
   ·cases hr
 ·cases hr
end Go.Proofs.YtpigbggoiipmhaaGreatDoor
