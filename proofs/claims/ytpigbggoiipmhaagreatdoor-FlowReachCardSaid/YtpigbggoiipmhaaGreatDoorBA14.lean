/-
  table.At, whole. The entries of a page, the reference's list. The entries of pages, the program's list. The entries with a mnemonic: the plain law. The plain law fR the table: the variable operands of every entry are found alike; an entry's filled instruction is canonical and legal in its parts. The plain law of a filled instruction: its shape, its numbers, its canonical form, its parts. Conditions: the library's table as its initialiser lays it; the number of pages; an entry of the table.
-/
import Derived.Test.YtpigbggoiipmhaaGreatDoorBA13
namespace Go.Proofs.YtpigbggoiipmhaaGreatDoor
set_option maxHeartbeats 16000000
set_option maxRecDepth 100000
open Go.RowKit Go.Shelf Go.Sort
def DH (L:List (List UInt8)) (op:Nat):Bool:=
 match dV op L with
 | none=>true
 | some t=>match tX t with
  | none=>false
  | some r=>match lG r.bits op r.args with
   | none=>false
   | some (os,ex)=>decide (t.length<=1000)&&(t.all (λb=>decide (b.toNat < 128))&&(decide (r.bits.length<=8)&&(r.args.all (λa=>decide (a.length<=1000))&&(decide (r.args.length<=8)&&(decide (os.length<=100)&&(((dG ⟨r.op.toArray⟩).data.toList==r.op)&&(decide (r.op.length<=1000)&&decide (ex.length<=1000))))))))
structure Fnd (L:List (List UInt8)) (op:Nat) (t:List UInt8) (r:rM) (os:List Opd) (ex:List UInt8):Prop where
 hl:dV op L=some t
 hr:tX t=some r
 ha:lG r.bits op r.args=some (os,ex)
 ok:okT t r
 hn:os.length<=100
 hup:dG ⟨r.op.toArray⟩=⟨r.op.toArray⟩
 his:r.op.length<=1000
 hex:ex.length<=1000
theorem uM {L:List (List UInt8)} {op:Nat} (h:DH L op=true):dV op L=none\/∃t r os ex,Fnd L op t r os ex:=by
 unfold DH at h;split at h
 ·rename_i hl;exact .inl hl
 ·rename_i t hl;split at h
  ·cases h
  ·rename_i r hr;split at h
   ·cases h
   ·rename_i os ex ha;simp only [Bool.and_eq_true,decide_eq_true_eq,List.all_eq_true,beq_iff_eq] at h;obtain ⟨h1,h2,h3,h4,h5,h6,h7,h8,h9⟩:=h;exact .inr ⟨t,r,os,ex,hl,hr,ha,⟨h1,h2,h3,h4,h5⟩,h6,by apply ByteArray.ext;apply Array.ext';rw [h7],h8,h9⟩
theorem uY:∀x:Fin 256,DH sJ x.val=true:=by decide+kernel
theorem VQ:∀x:Fin 256,DH (aU cbB.data.toList) x.val=true:=by decide+kernel
theorem chk_ed:∀x:Fin 256,DH (aU edB.data.toList) x.val=true:=by decide+kernel
def AtP (w:World) (x:Option aL) (k:Int) (e:Ending) (w':World):Prop:=(match x with | some x=>∃v,e=.returned (.tuple #[bQ x v,.int .i64 k])/\aD w' (λb=>w.heap.size<=b) v x.args | none=>e=.returned (.tuple #[mX,.int .i64 k]))/\Below w.heap.size w w'
def ixF (page:Int) (x:aL):Option aL:=
 if 0<=eV ⟨4,2,0⟩ 0 x.args/\x.iop≠[74,80] then some ⟨page,x.op,x.iop,x.args.set (eV ⟨4,2,0⟩ 0 x.args).toNat ⟨5,page+2,0⟩,100::x.ex,x.al⟩
 else if x.op=235\/yI (page+2) x.args=false then none else some ⟨page,x.op,x.iop,qZ (page+2) x.args,x.ex,x.al⟩
def atF (page:Int) (op:Nat):Option aL × Int:=
 if page=0 then (match gV 0 sJ op with | some x=>(some x,1) | none=>(none,2))
 else if page=1 then (match gV 1 (aU cbB.data.toList) op with | some x=>(some x,1) | none=>(none,0))
 else if page=2 then (match gV 2 (aU edB.data.toList) op with | some x=>(some x,1) | none=>(none,3))
 else if page=3\/page=4 then (if op=203 then (none,2) else match (gV page sJ op).bind (ixF page) with | some x=>(some x,1) | none=>(none,0))
 else if page=5\/page=6 then (match gV page (aU cbB.data.toList) (op / 8 * 8+6) with | some x=>(some (BN page op ⟨[],x.iop,[],x.al⟩ x.args),1) | none=>(none,0))
 else (none,0)
theorem Fnd.find {L:List (List UInt8)} {op:Nat} {t:List UInt8} {r:rM} {os:List Opd} {ex:List UInt8} (h:Fnd L op t r os ex) (pg:Int):gV pg L op=some ⟨pg,op,r.op,os,ex,r.alias⟩:=by unfold gV;rw [h.hl,Option.bind_some,h.hr,Option.bind_some,h.ha];rfl
theorem oB {L:List (List UInt8)} {op:Nat} (h:dV op L=none) (pg:Int):gV pg L op=none:=by unfold gV;rw [h];rfl
theorem RJ:∀x:Fin 256,(match gV 5 (aU cbB.data.toList) (x.val / 8 * 8+6) with | some y=>decide (0 < y.args.length) | none=>false)=true:=by decide+kernel
theorem EM {op:Nat} (hop:op < 256):∃t r os ex,Fnd (aU cbB.data.toList) (op / 8 * 8+6) t r os ex/\0 < os.length:=by
 have h5:=RJ ⟨op,hop⟩;dsimp only at h5;rcases uM (VQ ⟨op / 8 * 8+6,by omega⟩) with h | ⟨t,r,os,ex,h⟩
 ·rw [oB h] at h5;cases h5
 ·rw [h.find] at h5;exact ⟨t,r,os,ex,h,jU h5⟩
theorem BW {x:Opd}:∀{l:List Opd} {j:Nat},eV x j l=-1\/(j:Int)<=eV x j l
 | [],_=>.inl rfl
 | y::r,j=>by
  rw [eV];split
  ·exact .inr (Int.le_refl _)
  ·rcases BW (x:=x) (l:=r) (j:=j+1) with h | h
   ·exact .inl h
   ·exact .inr (by omega)
def BJ (W:World) (o:Option aL) (e:Ending) (w':World):Prop:=
 ∃(p q:Int) (i s:ByteArray) (a:Option Addr) (n c:Nat) (f:Bool),e=.returned (.tuple #[.agg #[.int .i64 p,.int .u8 q,.string i,.slice a n c,.string s,.bool f],.bool o.isSome])/\
  (∀x,o=some x->p=x.pg/\q=x.op/\i=⟨x.iop.toArray⟩/\s=⟨x.ex.toArray⟩/\f=x.al/\n=x.args.length/\aD w' (λb=>W.heap.size<=b) (.slice a n c) x.args)/\Below W.heap.size W w'
theorem uH {W:World} {e:Ending} {w':World} (h:e=.returned (.tuple #[mX,.bool false])/\Below W.heap.size W w'):BJ W none e w':=⟨0,0,⟨#[]⟩,⟨#[]⟩,none,0,0,false,h.1,λ_ h=>(by cases h),h.2⟩
theorem oD {W:World} {x:aL} {v:Value} {e:Ending} {w':World} (h:e=.returned (.tuple #[bQ x v,.bool true])/\aD w' (λb=>W.heap.size<=b) v x.args/\Below W.heap.size W w'):BJ W (some x) e w':=by obtain ⟨h1,h2,h3⟩:=h;obtain ⟨a,c,rfl⟩:=h2.form;exact ⟨_,_,_,_,a,x.args.length,c,_,h1,λy hy=>(by cases hy;exact ⟨rfl,rfl,rfl,rfl,rfl,rfl,h2⟩),h3⟩
theorem BC (pg:Int) (B:ByteArray) (hs:B.size<=1000000) (op:Nat) (hop:op < 256) (hc:DH (aU B.data.toList) op=true) (W:World) (hT:Spc W):Calls Tryz.prog 211 #[.int .i64 pg,.string B,.int .u8 op] W (BJ W (gV pg (aU B.data.toList) op)):=by
 rcases uM hc with h | ⟨t,r,os,ex,h⟩
 ·rw [oB h];exact (DZ pg B op W hop hs h).mono λe w' h=>uH h
 ·rw [h.find];exact (vS pg B op t r os ex W hop hs h.hl h.hr h.ha h.ok hT).mono λe w' ⟨v,h1,h2,h3⟩=>oD ⟨h1,h2.opdOwn (λj hj=>(h2.lt j hj).1),h3⟩
structure OkIx (x:aL):Prop where
 op:x.op < 256
 hn:x.args.length<=100
 hup:dG ⟨x.iop.toArray⟩=⟨x.iop.toArray⟩
 his:x.iop.length<=1000
 hex:x.ex.length<=1000
theorem UQ {pg:Int} {op:Nat} (hop:op < 256) {x:aL} (h:gV pg sJ op=some x):OkIx x:=by
 rcases uM (uY ⟨op,hop⟩) with h2 | ⟨t,r,os,ex,h2⟩
 ·rw [oB h2] at h;cases h
 ·rw [h2.find] at h;cases h;exact ⟨hop,h2.hn,h2.hup,h2.his,h2.hex⟩
theorem BT (page:Int) (hpg:page=3\/page=4) (x:aL) (hx:OkIx x) (p:aB) (v:Value) (W:World) (h:SlR aM W p v x.args):Calls Tryz.prog 212 #[bQ x v,.int .i64 page] W (BJ W (ixF page x)):=by
 have hn:x.args.length<=1000:=qJ hx.hn (by decide);by_cases hm:0<=eV ⟨4,2,0⟩ 0 x.args/\x.iop≠[74,80]
 ·have e:ixF page x=some ⟨page,x.op,x.iop,x.args.set (eV ⟨4,2,0⟩ 0 x.args).toNat ⟨5,page+2,0⟩,100::x.ex,x.al⟩:=if_pos hm;rw [e];exact (CI x p v page (eV ⟨4,2,0⟩ 0 x.args).toNat W h hpg (by omega) hn hm.2 hx.hup hx.his hx.hex).mono λe w' ⟨v',h1,h2,h3⟩=>oD ⟨h1,h2,h3⟩
 have hm':eV ⟨4,2,0⟩ 0 x.args=-1\/(0<=eV ⟨4,2,0⟩ 0 x.args/\x.iop=[74,80]):=by
  rcases BW (x:=⟨4,2,0⟩) (l:=x.args) (j:=0) with hp | hp
  ·exact .inl hp
  ·exact .inr ⟨hp,Decidable.byContradiction λhj=>hm ⟨hp,hj⟩⟩
 have e:ixF page x=if x.op=235\/yI (page+2) x.args=false then none else some ⟨page,x.op,x.iop,qZ (page+2) x.args,x.ex,x.al⟩:=if_neg hm;rw [e];refine (yH page hpg x p v W h hm' hx.op hn hx.hup hx.his hx.hex).mono λe w' ⟨v',h1,h2,h3⟩=>?_;by_cases h235:x.op=235
 ·rw [if_pos (.inl h235)];rw [if_pos h235] at h1;exact uH ⟨h1,h3⟩
 rw [if_neg h235] at h1;cases hxa:yI (page+2) x.args
 ·rw [if_pos (.inr rfl)];rw [hxa] at h1;obtain ⟨a,c,rfl⟩:=h2.form;exact ⟨_,_,_,_,a,_,c,_,h1,λ_ h=>(by cases h),h3⟩
 ·rw [if_neg (λe=>e.elim h235 (λe=>by cases e))];rw [hxa] at h1;exact oD ⟨h1,h2,h3⟩
theorem bothP (page:Int) (hpg:page=5\/page=6) (op:Nat) (hop:op < 256) (W:World) (hT:Spc W):∃x,(atF page op)=(some x,1)/\Calls Tryz.prog 213 #[.int .i64 page,.int .u8 op] W λe w'=>∃v',e=.returned (bQ x v')/\aD w' (λb=>W.heap.size<=b) v' x.args/\Below W.heap.size W w':=by obtain ⟨t,r,os,ex,h,hos⟩:=EM hop;refine ⟨BN page op r os,?_,(WS page hpg op t r os ex W hop h.hl h.hr h.ha h.ok hos h.hn hT).mono λe w' ⟨v,h1,h2,h3⟩=>⟨v,h1,h2.opdOwn (λj hj=>(h2.lt j hj).1),h3⟩⟩;unfold atF;rw [if_neg (by omega),if_neg (by omega),if_neg (by omega),if_neg (by omega),if_pos hpg,h.find];rfl
theorem Fr.put6 {w0 W:World} {L:List (Nat × TypeId × Array Value)} {b:Nat} {z0 z1 z2 z3 z4 z5:Value} (h:Fr w0 ((b,158,#[z0,z1,z2,z3,z4,z5])::L) W) (hb:w0.heap.size<=b) (hn:∀x∈L,x.1≠b) (a0 a1 a2 a3 a4 a5:Value):Fr w0 ((b,158,#[a0,a1,a2,a3,a4,a5])::L) (rB W b a0 a1 a2 a3 a4 a5):=
 ⟨bE h.below hb _ _ _ _ _ _,λy hy=>by
  rcases ZR.1 hy with rfl | hy
  ·exact jW (h.blk 0 rfl) _ _ _ _ _ _
  ·exact (eH _ _ _ _ _ _ _ _ _ (hn y hy)).trans (h.at' y (z1I _ hy))⟩
def AtM (w:World) (r:Option aL × Int) (s7 s8:Value) (wx:World):Prop:=∃(o:Option aL) (k p q:Int) (i s:ByteArray) (a:Option Addr) (n c:Nat) (f:Bool),s7=.bool o.isSome/\s8=.int .i64 k/\
 Fr w [(w.heap.size+1,158,#[.int .i64 p,.int .u8 q,.string i,.slice a n c,.string s,.bool f]),(w.heap.size,158,#[.int .i64 0,.int .u8 0,.string ⟨#[]⟩,.slice none 0 0,.string ⟨#[]⟩,.bool false])] wx/\(∀x,o=some x->p=x.pg/\q=x.op/\i=⟨x.iop.toArray⟩/\s=⟨x.ex.toArray⟩/\f=x.al/\n=x.args.length/\aD wx (λb=>w.heap.size+2<=b) (.slice a n c) x.args)/\r=(match o with | some x=>(some x,1) | none=>(none,k))
theorem DI (page:Int) (op:Nat) (hop:op < 256) (w:World) (hT:Spc w):Calls Tryz.prog 161 #[.int .i64 page,.int .u8 op] w (AtP w (atF page op).1 (atF page op).2):=by
 have H0:=aA (((Fr.start w).new 158 #[.int .i64 0,.int .u8 0,.string ⟨#[]⟩,.slice none 0 0,.string ⟨#[]⟩,.bool false]).new' 158 #[.int .i64 0,.int .u8 0,.string ⟨#[]⟩,.slice none 0 0,.string ⟨#[]⟩,.bool false] (b:=w.heap.size+1) (by rw [zW]));have HS0:Hid ((((w.alloc (.cells #[.int .i64 0,.int .u8 0,.string ⟨#[]⟩,.slice none 0 0,.string ⟨#[]⟩,.bool false] 158)).alloc (.cells #[.int .i64 0,.int .u8 0,.string ⟨#[]⟩,.slice none 0 0,.string ⟨#[]⟩,.bool false] 158))).heap.size=w.heap.size+2):=by show _=_;rw [zW,zW]
 have HT:=aA hT;clear hT;go_enter Tryz.func161,Tryz.ntmps161;go_upto_region 2 with fail;iterate 7 (first | go_values | go_skip | go_guarded | go_step | go_upon | go_back)
 go_cut [7,8] (λs7 s8 wx=>AtM w (atF page op) s7 s8 wx);case first=>
  by_cases hlow:page=0\/page=1\/page=2
  ·obtain ⟨B,k,hs,hc,hat,hsel⟩:∃(B:ByteArray) (k:Int),B.size<=1000000/\DH (aU B.data.toList) op=true/\atF page op=(match gV page (aU B.data.toList) op with | some x=>(some x,1) | none=>(none,k))/\(page=0/\B=lQ/\k=2\/page=1/\B=cbB/\k=0\/page=2/\B=edB/\k=3):=by
    rcases hlow with rfl | rfl | rfl
    ·exact ⟨lQ,2,by decide+kernel,uY ⟨op,hop⟩,by unfold atF;rw [if_pos rfl];rfl,.inl ⟨rfl,rfl,rfl⟩⟩
    ·exact ⟨cbB,0,by decide+kernel,VQ ⟨op,hop⟩,by unfold atF;rw [if_neg (by decide),if_pos rfl],.inr (.inl ⟨rfl,rfl,rfl⟩)⟩
    ·exact ⟨edB,3,by decide+kernel,chk_ed ⟨op,hop⟩,by unfold atF;rw [if_neg (by decide),if_neg (by decide),if_pos rfl],.inr (.inr ⟨rfl,rfl,rfl⟩)⟩
   have HFI:=aA (λW hT=>BC page B hs op hop hc W hT);have HAT:=aA hat;clear hs hc hat hlow;generalize gV page (aU B.data.toList) op=o at *;rcases hsel with ⟨rfl,rfl,rfl⟩ | ⟨rfl,rfl,rfl⟩ | ⟨rfl,rfl,rfl⟩;all_goals go_wp2_with (go_at_call 211;refine (HFI.out _ (HT.out.below H0.out.below)).mono ?_;rintro e w2 ⟨p,q,i,s,a,n,c,f,rfl,hx,hb⟩;have HX:=aA hx;have H2:=aA (H0.out.next hb);clear hx hb;have e0:=(H2.out.blk 0 rfl).cell 0;have e1:=(H2.out.blk 0 rfl).cell 1;have e2:=(H2.out.blk 0 rfl).cell 2;have e3:=(H2.out.blk 0 rfl).cell 3;have e4:=(H2.out.blk 0 rfl).cell 4;have e5:=(H2.out.blk 0 rfl).cell 5;have z0:=(H2.out.blk 0 rfl).free 0;have z1:=(H2.out.blk 0 rfl).free 1;have z2:=(H2.out.blk 0 rfl).free 2;have z3:=(H2.out.blk 0 rfl).free 3;have z4:=(H2.out.blk 0 rfl).free 4;have z5:=(H2.out.blk 0 rfl).free 5);go_meet;case rel=>refine ⟨o,_,p,q,i,s,a,n,c,f,rfl,rfl,H2.out.put6 (jQ _) (by simp) _ _ _ _ _ _,λx hx=>?_,HAT.out⟩;obtain ⟨g1,g2,g3,g4,g5,g6,g7⟩:=HX.out x hx;exact ⟨g1,g2,g3,g4,g5,g6,(g7.mono (λb hb=>by rw [HS0.out] at hb;exact hb)).keep (λj hj=>eH _ _ _ _ _ _ _ _ j (by have hj:w.heap.size+2<=j:=hj;omega))⟩
  by_cases h34:page=3\/page=4
  ·by_cases hcb:op=203
   ·subst hcb;have HAT:Hid (atF page 203=(none,2)):=(by show _=_;unfold atF;rw [if_neg (by omega),if_neg (by omega),if_neg (by omega),if_pos h34,if_pos rfl]);clear hlow;rcases h34 with rfl | rfl;all_goals go_wp2;exact yR (aH rfl _ _ w.heap.size 158 #[.int .i64 0,.int .u8 0,.string ⟨#[]⟩,.slice none 0 0,.string ⟨#[]⟩,.bool false] (0,0) _ rfl (H0.out.blk 1 rfl) Tryz.underlying158 rfl (by kernel_rfl)) rfl (by rw [HAT.out];exact ⟨rfl,H0.out.below⟩)
   have HAT:Hid (atF page op=(match (gV page sJ op).bind (ixF page) with | some x=>(some x,1) | none=>(none,0))):=(by show _=_;unfold atF;rw [if_neg (by omega),if_neg (by omega),if_neg (by omega),if_pos h34,if_neg hcb]);have hne:((op:Int)==203)=false:=(by rw [yW];omega);have HFI:Hid (∀W,Spc W->Calls Tryz.prog 211 #[.int .i64 page,.string lQ,.int .u8 op] W (BJ W (gV page sJ op))):=λW hT=>BC page lQ EY op hop (uY ⟨op,hop⟩) W hT;have HOK:=aA (λx=>UQ (pg:=page) hop (x:=x));have HIX:=aA (λx hx p v W h=>BT page h34 x hx p v W h);clear hlow hcb;generalize gV page sJ op=o at *;rcases o with _ | x
   ·clear HOK HIX;rcases h34 with rfl | rfl;all_goals go_wp2_with (go_at_call 211;refine (HFI.out _ (HT.out.below H0.out.below)).mono ?_;rintro e w2 ⟨p,q,i,s,a,n,c,f,rfl,hx,hb⟩;have HX:=aA hx;have H2:=aA (H0.out.next hb);clear hx hb;have e0:=(H2.out.blk 0 rfl).cell 0;have e1:=(H2.out.blk 0 rfl).cell 1;have e2:=(H2.out.blk 0 rfl).cell 2;have e3:=(H2.out.blk 0 rfl).cell 3;have e4:=(H2.out.blk 0 rfl).cell 4;have e5:=(H2.out.blk 0 rfl).cell 5;have z0:=(H2.out.blk 0 rfl).free 0;have z1:=(H2.out.blk 0 rfl).free 1;have z2:=(H2.out.blk 0 rfl).free 2;have z3:=(H2.out.blk 0 rfl).free 3;have z4:=(H2.out.blk 0 rfl).free 4;have z5:=(H2.out.blk 0 rfl).free 5);go_meet;case rel=>exact ⟨none,_,p,q,i,s,a,n,c,f,rfl,rfl,H2.out.put6 (jQ _) (by simp) _ _ _ _ _ _,λx hx=>(by cases hx),HAT.out⟩
   ·have HOX:=aA (HOK.out x rfl);have HIY:=aA (HIX.out x HOX.out);clear HOK HIX HOX;unfold bQ at HIY;rw [Option.bind_some] at HAT;generalize ixF page x=o at *;obtain ⟨xp,xo,xi,xl,xs,xf⟩:=x;dsimp only at *;rcases h34 with rfl | rfl;all_goals go_upto_region 17 with (go_at_call 211;refine (HFI.out _ (HT.out.below H0.out.below)).mono ?_;rintro e w2 ⟨p,q,i,s,a,n,c,f,rfl,hx,hb⟩;have HX:=aA hx;have H2:=aA (H0.out.next hb);clear hx hb;have e0:=(H2.out.blk 0 rfl).cell 0;have e1:=(H2.out.blk 0 rfl).cell 1;have e2:=(H2.out.blk 0 rfl).cell 2;have e3:=(H2.out.blk 0 rfl).cell 3;have e4:=(H2.out.blk 0 rfl).cell 4;have e5:=(H2.out.blk 0 rfl).cell 5;have z0:=(H2.out.blk 0 rfl).free 0;have z1:=(H2.out.blk 0 rfl).free 1;have z2:=(H2.out.blk 0 rfl).free 2;have z3:=(H2.out.blk 0 rfl).free 3;have z4:=(H2.out.blk 0 rfl).free 4;have z5:=(H2.out.blk 0 rfl).free 5;obtain ⟨g1,g2,g3,g4,g5,g6,h7⟩:=HX.out _ rfl;clear HX;subst p q i s f n;have H3:=aA (H2.out.put6 (jQ _) (by simp) (.int .i64 xp) (.int .u8 xo) (.string ⟨xi.toArray⟩) (.slice a xl.length c) (.string ⟨xs.toArray⟩) (.bool xf));have HO3:=aA ((h7.mono (r:=λb=>w.heap.size+2<=b) (λb hb=>by rw [HS0.out] at hb;exact hb)).keep (λj hj=>eH w2 (w.heap.size+1) (.int .i64 xp) (.int .u8 xo) (.string ⟨xi.toArray⟩) (.slice a xl.length c) (.string ⟨xs.toArray⟩) (.bool xf) j (by have hj:w.heap.size+2<=j:=hj;omega)));clear h7);have hsw:w.heap.size+2<=w2.heap.size:=(H2.out.blk 0 rfl).lt;have HS6:Hid ((rB w2 (w.heap.size+1) (.int .i64 xp) (.int .u8 xo) (.string ⟨xi.toArray⟩) (.slice a xl.length c) (.string ⟨xs.toArray⟩) (.bool xf)).heap.size=w2.heap.size):=qL _ _ _ _ _ _ _ _;clear H2;go_wp2_with (go_at_call 212;refine (HIY.out _ _ _ HO3.out.slR).mono ?_;rintro e w3 ⟨p,q,i,s,a1,n,c1,f,rfl,hx,hb⟩;have HX:=aA hx;have H4:=aA (H3.out.next hb);clear hx hb e0 e1 e2 e3 e4 e5 z0 z1 z2 z3 z4 z5;have e0:=(H4.out.blk 0 rfl).cell 0;have e1:=(H4.out.blk 0 rfl).cell 1;have e2:=(H4.out.blk 0 rfl).cell 2;have e3:=(H4.out.blk 0 rfl).cell 3;have e4:=(H4.out.blk 0 rfl).cell 4;have e5:=(H4.out.blk 0 rfl).cell 5;have z0:=(H4.out.blk 0 rfl).free 0;have z1:=(H4.out.blk 0 rfl).free 1;have z2:=(H4.out.blk 0 rfl).free 2;have z3:=(H4.out.blk 0 rfl).free 3;have z4:=(H4.out.blk 0 rfl).free 4;have z5:=(H4.out.blk 0 rfl).free 5);go_meet;case rel=>refine ⟨o,_,p,q,i,s,a1,n,c1,f,rfl,rfl,H4.out.put6 (jQ _) (by simp) _ _ _ _ _ _,λx hx=>?_,HAT.out⟩;obtain ⟨g1,g2,g3,g4,g5,g6,g7⟩:=HX.out x hx;exact ⟨g1,g2,g3,g4,g5,g6,(g7.mono (r:=λb=>w.heap.size+2<=b) (λb hb=>by have hb:(rB w2 (w.heap.size+1) (.int .i64 xp) (.int .u8 xo) (.string ⟨xi.toArray⟩) (.slice a xl.length c) (.string ⟨xs.toArray⟩) (.bool xf)).heap.size<=b:=hb;rw [HS6.out] at hb;omega)).keep (λj hj=>eH _ _ _ _ _ _ _ _ j (by have hj:w.heap.size+2<=j:=hj;omega))⟩
  by_cases h56:page=5\/page=6
  ·obtain ⟨x,hat,hbo⟩:=bothP page h56 op hop _ (HT.out.below H0.out.below);have HAT:=aA hat;have HBO:=aA hbo;clear hat hbo hlow h34;unfold bQ at HBO;obtain ⟨xp,xo,xi,xl,xs,xf⟩:=x;dsimp only at *;rcases h56 with rfl | rfl;all_goals go_wp2_with (go_at_call 213;refine HBO.out.mono ?_;rintro e w2 ⟨v,rfl,ho,hb⟩;obtain ⟨va,vc,rfl⟩:=ho.form;have H2:=aA (H0.out.next hb);have HO:=aA (ho.mono (r:=λb=>w.heap.size+2<=b) (λb hb=>by rw [HS0.out] at hb;exact hb));clear ho hb;have r0:=(H2.out.blk 1 rfl).cell 0;have r1:=(H2.out.blk 1 rfl).cell 1;have r2:=(H2.out.blk 1 rfl).cell 2;have r3:=(H2.out.blk 1 rfl).cell 3;have r4:=(H2.out.blk 1 rfl).cell 4;have r5:=(H2.out.blk 1 rfl).cell 5;have y0:=(H2.out.blk 1 rfl).free 0;have y1:=(H2.out.blk 1 rfl).free 1;have y2:=(H2.out.blk 1 rfl).free 2;have y3:=(H2.out.blk 1 rfl).free 3;have y4:=(H2.out.blk 1 rfl).free 4;have y5:=(H2.out.blk 1 rfl).free 5);exact yR (aH rfl _ _ w.heap.size 158 #[.int .i64 xp,.int .u8 xo,.string ⟨xi.toArray⟩,.slice va xl.length vc,.string ⟨xs.toArray⟩,.bool xf] (0,0) _ rfl (jW (H2.out.blk 1 rfl) _ _ _ _ _ _) Tryz.underlying158 rfl (by kernel_rfl)) rfl (by rw [HAT.out];exact ⟨⟨_,rfl,(HO.out.keep (λj hj=>eH _ _ _ _ _ _ _ _ j (by have hj:w.heap.size+2<=j:=hj;omega))).mono (λj hj=>by have hj:w.heap.size+2<=j:=hj;omega)⟩,bE H2.out.below (zI _) _ _ _ _ _ _⟩)
  have HAT:Hid (atF page op=(none,0)):=by show _=_;unfold atF;rw [if_neg (by omega),if_neg (by omega),if_neg (by omega),if_neg h34,if_neg h56]
  have b0:(page==0)=false:=by rw [yW];omega
  have b1:(page==1)=false:=by rw [yW];omega
  have b2:(page==2)=false:=by rw [yW];omega
  have b3:(page==3)=false:=by rw [yW];omega
  have b4:(page==4)=false:=by rw [yW];omega
  have b5:(page==5)=false:=by rw [yW];omega
  have b6:(page==6)=false:=by rw [yW];omega
  clear hlow h34 h56;go_wp2;go_meet;case rel=>exact ⟨none,0,_,_,_,_,_,_,_,_,rfl,rfl,H0.out,λx hx=>(by cases hx),HAT.out⟩
 case rest=>
  obtain ⟨o,k,p,q,i,s,a,n,c,f,rfl,rfl,hf,hx,hat⟩:=hcut;have H2:=aA hf;have HX:=aA hx;have HAT:=aA hat;clear hf hx hat H0;have r0:=(H2.out.blk 1 rfl).cell 0;have r1:=(H2.out.blk 1 rfl).cell 1;have r2:=(H2.out.blk 1 rfl).cell 2;have r3:=(H2.out.blk 1 rfl).cell 3;have r4:=(H2.out.blk 1 rfl).cell 4;have r5:=(H2.out.blk 1 rfl).cell 5;have y0:=(H2.out.blk 1 rfl).free 0;have y1:=(H2.out.blk 1 rfl).free 1;have y2:=(H2.out.blk 1 rfl).free 2;have y3:=(H2.out.blk 1 rfl).free 3;have y4:=(H2.out.blk 1 rfl).free 4;have y5:=(H2.out.blk 1 rfl).free 5;cases o with
  | none=>go_wp2;exact yR (aH rfl _ _ w.heap.size 158 #[.int .i64 0,.int .u8 0,.string ⟨#[]⟩,.slice none 0 0,.string ⟨#[]⟩,.bool false] (0,0) _ rfl (jW (H2.out.blk 1 rfl) _ _ _ _ _ _) Tryz.underlying158 rfl (by kernel_rfl)) rfl (by rw [HAT.out];exact ⟨rfl,bE H2.out.below (zI _) _ _ _ _ _ _⟩)
  | some x=>obtain ⟨rfl,rfl,rfl,rfl,rfl,rfl,h7⟩:=HX.out x rfl;have HO:=aA h7;clear h7 HX;have e0:=(H2.out.blk 0 rfl).cell 0;have e1:=(H2.out.blk 0 rfl).cell 1;have e2:=(H2.out.blk 0 rfl).cell 2;have e3:=(H2.out.blk 0 rfl).cell 3;have e4:=(H2.out.blk 0 rfl).cell 4;have e5:=(H2.out.blk 0 rfl).cell 5;go_wp2;exact yR (aH rfl _ _ w.heap.size 158 #[.int .i64 x.pg,.int .u8 x.op,.string ⟨x.iop.toArray⟩,.slice a x.args.length c,.string ⟨x.ex.toArray⟩,.bool x.al] (0,0) _ rfl (jW (H2.out.blk 1 rfl) _ _ _ _ _ _) Tryz.underlying158 rfl (by kernel_rfl)) rfl (by rw [HAT.out];exact ⟨⟨_,rfl,(HO.out.keep (λj hj=>eH _ _ _ _ _ _ _ _ j (by have hj:w.heap.size+2<=j:=hj;omega))).mono (λj hj=>by have hj:w.heap.size+2<=j:=hj;omega)⟩,bE H2.out.below (zI _) _ _ _ _ _ _⟩)
def zC (r:Option aL × Int):Prop:=(∀x,r.1=some x->r.2=1)/\(r.1=none->r.2=0\/r.2=2\/r.2=3)
theorem rG (x:aL):zC (some x,1):=⟨λ_ _=>rfl,λh=>by cases h⟩
theorem jR {k:Int} (h:k=0\/k=2\/k=3):zC (none,k):=⟨λ_ h=>(by cases h),λ_=>h⟩
theorem iQ (o:Option aL) {k:Int} (h:k=0\/k=2\/k=3):zC (match o with | some x=>(some x,1) | none=>(none,k)):=by
 cases o with
 | none=>exact jR h
 | some x=>exact rG x
theorem uB (p:Int) (op:Nat):zC (atF p op):=by
 unfold atF;by_cases h0:p=0
 ·rw [if_pos h0];exact iQ _ (by decide)
 rw [if_neg h0];by_cases h1:p=1
 ·rw [if_pos h1];exact iQ _ (by decide)
 rw [if_neg h1];by_cases h2:p=2
 ·rw [if_pos h2];exact iQ _ (by decide)
 rw [if_neg h2];by_cases h3:p=3\/p=4
 ·rw [if_pos h3];by_cases hc:op=203
  ·rw [if_pos hc];exact jR (by decide)
  ·rw [if_neg hc];exact iQ _ (by decide)
 rw [if_neg h3];by_cases h5:p=5\/p=6
 ·rw [if_pos h5];cases gV p (aU cbB.data.toList) (op / 8 * 8+6) with
  | none=>exact jR (by decide)
  | some x=>exact rG _
 rw [if_neg h5];exact jR (by decide)
def oG:Rep aL where
 size:=6
 rel:=λw p cs x=>∃v,cs=[.int .i64 x.pg,.int .u8 x.op,.string ⟨x.iop.toArray⟩,v,.string ⟨x.ex.toArray⟩,.bool x.al]/\SlR aM w p v x.args
 len:=λ⟨_,e,_⟩=>by subst e;rfl
 keep:=λhk ⟨v,e,h⟩=>⟨v,e,h.keep hk⟩
 mono:=λhp ⟨v,e,h⟩=>⟨v,e,h.mono hp⟩
 old:=λ⟨v,e,h⟩=>⟨v,e,h.old⟩
 one:=λ⟨v,e,a,cap,hv,_⟩ u hu=>by subst e;subst hv;simp at hu;rcases hu with rfl | rfl | rfl | rfl | rfl | rfl<;>rfl
theorem elET:ElT Tryz.prog 258 158 oG.size 80:=ElT.mk' (z:=.agg #[.int .i64 0,.int .u8 0,.string ⟨#[]⟩,.slice none 0 0,.string ⟨#[]⟩,.bool false]) Tryz.underlying258 (by kernel_rfl) rfl (by decide)
theorem AL {w:World} {q:aB} {v:Value} {x:aL} (h:aD w q v x.args):oG.rel w q [.int .i64 x.pg,.int .u8 x.op,.string ⟨x.iop.toArray⟩,v,.string ⟨x.ex.toArray⟩,.bool x.al] x:=⟨v,rfl,h.slR⟩
def iG (p:Int) (k:Nat):List aL:=(List.range k).filterMap λop=>(atF p op).1
def eJ (p:Int):List aL:=iG p 256
theorem CT {p:Int} {k:Nat} (h:(atF p k).1=none):iG p (k+1)=iG p k:=by unfold iG;rw [List.range_succ,List.filterMap_append];simp [h]
theorem qY {p:Int} {k:Nat} {x:aL} (h:(atF p k).1=some x):iG p (k+1)=iG p k++[x]:=by unfold iG;rw [List.range_succ,List.filterMap_append];simp [h]
theorem wN (p:Int) (k:Nat):(iG p k).length<=k:=by unfold iG;exact qJ (List.length_filterMap_le _ _) (by simp)
theorem WF:∀x:Fin 256,IntKind.u8.wrap (x.val:Int)=x.val:=by decide+kernel
theorem JJ {k:Nat} (h:k < 256):IntKind.u8.wrap (k:Int)=k:=WF ⟨k,h⟩
def JA (t:TypeId) (w:World) (l:List aL) (e:Ending) (w':World):Prop:=∃v,e=.returned v/\Acc oG w' w.heap.size t v l/\Below w.heap.size w w'
set_option maxHeartbeats 4000000
def fJ (l:List Int):List Int:=if l=[] then [0,1,2,3,4,5,6] else l
def upI (k:Nat):List Int:=(List.range k).map λ(j:Nat)=>(j:Int)
theorem UH (k:Nat):upI (k+1)=upI k++[(k:Int)]:=by unfold upI;rw [List.range_succ,z0O];rfl
theorem GN (k:Nat):(upI k).length=k:=by unfold upI;simp
theorem MC (p:aB) (v:Value) (l:List Int) (w:World) (h:SlR oO w p v l):
  Calls Tryz.prog 228 #[v] w λe w'=>∃v' q,e=.returned v'/\SlR oO w' q v' (fJ l)/\Below w.heap.size w w':=by
 by_cases hl:l=[]
 ·subst hl;obtain ⟨a,c,rfl,_,_,_⟩:=h;have HP:Hid (fJ []=upI 7):=rfl;rw [HP.out];go_enter Tryz.func228,Tryz.ntmps228;go_wp2;go_loopw [3,9] (λs3 s9 wx=>∃k:Nat,k<=7/\s9=.int .i64 k/\Own oO wx w.heap.size 3 NoB s3 (upI k)/\Below w.heap.size w wx) (λ_ s9 _=>7 - (intOf s9).toNat);case atStart=>exact ⟨0,by omega,rfl,Own.nil _ _ _ _ _,zY _ _⟩
  case round=>
   obtain ⟨k,hk,rfl,ho,hb⟩:=hrel;have HO:=aA ho;have HB:=aA hb;obtain ⟨a3,c3,rfl⟩:=ho.form;clear ho hb;by_cases hlt:k < 7
   ·have HLB:Hid (((upI k).length+1) * 8<=140737488355328):=(by show _<=_;rw [GN];omega);have HLL:Hid ((upI k).length+1<=9223372036854775807):=(by show _<=_;rw [GN];omega);have HUS:=aA (UH k);generalize upI k=L at *;go_wp2_with (at_builtin;refine cK rfl (.tmp 12) (.tmp 14) 38 rfl w.heap.size 3 8 elInt _ L (k:Int) _ rfl rfl HO.out rfl HLB.out HLL.out HB.out.size ?_;intro a' c' w' hp;have HP:=aA hp;clear hp);go_round;case rel=>exact ⟨k+1,by omega,by go_num,by rw [HUS.out];exact HP.out.1,HB.out.grown HP.out.2 HB.out.size (λj hj=>(HO.out.lt j hj).1)⟩
    case measure=>simp [intOf];omega
   ·obtain rfl:k=7:=(by omega);go_wp2;go_ret;exact ⟨_,λk=>w.heap.size<=k,rfl,HO.out.slR (λ_ h=>h.elim) (λ_ h=>h),HB.out⟩
 ·have HP:Hid (fJ l=l):=if_neg hl;rw [HP.out];have HS:=aA h;obtain ⟨a,c,rfl,_,_,_⟩:=h;have hl0:(0:Int) < l.length:=by have:=z1P.2 hl;omega
  clear hl;go_enter Tryz.func228,Tryz.ntmps228;go_wp2;go_ret;exact ⟨_,p,rfl,HS.out,zY _ _⟩
def lA (p:Int):ByteArray:=if p=0\/p=3\/p=4 then lQ else if p=1\/p=5\/p=6 then cbB else if p=2 then edB else ⟨#[]⟩
def oV (p:Int):List (List UInt8):=aU (lA p).data.toList
def wJ (t:List UInt8):List UInt8:=(Lib.cut (t.drop 9) [32]).1
def rO (op t:List UInt8):Bool:=decide (9<=t.length)&&decide (wJ t=op)
def eT (op:List UInt8) (L:List (List UInt8)):List (List UInt8):=L.filter (rO op)
def jZ (p:Int) (x:Nat):Bool:=match (atF p x).1 with
 | some e=>(match dV x (oV p) with | some t=>decide (9<=t.length)&&(decide (wJ t=e.iop)&&eY t x) | none=>false)
 | none=>true
theorem nok0:∀x:Fin 256,jZ 0 x.val=true:=by decide+kernel
theorem nok1:∀x:Fin 256,jZ 1 x.val=true:=by decide+kernel
theorem nok2:∀x:Fin 256,jZ 2 x.val=true:=by decide+kernel
theorem nok3:∀x:Fin 256,jZ 3 x.val=true:=by decide+kernel
theorem nok4:∀x:Fin 256,jZ 4 x.val=true:=by decide+kernel
theorem nok5:∀x:Fin 256,jZ 5 x.val=true:=by decide+kernel
theorem nok6:∀x:Fin 256,jZ 6 x.val=true:=by decide+kernel
theorem JB {p:Int} (h:¬(0<=p/\p < 7)) (op:Nat):atF p op=(none,0):=by exact tX72
theorem YE (p:Int) (x:Nat) (hx:x < 256):jZ p x=true:=by
 by_cases h:0<=p/\p < 7
 ·have:p=0\/p=1\/p=2\/p=3\/p=4\/p=5\/p=6:=by omega
  rcases this with rfl | rfl | rfl | rfl | rfl | rfl | rfl
  ·exact nok0 ⟨x,hx⟩
  ·exact nok1 ⟨x,hx⟩
  ·exact nok2 ⟨x,hx⟩
  ·exact nok3 ⟨x,hx⟩
  ·exact nok4 ⟨x,hx⟩
  ·exact nok5 ⟨x,hx⟩
  ·exact nok6 ⟨x,hx⟩
 ·unfold jZ;rw [JB h]
theorem wV {op:Nat} {t:List UInt8}:∀{L:List (List UInt8)},dV op L=some t->t∈L
 | [],h=>by cases h
 | x::r,h=>by
  rw [dV] at h;split at h
  ·injection h with h;rw [h];simp
  ·exact z1I _ (wV h)
def WH (op:List UInt8) (p:Int) (x:Nat):Bool:=((eT op (oV p)).any λt=>eY t x)&&((eT op (oV p)).contains ((dV x (oV p)).getD []))
def nO (op:List UInt8) (p:Int) (k:Nat):List aL:=(iG p k).filter λe=>e.iop==op
def oN (op:List UInt8) (p:Int):List aL:=nO op p 256
theorem yZ (op:List UInt8) (p:Int):oN op p=(eJ p).filter λe=>e.iop==op:=rfl
theorem KJ {op:List UInt8} {p:Int} {x:Nat} (hx:x < 256) {e:aL} (he:(atF p x).1=some e):WH op p x=(e.iop==op):=by
 have h:=YE p x hx;unfold jZ at h;rw [he] at h;cases hl:dV x (oV p) with
 | none=>rw [hl] at h;cases h
 | some t=>
  rw [hl] at h;simp only [Bool.and_eq_true,decide_eq_true_eq] at h;obtain ⟨h1,h2,h3⟩:=h;unfold WH;rw [hl,Option.getD_some];have hm:t∈eT op (oV p)↔e.iop=op:=by unfold eT;rw [List.mem_filter];simp only [rO,Bool.and_eq_true,decide_eq_true_eq,h2];exact ⟨λh=>h.2.2,λh=>⟨wV hl,h1,h⟩⟩
  by_cases hop:e.iop=op
  ·have hi:=hm.2 hop;have ha:((eT op (oV p)).any λt=>eY t x)=true:=z0H.2 ⟨t,hi,h3⟩;have hc:(eT op (oV p)).contains t=true:=List.contains_iff_mem.2 hi;rw [ha,hc,hop];simp
  ·have hi:(eT op (oV p)).contains t=false:=by
    cases hc:(eT op (oV p)).contains t
    ·rfl
    ·exact absurd (hm.1 (List.contains_iff_mem.1 hc)) hop
   rw [hi,Bool.and_false];exact (yW.2 hop).symm
theorem GQ {op:List UInt8} {p:Int} {k:Nat} (h:(atF p k).1=none):nO op p (k+1)=nO op p k:=by unfold nO;rw [CT h]
theorem UW {op:List UInt8} {p:Int} {k:Nat} (hk:k < 256) (h:WH op p k=false):nO op p (k+1)=nO op p k:=by
 cases hx:(atF p k).1 with
 | none=>exact GQ hx
 | some e=>have:=KJ (op:=op) hk hx;rw [h] at this;unfold nO;rw [qY hx,z1T];simp [<-this]
theorem namK_in {op:List UInt8} {p:Int} {k:Nat} (hk:k < 256) (h:WH op p k=true) {e:aL} (he:(atF p k).1=some e):nO op p (k+1)=nO op p k++[e]:=by have:=KJ (op:=op) hk he;rw [h] at this;unfold nO;rw [qY he,z1T];simp [<-this]
theorem CA (op:List UInt8) (p:Int) (k:Nat):(nO op p k).length<=k:=qJ (List.length_filter_le _ _) (wN p k)
def Dof (ex:List UInt8) (l:List Opd):Option Nat:=if (cO ex 100&&decide (0<=bU [5] l l.length))=true then some (bU [5] l l.length).toNat else none
def Jof (ex:List UInt8) (l:List Opd):Option Nat:=if (cX ex l).2.2.2=true then some (cX ex l).1.toNat else none
def lL (ex:List UInt8):Int:=if cO ex 101=true then 101 else if cO ex 110=true then 110 else 119
def loF (ex:List UInt8):Int:=if cO ex 101=true then -128 else 0
def hiF (ex:List UInt8):Int:=if cO ex 101=true then 127 else if cO ex 110=true then 255 else 65535
def UZ (ex:List UInt8) (l:List Opd):Bool:=
 (match Dof ex l with | some i=>(nAt l i==0)&&(decide (Jof ex l≠some i)&&(kAt l i==5)) | none=>true)&&((match Jof ex l with | some j=>(nAt l j==0)&&((kAt l j != 6) || decide (0<=loF ex)) | none=>true)&&
  ((List.range l.length).all λk=>eQ l ex k==if Dof ex l=some k then 100 else if Jof ex l=some k then lL ex else 0))
theorem LF {ex:List UInt8} {l:List Opd} (h:(cX ex l).2.2.2=true):cX ex l=((cX ex l).1,loF ex,hiF ex,true):=by
 unfold cX loF hiF at *;split at h
 ·rename_i h1;simp only [h1,if_true] at *;rw [h]
 ·rename_i h1;split at h
  ·rename_i h2;simp only [h1,h2,if_true] at *;rw [h];simp
  ·rename_i h2;split at h
   ·rename_i h3;simp only [h1,h2,h3,if_true] at *;rw [h];simp
   ·cases h
theorem var_of {ex:List UInt8} {l:List Opd} (h:UZ ex l=true):uE ex l (Dof ex l) (Jof ex l) (lL ex) (loF ex) (hiF ex):=by
 unfold UZ at h;obtain ⟨h1,h⟩:=xS.1 h;obtain ⟨h2,h3⟩:=xS.1 h;have hD:∀i,Dof ex l=some i->(cO ex 100&&decide (0<=bU [5] l l.length))=true/\bU [5] l l.length=i:=λi hi=>by
  unfold Dof at hi;split at hi
  ·rename_i hc;injection hi with hi;refine ⟨hc,?_⟩;have:=jU (xS.1 hc).2;omega
  ·cases hi
 have hJ:∀j,Jof ex l=some j->(cX ex l).2.2.2=true/\(cX ex l).1=j:=λj hj=>by
  unfold Jof at hj;split at hj
  ·rename_i hc;injection hj with hj;refine ⟨hc,?_⟩;have:=(sE hc).1;omega
  ·cases hj
 refine ⟨λi hi=>?_,λhi=>?_,λj hj=>?_,λhj=>?_,λi hi=>?_,λn=>?_,?_,λk hk=>?_⟩
 ·obtain ⟨a,b⟩:=hD i hi;rw [hi] at h1;refine ⟨a,b,?_,eq_of_beq (xS.1 h1).1⟩;have:=kK [5] l l.length;omega
 ·unfold Dof at hi;split at hi
  ·cases hi
  ·rename_i hc;simpa using hc
 ·obtain ⟨a,b⟩:=hJ j hj;rw [hj] at h2;refine ⟨by rw [LF a,b],?_,eq_of_beq (xS.1 h2).1⟩;have:=(sE a).2;omega
 ·unfold Jof at hj;split at hj
  ·cases hj
  ·rename_i hc;simpa using hc
 ·rw [hi] at h1;exact jU (xS.1 (xS.1 h1).2).1
 ·unfold cE bG lL loF hiF;cases e1:cO ex 101
  ·cases e2:cO ex 110
   ·simp
   ·simp
  ·simp
 ·unfold lL;split
  ·exact Or.inl rfl
  ·split
   ·exact Or.inr (Or.inl rfl)
   ·exact Or.inr (Or.inr rfl)
 ·exact eq_of_beq (z1A.1 h3 k (z1D.2 hk))
def EG (s:ByteArray) (l:List Opd):Bool:=!(inL iM s&&((l.length==2)&&decide ((l.map kr)[0]?=some (1,7))))&&(!(inL iS s&&(l.length==1))&&(!((s.toList==[69,88])&&decide (l.map kr=[(3,2),(3,1)]))&&l.all λo=>(o.kind != 6) || decide (0<=o.n)))
def vAt (o:Opd) (lo hi:Int):Bool:=aC ⟨o.kind,o.reg,lo⟩&&aC ⟨o.kind,o.reg,hi⟩
def XS (s:ByteArray) (ex:List UInt8) (l:List Opd):Bool:=inL gR s&&(decide (l.length<=3)&&((List.range l.length).all λk=>if Dof ex l=some k then vAt (oAt l k) (-128) 127 else if Jof ex l=some k then vAt (oAt l k) (loF ex) (hiF ex) else aC (oAt l k)))
def ZT (x:aL):Bool:=UZ x.ex x.args&&(decide (x.iop.map up=x.iop)&&(decide (x.iop≠[])&&(EG ⟨x.iop.toArray⟩ x.args&&XS ⟨x.iop.toArray⟩ x.ex x.args)))
def vG (p:Int) (x:Nat):Bool:=match (atF p x).1 with | some e=>ZT e | none=>true
theorem cko0:∀x:Fin 256,vG 0 x.val=true:=by decide+kernel
theorem cko1:∀x:Fin 256,vG 1 x.val=true:=by decide+kernel
theorem cko2:∀x:Fin 256,vG 2 x.val=true:=by decide+kernel
theorem cko3:∀x:Fin 256,vG 3 x.val=true:=by decide+kernel
theorem cko4:∀x:Fin 256,vG 4 x.val=true:=by decide+kernel
theorem cko5:∀x:Fin 256,vG 5 x.val=true:=by decide+kernel
theorem cko6:∀x:Fin 256,vG 6 x.val=true:=by decide+kernel
theorem chk_all {p:Int} {x:Nat} (hx:x < 256) {e:aL} (he:(atF p x).1=some e):ZT e=true:=by
 have key:vG p x=true:=by
  by_cases h:0<=p/\p < 7
  ·have:p=0\/p=1\/p=2\/p=3\/p=4\/p=5\/p=6:=(by omega);rcases this with rfl | rfl | rfl | rfl | rfl | rfl | rfl
   ·exact cko0 ⟨x,hx⟩
   ·exact cko1 ⟨x,hx⟩
   ·exact cko2 ⟨x,hx⟩
   ·exact cko3 ⟨x,hx⟩
   ·exact cko4 ⟨x,hx⟩
   ·exact cko5 ⟨x,hx⟩
   ·exact cko6 ⟨x,hx⟩
  ·unfold vG;rw [JB h]
 unfold vG at key;rw [he] at key;exact key
structure fA (x:aL):Prop where
 var:uE x.ex x.args (Dof x.ex x.args) (Jof x.ex x.args) (lL x.ex) (loF x.ex) (hiF x.ex)
 up:dG ⟨x.iop.toArray⟩=⟨x.iop.toArray⟩
 ne:(⟨x.iop.toArray⟩:ByteArray)≠⟨#[]⟩
 v:UZ x.ex x.args=true
 c:EG ⟨x.iop.toArray⟩ x.args=true
 l:XS ⟨x.iop.toArray⟩ x.ex x.args=true
theorem ent_ok {x:aL} (h:ZT x=true):fA x:=by
 unfold ZT at h;obtain ⟨h1,h⟩:=xS.1 h;obtain ⟨h2,h⟩:=xS.1 h;obtain ⟨h3,h⟩:=xS.1 h;obtain ⟨h4,h5⟩:=xS.1 h;refine ⟨var_of h1,?_,?_,h1,h4,h5⟩
 ·have e:=jU h2;unfold dG;simp only;rw [e]
 ·intro e;refine jU h3 ?_;have:=congrArg (λs:ByteArray=>s.data.toList) e;simpa using this
theorem mG {p:Int} {x:Nat} (hx:x < 256) {e:aL} (he:(atF p x).1=some e):fA e:=ent_ok (chk_all hx he)
structure yC (x:aL) (d n:Int) (c:List Opd):Prop where
 k:c.map kr=x.args.map kr
 okd:okN (Dof x.ex x.args) (-128) 127 d=true
 okn:okN (Jof x.ex x.args) (loF x.ex) (hiF x.ex) n=true
 el:∀k (hk:k < x.args.length),c[k]?=some (if Dof x.ex x.args=some k then {x.args[k] with n:=d} else if Jof x.ex x.args=some k then {x.args[k] with n:=n} else x.args[k])
theorem yC.len {x:aL} {d n:Int} {c:List Opd} (h:yC x d n c):c.length=x.args.length:=by have:=congrArg List.length h.k;simpa using this
end Go.Proofs.YtpigbggoiipmhaaGreatDoor
