/-
  The plain law of encodings; EncodeApart. Conditions: the library's table as its initialiser lays it.
-/
import Derived.Test.YtaolnefplefjnaaGreatDoorPS
import Derived.Deep.RegionHeld3
import Derived.Lib.QuietBelow
namespace Go.Proofs.YtaolnefplefjnaaGreatDoor
set_option maxHeartbeats 16000000
set_option maxRecDepth 100000
open Go.RowKit Go.Shelf Go.Sort
def exB (e:EntV):Bool:=
 let D:=(Dof e.ex e.args).isSome;let J:=(Jof e.ex e.args).isSome
 (e.ex==[]&&(!D&&!J)) || ((e.ex==[100]&&(D&&!J)) || ((e.ex==[101]&&(!D&&J)) || ((e.ex==[110]&&(!D&&J)) || ((e.ex==[119]&&(!D&&J)) || (e.ex==[100,110]&&(D&&J))))))
def chkN (p:Int) (x:Nat):Bool:=match (atF p x).1 with
 | some e=>exB e&&(decide (p=0→x≠203∧x≠237∧x≠221∧x≠253)&&decide ((p=3∨p=4)→x≠203))
 | none=>true
theorem ckn:∀p:Fin 7,∀x:Fin 256,chkN p.val x.val=true:=by decide+kernel
structure EntN (p x:Nat) (e:EntV):Prop where
 ex:exB e=true
 p0:p=0→x≠203∧x≠237∧x≠221∧x≠253
 p3:(p=3∨p=4)→x≠203
theorem entN_at {p x:Nat} (hp:p < 7) (hx:x < 256) {e:EntV} (he:(atF p x).1=some e):EntN p x e:=by
 have h:=ckn ⟨p,hp⟩ ⟨x,hx⟩
 unfold chkN at h
 dsimp only at h
 rw [he] at h
 obtain ⟨h1,h⟩:=Bool.and_eq_true_iff.1 h
 obtain ⟨h2,h3⟩:=Bool.and_eq_true_iff.1 h
 exact ⟨h1,fun e=>of_decide_eq_true h2 (by omega),fun e=>of_decide_eq_true h3 (by omega)⟩
theorem lowB_inj {a b:Int} (h:lowB a=lowB b):a % 256=b % 256:=by
 have:=lowB_is a
 rw [h,lowB_is b] at this
 omega
theorem okN_some {D:Option Nat} {lo hi n:Int} (hD:D.isSome=true) (h:okN D lo hi n=true):lo≤n∧n≤hi:=by
 cases D with
 | none=>cases hD
 | some i=>have h:fitsB lo hi n=true:=h;rw [fitsB_iff] at h;exact of_decide_eq_true h
theorem okN_none {D:Option Nat} {lo hi n:Int} (hD:D.isSome=false) (h:okN D lo hi n=true):n=0:=by
 cases D with
 | none=>exact eq_of_beq h
 | some i=>cases hD
theorem num_eq {e:EntV} (hN:exB e=true) {d n d' n':Int} {c c':List Opd} (h1:FilS e d n c) (h2:FilS e d' n' c') (h:e.ex.flatMap (letB d n)=e.ex.flatMap (letB d' n')):d=d'∧n=n':=by
 have a1:=h1.okd
 have a2:=h1.okn
 have b1:=h2.okd
 have b2:=h2.okn
 unfold exB at hN
 generalize hD:(Dof e.ex e.args)=D at *
 generalize hJ:(Jof e.ex e.args)=J at *
 dsimp only at hN
 have fin:∀l:List UInt8,e.ex=l→∀bD bJ:Bool,D.isSome=bD→J.isSome=bJ→(bD=true→lowB d=lowB d')→(bJ=true→(hasF l 101=true→lowB n=lowB n')∧(hasF l 101=false→hasF l 110=true→lowB n=lowB n')∧(hasF l 101=false→hasF l 110=false→lowB n=lowB n'∧lowB (n / 256)=lowB (n' / 256)))→d=d'∧n=n':=by
  intro l hl bD bJ e1 e2 g1 g2
  refine ⟨?_,?_⟩
  ·cases bD
   ·rw [okN_none e1 a1,okN_none e1 b1]
   ·have:=okN_some e1 a1;have:=okN_some e1 b1;have:=lowB_inj (g1 rfl);omega
  ·cases bJ
   ·rw [okN_none e2 a2,okN_none e2 b2]
   ·have x1:=okN_some e2 a2
    have x2:=okN_some e2 b2
    obtain ⟨y1,y2,y3⟩:=g2 rfl
    rw [hl] at x1 x2
    unfold loF hiF at x1 x2
    cases h101:hasF l 101
    ·rw [h101,if_neg Bool.false_ne_true,if_neg Bool.false_ne_true] at x1 x2
     cases h110:hasF l 110
     ·rw [h110,if_neg Bool.false_ne_true] at x1 x2
      obtain ⟨z1,z2⟩:=y3 h101 h110
      have:=lowB_inj z1;have:=lowB_inj z2;omega
     ·rw [h110,if_pos rfl] at x1 x2
      have:=lowB_inj (y2 h101 h110);omega
    ·rw [h101,if_pos rfl,if_pos rfl] at x1 x2
     have:=lowB_inj (y1 h101);omega
 have two:∀a b:Bool,∀l:List UInt8,(e.ex==l&&(a&&b))=true→e.ex=l∧a=true∧b=true:=fun a b l h=>by
  obtain ⟨h1,h2⟩:=Bool.and_eq_true_iff.1 h
  obtain ⟨h3,h4⟩:=Bool.and_eq_true_iff.1 h2
  exact ⟨eq_of_beq h1,h3,h4⟩
 have no:∀{b:Bool},(!b)=true→b=false:=fun {b} h=>by cases b;rfl;cases h
 rcases Bool.or_eq_true_iff.1 hN with g | hN
 ·obtain ⟨e1,e2,e3⟩:=two _ _ _ g
  exact fin [] e1 false false (no e2) (no e3) (fun h=>by cases h) (fun h=>by cases h)
 rcases Bool.or_eq_true_iff.1 hN with g | hN
 ·obtain ⟨e1,e2,e3⟩:=two _ _ _ g
  rw [e1] at h
  exact fin [100] e1 true false e2 (no e3) (fun _=>by injection h) (fun h=>by cases h)
 rcases Bool.or_eq_true_iff.1 hN with g | hN
 ·obtain ⟨e1,e2,e3⟩:=two _ _ _ g
  rw [e1] at h
  have h9:lowB n=lowB n':=by injection h
  exact fin [101] e1 false true (no e2) e3 (fun h=>by cases h) (fun _=>⟨fun _=>h9,fun g _=>absurd g (by decide),fun g _=>absurd g (by decide)⟩)
 rcases Bool.or_eq_true_iff.1 hN with g | hN
 ·obtain ⟨e1,e2,e3⟩:=two _ _ _ g
  rw [e1] at h
  have h9:lowB n=lowB n':=by injection h
  exact fin [110] e1 false true (no e2) e3 (fun h=>by cases h) (fun _=>⟨fun _=>h9,fun _ _=>h9,fun _ g=>absurd g (by decide)⟩)
 rcases Bool.or_eq_true_iff.1 hN with g | g
 ·obtain ⟨e1,e2,e3⟩:=two _ _ _ g
  rw [e1] at h
  have h9:[lowB n,lowB (n / 256)]=[lowB n',lowB (n' / 256)]:=h
  injection h9 with h8 h9
  injection h9 with h9 _
  exact fin [119] e1 false true (no e2) e3 (fun h=>by cases h) (fun _=>⟨fun _=>h8,fun _ _=>h8,fun _ _=>⟨h8,h9⟩⟩)
 ·obtain ⟨e1,e2,e3⟩:=two _ _ _ g
  rw [e1] at h
  have h9:[lowB d,lowB n]=[lowB d',lowB n']:=h
  injection h9 with h8 h9
  injection h9 with h9 _
  exact fin [100,110] e1 true true e2 e3 (fun _=>h8) (fun _=>⟨fun _=>h9,fun _ _=>h9,fun _ g=>absurd g (by decide)⟩)
end Go.Proofs.YtaolnefplefjnaaGreatDoor
namespace Go.Proofs.YtaolnefplefjnaaGreatDoor
set_option maxHeartbeats 16000000
set_option maxRecDepth 100000
open Go.RowKit Go.Shelf Go.Sort
def PW (A B:List UInt8):Prop:=∀(i:Nat) (a b:UInt8),A[i]?=some a→B[i]?=some b→a=b
theorem PW.eq {A B:List UInt8} (h:PW A B) (hl:A.length=B.length):A=B:=
 List.ext_getElem hl fun i h1 h2=>h i _ _ (List.getElem?_eq_getElem h1) (List.getElem?_eq_getElem h2)
theorem PW.take {A B:List UInt8} (h:A.take (min A.length B.length)=B.take (min A.length B.length)):PW A B:=fun i a b ha hb=>by
 have h1:=(List.getElem?_eq_some_iff.1 ha).1
 have h2:=(List.getElem?_eq_some_iff.1 hb).1
 have e:=congrArg (fun l:List UInt8=>l[i]?) h
 rw [List.getElem?_take,List.getElem?_take,if_pos (by omega),if_pos (by omega),ha,hb] at e
 exact Option.some.inj e
def pgT (a0:UInt8) (o:Option UInt8):Nat:=
 if a0=203 then 1 else if a0=237 then 2 else if a0=221 then (if o=some 203 then 5 else 3) else if a0=253 then (if o=some 203 then 6 else 4) else 0
theorem u8_ne {k m:Nat} (hk:k < 256) (hm:m < 256) (h:k≠m):UInt8.ofNat k≠UInt8.ofNat m:=fun e=>h (by
 have:=congrArg UInt8.toNat e
 rwa [UInt8.toNat_ofNat',UInt8.toNat_ofNat',Nat.mod_eq_of_lt hk,Nat.mod_eq_of_lt hm] at this)
theorem u8_nn {k:Nat} (hk:k < 256) (m:UInt8) (h:k≠m.toNat):¬UInt8.ofNat k=m:=fun e=>h (by
 have:=congrArg UInt8.toNat e
 rwa [UInt8.toNat_ofNat',Nat.mod_eq_of_lt hk] at this)
theorem enc_tag {p k:Nat} {e:EntV} (hp:p < 7) (hk:k < 256) (hN:EntN p k e) (h1:e.pg=p) (h2:e.op=k) (d n:Int):
  ∃a0 R,encF e d n=a0::R∧pgT a0 R.head?=p∧((a0=221∨a0=253)→R≠[])∧(encF e d n)[if p < 5 then (prefF p).length else 3]?=some (UInt8.ofNat k):=by
 have hc:p=0∨p=1∨p=2∨p=3∨p=4∨p=5∨p=6:=by omega
 unfold encF
 rw [h1,h2]
 rcases hc with rfl | rfl | rfl | rfl | rfl | rfl | rfl
 ·obtain ⟨a,b,c,f⟩:=hN.p0 rfl
  rw [if_neg (by decide)]
  refine ⟨UInt8.ofNat k,_,rfl,?_,fun h=>?_,rfl⟩
  ·unfold pgT
   rw [if_neg (u8_nn hk 203 a),if_neg (u8_nn hk 237 b),if_neg (u8_nn hk 221 c),if_neg (u8_nn hk 253 f)]
  ·rcases h with h | h
   ·exact absurd h (u8_nn hk 221 c)
   ·exact absurd h (u8_nn hk 253 f)
 ·rw [if_neg (by decide)]
  exact ⟨203,_,rfl,rfl,fun h=>absurd h (by decide),rfl⟩
 ·rw [if_neg (by decide)]
  exact ⟨237,_,rfl,rfl,fun h=>absurd h (by decide),rfl⟩
 ·rw [if_neg (by decide)]
  refine ⟨221,_,rfl,?_,fun _ h=>(by cases h),rfl⟩
  show pgT 221 (some (UInt8.ofNat k))=3
  unfold pgT
  rw [if_neg (by decide),if_neg (by decide),if_pos rfl,if_neg (fun h=>u8_nn hk 203 (hN.p3 (.inl rfl)) (Option.some.inj h))]
 ·rw [if_neg (by decide)]
  refine ⟨253,_,rfl,?_,fun _ h=>(by cases h),rfl⟩
  show pgT 253 (some (UInt8.ofNat k))=4
  unfold pgT
  rw [if_neg (by decide),if_neg (by decide),if_neg (by decide),if_pos rfl,if_neg (fun h=>u8_nn hk 203 (hN.p3 (.inr rfl)) (Option.some.inj h))]
 ·rw [if_pos (by decide)]
  exact ⟨221,_,rfl,rfl,fun _ h=>(by cases h),rfl⟩
 ·rw [if_pos (by decide)]
  exact ⟨253,_,rfl,rfl,fun _ h=>(by cases h),rfl⟩
structure Fnd11 (x:Ins) (e:EntV) (p k:Nat):Prop where
 hp:p < 7
 hk:k < 256
 at':(atF p k).1=some e
 W:EntW e
 N:EntN p k e
 pg:e.pg=p
 op:e.op=k
 ok:EntOk e
 iop:x.op=⟨e.iop.toArray⟩
 fil:FilS e (numD e (canonOf x).args) (numN e (canonOf x).args) (canonOf x).args
 again:findR (canonOf x)=(some e,0)
theorem fnd11 {x:Ins} {e:EntV} {j:Int} (h:findR x=(some e,j)):∃p k,Fnd11 x e p k:=by
 obtain ⟨p,k,hk,he⟩:=cand_mem (findR_mem h).1
 obtain ⟨q,hq,rfl⟩:=page_of he
 obtain ⟨hW,hpg,hop⟩:=entW_at hq hk he
 obtain ⟨hok,_,hio,_,hag,d,n,h1,h2⟩:=back_plain h
 have hfc:fitsC ⟨e.iop.toArray⟩ x.op e.ex e.args (canonOf x).args=true:=by rw [←fits_ok hok,h1]
 exact ⟨q,k,hq,hk,he,hW,entN_at hq hk he,hpg,hop,hok,hio,((fits_fill hok).1 hfc).2,hag⟩
theorem enc_apart {x y:Ins} {e f:EntV} {j j':Int} (hx:findR x=(some e,j)) (hy:findR y=(some f,j')) (h:PW (encF e (numD e (canonOf x).args) (numN e (canonOf x).args)) (encF f (numD f (canonOf y).args) (numN f (canonOf y).args))):canonOf x=canonOf y:=by
 obtain ⟨p,k,X⟩:=fnd11 hx
 obtain ⟨p',k',Y⟩:=fnd11 hy
 obtain ⟨a0,R,ha,hta,hna,hoa⟩:=enc_tag X.hp X.hk X.N X.pg X.op (numD e (canonOf x).args) (numN e (canonOf x).args)
 obtain ⟨b0,S,hb,htb,hnb,hob⟩:=enc_tag Y.hp Y.hk Y.N Y.pg Y.op (numD f (canonOf y).args) (numN f (canonOf y).args)
 have h0:a0=b0:=h 0 a0 b0 (by rw [ha];rfl) (by rw [hb];rfl)
 have hpp:p=p':=by
  rw [←hta,←htb,←h0]
  by_cases hc:a0=221∨a0=253
  ·have h1:R.head?=S.head?:=by
    cases R with
    | nil=>exact absurd rfl (hna hc)
    | cons r R=>
     cases S with
     | nil=>exact absurd rfl (hnb (h0 ▸ hc))
     | cons s S=>exact congrArg some (h 1 r s (by rw [ha];rfl) (by rw [hb];rfl))
   rw [h1]
  ·unfold pgT
   rw [if_neg (fun e=>hc (.inl e)),if_neg (fun e=>hc (.inr e)),if_neg (fun e=>hc (.inl e)),if_neg (fun e=>hc (.inr e))]
 subst hpp
 have hkk:k=k':=by
  have:=congrArg UInt8.toNat (h _ _ _ hoa hob)
  rwa [UInt8.toNat_ofNat',UInt8.toNat_ofNat',Nat.mod_eq_of_lt X.hk,Nat.mod_eq_of_lt Y.hk] at this
 subst hkk
 have hef:e=f:=Option.some.inj (X.at'.symm.trans Y.at')
 subst hef
 have hlen:(encF e (numD e (canonOf x).args) (numN e (canonOf x).args)).length=(encF e (numD e (canonOf y).args) (numN e (canonOf y).args)).length:=by
  have h1:=enc_len e X.W (numD e (canonOf x).args) (numN e (canonOf x).args)
  have h2:=enc_len e X.W (numD e (canonOf y).args) (numN e (canonOf y).args)
  omega
 have hE:=h.eq hlen
 have hnum:numD e (canonOf x).args=numD e (canonOf y).args∧numN e (canonOf x).args=numN e (canonOf y).args:=by
  refine num_eq X.N.ex X.fil Y.fil ?_
  unfold encF at hE
  by_cases h5:5≤e.pg
  ·rw [if_pos h5,if_pos h5] at hE
   have h1:=List.append_cancel_right hE
   have h2:=List.append_cancel_left h1
   rw [X.W.hi h5]
   exact h2
  ·rw [if_neg h5,if_neg h5] at hE
   exact List.append_cancel_left hE
 have hargs:(canonOf x).args=(canonOf y).args:=by
  have h1:=(fill_some X.ok).2 X.fil
  have h2:=(fill_some X.ok).2 Y.fil
  rw [hnum.1,hnum.2,h2] at h1
  exact (Option.some.inj h1).symm
 show (⟨x.op,(canonOf x).args⟩:Ins)=⟨y.op,(canonOf y).args⟩
 rw [hargs,X.iop,Y.iop]
theorem enc_alike {x y:Ins} {e f:EntV} {j j':Int} (hx:findR x=(some e,j)) (hy:findR y=(some f,j')) (h:canonOf x=canonOf y):encF e (numD e (canonOf x).args) (numN e (canonOf x).args)=encF f (numD f (canonOf y).args) (numN f (canonOf y).args):=by
 obtain ⟨p,k,X⟩:=fnd11 hx
 obtain ⟨p',k',Y⟩:=fnd11 hy
 have h1:=X.again
 rw [h,Y.again] at h1
 injection h1 with h1 _
 injection h1 with h1
 rw [h1,h]
theorem enc_law {x y:Ins} {A B:List UInt8} {j j':Int} (hx:encR x=(some A,j)) (hy:encR y=(some B,j')):decide (A=B)=insEq (canonOf x) (canonOf y)∧decide (A.take (min A.length B.length)=B.take (min A.length B.length))=insEq (canonOf x) (canonOf y):=by
 unfold encR at hx hy
 have hie:(canonOf x).op=(canonOf y).op∧(canonOf x).args=(canonOf y).args↔canonOf x=canonOf y:=by
  generalize canonOf x=a
  generalize canonOf y=b
  obtain ⟨a1,a2⟩:=a
  obtain ⟨b1,b2⟩:=b
  simp
 cases h1:findR x with
 | mk o k=>
 cases h2:findR y with
 | mk o' k'=>
 rw [h1] at hx
 rw [h2] at hy
 cases o with
 | none=>cases hx
 | some e=>
  cases o' with
  | none=>cases hy
  | some f=>
   dsimp only at hx hy
   injection hx with hx _
   injection hx with hx
   injection hy with hy _
   injection hy with hy
   unfold insEq
   rw [decide_eq_decide,decide_eq_decide,hie,←hx,←hy]
   refine ⟨⟨fun h=>enc_apart h1 h2 (fun i a b ha hb=>by rw [h] at ha;exact Option.some.inj (ha.symm.trans hb)),fun h=>enc_alike h1 h2 h⟩,⟨fun h=>enc_apart h1 h2 (PW.take h),fun h=>by rw [enc_alike h1 h2 h]⟩⟩
end Go.Proofs.YtaolnefplefjnaaGreatDoor
namespace Go.Proofs.YtaolnefplefjnaaGreatDoor
set_option maxHeartbeats 16000000
set_option maxRecDepth 100000
open Go.RowKit Go.Shelf Go.Sort
theorem CEqual_any (x y:Ins) (p q:Blocks) (v u:Value) (w:World) (h:SlR opdR w p v x.args) (g:SlR opdR w q u y.args) (hT:Spc w) (mx:Mild x) (my:Mild y):
  Calls Tryz.prog 32 #[.agg #[.string x.op,v],.agg #[.string y.op,u]] w fun e w'=>e=.returned (.bool (insEq (canonOf x) (canonOf y)))∧Below w.heap.size w w':=by
 have HOX:=Lib.hid (fun W (hb:RowKit.Below w.heap.size w W)=>Of_any p x v W (h.below hb) (hT.below hb) (by have:=mx.n;omega) mx.f)
 have HOY:=Lib.hid (fun W (hb:RowKit.Below w.heap.size w W)=>Of_any q y u W (g.below hb) (hT.below hb) (by have:=my.n;omega) my.f)
 have HSM:=Lib.hid (fun p q v1 v2 W h1 h2=>insSame_any p q (canonOf x) (canonOf y) v1 v2 W h1 h2)
 obtain ⟨xa,xc,rfl⟩:∃a c,v=.slice a x.args.length c:=by obtain ⟨a,c,e,_⟩:=h;exact ⟨a,c,e⟩
 obtain ⟨ya,yc,rfl⟩:∃a c,u=.slice a y.args.length c:=by obtain ⟨a,c,e,_⟩:=g;exact ⟨a,c,e⟩
 have HC:=Lib.hid (((Fr.start w).new 24 #[.string x.op,.slice xa x.args.length xc]).new' 24 #[.string y.op,.slice ya y.args.length yc] (World.size_alloc _ _))
 clear h g hT mx my
 generalize insEq (canonOf x) (canonOf y)=R at *
 rw [show (canonOf x).op=x.op from rfl,show (canonOf y).op=y.op from rfl] at HSM
 generalize (canonOf x).args=cx at *
 generalize (canonOf y).args=cy at *
 obtain ⟨s,l⟩:=x
 obtain ⟨t,m⟩:=y
 dsimp only at *
 obtain ⟨W0,hW0⟩:∃W:World,W=(w.alloc (.cells #[.string s,.slice xa l.length xc] 24)).alloc (.cells #[.string t,.slice ya m.length yc] 24):=⟨_,rfl⟩
 rw [←hW0] at HC
 go_enter Tryz.func32,Tryz.ntmps32
 go_upto_region 1 with fail
 rw [←hW0]
 clear hW0
 obtain ⟨e0,e1⟩:=(HC.out.blk 1 rfl).pair
 obtain ⟨c0,c1⟩:=(HC.out.blk 0 rfl).pair
 have Hn:=Lib.hid HC.out.drew
 clear HC
 have HC:=Hn
 clear Hn
 go_region_held3 (fun w'=>w'.cell? ⟨w.heap.size,0,none⟩=some (.string s)∧w'.cell? ⟨w.heap.size,1,none⟩=some (.slice xa l.length xc)∧w'.cell? ⟨w.heap.size+1,0,none⟩=some (.string t)∧w'.cell? ⟨w.heap.size+1,1,none⟩=some (.slice ya m.length yc)) (go_keep)
  (first
   | (go_at_call 56;with_reducible refine (HOX.out _ HC.out.below).mono ?_;rintro e w1 ⟨u1,rfl,ho1,hb1⟩;obtain ⟨x1a,x1c,rfl⟩:=ho1.form;have SX:=Lib.hid ho1.slR;have Hn:=Lib.hid (HC.out.next hb1);(try have Sn:=Lib.hid (SY.out.below hb1));(try clear SY);(try have SY:=Sn);(try clear Sn);clear HC ho1 hb1 e0 e1 c0 c1;have HC:=Hn;clear Hn;obtain ⟨e0,e1⟩:=(HC.out.blk 1 rfl).pair;obtain ⟨c0,c1⟩:=(HC.out.blk 0 rfl).pair)
   | (go_at_call 56;with_reducible refine (HOY.out _ HC.out.below).mono ?_;rintro e w1 ⟨u1,rfl,ho1,hb1⟩;obtain ⟨y1a,y1c,rfl⟩:=ho1.form;have SY:=Lib.hid ho1.slR;have Hn:=Lib.hid (HC.out.next hb1);(try have Sn:=Lib.hid (SX.out.below hb1));(try clear SX);(try have SX:=Sn);(try clear Sn);clear HC ho1 hb1 e0 e1 c0 c1;have HC:=Hn;clear Hn;obtain ⟨e0,e1⟩:=(HC.out.blk 1 rfl).pair;obtain ⟨c0,c1⟩:=(HC.out.blk 0 rfl).pair)
   | (go_at_call 30;refine (HSM.out _ _ _ _ _ SX.out SY.out).mono ?_;rintro e w3 ⟨rfl,hb3⟩;have Hn:=Lib.hid (HC.out.next hb3);clear HC hb3 e0 e1 c0 c1;have HC:=Hn;clear Hn;obtain ⟨e0,e1⟩:=(HC.out.blk 1 rfl).pair;obtain ⟨c0,c1⟩:=(HC.out.blk 0 rfl).pair))
 all_goals go_wp2
 all_goals
  go_ret
  exact ⟨rfl,HC.out.below⟩
end Go.Proofs.YtaolnefplefjnaaGreatDoor
namespace Go.Proofs.YtaolnefplefjnaaGreatDoor
set_option maxHeartbeats 16000000
set_option maxRecDepth 100000
open Go.RowKit Go.Shelf Go.Sort
theorem short11_any (p:Blocks) (x:Ins) (v:Value) (w:World) (h:SlR opdR w p v x.args):
  Calls Tryz.prog 27 #[.agg #[.string x.op,v]] w fun e w'=>e=.returned (.bool (short8 x))∧Below w.heap.size w w':=by
 obtain ⟨s,l⟩:=x
 dsimp only at *
 obtain ⟨a,c,rfl,_⟩:=h.opd
 clear h
 have HB:Hid (Below w.heap.size w (w.alloc (.cells #[.string s,.slice a l.length c] 24))):=(Below.refl _ _).alloc (Nat.le_refl _) _
 have HL0:Hid (decide ((s.size:Int)≤100)=false→short8 ⟨s,l⟩=false):=fun h1=>by
  have h1:=of_decide_eq_false h1;simp [short8];omega
 have HL1:Hid (∀b,decide ((s.size:Int)≤100)=true→decide ((l.length:Int)≤20)=b→short8 ⟨s,l⟩=b):=fun b h1 h2=>by
  subst h2;have h1:=of_decide_eq_true h1;simp [short8];rw [decide_eq_true (show s.size≤100 by omega)];simp;omega
 cases h1:decide ((s.size:Int)≤100)
 ·go_enter Tryz.func27,Tryz.ntmps27
  go_wp2
  go_ret
  exact ⟨ret_bool (HL0.out h1).symm,HB.out⟩
 ·cases h2:decide ((l.length:Int)≤20)
  all_goals
   go_enter Tryz.func27,Tryz.ntmps27
   go_wp2
   go_ret
   exact ⟨ret_bool (HL1.out _ h1 h2).symm,HB.out⟩
theorem encR_none {x:Ins} {k:Int} (h:encR x=(none,k)):¬k=0:=by
 unfold encR at h
 cases hR:findR x with
 | mk o j=>
 rw [hR] at h
 cases o with
 | none=>injection h with _ h;subst h;exact findR_none hR
 | some e=>cases h
theorem encR_some {x:Ins} {A:List UInt8} {k:Int} (h:encR x=(some A,k)):k=0:=by
 unfold encR at h
 cases hR:findR x with
 | mk o j=>
 rw [hR] at h
 cases o with
 | none=>cases h
 | some e=>injection h with _ h;rw [←h];exact (back_plain hR).2.1
theorem eqB_below {w:World} {f:FuncId} {args:Array Value} {b:Bool} (h:Calls Tryz.prog f args w fun e w'=>e=.returned (.bool b)∧∃n,w'=w.drewN n):Calls Tryz.prog f args w fun e w'=>e=.returned (.bool b)∧Below w.heap.size w w':=
 h.mono fun _ _ h=>⟨h.1,by obtain ⟨n,hn⟩:=h.2;rw [hn];exact below_dN (Below.refl _ _) n⟩
theorem SlR.takeB {w:World} {p:Blocks} {a:Option Addr} {n c m:Nat} {xs:List UInt8} (h:SlR byteR w p (.slice a n c) xs) (hm:m≤xs.length):SlR byteR w p (.slice a m c) (xs.take m)∧n=xs.length∧n≤c∧c≤9223372036854775807:=by
 obtain ⟨a2,c2,e,h1,h2,h3⟩:=h
 injection e with e1 e2 e3
 subst e1 e2 e3
 have hl:(xs.take m).length=m:=by rw [List.length_take];omega
 refine ⟨⟨a,c,by rw [hl],by omega,h2,fun i x hx=>h3 i x ?_⟩,rfl,h1,by simpa [maxLen] using h2⟩
 rw [List.getElem?_take] at hx
 split at hx
 ·exact hx
 ·cases hx
theorem EncodeApart_law (x y:Ins) (p q:Blocks) (v u:Value) (w:World) (h:SlR opdR w p v x.args) (g:SlR opdR w q u y.args) (hT:Spc w) (fx:∀z∈x.args,fits64 z.n) (fy:∀z∈y.args,fits64 z.n):
  Calls Tryz.prog 7 #[.agg #[.string x.op,v],.agg #[.string y.op,u]] w fun e w'=>e=.returned (.bool true)∧Below w.heap.size w w':=by
 have HT:=Lib.hid hT
 have HAL:=Lib.hid (fun W hT=>alive11_any W hT)
 have HSX:=Lib.hid (fun W (hb:RowKit.Below w.heap.size w W)=>short11_any p x v W (h.below hb))
 have HSY:=Lib.hid (fun W (hb:RowKit.Below w.heap.size w W)=>short11_any q y u W (g.below hb))
 have HEX0:=Lib.hid (fun (mx:Mild x) W (hb:RowKit.Below w.heap.size w W)=>Encode_any x mx p v W (h.below hb) (hT.below hb))
 have HEY0:=Lib.hid (fun (my:Mild y) W (hb:RowKit.Below w.heap.size w W)=>Encode_any y my q u W (g.below hb) (hT.below hb))
 have HOX0:=Lib.hid (fun (mx:Mild x) W (hb:RowKit.Below w.heap.size w W)=>ref08Of_any p x v W (h.below hb) (by have:=mx.n;omega) mx.f)
 have HOY0:=Lib.hid (fun (my:Mild y) W (hb:RowKit.Below w.heap.size w W)=>ref08Of_any q y u W (g.below hb) (by have:=my.n;omega) my.f)
 have HCE0:=Lib.hid (fun (mx:Mild x) (my:Mild y) W (hb:RowKit.Below w.heap.size w W)=>CEqual_any x y p q v u W (h.below hb) (g.below hb) (hT.below hb) mx my)
 have HSM:=Lib.hid (fun p q v1 v2 W h1 h2=>insSame_any p q (canonOf x) (canonOf y) v1 v2 W h1 h2)
 have HMX:=Lib.hid (fun hs=>mild_of (x:=x) hs fx)
 have HMY:=Lib.hid (fun hs=>mild_of (x:=y) hs fy)
 have HLW:=Lib.hid (fun A B j j' hx hy=>enc_law (x:=x) (y:=y) (A:=A) (B:=B) (j:=j) (j':=j') hx hy)
 have HNX:=Lib.hid (fun k hk=>encR_none (x:=x) (k:=k) hk)
 have HNY:=Lib.hid (fun k hk=>encR_none (x:=y) (k:=k) hk)
 have HKX:=Lib.hid (fun A k hk=>encR_some (x:=x) (A:=A) (k:=k) hk)
 have HKY:=Lib.hid (fun A k hk=>encR_some (x:=y) (A:=A) (k:=k) hk)
 obtain ⟨xa,xc,rfl⟩:∃a c,v=.slice a x.args.length c:=by obtain ⟨a,c,e,_⟩:=h;exact ⟨a,c,e⟩
 obtain ⟨ya,yc,rfl⟩:∃a c,u=.slice a y.args.length c:=by obtain ⟨a,c,e,_⟩:=g;exact ⟨a,c,e⟩
 have HC:=Lib.hid (((Fr.start w).new 24 #[.string x.op,.slice xa x.args.length xc]).new' 24 #[.string y.op,.slice ya y.args.length yc] (World.size_alloc _ _))
 clear h g hT fx fy
 generalize insEq (canonOf x) (canonOf y)=R at *
 rw [show (canonOf x).op=x.op from rfl,show (canonOf y).op=y.op from rfl] at HSM
 generalize (canonOf x).args=cx at *
 generalize (canonOf y).args=cy at *
 generalize hRX:encR x=RX at *
 generalize hRY:encR y=RY at *
 generalize short8 x=BX at *
 generalize short8 y=BY at *
 have hne:BX=false∨BX=true:=by cases BX<;>simp
 obtain ⟨W0,hW0⟩:∃W:World,W=(w.alloc (.cells #[.string x.op,.slice xa x.args.length xc] 24)).alloc (.cells #[.string y.op,.slice ya y.args.length yc] 24):=⟨_,rfl⟩
 rw [←hW0] at HC
 cases BX
 ·clear HEX0 HEY0 HOX0 HOY0 HCE0 HSM HMX HMY HLW HNX HNY HKX HKY HSY
  go_enter Tryz.func7,Tryz.ntmps7
  go_upto_region 1 with fail
  rw [←hW0]
  clear hW0
  obtain ⟨e0,e1⟩:=(HC.out.blk 1 rfl).pair
  obtain ⟨c0,c1⟩:=(HC.out.blk 0 rfl).pair
  go_wp2_with (first
   | (go_at_call 27;(with_reducible refine (HSX.out _ HC.out.below).mono ?_);rintro e w1 ⟨rfl,hb⟩;have Hn:=Lib.hid (HC.out.next hb);clear HC hb e0 e1 c0 c1;have HC:=Hn;clear Hn;obtain ⟨e0,e1⟩:=(HC.out.blk 1 rfl).pair;obtain ⟨c0,c1⟩:=(HC.out.blk 0 rfl).pair)
   | (go_at_call 28;refine (HAL.out _ (HT.out.below HC.out.below)).mono ?_;rintro e w9 ⟨rfl,hb⟩;have H9:=Lib.hid (HC.out.next hb);clear hb))
  go_ret
  exact ⟨rfl,H9.out.below⟩
 cases BY
 ·clear HEX0 HEY0 HOX0 HOY0 HCE0 HSM HMX HMY HLW HNX HNY HKX HKY
  go_enter Tryz.func7,Tryz.ntmps7
  go_upto_region 1 with fail
  rw [←hW0]
  clear hW0
  obtain ⟨e0,e1⟩:=(HC.out.blk 1 rfl).pair
  obtain ⟨c0,c1⟩:=(HC.out.blk 0 rfl).pair
  go_wp2_with (first
   | (go_at_call 27;(with_reducible refine (HSX.out _ HC.out.below).mono ?_);rintro e w1 ⟨rfl,hb⟩;have Hn:=Lib.hid (HC.out.next hb);clear HC hb e0 e1 c0 c1;have HC:=Hn;clear Hn;obtain ⟨e0,e1⟩:=(HC.out.blk 1 rfl).pair;obtain ⟨c0,c1⟩:=(HC.out.blk 0 rfl).pair)
   | (go_at_call 27;(with_reducible refine (HSY.out _ HC.out.below).mono ?_);rintro e w1 ⟨rfl,hb⟩;have Hn:=Lib.hid (HC.out.next hb);clear HC hb e0 e1 c0 c1;have HC:=Hn;clear Hn;obtain ⟨e0,e1⟩:=(HC.out.blk 1 rfl).pair;obtain ⟨c0,c1⟩:=(HC.out.blk 0 rfl).pair)
   | (go_at_call 28;refine (HAL.out _ (HT.out.below HC.out.below)).mono ?_;rintro e w9 ⟨rfl,hb⟩;have H9:=Lib.hid (HC.out.next hb);clear hb))
  go_ret
  exact ⟨rfl,H9.out.below⟩
 have HEX:=Lib.hid (HEX0.out (HMX.out rfl))
 have HEY:=Lib.hid (HEY0.out (HMY.out rfl))
 have HOX:=Lib.hid (HOX0.out (HMX.out rfl))
 have HOY:=Lib.hid (HOY0.out (HMY.out rfl))
 have HCE:=Lib.hid (HCE0.out (HMX.out rfl) (HMY.out rfl))
 clear HEX0 HEY0 HOX0 HOY0 HCE0 HMX HMY
 obtain ⟨ox,kx⟩:=RX
 obtain ⟨oy,ky⟩:=RY
 cases ox with
 | none=>
  have hkx:=HNX.out _ rfl
  cases oy with
  | none=>
   go_enter Tryz.func7,Tryz.ntmps7
   go_upto_region 1 with fail
   rw [←hW0]
   clear hW0
   obtain ⟨e0,e1⟩:=(HC.out.blk 1 rfl).pair
   obtain ⟨c0,c1⟩:=(HC.out.blk 0 rfl).pair
   go_wp2_with (first
    | (go_at_call 27;(with_reducible refine (HSX.out _ HC.out.below).mono ?_);rintro e w1 ⟨rfl,hb⟩;have Hn:=Lib.hid (HC.out.next hb);clear HC hb e0 e1 c0 c1;have HC:=Hn;clear Hn;obtain ⟨e0,e1⟩:=(HC.out.blk 1 rfl).pair;obtain ⟨c0,c1⟩:=(HC.out.blk 0 rfl).pair)
    | (go_at_call 27;(with_reducible refine (HSY.out _ HC.out.below).mono ?_);rintro e w1 ⟨rfl,hb⟩;have Hn:=Lib.hid (HC.out.next hb);clear HC hb e0 e1 c0 c1;have HC:=Hn;clear Hn;obtain ⟨e0,e1⟩:=(HC.out.blk 1 rfl).pair;obtain ⟨c0,c1⟩:=(HC.out.blk 0 rfl).pair)
    | (go_at_call 29;(with_reducible refine (HEX.out _ HC.out.below).mono ?_);rintro e w2 ⟨he,hb⟩;have he2:e=.returned (.tuple #[.slice none 0 0,.int .i64 kx]):=he;clear he;subst he2;have Hn:=Lib.hid (HC.out.next hb);clear HC hb e0 e1 c0 c1;have HC:=Hn;clear Hn;obtain ⟨e0,e1⟩:=(HC.out.blk 1 rfl).pair;obtain ⟨c0,c1⟩:=(HC.out.blk 0 rfl).pair)
    | (go_at_call 29;(with_reducible refine (HEY.out _ HC.out.below).mono ?_);rintro e w4 ⟨he,hb⟩;have he2:e=.returned (.tuple #[.slice none 0 0,.int .i64 ky]):=he;clear he;subst he2;have Hn:=Lib.hid (HC.out.next hb);clear HC hb e0 e1 c0 c1;have HC:=Hn;clear Hn;obtain ⟨e0,e1⟩:=(HC.out.blk 1 rfl).pair;obtain ⟨c0,c1⟩:=(HC.out.blk 0 rfl).pair)
    | (go_at_call 28;refine (HAL.out _ (HT.out.below HC.out.below)).mono ?_;rintro e w9 ⟨rfl,hb⟩;have H9:=Lib.hid (HC.out.next hb);clear hb))
   go_ret
   exact ⟨rfl,H9.out.below⟩
  | some B=>
   go_enter Tryz.func7,Tryz.ntmps7
   go_upto_region 1 with fail
   rw [←hW0]
   clear hW0
   obtain ⟨e0,e1⟩:=(HC.out.blk 1 rfl).pair
   obtain ⟨c0,c1⟩:=(HC.out.blk 0 rfl).pair
   go_wp2_with (first
    | (go_at_call 27;(with_reducible refine (HSX.out _ HC.out.below).mono ?_);rintro e w1 ⟨rfl,hb⟩;have Hn:=Lib.hid (HC.out.next hb);clear HC hb e0 e1 c0 c1;have HC:=Hn;clear Hn;obtain ⟨e0,e1⟩:=(HC.out.blk 1 rfl).pair;obtain ⟨c0,c1⟩:=(HC.out.blk 0 rfl).pair)
    | (go_at_call 27;(with_reducible refine (HSY.out _ HC.out.below).mono ?_);rintro e w1 ⟨rfl,hb⟩;have Hn:=Lib.hid (HC.out.next hb);clear HC hb e0 e1 c0 c1;have HC:=Hn;clear Hn;obtain ⟨e0,e1⟩:=(HC.out.blk 1 rfl).pair;obtain ⟨c0,c1⟩:=(HC.out.blk 0 rfl).pair)
    | (go_at_call 29;(with_reducible refine (HEX.out _ HC.out.below).mono ?_);rintro e w2 ⟨he,hb⟩;have he2:e=.returned (.tuple #[.slice none 0 0,.int .i64 kx]):=he;clear he;subst he2;have Hn:=Lib.hid (HC.out.next hb);clear HC hb e0 e1 c0 c1;have HC:=Hn;clear Hn;obtain ⟨e0,e1⟩:=(HC.out.blk 1 rfl).pair;obtain ⟨c0,c1⟩:=(HC.out.blk 0 rfl).pair)
    | (go_at_call 29;(with_reducible refine (HEY.out _ HC.out.below).mono ?_);rintro e w4 ⟨⟨vb,rfl,hob⟩,hb⟩;obtain ⟨ba,bc,rfl⟩:=hob.form;clear hob;have Hn:=Lib.hid (HC.out.next hb);clear HC hb e0 e1 c0 c1;have HC:=Hn;clear Hn;obtain ⟨e0,e1⟩:=(HC.out.blk 1 rfl).pair;obtain ⟨c0,c1⟩:=(HC.out.blk 0 rfl).pair)
    | (go_at_call 28;refine (HAL.out _ (HT.out.below HC.out.below)).mono ?_;rintro e w9 ⟨rfl,hb⟩;have H9:=Lib.hid (HC.out.next hb);clear hb))
   go_ret
   exact ⟨rfl,H9.out.below⟩
 | some A=>
  obtain rfl:=HKX.out _ _ rfl
  cases oy with
  | none=>
   have hky:=HNY.out _ rfl
   go_enter Tryz.func7,Tryz.ntmps7
   go_upto_region 1 with fail
   rw [←hW0]
   clear hW0
   obtain ⟨e0,e1⟩:=(HC.out.blk 1 rfl).pair
   obtain ⟨c0,c1⟩:=(HC.out.blk 0 rfl).pair
   go_wp2_with (first
    | (go_at_call 27;(with_reducible refine (HSX.out _ HC.out.below).mono ?_);rintro e w1 ⟨rfl,hb⟩;have Hn:=Lib.hid (HC.out.next hb);clear HC hb e0 e1 c0 c1;have HC:=Hn;clear Hn;obtain ⟨e0,e1⟩:=(HC.out.blk 1 rfl).pair;obtain ⟨c0,c1⟩:=(HC.out.blk 0 rfl).pair)
    | (go_at_call 27;(with_reducible refine (HSY.out _ HC.out.below).mono ?_);rintro e w1 ⟨rfl,hb⟩;have Hn:=Lib.hid (HC.out.next hb);clear HC hb e0 e1 c0 c1;have HC:=Hn;clear Hn;obtain ⟨e0,e1⟩:=(HC.out.blk 1 rfl).pair;obtain ⟨c0,c1⟩:=(HC.out.blk 0 rfl).pair)
    | (go_at_call 29;(with_reducible refine (HEX.out _ HC.out.below).mono ?_);rintro e w2 ⟨⟨va,rfl,hoa⟩,hb⟩;obtain ⟨aa,ac,rfl⟩:=hoa.form;have SA:=Lib.hid (Own.slR (q:=fun _=>True) hoa (fun _ h=>h.elim) (fun _ _=>trivial));have Hn:=Lib.hid (HC.out.next hb);clear HC hb hoa e0 e1 c0 c1;have HC:=Hn;clear Hn;obtain ⟨e0,e1⟩:=(HC.out.blk 1 rfl).pair;obtain ⟨c0,c1⟩:=(HC.out.blk 0 rfl).pair)
    | (go_at_call 29;(with_reducible refine (HEY.out _ HC.out.below).mono ?_);rintro e w4 ⟨he,hb⟩;have he2:e=.returned (.tuple #[.slice none 0 0,.int .i64 ky]):=he;clear he;subst he2;have Hn:=Lib.hid (HC.out.next hb);clear HC hb e0 e1 c0 c1;have HC:=Hn;clear Hn;obtain ⟨e0,e1⟩:=(HC.out.blk 1 rfl).pair;obtain ⟨c0,c1⟩:=(HC.out.blk 0 rfl).pair)
    | (go_at_call 28;refine (HAL.out _ (HT.out.below HC.out.below)).mono ?_;rintro e w9 ⟨rfl,hb⟩;have H9:=Lib.hid (HC.out.next hb);clear hb))
   go_ret
   exact ⟨rfl,H9.out.below⟩
  | some B=>
   obtain rfl:=HKY.out _ _ rfl
   obtain ⟨hl1,hl2⟩:=HLW.out _ _ _ _ rfl rfl
   obtain ⟨M,hM⟩:∃M:Nat,min A.length B.length=M:=⟨_,rfl⟩
   rw [hM] at hl2
   have hMa:M≤A.length:=by omega
   have hMb:M≤B.length:=by omega
   have hMi:min (A.length:Int) (B.length:Int)=(M:Int):=by omega
   clear HLW HNX HNY HKX HKY hM
   go_enter Tryz.func7,Tryz.ntmps7
   go_upto_region 1 with fail
   rw [←hW0]
   clear hW0
   obtain ⟨e0,e1⟩:=(HC.out.blk 1 rfl).pair
   obtain ⟨c0,c1⟩:=(HC.out.blk 0 rfl).pair
   go_upto_region 7 with (first
    | (go_at_call 27;(with_reducible refine (HSX.out _ HC.out.below).mono ?_);rintro e w1 ⟨rfl,hb⟩;have Hn:=Lib.hid (HC.out.next hb);clear HC hb e0 e1 c0 c1;have HC:=Hn;clear Hn;obtain ⟨e0,e1⟩:=(HC.out.blk 1 rfl).pair;obtain ⟨c0,c1⟩:=(HC.out.blk 0 rfl).pair)
    | (go_at_call 27;(with_reducible refine (HSY.out _ HC.out.below).mono ?_);rintro e w1 ⟨rfl,hb⟩;have Hn:=Lib.hid (HC.out.next hb);clear HC hb e0 e1 c0 c1;have HC:=Hn;clear Hn;obtain ⟨e0,e1⟩:=(HC.out.blk 1 rfl).pair;obtain ⟨c0,c1⟩:=(HC.out.blk 0 rfl).pair)
    | (go_at_call 29;(with_reducible refine (HEX.out _ HC.out.below).mono ?_);rintro e w2 ⟨⟨va,rfl,hoa⟩,hb⟩;obtain ⟨aa,ac,rfl⟩:=hoa.form;have SA:=Lib.hid (Own.slR (q:=fun _=>True) hoa (fun _ h=>h.elim) (fun _ _=>trivial));have Hn:=Lib.hid (HC.out.next hb);clear HC hb hoa e0 e1 c0 c1;have HC:=Hn;clear Hn;obtain ⟨e0,e1⟩:=(HC.out.blk 1 rfl).pair;obtain ⟨c0,c1⟩:=(HC.out.blk 0 rfl).pair)
    | (go_at_call 29;(with_reducible refine (HEY.out _ HC.out.below).mono ?_);rintro e w4 ⟨⟨vb,rfl,hob⟩,hb⟩;obtain ⟨ba,bc,rfl⟩:=hob.form;have SB:=Lib.hid (Own.slR (q:=fun _=>True) hob (fun _ h=>h.elim) (fun _ _=>trivial));have SA2:=Lib.hid (SA.out.below hb);clear SA;have SA:=SA2;clear SA2;have Hn:=Lib.hid (HC.out.next hb);clear HC hb hob e0 e1 c0 c1;have HC:=Hn;clear Hn;obtain ⟨e0,e1⟩:=(HC.out.blk 1 rfl).pair;obtain ⟨c0,c1⟩:=(HC.out.blk 0 rfl).pair))
   have HL1:=Lib.hid hl1
   have HL2:=Lib.hid hl2
   have HMA:=Lib.hid hMa
   have HMB:=Lib.hid hMb
   clear hl1 hl2 hMa hMb HEX HEY HSX HSY
   have Hn:=Lib.hid HC.out.drew
   have SAn:=Lib.hid (SA.out.below (Below.refl _ _).drew)
   have SBn:=Lib.hid (SB.out.below (Below.refl _ _).drew)
   clear HC SA SB
   have HC:=Hn
   have SA:=SAn
   have SB:=SBn
   clear Hn SAn SBn
   go_region_held3 (fun w'=>w'.cell? ⟨w.heap.size,0,none⟩=some (.string x.op)∧w'.cell? ⟨w.heap.size,1,none⟩=some (.slice xa x.args.length xc)∧w'.cell? ⟨w.heap.size+1,0,none⟩=some (.string y.op)∧w'.cell? ⟨w.heap.size+1,1,none⟩=some (.slice ya y.args.length yc)) (go_keep)
    (first
     | (go_at_call 26;(with_reducible refine (HOX.out _ HC.out.below).mono ?_);rintro e w1 ⟨u1,rfl,ho1,hb1⟩;obtain ⟨x1a,x1c,rfl⟩:=ho1.form;have SX:=Lib.hid ho1.slR;have SAn:=Lib.hid (SA.out.below hb1);clear SA;have SA:=SAn;clear SAn;have SBn:=Lib.hid (SB.out.below hb1);clear SB;have SB:=SBn;clear SBn;have Hn:=Lib.hid (HC.out.next hb1);(try have Sn:=Lib.hid (SY.out.below hb1));(try clear SY);(try have SY:=Sn);(try clear Sn);clear HC ho1 hb1 e0 e1 c0 c1;have HC:=Hn;clear Hn;obtain ⟨e0,e1⟩:=(HC.out.blk 1 rfl).pair;obtain ⟨c0,c1⟩:=(HC.out.blk 0 rfl).pair)
     | (go_at_call 26;(with_reducible refine (HOY.out _ HC.out.below).mono ?_);rintro e w1 ⟨u1,rfl,ho1,hb1⟩;obtain ⟨y1a,y1c,rfl⟩:=ho1.form;have SY:=Lib.hid ho1.slR;have SAn:=Lib.hid (SA.out.below hb1);clear SA;have SA:=SAn;clear SAn;have SBn:=Lib.hid (SB.out.below hb1);clear SB;have SB:=SBn;clear SBn;have Hn:=Lib.hid (HC.out.next hb1);(try have Sn:=Lib.hid (SX.out.below hb1));(try clear SX);(try have SX:=Sn);(try clear Sn);clear HC ho1 hb1 e0 e1 c0 c1;have HC:=Hn;clear Hn;obtain ⟨e0,e1⟩:=(HC.out.blk 1 rfl).pair;obtain ⟨c0,c1⟩:=(HC.out.blk 0 rfl).pair)
     | (go_at_call 30;refine (HSM.out _ _ _ _ _ SX.out SY.out).mono ?_;rintro e w3 ⟨rfl,hb3⟩;have SAn:=Lib.hid (SA.out.below hb3);clear SA;have SA:=SAn;clear SAn;have SBn:=Lib.hid (SB.out.below hb3);clear SB;have SB:=SBn;clear SBn;have Hn:=Lib.hid (HC.out.next hb3);clear HC hb3 e0 e1 c0 c1;have HC:=Hn;clear Hn;obtain ⟨e0,e1⟩:=(HC.out.blk 1 rfl).pair;obtain ⟨c0,c1⟩:=(HC.out.blk 0 rfl).pair))
   clear HOX HOY HSM SX SY
   go_upto_region 9 with fail
   obtain ⟨SAT,_,ha2,ha3⟩:=SA.out.takeB HMA.out
   obtain ⟨SBT,_,hb2,hb3⟩:=SB.out.takeB HMB.out
   have hMac:M≤ac:=Nat.le_trans HMA.out ha2
   have hMbc:M≤bc:=Nat.le_trans HMB.out hb2
   have HST:=Lib.hid SAT
   have HSU:=Lib.hid SBT
   clear SAT SBT e0 e1 c0 c1
   have HB5:Hid (∀d os,Below w3.heap.size w3 (grow (redrawn w3 d) os)):=fun d os=>below_regrown w3 d os
   have E0:=fun d os=>((HC.out.next (HB5.out d os)).blk 1 rfl).cell 0
   have E1:=fun d os=>((HC.out.next (HB5.out d os)).blk 1 rfl).cell 1
   have F0:=fun d os=>((HC.out.next (HB5.out d os)).blk 0 rfl).cell 0
   have F1:=fun d os=>((HC.out.next (HB5.out d os)).blk 0 rfl).cell 1
   have KAL:=Lib.hid (fun d os=>HAL.out _ (HT.out.below (HC.out.next (HB5.out d os)).below))
   have KCE:=Lib.hid (fun d os=>HCE.out _ (HC.out.next (HB5.out d os)).below)
   have KEQ:=Lib.hid (fun d os=>eqB_below (EqualByte_any _ _ _ _ A B _ (SA.out.below (HB5.out d os)) (SB.out.below (HB5.out d os))))
   have KEU:=Lib.hid (fun d os=>eqB_below (EqualByte_any _ _ _ _ (A.take M) (B.take M) _ (HST.out.below (HB5.out d os)) (HSU.out.below (HB5.out d os))))
   rw [HL1.out] at KEQ
   rw [HL2.out] at KEU
   clear HAL HCE HL1 HL2 HST HSU SA SB
   cases R
   all_goals
    refine wp_region_quiet_below (by kernel_rfl) (by kernel_rfl) ?_
    repeat (go_big_quiet_step (first | (with_reducible exact Calls.regrown_of (KAL.out _ _)) | (with_reducible exact Calls.regrown_of (KEQ.out _ _)) | (with_reducible exact Calls.regrown_of (KEU.out _ _)) | (with_reducible exact Calls.regrown_of (KCE.out _ _))))
    refine wpQuiet_nil ?_
    intro _ hw'
    obtain ⟨⟨dq,osq⟩,hw''⟩:=hw'
    subst hw''
    have HFB:=Lib.hid (HC.out.next (HB5.out dq osq)).below
    clear E0 E1 F0 F1
    show Exit.then _ _ Exit.normal _ (grow (redrawn w3 dq) osq)
    generalize grow (redrawn w3 dq) osq=W5 at *
    go_wp2
    go_ret
    exact ⟨rfl,HFB.out⟩
end Go.Proofs.YtaolnefplefjnaaGreatDoor
