/-
  What an item's bytes are: an entry filled with its numbers, and the encoding of that entry. Conditions: none.
-/
import Derived.Test.YtmpmciccgempeaaGreatDoorBE3
import Derived.Test.YtmpmciccgempeaaGreatDoorBG2
import Derived.Test.YtmpmciccgempeaaGreatDoorBG1
import Derived.Test.YtmpmciccgempeaaGreatDoorBH1
import Derived.Test.YtmpmciccgempeaaGreatDoorBA17
import Derived.Test.YtmpmciccgempeaaGreatDoorBB8
import Derived.Test.YtmpmciccgempeaaGreatDoorBM1
import Derived.Test.YtmpmciccgempeaaGreatDoorBA14
import Derived.Test.YtmpmciccgempeaaGreatDoorBA12
import Derived.Test.YtmpmciccgempeaaGreatDoorBA6
import Derived.Test.YtmpmciccgempeaaGreatDoorBC1
import Derived.Test.YtmpmciccgempeaaGreatDoorBA5
import Derived.Test.YtmpmciccgempeaaGreatDoorBB1
import Derived.Test.YtmpmciccgempeaaGreatDoorBA1
import Derived.Test.YtmpmciccgempeaaGreatDoorChecked
import Derived.Test.YtmpmciccgempeaaGreatDoorBA4
import Derived.Test.YtmpmciccgempeaaGreatDoorShelf
import Derived.Test.YtmpmciccgempeaaGreatDoorBA2
import Derived.Test.YtmpmciccgempeaaGreatDoorBE1
import Derived.Test.YtmpmciccgempeaaGreatDoorBA3
import Derived.Test.YtmpmciccgempeaaGreatDoorBB2
import Derived.Test.YtmpmciccgempeaaGreatDoorBA9
import Derived.Test.YtmpmciccgempeaaGreatDoorBE2
import Derived.Test.YtmpmciccgempeaaGreatDoorBA7
import Derived.Test.YtmpmciccgempeaaGreatDoorBA8
import Derived.Test.YtmpmciccgempeaaGreatDoorBF1
import Derived.Test.YtmpmciccgempeaaGreatDoorBB3
import Derived.Test.YtmpmciccgempeaaGreatDoorBA11
import Derived.Test.YtmpmciccgempeaaGreatDoorBA10
import Derived.Test.YtmpmciccgempeaaGreatDoorBB4
import Derived.Test.YtmpmciccgempeaaGreatDoorBB6
import Derived.Test.YtmpmciccgempeaaGreatDoorBB5
import Derived.Test.YtmpmciccgempeaaGreatDoorBA13
import Derived.Test.YtmpmciccgempeaaGreatDoorBB7
import Derived.Test.YtmpmciccgempeaaGreatDoorBA16
import Derived.Test.YtmpmciccgempeaaGreatDoorBA15
import Derived.Test.YtmpmciccgempeaaGreatDoorShelfT
import Derived.Test.YtmpmciccgempeaaGreatDoorBU1
namespace Go.Proofs.YtmpmciccgempeaaGreatDoor
open Go.RowKit Go.Shelf Go.Sort
structure oAj (e:aL) (p k:Nat):Prop where
  hp:p < 7
  hk:k < 256
  at':(atF p k).1=some e
  W:zD e
  N:EntN p k e
  pg:e.pg=p
  op:e.op=k
  ok:fA e
theorem oAl {p k:Nat} (hp:p < 7) (hk:k < 256) {e:aL} (he:(atF p k).1=some e):oAj e p k:=by
  obtain ⟨a,b,c⟩:=kZ hp hk he
  exact ⟨hp,hk,he,a,YN hp hk he,b,c,mG hk he⟩
def nxt (l:List UInt8) (q r:Nat):List UInt8:=(List.range r).map fun j=>UInt8.ofNat (bAt l (q+j))
theorem oBe {l:List UInt8} {n:Nat} (h:n≤l.length):l.take n=nxt l 0 n:=by
  unfold nxt
  refine List.ext_getElem? fun i=>?_
  by_cases hi:i < n
  · rw [List.getElem?_take,if_pos hi,List.getElem?_map,List.getElem?_range hi,Option.map_some,Nat.zero_add,sC (by omega),UInt8.ofNat_toNat,List.getElem?_eq_getElem (by omega)]
  · rw [List.getElem?_eq_none (by rw [List.length_take];omega),List.getElem?_eq_none (by simp;omega)]
theorem oAm (l:List UInt8) (q a b:Nat):nxt l q (a+b)=nxt l q a++nxt l (q+a) b:=by
  unfold nxt
  rw [List.range_add,List.map_append,List.map_map]
  congr 1
  exact List.map_congr_left fun j _=>by show _=UInt8.ofNat (bAt l (q+a+j));rw [Nat.add_assoc];rfl
theorem oBk (l:List UInt8) (q:Nat):nxt l q 1=[UInt8.ofNat (bAt l q)]:=rfl
theorem oAo {b:Nat} (h:b < 256):eW (sg b)=UInt8.ofNat b:=by
  show UInt8.ofNat ((sg b) % 256).toNat=_
  congr 1
  unfold sg
  split<;>omega
theorem oBg {b:Nat} (h:b < 256):eW (b:Int)=UInt8.ofNat b:=by
  show UInt8.ofNat ((b:Int) % 256).toNat=_
  congr 1
  omega
theorem oAn {a b:Nat} (ha:a < 256) (hb:b < 256):eW ((a:Int)+256 * b)=UInt8.ofNat a∧eW (((a:Int)+256 * b) / 256)=UInt8.ofNat b:=by
  constructor
  · show UInt8.ofNat (((a:Int)+256 * b) % 256).toNat=_
    congr 1
    omega
  · show UInt8.ofNat ((((a:Int)+256 * b) / 256) % 256).toNat=_
    congr 1
    omega
theorem oAp (b:Nat) (h:b < 256):-128≤sg b∧sg b≤127:=by unfold sg;split<;>omega
theorem oAg (lo hi:Int) {D:Option Nat} (h:D.isSome=false):okN D lo hi 0=true:=by cases D with | none=>rfl | some i=>cases h
theorem oAc {lo hi n:Int} {D:Option Nat} (h:D.isSome=true) (h1:lo≤n) (h2:n≤hi):okN D lo hi n=true:=by
  cases D with
  | none=>cases h
  | some i=>show (decide (lo≤n)&&decide (n≤hi))=true;simp [h1,h2]
theorem oBd {ex:List UInt8} {D J:Option Nat} (q:Nat) (l:List UInt8) (h:((ex==[]&&(!D.isSome&&!J.isSome)) || ((ex==[100]&&(D.isSome&&!J.isSome)) || ((ex==[101]&&(!D.isSome&&J.isSome)) || ((ex==[110]&&(!D.isSome&&J.isSome)) || ((ex==[119]&&(!D.isSome&&J.isSome)) || (ex==[100,110]&&(D.isSome&&J.isSome)))))))=true):
    okN D (-128) 127 (rdF ex l q 0 0).1=true∧okN J (loF ex) (hiF ex) (rdF ex l q 0 0).2=true∧ex.flatMap (jN (rdF ex l q 0 0).1 (rdF ex l q 0 0).2)=nxt l q (rdN ex):=by
  have h0:=bT l q
  have h1:=bT l (q+1)
  have no:∀{b:Bool},(!b)=true→b=false:=fun {b} h=>by cases b;rfl;cases h
  have two:∀{a b:Bool} {m:List UInt8},(ex==m&&(a&&b))=true→ex=m∧a=true∧b=true:=fun h=>by
    obtain ⟨h1,h2⟩:=Bool.and_eq_true_iff.1 h
    obtain ⟨h3,h4⟩:=Bool.and_eq_true_iff.1 h2
    exact ⟨eq_of_beq h1,h3,h4⟩
  rcases Bool.or_eq_true_iff.1 h with g | h
  · obtain ⟨rfl,e2,e3⟩:=two g
    exact ⟨oAg _ _ (no e2),oAg _ _ (no e3),rfl⟩
  rcases Bool.or_eq_true_iff.1 h with g | h
  · obtain ⟨rfl,e2,e3⟩:=two g
    refine ⟨oAc e2 (oAp _ h0).1 (oAp _ h0).2,oAg _ _ (no e3),?_⟩
    show [eW (sg (bAt l q))]=[UInt8.ofNat (bAt l q)]
    rw [oAo h0]
  rcases Bool.or_eq_true_iff.1 h with g | h
  · obtain ⟨rfl,e2,e3⟩:=two g
    refine ⟨oAg _ _ (no e2),oAc e3 (oAp _ h0).1 (oAp _ h0).2,?_⟩
    show [eW (sg (bAt l q))]=[UInt8.ofNat (bAt l q)]
    rw [oAo h0]
  rcases Bool.or_eq_true_iff.1 h with g | h
  · obtain ⟨rfl,e2,e3⟩:=two g
    refine ⟨oAg _ _ (no e2),oAc e3 (by show (0:Int)≤(bAt l q:Int);omega) (by show (bAt l q:Int)≤255;omega),?_⟩
    show [eW (bAt l q:Int)]=[UInt8.ofNat (bAt l q)]
    rw [oBg h0]
  rcases Bool.or_eq_true_iff.1 h with g | g
  · obtain ⟨rfl,e2,e3⟩:=two g
    refine ⟨oAg _ _ (no e2),oAc e3 (by show (0:Int)≤(bAt l q:Int)+256 * bAt l (q+1);omega) (by show (bAt l q:Int)+256 * bAt l (q+1)≤65535;omega),?_⟩
    show [eW ((bAt l q:Int)+256 * bAt l (q+1)),eW (((bAt l q:Int)+256 * bAt l (q+1)) / 256)]=[UInt8.ofNat (bAt l q),UInt8.ofNat (bAt l (q+1))]
    rw [(oAn h0 h1).1,(oAn h0 h1).2]
  · obtain ⟨rfl,e2,e3⟩:=two g
    refine ⟨oAc e2 (oAp _ h0).1 (oAp _ h0).2,oAc e3 (by show (0:Int)≤(bAt l (q+1):Int);omega) (by show (bAt l (q+1):Int)≤255;omega),?_⟩
    show [eW (sg (bAt l q)),eW (bAt l (q+1):Int)]=[UInt8.ofNat (bAt l q),UInt8.ofNat (bAt l (q+1))]
    rw [oAo h0,oBg h1]
theorem oAx {l:List UInt8}:nxt l 0 (aR (pgB l)).length=aR (pgB l):=by
  unfold pgB
  split
  · rename_i h;show [UInt8.ofNat (bAt l 0)]=[203];rw [h];rfl
  split
  · rename_i h;show [UInt8.ofNat (bAt l 0)]=[237];rw [h];rfl
  split
  · rename_i h
    split
    · rename_i h2;show [UInt8.ofNat (bAt l 0),UInt8.ofNat (bAt l 1)]=[221,203];rw [h,h2.2];rfl
    · show [UInt8.ofNat (bAt l 0)]=[221];rw [h];rfl
  split
  · rename_i h
    split
    · rename_i h2;show [UInt8.ofNat (bAt l 0),UInt8.ofNat (bAt l 1)]=[253,203];rw [h,h2.2];rfl
    · show [UInt8.ofNat (bAt l 0)]=[253];rw [h];rfl
  rfl
theorem oBj {e:aL} {p k:Nat} (E:oAj e p k) {l:List UInt8} (h1:pgB l=p) (h2:bAt l (pos p)=k) (h3:gX e≤l.length):
    okN (Dof e.ex e.args) (-128) 127 (gP p e l).1=true∧okN (Jof e.ex e.args) (loF e.ex) (hiF e.ex) (gP p e l).2=true∧kI e (gP p e l).1 (gP p e l).2=l.take (gX e):=by
  have hN:=E.N.ex
  have hpre:=oAx (l:=l)
  rw [h1] at hpre
  unfold exB at hN
  obtain ⟨a,b,c⟩:=oBd (if 5≤p then 2 else pos p+1) l hN
  refine ⟨a,b,?_⟩
  rw [oBe h3]
  have hs:gX e=(aR p).length+1+rdN e.ex:=by unfold gX;rw [E.pg]
  unfold kI
  rw [E.pg,E.op]
  by_cases h5:5≤p
  · have hex:=E.W.hi (by rw [E.pg];omega)
    rw [if_pos (by omega)]
    have hp:(aR p).length=2:=by
      have:p=5∨p=6:=by have:=E.hp;omega
      rcases this with rfl | rfl<;>rfl
    have hpo:pos p=3:=by unfold pos;rw [if_pos h5,hp]
    rw [if_pos h5] at c
    rw [hex] at c hs
    rw [hpo] at h2
    rw [hs,hp,show 2+1+rdN [100]=2+(1+1) from rfl,oAm,←hp,hpre,hp,List.append_assoc]
    congr 1
    unfold gP
    rw [if_pos h5,hex]
    show [eW (sg (bAt l 2)),UInt8.ofNat k]=[UInt8.ofNat (bAt l (0+2+0)),UInt8.ofNat (bAt l (0+2+1))]
    rw [oAo (bT _ _),←h2]
  · rw [if_neg (by omega)]
    rw [if_neg h5] at c
    have hpo:pos p=(aR p).length:=by unfold pos;rw [if_neg h5];rfl
    unfold gP
    rw [if_neg h5,c,hs,oAm,oAm,hpre,Nat.zero_add,Nat.zero_add,←hpo,oBk,h2]
theorem oBp {e:aL} (ok:fA e) {d n:Int} (hd:okN (Dof e.ex e.args) (-128) 127 d=true) (hn:okN (Jof e.ex e.args) (loF e.ex) (hiF e.ex) n=true):∃c,yC e d n c:=
  ⟨_,(xK ok).1 (by rw [xN ok.var];exact if_pos (Bool.and_eq_true_iff.2 ⟨hn,hd⟩))⟩
structure ItB (l:List UInt8) (e:aL) (p k:Nat) (d n:Int) (c:List Opd):Prop where
  E:oAj e p k
  fil:yC e d n c
  it:itF l=⟨1,gX e,e.iop,c,e.al⟩
  le:gX e≤l.length
  enc:kI e d n=l.take (gX e)
theorem oBf {l:List UInt8} {e:aL} {p k:Nat} (E:oAj e p k) (h1:pgB l=p) (h2:bAt l (pos p)=k) (h3:gX e≤l.length) (h4:pos p < l.length):∃d n c,ItB l e p k d n c:=by
  obtain ⟨a,b,g⟩:=oBj E h1 h2 h3
  obtain ⟨c,hc⟩:=oBp E.ok a b
  refine ⟨_,_,c,E,hc,?_,h3,g⟩
  have hf:=(xK E.ok).2 hc
  unfold itF itS
  rw [h1,if_neg (by omega),h2]
  have hat:=E.at'
  cases hA:atF (p:Int) k with
  | mk o j=>
    rw [hA] at hat
    dsimp only at hat
    subst hat
    dsimp only
    unfold itE jO
    rw [if_neg (by omega),hf]
theorem oBr {l:List UInt8} (hk:(itF l).k=1):∃e p k d n c,ItB l e p k d n c:=by
  have hp:=(yN (l:=l)).1
  have hx:=bT l (pos (pgB l))
  by_cases h0:l.length≤pos (pgB l)
  · unfold itF itS at hk
    rw [if_pos h0] at hk
    exact absurd (show (4:Int)=1 from hk) (by decide)
  cases hA:atF (pgB l:Int) (bAt l (pos (pgB l))) with
  | mk o j=>
    cases o with
    | none=>
      unfold itF itS at hk
      rw [if_neg h0,hA] at hk
      dsimp only at hk
      split at hk<;>exact absurd hk (by decide)
    | some e=>
      have E:=oAl hp hx (e:=e) (by rw [hA])
      by_cases h1:l.length < gX e
      · unfold itF itS at hk
        rw [if_neg h0,hA] at hk
        dsimp only at hk
        unfold itE at hk
        rw [if_pos h1] at hk
        exact absurd (show (4:Int)=1 from hk) (by decide)
      obtain ⟨d,n,c,h⟩:=oBf E rfl rfl (by omega) (by omega)
      exact ⟨e,_,_,d,n,c,h⟩
end Go.Proofs.YtmpmciccgempeaaGreatDoor
