/-
  An entry filled with its numbers, encoded and read back. Conditions: none.
-/
import Derived.Test.YtmpmciccgempeaaGreatDoorB1
namespace Go.Proofs.YtmpmciccgempeaaGreatDoor
open Go.RowKit Go.Shelf Go.Sort
theorem LZ (d n:Int) (b:UInt8):(jN d n b).length=1+if b=119 then 1 else 0:=by
  unfold jN
  by_cases h:b=119
  · subst h;rfl
  · rw [if_neg h,if_neg h];split<;>rfl
theorem vT (d n:Int):∀l:List UInt8,(l.flatMap (jN d n)).length=l.length+List.count 119 l
  | []=>rfl
  | b::l=>by
    have ih:=vT d n l
    rw [List.flatMap_cons,List.length_append,List.length_cons,List.count_cons,LZ,ih]
    by_cases h:b=119
    · subst h;simp;omega
    · have h2:(b==119)=false:=by simpa using h
      rw [if_neg h,h2];simp;omega
theorem oBm (x:aL) (hx:zD x) (d n:Int):((kI x d n).length:Int)=((aR x.pg).length:Int)+1+(x.ex.length:Int)+(Lib.countByte x.ex 119:Int):=by
  unfold kI
  split
  · rename_i h
    rw [hx.hi h,List.length_append,List.length_append]
    simp [Lib.countByte]
  · have:=vT d n x.ex
    rw [List.length_append,List.length_append,List.length_singleton]
    unfold Lib.countByte
    omega
theorem PU (lo hi n:Int):bG lo hi n=decide (lo≤n∧n≤hi):=by
  unfold bG;rw [Bool.eq_iff_iff];simp
theorem oAb {a b:Int} (h:eW a=eW b):a % 256=b % 256:=by
  have:=mP a
  rw [h,mP b] at this
  omega
theorem oAd {D:Option Nat} {lo hi n:Int} (hD:D.isSome=true) (h:okN D lo hi n=true):lo≤n∧n≤hi:=by
  cases D with
  | none=>cases hD
  | some i=>have h:bG lo hi n=true:=h;rw [PU] at h;exact of_decide_eq_true h
theorem oAe {D:Option Nat} {lo hi n:Int} (hD:D.isSome=false) (h:okN D lo hi n=true):n=0:=by
  cases D with
  | none=>exact eq_of_beq h
  | some i=>cases hD
theorem oBs {e:aL} (hN:exB e=true) {d n d' n':Int} {c c':List Opd} (h1:yC e d n c) (h2:yC e d' n' c') (h:e.ex.flatMap (jN d n)=e.ex.flatMap (jN d' n')):d=d'∧n=n':=by
  have a1:=h1.okd
  have a2:=h1.okn
  have b1:=h2.okd
  have b2:=h2.okn
  unfold exB at hN
  generalize hD:(Dof e.ex e.args)=D at *
  generalize hJ:(Jof e.ex e.args)=J at *
  dsimp only at hN
  have fin:∀l:List UInt8,e.ex=l→∀bD bJ:Bool,D.isSome=bD→J.isSome=bJ→(bD=true→eW d=eW d')→(bJ=true→(cO l 101=true→eW n=eW n')∧(cO l 101=false→cO l 110=true→eW n=eW n')∧(cO l 101=false→cO l 110=false→eW n=eW n'∧eW (n / 256)=eW (n' / 256)))→d=d'∧n=n':=by
    intro l hl bD bJ e1 e2 g1 g2
    refine ⟨?_,?_⟩
    · cases bD
      · rw [oAe e1 a1,oAe e1 b1]
      · have:=oAd e1 a1;have:=oAd e1 b1;have:=oAb (g1 rfl);omega
    · cases bJ
      · rw [oAe e2 a2,oAe e2 b2]
      · have x1:=oAd e2 a2
        have x2:=oAd e2 b2
        obtain ⟨y1,y2,y3⟩:=g2 rfl
        rw [hl] at x1 x2
        unfold loF hiF at x1 x2
        cases h101:cO l 101
        · rw [h101,if_neg Bool.false_ne_true,if_neg Bool.false_ne_true] at x1 x2
          cases h110:cO l 110
          · rw [h110,if_neg Bool.false_ne_true] at x1 x2
            obtain ⟨z1,z2⟩:=y3 h101 h110
            have:=oAb z1;have:=oAb z2;omega
          · rw [h110,if_pos rfl] at x1 x2
            have:=oAb (y2 h101 h110);omega
        · rw [h101,if_pos rfl,if_pos rfl] at x1 x2
          have:=oAb (y1 h101);omega
  have two:∀a b:Bool,∀l:List UInt8,(e.ex==l&&(a&&b))=true→e.ex=l∧a=true∧b=true:=fun a b l h=>by
    obtain ⟨h1,h2⟩:=Bool.and_eq_true_iff.1 h
    obtain ⟨h3,h4⟩:=Bool.and_eq_true_iff.1 h2
    exact ⟨eq_of_beq h1,h3,h4⟩
  have no:∀{b:Bool},(!b)=true→b=false:=fun {b} h=>by cases b;rfl;cases h
  rcases Bool.or_eq_true_iff.1 hN with g | hN
  · obtain ⟨e1,e2,e3⟩:=two _ _ _ g
    exact fin [] e1 false false (no e2) (no e3) (fun h=>by cases h) (fun h=>by cases h)
  rcases Bool.or_eq_true_iff.1 hN with g | hN
  · obtain ⟨e1,e2,e3⟩:=two _ _ _ g
    rw [e1] at h
    exact fin [100] e1 true false e2 (no e3) (fun _=>by injection h) (fun h=>by cases h)
  rcases Bool.or_eq_true_iff.1 hN with g | hN
  · obtain ⟨e1,e2,e3⟩:=two _ _ _ g
    rw [e1] at h
    have h9:eW n=eW n':=by injection h
    exact fin [101] e1 false true (no e2) e3 (fun h=>by cases h) (fun _=>⟨fun _=>h9,fun g _=>absurd g (by decide),fun g _=>absurd g (by decide)⟩)
  rcases Bool.or_eq_true_iff.1 hN with g | hN
  · obtain ⟨e1,e2,e3⟩:=two _ _ _ g
    rw [e1] at h
    have h9:eW n=eW n':=by injection h
    exact fin [110] e1 false true (no e2) e3 (fun h=>by cases h) (fun _=>⟨fun _=>h9,fun _ _=>h9,fun _ g=>absurd g (by decide)⟩)
  rcases Bool.or_eq_true_iff.1 hN with g | g
  · obtain ⟨e1,e2,e3⟩:=two _ _ _ g
    rw [e1] at h
    have h9:[eW n,eW (n / 256)]=[eW n',eW (n' / 256)]:=h
    injection h9 with h8 h9
    injection h9 with h9 _
    exact fin [119] e1 false true (no e2) e3 (fun h=>by cases h) (fun _=>⟨fun _=>h8,fun _ _=>h8,fun _ _=>⟨h8,h9⟩⟩)
  · obtain ⟨e1,e2,e3⟩:=two _ _ _ g
    rw [e1] at h
    have h9:[eW d,eW n]=[eW d',eW n']:=h
    injection h9 with h8 h9
    injection h9 with h9 _
    exact fin [100,110] e1 true true e2 e3 (fun _=>h8) (fun _=>⟨fun _=>h9,fun _ _=>h9,fun _ g=>absurd g (by decide)⟩)
theorem pgB_0 {k:Nat} {T:List UInt8} (hk:k < 256) (h:k≠203∧k≠237∧k≠221∧k≠253):pgB (UInt8.ofNat k::T)=0:=by
  have e0:bAt (UInt8.ofNat k::T) 0=k:=by show (UInt8.ofNat k).toNat=k;rw [UInt8.toNat_ofNat',Nat.mod_eq_of_lt hk]
  unfold pgB
  rw [e0,if_neg h.1,if_neg h.2.1,if_neg h.2.2.1,if_neg h.2.2.2]
theorem pgB_1 (T:List UInt8):pgB (203::T)=1:=by
  have e0:bAt (203::T) 0=203:=rfl
  unfold pgB
  rw [e0,if_pos rfl]
theorem pgB_2 (T:List UInt8):pgB (237::T)=2:=by
  have e0:bAt (237::T) 0=237:=rfl
  unfold pgB
  rw [e0,if_neg (by decide),if_pos rfl]
theorem pgB_3 {k:Nat} {T:List UInt8} (hk:k < 256) (h:k≠203):pgB (221::UInt8.ofNat k::T)=3:=by
  have e0:bAt (221::UInt8.ofNat k::T) 0=221:=rfl
  have e1:bAt (221::UInt8.ofNat k::T) 1=k:=by show (UInt8.ofNat k).toNat=k;rw [UInt8.toNat_ofNat',Nat.mod_eq_of_lt hk]
  unfold pgB
  rw [e0,e1,if_neg (by decide),if_neg (by decide),if_pos rfl,if_neg (fun x=>h x.2)]
theorem pgB_4 {k:Nat} {T:List UInt8} (hk:k < 256) (h:k≠203):pgB (253::UInt8.ofNat k::T)=4:=by
  have e0:bAt (253::UInt8.ofNat k::T) 0=253:=rfl
  have e1:bAt (253::UInt8.ofNat k::T) 1=k:=by show (UInt8.ofNat k).toNat=k;rw [UInt8.toNat_ofNat',Nat.mod_eq_of_lt hk]
  unfold pgB
  rw [e0,e1,if_neg (by decide),if_neg (by decide),if_neg (by decide),if_pos rfl,if_neg (fun x=>h x.2)]
theorem pgB_5 (T:List UInt8):pgB (221::203::T)=5:=by
  have e0:bAt (221::203::T) 0=221:=rfl
  have e1:bAt (221::203::T) 1=203:=rfl
  unfold pgB
  rw [e0,e1,if_neg (by decide),if_neg (by decide),if_pos rfl,if_pos ⟨by rw [List.length_cons,List.length_cons];omega,rfl⟩]
theorem pgB_6 (T:List UInt8):pgB (253::203::T)=6:=by
  have e0:bAt (253::203::T) 0=253:=rfl
  have e1:bAt (253::203::T) 1=203:=rfl
  unfold pgB
  rw [e0,e1,if_neg (by decide),if_neg (by decide),if_neg (by decide),if_pos rfl,if_pos ⟨by rw [List.length_cons,List.length_cons];omega,rfl⟩]
theorem oBo {e:aL} {p k:Nat} (h1:e.pg=p) (h2:e.op=k) (h5:p < 5) (d n:Int):kI e d n=(aR p++[UInt8.ofNat k])++e.ex.flatMap (jN d n):=by
  unfold kI
  rw [h1,h2,if_neg (by omega)]
theorem oBn {e:aL} {p k:Nat} (h1:e.pg=p) (h2:e.op=k) (h5:5≤p) (d n:Int):kI e d n=aR p++[eW d]++[UInt8.ofNat k]:=by
  unfold kI
  rw [h1,h2,if_pos (by omega)]
theorem oBq {e:aL} {p k:Nat} (hp:p < 7) (hk:k < 256) (hN:EntN p k e) (h1:e.pg=p) (h2:e.op=k) (d n:Int):pgB (kI e d n)=p∧pos p < (kI e d n).length∧bAt (kI e d n) (pos p)=k:=by
  have hu:(UInt8.ofNat k).toNat=k:=by rw [UInt8.toNat_ofNat',Nat.mod_eq_of_lt hk]
  have hc:p=0∨p=1∨p=2∨p=3∨p=4∨p=5∨p=6:=by omega
  by_cases h5:p < 5
  · rw [oBo h1 h2 h5]
    generalize e.ex.flatMap (jN d n)=T
    rcases hc with rfl | rfl | rfl | rfl | rfl | rfl | rfl
    · exact ⟨pgB_0 hk (hN.p0 rfl),Nat.zero_lt_succ _,hu⟩
    · exact ⟨pgB_1 _,by show 1 < (203::UInt8.ofNat k::T).length;simp,hu⟩
    · exact ⟨pgB_2 _,by show 1 < (237::UInt8.ofNat k::T).length;simp,hu⟩
    · exact ⟨pgB_3 hk (hN.p3 (.inl rfl)),by show 1 < (221::UInt8.ofNat k::T).length;simp,hu⟩
    · exact ⟨pgB_4 hk (hN.p3 (.inr rfl)),by show 1 < (253::UInt8.ofNat k::T).length;simp,hu⟩
    · omega
    · omega
  · rw [oBn h1 h2 (by omega)]
    rcases hc with rfl | rfl | rfl | rfl | rfl | rfl | rfl
    · omega
    · omega
    · omega
    · omega
    · omega
    · exact ⟨pgB_5 _,by show 3 < 4;decide,hu⟩
    · exact ⟨pgB_6 _,by show 3 < 4;decide,hu⟩
theorem oAu {e:aL} {p k:Nat} (E:oAj e p k) {d n:Int} {c:List Opd} (h:yC e d n c):(kI e d n).length=gX e∧itF (kI e d n)=⟨1,gX e,e.iop,c,e.al⟩:=by
  have hl:(kI e d n).length=gX e:=by
    have h1:=oBm e E.W d n
    have h2:=LA e.ex
    unfold gX
    omega
  refine ⟨hl,?_⟩
  obtain ⟨h1,h2,h3⟩:=oBq E.hp E.hk E.N E.pg E.op d n
  obtain ⟨d',n',c',B⟩:=oBf E h1 h3 (Nat.le_of_eq hl.symm) h2
  have he:=B.enc
  rw [←hl,List.take_length] at he
  have hfm:e.ex.flatMap (jN d n)=e.ex.flatMap (jN d' n'):=by
    unfold kI at he
    by_cases h5:5≤e.pg
    · rw [if_pos h5,if_pos h5] at he
      have h4:=List.append_cancel_left (List.append_cancel_right he)
      rw [E.W.hi h5]
      exact h4.symm
    · rw [if_neg h5,if_neg h5] at he
      exact (List.append_cancel_left he).symm
  obtain ⟨rfl,rfl⟩:=oBs E.N.ex h B.fil hfm
  have h6:=(xK E.ok).2 h
  rw [(xK E.ok).2 B.fil] at h6
  rw [B.it,Option.some.inj h6]
end Go.Proofs.YtmpmciccgempeaaGreatDoor
