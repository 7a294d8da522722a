/-
  Which operands have the same text. Conditions: none. Which legal instructions have the same text. Conditions: none.
-/
import Derived.Test.YtcgheipmnphbjaaGreatDoorOB
namespace Go.Proofs.YtcgheipmnphbjaaGreatDoor
open Go.RowKit Go.Shelf Go.Sort
theorem oHk:∀a b:Fin 16,DA.getD a.val 0=DA.getD b.val 0→a=b:=by decide
theorem oGi:∀(k n m:Nat),n < 16 ^ k→m < 16 ^ k→qG n k=qG m k→n=m
  | 0,n,m,hn,hm,_=>by rw [Nat.pow_zero] at hn hm;omega
  | k+1,n,m,hn,hm,h=>by
    rw [qG,qG] at h
    have hl:=List.append_inj' h rfl
    have h1:=oGi k (n / 16) (m / 16) (by rw [Nat.pow_succ] at hn;omega) (by rw [Nat.pow_succ] at hm;omega) hl.1
    have h2:=oHk ⟨n % 16,Nat.mod_lt _ (by decide)⟩ ⟨m % 16,Nat.mod_lt _ (by decide)⟩ (List.head_eq_of_cons_eq hl.2)
    have h3:n % 16=m % 16:=congrArg Fin.val h2
    omega
theorem oGd {n:Nat} (h0:10≤n) (h:n < 65536):∃c t,oCo n=c::t∧c≠48∧(oHl n=false→48 < c.toNat∧c.toNat≤57):=by
  obtain ⟨t,h1,h2,h3⟩:=oBm h
  have h4:=h3 h0
  have z:=oCg ⟨_,h2⟩
  have g:=oCw ⟨_,h2⟩
  dsimp only at z g
  refine ⟨_,t,h1,fun e=>?_,fun hb=>?_⟩
  · rw [e] at z
    have:=z.symm.trans (by decide:((48:UInt8)==48)=true)
    have:=of_decide_eq_true this
    omega
  · have hb:¬10≤n / 16 ^ (oAf n - 1):=of_decide_eq_false hb
    have h5:¬57 < (DA.getD (n / 16 ^ (oAf n - 1)) 0).toNat:=of_decide_eq_false (g.1.trans (decide_eq_false hb))
    have h6:∀d:Fin 16,48≤(DA.getD d.val 0).toNat:=by decide
    have h7:=h6 ⟨_,h2⟩
    dsimp only at h7
    have h8:(DA.getD (n / 16 ^ (oAf n - 1)) 0).toNat≠48:=fun e=>by
      have:DA.getD (n / 16 ^ (oAf n - 1)) 0=48:=UInt8.toNat_inj.1 e
      rw [this] at z
      have:=of_decide_eq_true (z.symm.trans (by decide:((48:UInt8)==48)=true))
      omega
    omega
theorem oHf {n m:Nat} (hn:10≤n) (hn2:n < 65536) (hm:10≤m) (hm2:m < 65536) (h:nzH n=nzH m):n=m:=by
  obtain ⟨c,t,h1,h2,h3⟩:=oGd hn hn2
  obtain ⟨d,u,g1,g2,g3⟩:=oGd hm hm2
  have key:oCo n=oCo m:=by
    unfold nzH at h
    cases b1:oHl n<;>cases b2:oHl m<;>rw [b1,b2] at h
    · exact h
    · rw [h1] at h
      exact absurd (List.head_eq_of_cons_eq h) h2
    · rw [g1] at h
      exact absurd (List.head_eq_of_cons_eq h).symm g2
    · exact List.tail_eq_of_cons_eq h
  have hl:=congrArg List.length key
  unfold oCo at key hl
  rw [oAk,oAk] at hl
  rw [hl] at key
  exact oGi _ n m (by rw [←hl];exact oDa hn2) (oDa hm2) key
theorem oGg {n m:Int} (hn:0≤n) (hn2:n≤65535) (hm:0≤m) (hm2:m≤65535) (h:oAc n=oAc m):n=m:=by
  have lenN:∀k:Int,0≤k→k≤65535→¬k < 10→2≤(oAc k).length:=fun k h0 h1 h2=>by
    unfold oAc
    rw [if_neg (by omega),if_neg h2]
    have h3:=(oAi k.toNat).1
    unfold nzH oCo
    split<;>simp [oAk]<;>omega
  have lenS:∀k:Int,0≤k→k < 10→oAc k=qG k.toNat 1:=fun k h0 h1=>by
    unfold oAc
    rw [if_neg (by omega),if_pos h1]
  by_cases a:n < 10<;>by_cases b:m < 10
  · rw [lenS n hn a,lenS m hm b] at h
    have:=oGi 1 _ _ (by omega) (by omega) h
    omega
  · have:=lenN m hm hm2 b
    rw [←h,lenS n hn a,oAk] at this
    omega
  · have:=lenN n hn hn2 a
    rw [h,lenS m hm b,oAk] at this
    omega
  · unfold oAc at h
    rw [if_neg (by omega),if_neg a,if_neg (by omega),if_neg b] at h
    have:=oHf (by omega) (by omega) (by omega) (by omega) (List.append_inj' h rfl).1
    omega
theorem oGe {n:Int} (h0:0≤n) (h1:n≤65535):∃c t,oAc n=c::t∧48≤c.toNat∧c.toNat≤57:=by
  unfold oAc
  rw [if_neg (by omega)]
  by_cases a:n < 10
  · rw [if_pos a]
    have h6:∀d:Fin 10,48≤(DA.getD (d.val % 16) 0).toNat∧(DA.getD (d.val % 16) 0).toNat≤57:=by decide
    exact ⟨_,[],rfl,(h6 ⟨n.toNat,by omega⟩).1,(h6 ⟨n.toNat,by omega⟩).2⟩
  · rw [if_neg a]
    unfold nzH
    cases b:oHl n.toNat
    · obtain ⟨c,t,g1,_,g3⟩:=oGd (n:=n.toNat) (by omega) (by omega)
      rw [if_neg (by decide),g1]
      exact ⟨c,t++[72],rfl,by have:=(g3 b).1;omega,(g3 b).2⟩
    · rw [if_pos rfl]
      exact ⟨48,_,rfl,by decide,by decide⟩
theorem oGh {n m:Int} (hn:-65535≤n) (hn2:n≤65535) (hm:-65535≤m) (hm2:m≤65535) (h:oAg n=oAg m):n=m:=by
  unfold oAg at h
  by_cases a:n < 0<;>by_cases b:m < 0
  · rw [if_pos a,if_pos b] at h
    have:=oGg (by omega) (by omega) (by omega) (by omega) (List.tail_eq_of_cons_eq h)
    omega
  · rw [if_pos a,if_neg b] at h
    exact absurd (List.head_eq_of_cons_eq h) (by decide)
  · rw [if_neg a,if_pos b] at h
    exact absurd (List.head_eq_of_cons_eq h) (by decide)
  · rw [if_neg a,if_neg b] at h
    exact oGg (by omega) (by omega) (by omega) (by omega) (List.tail_eq_of_cons_eq h)
theorem oGs (n:Int):∃c t,oAg n=c::t∧(c=43∨c=45):=by
  unfold oAg
  split
  · exact ⟨45,_,rfl,.inr rfl⟩
  · exact ⟨43,_,rfl,.inl rfl⟩
def oHe (l:List UInt8):Nat:=
  if l.headD 0=36 then 10
  else if l.headD 0=40 then (if 48≤(l.getD 1 0).toNat∧(l.getD 1 0).toNat≤57 then 7 else if l.getD 3 0=43∨l.getD 3 0=45 then 5 else 0)
  else if l.headD 0=45∨(48≤(l.headD 0).toNat∧(l.headD 0).toNat≤57) then 6 else 0
def oHg:List (Int × Int × List UInt8):=([1,2,3,4,8,9]:List Int).flatMap fun k=>([0,1,2,3,4,5,6,7,8]:List Int).filterMap fun r=>if (aQ k r).toList=[] then none else some (k,r,(aQ k r).toList)
theorem oGz:∀x∈oHg,oHe x.2.2=0:=by decide+kernel
theorem oHa:∀x∈oHg,∀y∈oHg,x.2.2=y.2.2→(x.1=y.1∧x.2.1=y.2.1)∨(x.1=1∧y.1=8)∨(x.1=8∧y.1=1):=by decide+kernel
theorem name5 {r:Int} (h:((aQ 5 r).toList==[])=false):(r=5∧(aQ 5 r).toList=[73,88])∨(r=6∧(aQ 5 r).toList=[73,89]):=by
  obtain ⟨h0,h9⟩:=fY h
  have hr:r=0∨r=1∨r=2∨r=3∨r=4∨r=5∨r=6∨r=7∨r=8:=by omega
  rcases hr with rfl | rfl | rfl | rfl | rfl | rfl | rfl | rfl | rfl
  · exact absurd h (by decide+kernel)
  · exact absurd h (by decide+kernel)
  · exact absurd h (by decide+kernel)
  · exact absurd h (by decide+kernel)
  · exact absurd h (by decide+kernel)
  · exact .inl ⟨rfl,by decide+kernel⟩
  · exact .inr ⟨rfl,by decide+kernel⟩
  · exact absurd h (by decide+kernel)
  · exact absurd h (by decide+kernel)
inductive OpS (o:Opd):Prop
  | idx (h:o.kind=5) (r:o.reg=5∧opT o=40::73::88::(oAg o.n++[41])∨o.reg=6∧opT o=40::73::89::(oAg o.n++[41])) (n:-128≤o.n∧o.n≤127)
  | imm (h:o.kind=6) (r:o.reg=0) (n:-32768≤o.n∧o.n≤65535) (t:opT o=if o.n < 0 then oAg o.n else oAc o.n)
  | mem (h:o.kind=7) (r:o.reg=0) (n:0≤o.n∧o.n≤65535) (t:opT o=40::(oAc o.n++[41]))
  | rel (h:o.kind=10) (r:o.reg=0) (n:-128≤o.n∧o.n≤127) (t:opT o=36::oAg (o.n+2))
  | reg (h:(o.kind,o.reg,opT o)∈oHg) (n:o.n=0)
theorem opS {o:Opd} (h:aC o=true):OpS o:=by
  have hT:opT o=opT o:=rfl
  conv at hT=>{rhs;unfold opT;rw [if_pos h]}
  unfold aC at h
  obtain ⟨k,r,n⟩:=o
  dsimp only at *
  by_cases h5:k=5
  · subst h5
    rw [if_neg (by decide),if_pos (by decide)] at h
    rw [if_pos rfl] at hT
    simp only [Bool.and_eq_true,decide_eq_true_eq,Bool.not_eq_true'] at h
    rcases name5 h.1.1 with ⟨e1,e2⟩ | ⟨e1,e2⟩
    · exact .idx rfl (.inl ⟨e1,by rw [hT,e2];rfl⟩) ⟨h.1.2,h.2⟩
    · exact .idx rfl (.inr ⟨e1,by rw [hT,e2];rfl⟩) ⟨h.1.2,h.2⟩
  by_cases h6:k=6
  · subst h6
    rw [if_neg (by decide),if_neg (by decide),if_pos (by decide)] at h
    rw [if_neg (by decide),if_pos rfl] at hT
    simp only [Bool.and_eq_true,decide_eq_true_eq,beq_iff_eq] at h
    exact .imm rfl h.1.1 ⟨h.1.2,h.2⟩ hT
  by_cases h7:k=7
  · subst h7
    rw [if_neg (by decide),if_neg (by decide),if_neg (by decide),if_pos (by decide)] at h
    rw [if_neg (by decide),if_neg (by decide),if_pos rfl] at hT
    simp only [Bool.and_eq_true,decide_eq_true_eq,beq_iff_eq] at h
    exact .mem rfl h.1.1 ⟨h.1.2,h.2⟩ hT
  by_cases h10:k=10
  · subst h10
    rw [if_neg (by decide),if_neg (by decide),if_neg (by decide),if_neg (by decide),if_pos (by decide)] at h
    rw [if_neg (by decide),if_neg (by decide),if_neg (by decide),if_pos rfl] at hT
    simp only [Bool.and_eq_true,decide_eq_true_eq,beq_iff_eq] at h
    exact .rel rfl h.1.1 ⟨h.1.2,h.2⟩ hT
  rw [if_neg h5,if_neg h6,if_neg h7,if_neg h10] at hT
  have b5:(k==5)=false:=by rw [beq_eq_false_iff_ne];exact h5
  have b6:(k==6)=false:=by rw [beq_eq_false_iff_ne];exact h6
  have b7:(k==7)=false:=by rw [beq_eq_false_iff_ne];exact h7
  have b10:(k==10)=false:=by rw [beq_eq_false_iff_ne];exact h10
  rw [b5,b6,b7,b10] at h
  split at h
  · rename_i hk
    simp only [Bool.and_eq_true,Bool.not_eq_true',beq_iff_eq] at h
    obtain ⟨g0,g9⟩:=fY h.1
    refine .reg ?_ h.2
    dsimp only
    rw [hT]
    unfold oHg
    rw [List.mem_flatMap]
    have hk2:k∈([1,2,3,4,8,9]:List Int):=by
      simp only [Bool.or_eq_true,beq_iff_eq] at hk
      simp only [List.mem_cons,List.not_mem_nil,or_false]
      omega
    refine ⟨k,hk2,List.mem_filterMap.2 ⟨r,?_,?_⟩⟩
    · simp only [List.mem_cons,List.not_mem_nil,or_false];omega
    · rw [if_neg (fun e=>by have:=h.1;rw [e] at this;cases this)]
  · simp at h
theorem oHm {n:Int} (h0:0≤n) (h1:n≤65535):oHe (oAc n)=6:=by
  obtain ⟨c,t,e,h2,h3⟩:=oGe h0 h1
  have n1:¬c=36:=fun e=>by subst e;revert h2;decide
  have n2:¬c=40:=fun e=>by subst e;revert h2;decide
  rw [e]
  unfold oHe
  rw [List.headD_cons,if_neg n1,if_neg n2,if_pos (.inr ⟨h2,h3⟩)]
theorem oHh (a b:UInt8) (n:Int) (ha:¬(48≤a.toNat∧a.toNat≤57)):oHe (40::a::b::(oAg n++[41]))=5:=by
  obtain ⟨c,t,e,h2⟩:=oGs n
  rw [e]
  unfold oHe
  rw [List.headD_cons,if_neg (by decide),if_pos rfl]
  show (if 48≤a.toNat∧a.toNat≤57 then 7 else if c=43∨c=45 then 5 else 0)=5
  rw [if_neg ha,if_pos h2]
theorem OpS.cls {o:Opd} (h:OpS o):oHe (opT o)=if o.kind=5∨o.kind=6∨o.kind=7∨o.kind=10 then o.kind.toNat else 0:=by
  cases h with
  | idx h r n=>
    rw [h,if_pos (.inl rfl)]
    rcases r with ⟨_,r⟩ | ⟨_,r⟩<;>rw [r]<;>exact oHh _ _ _ (by decide)
  | imm h r n t=>
    rw [h,if_pos (.inr (.inl rfl)),t]
    split
    · unfold oAg
      rw [if_pos (by assumption)]
      rfl
    · exact oHm (by omega) (by omega)
  | mem h r n t=>
    rw [h,if_pos (.inr (.inr (.inl rfl))),t]
    obtain ⟨c,u,e,h2,h3⟩:=oGe n.1 n.2
    rw [e]
    unfold oHe
    rw [List.headD_cons,if_neg (by decide),if_pos rfl]
    show (if 48≤c.toNat∧c.toNat≤57 then 7 else _)=7
    rw [if_pos ⟨h2,h3⟩]
  | rel h r n t=>
    rw [h,if_pos (.inr (.inr (.inr rfl))),t]
    rfl
  | reg h n=>
    have h1:=oGz _ h
    have h2:∀x∈oHg,¬(x.1=5∨x.1=6∨x.1=7∨x.1=10):=by decide+kernel
    dsimp only at h1
    rw [h1,if_neg (h2 _ h)]
theorem oHj {o p:Opd} (ho:aC o=true) (hp:aC p=true) (h:opT o=opT p):o=p∨(o.kind=1∧p.kind=8)∨(o.kind=8∧p.kind=1):=by
  have so:=opS ho
  have sp:=opS hp
  have hc:=(so.cls.symm.trans (congrArg oHe h)).trans sp.cls
  have ext:∀{a b:Opd},a.kind=b.kind→a.reg=b.reg→a.n=b.n→a=b:=fun {a b} h1 h2 h3=>by
    cases a;cases b;dsimp only at h1 h2 h3;rw [h1,h2,h3]
  have nk:∀x∈oHg,¬(x.1=5∨x.1=6∨x.1=7∨x.1=10):=by decide+kernel
  have five:∀{a b:Int},40::73::88::(oAg a++[41])=40::73::89::(oAg b++[41])→False:=fun {a b} e=>absurd (List.head_eq_of_cons_eq (List.tail_eq_of_cons_eq (List.tail_eq_of_cons_eq e))) (by decide)
  cases so with
  | idx k r n=>
    rw [k,if_pos (.inl rfl)] at hc
    cases sp with
    | idx k2 r2 n2=>
      left
      rcases r with ⟨r,t⟩ | ⟨r,t⟩<;>rcases r2 with ⟨r2,t2⟩ | ⟨r2,t2⟩<;>rw [t,t2] at h
      · exact ext (by rw [k,k2]) (by rw [r,r2]) (oGh (by omega) (by omega) (by omega) (by omega) (List.append_inj' (List.tail_eq_of_cons_eq (List.tail_eq_of_cons_eq (List.tail_eq_of_cons_eq h))) rfl).1)
      · exact (five h).elim
      · exact (five h.symm).elim
      · exact ext (by rw [k,k2]) (by rw [r,r2]) (oGh (by omega) (by omega) (by omega) (by omega) (List.append_inj' (List.tail_eq_of_cons_eq (List.tail_eq_of_cons_eq (List.tail_eq_of_cons_eq h))) rfl).1)
    | imm k2 _ _ _=>rw [k2] at hc;exact absurd hc (by decide)
    | mem k2 _ _ _=>rw [k2] at hc;exact absurd hc (by decide)
    | rel k2 _ _ _=>rw [k2] at hc;exact absurd hc (by decide)
    | reg h2 _=>rw [if_neg (nk _ h2)] at hc;exact absurd hc (by decide)
  | imm k r n t=>
    rw [k,if_pos (.inr (.inl rfl))] at hc
    cases sp with
    | idx k2 _ _=>rw [k2] at hc;exact absurd hc (by decide)
    | imm k2 r2 n2 t2=>
      left
      rw [t,t2] at h
      refine ext (by rw [k,k2]) (by rw [r,r2]) ?_
      have sg:∀{a b:Int},0≤a→a≤65535→b < 0→oAc a=oAg b→False:=fun {a b} h0 h1 h2 e=>by
        obtain ⟨c,u,e2,g1,g2⟩:=oGe h0 h1
        unfold oAg at e
        rw [e2,if_pos h2] at e
        have:=List.head_eq_of_cons_eq e
        subst this
        revert g1
        decide
      by_cases a:o.n < 0<;>by_cases b:p.n < 0
      · rw [if_pos a,if_pos b] at h;exact oGh (by omega) (by omega) (by omega) (by omega) h
      · rw [if_pos a,if_neg b] at h;exact (sg (by omega) (by omega) a h.symm).elim
      · rw [if_neg a,if_pos b] at h;exact (sg (by omega) (by omega) b h).elim
      · rw [if_neg a,if_neg b] at h;exact oGg (by omega) (by omega) (by omega) (by omega) h
    | mem k2 _ _ _=>rw [k2] at hc;exact absurd hc (by decide)
    | rel k2 _ _ _=>rw [k2] at hc;exact absurd hc (by decide)
    | reg h2 _=>rw [if_neg (nk _ h2)] at hc;exact absurd hc (by decide)
  | mem k r n t=>
    rw [k,if_pos (.inr (.inr (.inl rfl)))] at hc
    cases sp with
    | idx k2 _ _=>rw [k2] at hc;exact absurd hc (by decide)
    | imm k2 _ _ _=>rw [k2] at hc;exact absurd hc (by decide)
    | mem k2 r2 n2 t2=>
      left
      rw [t,t2] at h
      exact ext (by rw [k,k2]) (by rw [r,r2]) (oGg n.1 n.2 n2.1 n2.2 (List.append_inj' (List.tail_eq_of_cons_eq h) rfl).1)
    | rel k2 _ _ _=>rw [k2] at hc;exact absurd hc (by decide)
    | reg h2 _=>rw [if_neg (nk _ h2)] at hc;exact absurd hc (by decide)
  | rel k r n t=>
    rw [k,if_pos (.inr (.inr (.inr rfl)))] at hc
    cases sp with
    | idx k2 _ _=>rw [k2] at hc;exact absurd hc (by decide)
    | imm k2 _ _ _=>rw [k2] at hc;exact absurd hc (by decide)
    | mem k2 _ _ _=>rw [k2] at hc;exact absurd hc (by decide)
    | rel k2 r2 n2 t2=>
      left
      rw [t,t2] at h
      have:=oGh (by omega) (by omega) (by omega) (by omega) (List.tail_eq_of_cons_eq h)
      exact ext (by rw [k,k2]) (by rw [r,r2]) (by omega)
    | reg h2 _=>rw [if_neg (nk _ h2)] at hc;exact absurd hc (by decide)
  | reg h1 n=>
    rw [if_neg (nk _ h1)] at hc
    cases sp with
    | idx k2 _ _=>rw [k2] at hc;exact absurd hc (by decide)
    | imm k2 _ _ _=>rw [k2] at hc;exact absurd hc (by decide)
    | mem k2 _ _ _=>rw [k2] at hc;exact absurd hc (by decide)
    | rel k2 _ _ _=>rw [k2] at hc;exact absurd hc (by decide)
    | reg h2 n2=>
      rcases oHa _ h1 _ h2 h with ⟨e1,e2⟩ | e | e
      · exact .inl (ext e1 e2 (by rw [n,n2]))
      · exact .inr (.inl e)
      · exact .inr (.inr e)
theorem cutG:∀(x y A B:List UInt8),x.all gdC=true→y.all gdC=true→(∀c t,A=c::t→gdC c=false)→(∀c t,B=c::t→gdC c=false)→x++A=y++B→x=y∧A=B
  | [],[],_,_,_,_,_,_,h=>⟨rfl,h⟩
  | [],b::y,A,B,_,hy,hA,_,h=>by
    have:=hA b (y++B) h
    rw [List.all_cons,this] at hy
    cases hy
  | a::x,[],A,B,hx,_,_,hB,h=>by
    have:=hB a (x++A) h.symm
    rw [List.all_cons,this] at hx
    cases hx
  | a::x,b::y,A,B,hx,hy,hA,hB,h=>by
    rw [List.all_cons] at hx hy
    have h1:a=b:=List.head_eq_of_cons_eq h
    obtain ⟨h2,h3⟩:=cutG x y A B (Bool.and_eq_true_iff.1 hx).2 (Bool.and_eq_true_iff.1 hy).2 hA hB (List.tail_eq_of_cons_eq h)
    exact ⟨by rw [h1,h2],h3⟩
theorem oGc (l:List (List UInt8)):∀c t,Lib.joinTail [44] l=c::t→gdC c=false:=by
  cases l with
  | nil=>intro c t h;cases h
  | cons x r=>
    intro c t h
    have:44=c:=List.head_eq_of_cons_eq h
    rw [←this]
    decide
theorem oGl:∀(a b:List (List UInt8)),(∀x∈a,gdL x)→(∀x∈b,gdL x)→Lib.joinTail [44] a=Lib.joinTail [44] b→a=b
  | [],[],_,_,_=>rfl
  | [],_::_,_,_,h=>by cases h
  | _::_,[],_,_,h=>by cases h
  | x::r,y::s,ha,hb,h=>by
    have h:44::(x++Lib.joinTail [44] r)=44::(y++Lib.joinTail [44] s):=h
    obtain ⟨h1,h2⟩:=cutG x y _ _ (ha x List.mem_cons_self).2 (hb y List.mem_cons_self).2 (oGc r) (oGc s) (List.tail_eq_of_cons_eq h)
    rw [h1,oGl r s (fun z hz=>ha z (List.mem_cons_of_mem _ hz)) (fun z hz=>hb z (List.mem_cons_of_mem _ hz)) h2]
theorem oHc:∀(a b:List (List UInt8)),(∀x∈a,gdL x)→(∀x∈b,gdL x)→Lib.join a [44]=Lib.join b [44]→a=b
  | [],[],_,_,_=>rfl
  | [],y::s,_,hb,h=>by
    rw [Lib.join_cons] at h
    exact absurd (List.append_eq_nil_iff.1 h.symm).1 (hb y List.mem_cons_self).1
  | x::r,[],ha,_,h=>by
    rw [Lib.join_cons] at h
    exact absurd (List.append_eq_nil_iff.1 h).1 (ha x List.mem_cons_self).1
  | x::r,y::s,ha,hb,h=>by
    rw [Lib.join_cons,Lib.join_cons] at h
    obtain ⟨h1,h2⟩:=cutG x y _ _ (ha x List.mem_cons_self).2 (hb y List.mem_cons_self).2 (oGc r) (oGc s) h
    rw [h1,oGl r s (fun z hz=>ha z (List.mem_cons_of_mem _ hz)) (fun z hz=>hb z (List.mem_cons_of_mem _ hz)) h2]
theorem oHd {s t:List UInt8} {l m:List Opd} (hs:s.all gdC=true) (ht:t.all gdC=true) (hl:∀o∈l,aC o=true) (hm:∀o∈m,aC o=true) (h:oEr s l=oEr t m):s=t∧l.map opT=m.map opT:=by
  have form:∀(s:List UInt8) (l:List Opd),oEr s l=s++(if l=[] then [] else 32::oBp l):=fun s l=>by
    unfold oEr
    split
    · rw [List.append_nil]
    · rfl
  rw [form,form] at h
  have hd:∀(l:List Opd) c t,(if l=[] then ([]:List UInt8) else 32::oBp l)=c::t→gdC c=false:=fun l c t e=>by
    split at e
    · cases e
    · rw [←List.head_eq_of_cons_eq e];decide
  obtain ⟨h1,h2⟩:=cutG s t _ _ hs ht (hd l) (hd m) h
  refine ⟨h1,?_⟩
  have gd:∀{l:List Opd},(∀o∈l,aC o=true)→∀x∈l.map opT,gdL x:=fun {l} hl x hx=>by
    obtain ⟨o,ho,rfl⟩:=List.mem_map.1 hx
    exact oEq (hl o ho)
  by_cases e1:l=[]<;>by_cases e2:m=[]
  · rw [e1,e2]
  · rw [if_pos e1,if_neg e2] at h2;cases h2
  · rw [if_neg e1,if_pos e2] at h2;cases h2
  · rw [if_neg e1,if_neg e2] at h2
    exact oHc _ _ (gd hl) (gd hm) (List.tail_eq_of_cons_eq h2)
def isJ (s:List UInt8):Bool:=decide (s=[74,80]) || (decide (s=[74,82]) || (decide (s=[67,65,76,76]) || decide (s=[82,69,84])))
def chkJ (p:Int) (x:Nat):Bool:=match (atF p x).1 with
  | some e=>if isJ e.iop=true then e.args.all fun o=>decide (o.kind≠1) else e.args.all fun o=>decide (o.kind≠8)
  | none=>true
theorem ckj:∀p:Fin 7,∀x:Fin 256,chkJ p.val x.val=true:=by decide+kernel
theorem oGu {c l:List Opd} (h:c.map kr=l.map kr) {k:Int} (hl:(l.all fun o=>decide (o.kind≠k))=true):∀o∈c,o.kind≠k:=by
  intro o ho
  have:kr o∈l.map kr:=h ▸ List.mem_map.2 ⟨o,ho,rfl⟩
  obtain ⟨q,hq,e⟩:=List.mem_map.1 this
  unfold kr at e
  injection e with e1 e2
  have:=of_decide_eq_true (List.all_eq_true.1 hl q hq)
  rw [←e1]
  exact this
theorem oGm {x:Ins} (h:tI x=true):(isJ x.op.data.toList=true→∀o∈(aE x).args,o.kind≠1)∧(isJ x.op.data.toList=false→∀o∈(aE x).args,o.kind≠8):=by
  obtain ⟨e,hR⟩:=oFf h
  obtain ⟨p,k,F⟩:=fnd11 hR
  have hc:=ckj ⟨p,F.hp⟩ ⟨k,F.hk⟩
  unfold chkJ at hc
  dsimp only at hc
  rw [F.at'] at hc
  dsimp only at hc
  rw [show x.op.data.toList=e.iop by rw [F.iop]]
  cases hj:isJ e.iop
  · rw [hj,if_neg (by decide)] at hc
    exact ⟨fun h=>(by cases h),fun _=>oGu F.fil.k hc⟩
  · rw [hj,if_pos rfl] at hc
    exact ⟨fun _=>oGu F.fil.k hc,fun h=>(by cases h)⟩
theorem oGw:∀{l m:List Opd},(∀o∈l,aC o=true)→(∀o∈m,aC o=true)→((∀o∈l,o.kind≠1)∧(∀o∈m,o.kind≠1)∨(∀o∈l,o.kind≠8)∧(∀o∈m,o.kind≠8))→l.map opT=m.map opT→l=m
  | [],[],_,_,_,_=>rfl
  | [],_::_,_,_,_,h=>by cases h
  | _::_,[],_,_,_,h=>by cases h
  | o::l,q::m,hl,hm,hk,h=>by
    rw [List.map_cons,List.map_cons] at h
    have h1:=oHj (hl o List.mem_cons_self) (hm q List.mem_cons_self) (List.head_eq_of_cons_eq h)
    have h2:o=q:=by
      rcases h1 with h1 | ⟨a,b⟩ | ⟨a,b⟩
      · exact h1
      · rcases hk with ⟨g1,_⟩ | ⟨_,g2⟩
        · exact absurd a (g1 o List.mem_cons_self)
        · exact absurd b (g2 q List.mem_cons_self)
      · rcases hk with ⟨_,g2⟩ | ⟨g1,_⟩
        · exact absurd b (g2 q List.mem_cons_self)
        · exact absurd a (g1 o List.mem_cons_self)
    rw [h2,oGw (fun z hz=>hl z (List.mem_cons_of_mem _ hz)) (fun z hz=>hm z (List.mem_cons_of_mem _ hz)) (hk.imp (fun g=>⟨fun z hz=>g.1 z (List.mem_cons_of_mem _ hz),fun z hz=>g.2 z (List.mem_cons_of_mem _ hz)⟩) (fun g=>⟨fun z hz=>g.1 z (List.mem_cons_of_mem _ hz),fun z hz=>g.2 z (List.mem_cons_of_mem _ hz)⟩)) (List.tail_eq_of_cons_eq h)]
theorem oGr {x y:Ins} (hx:tI x=true) (hy:tI y=true):decide (oBa x=oBa y)=fG (aE x) (aE y):=by
  rw [oAr hx,oAr hy]
  obtain ⟨v1,g1⟩:=oAz hx
  obtain ⟨v2,g2⟩:=oAz hy
  have k1:=oGm hx
  have k2:=oGm hy
  have hop:(aE x).op=x.op:=rfl
  have hop2:(aE y).op=y.op:=rfl
  unfold fG
  rw [hop,hop2]
  have ext:∀{a b:ByteArray},a.data.toList=b.data.toList→a=b:=fun {a b} h=>by
    cases a;cases b
    congr 1
    exact Array.toList_inj.1 h
  rw [Bool.eq_iff_iff,decide_eq_true_iff]
  constructor
  · intro h
    obtain ⟨h1,h2⟩:=oHd g1.2 g2.2 v1 v2 h
    have h3:(aE x).args=(aE y).args:=oGw v1 v2 (by
      rw [h1] at k1
      cases hj:isJ y.op.data.toList
      · exact .inr ⟨k1.2 hj,k2.2 hj⟩
      · exact .inl ⟨k1.1 hj,k2.1 hj⟩) h2
    simp [ext h1,h3]
  · intro h
    simp at h
    rw [h.1,h.2]
end Go.Proofs.YtcgheipmnphbjaaGreatDoor
