/-
  The canonical form: canon.Of and what it computes. breadboardlaw11.short; an encoding has the code OK. breadboardref13.Few, Raw, Check; items.Offsets. ARGUMENTS OPENED: a list of items. Conditions: sizes.
-/
import Derived.Test.YtcgheipmnphbjaaGreatDoorBL1
import Derived.Test.YtcgheipmnphbjaaGreatDoorBS1
namespace Go.Proofs.YtcgheipmnphbjaaGreatDoor
open Go.RowKit Go.Sort
end Go.Proofs.YtcgheipmnphbjaaGreatDoor
namespace Go.Proofs.YtcgheipmnphbjaaGreatDoor
open Go.RowKit
end Go.Proofs.YtcgheipmnphbjaaGreatDoor
namespace Go.Proofs.YtcgheipmnphbjaaGreatDoor
open Go.RowKit Go.Sort
end Go.Proofs.YtcgheipmnphbjaaGreatDoor
namespace Go.Proofs.YtcgheipmnphbjaaGreatDoor
open Go.RowKit
def uR (x:Ins):Bool:=decide (x.op.size≤100)&&decide (x.args.length≤20)
end Go.Proofs.YtcgheipmnphbjaaGreatDoor
namespace Go.Proofs.YtcgheipmnphbjaaGreatDoor
open Go.RowKit Go.Shelf Go.Sort
def yP (x : It) : Bool := decide (x.raw.length ≤ 100) && (decide (x.args.length ≤ 20) && decide ((⟨x.op.toArray⟩ : ByteArray).size ≤ 100))
def LT (L : List It) : Bool := L.all yP && decide (L.length ≤ 60)
theorem few_no {L : List It} {k : Nat} (h : k < L.length) (hn : yP L[k] = false) : LT L = false := by
  unfold LT
  rw [Bool.and_eq_false_iff]
  left
  rw [Bool.eq_false_iff]
  intro e
  rw [List.all_eq_true.1 e _ (List.getElem_mem h)] at hn
  cases hn
theorem ZV {L : List It} (h : ∀ j (hj : j < L.length), yP L[j] = true) : LT L = decide (L.length ≤ 60) := by
  unfold LT
  rw [show L.all yP = true from List.all_eq_true.2 (fun x hx => by obtain ⟨j, hj, e⟩ := List.getElem_of_mem hx; rw [← e]; exact h j hj), Bool.true_and]
set_option maxHeartbeats 4000000 in
set_option maxRecDepth 100000 in
theorem Few_any (p : aB) (v : Value) (ls : List It) (w : World) (h : SlR itR w p v ls) :
    Calls Tryz.prog 12 #[v] w fun e w' => e = .returned (.bool (LT ls)) ∧ w' = w := by
  obtain ⟨a, c, rfl, _, _, g8⟩ := h.it
  have HNO := aA (fun k h => @few_no ls k h)
  have HAL := aA (@ZV ls)
  clear h
  generalize LT ls = R at *
  go_enter Tryz.func12, Tryz.ntmps12
  go_wp2
  go_loopw [3] (fun i wr => ∃ k : Nat, k ≤ ls.length ∧ i = .int .i64 k ∧ wr = w ∧ ∀ j (hj : j < ls.length), j < k → yP ls[j] = true) (fun i _ => ls.length - (intOf i).toNat)
  case atStart => exact ⟨0, Nat.zero_le _, rfl, rfl, fun j _ h => absurd h (Nat.not_lt_zero _)⟩
  case round =>
    obtain ⟨k, hk, rfl, rfl, hall⟩ := hrel
    have HA := aA hall
    clear hall
    by_cases hlt : k < ls.length
    · obtain ⟨b1, o1, ra1, rc1, va1, vc1, rfl, _, x0, x1, x2, x3, x4, _, _⟩ := g8 k ls[k] (List.getElem?_eq_getElem hlt)
      have HN := aA (HNO.out k hlt)
      have HY : Hid (yP ls[k] = true → ∀ j (hj : j < ls.length), j < k + 1 → yP ls[j] = true) := aA (fun h j hj hjk => by
        by_cases e : j = k
        · subst e; exact h
        · exact HA.out j hj (by omega))
      have HF : Hid (yP ls[k] = (decide (ls[k].raw.length ≤ 100) && (decide (ls[k].args.length ≤ 20) && decide ((⟨ls[k].op.toArray⟩ : ByteArray).size ≤ 100)))) := aA rfl
      generalize hB : yP ls[k] = B at *
      clear hB g8
      generalize ls[k] = x at *
      obtain ⟨k9, R1, op, args, al⟩ := x
      dsimp only at x0 x1 x2 x3 x4 HF
      generalize (⟨op.toArray⟩ : ByteArray) = O at *
      by_cases t1 : R1.length ≤ 100
      · by_cases t2 : args.length ≤ 20
        · by_cases t3 : O.size ≤ 100
          · have q1 : ¬ (100 : Int) < (R1.length : Int) := by omega
            have q2 : ¬ (20 : Int) < (args.length : Int) := by omega
            have q3 : ¬ (100 : Int) < (O.size : Int) := by omega
            have HR := aA (HY.out (by rw [HF.out, decide_eq_true t1, decide_eq_true t2, decide_eq_true t3]; rfl))
            go_wp2
            go_roundw
            case rel => exact ⟨k + 1, by omega, by go_num, by first | rfl | trivial, HR.out⟩
            case measure => simp [intOf]; omega
          · have q1 : ¬ (100 : Int) < (R1.length : Int) := by omega
            have q2 : ¬ (20 : Int) < (args.length : Int) := by omega
            have q3 : (100 : Int) < (O.size : Int) := by omega
            have HR := aA (HN.out (by rw [HF.out, decide_eq_false t3]; simp))
            go_wp2
            go_ret
            exact ⟨aF HR.out.symm, rfl⟩
        · have q1 : ¬ (100 : Int) < (R1.length : Int) := by omega
          have q2 : (20 : Int) < (args.length : Int) := by omega
          have HR := aA (HN.out (by rw [HF.out, decide_eq_false t2]; simp))
          go_wp2
          go_ret
          exact ⟨aF HR.out.symm, rfl⟩
      · have q1 : (100 : Int) < (R1.length : Int) := by omega
        have HR := aA (HN.out (by rw [HF.out, decide_eq_false t1]; simp))
        go_wp2
        go_ret
        exact ⟨aF HR.out.symm, rfl⟩
    · have HR := aA (HAL.out (fun j hj => HA.out j hj (by omega)))
      by_cases t : ls.length ≤ 60
      · have t' : (ls.length : Int) ≤ 60 := by omega
        have HR2 : Hid (R = true) := aA (by rw [HR.out, decide_eq_true t])
        go_wp2
        go_ret
        exact ⟨aF HR2.out.symm, rfl⟩
      · have t' : ¬ (ls.length : Int) ≤ 60 := by omega
        have HR2 : Hid (R = false) := aA (by rw [HR.out, decide_eq_false t])
        go_wp2
        go_ret
        exact ⟨aF HR2.out.symm, rfl⟩
end Go.Proofs.YtcgheipmnphbjaaGreatDoor
namespace Go.Proofs.YtcgheipmnphbjaaGreatDoor
set_option maxRecDepth 100000
open Go.RowKit Go.ChangeShapes Go.WideShapes Go.ChangeAt Go.Deep Go.Joins
variable {H:Type} {enc:TypeId × Value→H} {W:World}
theorem zL {P:Program} {w:World} {base:Nat} {spare:Nat→Bool} {held:Bool} {t:TypeId} {f0 f1 f2 f3:Field} {fuel:Nat} {cs:List Value} {x:DataW H × List MemPlace} (ht:P.underlying t=some (.struct #[f0,f1,f2,f3])) (h:DataW.trod enc P w base spare held fuel t cs=some x):
  ∃y0 y1 y2 y3 n,cs.length=P.cellsOf t∧DataW.trod enc P w base spare held n f0.type ((cs.drop f0.offset).take (P.cellsOf f0.type))=some y0∧
   DataW.trod enc P w base spare held n f1.type ((cs.drop f1.offset).take (P.cellsOf f1.type))=some y1∧
   DataW.trod enc P w base spare held n f2.type ((cs.drop f2.offset).take (P.cellsOf f2.type))=some y2∧
   DataW.trod enc P w base spare held n f3.type ((cs.drop f3.offset).take (P.cellsOf f3.type))=some y3:=by
 obtain ⟨xs,n,_,_,hl,hlen,hf⟩:=DataW.trod_struct ht h
 match xs,hlen with
 | [y0,y1,y2,y3],_=>exact ⟨y0,y1,y2,y3,n,hl,by simpa using hf 0 f0 rfl,by simpa using hf 1 f1 rfl,by simpa using hf 2 f2 rfl,by simpa using hf 3 f3 rfl⟩
theorem list5 {α:Type} {l:List α} (h:l.length=5):∃a b c d e,l=[a,b,c,d,e]:=by
 match l,h with
 | [a,b,c,d,e],_=>exact ⟨a,b,c,d,e,rfl⟩
theorem c_byteD:Tryz.prog.cellsOf 5=1:=by kernel_rfl
theorem c_item:Tryz.prog.cellsOf 40=5:=by kernel_rfl
theorem RM:Tryz.prog.cellsOf 38=1:=by kernel_rfl
theorem c_boolI:Tryz.prog.cellsOf 4=1:=by kernel_rfl
theorem CU {fuel:Nat} {v:Value} {y:DataW H × List MemPlace} (h:DataW.trod enc Tryz.prog W 0 (fun _=>true) true fuel 38 [v]=some y):∃l,SlR aI W (fun _=>True) v l:=by
 obtain ⟨v',l,e,hs,_⟩:=qI (α:=UInt8) (f:=fun n=>.int .u8 n.toNat) (h1:=fun x u hu=>by simp at hu;subst hu;rfl) (Q:=fun _=>True) Tryz.underlying38 c_byteD (fun n v y ht=>by
  obtain ⟨k,q,_,wf⟩:=DataW.trod_int Tryz.underlying5 ht
  obtain rfl:=List.cons.inj q |>.1
  have hb:=bounds_u8 wf
  refine ⟨UInt8.ofNat k.toNat,?_,trivial⟩
  have e:((UInt8.ofNat k.toNat).toNat:Int)=k:=by
   rw [UInt8.toNat_ofNat']
   omega
  rw [e]) h
 obtain rfl:=List.cons.inj e |>.1
 exact ⟨l,hs⟩
instance:Inhabited It:=⟨⟨0,[],[],[],false⟩⟩
def QD (x:It):Prop:=(∀y∈x.args,cN y.n)∧x.op.length≤maxLen
theorem FM {n:Nat} {α:Type} [Inhabited α] {P:Nat→α→Prop} (h:∀i,i < n→∃x,P i x):∃f:Nat→α,∀i,i < n→P i (f i):=
 ⟨fun i=>if hi:i < n then (h i hi).choose else default,fun i hi=>by simp only [hi,dif_pos];exact (h i hi).choose_spec⟩
theorem SI {b0:Nat} {v:Value} {d:DataW H} {p:List MemPlace} (hv:Value.okWide Tryz.prog W .any b0 34 v) (h:DataW.Trod enc Tryz.prog W 0 (fun _=>true) true 34 v d p):
  ∃l,SlR itR W (fun _=>True) v l∧∀x∈l,QD x:=by
 have hcl:v.cells.toList=[v]:=by
  obtain ⟨a,n,c,rfl⟩:=okWide_slice Tryz.underlying34 hv
  rfl
 obtain ⟨fuel,hf⟩:=h
 rw [hcl] at hf
 rcases open_slice Tryz.underlying34 hf with ⟨hv,_⟩ | ⟨a,len,cap,m,n,D,Pl,hv,_,hl,hm,hmm,_,hi⟩
 ·obtain rfl:=List.cons.inj hv |>.1
  exact ⟨[],SlR.nil _ _ _,by simp⟩
 ·obtain rfl:=List.cons.inj hv |>.1
  have key:∀i,i < len→∃x:It,(∃ra rc va vc,W.cell? (a.add (i * 5))=some (.int .i64 x.k)∧W.cell? (a.add (i * 5+1))=some (.slice ra x.raw.length rc)∧W.cell? (a.add (i * 5+2))=some (.string ⟨x.op.toArray⟩)∧W.cell? (a.add (i * 5+3))=some (.slice va x.args.length vc)∧W.cell? (a.add (i * 5+4))=some (.bool x.al)∧SlR aI W (fun _=>True) (.slice ra x.raw.length rc) x.raw∧SlR aM W (fun _=>True) (.slice va x.args.length vc) x.args)∧QD x:=fun i hil=>by
   obtain ⟨cs,hc,ht⟩:=hi i (by rw [hmm,if_pos rfl];omega)
   rw [c_item] at hc
   obtain ⟨_,hlen,hat⟩:=World.cells?_some hc
   obtain ⟨y0,y1,y2,y3,n',_,h0,h1,h2,h3⟩:=zL Tryz.underlying40 ht
   obtain ⟨c0,c1,c2,c3,c4,rfl⟩:=list5 hlen
   have e0:=hat 0 (by omega)
   have e1:=hat 1 (by omega)
   have e2:=hat 2 (by omega)
   have e3:=hat 3 (by omega)
   have e4:=hat 4 (by omega)
   rw [add_add] at e0 e1 e2 e3 e4
   dsimp only at h0 h1 h2 h3
   rw [TP] at h0
   rw [RM] at h1
   rw [QX] at h2
   rw [c_boolI] at h3
   obtain ⟨k,q0,_,_⟩:=DataW.trod_int Tryz.underlying3 (fuel:=n') (cs:=[c0]) h0
   obtain rfl:=List.cons.inj q0 |>.1
   obtain ⟨R,hR⟩:=CU (fuel:=n') (v:=c1) h1
   obtain ⟨z0,z1,n2,_,_,g0,g1⟩:=trod_struct2 Tryz.underlying24 (cs:=[c2,c3]) h2
   dsimp only at g0 g1
   rw [uN] at g0
   rw [TN] at g1
   obtain ⟨s,q2,_,hs⟩:=DataW.trod_string Tryz.underlying9 (fuel:=n2) (cs:=[c2]) g0
   obtain rfl:=List.cons.inj q2 |>.1
   obtain ⟨l,hl,hf⟩:=mR (fuel:=n2) (v:=c3) g1
   obtain ⟨bb,q4,_⟩:=DataW.trod_bool Tryz.underlying4 (fuel:=n') (cs:=[c4]) h3
   obtain rfl:=List.cons.inj q4 |>.1
   obtain ⟨ra,rc,rfl⟩:∃a c,c1=.slice a R.length c:=by obtain ⟨a,c,e,_⟩:=hR;exact ⟨a,c,e⟩
   obtain ⟨va,vc,rfl⟩:∃a c,c3=.slice a l.length c:=by obtain ⟨a,c,e,_⟩:=hl;exact ⟨a,c,e⟩
   exact ⟨⟨k,R,s.data.toList,l,bb⟩,⟨ra,rc,va,vc,e0,e1,e2,e3,e4,hR,hl⟩,hf,by simpa using hs⟩
  obtain ⟨f,hf⟩:=FM key
  have hg:∀i x,((List.range len).map f)[i]?=some x→i < len∧f i=x:=fun i x hx=>by
   rw [List.getElem?_map,Option.map_eq_some_iff] at hx
   obtain ⟨j,hj,rfl⟩:=hx
   obtain ⟨h1,h2⟩:=List.getElem?_eq_some_iff.1 hj
   simp at h1 h2
   subst h2
   exact ⟨h1,rfl⟩
  refine ⟨(List.range len).map f,⟨some a,cap,by simp,by simpa using hl,hm,fun i x hx=>?_⟩,fun x hx=>?_⟩
  ·obtain ⟨hil,rfl⟩:=hg i x hx
   obtain ⟨⟨ra,rc,va,vc,h0,h1,h2,h3,h4,h5,h6⟩,_⟩:=hf i hil
   obtain ⟨b,o,spot⟩:=a
   have hspot:spot=none:=by
    obtain ⟨⟨_,_,_,_,h00,_⟩,_⟩:=hf 0 (by omega)
    simpa [Addr.add] using World.cell?_spot h00
   subst hspot
   rw [zS] at h0 h1 h2 h3 h4
   refine ⟨b,o,(kY (f i) ra rc va vc).toList,rfl,trivial,World.block_lt_of_cell? W _ h0,fun j u hu=>?_,ra,rc,va,vc,rfl,h5,h6⟩
   show W.cell? ⟨b,o+i * 5+j,none⟩=_
   rw [Nat.add_assoc]
   match j,hu with
   | 0,hu=>simp [kY] at hu;subst hu;exact h0
   | 1,hu=>simp [kY] at hu;subst hu;exact h1
   | 2,hu=>simp [kY] at hu;subst hu;exact h2
   | 3,hu=>simp [kY] at hu;subst hu;exact h3
   | 4,hu=>simp [kY] at hu;subst hu;exact h4
  ·obtain ⟨i,hi,rfl⟩:=List.mem_map.1 hx
   exact (hf i (by simpa using hi)).2
end Go.Proofs.YtcgheipmnphbjaaGreatDoor
