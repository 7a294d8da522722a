/-
  Ends of proofs that several texts share. Conditions: none.
-/
import Derived.WalkKit
import Derived.Lib.QuietBelow
import Derived.BigRegion
import Derived.Deep.RegionHeld3
import Derived.Deep.DeepCutAuto
import Derived.Laws.CopyOwn
import Derived.Laws.EntriesVeiled
import Derived.Lib.Strings
import Derived.WalkSpells
import Derived.WalkLawsBesides
import Derived.Lib.Hide
import Derived.Maps.AppendAt
import Derived.Deep.QuietTactic
import Derived.BigQuiet
import Derived.Laws.StructEq
import Derived.Lib.ConvBytes
import Derived.OwnWalkIn
import Derived.Deep.RegionLaw
import Derived.RangeFuncNested
import Derived.RangeFuncBound
import Derived.RangeFuncCalls
import Derived.RangeFuncLeaves
import Derived.Shelf.Strings.Cut
import Derived.TacticsInMore
import Derived.LoopNIn
import Derived.LoopIn
import Derived.Maps.Own
import Derived.Maps.Views
import Derived.Lib.Join
import Derived.Lib.SplitLaws
import Derived.MapKept
import Derived.Laws.RangeString
import Derived.RangeFuncRecord
import Derived.ProofKit
import Derived.OpenShut
import Derived.LaidMore
import Derived.LaidOnce
import Derived.Deep.DeepHandedRow
import Derived.Deep.DeepWitnessRowRef
import Derived.Deep.Slices
import Derived.Lib.LaidTab
import Derived.Lib.LaidU8
import Derived.Lib.SmallJoins
import Derived.Defers
import Derived.Recover
import Derived.Laws.BitsAllLaws
import Derived.Shelf.Spec.TrailingZeros
import Derived.Laws.IdiomCopy
import Derived.Shelf.Spec.SlicesInsert
import Derived.Lib.Builder
import Derived.Lib.AppendStr
import Derived.Lib.UnsafeStr
import Derived.Laws.Externs
import Derived.Laws.ShiftsVarLaws
import Derived.Shelf.RegionOpen
import Derived.IntWalk
namespace Go.Proofs.YtpigbggoiipmhaaGreatDoor
open Go.RowKit Go.Shelf Go.Sort
abbrev zI:=@Nat.le_refl
abbrev zL:=@List.getElem?_eq_getElem
abbrev zW:=@World.size_alloc
abbrev zY:=@Below.refl
abbrev yR:=@bodyPost_ret
abbrev yW:=@beq_eq_false_iff_ne
abbrev yY:=@World.size_setCell
abbrev xS:=@Bool.and_eq_true_iff
abbrev xV:=@Below.heap_setCell
abbrev qJ:=@Nat.le_trans
abbrev vB:=@Nat.lt_of_lt_of_le
abbrev vT:=@List.set_cons_succ
abbrev jM:=@List.set_cons_zero
abbrev jN:=@Array.getElem?_eq_some_iff
abbrev jQ:=@Nat.le_succ
abbrev jU:=@of_decide_eq_true
abbrev ZP:=@List.take_succ_eq_append_getElem
abbrev ZR:=@List.mem_cons
abbrev ZS:=@Option.some.inj
abbrev ZV:=@List.getElem?_eq_some_iff
abbrev ZX:=@List.drop_eq_getElem_cons
abbrev YD:=@Nat.zero_le
abbrev YH:=@Nat.lt_succ_self
abbrev YL:=@List.length_append
abbrev YX:=@Nat.ne_of_lt
abbrev XF:=@List.size_toArray
abbrev XJ:=@List.mem_singleton
abbrev XN:=@Bool.false_ne_true
abbrev QD:=@List.take_of_length_le
abbrev QI:=@World.block_lt_of_cell?
abbrev QQ:=@List.length_set
abbrev QU:=@World.putObj_heap_other
abbrev VA:=@List.drop_of_length_le
abbrev VH:=@List.length_cons
abbrev VM:=@List.mem_of_getElem?
abbrev JL:=@List.getD_eq_getElem?_getD
abbrev JP:=@List.append_assoc
abbrev JS:=@List.length_drop
abbrev JX:=@List.length_take
abbrev z0A:=@decide_eq_false
abbrev z0B:=@List.length_map
abbrev z0C:=@Bool.eq_iff_iff
abbrev z0D:=@World.cell?_setCell_other
abbrev z0E:=@World.cell?_of_block
abbrev z0F:=@List.getElem?_set_ne
abbrev z0G:=@List.getElem?_append_right
abbrev z0H:=@List.any_eq_true
abbrev z0I:=@Nat.le_of_lt
abbrev z0J:=@List.getElem_mem
abbrev z0K:=@Bool.and_eq_true
abbrev z0L:=@List.take_length
abbrev z0M:=@List.getElem?_set_self
abbrev z0N:=@Nat.add_zero
abbrev z0O:=@List.map_append
abbrev z0P:=@decide_eq_true
abbrev z0Q:=@List.getElem?_map
abbrev z0R:=@of_decide_eq_false
abbrev z0S:=@World.size_drew
abbrev z0T:=@List.nil_append
abbrev z0U:=@List.map_cons
abbrev z0V:=@List.cons.inj
abbrev z0W:=@List.getElem?_eq_none
abbrev z0X:=@Int.toNat_natCast
abbrev z0Y:=@Bool.true_and
abbrev z0Z:=@Nat.zero_mul
abbrev z1A:=@List.all_eq_true
abbrev z1B:=@World.cell?_setCell_same'
abbrev z1C:=@List.any_cons
abbrev z1D:=@List.mem_range
abbrev z1E:=@List.append_nil
abbrev z1F:=@List.getElem?_append_left
abbrev z1G:=@Nat.lt_of_le_of_lt
abbrev z1H:=@List.cons_append
abbrev z1I:=@List.mem_cons_of_mem
abbrev z1L:=@List.getElem?_set
abbrev z1M:=@List.flatMap_cons
abbrev z1N:=@Int.eq_ofNat_of_zero_le
abbrev z1O:=@UInt8.toNat_inj
abbrev z1P:=@List.length_pos_iff
abbrev z1R:=@Bool.or_eq_true_iff
abbrev z1S:=@Below.heap_alloc
abbrev z1T:=@List.filter_append
abbrev z1V:=@Nat.one_mul
abbrev z1W:=@World.putObj_heap_same
abbrev z1Y:=@List.getElem?_toArray
abbrev z1Z:=@Bool.false_and
abbrev z2A:=@List.mem_map
abbrev z2B:=@Nat.add_assoc
abbrev z2C:=@Nat.min_eq_left
abbrev z2D:=@List.mem_append
abbrev z2E:=@beq_iff_eq
abbrev z2F:=@Nat.mod_lt
abbrev z2G:=@List.getElem?_replicate
abbrev z2H:=@Nat.zero_add
abbrev z2I:=@Nat.sub_self
abbrev z2J:=@List.ext_getElem?
abbrev z2K:=@World.cell?_alloc_old
abbrev z2L:=@List.set_append_right
theorem tk {P:Program} {ops:Array Oper} {Q:Exit->Act->World->Prop} {md:Region.Mode} {S:World->Prop} (i d:Nat) {x1:Op} {x2 x3 x4 x5} {v:Value} {fuel:Nat} {listed:Array Bool} {a:Act} {w:World}
 (h:wpAnyH P md ops Q S fuel (listed.setIfInBounds i true) (a.put (some d) v) w)
 (hi:ops[i]?=some ⟨some d,x1,x2,x3,x4,x5⟩:=by rfl) (hs:Region.noSelect ops=true:=by kernel_rfl) (hf:Region.free md ops listed i=true:=by kernel_rfl) (hr:(Region.ready md ops listed).contains i=true:=by kernel_rfl)
 (hQ:∀c a w,Q (.panic c) (a.put (some d) v) w->Q (.panic c) a w:=by exact λ_ _ _ h=>h) (hy:YieldsIf P ops S ⟨some d,x1,x2,x3,x4,x5⟩ v a:=by refine Or.inl ⟨by rfl,?_⟩;(intro w hSw;(try dsimp only at hSw);go_simp;(try with_reducible rfl))) (hS:S w:=by assumption):
 wpAnyH P md ops Q S (fuel+1) listed a w:=wpAnyH_take hi hs hf hr hQ hy hS h
theorem tX85 {P:Prop} (h:P:=by rw [if_neg (by decide),if_neg (by omega)] at h3;exact h3.symm):P:=h
theorem tX84 {P:Prop} (h:P:=by go_wp2;go_ret;exact ⟨by simp;intro h;exact hl (by rw [h]),0,rfl⟩):P:=h
theorem tX83 {P:Prop} (h:P:=by go_wp2;go_ret;exact ⟨bK HR.out.symm,(HF.out.next HFIN.out).below⟩):P:=h
theorem tX82 {P:Prop} (h:P:=by show _=_;rw [<-e12.1,<-e12.2,JX,JS];have:=eL a m;omega):P:=h
theorem tX81 {P:Prop} (h:P:=by clear HNO HIN;go_wp2;go_ret;exact ⟨oF (by rw [HLE.out,HN.out];rfl),HF.out.below⟩):P:=h
theorem tX80 {P:Prop} (h:P:=by obtain ⟨ra,rc,va,vc,e,h1,h2⟩:=h;exact ⟨ra,rc,va,vc,e,h1.below hb,h2.below hb⟩):P:=h
theorem tX7f {P:Prop} (h:P:=by exact yR (aN rfl rfl ((HJ.out.blk6.set 0 _).set 1 _)) rfl ⟨_,rfl,h1,h2⟩):P:=h
theorem tX7e {P:Prop} (h:P:=by rw [z0G (by omega),h1,z2I,List.getElem?_drop];simp [h]):P:=h
theorem tX7d {P:Prop} (h:P:=by exact ⟨λh=>absurd h.1.symm hn,λh=>absurd (h.2.1 j rfl) (by rw [hy,hf];decide)⟩):P:=h
theorem tX7c {P:Prop} (h:P:=by rw [xV _ _ _ _ (by simp;omega),xV _ _ _ _ (by simp;omega)]):P:=h
theorem tX7b {P:Prop} (h:P:=by exact ⟨_,[],rfl,⟨some a,cap,rfl,YD _,hm,λi x h=>by simp at h⟩,by simp⟩):P:=h
theorem tX7a {P:Prop} (h:P:=by clear hb;go_wp2;go_ret;exact ⟨bK HV.out.symm,HBW.out.trans (HB.out.mono HBW.out.size)⟩):P:=h
theorem tX79 {P:Prop} (h:P:=by
 unfold lA;split
 ·decide+kernel
 split
 ·decide+kernel
 split
 ·decide+kernel
 ·decide+kernel):P:=h
theorem tX78 {P:Prop} (h:P:=by exact yR (aN rfl rfl (((H.out.blk 0 rfl).set 0 _).set 1 _)) rfl ⟨_,rfl,h1,h2⟩):P:=h
theorem tX77 {P:Prop} (h:P:=by
 unfold fR;split
 ·rw [JL,z0W (by omega)];rfl
 ·rfl):P:=h
theorem tX76 {P:Prop} (h:P:=by obtain ⟨cs,t,fz,h2⟩:=hcells k e;rw [h2] at hko;injection hko with hko;subst hko;cases hc):P:=h
theorem tX75 {P:Prop} (h:P:=by obtain ⟨p,ho,hp⟩:=h;exact ((ho.slR (q:=λk=>B<=k) (λk hk=>(hp k hk).1) (λ_ h=>h)).old)):P:=h
theorem tX74 {P:Prop} (h:P:=by
 unfold World.cell? at h;dsimp only at h;split at h
 ·rename_i c t fz hb;exact ⟨_,hb,rfl⟩
 ·cases h):P:=h
theorem tX73 {P:Prop} (h:P:=by unfold nM;rw [if_neg (by decide),if_neg (by decide),if_neg (by decide),if_pos (by decide),if_neg hcb];rfl):P:=h
theorem tX72 {P:Prop} (h:P:=by unfold atF;rw [if_neg (by omega),if_neg (by omega),if_neg (by omega),if_neg (by omega),if_neg (by omega)]):P:=h
theorem tX70 {P:Prop} (h:P:=by exact yR (dX rfl rfl (((H.out.blk 2 rfl).set 0 _).set 1 _)) rfl ⟨_,rfl,(hpo _).1,(hpo _).2⟩):P:=h
theorem tX6f {P:Prop} (h:P:=by exact yR (aN rfl rfl (((H.out.blk 2 rfl).set 0 _).set 1 _)) rfl ⟨_,rfl,(hpo _).1,(hpo _).2⟩):P:=h
theorem tX6e {P:Prop} (h:P:=by exact yR (aN rfl rfl (((H.out.blk 1 rfl).set 0 _).set 1 _)) rfl ⟨_,rfl,(hpo _).1,(hpo _).2⟩):P:=h
theorem tX6d {P:Prop} (h:P:=by obtain ⟨b1,b2⟩:=xS.1 h4;exact wE b1 b2 (jU a1) (jU a2)):P:=h
theorem tX6c {P:Prop} (h:P:=by unfold shF at h;have:=congrArg List.length (jU (xS.1 h).2);simpa using this):P:=h
theorem tX6b {P:Prop} (h:P:=by
 go_wp2;go_round;case rel=>exact ⟨k+1,by omega,by go_num,HR.out,HFIN.out⟩
 case measure=>simp [intOf];omega):P:=h
theorem tX6a {P:Prop} (h:P:=by clear HNO HST;go_wp2;go_quiet (fail);go_wp2;go_ret;exact ⟨aF HRF.out.symm,((HF.out.drewN _).drewN _).below⟩):P:=h
theorem tX69 {P:Prop} (h:P:=by
 by_cases hil:i < len
 ·obtain ⟨x,hx⟩:=key i hil;exact ⟨x,λ_=>hx⟩
 ·exact ⟨x0,λh=>absurd h hil⟩):P:=h
theorem tX68 {P:Prop} (h:P:=by
 go_wp2;go_roundw;case rel=>exact ⟨k+1,by omega,by go_num,HR.out,aY HBY.out _⟩
 case measure=>simp [intOf];omega):P:=h
theorem tX67 {P:Prop} (h:P:=by exact (((HB2.out.alloc HB2.out.size _).setCell (zI _) _).setCell (zI _) _).setCell (zI _) _):P:=h
theorem tX66 {P:Prop} (h:P:=by go_enter Tryz.func230,Tryz.ntmps230;go_wp2;go_ret;exact ⟨rfl,rfl⟩):P:=h
theorem tX65 {P:Prop} (h:P:=by
 go_wp2;go_roundw;case rel=>exact ⟨k+1,by omega,by go_num,trivial,HX.out.trans HN.out⟩
 case measure=>simp [intOf];omega):P:=h
theorem tX64 {P:Prop} (h:P:=by exact (((HB2.out.setCell (zI _) _).setCell (zI _) _).setCell (zI _) _).setCell (zI _) _):P:=h
theorem tX63 {P:Prop} (h:P:=by
 go_roundw;case rel=>exact ⟨j+1,by omega,by go_num,by rw [HNX.out];exact HO.out,HBW.out⟩
 case measure=>simp [intOf];omega):P:=h
theorem tX62 {P:Prop} (h:P:=by
 clear HYX HYW HYZ;go_wp2;go_round;case rel=>exact ⟨k+1,hlk,by go_num,HY.out,H5.out.below⟩
 case measure=>simp [intOf];omega):P:=h
theorem tX61 {P:Prop} (h:P:=by obtain ⟨hcell,ht'⟩:=hi i (by rw [hmm,if_pos rfl];omega);obtain ⟨x,hv,hq⟩:=hel _ _ _ ht';exact ⟨x,by rw [hcell,hv],hq⟩):P:=h
theorem tX60 {P:Prop} (h:P:=by
 simp only [Int.toNat_natCast];by_cases h1:65536 < a+l.length
 ·rw [if_pos h1,if_pos (by omega)]
 ·rw [if_neg h1,if_neg (by omega)]):P:=h
theorem tX5f {P:Prop} (h:P:=by exact ((((aS.setCell hlr _).trans (aS.setCell hlg _)).trans (aS.setCell hlg _)).trans (aS.setCell hlg _)).trans (aS.setCell hlg _)):P:=h
theorem tX5e {P:Prop} (h:P:=by go_enter Tryz.func72,Tryz.ntmps72;go_wp2;go_ret2;exact ⟨rfl,rfl⟩):P:=h
theorem tX5c {P:Prop} (h:P:=by rw [if_pos h] at h1 h2;simp only [Bool.and_eq_true,beq_iff_eq,decide_eq_true_eq] at h1 h2 ⊢;exact ⟨⟨h1.1.1,by omega⟩,by omega⟩):P:=h
theorem tX5b {P:Prop} (h:P:=by clear h48 h49;exact tX65):P:=h
theorem tX5a {P:Prop} (h:P:=by
 go_wp2;go_roundw;case rel=>exact ⟨1,by omega,by go_num,by have h2:=HB.out;simp [dU];simp [h2],HA.out.drop⟩
 case measure=>simp [intOf]):P:=h
theorem tX59 {P:Prop} (h:P:=by
 go_quiet (fail);go_wp2;go_roundw;case rel=>exact ⟨k+1,n+nq,by omega,by go_num,rfl,HS.out (fF.1 hxy)⟩
 case measure=>simp [intOf];omega):P:=h
theorem tX58 {P:Prop} (h:P:=by simp only [Program.fieldsOf,Tryz.underlying52];go_simp;by_cases h1:a=d<;>by_cases h2:b=e<;>by_cases h3:c=f<;>simp [h1,h2,h3,aP]):P:=h
theorem tX57 {P:Prop} (h:P:=by have HB3:=aA hb3;clear e0 e1 f0 f1 hb3;obtain ⟨e0,e1,f0,f1⟩:=H3.out.blk.two;go_wp2;go_end0;exact ⟨rfl,_,by rw [HV.out];exact H3.out⟩):P:=h
theorem tX56 {P:Prop} (h:P:=by go_wp2;go_ret;exact ⟨bK HV.out.symm,(HB0.out.trans (HB1.out.mono HB0.out.size)).trans (HB2.out.mono (qJ HB0.out.size HB1.out.size))⟩):P:=h
theorem tX55 {P:Prop} (h:P:=by clear hs h;go_enter Tryz.func76,Tryz.ntmps76;go_wp2;go_ret;exact ⟨rfl,rfl⟩):P:=h
theorem tX54 {P:Prop} (h:P:=by
 go_roundw;case rel=>exact ⟨j+1,nx+1,_,_,HJ.out.1,rfl,rfl,rfl,rfl,HFR.out,HAR.out,HFN.out,HRN.out⟩
 case measure=>simp [intOf];have:=HJ.out.1;omega):P:=h
theorem tX53 {P:Prop} (h:P:=by generalize kX w p m a l=PR at *;go_enter Tryz.func39,Tryz.ntmps39;go_wp2;exact HF.out):P:=h
theorem tX52 {P:Prop} (h:P:=by go_enter Tryz.func179,Tryz.ntmps179;go_wp2;go_ret;exact ⟨aF HV.out.symm,HB0.out⟩):P:=h
theorem tX51 {P:Prop} (h:P:=by
 go_roundw;case rel=>exact ⟨k+1,by omega,by go_num,by rw [HSA.out (NO.out (λh=>h0 h.2.1))];exact HR.out.alloc _⟩
 case measure=>simp [intOf];omega):P:=h
theorem tX50 {P:Prop} (h:P:=by
 go_roundw;case rel=>exact ⟨k+1,by omega,by go_num,by rw [<-JI (up_no (by omega)) HT.out HD.out];exact HROW.out,hb⟩
 case measure=>simp [intOf];omega):P:=h
theorem tX4f {P:Prop} (h:P:=by
 go_round;case rel=>exact ⟨k+1,by omega,by go_num,by rw [HT.out,HD.out,List.all_cons,HVX.out,z0Y],HB2.out⟩
 case measure=>simp [intOf];omega):P:=h
theorem tX4e {P:Prop} (h:P:=by go_enter Tryz.func129,Tryz.ntmps129;go_wp2;go_ret;exact ⟨aF HV.out.symm,HF.out.below⟩):P:=h
theorem tX4d {P:Prop} (h:P:=by have e2:_=some _:=hb1;have e3:_=some _:=hb2;rw [e1,e2] at e3;injection e3 with e3;injection e3 with e3;injection e3 with e3;injection e3 with e3;exact e3.symm):P:=h
theorem tX4c {P:Prop} (h:P:=by
 go_roundw;case rel=>exact ⟨k+1,by omega,by go_num,by rw [HSA.out (NO.out (λh=>absurd h.2.1 (by omega)))];exact HR.out⟩
 case measure=>simp [intOf];omega):P:=h
theorem tX4b {P:Prop} (h:P:=by
 intro k hk;rcases hrow.2 with ⟨e,_⟩ | ⟨g,cap,cur,e,hb,hg2,_⟩
 ·rw [e] at hk;cases hk
 ·rw [e] at hk;injection hk with hk;subst hk;exact ⟨_,_,_,hg2⟩):P:=h
theorem tX4a {P:Prop} (h:P:=by go_enter Tryz.func125,Tryz.ntmps125;go_wp2;go_ret;exact ⟨aF (by rw [HW.out,h2];simp),rfl⟩):P:=h
theorem tX49 {P:Prop} (h:P:=by
 go_roundw;case rel=>exact ⟨k+1,by omega,by go_num,by rw [HSA.out (NO.out (λh=>h1 (by have:=h.2.2.1;omega)))];exact HR.out⟩
 case measure=>simp [intOf];omega):P:=h
theorem tX47 {P:Prop} (h:P:=by
 refine ⟨b,o,[f (F i)],rfl,trivial,QI W _ hcell,λj u hu=>?_,rfl⟩
 match j,hu with
 | 0,hu=>simp at hu;subst hu;simpa [Rep.flat] using hcell):P:=h
theorem tX46 {P:Prop} (h:P:=by clear key P0 P1 P2 P3 P4 P5 P6;exact tX5e):P:=h
theorem tX45 {P:Prop} (h:P:=by
 go_wp2;go_roundw;case rel=>exact ⟨5,by omega,by go_num,by have h1:=HP.out;have h2:=HB.out;simp [dU] at h1 ⊢;simp [h1,h2],HA.out.drop⟩
 case measure=>simp [intOf]):P:=h
theorem tX44 {P:Prop} (h:P:=by
 go_wp2;go_roundw;case rel=>exact ⟨4,by omega,by go_num,by have h1:=HP.out;have h2:=HB.out;simp [dU] at h1 ⊢;simp [h1,h2],HA.out.drop⟩
 case measure=>simp [intOf]):P:=h
theorem tX43 {P:Prop} (h:P:=by
 go_wp2;go_roundw;case rel=>exact ⟨3,by omega,by go_num,by have h1:=HP.out;have h2:=HB.out;simp [dU] at h1 ⊢;simp [h1,h2],HA.out.drop⟩
 case measure=>simp [intOf]):P:=h
theorem tX42 {P:Prop} (h:P:=by
 go_wp2;go_roundw;case rel=>exact ⟨2,by omega,by go_num,by have h1:=HP.out;have h2:=HB.out;simp [dU] at h1 ⊢;simp [h1,h2],HA.out.drop⟩
 case measure=>simp [intOf]):P:=h
theorem tX41 {P:Prop} (h:P:=by go_ret;exact ⟨aF (z0P (by have h1:=HT.out;have h2:=HL.out;rwa [QD (by omega),QD (by omega)] at h1)).symm,n,rfl⟩):P:=h
theorem tX40 {P:Prop} (h:P:=by
 go_wp2;go_roundw;case rel=>exact ⟨k+1,by omega,by go_num,by rw [HSA.out (NO.out (λh=>by rw [h.1] at h6;cases h6))];exact HR.out⟩
 case measure=>simp [intOf];omega):P:=h
theorem tX3f {P:Prop} (h:P:=by
 go_roundw;case rel=>exact ⟨k+1,by omega,by go_num,by rw [HSU.out,YES.out ⟨HK6.out,by omega,by omega,by omega⟩];exact HST.out _⟩
 case measure=>simp [intOf];omega):P:=h
theorem tX3e {P:Prop} (h:P:=by clear key P0 P1 P2 P3 P4 P5 P6 h6;exact tX5e):P:=h
theorem tX3d {P:Prop} (h:P:=by clear key P0 P1 P2 P3 P4 P5 P6 c1;exact tX5e):P:=h
theorem tX3c {P:Prop} (h:P:=by
 go_roundw;case rel=>exact ⟨k+1,by omega,by go_num,by rw [HSA.out (NO.out (λh=>by rw [h.1] at h6;cases h6))];exact HR.out.alloc _⟩
 case measure=>simp [intOf];omega):P:=h
theorem tX3b {P:Prop} (h:P:=by rw [z0Q,Option.map_eq_some_iff] at hx;obtain ⟨j,hj,rfl⟩:=hx;obtain ⟨h1,h2⟩:=ZV.1 hj;simp at h1 h2;subst h2;exact ⟨h1,rfl⟩):P:=h
theorem tX3a {P:Prop} (h:P:=by
 go_roundw;case rel=>exact ⟨k+1,by omega,by go_num,by rw [HSA.out (NO.out (λh=>h1 (by have:=h.2.2.1;omega)))];exact HR.out.alloc _⟩
 case measure=>simp [intOf];omega):P:=h
theorem tX39 {P:Prop} (h:P:=by go_enter Tryz.func38,Tryz.ntmps38;go_wp2;go_ret;exact ⟨by rw [HC.out];rfl,HF.out,World.grownBy.refl w _⟩):P:=h
theorem tX38 {P:Prop} (h:P:=by go_enter Tryz.func59,Tryz.ntmps59;go_wp2;refine wp_loop_rounds 4 ?_;rw [rounds_succ];go_wp2;go_ret;exact ⟨aF HV.out.symm,rfl⟩):P:=h
theorem tX37 {P:Prop} (h:P:=by have ho2:=ht b ob (hp b hb) ho hoc;exact ⟨b,o,cs,ea,hb,(jN.1 ho2).1,λj v hv=>(z0E (ho2.trans ho.symm)).trans (hc j v hv),hr⟩):P:=h
theorem tX36 {P:Prop} (h:P:=by
 go_roundw;case rel=>exact ⟨k+1,by omega,by go_num,by rw [HSU.out,YES.out ⟨by simpa using h6,h0,by omega,by omega⟩];exact HST.out _⟩
 case measure=>simp [intOf];omega):P:=h
theorem tX35 {P:Prop} (h:P:=by rw [z0M hk] at hz;obtain rfl:=ZS hz;obtain rfl:l[k]=x:=ZS ((zL hk).symm.trans hx);exact far _ _ (by omega) c2):P:=h
theorem tX34 {P:Prop} (h:P:=by rw [z0M hk] at hz;obtain rfl:=ZS hz;obtain rfl:l[k]=x:=ZS ((zL hk).symm.trans hx);exact far _ _ (by omega) c1):P:=h
theorem tX33 {P:Prop} (h:P:=by rw [z0M hk] at hz;obtain rfl:=ZS hz;obtain rfl:l[k]=x:=ZS ((zL hk).symm.trans hx);exact far _ _ (by omega) c0):P:=h
theorem tX32 {P:Prop} (h:P:=by
 go_wp2;go_roundw;case rel=>exact ⟨k+1,by omega,by go_num,by rw [HXA.out,Option.isSome_none,Bool.or_false],by rw [HXS.out,Option.getD_none,HL.out];exact HW.out _⟩
 case measure=>simp [intOf];omega):P:=h
theorem tX31 {P:Prop} (h:P:=by cases h2:decide (0<=n);all_goals exact tX4a):P:=h
theorem tX30 {P:Prop} (h:P:=by have hpo:=λx=>aW (x:=x) (y:=.slice va 2 vc) H.out.below HO.out (λk hk=>hk) (zI _);exact tX6f):P:=h
theorem tX2f {P:Prop} (h:P:=by exact yR (eG rfl rfl (F5.out.blk 0 rfl) rfl) rfl ⟨⟨_,rfl,by rw [HIT.out];exact ((dW.bare HO.out HR.out (zI _)).off5 HLT.out _ _ _ _ _).base (z0I HLT.out)⟩,F5.out.below⟩):P:=h
theorem tX2e {P:Prop} (h:P:=by obtain ⟨h1,h2⟩:=aW (x:=.string s) (y:=.slice va l.length vc) H.out.below HO.out (λk hk=>hk) (zI _);exact tX78):P:=h
theorem tX2d {P:Prop} (h:P:=by go_wp2_with (go_at_call 151;refine HO.out.mono ?_;rintro e w1 ⟨rfl,hb⟩;have HB:=aA (HB0.out.trans (hb.mono HB0.out.size));clear hb);go_ret;exact ⟨rfl,HB.out.alloc HB.out.size _⟩):P:=h
theorem tX2c {P:Prop} (h:P:=by
 have hr:r=0\/r=1\/r=2\/r=3\/r=4\/r=5\/r=6\/r=7\/r=8:=by omega
 clear h0 h9;rcases hr with rfl | rfl | rfl | rfl | rfl | rfl | rfl | rfl | rfl;all_goals simp [aZ,aC,aQ,dZ,dM,cR,aG,fP.nm,bG]
 all_goals omega):P:=h
theorem tX2b {P:Prop} (h:P:=by go_enter Tryz.func39,Tryz.ntmps39;go_wp2_with (go_at_call 86;refine HFD.out.mono ?_;rintro e w' ⟨rfl,rfl⟩);exact HF.out):P:=h
theorem tX29 {P:Prop} (h:P:=by go_wp2;refine yR (aN rfl rfl (((HX.out.blk 1 rfl).set 0 _).set 1 _)) rfl ?_;rw [HR.out];exact iY rfl ((HX.out.below.setCell (p:=⟨w.heap.size+1,0,none⟩) (jQ _) _).setCell (p:=⟨w.heap.size+1,1,none⟩) (jQ _) _)):P:=h
theorem tX28 {P:Prop} (h:P:=by go_enter Tryz.func74,Tryz.ntmps74;go_wp2;exact yR (eD rfl rfl ((Blk.new w _ _).alloc _)) rfl ⟨rfl,((zY _ _).alloc (zI _) _).alloc (by rw [zW];omega) _⟩):P:=h
theorem tX27 {P:Prop} (h:P:=by go_enter Tryz.func132,Tryz.ntmps132;go_wp2_with (go_at_call 131;refine (gK _ _ iP _ _ (HF.out _ _ (by simp))).mono ?_;rintro e w' ⟨rfl,rfl⟩);go_ret;exact ⟨bK HV.out.symm,HB _ _⟩):P:=h
theorem tX26 {P:Prop} (h:P:=by rw [hd] at HH;go_enter Tryz.func124,Tryz.ntmps124;go_wp2_with (go_at_call 177;refine (HH.out _).mono ?_;rintro e w' ⟨rfl,rfl⟩);go_ret;exact ⟨oF (by rw [HLE.out];simp [isN]),HF.out.below⟩):P:=h
theorem tX25 {P:Prop} (h:P:=by refine ⟨(.func (.func 259) #[] #[.pointer (some ⟨a,0,none⟩),.pointer (some ⟨b,0,none⟩)]),?_,λ_=>⟨a,b,rfl,by have:=HA.out;omega,by have:=HA.out;omega,ka.lt,kb.lt,ka.cell 0,kb.cell 0⟩,by first | exact kz | exact kz.drew,rfl⟩;first | rfl | simp [Act.put]):P:=h
theorem tX24 {P:Prop} (h:P:=by go_enter Tryz.func196,Tryz.ntmps196;exact tX2d):P:=h
theorem tX23 {P:Prop} (h:P:=by clear hlet;clear HR0 HN0 HD;go_wp2_with (go_at_call 76;refine (pA _ (bT _ _) _).mono ?_;rintro e w6 ⟨rfl,hw6⟩;subst w6);exact tX54):P:=h
theorem tX22 {P:Prop} (h:P:=by generalize (x::l).length=n at *;exact tX27):P:=h
theorem tX21 {P:Prop} (h:P:=by have HO:=aA ho;clear ho;go_enter Tryz.func166,Tryz.ntmps166;go_wp2;have hb:=(zY w.heap.size w).alloc (zI _) (.cells #[.string s,.slice a n c] 30);refine yR (mM rfl rfl (Blk.new w _ _)) rfl ⟨rfl,HO.out.below hb,hb⟩):P:=h
theorem tX20 {P:Prop} (h:P:=by rw [if_neg (by have:=HKL.out;omega)] at HIN;exact yR (eG rfl rfl (F5.out.blk 0 rfl) rfl) rfl (qF.ret (HIF.out.trans HIN.out) (by show ¬(1:Int)=4;decide) F5.out.below (F5.out.blk 1 rfl) rfl ((dW.off5 (B:=ob+1) (dW.full HO8.out HR1.out HJ8.out HZ7.out) (YH _) _ _ _ _ _).base (by have:=HOG.out;omega)))):P:=h
theorem tX1f {P:Prop} (h:P:=by clear HR HN HD;go_wp2_with (go_at_call 160;refine (jB g _ a l.length c kk _ HB9.out (HE0.out _ _ _) (HE1.out _ _ _) (by omega)).mono ?_;rintro e w2 ⟨rfl,hb2⟩;have HBZ:=aA (HB9.out.below hb2 HB9.out.lt);have HGZ:=aA (gN HG9.out (bZ g hb2));clear hb2);exact ⟨rfl,qN.no HN9.out HGZ.out HBZ.out⟩):P:=h
theorem tX1e {P:Prop} (h:P:=by (go_at_call 114;refine (HIT.out _ HFgd.out).mono ?_;rintro e w4 ⟨hb4,hi4⟩;rw [if_pos HK.out] at hi4;obtain ⟨rfl,hn4⟩:=hi4;exact tP w wz w4 p w.heap.size (w.heap.size+1) (w.heap.size+1+1) (w.heap.size+1+1+1) ⟨b0,o0,none⟩ c l _ rfl rfl HZ.out hb4 hn4 HK.out HSL.out HL.out (by omega) (by omega))):P:=h
theorem tX1d {P:Prop} (h:P:=by simp only [h2] at hword;have HWORD2:=aA hword;clear hword;go_wp2_with fail;refine (HWORD2.out _ H2.out.spc).mono ?_;rintro e w3 ⟨rfl,hb3⟩;have H3:Hid (Wr w0 w3 bw s (.slice a n c) l):=H2.out.later hb3;exact tX57):P:=h
theorem tX1c {P:Prop} (h:P:=by
 go_wp2;go_quiet (fail);go_wp2;go_roundw;case rel=>exact ⟨k+1,by omega,by go_num,by rw [HXA.out,HNE.out];rfl,by rw [HXS.out];exact ((HI.out.setRg reg HQ.out HMA.out).later ((zY _ _).alloc (zI _) (.cells #[.int .i64 3,.int .i64 2,.int .i64 0] 52))).later (aY (zY _ _) _)⟩
 case measure=>simp [intOf];omega):P:=h
theorem tX1b {P:Prop} (h:P:=by
 go_wp2;go_quiet (fail);go_wp2;go_roundw;case rel=>exact ⟨k+1,by omega,by go_num,by rw [HXA.out,HNE.out];rfl,by rw [HXS.out];exact ((HI.out.put ⟨2,2 * (reg - 5),0⟩ HQ.out HKX.out).later ((zY _ _).alloc (zI _) (.cells #[.int .i64 1,.int .i64 4,.int .i64 0] 52))).later (aY (zY _ _) _)⟩
 case measure=>simp [intOf];omega):P:=h
theorem tX1a {P:Prop} (h:P:=by have h1:=(Blk.new (w.alloc (.cells #[.int .i64 pg,.int .u8 op,.string ⟨iop.toArray⟩,.slice ca args.length cc,.string exB,.bool al] 158)) 158 #[.int .i64 0,.int .u8 0,.string ⟨#[]⟩,.slice none 0 0,.string ⟨#[]⟩,.bool false]).alloc (.cells #[.int .i64 4,.int .i64 2,.int .i64 0] 52);rw [zW] at h1;exact h1):P:=h
theorem tX19 {P:Prop} (h:P:=by
 go_wp2;go_quiet (fail);go_wp2;go_roundw;case rel=>exact ⟨k+1,by omega,by go_num,by rw [HXA.out,HNE.out];rfl,by rw [HXS.out];exact ((HI.out.put ⟨2,2 * (reg - 5)+5 - 4,0⟩ HQ.out HKX.out).later ((zY _ _).alloc (zI _) (.cells #[.int .i64 1,.int .i64 5,.int .i64 0] 52))).later (aY (zY _ _) _)⟩
 case measure=>simp [intOf];omega):P:=h
theorem tX18 {P:Prop} (h:P:=by have h1:=Blk.new ((w.alloc (.cells #[.int .i64 pg,.int .u8 op,.string ⟨iop.toArray⟩,.slice ca args.length cc,.string exB,.bool al] 158)).alloc (.cells #[.int .i64 0,.int .u8 0,.string ⟨#[]⟩,.slice none 0 0,.string ⟨#[]⟩,.bool false] 158)) 52 #[.int .i64 4,.int .i64 2,.int .i64 0];rw [zW,zW] at h1;exact h1):P:=h
theorem tX17 {P:Prop} (h:P:=by cases h2:inL iS s;all_goals have hword:=λwx hT=>fB s wx hT;simp only [h2] at hword;have HWORD2:=aA hword;clear hword;go_wp2_with fail;refine (HWORD2.out _ H2.out.spc).mono ?_;rintro e w3 ⟨rfl,hb3⟩;have H3:Hid (Wr w0 w3 bw s (.slice (some ⟨b,o,none⟩) 2 c) l):=H2.out.later hb3;exact tX57):P:=h
theorem tX16 {P:Prop} (h:P:=by go_enter Tryz.func179,Tryz.ntmps179;go_wp2_with (go_at_call 180;refine HN.out.mono ?_;rintro e w1 ⟨rfl,hb⟩;have HB:=aA hb;have a2:w1.cell? ⟨w.heap.size,2,none⟩=some (.int .i64 n):=(hb.cell (p:=⟨w.heap.size,2,none⟩) HK.out.lt).trans (HK.out.cell 2);clear hb);go_ret;exact ⟨aF HV.out.symm,HB0.out.trans (HB.out.mono HB0.out.size)⟩):P:=h
theorem tX14 {P:Prop} (h:P:=by
 go_roundw;case rel=>have hgs:=HP.out.2.size;exact ⟨k+1,_,by omega,by rw [HUD.out];simp,by rw [HUN.out];simp,by go_num,HOK2.out,by rw [HFL.out];exact OwO.far HP.out.1 (p:=⟨w.heap.size+1+1,1,none⟩) (by dsimp only;omega) _,HGR.out.drop.set (by omega) (by intro y hy;simp only [List.mem_cons,List.not_mem_nil,or_false] at hy;rcases hy with rfl | rfl<;>dsimp only<;>omega) 1 _,by have:=HSZ.out;rw [yY];omega⟩
 case measure=>simp [intOf];omega):P:=h
theorem tX13 {P:Prop} (h:P:=by refine AllReady.cons rfl (λK hK=>?_) AllReady.nil;go_simp;refine hK _ _ ?_;clear hK K;refine wpAny_ready (rs:=[1]) (by kernel_rfl) (by simp) ?_;refine AllReady.cons rfl (λK hK=>?_) AllReady.nil;go_simp;exact tX1e):P:=h
theorem tX12 {P:Prop} (h:P:=by have HR:=aA (HBAD.out hok2);clear hok2 hwi;have r0:=(HX7.out.blk 2 rfl).cell 0;have r1:=(HX7.out.blk 2 rfl).cell 1;have r2:=(HX7.out.blk 2 rfl).free 0;have r3:=(HX7.out.blk 2 rfl).free 1;go_wp2_with (go_at_call 125;refine (HWI.out _).mono ?_;rintro e w8 ⟨rfl,hw8⟩;subst w8);refine yR (aN rfl rfl (((HX7.out.blk 2 rfl).set 0 _).set 1 _)) rfl ?_;rw [HR.out];exact iY rfl ((HX7.out.below.setCell (p:=⟨w.heap.size+1,0,none⟩) (jQ _) _).setCell (p:=⟨w.heap.size+1,1,none⟩) (jQ _) _)):P:=h
theorem tX11 {P:Prop} (h:P:=by
 clear hb;go_wp2_with (first
  | (go_at_call 172;refine (frO H (cY _ _ _)).mono ?_;rintro e w' ⟨rfl,H⟩)
  | (go_at_call 167;refine (frL H 2 rfl (cC _ _ _)).mono ?_;rintro e w' ⟨va,vc,rfl,HO,H⟩)
  | (go_at_call 166;refine (frI H (aO _ _ _ _ _ HO.out)).mono ?_;rintro e w' ⟨rfl,HO,H⟩;obtain ⟨e0,e1,d0,d1⟩:=(H.out.blk 2 rfl).two))
 exact tX30):P:=h
theorem tX10 {P:Prop} (h:P:=by go_enter Tryz.func149,Tryz.ntmps149;go_wp2_with fail;refine (HZ.out _ (HSP.out.below HB0.out)).mono ?_;rintro e w1 ⟨rfl,hb1⟩;have HB1:=aA hb1;have HK1:=aA (HK0.out.below hb1 HK0.out.lt);obtain ⟨e0,e1,_,_⟩:=HK1.out.two;clear hb1;go_wp2_with fail;refine (HJ.out _ ((HSP.out.below HB0.out).below HB1.out)).mono ?_;rintro e w2 ⟨rfl,hb2⟩;have HB2:=aA hb2;have HK2:=aA (HK1.out.below hb2 HK1.out.lt);clear e0 e1 hb2;obtain ⟨e0,e1,_,_⟩:=HK2.out.two;exact tX56):P:=h
theorem tXf {P:Prop} (h:P:=by go_wp2_with (go_at_call 214;refine HT8.out.mono ?_;rintro e w9 ⟨rfl,ho9,hk9,hb9,_⟩;have HF9:=aA (HF8.out.nextB hb9 (by omega) (by intro y hy;simp only [List.mem_cons,List.not_mem_nil,or_false] at hy;rcases hy with rfl | rfl<;>dsimp only<;>omega));have r0:=(HF9.out.blk 0 rfl).cell 0;have r1:=(HF9.out.blk 0 rfl).cell 1;have r2:=(HF9.out.blk 0 rfl).free 0;have r3:=(HF9.out.blk 0 rfl).free 1;clear ho9 hk9 hb9 v0 v1);refine yR (aN rfl rfl (((HF9.out.blk 0 rfl).set 0 _).set 1 _)) rfl ?_;rw [HRN.out];exact xD rfl ((HF9.out.below.setCell (p:=⟨w.heap.size+1,0,none⟩) (jQ _) _).setCell (p:=⟨w.heap.size+1,1,none⟩) (jQ _) _)):P:=h
theorem tXe {P:Prop} (h:P:=by
 rw [hpa] at hh;have HRE:=aA hh;obtain ⟨e0,e1,_,_⟩:=hh.b1.two;obtain ⟨q0,q1,q2,q3⟩:=hh.b2.two;clear hpa hh;go_wp2;have hk3:=(HRE.out.b2.set 0 (.string s)).set 1 (.slice a5 l5.length c5);refine yR (results_cell_row rfl _ _ (w.heap.size+1) 30 #[.string s,.slice a5 l5.length c5] (0,0) _ rfl hk3 Tryz.underlying30 rfl (by kernel_rfl)) rfl ⟨_,rfl,?_,?_⟩
 ·rw [<-HEX.out];exact ((HRE.out.own.keep (aS.setCell (λk hk=>by show k≠w.heap.size+1;omega) _)).keep (aS.setCell (λk hk=>by show k≠w.heap.size+1;omega) _)).mono (λk hk=>by omega)
 ·exact (HRE.out.below.setCell (p:=⟨w.heap.size+1,0,none⟩) (jQ _) _).setCell (p:=⟨w.heap.size+1,1,none⟩) (jQ _) _):P:=h
theorem tXd {P:Prop} (h:P:=by
 go_enter Tryz.func117,Tryz.ntmps117;go_wp2_with (first
  | (go_at_call 119;refine (frO H (oX _ _)).mono ?_;rintro e w' ⟨rfl,H⟩)
  | (go_at_call 167;refine (frL H 0 rfl (cC _ _ _)).mono ?_;rintro e w' ⟨va,vc,rfl,HO,H⟩)
  | (go_at_call 166;refine (frI H (aO _ _ _ _ _ HO.out)).mono ?_;rintro e w' ⟨rfl,HO,H⟩;obtain ⟨e0,e1,d0,d1⟩:=(H.out.blk 0 rfl).two))
 obtain ⟨h1,h2⟩:=aW (x:=.string ⟨#[76,68]⟩) (y:=.slice va 2 vc) H.out.below HO.out (λk hk=>hk) (zI _);exact tX78):P:=h
theorem tXc {P:Prop} (h:P:=by
 go_enter Tryz.func142,Tryz.ntmps142;go_upto_region 1 with fail;rw [<-hW];clear hW;go_region_held3 (λw'=>w'.cell? ⟨w.heap.size,0,none⟩=some (.string s)/\w'.cell? ⟨w.heap.size,1,none⟩=some (.slice a l.length c)) (go_keep)
  (first | (go_at_call 193;refine HSET.out.mono ?_;rintro e w1 ⟨rfl,⟨D,hown,hD⟩,hb⟩;have HB:=aA hb;have hlook:=uV hown hD s HS.out;rw [HIN.out] at hlook;have b0:w1.cell? ⟨w.heap.size,0,none⟩=some (.string s):=(hb.cell (p:=⟨w.heap.size,0,none⟩) hs1).trans a0;have b1:w1.cell? ⟨w.heap.size,1,none⟩=some (.slice a l.length c):=(hb.cell (p:=⟨w.heap.size,1,none⟩) hs1).trans a1;clear hb hown hD))
 go_wp2;go_ret;exact ⟨bK HV.out.symm,HBW.out.trans (HB.out.mono HBW.out.size)⟩):P:=h
theorem tXb {P:Prop} (h:P:=by generalize (x::l).length=n at *;go_enter Tryz.func149,Tryz.ntmps149;go_wp2_with fail;refine (HZ.out _ (HSP.out.below HB0.out)).mono ?_;rintro e w1 ⟨rfl,hb1⟩;have HB1:=aA hb1;have HK1:=aA (HK0.out.below hb1 HK0.out.lt);obtain ⟨e0,e1,_,_⟩:=HK1.out.two;clear hb1;go_wp2_with fail;refine (HJ.out _ ((HSP.out.below HB0.out).below HB1.out)).mono ?_;rintro e w2 ⟨rfl,hb2⟩;have HB2:=aA hb2;have HK2:=aA (HK1.out.below hb2 HK1.out.lt);clear e0 e1 hb2;obtain ⟨e0,e1,_,_⟩:=HK2.out.two;have d1':=(HB2.out.cell (p:=⟨b,o,none⟩) (vB (vB hbl HB0.out.size) HB1.out.size)).trans ((HB1.out.cell (p:=⟨b,o,none⟩) (vB hbl HB0.out.size)).trans ((HB0.out.cell (p:=⟨b,o,none⟩) hbl).trans d1));exact tX56):P:=h
theorem tXa {P:Prop} (h:P:=by go_enter Tryz.func74,Tryz.ntmps74;go_wp2_with fail;refine (HCB.out _).mono ?_;rintro e w1 ⟨v,rfl,ho,hb⟩;obtain ⟨va,vc,rfl⟩:=ho.form;have H:=aA (HF.out.next hb);have HO:Hid (aD w1 (λk=>w.heap.size+2<=k) (.slice va l.length vc) l):=ho.mono (λk hk=>by rw [zW,zW] at hk;omega);clear ho hb;have r0:=(H.out.blk 1 rfl).cell 0;have y0:=(H.out.blk 1 rfl).free 0;have r1:=(H.out.blk 1 rfl).cell 1;have y1:=(H.out.blk 1 rfl).free 1;have r2:=(H.out.blk 1 rfl).cell 2;have y2:=(H.out.blk 1 rfl).free 2;have r3:=(H.out.blk 1 rfl).cell 3;have y3:=(H.out.blk 1 rfl).free 3;have r4:=(H.out.blk 1 rfl).cell 4;have y4:=(H.out.blk 1 rfl).free 4;have r5:=(H.out.blk 1 rfl).cell 5;have y5:=(H.out.blk 1 rfl).free 5;go_wp2;exact yR (eD rfl rfl (fV (H.out.blk 1 rfl) _ _ _ _ _ _)) rfl ⟨_,rfl,((HO.out.set6 (λk hk=>by omega) _ _ _ _ _ _).mono (λk hk=>by omega)),bE H.out.below (zI _) _ _ _ _ _ _⟩):P:=h
theorem tX9 {P:Prop} (h:P:=by
 have HA:=aA (HI.out.later ((zY _ _).alloc (zI _) (.cells #[.int .i64 yk,.int .i64 yr,.int .i64 yn] 52)));have HB:=aA (Blk.new wr 52 #[.int .i64 yk,.int .i64 yr,.int .i64 yn]);go_wp2_with (go_at_call 173;refine (mL _ _).mono ?_;rintro e w' ⟨rfl,hb⟩;have HJ:=aA (HA.out.later hb);have hbl':b < (wr.alloc (.cells #[.int .i64 yk,.int .i64 yr,.int .i64 yn] 52)).heap.size:=(by rw [zW];omega);have c0:=(hb.cell (p:=⟨b,o+k * 3,none⟩) hbl').trans (HC0.out _);have c1:=(hb.cell (p:=⟨b,o+k * 3+1,none⟩) hbl').trans (HC1.out _);have c2:=(hb.cell (p:=⟨b,o+k * 3+2,none⟩) hbl').trans (HC2.out _);have f0:=(hb.frozen (p:=⟨b,o+k * 3,none⟩) hbl').trans (HF0.out _);have f1:=(hb.frozen (p:=⟨b,o+k * 3+1,none⟩) hbl').trans (HF1.out _);have f2:=(hb.frozen (p:=⟨b,o+k * 3+2,none⟩) hbl').trans (HF2.out _);have g1:=HJ.out.blk8.cell 1;obtain ⟨t0,t1,t2,_,_,_⟩:=(HB.out.below hb HB.out.lt).three;clear hb hbl');go_quiet (fail);go_wp2;go_roundw;case rel=>exact ⟨k+1,by omega,by go_num,by rw [HXA.out,HNE.out];rfl,by rw [HXS.out];exact HJ.out.later (aY (zY _ _) _)⟩
 case measure=>simp [intOf];omega):P:=h
theorem tX8 {P:Prop} (h:P:=by
 have HA:=aA (HI.out.later ((zY _ _).alloc (zI _) (.cells #[.int .i64 4,.int .i64 2,.int .i64 0] 52)));have HB:=aA (Blk.new wr 52 #[.int .i64 4,.int .i64 2,.int .i64 0]);go_wp2_with (go_at_call 173;refine (mL _ _).mono ?_;rintro e w' ⟨rfl,hb⟩;have HJ:=aA (HA.out.later hb);have hbl':b < (wr.alloc (.cells #[.int .i64 4,.int .i64 2,.int .i64 0] 52)).heap.size:=(by rw [zW];omega);have c0:=(hb.cell (p:=⟨b,o+k * 3,none⟩) hbl').trans (HC0.out _);have c1:=(hb.cell (p:=⟨b,o+k * 3+1,none⟩) hbl').trans (HC1.out _);have c2:=(hb.cell (p:=⟨b,o+k * 3+2,none⟩) hbl').trans (HC2.out _);have f0:=(hb.frozen (p:=⟨b,o+k * 3,none⟩) hbl').trans (HF0.out _);have f1:=(hb.frozen (p:=⟨b,o+k * 3+1,none⟩) hbl').trans (HF1.out _);have f2:=(hb.frozen (p:=⟨b,o+k * 3+2,none⟩) hbl').trans (HF2.out _);have g1:=HJ.out.blk8.cell 1;obtain ⟨t0,t1,t2,_,_,_⟩:=(HB.out.below hb HB.out.lt).three;clear hb hbl');go_quiet (fail);go_wp2;go_roundw;case rel=>exact ⟨k+1,by omega,by go_num,by rw [HXA.out,HNE.out];rfl,by rw [HXS.out];exact (HJ.out.setRg reg HQ.out HMA.out).later (aY (zY _ _) _)⟩
 case measure=>simp [intOf];omega):P:=h
theorem tX7 {P:Prop} (h:P:=by have e0:=(H.out.blk 0 rfl).cell 0;have e1:=(H.out.blk 0 rfl).cell 1;have e2:=(H.out.blk 0 rfl).cell 2;have e3:=(H.out.blk 0 rfl).cell 3;have e4:=(H.out.blk 0 rfl).cell 4;have e5:=(H.out.blk 0 rfl).cell 5;have r0:=(H.out.blk 1 rfl).cell 0;have r1:=(H.out.blk 1 rfl).cell 1;have r2:=(H.out.blk 1 rfl).cell 2;have r3:=(H.out.blk 1 rfl).cell 3;have r4:=(H.out.blk 1 rfl).cell 4;have r5:=(H.out.blk 1 rfl).cell 5;have z0:=(H.out.blk 0 rfl).free 0;have y0:=(H.out.blk 1 rfl).free 0;have z1:=(H.out.blk 0 rfl).free 1;have y1:=(H.out.blk 1 rfl).free 1;have z2:=(H.out.blk 0 rfl).free 2;have y2:=(H.out.blk 1 rfl).free 2;have z3:=(H.out.blk 0 rfl).free 3;have y3:=(H.out.blk 1 rfl).free 3;have z4:=(H.out.blk 0 rfl).free 4;have y4:=(H.out.blk 1 rfl).free 4;have z5:=(H.out.blk 0 rfl).free 5;have y5:=(H.out.blk 1 rfl).free 5;go_wp2;exact yR (eD rfl rfl (fV ((((H.out.blk 1 rfl).far (p:=⟨w.heap.size+1,2,none⟩) (YX (YH _)) _).far (p:=⟨w.heap.size+1,3,none⟩) (YX (YH _)) _).far (p:=⟨w.heap.size+1,4,none⟩) (YX (YH _)) _) _ _ _ _ _ _)) rfl ⟨rfl,bE (((H.out.below.setCell (p:=⟨w.heap.size+1,2,none⟩) (jQ _) _).setCell (p:=⟨w.heap.size+1,3,none⟩) (jQ _) _).setCell (p:=⟨w.heap.size+1,4,none⟩) (jQ _) _) (zI _) _ _ _ _ _ _⟩):P:=h
theorem tX6 {P:Prop} (h:P:=by have HOK2:=aA hok2;clear hok2 hwi;go_upto_region 17 with (go_at_call 125;refine (HWI.out _).mono ?_;rintro e w8 ⟨rfl,hw8⟩;subst w8);clear x2;have x2:=(HX7.out.blk 0 rfl).cell 2;go_wp2_with (at_builtin;refine cK rfl (.tmp 66) (.tmp 68) 28 rfl (w.heap.size+1+1+1) 52 24 lH _ xs ⟨xk,xr,n⟩ _ rfl rfl HO7.out rfl (by have:=HFN.out;have:=HL0.out;omega) (by have:=HFN.out;have:=HL0.out;omega) (by have:=HSZ.out;omega) ?_;intro a' c' w' hp;have HP:=aA hp;have HGR:=aA (HX7.out.grown HP.out.2 (λj hj=>⟨by have:=(Own.lt HO7.out j hj).1;omega,by have h1:=(Own.lt HO7.out j hj).1;have h2:=(Own.lt HO.out j hj).2;intro y hy;simp only [List.mem_cons,List.not_mem_nil,or_false] at hy;rcases hy with rfl | rfl | rfl | rfl<;>dsimp only<;>omega⟩));have k1:=(HGR.out.blk 1 rfl).cell 1;have k2:=(HGR.out.blk 1 rfl).free 1;clear hp);exact tX14):P:=h
theorem tX5 {P:Prop} (h:P:=by go_wp2;refine yR (aH rfl _ _ (w.heap.size+1) 262 #[.int .i64 idx,(.func (.func 259) #[] #[.pointer (some ⟨a,0,none⟩),.pointer (some ⟨b,0,none⟩)])] (0,0) _ rfl (((HF3.out.blk 2 rfl).set 0 _).set 1 _) Tryz.underlying262 rfl (by kernel_rfl)) rfl ?_;have ka:=((HV.out.blk 2 rfl).far (p:=⟨w.heap.size+1,0,none⟩) (by have:=HA.out;dsimp only;omega) (.int .i64 idx)).far (p:=⟨w.heap.size+1,1,none⟩) (by have:=HA.out;dsimp only;omega) (.func (.func 259) #[] #[.pointer (some ⟨a,0,none⟩),.pointer (some ⟨b,0,none⟩)]);have kb:=((HV.out.blk 1 rfl).far (p:=⟨w.heap.size+1,0,none⟩) (by have:=HA.out;dsimp only;omega) (.int .i64 idx)).far (p:=⟨w.heap.size+1,1,none⟩) (by have:=HA.out;dsimp only;omega) (.func (.func 259) #[] #[.pointer (some ⟨a,0,none⟩),.pointer (some ⟨b,0,none⟩)]);have kz:=(HF3.out.below.setCell (p:=⟨w.heap.size+1,0,none⟩) (jQ _) (.int .i64 idx)).setCell (p:=⟨w.heap.size+1,1,none⟩) (jQ _) (.func (.func 259) #[] #[.pointer (some ⟨a,0,none⟩),.pointer (some ⟨b,0,none⟩)]);refine ⟨(.func (.func 259) #[] #[.pointer (some ⟨a,0,none⟩),.pointer (some ⟨b,0,none⟩)]),?_,λ_=>⟨a,b,rfl,by have:=HA.out;omega,by have:=HA.out;omega,ka.lt,kb.lt,ka.cell 0,kb.cell 0⟩,by first | exact kz | exact kz.drew,rfl⟩;have ht:=HT.out;rw [hd] at ht;first | (rw [<-ht];rfl) | (simp only [Bool.false_and] at ht;subst ht;simp [Act.put])):P:=h
theorem tX4 {P:Prop} (h:P:=by have e0:=(H.out.blk 0 rfl).cell 0;have e1:=(H.out.blk 0 rfl).cell 1;have e2:=(H.out.blk 0 rfl).cell 2;have e3:=(H.out.blk 0 rfl).cell 3;have e4:=(H.out.blk 0 rfl).cell 4;have e5:=(H.out.blk 0 rfl).cell 5;have r0:=(H.out.blk 1 rfl).cell 0;have r1:=(H.out.blk 1 rfl).cell 1;have r2:=(H.out.blk 1 rfl).cell 2;have r3:=(H.out.blk 1 rfl).cell 3;have r4:=(H.out.blk 1 rfl).cell 4;have r5:=(H.out.blk 1 rfl).cell 5;have z0:=(H.out.blk 0 rfl).free 0;have y0:=(H.out.blk 1 rfl).free 0;have z1:=(H.out.blk 0 rfl).free 1;have y1:=(H.out.blk 1 rfl).free 1;have z2:=(H.out.blk 0 rfl).free 2;have y2:=(H.out.blk 1 rfl).free 2;have z3:=(H.out.blk 0 rfl).free 3;have y3:=(H.out.blk 1 rfl).free 3;have z4:=(H.out.blk 0 rfl).free 4;have y4:=(H.out.blk 1 rfl).free 4;have z5:=(H.out.blk 0 rfl).free 5;have y5:=(H.out.blk 1 rfl).free 5;go_wp2;refine yR (eD rfl rfl (fV ((((H.out.blk 1 rfl).far (p:=⟨w.heap.size+1,2,none⟩) (YX (YH _)) _).far (p:=⟨w.heap.size+1,3,none⟩) (YX (YH _)) _).far (p:=⟨w.heap.size+1,4,none⟩) (YX (YH _)) _) _ _ _ _ _ _)) rfl ⟨_,rfl,(((((HO.out.far (p:=⟨w.heap.size+1,2,none⟩) (λk hk=>by show k≠w.heap.size+1;omega) _).far (p:=⟨w.heap.size+1,3,none⟩) (λk hk=>by show k≠w.heap.size+1;omega) _).far (p:=⟨w.heap.size+1,4,none⟩) (λk hk=>by show k≠w.heap.size+1;omega) _).set6 (λk hk=>by omega) _ _ _ _ _ _).mono (λk hk=>by omega)),bE (((H.out.below.setCell (p:=⟨w.heap.size+1,2,none⟩) (jQ _) _).setCell (p:=⟨w.heap.size+1,3,none⟩) (jQ _) _).setCell (p:=⟨w.heap.size+1,4,none⟩) (jQ _) _) (zI _) _ _ _ _ _ _⟩):P:=h
theorem tX3 {P:Prop} (h:P:=by
 obtain ⟨w1,hw1⟩:∃w1:World,w1=w.alloc (.cells #[.int .i64 1,.int .i64 7,.int .i64 0] 52):=⟨_,rfl⟩;have hb1:Below w.heap.size w w1:=hw1 ▸ (zY _ _).alloc (zI _) _;have ka:Blk w1 w.heap.size 52 #[.int .i64 1,.int .i64 7,.int .i64 0]:=hw1 ▸ Blk.new w _ _;have HW1:=h.later hb1;have E0:∀d os,(grow (redrawn w1 d) os).cell? ⟨bw,0,none⟩=some (.string s):=λd os=>cell_regrown HW1.blk.two.1 d os;have E1:∀d os,(grow (redrawn w1 d) os).cell? ⟨bw,1,none⟩=some (.slice a n c):=λd os=>cell_regrown HW1.blk.two.2.1 d os;have HS:Hid (∀d os,Spc (grow (redrawn w1 d) os)):=λd os=>HW1.spc.below (below_regrown w1 d os);have hword:=λwx hT=>gG s wx hT;simp only [h1] at hword;have HWORD:=aA hword;clear hword;have KA:=aA ka;have HB1:=aA hb1;have H1:=aA HW1;clear ka hb1 HW1;go_enter Tryz.func101,Tryz.ntmps101;go_wp2;rw [<-hw1];have HE:=aA hw1;clear hw1;refine wp_region_quiet_below (by kernel_rfl) (by kernel_rfl) ?_;repeat (go_big_quiet_step (exact Calls.regrown_of (HWORD.out _ (HS.out _ _))))
 refine wpQuiet_nil ?_;intro _ hw';obtain ⟨⟨dq,osq⟩,hw''⟩:=hw';subst hw'';have HB2:Hid (Below w1.heap.size w1 (grow (redrawn w1 dq) osq)):=below_regrown w1 dq osq;generalize grow (redrawn w1 dq) osq=w2 at *;have H2:Hid (Wr w0 w2 bw s (.slice a n c) l):=H1.out.later HB2.out;obtain ⟨e0,e1,f0,f1⟩:=H2.out.blk.two;clear E0 E1 HS;cases h2:inL iS s
 ·have hword:=λwx hT=>fB s wx hT;exact tX1d
 ·have n1:=N1.out h2;have hword:=λwx hT=>fB s wx hT;exact tX1d):P:=h
theorem tX2 {P:Prop} (h:P:=by have HJ2:=aA (HJs.set (by have:=HA.out;omega) (by intro y hy;simp only [List.mem_cons,List.not_mem_nil,or_false] at hy;have:=HA.out;rcases hy with rfl | rfl | rfl<;>dsimp only<;>omega) 1 (.func (.func 259) #[] #[.pointer (some ⟨a,0,none⟩),.pointer (some ⟨b,0,none⟩)]));obtain ⟨W6,hW6⟩:∃W:World,W=(w5.setCell ⟨g,1,none⟩ (.func (.func 259) #[] #[.pointer (some ⟨a,0,none⟩),.pointer (some ⟨b,0,none⟩)])):=⟨_,rfl⟩;rw [<-hW6] at HJ2 ⊢;clear hW6 HJs HJ g0 g1 gf gf0;have g0:=(HJ2.out.blk 0 rfl).cell 0;have g1:=(HJ2.out.blk 0 rfl).cell 1;have r0:=(HJ2.out.blk 3 rfl).cell 0;have r1:=(HJ2.out.blk 3 rfl).cell 1;have r2:=(HJ2.out.blk 3 rfl).free 0;have r3:=(HJ2.out.blk 3 rfl).free 1;have kr:=((HJ2.out.blk 3 rfl).set 0 (.int .i64 nS)).set 1 (.func (.func 259) #[] #[.pointer (some ⟨a,0,none⟩),.pointer (some ⟨b,0,none⟩)]);have ka:=((HJ2.out.blk 2 rfl).far (p:=⟨w.heap.size+1,0,none⟩) (by have:=HA.out;dsimp only;omega) (.int .i64 nS)).far (p:=⟨w.heap.size+1,1,none⟩) (by have:=HA.out;dsimp only;omega) (.func (.func 259) #[] #[.pointer (some ⟨a,0,none⟩),.pointer (some ⟨b,0,none⟩)]);have kb:=((HJ2.out.blk 1 rfl).far (p:=⟨w.heap.size+1,0,none⟩) (by have:=HA.out;dsimp only;omega) (.int .i64 nS)).far (p:=⟨w.heap.size+1,1,none⟩) (by have:=HA.out;dsimp only;omega) (.func (.func 259) #[] #[.pointer (some ⟨a,0,none⟩),.pointer (some ⟨b,0,none⟩)]);have kz:=(HJ2.out.below.setCell (p:=⟨w.heap.size+1,0,none⟩) (jQ _) (.int .i64 nS)).setCell (p:=⟨w.heap.size+1,1,none⟩) (jQ _) (.func (.func 259) #[] #[.pointer (some ⟨a,0,none⟩),.pointer (some ⟨b,0,none⟩)]);clear HC1 HC2 HC3;go_region;all_goals go_wp2;all_goals refine yR (aH rfl _ _ (w.heap.size+1) 262 #[.int .i64 nS,(.func (.func 259) #[] #[.pointer (some ⟨a,0,none⟩),.pointer (some ⟨b,0,none⟩)])] (0,0) _ rfl kr Tryz.underlying262 rfl (by kernel_rfl)) rfl ?_;exact tX25):P:=h
theorem tX1 {P:Prop} (h:P:=by
 obtain ⟨k,hk,rfl,ho,hb⟩:=hrel;by_cases hlt:k < l.length
 ·have hlt2:k < (bF a l).length:=by rw [HCF.out];exact hlt
  have HT:=ZP hlt2;rw [nT l a k hlt hlt2] at HT;have HTT:=aA HT;obtain ⟨ad,cd,hv,_,_,g⟩:=(HBS.out.old.below hb).byteQ;obtain ⟨rfl,_,rfl⟩:sa=ad/\l.length=l.length/\c=cd:=by injection hv with h1 h2 h3;exact ⟨h1,h2,h3⟩
  obtain ⟨b1,o1,rfl,_,hcell⟩:=g k l[k] (zL hlt);have hlen:((bF a l).take k).length=k:=by rw [JX,HCF.out];omega
  have HLEN:=aA hlen;have hak:(a:Int)+k<=65536:=by have:=HLL.out;omega
  have hk0:(0:Int)<=(k:Int):=by omega
  clear g hv HT hlen hlt2;generalize l[k]=y at *;generalize hx:(bF a l).take k=xs at *;have HX:=aA hx;have HO:=aA ho;have HB:=aA hb;obtain ⟨oa,oc,rfl⟩:=ho.form;clear hx ho hb;have HC1:Hid ((xs.length+1) * 16<=140737488355328):=by show _<=_;have:=HLEN.out;omega
  have HC2:Hid (xs.length+1<=9223372036854775807):=by show _<=_;have:=HLEN.out;omega
  go_wp2_with (at_builtin;refine cK rfl (.tmp 54) (.tmp 63) 41 rfl w.heap.size 145 16 rV _ xs ⟨a+k,y⟩ _ rfl rfl HO.out (by go_num) HC1.out HC2.out HB.out.size ?_;intro a' c' w' hp;have HP:=aA hp;clear hp);go_roundw;case rel=>exact ⟨k+1,by omega,by go_num,by rw [HTT.out];exact HP.out.1,HB.out.grown HP.out.2 HB.out.size (λj hj=>(HO.out.lt j hj).1)⟩
  case measure=>simp [intOf];omega
 ·obtain rfl:k=l.length:=by omega
  have hco:=ho;rw [<-HCF.out,z0L] at hco;have HCO:=aA hco;have HB:=aA hb;obtain ⟨ca,cc,rfl⟩:=ho.form;rw [show ((bF a l).take l.length).length=l.length by rw [JX,HCF.out];omega] at *;clear ho hb hco;go_upto_region 15 with fail;have HOM:Hid (Own cH (wr.alloc (.cells #[] 145)).drew wr.heap.size 145 NoB (.slice (some ⟨wr.heap.size,0,none⟩) 0 0) []):=(Own.made wr _ _).keep (aS.drew _);have HX1:Hid (SlR cH (wr.alloc (.cells #[] 145)).drew (λk=>p k/\k < w.heap.size) v1 l1):=((HV1.out.old.below HB.out).alloc _).drew;have HQ1:Hid (∀k,p k/\k < w.heap.size->some k≠Value.ownBlock (.slice (some ⟨wr.heap.size,0,none⟩) 0 0)):=λk hk e=>by have:=HB.out.size;simp [Value.ownBlock] at e;omega
  have HB1:Hid (Below wr.heap.size wr (wr.alloc (.cells #[] 145)).drew):=((zY _ wr).alloc (zI _) _).drew;have HN1:Hid ((([]:List cJ).length+l1.length) * 16<=140737488355328):=by show (0+_) * 16<=_;have:=HL12.out;have:=HM.out;omega
  have HN2:Hid (([]:List cJ).length+l1.length<=9223372036854775807):=by show 0+_<=_;have:=HL12.out;have:=HM.out;omega
  have HN3:Hid ((l1.length+(bF a l).length) * 16<=140737488355328):=by show _<=_;rw [HCF.out];have:=HL12.out;have:=HM.out;have:=HLL.out;omega
  have HN4:Hid (l1.length+(bF a l).length<=9223372036854775807):=by show _<=_;rw [HCF.out];have:=HL12.out;have:=HM.out;have:=HLL.out;omega
  have HN5:Hid (((l1++bF a l).length+l2.length) * 16<=140737488355328):=by show _<=_;rw [YL,HCF.out];have:=HL12.out;have:=HM.out;have:=HLL.out;omega
  have HN6:Hid ((l1++bF a l).length+l2.length<=9223372036854775807):=by show _<=_;rw [YL,HCF.out];have:=HL12.out;have:=HM.out;have:=HLL.out;omega
  go_region_held3 (λ_=>True) (exact trivial)
   (first
    | ((refine eK (o:=⟨some 69,_,_,_,_,_⟩) _ ?g69 (.tmp 65) (.tmp 68) 41 ?o69 wr.heap.size 145 16 rV NoB (λk=>p k/\k < w.heap.size) (.slice (some ⟨wr.heap.size,0,none⟩) 0 0) v1 [] l1 ?x69 ?y69 HOM.out HX1.out (λ_ h=>h.elim) HQ1.out HN1.out HN2.out HB1.out.size ?z69);(case g69=>rfl);(case o69=>rfl);(case x69=>rfl);(case y69=>rfl);intro v5 wA hap;rw [z0T] at hap;have HB2:=aA (HB1.out.grown hap.2.1 HB1.out.size (λk e=>by simp [Value.ownBlock] at e;omega));have HO2:Hid (Own cH wA wr.heap.size 145 NoB v5 l1):=hap.1.flat NoB;obtain ⟨a5,c5,rfl⟩:=hap.1.form;have HX2:Hid (SlR cH wA (λk=>w.heap.size<=k/\k < wr.heap.size) (.slice ca l.length cc) (bF a l)):=(HCO.out.slR (q:=λk=>w.heap.size<=k) (λ_ h=>h.elim) (λ_ h=>h)).old.below HB2.out;have HQ2:Hid (∀k,w.heap.size<=k/\k < wr.heap.size->some k≠Value.ownBlock (.slice a5 l1.length c5)):=λk hk e=>by {have:=(HO2.out.lt k e.symm).1;omega};clear hap)
    | (refine eK (o:=⟨some 71,_,_,_,_,_⟩) _ ?g71 (.tmp 69) (.tmp 70) 41 ?o71 wr.heap.size 145 16 rV NoB (λk=>w.heap.size<=k/\k < wr.heap.size) (.slice a5 l1.length c5) (.slice ca l.length cc) l1 (bF a l) ?x71 ?y71 HO2.out HX2.out (λ_ h=>h.elim) HQ2.out HN3.out HN4.out HB2.out.size ?z71;(case g71=>rfl);(case o71=>rfl);(case x71=>rfl);(case y71=>rfl);intro v6 wC hap;have HB3:=aA (HB2.out.grown hap.2.1 HB2.out.size (λk e=>(HO2.out.lt k e).1));have HO3:Hid (Own cH wC wr.heap.size 145 NoB v6 (l1++bF a l)):=hap.1.flat NoB;obtain ⟨a6,c6,rfl⟩:=hap.1.form;have HX3:Hid (SlR cH wC (λk=>p k/\k < w.heap.size) v2 l2):=HV2.out.old.below (HB.out.trans (HB3.out.mono HB.out.size));have HQ3:Hid (∀k,p k/\k < w.heap.size->some k≠Value.ownBlock (.slice a6 (l1++bF a l).length c6)):=λk hk e=>by {have:=(HO3.out.lt k e.symm).1;have:=HB.out.size;omega};clear hap)
    | (refine eK (o:=⟨some 75,_,_,_,_,_⟩) _ ?g75 (.tmp 71) (.tmp 74) 41 ?o75 wr.heap.size 145 16 rV NoB (λk=>p k/\k < w.heap.size) (.slice a6 (l1++bF a l).length c6) v2 (l1++bF a l) l2 ?x75 ?y75 HO3.out HX3.out (λ_ h=>h.elim) HQ3.out HN5.out HN6.out HB3.out.size ?z75;(case g75=>rfl);(case o75=>rfl);(case x75=>rfl);(case y75=>rfl);intro v7 wD hap;have HB4:=aA (HB3.out.grown hap.2.1 HB3.out.size (λk e=>(HO3.out.lt k e).1));have HO4:Hid (Own cH wD wr.heap.size 145 NoB v7 (l1++bF a l++l2)):=hap.1.flat NoB;obtain ⟨a7,c7,rfl⟩:=hap.1.form;clear hap))
  go_wp2;go_ret2;refine ⟨_,rfl,?_,HB.out.trans (HB4.out.mono HB.out.size)⟩;have HF:=HO4.out.slR (q:=λk=>w.heap.size<=k) (λ_ h=>h.elim) (λk hk=>qJ HB.out.size hk);simp only [List.length_append,Nat.add_assoc] at HF;exact HF):P:=h
end Go.Proofs.YtpigbggoiipmhaaGreatDoor
