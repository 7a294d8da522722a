/-
  The reference's At. Conditions: the opcode is a byte.
-/
import Derived.Test.YtnbmbcjnncbaiaaGreatDoorQH
import Derived.Test.YtnbmbcjnncbaiaaGreatDoorQJ
import Derived.Test.YtnbmbcjnncbaiaaGreatDoorPK
import Derived.Test.YtnbmbcjnncbaiaaGreatDoorPF
namespace Go.Proofs.YtnbmbcjnncbaiaaGreatDoor
set_option maxHeartbeats 8000000
set_option maxRecDepth 100000
open Go.RowKit Go.Shelf Go.Sort
def ent9:Value:=.agg #[.int .i64 0,.int .u8 0,.string ⟨#[]⟩,.slice none 0 0,.string ⟨#[]⟩,.bool false]
theorem at9_end {fn:Func} {p u:Tmp} (h:fn.results=#[.cell p 85,.tmp u]) {tmps:Array Value} {w':World} {g:Nat} {a0 a1 a2 a3 a4 a5:Value} (hp:tmps.getD p undef=.pointer (some ⟨g,0,none⟩))
  (hg:Blk w' g 85 #[a0,a1,a2,a3,a4,a5]):(results fn tmps).run Tryz.prog w'=.ok (.tuple #[.agg #[a0,a1,a2,a3,a4,a5],tmps.getD u undef]) w':=
 results_row_tmp h tmps w' g 85 _ (0,0) _ hp hg Tryz.underlying85 rfl (by kernel_rfl)
theorem str_empty {s:ByteArray} (h:¬s=⟨#[]⟩):(s.toList==[])=false∧s.toList.isEmpty=false:=by
 have h1:s.toList≠[]:=fun e=>h (toList_inj (by rw [e];exact (Go.ByteArray.toList_eq (⟨#[]⟩:ByteArray)).symm))
 exact ⟨by rw [beq_eq_false_iff_ne];exact h1,by cases hl:s.toList with | nil=>exact absurd hl h1 | cons a b=>rfl⟩
theorem OpdOwn.set6 {w:World} {q:Blocks} {g:Nat} {v:Value} {l:List Opd} (h:OpdOwn w q v l) (hg:∀k,q k→k≠g) (a0 a1 a2 a3 a4 a5:Value):OpdOwn (set6 w g a0 a1 a2 a3 a4 a5) q v l:=h.keep (fun k hk=>set6_far _ _ _ _ _ _ _ _ k (hg k hk))
theorem At9_0_no (op:Int) (h0:0≤op) (h8:op < 256) (hs:(mainF op).1=⟨#[]⟩) (w:World):Calls Tryz.prog 55 #[.int .i64 0,.int .u8 op] w fun e w'=>e=.returned (.tuple #[ent9,.int .i64 2])∧Below w.heap.size w w':=by
 have HCB:=Lib.hid (fun W=>main9_any op h0 h8 W)
 have HF:=Lib.hid (((Fr.start w).new 85 #[.int .i64 0,.int .u8 0,.string ⟨#[]⟩,.slice none 0 0,.string ⟨#[]⟩,.bool false]).new' 85 #[.int .i64 0,.int .u8 op,.string ⟨#[]⟩,.slice none 0 0,.string ⟨#[]⟩,.bool false] (b:=w.heap.size+1) (by rw [World.size_alloc]))
 generalize (mainF op).1=s at *
 generalize (mainF op).2.1=l at *
 generalize (mainF op).2.2=ex at *
 subst hs
 go_enter Tryz.func55,Tryz.ntmps55
 go_wp2_with fail
 refine (HCB.out _).mono ?_
 rintro e w1 ⟨v,rfl,ho,hb⟩
 obtain ⟨va,vc,rfl⟩:=ho.form
 have H:=Lib.hid (HF.out.next hb)
 have hs1:w.heap.size+2≤w1.heap.size:=by have:=(H.out.blk 0 rfl).lt;omega
 have HO:Hid (OpdOwn w1 (fun k=>w.heap.size+2≤k) (.slice va l.length vc) l):=ho.mono (fun k hk=>by rw [World.size_alloc,World.size_alloc] at hk;omega)
 clear ho hb
 have e0:=(H.out.blk 0 rfl).cell 0
 have e1:=(H.out.blk 0 rfl).cell 1
 have e2:=(H.out.blk 0 rfl).cell 2
 have e3:=(H.out.blk 0 rfl).cell 3
 have e4:=(H.out.blk 0 rfl).cell 4
 have e5:=(H.out.blk 0 rfl).cell 5
 have r0:=(H.out.blk 1 rfl).cell 0
 have r1:=(H.out.blk 1 rfl).cell 1
 have r2:=(H.out.blk 1 rfl).cell 2
 have r3:=(H.out.blk 1 rfl).cell 3
 have r4:=(H.out.blk 1 rfl).cell 4
 have r5:=(H.out.blk 1 rfl).cell 5
 have z0:=(H.out.blk 0 rfl).free 0
 have y0:=(H.out.blk 1 rfl).free 0
 have z1:=(H.out.blk 0 rfl).free 1
 have y1:=(H.out.blk 1 rfl).free 1
 have z2:=(H.out.blk 0 rfl).free 2
 have y2:=(H.out.blk 1 rfl).free 2
 have z3:=(H.out.blk 0 rfl).free 3
 have y3:=(H.out.blk 1 rfl).free 3
 have z4:=(H.out.blk 0 rfl).free 4
 have y4:=(H.out.blk 1 rfl).free 4
 have z5:=(H.out.blk 0 rfl).free 5
 have y5:=(H.out.blk 1 rfl).free 5
 go_wp2
 exact bodyPost_ret (at9_end rfl rfl (entry6g ((((H.out.blk 1 rfl).far (p:=⟨w.heap.size+1,2,none⟩) (Nat.ne_of_lt (Nat.lt_succ_self _)) _).far (p:=⟨w.heap.size+1,3,none⟩) (Nat.ne_of_lt (Nat.lt_succ_self _)) _).far (p:=⟨w.heap.size+1,4,none⟩) (Nat.ne_of_lt (Nat.lt_succ_self _)) _) _ _ _ _ _ _)) rfl ⟨rfl,set6_below (((H.out.below.setCell (p:=⟨w.heap.size+1,2,none⟩) (Nat.le_succ _) _).setCell (p:=⟨w.heap.size+1,3,none⟩) (Nat.le_succ _) _).setCell (p:=⟨w.heap.size+1,4,none⟩) (Nat.le_succ _) _) (Nat.le_refl _) _ _ _ _ _ _⟩
theorem At9_0_yes (op:Int) (h0:0≤op) (h8:op < 256) (hs:¬(mainF op).1=⟨#[]⟩) (w:World):Calls Tryz.prog 55 #[.int .i64 0,.int .u8 op] w fun e w'=>∃v,e=.returned (.tuple #[.agg #[.int .i64 0,.int .u8 op,.string (mainF op).1,v,.string (mainF op).2.2,.bool false],.int .i64 1])∧OpdOwn w' (fun b=>w.heap.size≤b) v (mainF op).2.1∧Below w.heap.size w w':=by
 have HCB:=Lib.hid (fun W=>main9_any op h0 h8 W)
 have HF:=Lib.hid (((Fr.start w).new 85 #[.int .i64 0,.int .u8 0,.string ⟨#[]⟩,.slice none 0 0,.string ⟨#[]⟩,.bool false]).new' 85 #[.int .i64 0,.int .u8 op,.string ⟨#[]⟩,.slice none 0 0,.string ⟨#[]⟩,.bool false] (b:=w.heap.size+1) (by rw [World.size_alloc]))
 generalize (mainF op).1=s at *
 generalize (mainF op).2.1=l at *
 generalize (mainF op).2.2=ex at *
 obtain ⟨t1,t2⟩:=str_empty hs
 go_enter Tryz.func55,Tryz.ntmps55
 go_wp2_with fail
 refine (HCB.out _).mono ?_
 rintro e w1 ⟨v,rfl,ho,hb⟩
 obtain ⟨va,vc,rfl⟩:=ho.form
 have H:=Lib.hid (HF.out.next hb)
 have hs1:w.heap.size+2≤w1.heap.size:=by have:=(H.out.blk 0 rfl).lt;omega
 have HO:Hid (OpdOwn w1 (fun k=>w.heap.size+2≤k) (.slice va l.length vc) l):=ho.mono (fun k hk=>by rw [World.size_alloc,World.size_alloc] at hk;omega)
 clear ho hb
 have e0:=(H.out.blk 0 rfl).cell 0
 have e1:=(H.out.blk 0 rfl).cell 1
 have e2:=(H.out.blk 0 rfl).cell 2
 have e3:=(H.out.blk 0 rfl).cell 3
 have e4:=(H.out.blk 0 rfl).cell 4
 have e5:=(H.out.blk 0 rfl).cell 5
 have r0:=(H.out.blk 1 rfl).cell 0
 have r1:=(H.out.blk 1 rfl).cell 1
 have r2:=(H.out.blk 1 rfl).cell 2
 have r3:=(H.out.blk 1 rfl).cell 3
 have r4:=(H.out.blk 1 rfl).cell 4
 have r5:=(H.out.blk 1 rfl).cell 5
 have z0:=(H.out.blk 0 rfl).free 0
 have y0:=(H.out.blk 1 rfl).free 0
 have z1:=(H.out.blk 0 rfl).free 1
 have y1:=(H.out.blk 1 rfl).free 1
 have z2:=(H.out.blk 0 rfl).free 2
 have y2:=(H.out.blk 1 rfl).free 2
 have z3:=(H.out.blk 0 rfl).free 3
 have y3:=(H.out.blk 1 rfl).free 3
 have z4:=(H.out.blk 0 rfl).free 4
 have y4:=(H.out.blk 1 rfl).free 4
 have z5:=(H.out.blk 0 rfl).free 5
 have y5:=(H.out.blk 1 rfl).free 5
 go_wp2
 refine bodyPost_ret (at9_end rfl rfl (entry6g ((((H.out.blk 1 rfl).far (p:=⟨w.heap.size+1,2,none⟩) (Nat.ne_of_lt (Nat.lt_succ_self _)) _).far (p:=⟨w.heap.size+1,3,none⟩) (Nat.ne_of_lt (Nat.lt_succ_self _)) _).far (p:=⟨w.heap.size+1,4,none⟩) (Nat.ne_of_lt (Nat.lt_succ_self _)) _) _ _ _ _ _ _)) rfl ⟨_,rfl,(((((HO.out.far (p:=⟨w.heap.size+1,2,none⟩) (fun k hk=>by show k≠w.heap.size+1;omega) _).far (p:=⟨w.heap.size+1,3,none⟩) (fun k hk=>by show k≠w.heap.size+1;omega) _).far (p:=⟨w.heap.size+1,4,none⟩) (fun k hk=>by show k≠w.heap.size+1;omega) _).set6 (fun k hk=>by omega) _ _ _ _ _ _).mono (fun k hk=>by omega)),set6_below (((H.out.below.setCell (p:=⟨w.heap.size+1,2,none⟩) (Nat.le_succ _) _).setCell (p:=⟨w.heap.size+1,3,none⟩) (Nat.le_succ _) _).setCell (p:=⟨w.heap.size+1,4,none⟩) (Nat.le_succ _) _) (Nat.le_refl _) _ _ _ _ _ _⟩
theorem At9_2_no (op:Int) (h0:0≤op) (h8:op < 256) (hs:(edF op).1=⟨#[]⟩) (w:World):Calls Tryz.prog 55 #[.int .i64 2,.int .u8 op] w fun e w'=>e=.returned (.tuple #[ent9,.int .i64 3])∧Below w.heap.size w w':=by
 have HCB:=Lib.hid (fun W=>ed9_any op h0 h8 W)
 have HF:=Lib.hid (((Fr.start w).new 85 #[.int .i64 0,.int .u8 0,.string ⟨#[]⟩,.slice none 0 0,.string ⟨#[]⟩,.bool false]).new' 85 #[.int .i64 2,.int .u8 op,.string ⟨#[]⟩,.slice none 0 0,.string ⟨#[]⟩,.bool false] (b:=w.heap.size+1) (by rw [World.size_alloc]))
 generalize (edF op).1=s at *
 generalize (edF op).2.1=l at *
 generalize (edF op).2.2.1=ex at *
 generalize (edF op).2.2.2=al at *
 subst hs
 go_enter Tryz.func55,Tryz.ntmps55
 go_wp2_with fail
 refine (HCB.out _).mono ?_
 rintro e w1 ⟨v,rfl,ho,hb⟩
 obtain ⟨va,vc,rfl⟩:=ho.form
 have H:=Lib.hid (HF.out.next hb)
 have hs1:w.heap.size+2≤w1.heap.size:=by have:=(H.out.blk 0 rfl).lt;omega
 have HO:Hid (OpdOwn w1 (fun k=>w.heap.size+2≤k) (.slice va l.length vc) l):=ho.mono (fun k hk=>by rw [World.size_alloc,World.size_alloc] at hk;omega)
 clear ho hb
 have e0:=(H.out.blk 0 rfl).cell 0
 have e1:=(H.out.blk 0 rfl).cell 1
 have e2:=(H.out.blk 0 rfl).cell 2
 have e3:=(H.out.blk 0 rfl).cell 3
 have e4:=(H.out.blk 0 rfl).cell 4
 have e5:=(H.out.blk 0 rfl).cell 5
 have r0:=(H.out.blk 1 rfl).cell 0
 have r1:=(H.out.blk 1 rfl).cell 1
 have r2:=(H.out.blk 1 rfl).cell 2
 have r3:=(H.out.blk 1 rfl).cell 3
 have r4:=(H.out.blk 1 rfl).cell 4
 have r5:=(H.out.blk 1 rfl).cell 5
 have z0:=(H.out.blk 0 rfl).free 0
 have y0:=(H.out.blk 1 rfl).free 0
 have z1:=(H.out.blk 0 rfl).free 1
 have y1:=(H.out.blk 1 rfl).free 1
 have z2:=(H.out.blk 0 rfl).free 2
 have y2:=(H.out.blk 1 rfl).free 2
 have z3:=(H.out.blk 0 rfl).free 3
 have y3:=(H.out.blk 1 rfl).free 3
 have z4:=(H.out.blk 0 rfl).free 4
 have y4:=(H.out.blk 1 rfl).free 4
 have z5:=(H.out.blk 0 rfl).free 5
 have y5:=(H.out.blk 1 rfl).free 5
 go_wp2
 exact bodyPost_ret (at9_end rfl rfl (entry6g (((((H.out.blk 1 rfl).far (p:=⟨w.heap.size+1,2,none⟩) (Nat.ne_of_lt (Nat.lt_succ_self _)) _).far (p:=⟨w.heap.size+1,3,none⟩) (Nat.ne_of_lt (Nat.lt_succ_self _)) _).far (p:=⟨w.heap.size+1,4,none⟩) (Nat.ne_of_lt (Nat.lt_succ_self _)) _).far (p:=⟨w.heap.size+1,5,none⟩) (Nat.ne_of_lt (Nat.lt_succ_self _)) _) _ _ _ _ _ _)) rfl ⟨rfl,set6_below ((((H.out.below.setCell (p:=⟨w.heap.size+1,2,none⟩) (Nat.le_succ _) _).setCell (p:=⟨w.heap.size+1,3,none⟩) (Nat.le_succ _) _).setCell (p:=⟨w.heap.size+1,4,none⟩) (Nat.le_succ _) _).setCell (p:=⟨w.heap.size+1,5,none⟩) (Nat.le_succ _) _) (Nat.le_refl _) _ _ _ _ _ _⟩
theorem At9_2_yes (op:Int) (h0:0≤op) (h8:op < 256) (hs:¬(edF op).1=⟨#[]⟩) (w:World):Calls Tryz.prog 55 #[.int .i64 2,.int .u8 op] w fun e w'=>∃v,e=.returned (.tuple #[.agg #[.int .i64 2,.int .u8 op,.string (edF op).1,v,.string (edF op).2.2.1,.bool (edF op).2.2.2],.int .i64 1])∧OpdOwn w' (fun b=>w.heap.size≤b) v (edF op).2.1∧Below w.heap.size w w':=by
 have HCB:=Lib.hid (fun W=>ed9_any op h0 h8 W)
 have HF:=Lib.hid (((Fr.start w).new 85 #[.int .i64 0,.int .u8 0,.string ⟨#[]⟩,.slice none 0 0,.string ⟨#[]⟩,.bool false]).new' 85 #[.int .i64 2,.int .u8 op,.string ⟨#[]⟩,.slice none 0 0,.string ⟨#[]⟩,.bool false] (b:=w.heap.size+1) (by rw [World.size_alloc]))
 generalize (edF op).1=s at *
 generalize (edF op).2.1=l at *
 generalize (edF op).2.2.1=ex at *
 generalize (edF op).2.2.2=al at *
 obtain ⟨t1,t2⟩:=str_empty hs
 go_enter Tryz.func55,Tryz.ntmps55
 go_wp2_with fail
 refine (HCB.out _).mono ?_
 rintro e w1 ⟨v,rfl,ho,hb⟩
 obtain ⟨va,vc,rfl⟩:=ho.form
 have H:=Lib.hid (HF.out.next hb)
 have hs1:w.heap.size+2≤w1.heap.size:=by have:=(H.out.blk 0 rfl).lt;omega
 have HO:Hid (OpdOwn w1 (fun k=>w.heap.size+2≤k) (.slice va l.length vc) l):=ho.mono (fun k hk=>by rw [World.size_alloc,World.size_alloc] at hk;omega)
 clear ho hb
 have e0:=(H.out.blk 0 rfl).cell 0
 have e1:=(H.out.blk 0 rfl).cell 1
 have e2:=(H.out.blk 0 rfl).cell 2
 have e3:=(H.out.blk 0 rfl).cell 3
 have e4:=(H.out.blk 0 rfl).cell 4
 have e5:=(H.out.blk 0 rfl).cell 5
 have r0:=(H.out.blk 1 rfl).cell 0
 have r1:=(H.out.blk 1 rfl).cell 1
 have r2:=(H.out.blk 1 rfl).cell 2
 have r3:=(H.out.blk 1 rfl).cell 3
 have r4:=(H.out.blk 1 rfl).cell 4
 have r5:=(H.out.blk 1 rfl).cell 5
 have z0:=(H.out.blk 0 rfl).free 0
 have y0:=(H.out.blk 1 rfl).free 0
 have z1:=(H.out.blk 0 rfl).free 1
 have y1:=(H.out.blk 1 rfl).free 1
 have z2:=(H.out.blk 0 rfl).free 2
 have y2:=(H.out.blk 1 rfl).free 2
 have z3:=(H.out.blk 0 rfl).free 3
 have y3:=(H.out.blk 1 rfl).free 3
 have z4:=(H.out.blk 0 rfl).free 4
 have y4:=(H.out.blk 1 rfl).free 4
 have z5:=(H.out.blk 0 rfl).free 5
 have y5:=(H.out.blk 1 rfl).free 5
 go_wp2
 refine bodyPost_ret (at9_end rfl rfl (entry6g (((((H.out.blk 1 rfl).far (p:=⟨w.heap.size+1,2,none⟩) (Nat.ne_of_lt (Nat.lt_succ_self _)) _).far (p:=⟨w.heap.size+1,3,none⟩) (Nat.ne_of_lt (Nat.lt_succ_self _)) _).far (p:=⟨w.heap.size+1,4,none⟩) (Nat.ne_of_lt (Nat.lt_succ_self _)) _).far (p:=⟨w.heap.size+1,5,none⟩) (Nat.ne_of_lt (Nat.lt_succ_self _)) _) _ _ _ _ _ _)) rfl ⟨_,rfl,((((((HO.out.far (p:=⟨w.heap.size+1,2,none⟩) (fun k hk=>by show k≠w.heap.size+1;omega) _).far (p:=⟨w.heap.size+1,3,none⟩) (fun k hk=>by show k≠w.heap.size+1;omega) _).far (p:=⟨w.heap.size+1,4,none⟩) (fun k hk=>by show k≠w.heap.size+1;omega) _).far (p:=⟨w.heap.size+1,5,none⟩) (fun k hk=>by show k≠w.heap.size+1;omega) _).set6 (fun k hk=>by omega) _ _ _ _ _ _).mono (fun k hk=>by omega)),set6_below ((((H.out.below.setCell (p:=⟨w.heap.size+1,2,none⟩) (Nat.le_succ _) _).setCell (p:=⟨w.heap.size+1,3,none⟩) (Nat.le_succ _) _).setCell (p:=⟨w.heap.size+1,4,none⟩) (Nat.le_succ _) _).setCell (p:=⟨w.heap.size+1,5,none⟩) (Nat.le_succ _) _) (Nat.le_refl _) _ _ _ _ _ _⟩
theorem At9_1_yes (op:Int) (h0:0≤op) (h8:op < 256) (hs:¬(cbF op (rF (op % 8))).1=⟨#[]⟩) (w:World):Calls Tryz.prog 55 #[.int .i64 1,.int .u8 op] w fun e w'=>∃v,e=.returned (.tuple #[.agg #[.int .i64 1,.int .u8 op,.string (cbF op (rF (op % 8))).1,v,.string ⟨#[]⟩,.bool false],.int .i64 1])∧OpdOwn w' (fun b=>w.heap.size≤b) v (cbF op (rF (op % 8))).2∧Below w.heap.size w w':=by
 have HCB:=Lib.hid (fun W=>cb9_any op (rF (op % 8)) h0 h8 W)
 have HF:=Lib.hid (((Fr.start w).new 85 #[.int .i64 0,.int .u8 0,.string ⟨#[]⟩,.slice none 0 0,.string ⟨#[]⟩,.bool false]).new' 85 #[.int .i64 1,.int .u8 op,.string ⟨#[]⟩,.slice none 0 0,.string ⟨#[]⟩,.bool false] (b:=w.heap.size+1) (by rw [World.size_alloc]))
 generalize (cbF op (rF (op % 8))).1=s at *
 generalize (cbF op (rF (op % 8))).2=l at *
 obtain ⟨t1,t2⟩:=str_empty hs
 go_enter Tryz.func55,Tryz.ntmps55
 go_wp2_with fail
 refine (r_any _ _).mono ?_
 rintro e w1 ⟨rfl,hb⟩
 have H1:=Lib.hid (HF.out.next hb)
 clear hb
 go_wp2_with fail
 refine (HCB.out _).mono ?_
 rintro e w2 ⟨v,rfl,ho,hb⟩
 obtain ⟨va,vc,rfl⟩:=ho.form
 have hs1:w.heap.size+2≤w1.heap.size:=by have:=(H1.out.blk 0 rfl).lt;omega
 have H:=Lib.hid (H1.out.next hb)
 have HO:Hid (OpdOwn w2 (fun k=>w.heap.size+2≤k) (.slice va l.length vc) l):=ho.opd hs1
 clear ho hb H1
 have e0:=(H.out.blk 0 rfl).cell 0
 have e1:=(H.out.blk 0 rfl).cell 1
 have e2:=(H.out.blk 0 rfl).cell 2
 have e3:=(H.out.blk 0 rfl).cell 3
 have e4:=(H.out.blk 0 rfl).cell 4
 have e5:=(H.out.blk 0 rfl).cell 5
 have r0:=(H.out.blk 1 rfl).cell 0
 have r1:=(H.out.blk 1 rfl).cell 1
 have r2:=(H.out.blk 1 rfl).cell 2
 have r3:=(H.out.blk 1 rfl).cell 3
 have r4:=(H.out.blk 1 rfl).cell 4
 have r5:=(H.out.blk 1 rfl).cell 5
 have z0:=(H.out.blk 0 rfl).free 0
 have y0:=(H.out.blk 1 rfl).free 0
 have z1:=(H.out.blk 0 rfl).free 1
 have y1:=(H.out.blk 1 rfl).free 1
 have z2:=(H.out.blk 0 rfl).free 2
 have y2:=(H.out.blk 1 rfl).free 2
 have z3:=(H.out.blk 0 rfl).free 3
 have y3:=(H.out.blk 1 rfl).free 3
 have z4:=(H.out.blk 0 rfl).free 4
 have y4:=(H.out.blk 1 rfl).free 4
 have z5:=(H.out.blk 0 rfl).free 5
 have y5:=(H.out.blk 1 rfl).free 5
 go_wp2
 refine bodyPost_ret (at9_end rfl rfl (entry6g (((H.out.blk 1 rfl).far (p:=⟨w.heap.size+1,2,none⟩) (Nat.ne_of_lt (Nat.lt_succ_self _)) _).far (p:=⟨w.heap.size+1,3,none⟩) (Nat.ne_of_lt (Nat.lt_succ_self _)) _) _ _ _ _ _ _)) rfl ⟨_,rfl,((((HO.out.far (p:=⟨w.heap.size+1,2,none⟩) (fun k hk=>by show k≠w.heap.size+1;omega) _).far (p:=⟨w.heap.size+1,3,none⟩) (fun k hk=>by show k≠w.heap.size+1;omega) _).set6 (fun k hk=>by omega) _ _ _ _ _ _).mono (fun k hk=>by omega)),set6_below ((H.out.below.setCell (p:=⟨w.heap.size+1,2,none⟩) (Nat.le_succ _) _).setCell (p:=⟨w.heap.size+1,3,none⟩) (Nat.le_succ _) _) (Nat.le_refl _) _ _ _ _ _ _⟩
theorem At9_3_no (op:Int) (h0:0≤op) (h8:op < 256) (hcb:¬op=203) (hl1:(mainF op).2.1.length≤1000) (hl2:(mainF op).1.size≤1000) (hl3:(mainF op).2.2.size≤1000) (hs:(ixR 5 (mainF op).1 (mainF op).2.1 (mainF op).2.2).1=⟨#[]⟩) (w:World):Calls Tryz.prog 55 #[.int .i64 3,.int .u8 op] w fun e w'=>e=.returned (.tuple #[ent9,.int .i64 0])∧Below w.heap.size w w':=by
 have HM:=Lib.hid (fun W=>main9_any op h0 h8 W)
 have HIX:=Lib.hid (fun p v W h=>indexed9_any 5 (mainF op).1 (mainF op).2.2 (mainF op).2.1 p v W h (by omega) (by omega) hl1 hl2 hl3)
 clear hl1 hl2 hl3
 have hcb2:(op==203)=false:=by rw [beq_eq_false_iff_ne];exact hcb
 have HF:=Lib.hid (((Fr.start w).new 85 #[.int .i64 0,.int .u8 0,.string ⟨#[]⟩,.slice none 0 0,.string ⟨#[]⟩,.bool false]).new' 85 #[.int .i64 3,.int .u8 op,.string ⟨#[]⟩,.slice none 0 0,.string ⟨#[]⟩,.bool false] (b:=w.heap.size+1) (by rw [World.size_alloc]))
 generalize (ixR 5 (mainF op).1 (mainF op).2.1 (mainF op).2.2).1=s at *
 generalize (ixR 5 (mainF op).1 (mainF op).2.1 (mainF op).2.2).2.1=l at *
 generalize (ixR 5 (mainF op).1 (mainF op).2.1 (mainF op).2.2).2.2=ex at *
 generalize (mainF op).1=s1 at *
 generalize (mainF op).2.1=l1 at *
 generalize (mainF op).2.2=ex1 at *
 subst hs
 go_enter Tryz.func55,Tryz.ntmps55
 go_wp2_with fail
 refine (HM.out _).mono ?_
 rintro e w1 ⟨v1,rfl,ho1,hb⟩
 obtain ⟨va1,vc1,rfl⟩:=ho1.form
 have H1:=Lib.hid ((HF.out.next hb).alloc (.cells #[.string s1,.slice va1 l1.length vc1] 27))
 have HF1:=Lib.hid (Blk.new w1 27 #[.string s1,.slice va1 l1.length vc1])
 have HS1:=Lib.hid (ho1.slR.alloc (.cells #[.string s1,.slice va1 l1.length vc1] 27))
 have hs1:w.heap.size+2≤w1.heap.size:=by have:=((HF.out.next hb).blk 0 rfl).lt;omega
 obtain ⟨m0,m1,_,_⟩:=HF1.out.two
 clear hb ho1
 go_wp2_with fail
 refine (HIX.out _ _ _ HS1.out).mono ?_
 rintro e w2 ⟨v,rfl,ho,hb⟩
 obtain ⟨va,vc,rfl⟩:=ho.form
 have H:=Lib.hid (H1.out.next hb)
 have HO:Hid (OpdOwn w2 (fun k=>w.heap.size+2≤k) (.slice va l.length vc) l):=ho.mono (fun k hk=>by rw [World.size_alloc] at hk;omega)
 clear ho hb H1 m0 m1
 have e0:=(H.out.blk 0 rfl).cell 0
 have e1:=(H.out.blk 0 rfl).cell 1
 have e2:=(H.out.blk 0 rfl).cell 2
 have e3:=(H.out.blk 0 rfl).cell 3
 have e4:=(H.out.blk 0 rfl).cell 4
 have e5:=(H.out.blk 0 rfl).cell 5
 have r0:=(H.out.blk 1 rfl).cell 0
 have r1:=(H.out.blk 1 rfl).cell 1
 have r2:=(H.out.blk 1 rfl).cell 2
 have r3:=(H.out.blk 1 rfl).cell 3
 have r4:=(H.out.blk 1 rfl).cell 4
 have r5:=(H.out.blk 1 rfl).cell 5
 have z0:=(H.out.blk 0 rfl).free 0
 have y0:=(H.out.blk 1 rfl).free 0
 have z1:=(H.out.blk 0 rfl).free 1
 have y1:=(H.out.blk 1 rfl).free 1
 have z2:=(H.out.blk 0 rfl).free 2
 have y2:=(H.out.blk 1 rfl).free 2
 have z3:=(H.out.blk 0 rfl).free 3
 have y3:=(H.out.blk 1 rfl).free 3
 have z4:=(H.out.blk 0 rfl).free 4
 have y4:=(H.out.blk 1 rfl).free 4
 have z5:=(H.out.blk 0 rfl).free 5
 have y5:=(H.out.blk 1 rfl).free 5
 go_wp2
 exact bodyPost_ret (at9_end rfl rfl (entry6g ((((H.out.blk 1 rfl).far (p:=⟨w.heap.size+1,2,none⟩) (Nat.ne_of_lt (Nat.lt_succ_self _)) _).far (p:=⟨w.heap.size+1,3,none⟩) (Nat.ne_of_lt (Nat.lt_succ_self _)) _).far (p:=⟨w.heap.size+1,4,none⟩) (Nat.ne_of_lt (Nat.lt_succ_self _)) _) _ _ _ _ _ _)) rfl ⟨rfl,set6_below (((H.out.below.setCell (p:=⟨w.heap.size+1,2,none⟩) (Nat.le_succ _) _).setCell (p:=⟨w.heap.size+1,3,none⟩) (Nat.le_succ _) _).setCell (p:=⟨w.heap.size+1,4,none⟩) (Nat.le_succ _) _) (Nat.le_refl _) _ _ _ _ _ _⟩
theorem At9_3_yes (op:Int) (h0:0≤op) (h8:op < 256) (hcb:¬op=203) (hl1:(mainF op).2.1.length≤1000) (hl2:(mainF op).1.size≤1000) (hl3:(mainF op).2.2.size≤1000) (hs:¬(ixR 5 (mainF op).1 (mainF op).2.1 (mainF op).2.2).1=⟨#[]⟩) (w:World):Calls Tryz.prog 55 #[.int .i64 3,.int .u8 op] w fun e w'=>∃v,e=.returned (.tuple #[.agg #[.int .i64 3,.int .u8 op,.string (ixR 5 (mainF op).1 (mainF op).2.1 (mainF op).2.2).1,v,.string (ixR 5 (mainF op).1 (mainF op).2.1 (mainF op).2.2).2.2,.bool false],.int .i64 1])∧OpdOwn w' (fun b=>w.heap.size≤b) v (ixR 5 (mainF op).1 (mainF op).2.1 (mainF op).2.2).2.1∧Below w.heap.size w w':=by
 have HM:=Lib.hid (fun W=>main9_any op h0 h8 W)
 have HIX:=Lib.hid (fun p v W h=>indexed9_any 5 (mainF op).1 (mainF op).2.2 (mainF op).2.1 p v W h (by omega) (by omega) hl1 hl2 hl3)
 clear hl1 hl2 hl3
 have hcb2:(op==203)=false:=by rw [beq_eq_false_iff_ne];exact hcb
 have HF:=Lib.hid (((Fr.start w).new 85 #[.int .i64 0,.int .u8 0,.string ⟨#[]⟩,.slice none 0 0,.string ⟨#[]⟩,.bool false]).new' 85 #[.int .i64 3,.int .u8 op,.string ⟨#[]⟩,.slice none 0 0,.string ⟨#[]⟩,.bool false] (b:=w.heap.size+1) (by rw [World.size_alloc]))
 generalize (ixR 5 (mainF op).1 (mainF op).2.1 (mainF op).2.2).1=s at *
 generalize (ixR 5 (mainF op).1 (mainF op).2.1 (mainF op).2.2).2.1=l at *
 generalize (ixR 5 (mainF op).1 (mainF op).2.1 (mainF op).2.2).2.2=ex at *
 generalize (mainF op).1=s1 at *
 generalize (mainF op).2.1=l1 at *
 generalize (mainF op).2.2=ex1 at *
 obtain ⟨t1,t2⟩:=str_empty hs
 go_enter Tryz.func55,Tryz.ntmps55
 go_wp2_with fail
 refine (HM.out _).mono ?_
 rintro e w1 ⟨v1,rfl,ho1,hb⟩
 obtain ⟨va1,vc1,rfl⟩:=ho1.form
 have H1:=Lib.hid ((HF.out.next hb).alloc (.cells #[.string s1,.slice va1 l1.length vc1] 27))
 have HF1:=Lib.hid (Blk.new w1 27 #[.string s1,.slice va1 l1.length vc1])
 have HS1:=Lib.hid (ho1.slR.alloc (.cells #[.string s1,.slice va1 l1.length vc1] 27))
 have hs1:w.heap.size+2≤w1.heap.size:=by have:=((HF.out.next hb).blk 0 rfl).lt;omega
 obtain ⟨m0,m1,_,_⟩:=HF1.out.two
 clear hb ho1
 go_wp2_with fail
 refine (HIX.out _ _ _ HS1.out).mono ?_
 rintro e w2 ⟨v,rfl,ho,hb⟩
 obtain ⟨va,vc,rfl⟩:=ho.form
 have H:=Lib.hid (H1.out.next hb)
 have HO:Hid (OpdOwn w2 (fun k=>w.heap.size+2≤k) (.slice va l.length vc) l):=ho.mono (fun k hk=>by rw [World.size_alloc] at hk;omega)
 clear ho hb H1 m0 m1
 have e0:=(H.out.blk 0 rfl).cell 0
 have e1:=(H.out.blk 0 rfl).cell 1
 have e2:=(H.out.blk 0 rfl).cell 2
 have e3:=(H.out.blk 0 rfl).cell 3
 have e4:=(H.out.blk 0 rfl).cell 4
 have e5:=(H.out.blk 0 rfl).cell 5
 have r0:=(H.out.blk 1 rfl).cell 0
 have r1:=(H.out.blk 1 rfl).cell 1
 have r2:=(H.out.blk 1 rfl).cell 2
 have r3:=(H.out.blk 1 rfl).cell 3
 have r4:=(H.out.blk 1 rfl).cell 4
 have r5:=(H.out.blk 1 rfl).cell 5
 have z0:=(H.out.blk 0 rfl).free 0
 have y0:=(H.out.blk 1 rfl).free 0
 have z1:=(H.out.blk 0 rfl).free 1
 have y1:=(H.out.blk 1 rfl).free 1
 have z2:=(H.out.blk 0 rfl).free 2
 have y2:=(H.out.blk 1 rfl).free 2
 have z3:=(H.out.blk 0 rfl).free 3
 have y3:=(H.out.blk 1 rfl).free 3
 have z4:=(H.out.blk 0 rfl).free 4
 have y4:=(H.out.blk 1 rfl).free 4
 have z5:=(H.out.blk 0 rfl).free 5
 have y5:=(H.out.blk 1 rfl).free 5
 go_wp2
 refine bodyPost_ret (at9_end rfl rfl (entry6g ((((H.out.blk 1 rfl).far (p:=⟨w.heap.size+1,2,none⟩) (Nat.ne_of_lt (Nat.lt_succ_self _)) _).far (p:=⟨w.heap.size+1,3,none⟩) (Nat.ne_of_lt (Nat.lt_succ_self _)) _).far (p:=⟨w.heap.size+1,4,none⟩) (Nat.ne_of_lt (Nat.lt_succ_self _)) _) _ _ _ _ _ _)) rfl ⟨_,rfl,(((((HO.out.far (p:=⟨w.heap.size+1,2,none⟩) (fun k hk=>by show k≠w.heap.size+1;omega) _).far (p:=⟨w.heap.size+1,3,none⟩) (fun k hk=>by show k≠w.heap.size+1;omega) _).far (p:=⟨w.heap.size+1,4,none⟩) (fun k hk=>by show k≠w.heap.size+1;omega) _).set6 (fun k hk=>by omega) _ _ _ _ _ _).mono (fun k hk=>by omega)),set6_below (((H.out.below.setCell (p:=⟨w.heap.size+1,2,none⟩) (Nat.le_succ _) _).setCell (p:=⟨w.heap.size+1,3,none⟩) (Nat.le_succ _) _).setCell (p:=⟨w.heap.size+1,4,none⟩) (Nat.le_succ _) _) (Nat.le_refl _) _ _ _ _ _ _⟩
theorem At9_4_no (op:Int) (h0:0≤op) (h8:op < 256) (hcb:¬op=203) (hl1:(mainF op).2.1.length≤1000) (hl2:(mainF op).1.size≤1000) (hl3:(mainF op).2.2.size≤1000) (hs:(ixR 6 (mainF op).1 (mainF op).2.1 (mainF op).2.2).1=⟨#[]⟩) (w:World):Calls Tryz.prog 55 #[.int .i64 4,.int .u8 op] w fun e w'=>e=.returned (.tuple #[ent9,.int .i64 0])∧Below w.heap.size w w':=by
 have HM:=Lib.hid (fun W=>main9_any op h0 h8 W)
 have HIX:=Lib.hid (fun p v W h=>indexed9_any 6 (mainF op).1 (mainF op).2.2 (mainF op).2.1 p v W h (by omega) (by omega) hl1 hl2 hl3)
 clear hl1 hl2 hl3
 have hcb2:(op==203)=false:=by rw [beq_eq_false_iff_ne];exact hcb
 have HF:=Lib.hid (((Fr.start w).new 85 #[.int .i64 0,.int .u8 0,.string ⟨#[]⟩,.slice none 0 0,.string ⟨#[]⟩,.bool false]).new' 85 #[.int .i64 4,.int .u8 op,.string ⟨#[]⟩,.slice none 0 0,.string ⟨#[]⟩,.bool false] (b:=w.heap.size+1) (by rw [World.size_alloc]))
 generalize (ixR 6 (mainF op).1 (mainF op).2.1 (mainF op).2.2).1=s at *
 generalize (ixR 6 (mainF op).1 (mainF op).2.1 (mainF op).2.2).2.1=l at *
 generalize (ixR 6 (mainF op).1 (mainF op).2.1 (mainF op).2.2).2.2=ex at *
 generalize (mainF op).1=s1 at *
 generalize (mainF op).2.1=l1 at *
 generalize (mainF op).2.2=ex1 at *
 subst hs
 go_enter Tryz.func55,Tryz.ntmps55
 go_wp2_with fail
 refine (HM.out _).mono ?_
 rintro e w1 ⟨v1,rfl,ho1,hb⟩
 obtain ⟨va1,vc1,rfl⟩:=ho1.form
 have H1:=Lib.hid ((HF.out.next hb).alloc (.cells #[.string s1,.slice va1 l1.length vc1] 27))
 have HF1:=Lib.hid (Blk.new w1 27 #[.string s1,.slice va1 l1.length vc1])
 have HS1:=Lib.hid (ho1.slR.alloc (.cells #[.string s1,.slice va1 l1.length vc1] 27))
 have hs1:w.heap.size+2≤w1.heap.size:=by have:=((HF.out.next hb).blk 0 rfl).lt;omega
 obtain ⟨m0,m1,_,_⟩:=HF1.out.two
 clear hb ho1
 go_wp2_with fail
 refine (HIX.out _ _ _ HS1.out).mono ?_
 rintro e w2 ⟨v,rfl,ho,hb⟩
 obtain ⟨va,vc,rfl⟩:=ho.form
 have H:=Lib.hid (H1.out.next hb)
 have HO:Hid (OpdOwn w2 (fun k=>w.heap.size+2≤k) (.slice va l.length vc) l):=ho.mono (fun k hk=>by rw [World.size_alloc] at hk;omega)
 clear ho hb H1 m0 m1
 have e0:=(H.out.blk 0 rfl).cell 0
 have e1:=(H.out.blk 0 rfl).cell 1
 have e2:=(H.out.blk 0 rfl).cell 2
 have e3:=(H.out.blk 0 rfl).cell 3
 have e4:=(H.out.blk 0 rfl).cell 4
 have e5:=(H.out.blk 0 rfl).cell 5
 have r0:=(H.out.blk 1 rfl).cell 0
 have r1:=(H.out.blk 1 rfl).cell 1
 have r2:=(H.out.blk 1 rfl).cell 2
 have r3:=(H.out.blk 1 rfl).cell 3
 have r4:=(H.out.blk 1 rfl).cell 4
 have r5:=(H.out.blk 1 rfl).cell 5
 have z0:=(H.out.blk 0 rfl).free 0
 have y0:=(H.out.blk 1 rfl).free 0
 have z1:=(H.out.blk 0 rfl).free 1
 have y1:=(H.out.blk 1 rfl).free 1
 have z2:=(H.out.blk 0 rfl).free 2
 have y2:=(H.out.blk 1 rfl).free 2
 have z3:=(H.out.blk 0 rfl).free 3
 have y3:=(H.out.blk 1 rfl).free 3
 have z4:=(H.out.blk 0 rfl).free 4
 have y4:=(H.out.blk 1 rfl).free 4
 have z5:=(H.out.blk 0 rfl).free 5
 have y5:=(H.out.blk 1 rfl).free 5
 go_wp2
 exact bodyPost_ret (at9_end rfl rfl (entry6g ((((H.out.blk 1 rfl).far (p:=⟨w.heap.size+1,2,none⟩) (Nat.ne_of_lt (Nat.lt_succ_self _)) _).far (p:=⟨w.heap.size+1,3,none⟩) (Nat.ne_of_lt (Nat.lt_succ_self _)) _).far (p:=⟨w.heap.size+1,4,none⟩) (Nat.ne_of_lt (Nat.lt_succ_self _)) _) _ _ _ _ _ _)) rfl ⟨rfl,set6_below (((H.out.below.setCell (p:=⟨w.heap.size+1,2,none⟩) (Nat.le_succ _) _).setCell (p:=⟨w.heap.size+1,3,none⟩) (Nat.le_succ _) _).setCell (p:=⟨w.heap.size+1,4,none⟩) (Nat.le_succ _) _) (Nat.le_refl _) _ _ _ _ _ _⟩
theorem At9_4_yes (op:Int) (h0:0≤op) (h8:op < 256) (hcb:¬op=203) (hl1:(mainF op).2.1.length≤1000) (hl2:(mainF op).1.size≤1000) (hl3:(mainF op).2.2.size≤1000) (hs:¬(ixR 6 (mainF op).1 (mainF op).2.1 (mainF op).2.2).1=⟨#[]⟩) (w:World):Calls Tryz.prog 55 #[.int .i64 4,.int .u8 op] w fun e w'=>∃v,e=.returned (.tuple #[.agg #[.int .i64 4,.int .u8 op,.string (ixR 6 (mainF op).1 (mainF op).2.1 (mainF op).2.2).1,v,.string (ixR 6 (mainF op).1 (mainF op).2.1 (mainF op).2.2).2.2,.bool false],.int .i64 1])∧OpdOwn w' (fun b=>w.heap.size≤b) v (ixR 6 (mainF op).1 (mainF op).2.1 (mainF op).2.2).2.1∧Below w.heap.size w w':=by
 have HM:=Lib.hid (fun W=>main9_any op h0 h8 W)
 have HIX:=Lib.hid (fun p v W h=>indexed9_any 6 (mainF op).1 (mainF op).2.2 (mainF op).2.1 p v W h (by omega) (by omega) hl1 hl2 hl3)
 clear hl1 hl2 hl3
 have hcb2:(op==203)=false:=by rw [beq_eq_false_iff_ne];exact hcb
 have HF:=Lib.hid (((Fr.start w).new 85 #[.int .i64 0,.int .u8 0,.string ⟨#[]⟩,.slice none 0 0,.string ⟨#[]⟩,.bool false]).new' 85 #[.int .i64 4,.int .u8 op,.string ⟨#[]⟩,.slice none 0 0,.string ⟨#[]⟩,.bool false] (b:=w.heap.size+1) (by rw [World.size_alloc]))
 generalize (ixR 6 (mainF op).1 (mainF op).2.1 (mainF op).2.2).1=s at *
 generalize (ixR 6 (mainF op).1 (mainF op).2.1 (mainF op).2.2).2.1=l at *
 generalize (ixR 6 (mainF op).1 (mainF op).2.1 (mainF op).2.2).2.2=ex at *
 generalize (mainF op).1=s1 at *
 generalize (mainF op).2.1=l1 at *
 generalize (mainF op).2.2=ex1 at *
 obtain ⟨t1,t2⟩:=str_empty hs
 go_enter Tryz.func55,Tryz.ntmps55
 go_wp2_with fail
 refine (HM.out _).mono ?_
 rintro e w1 ⟨v1,rfl,ho1,hb⟩
 obtain ⟨va1,vc1,rfl⟩:=ho1.form
 have H1:=Lib.hid ((HF.out.next hb).alloc (.cells #[.string s1,.slice va1 l1.length vc1] 27))
 have HF1:=Lib.hid (Blk.new w1 27 #[.string s1,.slice va1 l1.length vc1])
 have HS1:=Lib.hid (ho1.slR.alloc (.cells #[.string s1,.slice va1 l1.length vc1] 27))
 have hs1:w.heap.size+2≤w1.heap.size:=by have:=((HF.out.next hb).blk 0 rfl).lt;omega
 obtain ⟨m0,m1,_,_⟩:=HF1.out.two
 clear hb ho1
 go_wp2_with fail
 refine (HIX.out _ _ _ HS1.out).mono ?_
 rintro e w2 ⟨v,rfl,ho,hb⟩
 obtain ⟨va,vc,rfl⟩:=ho.form
 have H:=Lib.hid (H1.out.next hb)
 have HO:Hid (OpdOwn w2 (fun k=>w.heap.size+2≤k) (.slice va l.length vc) l):=ho.mono (fun k hk=>by rw [World.size_alloc] at hk;omega)
 clear ho hb H1 m0 m1
 have e0:=(H.out.blk 0 rfl).cell 0
 have e1:=(H.out.blk 0 rfl).cell 1
 have e2:=(H.out.blk 0 rfl).cell 2
 have e3:=(H.out.blk 0 rfl).cell 3
 have e4:=(H.out.blk 0 rfl).cell 4
 have e5:=(H.out.blk 0 rfl).cell 5
 have r0:=(H.out.blk 1 rfl).cell 0
 have r1:=(H.out.blk 1 rfl).cell 1
 have r2:=(H.out.blk 1 rfl).cell 2
 have r3:=(H.out.blk 1 rfl).cell 3
 have r4:=(H.out.blk 1 rfl).cell 4
 have r5:=(H.out.blk 1 rfl).cell 5
 have z0:=(H.out.blk 0 rfl).free 0
 have y0:=(H.out.blk 1 rfl).free 0
 have z1:=(H.out.blk 0 rfl).free 1
 have y1:=(H.out.blk 1 rfl).free 1
 have z2:=(H.out.blk 0 rfl).free 2
 have y2:=(H.out.blk 1 rfl).free 2
 have z3:=(H.out.blk 0 rfl).free 3
 have y3:=(H.out.blk 1 rfl).free 3
 have z4:=(H.out.blk 0 rfl).free 4
 have y4:=(H.out.blk 1 rfl).free 4
 have z5:=(H.out.blk 0 rfl).free 5
 have y5:=(H.out.blk 1 rfl).free 5
 go_wp2
 refine bodyPost_ret (at9_end rfl rfl (entry6g ((((H.out.blk 1 rfl).far (p:=⟨w.heap.size+1,2,none⟩) (Nat.ne_of_lt (Nat.lt_succ_self _)) _).far (p:=⟨w.heap.size+1,3,none⟩) (Nat.ne_of_lt (Nat.lt_succ_self _)) _).far (p:=⟨w.heap.size+1,4,none⟩) (Nat.ne_of_lt (Nat.lt_succ_self _)) _) _ _ _ _ _ _)) rfl ⟨_,rfl,(((((HO.out.far (p:=⟨w.heap.size+1,2,none⟩) (fun k hk=>by show k≠w.heap.size+1;omega) _).far (p:=⟨w.heap.size+1,3,none⟩) (fun k hk=>by show k≠w.heap.size+1;omega) _).far (p:=⟨w.heap.size+1,4,none⟩) (fun k hk=>by show k≠w.heap.size+1;omega) _).set6 (fun k hk=>by omega) _ _ _ _ _ _).mono (fun k hk=>by omega)),set6_below (((H.out.below.setCell (p:=⟨w.heap.size+1,2,none⟩) (Nat.le_succ _) _).setCell (p:=⟨w.heap.size+1,3,none⟩) (Nat.le_succ _) _).setCell (p:=⟨w.heap.size+1,4,none⟩) (Nat.le_succ _) _) (Nat.le_refl _) _ _ _ _ _ _⟩
end Go.Proofs.YtnbmbcjnncbaiaaGreatDoor
namespace Go.Proofs.YtnbmbcjnncbaiaaGreatDoor
set_option maxHeartbeats 8000000
set_option maxRecDepth 100000
open Go.RowKit Go.Shelf Go.Sort
theorem At9_cb3 (w:World):Calls Tryz.prog 55 #[.int .i64 3,.int .u8 203] w fun e w'=>e=.returned (.tuple #[ent9,.int .i64 2])∧Below w.heap.size w w':=by
 go_enter Tryz.func55,Tryz.ntmps55
 go_wp2
 exact bodyPost_ret (at9_end rfl rfl ((Blk.new w _ _).alloc _)) rfl ⟨rfl,((Below.refl _ _).alloc (Nat.le_refl _) _).alloc (by rw [World.size_alloc];omega) _⟩
theorem At9_cb4 (w:World):Calls Tryz.prog 55 #[.int .i64 4,.int .u8 203] w fun e w'=>e=.returned (.tuple #[ent9,.int .i64 2])∧Below w.heap.size w w':=by
 go_enter Tryz.func55,Tryz.ntmps55
 go_wp2
 exact bodyPost_ret (at9_end rfl rfl ((Blk.new w _ _).alloc _)) rfl ⟨rfl,((Below.refl _ _).alloc (Nat.le_refl _) _).alloc (by rw [World.size_alloc];omega) _⟩
theorem At9_out (pg op:Int) (h:pg < 0∨6 < pg) (w:World):Calls Tryz.prog 55 #[.int .i64 pg,.int .u8 op] w fun e w'=>e=.returned (.tuple #[ent9,.int .i64 0])∧Below w.heap.size w w':=by
 have q0:(pg==0)=false:=by rw [beq_eq_false_iff_ne];omega
 have q1:(pg==1)=false:=by rw [beq_eq_false_iff_ne];omega
 have q2:(pg==2)=false:=by rw [beq_eq_false_iff_ne];omega
 have q3:(pg==3)=false:=by rw [beq_eq_false_iff_ne];omega
 have q4:(pg==4)=false:=by rw [beq_eq_false_iff_ne];omega
 have q5:(pg==5)=false:=by rw [beq_eq_false_iff_ne];omega
 have q6:(pg==6)=false:=by rw [beq_eq_false_iff_ne];omega
 clear h
 go_enter Tryz.func55,Tryz.ntmps55
 go_wp2
 exact bodyPost_ret (at9_end rfl rfl ((Blk.new w _ _).alloc _)) rfl ⟨rfl,((Below.refl _ _).alloc (Nat.le_refl _) _).alloc (by rw [World.size_alloc];omega) _⟩
theorem At9_5 (op:Int) (h0:0≤op) (h8:op < 256) (hl:(cbF op ⟨5,5,0⟩).2.length≤100) (w:World):Calls Tryz.prog 55 #[.int .i64 5,.int .u8 op] w fun e w'=>∃v,e=.returned (.tuple #[.agg #[.int .i64 5,.int .u8 op,.string (both9F 5 op).1,v,.string ⟨#[100]⟩,.bool (both9F 5 op).2.2],.int .i64 1])∧OpdOwn w' (fun b=>w.heap.size≤b) v (both9F 5 op).2.1∧Below w.heap.size w w':=by
 have HCB:=Lib.hid (fun W=>both9_any 5 op h0 h8 hl W)
 have HF:=Lib.hid (((Fr.start w).new 85 #[.int .i64 0,.int .u8 0,.string ⟨#[]⟩,.slice none 0 0,.string ⟨#[]⟩,.bool false]).new' 85 #[.int .i64 5,.int .u8 op,.string ⟨#[]⟩,.slice none 0 0,.string ⟨#[]⟩,.bool false] (b:=w.heap.size+1) (by rw [World.size_alloc]))
 clear hl
 generalize (both9F 5 op).1=s at *
 generalize (both9F 5 op).2.1=l at *
 generalize (both9F 5 op).2.2=al at *
 go_enter Tryz.func55,Tryz.ntmps55
 go_wp2_with fail
 refine (HCB.out _).mono ?_
 rintro e w1 ⟨v,rfl,ho,hb⟩
 obtain ⟨va,vc,rfl⟩:=ho.form
 have H:=Lib.hid (HF.out.next hb)
 have HO:Hid (OpdOwn w1 (fun k=>w.heap.size+2≤k) (.slice va l.length vc) l):=ho.mono (fun k hk=>by rw [World.size_alloc,World.size_alloc] at hk;omega)
 clear ho hb
 have r0:=(H.out.blk 1 rfl).cell 0
 have y0:=(H.out.blk 1 rfl).free 0
 have r1:=(H.out.blk 1 rfl).cell 1
 have y1:=(H.out.blk 1 rfl).free 1
 have r2:=(H.out.blk 1 rfl).cell 2
 have y2:=(H.out.blk 1 rfl).free 2
 have r3:=(H.out.blk 1 rfl).cell 3
 have y3:=(H.out.blk 1 rfl).free 3
 have r4:=(H.out.blk 1 rfl).cell 4
 have y4:=(H.out.blk 1 rfl).free 4
 have r5:=(H.out.blk 1 rfl).cell 5
 have y5:=(H.out.blk 1 rfl).free 5
 go_wp2
 exact bodyPost_ret (at9_end rfl rfl (entry6g (H.out.blk 1 rfl) _ _ _ _ _ _)) rfl ⟨_,rfl,((HO.out.set6 (fun k hk=>by omega) _ _ _ _ _ _).mono (fun k hk=>by omega)),set6_below H.out.below (Nat.le_refl _) _ _ _ _ _ _⟩
theorem At9_6 (op:Int) (h0:0≤op) (h8:op < 256) (hl:(cbF op ⟨5,6,0⟩).2.length≤100) (w:World):Calls Tryz.prog 55 #[.int .i64 6,.int .u8 op] w fun e w'=>∃v,e=.returned (.tuple #[.agg #[.int .i64 6,.int .u8 op,.string (both9F 6 op).1,v,.string ⟨#[100]⟩,.bool (both9F 6 op).2.2],.int .i64 1])∧OpdOwn w' (fun b=>w.heap.size≤b) v (both9F 6 op).2.1∧Below w.heap.size w w':=by
 have HCB:=Lib.hid (fun W=>both9_any 6 op h0 h8 hl W)
 have HF:=Lib.hid (((Fr.start w).new 85 #[.int .i64 0,.int .u8 0,.string ⟨#[]⟩,.slice none 0 0,.string ⟨#[]⟩,.bool false]).new' 85 #[.int .i64 6,.int .u8 op,.string ⟨#[]⟩,.slice none 0 0,.string ⟨#[]⟩,.bool false] (b:=w.heap.size+1) (by rw [World.size_alloc]))
 clear hl
 generalize (both9F 6 op).1=s at *
 generalize (both9F 6 op).2.1=l at *
 generalize (both9F 6 op).2.2=al at *
 go_enter Tryz.func55,Tryz.ntmps55
 go_wp2_with fail
 refine (HCB.out _).mono ?_
 rintro e w1 ⟨v,rfl,ho,hb⟩
 obtain ⟨va,vc,rfl⟩:=ho.form
 have H:=Lib.hid (HF.out.next hb)
 have HO:Hid (OpdOwn w1 (fun k=>w.heap.size+2≤k) (.slice va l.length vc) l):=ho.mono (fun k hk=>by rw [World.size_alloc,World.size_alloc] at hk;omega)
 clear ho hb
 have r0:=(H.out.blk 1 rfl).cell 0
 have y0:=(H.out.blk 1 rfl).free 0
 have r1:=(H.out.blk 1 rfl).cell 1
 have y1:=(H.out.blk 1 rfl).free 1
 have r2:=(H.out.blk 1 rfl).cell 2
 have y2:=(H.out.blk 1 rfl).free 2
 have r3:=(H.out.blk 1 rfl).cell 3
 have y3:=(H.out.blk 1 rfl).free 3
 have r4:=(H.out.blk 1 rfl).cell 4
 have y4:=(H.out.blk 1 rfl).free 4
 have r5:=(H.out.blk 1 rfl).cell 5
 have y5:=(H.out.blk 1 rfl).free 5
 go_wp2
 exact bodyPost_ret (at9_end rfl rfl (entry6g (H.out.blk 1 rfl) _ _ _ _ _ _)) rfl ⟨_,rfl,((HO.out.set6 (fun k hk=>by omega) _ _ _ _ _ _).mono (fun k hk=>by omega)),set6_below H.out.below (Nat.le_refl _) _ _ _ _ _ _⟩
end Go.Proofs.YtnbmbcjnncbaiaaGreatDoor
namespace Go.Proofs.YtnbmbcjnncbaiaaGreatDoor
set_option maxHeartbeats 8000000
set_option maxRecDepth 100000
open Go.RowKit Go.Shelf Go.Sort
def opt9 (p:Int) (op:Nat) (k:Int) (s:ByteArray) (l:List Opd) (ex:ByteArray) (al:Bool):Option EntV × Int:=
 if s.data.toList=[] then (none,k) else (some ⟨p,op,s.data.toList,l,ex.data.toList,al⟩,1)
def at9F (p:Int) (op:Nat):Option EntV × Int:=
 if p=0 then opt9 0 op 2 (mainF op).1 (mainF op).2.1 (mainF op).2.2 false
 else if p=1 then opt9 1 op 0 (cbF op (rF ((op:Int) % 8))).1 (cbF op (rF ((op:Int) % 8))).2 ⟨#[]⟩ false
 else if p=2 then opt9 2 op 3 (edF op).1 (edF op).2.1 (edF op).2.2.1 (edF op).2.2.2
 else if p=3∨p=4 then (if op=203 then (none,2) else opt9 p op 0 (ixR (p+2) (mainF op).1 (mainF op).2.1 (mainF op).2.2).1 (ixR (p+2) (mainF op).1 (mainF op).2.1 (mainF op).2.2).2.1 (ixR (p+2) (mainF op).1 (mainF op).2.1 (mainF op).2.2).2.2 false)
 else (some ⟨p,op,(both9F p op).1.data.toList,(both9F p op).2.1,[100],(both9F p op).2.2⟩,1)
def entEqB (a b:EntV):Bool:=decide (a.pg=b.pg)&&(decide (a.op=b.op)&&(decide (a.iop=b.iop)&&(decide (a.args=b.args)&&(decide (a.ex=b.ex)&&(a.al==b.al)))))
theorem entEqB_iff {a b:EntV} (h:entEqB a b=true):a=b:=by
 obtain ⟨a1,a2,a3,a4,a5,a6⟩:=a
 obtain ⟨b1,b2,b3,b4,b5,b6⟩:=b
 unfold entEqB at h
 simp only [Bool.and_eq_true,decide_eq_true_eq,beq_iff_eq] at h
 obtain ⟨rfl,rfl,rfl,rfl,rfl,rfl⟩:=h
 rfl
def sameB (x y:Option EntV × Int):Bool:=decide (x.2=y.2)&&(match x.1,y.1 with | some a,some b=>entEqB a b | none,none=>true | _,_=>false)
theorem sameB_eq {x y:Option EntV × Int} (h:sameB x y=true):x=y:=by
 obtain ⟨x,k⟩:=x
 obtain ⟨y,m⟩:=y
 unfold sameB at h
 rw [Bool.and_eq_true,decide_eq_true_eq] at h
 obtain ⟨h1,h2⟩:=h
 dsimp only at h1 h2
 subst h1
 cases x<;>cases y<;>simp at h2
 ·rfl
 ·rw [entEqB_iff h2]
theorem same0:∀x:Fin 256,sameB (at9F 0 x.val) (atF 0 x.val)=true:=by decide+kernel
theorem same1:∀x:Fin 256,sameB (at9F 1 x.val) (atF 1 x.val)=true:=by decide+kernel
theorem same2:∀x:Fin 256,sameB (at9F 2 x.val) (atF 2 x.val)=true:=by decide+kernel
theorem same3:∀x:Fin 256,sameB (at9F 3 x.val) (atF 3 x.val)=true:=by decide+kernel
theorem same4:∀x:Fin 256,sameB (at9F 4 x.val) (atF 4 x.val)=true:=by decide+kernel
theorem same5:∀x:Fin 256,sameB (at9F 5 x.val) (atF 5 x.val)=true:=by decide+kernel
theorem same6:∀x:Fin 256,sameB (at9F 6 x.val) (atF 6 x.val)=true:=by decide+kernel
theorem small9:∀x:Fin 256,(decide ((mainF x.val).2.1.length≤1000)&&(decide ((mainF x.val).1.size≤1000)&&(decide ((mainF x.val).2.2.size≤1000)&&(decide ((cbF x.val ⟨5,5,0⟩).2.length≤100)&&decide ((cbF x.val ⟨5,6,0⟩).2.length≤100)))))=true:=by decide+kernel
end Go.Proofs.YtnbmbcjnncbaiaaGreatDoor
namespace Go.Proofs.YtnbmbcjnncbaiaaGreatDoor
set_option maxHeartbeats 8000000
set_option maxRecDepth 100000
open Go.RowKit Go.Shelf Go.Sort
theorem bytes_nil {s:ByteArray}:s.data.toList=[]↔s=⟨#[]⟩:=by
 obtain ⟨⟨l⟩⟩:=s
 simp
theorem atP_no {w:World} {k:Int} {e:Ending} {w':World} (h:e=.returned (.tuple #[ent9,.int .i64 k])∧Below w.heap.size w w'):AtP w none k e w':=⟨h.1,h.2⟩
theorem atP_yes {w:World} {pg:Int} {op:Nat} {s ex:ByteArray} {l:List Opd} {al:Bool} {e:Ending} {w':World}
  (h:∃v,e=.returned (.tuple #[.agg #[.int .i64 pg,.int .u8 op,.string s,v,.string ex,.bool al],.int .i64 1])∧OpdOwn w' (fun b=>w.heap.size≤b) v l∧Below w.heap.size w w'):AtP w (some ⟨pg,op,s.data.toList,l,ex.data.toList,al⟩) 1 e w':=by
 obtain ⟨v,h1,h2,h3⟩:=h
 refine ⟨⟨v,?_,h2⟩,h3⟩
 rw [h1]
 rfl
theorem opt9_calls {pg k:Int} {op:Nat} {s ex:ByteArray} {l:List Opd} {al:Bool} {w:World} {args:Array Value}
  (hno:s=⟨#[]⟩→Calls Tryz.prog 55 args w fun e w'=>e=.returned (.tuple #[ent9,.int .i64 k])∧Below w.heap.size w w')
  (hyes:¬s=⟨#[]⟩→Calls Tryz.prog 55 args w fun e w'=>∃v,e=.returned (.tuple #[.agg #[.int .i64 pg,.int .u8 op,.string s,v,.string ex,.bool al],.int .i64 1])∧OpdOwn w' (fun b=>w.heap.size≤b) v l∧Below w.heap.size w w'):
  Calls Tryz.prog 55 args w (AtP w (opt9 pg op k s l ex al).1 (opt9 pg op k s l ex al).2):=by
 unfold opt9
 by_cases hs:s.data.toList=[]
 ·rw [if_pos hs]
  exact (hno (bytes_nil.1 hs)).mono fun _ _ h=>atP_no h
 ·rw [if_neg hs]
  exact (hyes (fun e=>hs (bytes_nil.2 e))).mono fun _ _ h=>atP_yes h
theorem cb_name:∀x:Fin 256,decide ((cbF x.val (rF ((x.val:Int) % 8))).1.data.toList=[])=false:=by decide+kernel
theorem AtRef_any (page:Int) (op:Nat) (hop:op < 256) (w:World):Calls Tryz.prog 55 #[.int .i64 page,.int .u8 op] w (AtP w (atF page op).1 (atF page op).2):=by
 have h0:(0:Int)≤op:=by omega
 have h8:(op:Int) < 256:=by omega
 have hsm:=small9 ⟨op,hop⟩
 simp only [Bool.and_eq_true,decide_eq_true_eq] at hsm
 obtain ⟨l1,l2,l3,l4,l5⟩:=hsm
 by_cases p0:page=0
 ·subst p0
  rw [←sameB_eq (same0 ⟨op,hop⟩)]
  exact opt9_calls (fun hs=>At9_0_no op h0 h8 hs w) (fun hs=>At9_0_yes op h0 h8 hs w)
 by_cases p1:page=1
 ·subst p1
  rw [←sameB_eq (same1 ⟨op,hop⟩)]
  exact opt9_calls (fun hs=>absurd (bytes_nil.2 hs) (of_decide_eq_false (cb_name ⟨op,hop⟩))) (fun hs=>At9_1_yes op h0 h8 hs w)
 by_cases p2:page=2
 ·subst p2
  rw [←sameB_eq (same2 ⟨op,hop⟩)]
  exact opt9_calls (fun hs=>At9_2_no op h0 h8 hs w) (fun hs=>At9_2_yes op h0 h8 hs w)
 by_cases p3:page=3
 ·subst p3
  by_cases hcb:op=203
  ·subst hcb
   rw [←sameB_eq (same3 ⟨203,by decide⟩)]
   exact (At9_cb3 w).mono fun _ _ h=>atP_no h
  ·rw [←sameB_eq (same3 ⟨op,hop⟩)]
   have e:at9F 3 op=opt9 3 op 0 (ixR 5 (mainF op).1 (mainF op).2.1 (mainF op).2.2).1 (ixR 5 (mainF op).1 (mainF op).2.1 (mainF op).2.2).2.1 (ixR 5 (mainF op).1 (mainF op).2.1 (mainF op).2.2).2.2 false:=by
    unfold at9F;rw [if_neg (by decide),if_neg (by decide),if_neg (by decide),if_pos (by decide),if_neg hcb];rfl
   show Calls _ _ _ _ (AtP w (at9F 3 op).1 (at9F 3 op).2)
   rw [e]
   exact opt9_calls (fun hs=>At9_3_no op h0 h8 (by omega) l1 l2 l3 hs w) (fun hs=>At9_3_yes op h0 h8 (by omega) l1 l2 l3 hs w)
 by_cases p4:page=4
 ·subst p4
  by_cases hcb:op=203
  ·subst hcb
   rw [←sameB_eq (same4 ⟨203,by decide⟩)]
   exact (At9_cb4 w).mono fun _ _ h=>atP_no h
  ·rw [←sameB_eq (same4 ⟨op,hop⟩)]
   have e:at9F 4 op=opt9 4 op 0 (ixR 6 (mainF op).1 (mainF op).2.1 (mainF op).2.2).1 (ixR 6 (mainF op).1 (mainF op).2.1 (mainF op).2.2).2.1 (ixR 6 (mainF op).1 (mainF op).2.1 (mainF op).2.2).2.2 false:=by
    unfold at9F;rw [if_neg (by decide),if_neg (by decide),if_neg (by decide),if_pos (by decide),if_neg hcb];rfl
   show Calls _ _ _ _ (AtP w (at9F 4 op).1 (at9F 4 op).2)
   rw [e]
   exact opt9_calls (fun hs=>At9_4_no op h0 h8 (by omega) l1 l2 l3 hs w) (fun hs=>At9_4_yes op h0 h8 (by omega) l1 l2 l3 hs w)
 by_cases p5:page=5
 ·subst p5
  rw [←sameB_eq (same5 ⟨op,hop⟩)]
  exact (At9_5 op h0 h8 l4 w).mono fun _ _ h=>atP_yes h
 by_cases p6:page=6
 ·subst p6
  rw [←sameB_eq (same6 ⟨op,hop⟩)]
  exact (At9_6 op h0 h8 l5 w).mono fun _ _ h=>atP_yes h
 have e:atF page op=(none,0):=by
  unfold atF;rw [if_neg p0,if_neg p1,if_neg p2,if_neg (fun e=>e.elim p3 p4),if_neg (fun e=>e.elim p5 p6)]
 rw [e]
 exact (At9_out page op (by omega) w).mono fun _ _ h=>atP_no h
end Go.Proofs.YtnbmbcjnncbaiaaGreatDoor
