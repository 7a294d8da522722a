/-
  The program's search: pages, candidates, Find. Conditions: the library's table as its initialiser lays it.
-/
import Derived.Test.YtjmekllgnhkodaaGreatDoorPN
import Derived.Test.YtjmekllgnhkodaaGreatDoorPC
import Derived.Test.YtjmekllgnhkodaaGreatDoorPE
import Derived.Test.YtjmekllgnhkodaaGreatDoorPL
import Derived.Deep.RegionHeld3
import Derived.Test.YtjmekllgnhkodaaGreatDoorPO
import Derived.Test.YtjmekllgnhkodaaGreatDoorPD
namespace Go.Proofs.YtjmekllgnhkodaaGreatDoor
set_option maxHeartbeats 8000000
set_option maxRecDepth 100000
open Go.RowKit Go.Shelf Go.Sort
def tblX (r h:Int):List Opd:=[⟨2,h,0⟩,⟨2,h+1,0⟩,⟨3,r,0⟩,⟨4,r,0⟩,⟨5,r,0⟩]
def idxO (o:Opd):Int:=if okOpd o=false then 0 else if (tblX 5 0).any (opdEq (z0 o))=true then 5 else if (tblX 6 2).any (opdEq (z0 o))=true then 6 else 0
theorem IndexP_any (o:Opd) (w:World):Calls Tryz.prog 179 #[.agg #[.int .i64 o.kind,.int .i64 o.reg,.int .i64 o.n]] w fun e w'=>e=.returned (.int .i64 (idxO o))∧Below w.heap.size w w':=by
 have HVA:=Lib.hid (fun W=>valid_any o W)
 have HNO:=Lib.hid (show okOpd o=false→idxO o=0 from fun h=>if_pos h)
 have HY5:=Lib.hid (show okOpd o=true→(tblX 5 0).any (opdEq (z0 o))=true→idxO o=5 from fun h h2=>by unfold idxO;rw [h,if_neg (by decide),if_pos h2])
 have HY6:=Lib.hid (show okOpd o=true→(tblX 5 0).any (opdEq (z0 o))=false→(tblX 6 2).any (opdEq (z0 o))=true→idxO o=6 from fun h h2 h3=>by unfold idxO;rw [h,if_neg (by decide),if_neg (by rw [h2];decide),if_pos h3])
 have HY0:=Lib.hid (show okOpd o=true→(tblX 5 0).any (opdEq (z0 o))=false→(tblX 6 2).any (opdEq (z0 o))=false→idxO o=0 from fun h h2 h3=>by unfold idxO;rw [h,if_neg (by decide),if_neg (by rw [h2];decide),if_neg (by rw [h3];decide)])
 obtain ⟨t5,ht5⟩:∃t,(tblX 5 0).any (opdEq (z0 o))=t:=⟨_,rfl⟩
 obtain ⟨t6,ht6⟩:∃t,(tblX 6 2).any (opdEq (z0 o))=t:=⟨_,rfl⟩
 rw [ht5] at HY5 HY6 HY0
 rw [ht6] at HY6 HY0
 have HT5:=Lib.hid ht5
 have HT6:=Lib.hid ht6
 clear ht5 ht6
 generalize okOpd o=ok at *
 generalize idxO o=R at *
 obtain ⟨xk,xr,xn⟩:=o
 dsimp only [z0] at *
 have hop:=run_eqOpd
 have HF:=Lib.hid ((Fr.start w).new 90 #[.int .i64 xk,.int .i64 xr,.int .i64 xn])
 obtain ⟨W0,hW0⟩:∃W0:World,W0=w.alloc (.cells #[.int .i64 xk,.int .i64 xr,.int .i64 xn] 90):=⟨_,rfl⟩
 rw [←hW0] at HF
 go_enter Tryz.func179,Tryz.ntmps179
 go_upto_region 1 with fail
 rw [←hW0]
 clear hW0
 have e0:=(HF.out.blk 0 rfl).cell 0
 have e1:=(HF.out.blk 0 rfl).cell 1
 have e2:=(HF.out.blk 0 rfl).cell 2
 cases ok
 ·have HR:=Lib.hid (HNO.out rfl)
  go_wp2_with (go_at_call 135;refine (HVA.out _).mono ?_;rintro e w1 ⟨rfl,hb1⟩;have HF1:=Lib.hid (HF.out.next hb1);clear hb1)
  go_ret
  exact ⟨by rw [HR.out];rfl,HF1.out.below⟩
 have HZ5:=Lib.hid (HY5.out rfl)
 have HZ6:=Lib.hid (HY6.out rfl)
 have HZ0:=Lib.hid (HY0.out rfl)
 clear HNO HY5 HY6 HY0
 go_upto_region 3 with (go_at_call 135;refine (HVA.out _).mono ?_;rintro e w1 ⟨rfl,hb1⟩;have HF1:=Lib.hid (HF.out.next hb1);clear hb1)
 have HF2:=Lib.hid (HF1.out.new 3 #[.int .i64 5,.int .i64 6])
 go_wp2
 have HL1:=Lib.hid (HF1.out.blk 0 rfl).lt
 obtain ⟨b2,hb2⟩:∃b,w1.heap.size=b:=⟨_,rfl⟩
 rw [hb2] at HF2 HL1 ⊢
 obtain ⟨W2,hW2⟩:∃W:World,W=w1.alloc (.cells #[.int .i64 5,.int .i64 6] 3):=⟨_,rfl⟩
 rw [←hW2] at HF2 ⊢
 clear hW2 hb2 HF1 HF HVA e0 e1 e2
 go_loopw [13] (fun i wx=>∃(k:Nat) (z:Int),k≤2∧i=.int .i64 k∧(1≤k→t5=false)∧(2≤k→t6=false)∧Fr w [(w.heap.size,90,#[.int .i64 xk,.int .i64 xr,.int .i64 z]),(b2,3,#[.int .i64 5,.int .i64 6])] wx∧b2 < wx.heap.size) (fun i _=>2 - (intOf i).toNat)
 case atStart=>exact ⟨0,xn,by omega,rfl,fun h=>absurd h (by omega),fun h=>absurd h (by omega),HF2.out.sub (by intro y hy;simp only [List.mem_cons,List.not_mem_nil,or_false] at hy ⊢;exact hy.symm),(HF2.out.blk 0 rfl).lt⟩
 case round=>
  obtain ⟨k,z,hk,rfl,hk1,hk2,hfr,hlt⟩:=hrel
  have HX:=Lib.hid hfr
  have HK1:=Lib.hid hk1
  have HK2:=Lib.hid hk2
  have HLT:=Lib.hid hlt
  clear hfr hk1 hk2 hlt
  have c0:=(HX.out.blk 1 rfl).cell 0
  have c1:=(HX.out.blk 1 rfl).cell 1
  have o2:=(HX.out.blk 0 rfl).cell 2
  have f2:=(HX.out.blk 0 rfl).free 2
  have HS:=Lib.hid (HX.out.set (Nat.le_refl _) (by intro y hy;simp only [List.mem_cons,List.not_mem_nil,or_false] at hy;subst hy;have:=HL1.out;dsimp only;omega) 2 (.int .i64 0))
  rcases k with _ | k
  ·have HN:=Lib.hid (HS.out.new' 90 #[.int .i64 2,.int .i64 0,.int .i64 0,.int .i64 2,.int .i64 1,.int .i64 0,.int .i64 3,.int .i64 5,.int .i64 0,.int .i64 4,.int .i64 5,.int .i64 0,.int .i64 5,.int .i64 5,.int .i64 0] (World.size_setCell _ _ _))
   have HGL:=Lib.hid HLT.out
   go_wp2
   obtain ⟨g,hg⟩:∃g,wr.heap.size=g:=⟨_,rfl⟩
   rw [hg] at HN HGL ⊢
   obtain ⟨W5,hW5⟩:∃W:World,W=(wr.setCell ⟨w.heap.size,2,none⟩ (.int .i64 0)).alloc (.cells #[.int .i64 2,.int .i64 0,.int .i64 0,.int .i64 2,.int .i64 1,.int .i64 0,.int .i64 3,.int .i64 5,.int .i64 0,.int .i64 4,.int .i64 5,.int .i64 0,.int .i64 5,.int .i64 5,.int .i64 0] 90):=⟨_,rfl⟩
   rw [←hW5] at HN ⊢
   clear hW5 hg c0 c1 o2 f2 HS HX HLT
   go_loopw [34] (fun i wx=>∃(j:Nat),j≤5∧i=.int .i64 j∧((tblX 5 0).take j).any (opdEq ⟨xk,xr,0⟩)=false∧Fr w [(g,90,#[.int .i64 2,.int .i64 0,.int .i64 0,.int .i64 2,.int .i64 1,.int .i64 0,.int .i64 3,.int .i64 5,.int .i64 0,.int .i64 4,.int .i64 5,.int .i64 0,.int .i64 5,.int .i64 5,.int .i64 0]),(w.heap.size,90,#[.int .i64 xk,.int .i64 xr,.int .i64 0]),(b2,3,#[.int .i64 5,.int .i64 6])] wx) (fun i _=>5 - (intOf i).toNat)
   case atStart=>exact ⟨0,by omega,rfl,rfl,HN.out⟩
   case round=>
    obtain ⟨j,hj,rfl,hp,hfr⟩:=hrel
    have HP:=Lib.hid hp
    have HX:=Lib.hid hfr
    clear hp hfr
    rcases j with _ | _ | _ | _ | _ | j
    ·have x0:=(HX.out.blk 0 rfl).cell 0
     have x1:=(HX.out.blk 0 rfl).cell 1
     have x2:=(HX.out.blk 0 rfl).cell 2
     have HA:=Lib.hid (HX.out.new 90 #[.int .i64 2,.int .i64 0,.int .i64 0])
     go_upto_region 11 with fail
     obtain ⟨g7,hg7⟩:∃g,wr.heap.size=g:=⟨_,rfl⟩
     rw [hg7] at HA ⊢
     obtain ⟨W7,hW7⟩:∃W:World,W=wr.alloc (.cells #[.int .i64 2,.int .i64 0,.int .i64 0] 90):=⟨_,rfl⟩
     rw [←hW7] at HA ⊢
     clear hW7 hg7 x0 x1 x2 HX
     have y0:=(HA.out.blk 0 rfl).cell 0
     have y1:=(HA.out.blk 0 rfl).cell 1
     have y2:=(HA.out.blk 0 rfl).cell 2
     have d0:=(HA.out.blk 2 rfl).cell 0
     have d1:=(HA.out.blk 2 rfl).cell 1
     have d2:=(HA.out.blk 2 rfl).cell 2
     cases hb:opdEq ⟨xk,xr,0⟩ ⟨2,0,0⟩
     ·have HB:=Lib.hid hb
      go_wp2
      go_roundw
      case rel=>exact ⟨1,by omega,by go_num,by have h2:=HB.out;simp [tblX];simp [h2],HA.out.drop⟩
      case measure=>simp [intOf]
     ·have HR:=Lib.hid (HZ5.out (HT5.out.symm.trans (List.any_eq_true.2 ⟨_,(by simp [tblX]:(⟨2,0,0⟩:Opd)∈tblX 5 0),hb⟩)))
      go_wp2
      go_ret
      exact ⟨by rw [HR.out];rfl,HA.out.below⟩
    ·have x0:=(HX.out.blk 0 rfl).cell 3
     have x1:=(HX.out.blk 0 rfl).cell 4
     have x2:=(HX.out.blk 0 rfl).cell 5
     have HA:=Lib.hid (HX.out.new 90 #[.int .i64 2,.int .i64 1,.int .i64 0])
     go_upto_region 11 with fail
     obtain ⟨g7,hg7⟩:∃g,wr.heap.size=g:=⟨_,rfl⟩
     rw [hg7] at HA ⊢
     obtain ⟨W7,hW7⟩:∃W:World,W=wr.alloc (.cells #[.int .i64 2,.int .i64 1,.int .i64 0] 90):=⟨_,rfl⟩
     rw [←hW7] at HA ⊢
     clear hW7 hg7 x0 x1 x2 HX
     have y0:=(HA.out.blk 0 rfl).cell 0
     have y1:=(HA.out.blk 0 rfl).cell 1
     have y2:=(HA.out.blk 0 rfl).cell 2
     have d0:=(HA.out.blk 2 rfl).cell 0
     have d1:=(HA.out.blk 2 rfl).cell 1
     have d2:=(HA.out.blk 2 rfl).cell 2
     cases hb:opdEq ⟨xk,xr,0⟩ ⟨2,1,0⟩
     ·have HB:=Lib.hid hb
      go_wp2
      go_roundw
      case rel=>exact ⟨2,by omega,by go_num,by have h1:=HP.out;have h2:=HB.out;simp [tblX] at h1 ⊢;simp [h1,h2],HA.out.drop⟩
      case measure=>simp [intOf]
     ·have HR:=Lib.hid (HZ5.out (HT5.out.symm.trans (List.any_eq_true.2 ⟨_,(by simp [tblX]:(⟨2,1,0⟩:Opd)∈tblX 5 0),hb⟩)))
      go_wp2
      go_ret
      exact ⟨by rw [HR.out];rfl,HA.out.below⟩
    ·have x0:=(HX.out.blk 0 rfl).cell 6
     have x1:=(HX.out.blk 0 rfl).cell 7
     have x2:=(HX.out.blk 0 rfl).cell 8
     have HA:=Lib.hid (HX.out.new 90 #[.int .i64 3,.int .i64 5,.int .i64 0])
     go_upto_region 11 with fail
     obtain ⟨g7,hg7⟩:∃g,wr.heap.size=g:=⟨_,rfl⟩
     rw [hg7] at HA ⊢
     obtain ⟨W7,hW7⟩:∃W:World,W=wr.alloc (.cells #[.int .i64 3,.int .i64 5,.int .i64 0] 90):=⟨_,rfl⟩
     rw [←hW7] at HA ⊢
     clear hW7 hg7 x0 x1 x2 HX
     have y0:=(HA.out.blk 0 rfl).cell 0
     have y1:=(HA.out.blk 0 rfl).cell 1
     have y2:=(HA.out.blk 0 rfl).cell 2
     have d0:=(HA.out.blk 2 rfl).cell 0
     have d1:=(HA.out.blk 2 rfl).cell 1
     have d2:=(HA.out.blk 2 rfl).cell 2
     cases hb:opdEq ⟨xk,xr,0⟩ ⟨3,5,0⟩
     ·have HB:=Lib.hid hb
      go_wp2
      go_roundw
      case rel=>exact ⟨3,by omega,by go_num,by have h1:=HP.out;have h2:=HB.out;simp [tblX] at h1 ⊢;simp [h1,h2],HA.out.drop⟩
      case measure=>simp [intOf]
     ·have HR:=Lib.hid (HZ5.out (HT5.out.symm.trans (List.any_eq_true.2 ⟨_,(by simp [tblX]:(⟨3,5,0⟩:Opd)∈tblX 5 0),hb⟩)))
      go_wp2
      go_ret
      exact ⟨by rw [HR.out];rfl,HA.out.below⟩
    ·have x0:=(HX.out.blk 0 rfl).cell 9
     have x1:=(HX.out.blk 0 rfl).cell 10
     have x2:=(HX.out.blk 0 rfl).cell 11
     have HA:=Lib.hid (HX.out.new 90 #[.int .i64 4,.int .i64 5,.int .i64 0])
     go_upto_region 11 with fail
     obtain ⟨g7,hg7⟩:∃g,wr.heap.size=g:=⟨_,rfl⟩
     rw [hg7] at HA ⊢
     obtain ⟨W7,hW7⟩:∃W:World,W=wr.alloc (.cells #[.int .i64 4,.int .i64 5,.int .i64 0] 90):=⟨_,rfl⟩
     rw [←hW7] at HA ⊢
     clear hW7 hg7 x0 x1 x2 HX
     have y0:=(HA.out.blk 0 rfl).cell 0
     have y1:=(HA.out.blk 0 rfl).cell 1
     have y2:=(HA.out.blk 0 rfl).cell 2
     have d0:=(HA.out.blk 2 rfl).cell 0
     have d1:=(HA.out.blk 2 rfl).cell 1
     have d2:=(HA.out.blk 2 rfl).cell 2
     cases hb:opdEq ⟨xk,xr,0⟩ ⟨4,5,0⟩
     ·have HB:=Lib.hid hb
      go_wp2
      go_roundw
      case rel=>exact ⟨4,by omega,by go_num,by have h1:=HP.out;have h2:=HB.out;simp [tblX] at h1 ⊢;simp [h1,h2],HA.out.drop⟩
      case measure=>simp [intOf]
     ·have HR:=Lib.hid (HZ5.out (HT5.out.symm.trans (List.any_eq_true.2 ⟨_,(by simp [tblX]:(⟨4,5,0⟩:Opd)∈tblX 5 0),hb⟩)))
      go_wp2
      go_ret
      exact ⟨by rw [HR.out];rfl,HA.out.below⟩
    ·have x0:=(HX.out.blk 0 rfl).cell 12
     have x1:=(HX.out.blk 0 rfl).cell 13
     have x2:=(HX.out.blk 0 rfl).cell 14
     have HA:=Lib.hid (HX.out.new 90 #[.int .i64 5,.int .i64 5,.int .i64 0])
     go_upto_region 11 with fail
     obtain ⟨g7,hg7⟩:∃g,wr.heap.size=g:=⟨_,rfl⟩
     rw [hg7] at HA ⊢
     obtain ⟨W7,hW7⟩:∃W:World,W=wr.alloc (.cells #[.int .i64 5,.int .i64 5,.int .i64 0] 90):=⟨_,rfl⟩
     rw [←hW7] at HA ⊢
     clear hW7 hg7 x0 x1 x2 HX
     have y0:=(HA.out.blk 0 rfl).cell 0
     have y1:=(HA.out.blk 0 rfl).cell 1
     have y2:=(HA.out.blk 0 rfl).cell 2
     have d0:=(HA.out.blk 2 rfl).cell 0
     have d1:=(HA.out.blk 2 rfl).cell 1
     have d2:=(HA.out.blk 2 rfl).cell 2
     cases hb:opdEq ⟨xk,xr,0⟩ ⟨5,5,0⟩
     ·have HB:=Lib.hid hb
      go_wp2
      go_roundw
      case rel=>exact ⟨5,by omega,by go_num,by have h1:=HP.out;have h2:=HB.out;simp [tblX] at h1 ⊢;simp [h1,h2],HA.out.drop⟩
      case measure=>simp [intOf]
     ·have HR:=Lib.hid (HZ5.out (HT5.out.symm.trans (List.any_eq_true.2 ⟨_,(by simp [tblX]:(⟨5,5,0⟩:Opd)∈tblX 5 0),hb⟩)))
      go_wp2
      go_ret
      exact ⟨by rw [HR.out];rfl,HA.out.below⟩
    ·obtain rfl:j=0:=by omega
     go_wp2
     go_roundw
     case rel=>exact ⟨1,0,by omega,by go_num,fun _=>HT5.out.symm.trans HP.out,fun h=>absurd h (by omega),HX.out.drop,(HX.out.blk 2 rfl).lt⟩
     case measure=>simp [intOf]
  rcases k with _ | k
  ·have HN:=Lib.hid (HS.out.new' 90 #[.int .i64 2,.int .i64 2,.int .i64 0,.int .i64 2,.int .i64 3,.int .i64 0,.int .i64 3,.int .i64 6,.int .i64 0,.int .i64 4,.int .i64 6,.int .i64 0,.int .i64 5,.int .i64 6,.int .i64 0] (World.size_setCell _ _ _))
   have HGL:=Lib.hid HLT.out
   go_wp2
   obtain ⟨g,hg⟩:∃g,wr.heap.size=g:=⟨_,rfl⟩
   rw [hg] at HN HGL ⊢
   obtain ⟨W5,hW5⟩:∃W:World,W=(wr.setCell ⟨w.heap.size,2,none⟩ (.int .i64 0)).alloc (.cells #[.int .i64 2,.int .i64 2,.int .i64 0,.int .i64 2,.int .i64 3,.int .i64 0,.int .i64 3,.int .i64 6,.int .i64 0,.int .i64 4,.int .i64 6,.int .i64 0,.int .i64 5,.int .i64 6,.int .i64 0] 90):=⟨_,rfl⟩
   rw [←hW5] at HN ⊢
   clear hW5 hg c0 c1 o2 f2 HS HX HLT
   go_loopw [34] (fun i wx=>∃(j:Nat),j≤5∧i=.int .i64 j∧((tblX 6 2).take j).any (opdEq ⟨xk,xr,0⟩)=false∧Fr w [(g,90,#[.int .i64 2,.int .i64 2,.int .i64 0,.int .i64 2,.int .i64 3,.int .i64 0,.int .i64 3,.int .i64 6,.int .i64 0,.int .i64 4,.int .i64 6,.int .i64 0,.int .i64 5,.int .i64 6,.int .i64 0]),(w.heap.size,90,#[.int .i64 xk,.int .i64 xr,.int .i64 0]),(b2,3,#[.int .i64 5,.int .i64 6])] wx) (fun i _=>5 - (intOf i).toNat)
   case atStart=>exact ⟨0,by omega,rfl,rfl,HN.out⟩
   case round=>
    obtain ⟨j,hj,rfl,hp,hfr⟩:=hrel
    have HP:=Lib.hid hp
    have HX:=Lib.hid hfr
    clear hp hfr
    rcases j with _ | _ | _ | _ | _ | j
    ·have x0:=(HX.out.blk 0 rfl).cell 0
     have x1:=(HX.out.blk 0 rfl).cell 1
     have x2:=(HX.out.blk 0 rfl).cell 2
     have HA:=Lib.hid (HX.out.new 90 #[.int .i64 2,.int .i64 2,.int .i64 0])
     go_upto_region 11 with fail
     obtain ⟨g7,hg7⟩:∃g,wr.heap.size=g:=⟨_,rfl⟩
     rw [hg7] at HA ⊢
     obtain ⟨W7,hW7⟩:∃W:World,W=wr.alloc (.cells #[.int .i64 2,.int .i64 2,.int .i64 0] 90):=⟨_,rfl⟩
     rw [←hW7] at HA ⊢
     clear hW7 hg7 x0 x1 x2 HX
     have y0:=(HA.out.blk 0 rfl).cell 0
     have y1:=(HA.out.blk 0 rfl).cell 1
     have y2:=(HA.out.blk 0 rfl).cell 2
     have d0:=(HA.out.blk 2 rfl).cell 0
     have d1:=(HA.out.blk 2 rfl).cell 1
     have d2:=(HA.out.blk 2 rfl).cell 2
     cases hb:opdEq ⟨xk,xr,0⟩ ⟨2,2,0⟩
     ·have HB:=Lib.hid hb
      go_wp2
      go_roundw
      case rel=>exact ⟨1,by omega,by go_num,by have h2:=HB.out;simp [tblX];simp [h2],HA.out.drop⟩
      case measure=>simp [intOf]
     ·have HR:=Lib.hid ((HZ6.out (HK1.out (by omega))) (HT6.out.symm.trans (List.any_eq_true.2 ⟨_,(by simp [tblX]:(⟨2,2,0⟩:Opd)∈tblX 6 2),hb⟩)))
      go_wp2
      go_ret
      exact ⟨by rw [HR.out];rfl,HA.out.below⟩
    ·have x0:=(HX.out.blk 0 rfl).cell 3
     have x1:=(HX.out.blk 0 rfl).cell 4
     have x2:=(HX.out.blk 0 rfl).cell 5
     have HA:=Lib.hid (HX.out.new 90 #[.int .i64 2,.int .i64 3,.int .i64 0])
     go_upto_region 11 with fail
     obtain ⟨g7,hg7⟩:∃g,wr.heap.size=g:=⟨_,rfl⟩
     rw [hg7] at HA ⊢
     obtain ⟨W7,hW7⟩:∃W:World,W=wr.alloc (.cells #[.int .i64 2,.int .i64 3,.int .i64 0] 90):=⟨_,rfl⟩
     rw [←hW7] at HA ⊢
     clear hW7 hg7 x0 x1 x2 HX
     have y0:=(HA.out.blk 0 rfl).cell 0
     have y1:=(HA.out.blk 0 rfl).cell 1
     have y2:=(HA.out.blk 0 rfl).cell 2
     have d0:=(HA.out.blk 2 rfl).cell 0
     have d1:=(HA.out.blk 2 rfl).cell 1
     have d2:=(HA.out.blk 2 rfl).cell 2
     cases hb:opdEq ⟨xk,xr,0⟩ ⟨2,3,0⟩
     ·have HB:=Lib.hid hb
      go_wp2
      go_roundw
      case rel=>exact ⟨2,by omega,by go_num,by have h1:=HP.out;have h2:=HB.out;simp [tblX] at h1 ⊢;simp [h1,h2],HA.out.drop⟩
      case measure=>simp [intOf]
     ·have HR:=Lib.hid ((HZ6.out (HK1.out (by omega))) (HT6.out.symm.trans (List.any_eq_true.2 ⟨_,(by simp [tblX]:(⟨2,3,0⟩:Opd)∈tblX 6 2),hb⟩)))
      go_wp2
      go_ret
      exact ⟨by rw [HR.out];rfl,HA.out.below⟩
    ·have x0:=(HX.out.blk 0 rfl).cell 6
     have x1:=(HX.out.blk 0 rfl).cell 7
     have x2:=(HX.out.blk 0 rfl).cell 8
     have HA:=Lib.hid (HX.out.new 90 #[.int .i64 3,.int .i64 6,.int .i64 0])
     go_upto_region 11 with fail
     obtain ⟨g7,hg7⟩:∃g,wr.heap.size=g:=⟨_,rfl⟩
     rw [hg7] at HA ⊢
     obtain ⟨W7,hW7⟩:∃W:World,W=wr.alloc (.cells #[.int .i64 3,.int .i64 6,.int .i64 0] 90):=⟨_,rfl⟩
     rw [←hW7] at HA ⊢
     clear hW7 hg7 x0 x1 x2 HX
     have y0:=(HA.out.blk 0 rfl).cell 0
     have y1:=(HA.out.blk 0 rfl).cell 1
     have y2:=(HA.out.blk 0 rfl).cell 2
     have d0:=(HA.out.blk 2 rfl).cell 0
     have d1:=(HA.out.blk 2 rfl).cell 1
     have d2:=(HA.out.blk 2 rfl).cell 2
     cases hb:opdEq ⟨xk,xr,0⟩ ⟨3,6,0⟩
     ·have HB:=Lib.hid hb
      go_wp2
      go_roundw
      case rel=>exact ⟨3,by omega,by go_num,by have h1:=HP.out;have h2:=HB.out;simp [tblX] at h1 ⊢;simp [h1,h2],HA.out.drop⟩
      case measure=>simp [intOf]
     ·have HR:=Lib.hid ((HZ6.out (HK1.out (by omega))) (HT6.out.symm.trans (List.any_eq_true.2 ⟨_,(by simp [tblX]:(⟨3,6,0⟩:Opd)∈tblX 6 2),hb⟩)))
      go_wp2
      go_ret
      exact ⟨by rw [HR.out];rfl,HA.out.below⟩
    ·have x0:=(HX.out.blk 0 rfl).cell 9
     have x1:=(HX.out.blk 0 rfl).cell 10
     have x2:=(HX.out.blk 0 rfl).cell 11
     have HA:=Lib.hid (HX.out.new 90 #[.int .i64 4,.int .i64 6,.int .i64 0])
     go_upto_region 11 with fail
     obtain ⟨g7,hg7⟩:∃g,wr.heap.size=g:=⟨_,rfl⟩
     rw [hg7] at HA ⊢
     obtain ⟨W7,hW7⟩:∃W:World,W=wr.alloc (.cells #[.int .i64 4,.int .i64 6,.int .i64 0] 90):=⟨_,rfl⟩
     rw [←hW7] at HA ⊢
     clear hW7 hg7 x0 x1 x2 HX
     have y0:=(HA.out.blk 0 rfl).cell 0
     have y1:=(HA.out.blk 0 rfl).cell 1
     have y2:=(HA.out.blk 0 rfl).cell 2
     have d0:=(HA.out.blk 2 rfl).cell 0
     have d1:=(HA.out.blk 2 rfl).cell 1
     have d2:=(HA.out.blk 2 rfl).cell 2
     cases hb:opdEq ⟨xk,xr,0⟩ ⟨4,6,0⟩
     ·have HB:=Lib.hid hb
      go_wp2
      go_roundw
      case rel=>exact ⟨4,by omega,by go_num,by have h1:=HP.out;have h2:=HB.out;simp [tblX] at h1 ⊢;simp [h1,h2],HA.out.drop⟩
      case measure=>simp [intOf]
     ·have HR:=Lib.hid ((HZ6.out (HK1.out (by omega))) (HT6.out.symm.trans (List.any_eq_true.2 ⟨_,(by simp [tblX]:(⟨4,6,0⟩:Opd)∈tblX 6 2),hb⟩)))
      go_wp2
      go_ret
      exact ⟨by rw [HR.out];rfl,HA.out.below⟩
    ·have x0:=(HX.out.blk 0 rfl).cell 12
     have x1:=(HX.out.blk 0 rfl).cell 13
     have x2:=(HX.out.blk 0 rfl).cell 14
     have HA:=Lib.hid (HX.out.new 90 #[.int .i64 5,.int .i64 6,.int .i64 0])
     go_upto_region 11 with fail
     obtain ⟨g7,hg7⟩:∃g,wr.heap.size=g:=⟨_,rfl⟩
     rw [hg7] at HA ⊢
     obtain ⟨W7,hW7⟩:∃W:World,W=wr.alloc (.cells #[.int .i64 5,.int .i64 6,.int .i64 0] 90):=⟨_,rfl⟩
     rw [←hW7] at HA ⊢
     clear hW7 hg7 x0 x1 x2 HX
     have y0:=(HA.out.blk 0 rfl).cell 0
     have y1:=(HA.out.blk 0 rfl).cell 1
     have y2:=(HA.out.blk 0 rfl).cell 2
     have d0:=(HA.out.blk 2 rfl).cell 0
     have d1:=(HA.out.blk 2 rfl).cell 1
     have d2:=(HA.out.blk 2 rfl).cell 2
     cases hb:opdEq ⟨xk,xr,0⟩ ⟨5,6,0⟩
     ·have HB:=Lib.hid hb
      go_wp2
      go_roundw
      case rel=>exact ⟨5,by omega,by go_num,by have h1:=HP.out;have h2:=HB.out;simp [tblX] at h1 ⊢;simp [h1,h2],HA.out.drop⟩
      case measure=>simp [intOf]
     ·have HR:=Lib.hid ((HZ6.out (HK1.out (by omega))) (HT6.out.symm.trans (List.any_eq_true.2 ⟨_,(by simp [tblX]:(⟨5,6,0⟩:Opd)∈tblX 6 2),hb⟩)))
      go_wp2
      go_ret
      exact ⟨by rw [HR.out];rfl,HA.out.below⟩
    ·obtain rfl:j=0:=by omega
     go_wp2
     go_roundw
     case rel=>exact ⟨2,0,by omega,by go_num,fun _=>HK1.out (by omega),fun _=>HT6.out.symm.trans HP.out,HX.out.drop,(HX.out.blk 2 rfl).lt⟩
     case measure=>simp [intOf]
  ·obtain rfl:k=0:=by omega
   have HR:=Lib.hid (HZ0.out (HK1.out (by omega)) (HK2.out (by omega)))
   go_wp2
   go_ret
   exact ⟨by rw [HR.out];rfl,HX.out.below⟩
end Go.Proofs.YtjmekllgnhkodaaGreatDoor
namespace Go.Proofs.YtjmekllgnhkodaaGreatDoor
set_option maxHeartbeats 8000000
set_option maxRecDepth 100000
open Go.RowKit Go.Shelf Go.Sort
def pgsF:List Opd→List Int
 | []=>[0,1,2]
 | o::r=>if idxO (z0 o)=5 then [3,5] else if idxO (z0 o)=6 then [4,6] else pgsF r
theorem pages_any (s:ByteArray) (l:List Opd) (p:Blocks) (v:Value) (w:World) (h:SlR opdR w p v l):
  Calls Tryz.prog 138 #[.agg #[.string s,v]] w fun e w'=>∃v',e=.returned v'∧SlR intR w' (fun b=>w.heap.size≤b) v' (pgsF l)∧Below w.heap.size w w':=by
 have hl:=h.len_le
 have HS:=Lib.hid h
 obtain ⟨va,vc,rfl⟩:∃a c,v=.slice a l.length c:=by obtain ⟨a,c,e,_⟩:=h;exact ⟨a,c,e⟩
 clear h
 have HF:=Lib.hid ((Fr.start w).new 27 #[.string s,.slice va l.length vc])
 obtain ⟨W0,hW0⟩:∃W0:World,W0=w.alloc (.cells #[.string s,.slice va l.length vc] 27):=⟨_,rfl⟩
 rw [←hW0] at HF
 go_enter Tryz.func138,Tryz.ntmps138
 go_upto_region 1 with fail
 rw [←hW0]
 clear hW0
 have e1:=(HF.out.blk 0 rfl).cell 1
 go_wp2
 go_loopw [8] (fun i wx=>∃(k:Nat),k≤l.length∧i=.int .i64 k∧pgsF l=pgsF (l.drop k)∧Fr w [(w.heap.size,27,#[.string s,.slice va l.length vc])] wx) (fun i _=>l.length - (intOf i).toNat)
 case atStart=>exact ⟨0,by omega,rfl,by rw [List.drop_zero],HF.out⟩
 case round=>
  obtain ⟨k,hk,rfl,hp,hfr⟩:=hrel
  have HP:=Lib.hid hp
  have HX:=Lib.hid hfr
  have HSX:=Lib.hid (HS.out.below hfr.below)
  clear hp hfr e1
  by_cases hlt:k < l.length
  ·obtain ⟨a1,c1,e6,_,_,g1⟩:=HSX.out.opd
   injection e6 with e6 e8 e9
   clear e8
   subst e6 e9
   obtain ⟨b1,o1,rfl,_,x0,x1,x2⟩:=g1 k l[k] (List.getElem?_eq_getElem hlt)
   have hq:pgsF l=if idxO (z0 l[k])=5 then [3,5] else if idxO (z0 l[k])=6 then [4,6] else pgsF (l.drop (k+1)):=by rw [HP.out,List.drop_eq_getElem_cons hlt];rfl
   have HQ5:=Lib.hid (show idxO (z0 l[k])=5→pgsF l=[3,5] from fun h=>by rw [hq,if_pos h])
   have HQ6:=Lib.hid (show ¬idxO (z0 l[k])=5→idxO (z0 l[k])=6→pgsF l=[4,6] from fun h h2=>by rw [hq,if_neg h,if_pos h2])
   have HQ0:=Lib.hid (show ¬idxO (z0 l[k])=5→¬idxO (z0 l[k])=6→pgsF l=pgsF (l.drop (k+1)) from fun h h2=>by rw [hq,if_neg h,if_neg h2])
   clear hq
   clear g1 HP
   generalize l[k]=x at *
   obtain ⟨xk,xr,xn⟩:=x
   dsimp only [z0] at *
   have HA:=Lib.hid (HX.out.new 90 #[.int .i64 xk,.int .i64 xr,.int .i64 xn])
   have HI:=Lib.hid (fun W=>IndexP_any ⟨xk,xr,0⟩ W)
   generalize idxO ⟨xk,xr,0⟩=I at *
   go_upto_region 4 with fail
   obtain ⟨g7,hg7⟩:∃g,wr.heap.size=g:=⟨_,rfl⟩
   rw [hg7] at HA ⊢
   obtain ⟨W7,hW7⟩:∃W:World,W=wr.alloc (.cells #[.int .i64 xk,.int .i64 xr,.int .i64 xn] 90):=⟨_,rfl⟩
   rw [←hW7] at HA ⊢
   clear hW7 hg7 x0 x1 x2 HX HSX
   have y0:=(HA.out.blk 0 rfl).cell 0
   have y1:=(HA.out.blk 0 rfl).cell 1
   go_upto_region 5 with (go_at_call 179;refine (HI.out _).mono ?_;rintro e w8 ⟨rfl,hb8⟩;have HB:=Lib.hid (HA.out.drop.next hb8);clear hb8)
   by_cases h5:I=5
   ·have HQ:=Lib.hid (HQ5.out h5)
    subst h5
    go_wp2
    go_ret
    refine ⟨_,rfl,?_,(HB.out.alloc _).below⟩
    rw [HQ.out]
    exact slR_lit w8 3 _ [3,5] _ 2 rfl rfl (by decide) (fun k hk=>Nat.le_trans HB.out.size hk)
   have HR6:=Lib.hid (HQ6.out h5)
   have HR0:=Lib.hid (HQ0.out h5)
   clear HQ5 HQ6 HQ0
   have b5:(I==5)=false:=by rw [beq_eq_false_iff_ne];exact h5
   clear h5
   by_cases h6:I=6
   ·have HQ:=Lib.hid (HR6.out h6)
    subst h6
    go_wp2
    go_ret
    refine ⟨_,rfl,?_,(HB.out.alloc _).below⟩
    rw [HQ.out]
    exact slR_lit w8 3 _ [4,6] _ 2 rfl rfl (by decide) (fun k hk=>Nat.le_trans HB.out.size hk)
   have HQ:=Lib.hid (HR0.out h6)
   clear HR6 HR0
   have b6:(I==6)=false:=by rw [beq_eq_false_iff_ne];exact h6
   clear h6
   go_wp2
   go_roundw
   case rel=>exact ⟨k+1,by omega,by go_num,HQ.out,HB.out⟩
   case measure=>simp [intOf];omega
  ·have HQ:Hid (pgsF l=[0,1,2]):=Lib.hid (by rw [HP.out,List.drop_of_length_le (by omega)];rfl)
   go_wp2
   go_ret
   refine ⟨_,rfl,?_,(HX.out.alloc _).below⟩
   rw [HQ.out]
   exact slR_lit wr 3 _ [0,1,2] _ 3 rfl rfl (by decide) (fun k hk=>Nat.le_trans HX.out.size hk)
theorem candidates_any (s:ByteArray) (u:Value) (w:World):
  Calls Tryz.prog 92 #[.agg #[.string s,u]] w fun e w'=>e=.returned (.func (.func 136) #[] #[.pointer (some ⟨w.heap.size,0,none⟩)])∧w'=w.alloc (.cells #[.string s,u] 27):=by
 have hmf:∀(fn:Fn) (first cap:Array Value) (w:World),(Instr.makeFunc fn first cap).run Tryz.prog w=.ok (.func fn first cap) w:=fun _ _ _ _=>rfl
 go_enter Tryz.func92,Tryz.ntmps92
 go_wp2
 go_ret
 exact ⟨rfl,rfl⟩
end Go.Proofs.YtjmekllgnhkodaaGreatDoor
namespace Go.Proofs.YtjmekllgnhkodaaGreatDoor
set_option maxHeartbeats 8000000
set_option maxRecDepth 100000
open Go.RowKit
attribute [local go_sem] Oper.semAt_some
section
variable {α:Type} {F:Fence} {n:Nat} {P:Program}
def MemSeqX (F:Fence) (n:Nat) (P:Program) (gf:Nat) (lb:Array Value) (encs:α→Array Value) (T:World→World→Prop) (Rx:List α→α→World→Prop) (S Sp:List α→Prop) (w0:World):Prop:=
 ∀(l:Nat) (J Jx:List α→World→Prop) (W:World),Below w0.heap.size w0 W→(∀s A B,J s A→Below A.heap.size A B→J s B)→(∀s A B,Jx s A→Below A.heap.size A B→Jx s B)→
  (∀pre x W1,J pre W1→Rx pre x W1→YieldAt F (n - 1) P l (encs x) W1 fun e W'=>(e=.returned (.bool true)∧J (pre++[x]) W'∧T W1 W')∨(e=.returned (.bool false)∧Jx (pre++[x]) W'))→
  J [] W→CallsIn F n P gf (#[.func (.yield l) #[] #[]]++lb) W fun e W'=>(∃v,e=.returned v)∧((∃xs,S xs∧J xs W')∨(∃pre,Sp pre∧Jx pre W'))
structure Recs (B:Nat) (A C:World):Prop where
 size:A.heap.size≤C.heap.size
 same:∀(k:Nat) (o:Obj),B≤k→A.heap[k]?=some o→o.isCells=false→C.heap[k]?=some o
theorem Recs.refl (B:Nat) (A:World):Recs B A A:=⟨Nat.le_refl _,fun _ _ _ h _=>h⟩
theorem Recs.below {B:Nat} {A C:World} (h:Below A.heap.size A C):Recs B A C:=⟨h.size,fun k _ _ hk _=>(h.block k (Array.getElem?_eq_some_iff.1 hk).1).trans hk⟩
theorem Recs.trans {B:Nat} {X Y Z:World} (h:Recs B X Y) (k:Recs B Y Z):Recs B X Z:=⟨Nat.le_trans h.size k.size,fun i o hB hi ho=>k.same i o hB (h.same i o hB hi ho) ho⟩
theorem Recs.setCell {B:Nat} {A:World} {b:Nat} {t:TypeId} {cs:Array Value} (h:Blk A b t cs) (j:Nat) (v:Value):Recs B A (A.setCell ⟨b,j,none⟩ v):=
 ⟨by rw [World.size_setCell];exact Nat.le_refl _,fun k o _ hk ho=>by
  refine (Below.heap_setCell _ _ _ _ (fun e=>?_)).trans hk
  have e:k=b:=e
  subst e
  have h2:A.heap[k]?=some (.cells cs t (0,0)):=h
  rw [h2] at hk
  injection hk with hk
  subst hk
  cases ho⟩
def roundEndX (B:Nat) (T:World→World→Prop) (I:List α→World→Prop) (Ix:Code→List α→World→Prop) (xs:List α) (W:World):Exit→Act→World→Prop
 | .normal,_,W'=>Recs B W W'∧T W W'∧I xs W'
 | .ret,_,W'=>Recs B W W'∧Ix .ret xs W'
 | .exit id,_,W'=>Recs B W W'∧Ix (.exit id) xs W'
 | .goto t,_,W'=>Recs B W W'∧Ix (.goto t) xs W'
 | _,_,_=>False
theorem put_grown {W:World} {l:Nat} (o':Obj):W.grownBy (W.putObj l o') (some l):=
 ⟨rfl,rfl,rfl,by simp [World.putObj],fun k _ hk=>World.putObj_heap_other (fun e=>hk (by rw [e]))⟩
theorem wpIn_range_memx {g:Operand} {ps:Array Tmp} {assign body:Code} {Q:Exit→Act→World→Prop} {a:Act} {w:World}
  (hro:F.round=none) (h1:1≤n) {gf:Nat} {lb:Array Value} (hg:a.eval g=.func (.func gf) #[] lb) (hFg:F.fn gf) (eg:∀args w,(callFunc gf args).run P w=.ok (.enter gf args) w)
  {encs:α→Array Value} (hps:∀x,(encs x).size=ps.size) {T:World→World→Prop} {Rx:List α→α→World→Prop} {S Sp:List α→Prop} (hseq:MemSeqX F (n - 1) P gf lb encs T Rx S Sp w)
  (hTt:∀{A B C:World},T A B→T B C→T A C) (hTp:∀(W:World) (l:Nat) (o o':Obj),W.heap[l]?=some o→o.isCells=false→T W (W.putObj l o'))
  (I:List α→World→Prop) (Ix:Code→List α→World→Prop) (hI:OwnFrom w.heap.size I) (hIx:∀c,OwnFrom w.heap.size (Ix c)) (h0:I [] w) (Ax:List α→α→Act→World→Prop)
  (hAx:∀s x a' (W:World) (l:Nat) (o o':Obj),Ax s x a' W→w.heap.size≤l→W.heap[l]?=some o→o.isCells=false→Ax s x a' (W.putObj l o'))
  (hassign:∀(l:Nat) (pre:List α) (x:α) (W:World) (K:Act→World→Prop),I pre W→Rx pre x W→(∀a' W',Recs w.heap.size W W'→T W W'→I pre W'→Ax pre x a' W'→K a' W')→
   assign.wpIn (F.inRound l) (n - 1 - 1) P (Exit.then K (fun _ _ _=>False)) {tmps:=(ps.zip (encs x)).foldl (fun t (p,v)=>t.setIfInBounds p v) a.tmps,defers:=[]} W)
  (hbody:∀(l:Nat) (pre:List α) (x:α) (a':Act) (W:World),w.heap.size≤l→I pre W→Ax pre x a' W→body.wpIn (F.inRound l) (n - 1 - 1) P (roundEndX w.heap.size T I Ix (pre++[x]) W) a' W)
  (hdone:∀(D:Nat) (xs:List α) (W:World),w.heap.size≤D→S xs→I xs W→W.heap[D]?=some (.deferred (some []))→Q .normal {a with defers:={target:=.collected D,args:=#[]}::a.defers} W)
  (hstop:∀(D:Nat) (c:Code) (pre:List α) (W:World),w.heap.size≤D→Sp pre→Ix c pre W→W.heap[D]?=some (.deferred (some []))→c.wpIn F n P Q {a with defers:={target:=.collected D,args:=#[]}::a.defers} W):
  (Code.rangeFunc g ps assign body).wpIn F n P Q a w:=by
 refine wpIn_rangeFunc ?_
 intro fn hfn
 rw [hro]
 let rec_:LoopState→Option Code→Loop:=fun st pe=>{state:=st,pending:=pe,fn,tmps:=a.tmps,params:=ps,assign,body,defers:=w.heap.size}
 let D:=w.heap.size
 let L:=w.heap.size+1
 let W1:=(w.alloc (.deferred (some []))).alloc (.loop (rec_ .ready none))
 have hL1:W1.heap[L]?=some (.loop (rec_ .ready none)):=by
  have:=World.alloc_heap_new (w.alloc (.deferred (some []))) (.loop (rec_ .ready none))
  rwa [World.size_alloc] at this
 have hD1:W1.heap[D]?=some (.deferred (some [])):=(Below.heap_alloc _ _ _ (by simp [D])).trans (World.alloc_heap_new w _)
 have hB1:Below w.heap.size w W1:=((Below.refl _ w).alloc (Nat.le_refl _) _).alloc (by simp) _
 have hstay:∀{K:List α→World→Prop},OwnFrom w.heap.size K→∀s A B,K s A→Below A.heap.size A B→K s B:=fun hK s A B hs hb=>
  hK s A B none hs ⟨hb.os,hb.tape,hb.output,hb.size,fun k hk _=>hb.block k hk⟩ (fun r e=>by cases e)
 have hrec:∀{K:List α→World→Prop},OwnFrom w.heap.size K→∀{s:List α} {A:World} (o o':Obj),K s A→A.heap[L]?=some o→o.isCells=false→K s (A.putObj L o'):=fun hK _ _ o o' hs ho hc=>
  hK _ _ _ (some L) hs (put_grown o') (fun r e=>by injection e with e;subst e;exact ⟨Nat.le_succ _,o,ho,hc⟩)
 refine ⟨L,[{target:=.collected D,args:=#[]}],W1,{target:=.fn (.func gf) lb,args:=#[.func (.yield L) #[] #[]]},W1,gf,#[.func (.yield L) #[] #[]]++lb,W1,run_enterLoop_outer _ _ _ _ _,?_,?_,?_,fun _=>h1,?_⟩
 ·simp only [resolve,hg]
  simp [go_sem]
 ·intro f' hf'
  simp [Target.leads] at hf'
  subst hf'
  exact hFg
 ·simp [invoke,go_sem,eg]
 refine (hseq L (fun s W=>I s W∧W.heap[L]?=some (.loop (rec_ .ready none))∧W.heap[D]?=some (.deferred (some [])))
  (fun s W=>∃c,Ix c s W∧W.heap[L]?=some (.loop (rec_ .done (some c)))∧W.heap[D]?=some (.deferred (some []))) W1 hB1
  (fun s A B hs hb=>⟨hstay hI s A B hs.1 hb,(hb.block _ (Array.getElem?_eq_some_iff.1 hs.2.1).1).trans hs.2.1,(hb.block _ (Array.getElem?_eq_some_iff.1 hs.2.2).1).trans hs.2.2⟩)
  (fun s A B hs hb=>by
   obtain ⟨c,h1,h2,h3⟩:=hs
   exact ⟨c,hstay (hIx c) s A B h1 hb,(hb.block _ (Array.getElem?_eq_some_iff.1 h2).1).trans h2,(hb.block _ (Array.getElem?_eq_some_iff.1 h3).1).trans h3⟩)
  ?_ ⟨hstay hI _ _ _ h0 hB1,hL1,hD1⟩).mono ?_
 ·
  rintro pre x W ⟨hi,hl,hd⟩ hx
  refine ⟨fn,_,assign,body,run_yield (P:=P) (args:=encs x) hl (hps x),roundIn_of_wpIn hfn (hassign _ pre x W _ hi hx ?_)⟩
  intro a' Wa hka hTa hia haa
  have hla:=hka.same _ _ (Nat.le_succ _) hl rfl
  have hda:=hka.same _ _ (Nat.le_refl _) hd rfl
  refine ⟨_,run_beginRound hla rfl,?_⟩
  have hLlt:L < Wa.heap.size:=(Array.getElem?_eq_some_iff.1 hla).1
  have hlb:(Wa.putObj L (.loop {rec_ .ready none with state:=.busy})).heap[L]?=some (.loop {rec_ .ready none with state:=.busy}):=World.putObj_heap_same hLlt
  have hdb:(Wa.putObj L (.loop {rec_ .ready none with state:=.busy})).heap[D]?=some (.deferred (some [])):=(World.putObj_heap_other (by show D≠L;omega)).trans hda
  refine wpIn_mono (hbody _ pre x a' _ (Nat.le_succ _) (hrec hI _ _ hia hla rfl) (hAx pre x a' _ _ _ _ haa (Nat.le_succ _) hla rfl)) ?_
  rintro e a3 W3 hp
  have fin:∀(jump:Option Code),Recs w.heap.size (Wa.putObj L (.loop {rec_ .ready none with state:=.busy})) W3→
    (Instr.endRound L jump).run P W3=.ok (.bool jump.isNone) (W3.putObj L (.loop (rec_ (if jump.isNone then .ready else .done) jump)))∧W3.heap[L]?=some (.loop {rec_ .ready none with state:=.busy})∧
    (W3.putObj L (.loop (rec_ (if jump.isNone then .ready else .done) jump))).heap[L]?=some (.loop (rec_ (if jump.isNone then .ready else .done) jump))∧
    (W3.putObj L (.loop (rec_ (if jump.isNone then .ready else .done) jump))).heap[D]?=some (.deferred (some [])):=fun jump hk3=>by
   have hl3:=hk3.same _ _ (Nat.le_succ _) hlb rfl
   exact ⟨run_endRound (P:=P) jump hl3,hl3,World.putObj_heap_same (Array.getElem?_eq_some_iff.1 hl3).1,(World.putObj_heap_other (by show D≠L;omega)).trans (hk3.same _ _ (Nat.le_refl _) hdb rfl)⟩
  cases e with
  | normal=>
   obtain ⟨hk3,hT3,hi3⟩:=hp
   obtain ⟨hr,hl3,hl4,hd4⟩:=fin none hk3
   exact ⟨_,_,hr,.inl ⟨rfl,⟨hrec hI _ _ hi3 hl3 rfl,hl4,hd4⟩,hTt hTa (hTt (hTt (hTp _ _ _ _ hla rfl) hT3) (hTp _ _ _ _ hl3 rfl))⟩⟩
  | ret=>
   obtain ⟨hk3,hi3⟩:=hp
   obtain ⟨hr,hl3,hl4,hd4⟩:=fin (some .ret) hk3
   exact ⟨_,_,hr,.inr ⟨rfl,.ret,hrec (hIx _) _ _ hi3 hl3 rfl,hl4,hd4⟩⟩
  | exit id=>
   obtain ⟨hk3,hi3⟩:=hp
   obtain ⟨hr,hl3,hl4,hd4⟩:=fin (some (.exit id)) hk3
   exact ⟨_,_,hr,.inr ⟨rfl,.exit id,hrec (hIx _) _ _ hi3 hl3 rfl,hl4,hd4⟩⟩
  | goto t=>
   obtain ⟨hk3,hi3⟩:=hp
   obtain ⟨hr,hl3,hl4,hd4⟩:=fin (some (.goto t)) hk3
   exact ⟨_,_,hr,.inr ⟨rfl,.goto t,hrec (hIx _) _ _ hi3 hl3 rfl,hl4,hd4⟩⟩
  | panic ch=>exact hp.elim
  | outgrown=>exact hp.elim
 ·
  rintro e W2 ⟨⟨v,rfl⟩,(⟨xs,hS,hi,hl,hd⟩ | ⟨pre,hSp,c,hi,hl,hd⟩)⟩
  ·exact ⟨none,_,run_endLoop (P:=P) hl (by simp [rec_]),hdone _ xs _ (Nat.le_refl _) hS (hrec hI _ _ hi hl rfl) ((World.putObj_heap_other (by show D≠L;omega)).trans hd)⟩
  ·exact ⟨some c,_,run_endLoop (P:=P) hl (by simp [rec_]),hstop _ c pre _ (Nat.le_refl _) hSp (hrec (hIx c) _ _ hi hl rfl) ((World.putObj_heap_other (by show D≠L;omega)).trans hd)⟩
def Tk (p:Nat→Prop) (W W':World):Prop:=∀k o,p k→W.heap[k]?=some o→o.isCells=true→W'.heap[k]?=some o
theorem Tk.refl {p:Nat→Prop} {A:World}:Tk p A A:=fun _ _ _ h _=>h
theorem Tk.trans {p:Nat→Prop} {A B C:World} (h:Tk p A B) (k:Tk p B C):Tk p A C:=fun i o hp hi hc=>k i o hp (h i o hp hi hc) hc
theorem Tk.put {p:Nat→Prop} (W:World) (l:Nat) (o o':Obj) (hl:W.heap[l]?=some o) (ho:o.isCells=false):Tk p W (W.putObj l o'):=fun k q _ hk hc=>by
 refine (World.putObj_heap_other (fun e=>?_)).trans hk
 subst e
 rw [hl] at hk
 injection hk with hk
 subst hk
 rw [ho] at hc
 cases hc
theorem Tk.below {p:Nat→Prop} {W W':World} (h:Below W.heap.size W W'):Tk p W W':=fun k _ _ hk _=>(h.block k (Array.getElem?_eq_some_iff.1 hk).1).trans hk
theorem Tk.setCell {p:Nat→Prop} {W:World} {b:Nat} (h:¬p b) (j:Nat) (v:Value):Tk p W (W.setCell ⟨b,j,none⟩ v):=fun k o hp hk _=>
 (Below.heap_setCell _ _ _ _ (fun e=>h (by have e:k=b:=e;rw [←e];exact hp))).trans hk
theorem Tk.blk {p:Nat→Prop} {W W':World} (h:Tk p W W') {b:Nat} {t:TypeId} {cs:Array Value} (hb:Blk W b t cs) (hp:p b):Blk W' b t cs:=h b _ hp hb rfl
theorem blk_own {B:Nat} {W W':World} {b:Nat} {t:TypeId} {cs:Array Value} {row:Option Nat} (h:Blk W b t cs) (hg:W.grownBy W' row) (hr:∀r,row=some r→B≤r∧∃o:Obj,W.heap[r]?=some o∧o.isCells=false):Blk W' b t cs:=
 (hg.block b h.lt (fun e=>by
  obtain ⟨_,o,ho,hc⟩:=hr b e.symm
  have hk:W.heap[b]?=some (.cells cs t (0,0)):=h
  rw [hk] at ho
  injection ho with ho
  subst ho
  cases hc)).trans h
end
end Go.Proofs.YtjmekllgnhkodaaGreatDoor
namespace Go.Proofs.YtjmekllgnhkodaaGreatDoor
set_option maxHeartbeats 8000000
set_option maxRecDepth 100000
open Go.RowKit Go.Shelf Go.Sort
attribute [local go_sem] Oper.semAt_some
theorem cell_block {w:World} {b j:Nat} {v:Value} (h:w.cell? ⟨b,j,none⟩=some v):∃o,w.heap[b]?=some o∧o.isCells=true:=by
 unfold World.cell? at h
 dsimp only at h
 split at h
 ·rename_i c t fz hb;exact ⟨_,hb,rfl⟩
 ·cases h
theorem SlR.tk {w w':World} {p P:Blocks} {v:Value} {xs:List Opd} (h:SlR opdR w p v xs) (ht:Tk P w w') (hp:∀k,p k→P k):SlR opdR w' p v xs:=by
 obtain ⟨a,cap,e,h1,h2,h3⟩:=h
 refine ⟨a,cap,e,h1,h2,fun i x hx=>?_⟩
 obtain ⟨b,o,cs,ea,hb,hbs,hc,hr⟩:=h3 i x hx
 have hr2:cs=x.cells:=hr
 obtain ⟨ob,ho,hoc⟩:=cell_block (hc 0 _ (by rw [hr2];rfl))
 have ho2:=ht b ob (hp b hb) ho hoc
 exact ⟨b,o,cs,ea,hb,(Array.getElem?_eq_some_iff.1 ho2).1,fun j v hv=>(World.cell?_of_block (ho2.trans ho.symm)).trans (hc j v hv),hr⟩
theorem SlR.tkE {w w':World} {p P:Blocks} {v:Value} {xs:List EntV} (h:SlR entR w p v xs) (ht:Tk P w w') (hp:∀k,p k→P k):SlR entR w' p v xs:=by
 obtain ⟨a,cap,e,h1,h2,h3⟩:=h
 refine ⟨a,cap,e,h1,h2,fun i x hx=>?_⟩
 obtain ⟨b,o,cs,ea,hb,hbs,hc,v2,hr,hs⟩:=h3 i x hx
 obtain ⟨ob,ho,hoc⟩:=cell_block (hc 0 _ (by rw [hr];rfl))
 have ho2:=ht b ob (hp b hb) ho hoc
 exact ⟨b,o,cs,ea,hb,(Array.getElem?_eq_some_iff.1 ho2).1,fun j v hv=>(World.cell?_of_block (ho2.trans ho.symm)).trans (hc j v hv),v2,hr,hs.tk ht hp⟩
theorem SlR.ent6 {w:World} {p:Blocks} {v:Value} {l:List EntV} (h:SlR entR w p v l):∃a cap,v=.slice a l.length cap∧l.length≤9223372036854775807∧
  ∀i x,l[i]?=some x→∃b o va vc,a=some ⟨b,o,none⟩∧b < w.heap.size∧w.cell? ⟨b,o+i * 6,none⟩=some (.int .i64 x.pg)∧w.cell? ⟨b,o+i * 6+1,none⟩=some (.int .u8 x.op)∧w.cell? ⟨b,o+i * 6+2,none⟩=some (.string ⟨x.iop.toArray⟩)∧
   w.cell? ⟨b,o+i * 6+3,none⟩=some (.slice va x.args.length vc)∧w.cell? ⟨b,o+i * 6+4,none⟩=some (.string ⟨x.ex.toArray⟩)∧w.cell? ⟨b,o+i * 6+5,none⟩=some (.bool x.al)∧SlR opdR w p (.slice va x.args.length vc) x.args:=by
 have hl:=h.len_le
 obtain ⟨a,cap,e,h1,h2,h3⟩:=h
 refine ⟨a,cap,e,hl,fun i x hx=>?_⟩
 obtain ⟨b,o,cs,ea,hb,hbs,hc,v,hcs,hr⟩:=h3 i x hx
 subst hcs
 obtain ⟨va,vc,rfl⟩:∃va vc,v=.slice va x.args.length vc:=by obtain ⟨a,c,e,_⟩:=hr;exact ⟨a,c,e⟩
 exact ⟨b,o,va,vc,ea,hbs,hc 0 _ rfl,hc 1 _ rfl,hc 2 _ rfl,hc 3 _ rfl,hc 4 _ rfl,hc 5 _ rfl,hr⟩
def candF (t:List UInt8) (l:List Opd):List EntV:=(pagesF (pgsF l)).flatMap (namF t)
def encE (x:EntV × Value):Array Value:=#[entVal x.1 x.2]
theorem pgsF_len:∀l:List Opd,(pagesF (pgsF l)).length≤7
 | []=>by decide
 | o::r=>by
  rw [pgsF]
  split
  ·decide
  ·split
   ·decide
   ·exact pgsF_len r
theorem candF_len (t:List UInt8) (l:List Opd):(candF t l).length≤1792:=by
 have h1:=flat_namF_len t (pagesF (pgsF l))
 have h2:=pgsF_len l
 unfold candF
 omega
theorem cand_seq (bc:Nat) (t:ByteArray) (l:List Opd) (u:Value) (q:Blocks) (w:World) (hB:Blk w bc 27 #[.string t,u]) (hs:SlR opdR w q u l) (hT:Spc w):
  MemSeqX Fence.wide 8 Tryz.prog 136 #[.pointer (some ⟨bc,0,none⟩)] encE (Tk fun k=>w.heap.size≤k) (fun pre x W=>SlR opdR W (fun k=>w.heap.size≤k) x.2 x.1.args∧(pre.map (·.1)++[x.1]) <+: candF t.data.toList l) (fun xs=>xs.map (·.1)=candF t.data.toList l) (fun pre=>pre.map (·.1) <+: candF t.data.toList l) w:=by
 intro b J Jx W hW hJ hJx hY h0
 have hPG:=fun W2 (hb:Below W.heap.size W W2)=>pages_any t l q u W2 ((hs.below hW).below hb)
 have hNM:=fun p v W2 (hb:Below W.heap.size W W2) h=>Named_tab_any t p v (pgsF l) W2 h (Nat.le_trans (pgsF_len l) (by decide)) ((hT.below hW).below hb)
 have hCL:=candF_len t.data.toList l
 unfold candF at *
 generalize (pagesF (pgsF l)).flatMap (namF t.data.toList)=L at *
 have HB:=Lib.hid (hB.below hW hB.lt)
 have HPG:=Lib.hid hPG
 have HNM:=Lib.hid hNM
 have HJ:=Lib.hid hJ
 have HJx:=Lib.hid hJx
 have HY:=Lib.hid hY
 have H0:=Lib.hid h0
 have HWS:=Lib.hid hW.size
 obtain ⟨ua,uc,rfl⟩:∃a c,u=.slice a l.length c:=by obtain ⟨a,c,e,_⟩:=hs;exact ⟨a,c,e⟩
 clear hB hW hJ hJx hY h0 hs hT hPG hNM
 refine callsIn_of_wp Tryz.func136 rfl trivial ?_ rfl
 simp only [Tryz.ntmps136,List.size_toArray,List.length_cons,List.length_nil,Nat.reduceAdd,Nat.reduceSub,Array.replicate_succ,Array.replicate_zero,List.push_toArray,List.append_toArray,List.nil_append,List.cons_append]
 gi_wp2
 refine wpIn_wide.2 ?_
 have d0:=HB.out.cell 0
 have d1:=HB.out.cell 1
 have hbl:=HB.out.lt
 have HDB:Hid (Below W.heap.size W W.drew):=Lib.hid (Below.refl _ _).drew
 go_region_held3 (fun w'=>w'.cell? ⟨bc,0,none⟩=some (.string t)∧w'.cell? ⟨bc,1,none⟩=some (.slice ua l.length uc)) (go_keep)
  (first
   | (go_at_call 138;refine (HPG.out _ HDB.out).mono ?_;rintro e w1 ⟨v1,rfl,hs1,hb1⟩;obtain ⟨pa,pc,rfl⟩:∃a c,v1=.slice a (pgsF l).length c:=(by obtain ⟨a,c,e,_⟩:=hs1;exact ⟨a,c,e⟩);have HB1:=Lib.hid (HDB.out.trans hb1);have HS1:=Lib.hid hs1;have d0:=(hb1.cell (p:=⟨bc,0,none⟩) hbl).trans d0;have d1:=(hb1.cell (p:=⟨bc,1,none⟩) hbl).trans d1;clear hb1 hs1)
   | (go_at_call 137;refine (HNM.out _ _ _ HB1.out HS1.out).mono ?_;rintro e w2 ⟨v2,rfl,ha2,hb2⟩;obtain ⟨na,nc,rfl⟩:=ha2.form;have HA2:=Lib.hid ha2;have HB2:=Lib.hid (HB1.out.trans (hb2.mono HB1.out.size));have hb1l:=Nat.lt_of_lt_of_le hbl HB1.out.size;have d0:=(hb2.cell (p:=⟨bc,0,none⟩) hb1l).trans d0;have d1:=(hb2.cell (p:=⟨bc,1,none⟩) hb1l).trans d1;clear hb2 ha2))
 have HSL:=Lib.hid (HA2.out.slR.mono (q:=fun k=>w.heap.size≤k) (fun k hk=>by have h1:=hk.1;have:=HWS.out;have:=HB1.out.size;omega))
 have HJ2:=Lib.hid (HJ.out _ _ _ H0.out HB2.out)
 clear HA2 HB1 HB2 HS1 d0 d1 hbl HDB hb1l HPG HNM H0 HB
 gi_wp2
 gi_loopw [11] (fun i wr=>∃(pre:List (EntV × Value)),pre.map (·.1)=L.take pre.length∧pre.length≤L.length∧i=.int .i64 (pre.length:Nat)∧SlR entR wr (fun k=>w.heap.size≤k) (.slice na L.length nc) L∧J pre wr) (fun i _=>L.length - (intOf i).toNat)
 case atStart=>exact ⟨[],rfl,Nat.zero_le _,rfl,HSL.out,HJ2.out⟩
 case round=>
  obtain ⟨pre,hpre,hk,rfl,hsl,hj⟩:=hrel
  clear HSL HJ2
  have HPR:=Lib.hid hpre
  have HS:=Lib.hid hsl
  have HJW:=Lib.hid hj
  have hl9:(L.length:Int)≤1792:=by omega
  clear hpre hsl hj
  by_cases hlt:pre.length < L.length
  ·obtain ⟨a9,c9,e9,_,g9⟩:=HS.out.ent6
   injection e9 with e9 e10 e11
   clear e10
   subst e9 e11
   obtain ⟨bb,oo,va,vc,rfl,hbb,x0,x1,x2,x3,x4,x5,hxs⟩:=g9 pre.length L[pre.length] (List.getElem?_eq_getElem hlt)
   have hpx:pre.map (·.1)++[L[pre.length]]=L.take (pre.length+1):=by rw [HPR.out,List.take_succ_eq_append_getElem hlt]
   have HPX:=Lib.hid hpx
   have HXS:=Lib.hid hxs
   clear g9 hpx hxs
   generalize L[pre.length]=x at *
   obtain ⟨p1,o1,i1,l1,s1,f1⟩:=x
   dsimp only at *
   have HBN:Hid (Below wr.heap.size wr (wr.alloc (.cells #[.int .i64 p1,.int .u8 o1,.string ⟨i1.toArray⟩,.slice va l1.length vc,.string ⟨s1.toArray⟩,.bool f1] 50))):=Lib.hid ((Below.refl _ _).alloc (Nat.le_refl _) _)
   have HYY:=Lib.hid (HY.out pre (⟨p1,o1,i1,l1,s1,f1⟩,.slice va l1.length vc) _ (HJ.out _ _ _ HJW.out HBN.out) ⟨HXS.out.below HBN.out,by rw [HPX.out];exact List.take_prefix _ _⟩)
   have HS2:=Lib.hid (HS.out.below HBN.out)
   have HNE:=Lib.hid (Blk.new wr 50 #[.int .i64 p1,.int .u8 o1,.string ⟨i1.toArray⟩,.slice va l1.length vc,.string ⟨s1.toArray⟩,.bool f1])
   obtain ⟨fn,tmps,assign,body,hy,hR⟩:=HYY.out
   dsimp only [encE,entVal] at hy
   have HR:=Lib.hid hR
   clear hR HYY
   gi_wp2
   refine HR.out.mono ?_
   rintro e W' (⟨rfl,hj3,hT⟩ | ⟨rfl,hjx⟩)
   ·have HJ3:=Lib.hid hj3
    have HS3:=Lib.hid (HS2.out.tkE hT (fun _ h=>h))
    clear hj3 hT hy x0 x1 x2 x3 x4 x5
    gi_wp2
    go_roundw
    case rel=>exact ⟨pre++[(⟨p1,o1,i1,l1,s1,f1⟩,.slice va l1.length vc)],by rw [List.map_append,List.length_append];exact HPX.out,by rw [List.length_append];exact hlt,by rw [List.length_append];go_num,HS3.out,HJ3.out⟩
    case measure=>simp [intOf];omega
   ·have HJ3:=Lib.hid hjx
    clear hjx hy x0 x1 x2 x3 x4 x5
    gi_wp2
    refine bodyPost_ret (results_none rfl _ _ _) rfl ?_
    exact ⟨⟨_,rfl⟩,.inr ⟨_,by rw [List.map_append];show pre.map (·.1)++[(⟨p1,o1,i1,l1,s1,f1⟩:EntV)] <+: L;rw [HPX.out];exact List.take_prefix _ _,HJ3.out⟩⟩
  ·have hkl:pre.length=L.length:=by omega
   have HE:Hid (pre.map (·.1)=L):=Lib.hid (by rw [HPR.out,hkl,List.take_length])
   gi_wp2
   go_end0
   exact ⟨⟨_,rfl⟩,.inl ⟨pre,HE.out,HJW.out⟩⟩
end Go.Proofs.YtjmekllgnhkodaaGreatDoor
namespace Go.Proofs.YtjmekllgnhkodaaGreatDoor
set_option maxHeartbeats 8000000
set_option maxRecDepth 100000
open Go.RowKit Go.Shelf Go.Sort
attribute [local go_sem] Oper.semAt_some
theorem Tk.own {P:Blocks} {B:Nat} {W W':World} {row:Option Nat} (hg:W.grownBy W' row) (hr:∀r,row=some r→B≤r∧∃o:Obj,W.heap[r]?=some o∧o.isCells=false):Tk P W W':=fun k o _ hk hc=>
 (hg.block k (Array.getElem?_eq_some_iff.1 hk).1 (fun e=>by
  obtain ⟨_,o2,ho,hc2⟩:=hr k e.symm
  rw [hk] at ho
  injection ho with ho
  subst ho
  rw [hc] at hc2
  cases hc2)).trans hk
def nearE (t:ByteArray) (c:List Opd) (e:EntV):Bool:=!e.al&&shF ⟨e.iop.toArray⟩ t e.args c
def hitE (t:ByteArray) (c:List Opd) (e:EntV):Bool:=nearE t c e&&(fitsS ⟨e.iop.toArray⟩ t e.ex e.args c).2.2
def codeE (t:ByteArray) (c:List Opd) (L:List EntV):Int:=if L.any (nearE t c)=true then 2 else 11
def findR (x:Ins):Option EntV × Int:=
 if check07 x=0 then (match (candF x.op.data.toList (canonOf x).args).find? (hitE x.op (canonOf x).args) with
  | some e=>(some e,0)
  | none=>(none,codeE x.op (canonOf x).args (candF x.op.data.toList (canonOf x).args))) else (none,check07 x)
def FindQ (w:World) (r:Option EntV × Int) (e:Ending) (w':World):Prop:=
 (match r.1 with | some x=>∃v q,e=.returned (.tuple #[entVal x v,.int .i64 r.2])∧SlR opdR w' q v x.args | none=>e=.returned (.tuple #[ent0,.int .i64 r.2]))∧Below w.heap.size w w'
theorem results_row_cell {P:Program} {fn:Func} {p q:Tmp} {ty tz:TypeId} (h:fn.results=#[.cell p ty,.cell q tz]) (tmps:Array Value) (w:World) (g b:Nat) (t:TypeId) (cs:Array Value) (fr:Nat × Nat) (d:TypeDesc) (v:Value)
  (hp:tmps.getD p undef=.pointer (some ⟨g,0,none⟩)) (hg:w.heap[g]?=some (.cells cs t fr))
  (hu:P.underlying ty=some d) (hd:(match d with | .struct _ | .array _ _=>true | _=>false)=true) (hi:(P.info? ty).map (·.size)=some cs.size)
  (hq:tmps.getD q undef=.pointer (some ⟨b,0,none⟩)) (hl:(loadVar tz ⟨b,0,none⟩).run P w=.ok v w):
  (results fn tmps).run P w=.ok (.tuple #[.agg cs,v]) w:=by
 have hp':tmps[p]?.getD undef=.pointer (some ⟨g,0,none⟩):=by simpa using hp
 have hq':tmps[q]?.getD undef=.pointer (some ⟨b,0,none⟩):=by simpa using hq
 simp [results,h,hp',hq',asAddr,run_loadVar_row w g t ty cs fr d hg hu hd hi,hl]
theorem load_code {w:World} {b:Nat} {k:Int} (h:w.cell? ⟨b,0,none⟩=some (.int .i64 k)):(loadVar 44 ⟨b,0,none⟩).run Tryz.prog w=.ok (.int .i64 k) w:=by
 simp [go_sem,h]
theorem find_stop {α:Type} {f:α→Bool} {L pre:List α} {x:α} (h:pre++[x] <+: L) (hn:∀e∈pre,f e=false) (hx:f x=true):L.find? f=some x:=by
 obtain ⟨r,rfl⟩:=h
 rw [List.append_assoc,List.find?_append]
 have:pre.find? f=none:=List.find?_eq_none.2 (fun e he=>by rw [hn e he];decide)
 rw [this]
 simp [hx]
theorem cand_mem {t:List UInt8} {l:List Opd} {x:EntV} (h:x∈candF t l):∃p k,k < 256∧(atF p k).1=some x:=by
 unfold candF at h
 obtain ⟨p,_,hx⟩:=List.mem_flatMap.1 h
 rw [namF_eq] at hx
 have h2:=(List.mem_filter.1 hx).1
 unfold entsF entsK at h2
 obtain ⟨k,hk,he⟩:=List.mem_filterMap.1 h2
 exact ⟨p,k,List.mem_range.1 hk,he⟩
theorem opsL_size:∀s∈opsL,s.size≤10:=by
 have h:opsL.all (fun s=>decide (s.size≤10))=true:=by decide+kernel
 intro s hs
 exact of_decide_eq_true (List.all_eq_true.1 h s hs)
theorem EntOk.size {x:EntV} (h:EntOk x):(⟨x.iop.toArray⟩:ByteArray).size≤10∧x.args.length≤3:=by
 have hl:=h.l
 unfold chkL at hl
 obtain ⟨h1,hl⟩:=Bool.and_eq_true_iff.1 hl
 exact ⟨opsL_size _ (inL_iff.1 h1),of_decide_eq_true (Bool.and_eq_true_iff.1 hl).1⟩
def entCs (x:EntV) (v:Value):Array Value:=#[.int .i64 x.pg,.int .u8 x.op,.string ⟨x.iop.toArray⟩,v,.string ⟨x.ex.toArray⟩,.bool x.al]
structure FindI (w wS:World) (b6:Nat) (t:ByteArray) (cn:List Opd) (pre:List EntV) (W:World):Prop where
 tk:Tk (fun k=>k≠b6) wS W
 code:Blk W b6 44 #[.int .i64 (codeE t cn pre)]
 no:∀e∈pre,hitE t cn e=false
 below:Below w.heap.size w W
 size:wS.heap.size≤W.heap.size
theorem FindI.own {w wS W W':World} {b6:Nat} {t:ByteArray} {cn:List Opd} {pre:List EntV} {row:Option Nat} (hB:w.heap.size≤wS.heap.size) (h:FindI w wS b6 t cn pre W) (hg:W.grownBy W' row) (hr:∀r,row=some r→wS.heap.size≤r∧∃o:Obj,W.heap[r]?=some o∧o.isCells=false):FindI w wS b6 t cn pre W':=
 ⟨h.tk.trans (Tk.own hg hr),blk_own h.code hg hr,h.no,h.below.grown hg h.below.size (fun k hk=>Nat.le_trans hB (hr k hk).1),Nat.le_trans h.size hg.size⟩
theorem FindI.stay {w wS W W':World} {b6:Nat} {t:ByteArray} {cn:List Opd} {pre:List EntV} (h:FindI w wS b6 t cn pre W) (hb:Below W.heap.size W W'):FindI w wS b6 t cn pre W':=
 ⟨h.tk.trans (Tk.below hb),h.code.below hb h.code.lt,h.no,h.below.trans (hb.mono h.below.size),Nat.le_trans h.size hb.size⟩
theorem codeE_snoc (t:ByteArray) (c:List Opd) (L:List EntV) (x:EntV):codeE t c (L++[x])=if nearE t c x=true then 2 else codeE t c L:=by
 unfold codeE
 rw [List.any_append]
 cases h:nearE t c x<;>simp [h]
theorem no_snoc {f:EntV→Bool} {L:List EntV} {x:EntV} (h:∀e∈L,f e=false) (hx:f x=false):∀e∈L++[x],f e=false:=by
 intro e he
 rcases List.mem_append.1 he with he | he
 ·exact h e he
 ·rw [List.mem_singleton.1 he];exact hx
theorem FindI.snoc_no {w wS W:World} {b6:Nat} {t:ByteArray} {cn:List Opd} {pre:List EntV} {x:EntV} (h:FindI w wS b6 t cn pre W) (hn:nearE t cn x=false) (hh:hitE t cn x=false):FindI w wS b6 t cn (pre++[x]) W:=
 ⟨h.tk,by rw [codeE_snoc,if_neg (by rw [hn];decide)];exact h.code,no_snoc h.no hh,h.below,h.size⟩
theorem FindI.snoc_near {w wS W W2:World} {b6:Nat} {t:ByteArray} {cn:List Opd} {pre:List EntV} {x:EntV} (h:FindI w wS b6 t cn pre W) (hn:nearE t cn x=true) (hh:hitE t cn x=false) (hb:Below W.heap.size W W2) (hw:w.heap.size≤b6):FindI w wS b6 t cn (pre++[x]) (W2.setCell ⟨b6,0,none⟩ (.int .i64 2)):=
 ⟨(h.tk.trans (Tk.below hb)).trans (Tk.setCell (fun e=>e rfl) 0 _),by rw [codeE_snoc,if_pos hn];exact (h.code.below hb h.code.lt).set 0 _,no_snoc h.no hh,(h.below.trans (hb.mono h.below.size)).setCell hw _,by rw [World.size_setCell];exact Nat.le_trans h.size hb.size⟩
def FindX (w:World) (b2 b3:Nat) (t:ByteArray) (cn:List Opd) (pre:List EntV) (W:World):Prop:=
 ∃pre0 x v q,pre=pre0++[x]∧(∀e∈pre0,hitE t cn e=false)∧hitE t cn x=true∧Blk W b2 50 (entCs x v)∧Blk W b3 44 #[.int .i64 0]∧SlR opdR W q v x.args∧Below w.heap.size w W
theorem FindX.own {w wS W W':World} {b2 b3:Nat} {t:ByteArray} {cn:List Opd} {pre:List EntV} {row:Option Nat} (hB:w.heap.size≤wS.heap.size) (h:FindX w b2 b3 t cn pre W) (hg:W.grownBy W' row) (hr:∀r,row=some r→wS.heap.size≤r∧∃o:Obj,W.heap[r]?=some o∧o.isCells=false):FindX w b2 b3 t cn pre W':=by
 obtain ⟨pre0,x,v,q,h1,h2,h3,h4,h5,h6,h7⟩:=h
 exact ⟨pre0,x,v,q,h1,h2,h3,blk_own h4 hg hr,blk_own h5 hg hr,h6.tk (Tk.own (P:=fun _=>True) hg hr) (fun _ _=>trivial),h7.grown hg h7.size (fun k hk=>Nat.le_trans hB (hr k hk).1)⟩
theorem Find_any (p:Blocks) (x:Ins) (v:Value) (w:World) (h:SlR opdR w p v x.args) (hT:Spc w) (hs:x.op.size≤1000000) (hn:x.args.length≤1000000) (hc:(canonOf x).args.length≤1000000) (hf:∀y∈x.args,fits64 y.n):
  Calls Tryz.prog 57 #[.agg #[.string x.op,v]] w (FindQ w (findR x)):=by
 have HCH:=Lib.hid (fun W hb=>check_any p x v W (h.below hb) (hT.below hb) (Nat.le_trans hs (by decide)))
 have HOf:=Lib.hid (fun W (hb:RowKit.Below w.heap.size w W)=>Of_any p x v W (h.below hb) (hT.below hb) hn hf)
 have HT:=Lib.hid hT
 have HNO:=Lib.hid (show ¬check07 x=0→findR x=(none,check07 x) from fun h=>if_neg h)
 have HYE:=Lib.hid (show check07 x=0→findR x=(match (candF x.op.data.toList (canonOf x).args).find? (hitE x.op (canonOf x).args) with | some e=>(some e,0) | none=>(none,codeE x.op (canonOf x).args (candF x.op.data.toList (canonOf x).args))) from fun h=>if_pos h)
 obtain ⟨va,vc,rfl⟩:∃a c,v=.slice a x.args.length c:=by obtain ⟨a,c,e,_⟩:=h;exact ⟨a,c,e⟩
 have HOK:=Lib.hid (fun e (he:e∈candF x.op.data.toList (canonOf x).args)=>by obtain ⟨p,k,hk,hx⟩:=cand_mem he;exact (ent_at hk hx).size)
 have HCN:=Lib.hid hc
 have HSZ:=Lib.hid hs
 clear h hT hs hn hf
 obtain ⟨t,m⟩:=x
 dsimp only at *
 generalize (canonOf ⟨t,m⟩).args=cn at *
 generalize check07 ⟨t,m⟩=ck at *
 generalize findR ⟨t,m⟩=R at *
 have HF:=Lib.hid ((((Fr.start w).new 27 #[.string t,.slice va m.length vc]).new' 50 #[.int .i64 0,.int .u8 0,.string ⟨#[]⟩,.slice none 0 0,.string ⟨#[]⟩,.bool false] (World.size_alloc _ _)).new' 44 #[.int .i64 0] (show _=w.heap.size+1+1 from by rw [World.size_alloc,World.size_alloc]))
 obtain ⟨W0,hW0⟩:∃W0:World,W0=(((w.alloc (.cells #[.string t,.slice va m.length vc] 27)).alloc (.cells #[.int .i64 0,.int .u8 0,.string ⟨#[]⟩,.slice none 0 0,.string ⟨#[]⟩,.bool false] 50)).alloc (.cells #[.int .i64 0] 44)):=⟨_,rfl⟩
 rw [←hW0] at HF
 have hmf:∀(fn:Fn) (first cap:Array Value) (w:World),(Instr.makeFunc fn first cap).run Tryz.prog w=.ok (.func fn first cap) w:=fun _ _ _ _=>rfl
 refine (callsIn_wide (n:=9)).1 ?_
 refine callsIn_of_wp_marks Tryz.func57 rfl trivial ?_ rfl
 simp only [Tryz.ntmps57,List.size_toArray,List.length_cons,List.length_nil,Nat.reduceAdd,Nat.reduceSub,Array.replicate_succ,Array.replicate_zero,List.push_toArray,List.append_toArray,List.nil_append,List.cons_append]
 refine wpIn_wide.2 ?_
 go_upto_region 1 with fail
 rw [←hW0]
 clear hW0
 have a0:=(HF.out.blk 2 rfl).cell 0
 have a1:=(HF.out.blk 2 rfl).cell 1
 have HC1:=Lib.hid (HCH.out _ HF.out.below)
 by_cases hck:ck=0
 rotate_left
 ·have HR:=Lib.hid (HNO.out hck)
  have bck:(ck==0)=false:=by rw [beq_eq_false_iff_ne];exact hck
  have bck2:(ck != 0)=true:=by rw [bne_iff_ne];exact hck
  clear HNO HYE hck
  go_wp2_with (go_at_call 91;refine HC1.out.mono ?_;rintro e w1 ⟨rfl,hb1⟩;have HF1:=Lib.hid (HF.out.next hb1);have r0:=(HF1.out.blk 1 rfl).cell 0;have r1:=(HF1.out.blk 1 rfl).cell 1;have r2:=(HF1.out.blk 1 rfl).cell 2;have r3:=(HF1.out.blk 1 rfl).cell 3;have r4:=(HF1.out.blk 1 rfl).cell 4;have r5:=(HF1.out.blk 1 rfl).cell 5;have s0:=(HF1.out.blk 1 rfl).free 0;have s1:=(HF1.out.blk 1 rfl).free 1;have s2:=(HF1.out.blk 1 rfl).free 2;have s3:=(HF1.out.blk 1 rfl).free 3;have s4:=(HF1.out.blk 1 rfl).free 4;have s5:=(HF1.out.blk 1 rfl).free 5;have k0:=(HF1.out.blk 0 rfl).cell 0;have k1:=(HF1.out.blk 0 rfl).free 0;clear hb1 a0 a1)
  have HE1:=((((((HF1.out.blk 1 rfl).set 0 (.int .i64 0)).set 1 (.int .u8 0)).set 2 (.string ⟨#[]⟩)).set 3 (.slice none 0 0)).set 4 (.string ⟨#[]⟩)).set 5 (.bool false)
  have HE2:=HE1.far (p:=⟨w.heap.size+1+1,0,none⟩) (by dsimp only;omega) (.int .i64 ck)
  have HE3:=((((((((HF1.out.blk 0 rfl).far (p:=⟨w.heap.size+1,0,none⟩) (by dsimp only;omega) (.int .i64 0)).far (p:=⟨w.heap.size+1,1,none⟩) (by dsimp only;omega) (.int .u8 0)).far (p:=⟨w.heap.size+1,2,none⟩) (by dsimp only;omega) (.string ⟨#[]⟩)).far (p:=⟨w.heap.size+1,3,none⟩) (by dsimp only;omega) (.slice none 0 0)).far (p:=⟨w.heap.size+1,4,none⟩) (by dsimp only;omega) (.string ⟨#[]⟩)).far (p:=⟨w.heap.size+1,5,none⟩) (by dsimp only;omega) (.bool false))).set 0 (.int .i64 ck)
  refine ⟨_,results_row_cell rfl _ _ _ _ _ _ _ _ _ rfl HE2 Tryz.underlying50 rfl (by kernel_rfl) rfl (load_code (HE3.cell 0)),?_⟩
  rw [HR.out]
  refine ⟨rfl,?_⟩
  exact ((((((HF1.out.below.setCell (p:=⟨w.heap.size+1,0,none⟩) (Nat.le_succ _) _).setCell (p:=⟨w.heap.size+1,1,none⟩) (Nat.le_succ _) _).setCell (p:=⟨w.heap.size+1,2,none⟩) (Nat.le_succ _) _).setCell (p:=⟨w.heap.size+1,3,none⟩) (Nat.le_succ _) _).setCell (p:=⟨w.heap.size+1,4,none⟩) (Nat.le_succ _) _).setCell (p:=⟨w.heap.size+1,5,none⟩) (Nat.le_succ _) _).setCell (p:=⟨w.heap.size+1+1,0,none⟩) (by dsimp only;omega) _
 subst hck
 have HR:=Lib.hid (HYE.out rfl)
 clear HNO HYE HCH
 go_upto_region 4 with (go_at_call 91;refine HC1.out.mono ?_;rintro e w1 ⟨rfl,hb1⟩;have HF1:=Lib.hid (HF.out.next hb1);have a0:=(HF1.out.blk 2 rfl).cell 0;have a1:=(HF1.out.blk 2 rfl).cell 1;clear hb1)
 have HO1:=Lib.hid (HOf.out _ HF1.out.below)
 clear HOf HC1 HF
 go_upto_region 6 with (go_at_call 62;refine HO1.out.mono ?_;rintro e w2 ⟨u1,rfl,ho1,hb2⟩;obtain ⟨ca,cc,rfl⟩:=ho1.form;have HF2:=Lib.hid (HF1.out.next hb2);have HO2:=Lib.hid ho1.slR.old;clear ho1 hb2 a0 a1)
 have HF4:=Lib.hid ((HF2.out.new 27 #[.string t,.slice ca cn.length cc]).new' 44 #[.int .i64 11] (World.size_alloc _ _))
 have HO4:=Lib.hid ((HO2.out.alloc (.cells #[.string t,.slice ca cn.length cc] 27)).alloc (.cells #[.int .i64 11] 44))
 have HG5:=Lib.hid (HF2.out.blk 0 rfl).lt
 obtain ⟨b6,hb6⟩:∃b,w2.heap.size+1=b:=⟨_,rfl⟩
 have H56:Hid (w2.heap.size < b6):=Lib.hid (by omega)
 rw [hb6] at HF4 ⊢
 obtain ⟨b5,hb5⟩:∃b,w2.heap.size=b:=⟨_,rfl⟩
 rw [hb5] at HF4 HG5 H56 HO4 ⊢
 obtain ⟨W4,hW4⟩:∃W:World,W=((w2.alloc (.cells #[.string t,.slice ca cn.length cc] 27)).alloc (.cells #[.int .i64 11] 44)):=⟨_,rfl⟩
 rw [←hW4] at HF4 HO4 ⊢
 clear hW4 hb5 hb6 HF2 HF1 HO2 HO1
 have c0:=(HF4.out.blk 1 rfl).cell 0
 have c1:=(HF4.out.blk 1 rfl).cell 1
 have HG6:=Lib.hid (HF4.out.blk 0 rfl).lt
 go_wp2_with (go_at_call 92;refine (candidates_any _ _ _).mono ?_;rintro e w5 ⟨rfl,rfl⟩)
 have HF5:=Lib.hid (HF4.out.new 27 #[.string t,.slice ca cn.length cc])
 have HO5:=Lib.hid (HO4.out.alloc (.cells #[.string t,.slice ca cn.length cc] 27))
 obtain ⟨bc,hbc⟩:∃b,W4.heap.size=b:=⟨_,rfl⟩
 rw [hbc] at HF5 HG6 ⊢
 obtain ⟨wS,hwS⟩:∃W:World,W=W4.alloc (.cells #[.string t,.slice ca cn.length cc] 27):=⟨_,rfl⟩
 rw [←hwS] at HF5 HO5 ⊢
 clear hwS hbc HF4 HO4 c0 c1
 have HGC:=Lib.hid (HF5.out.blk 0 rfl).lt
 have HSEQ:=Lib.hid (cand_seq bc t cn (.slice ca cn.length cc) _ wS (HF5.out.blk 0 rfl) HO5.out (HT.out.below HF5.out.below))
 have HSH:=Lib.hid (fun (x:EntV) (p q:Blocks) (v u:Value) (W:World) (h:x∈candF t.data.toList cn) hp hq=>shapedS_any x.pg x.op ⟨x.iop.toArray⟩ ⟨x.ex.toArray⟩ t x.al x.args cn p q v u W hp hq (by have:=(HOK.out x h).2;omega) HCN.out (by have:=(HOK.out x h).1;omega) (by have:=HSZ.out;omega))
 have HFT:=Lib.hid (fun (x:EntV) (p q:Blocks) (v u:Value) (W:World) (h:x∈candF t.data.toList cn) hp hq=>fits_walk x.pg x.op ⟨x.iop.toArray⟩ ⟨x.ex.toArray⟩ t x.al x.args cn p q v u W hp hq (by have:=(HOK.out x h).2;omega) HCN.out (by have:=(HOK.out x h).1;omega) (by have:=HSZ.out;omega))
 have HI0:Hid (FindI w wS b6 t cn [] wS):=Lib.hid ⟨Tk.refl,HF5.out.blk 1 rfl,fun _ h=>(by cases h),HF5.out.below,Nat.le_refl _⟩
 have HWS:=Lib.hid HF5.out.below.size
 generalize candF t.data.toList cn=L at *
 refine (wpIn_wide (n:=9)).1 ?_
 refine wpIn_range_memx rfl (by omega) (gf:=136) (lb:=#[.pointer (some ⟨bc,0,none⟩)]) rfl trivial (enters_of Tryz.func136 (by kernel_rfl) rfl)
  (encs:=encE) (fun _=>rfl) HSEQ.out (fun h k=>h.trans k) (fun W l o o' h1 h2=>Tk.put W l o o' h1 h2)
  (fun pre W=>FindI w wS b6 t cn (pre.map (·.1)) W)
  (fun c pre W=>c=.ret∧FindX w (w.heap.size+1) (w.heap.size+1+1) t cn (pre.map (·.1)) W)
  (fun pre W W' row hi hg hr=>hi.own HWS.out hg hr)
  (fun c pre W W' row hi hg hr=>by dsimp only at hi ⊢;exact ⟨hi.1,hi.2.own HWS.out hg hr⟩)
  HI0.out
  (fun pre x a' W=>∃(g:Nat) (u0 u4 u8 u9 u10 u11 u12 u13 u14 u15 u16 u17 u18 u19 u20 u21 u22 u23 u24 u25 u26 u27 u28 u29 u30 u31 u32 u33 u34 u35 u36 u37 u38 u39 u40:Value),wS.heap.size≤g∧Blk W g 50 (entCs x.1 x.2)∧SlR opdR W (fun k=>wS.heap.size≤k) x.2 x.1.args∧(pre.map (·.1)++[x.1]) <+: L∧a'={tmps:=#[u0,.pointer (some ⟨w.heap.size,0,none⟩),.pointer (some ⟨w.heap.size+1,0,none⟩),.pointer (some ⟨w.heap.size+1+1,0,none⟩),u4,.pointer (some ⟨b5,0,none⟩),.pointer (some ⟨b6,0,none⟩),.pointer (some ⟨g,0,none⟩),u8,u9,u10,u11,u12,u13,u14,u15,u16,u17,u18,u19,u20,u21,u22,u23,u24,u25,u26,u27,u28,u29,u30,u31,u32,u33,u34,u35,u36,u37,u38,u39,u40],defers:=[]})
  ?ax ?assign ?body ?done ?stop
 case ax=>
  rintro pre x a' W l o o' ⟨g,u0,u4,u8,u9,u10,u11,u12,u13,u14,u15,u16,u17,u18,u19,u20,u21,u22,u23,u24,u25,u26,u27,u28,u29,u30,u31,u32,u33,u34,u35,u36,u37,u38,u39,u40,hg,hb,hs,hpre,rfl⟩ hl ho hc
  exact ⟨g,u0,u4,u8,u9,u10,u11,u12,u13,u14,u15,u16,u17,u18,u19,u20,u21,u22,u23,u24,u25,u26,u27,u28,u29,u30,u31,u32,u33,u34,u35,u36,u37,u38,u39,u40,hg,blk_own (B:=0) hb (put_grown o') (fun r e=>by injection e with e;subst e;exact ⟨Nat.zero_le _,o,ho,hc⟩),hs.tk (Tk.put (p:=fun _=>True) W l o o' ho hc) (fun _ _=>trivial),hpre,rfl⟩
 case assign=>
  rintro l pre ⟨⟨p1,o1,i1,l1,s1,f1⟩,v1⟩ W K hi ⟨hs,hpre⟩ hK
  obtain ⟨xa,xc,rfl⟩:∃a c,v1=.slice a l1.length c:=by obtain ⟨a,c,e,_⟩:=hs;exact ⟨a,c,e⟩
  have HK:=Lib.hid hK
  have HI:=Lib.hid hi
  have HS:=Lib.hid hs
  have HP:=Lib.hid hpre
  have HBN:Hid (Below W.heap.size W (W.alloc (.cells #[.int .i64 p1,.int .u8 o1,.string ⟨i1.toArray⟩,.slice xa l1.length xc,.string ⟨s1.toArray⟩,.bool f1] 50))):=Lib.hid ((Below.refl _ _).alloc (Nat.le_refl _) _)
  clear hK hi hs hpre
  dsimp only [encE,entVal]
  gi_wp2
  exact HK.out _ _ (Recs.below HBN.out) (Tk.below HBN.out) (HI.out.stay HBN.out) ⟨W.heap.size,_,_,_,_,_,_,_,_,_,_,_,_,_,_,_,_,_,_,_,_,_,_,_,_,_,_,_,_,_,_,_,_,_,_,_,HI.out.size,Blk.new W _ _,HS.out.below HBN.out,HP.out,rfl⟩
 case body=>
  rintro l pre ⟨⟨p1,o1,i1,l1,s1,f1⟩,v1⟩ a' W hl hi ⟨g,u0,u4,u8,u9,u10,u11,u12,u13,u14,u15,u16,u17,u18,u19,u20,u21,u22,u23,u24,u25,u26,u27,u28,u29,u30,u31,u32,u33,u34,u35,u36,u37,u38,u39,u40,hg,hb,hs,hpre,rfl⟩
  dsimp only [entCs] at hb hs hpre
  obtain ⟨xa,xc,rfl⟩:∃a c,v1=.slice a l1.length c:=by obtain ⟨a,c,e,_⟩:=hs;exact ⟨a,c,e⟩
  have hmem:(⟨p1,o1,i1,l1,s1,f1⟩:EntV)∈L:=hpre.subset (by simp)
  have HI:=Lib.hid hi
  have HS:=Lib.hid hs
  have HB:=Lib.hid hb
  have HC:=Lib.hid (HI.out.tk.blk (HF5.out.blk 2 rfl) (by have:=H56.out;omega))
  have HCS:=Lib.hid (HO5.out.tk HI.out.tk (fun k hk=>by have:=hk.2;have:=H56.out;omega))
  have HSHX:=Lib.hid (HSH.out _ _ _ _ _ W hmem HS.out HCS.out)
  have HFTX:=Lib.hid (fun W2 (hb:Below W.heap.size W W2)=>HFT.out _ _ _ _ _ W2 hmem (HS.out.below hb) (HCS.out.below hb))
  have HME:=Lib.hid (show (pre++[((⟨p1,o1,i1,l1,s1,f1⟩:EntV),Value.slice xa l1.length xc)]).map (·.1)=pre.map (·.1)++[(⟨p1,o1,i1,l1,s1,f1⟩:EntV)] from by rw [List.map_append];rfl)
  have HNE:Hid (nearE t cn ⟨p1,o1,i1,l1,s1,f1⟩=(!f1&&shF ⟨i1.toArray⟩ t l1 cn)):=Lib.hid rfl
  have HHI:Hid (hitE t cn ⟨p1,o1,i1,l1,s1,f1⟩=(nearE t cn ⟨p1,o1,i1,l1,s1,f1⟩&&(fitsS ⟨i1.toArray⟩ t s1 l1 cn).2.2)):=Lib.hid rfl
  have y4:=HB.out.cell 4
  have y5:=HB.out.cell 5
  clear hi hs hb hmem hpre HSEQ
  cases f1
  rotate_left
  ·have hn:nearE t cn ⟨p1,o1,i1,l1,s1,true⟩=false:=HNE.out
   have hh:hitE t cn ⟨p1,o1,i1,l1,s1,true⟩=false:=by rw [HHI.out,hn];rfl
   have HEND:=Lib.hid (HI.out.snoc_no hn hh)
   clear hn hh
   gi_wp2_with (refine ⟨trivial,?_⟩)
   exact ⟨Recs.refl _ _,Tk.refl,by show FindI w wS b6 t cn (List.map (fun z:EntV × Value=>z.1) _) _;rw [HME.out];exact HEND.out⟩
  have y0:=HB.out.cell 0
  have y1:=HB.out.cell 1
  have y2:=HB.out.cell 2
  have y3:=HB.out.cell 3
  have c0:=HC.out.cell 0
  have c1:=HC.out.cell 1
  generalize hsf:shF ⟨i1.toArray⟩ t l1 cn=sf at *
  clear hsf
  dsimp only at HSHX HFTX
  cases sf
  ·have hn:nearE t cn ⟨p1,o1,i1,l1,s1,false⟩=false:=HNE.out
   have hh:hitE t cn ⟨p1,o1,i1,l1,s1,false⟩=false:=by rw [HHI.out,hn];rfl
   have HEND:=Lib.hid (HI.out.snoc_no hn hh)
   clear hn hh
   gi_wp2_with (refine ⟨trivial,?_⟩;gi_at_call 93;refine (CallsIn.inRound l (callsIn_wide.2 HSHX.out)).mono ?_;rintro e w6 ⟨rfl,hb6⟩;have HB6:=Lib.hid hb6;clear hb6)
   exact ⟨Recs.below HB6.out,Tk.below HB6.out,by show FindI w wS b6 t cn (List.map (fun z:EntV × Value=>z.1) _) _;rw [HME.out];exact HEND.out.stay HB6.out⟩
  have hn:nearE t cn ⟨p1,o1,i1,l1,s1,false⟩=true:=HNE.out
  have HN:=Lib.hid hn
  rw [hn] at HHI
  clear hn
  generalize hfs:fitsS ⟨i1.toArray⟩ t s1 l1 cn=fs at *
  obtain ⟨fd,fn,fk⟩:=fs
  clear hfs
  dsimp only at HFTX HHI
  cases fk
  ·have hh:hitE t cn ⟨p1,o1,i1,l1,s1,false⟩=false:=HHI.out
   have HEND:=Lib.hid (fun W2 hb hc=>HI.out.snoc_near (W2:=W2) HN.out hh hb hc)
   clear hh
   gi_wp2_with (refine ⟨trivial,?_⟩;first
    | (gi_at_call 93;refine (CallsIn.inRound l (callsIn_wide.2 HSHX.out)).mono ?_;rintro e w6 ⟨rfl,hb6⟩;have HB6:=Lib.hid hb6;have HG6b:=Lib.hid (HB.out.below hb6 HB.out.lt);have HC6:=Lib.hid (HC.out.below hb6 HC.out.lt);have y0:=HG6b.out.cell 0;have y1:=HG6b.out.cell 1;have y2:=HG6b.out.cell 2;have y3:=HG6b.out.cell 3;have y4:=HG6b.out.cell 4;have y5:=HG6b.out.cell 5;have c0:=HC6.out.cell 0;have c1:=HC6.out.cell 1;clear hb6)
    | (gi_at_call 94;refine (CallsIn.inRound l (callsIn_wide.2 (HFTX.out _ HB6.out))).mono ?_;rintro e w7 ⟨rfl,hb7⟩;have HB7:=Lib.hid (HB6.out.trans (hb7.mono HB6.out.size));have HK7:=Lib.hid (HI.out.code.below HB7.out HI.out.code.lt);have k0:=HK7.out.cell 0;have k1:=HK7.out.free 0;clear hb7))
   exact ⟨(Recs.below HB7.out).trans (Recs.setCell HK7.out 0 _),(Tk.below HB7.out).trans (Tk.setCell (by have:=HG6.out;have:=HGC.out;omega) 0 _),by show FindI w wS b6 t cn (List.map (fun z:EntV × Value=>z.1) _) _;rw [HME.out];exact HEND.out _ HB7.out (by have:=H56.out;have:=HG5.out;omega)⟩
  ·have HH:Hid (hitE t cn ⟨p1,o1,i1,l1,s1,false⟩=true):=Lib.hid HHI.out
   gi_wp2_with (refine ⟨trivial,?_⟩;first
    | (gi_at_call 93;refine (CallsIn.inRound l (callsIn_wide.2 HSHX.out)).mono ?_;rintro e w6 ⟨rfl,hb6⟩;have HB6:=Lib.hid hb6;have HG6b:=Lib.hid (HB.out.below hb6 HB.out.lt);have HC6:=Lib.hid (HC.out.below hb6 HC.out.lt);have y0:=HG6b.out.cell 0;have y1:=HG6b.out.cell 1;have y2:=HG6b.out.cell 2;have y3:=HG6b.out.cell 3;have y4:=HG6b.out.cell 4;have y5:=HG6b.out.cell 5;have c0:=HC6.out.cell 0;have c1:=HC6.out.cell 1;clear hb6)
    | (gi_at_call 94;refine (CallsIn.inRound l (callsIn_wide.2 (HFTX.out _ HB6.out))).mono ?_;rintro e w7 ⟨rfl,hb7⟩;have HB7:=Lib.hid (HB6.out.trans (hb7.mono HB6.out.size));have HG7:=Lib.hid (HG6b.out.below hb7 HG6b.out.lt);have HE7:=Lib.hid ((HI.out.tk.blk (HF5.out.blk 4 rfl) (by have:=H56.out;have:=HG5.out;omega)).below HB7.out (HI.out.tk.blk (HF5.out.blk 4 rfl) (by have:=H56.out;have:=HG5.out;omega)).lt);have HD7:=Lib.hid ((HI.out.tk.blk (HF5.out.blk 3 rfl) (by have:=H56.out;have:=HG5.out;omega)).below HB7.out (HI.out.tk.blk (HF5.out.blk 3 rfl) (by have:=H56.out;have:=HG5.out;omega)).lt);have y0:=HG7.out.cell 0;have y1:=HG7.out.cell 1;have y2:=HG7.out.cell 2;have y3:=HG7.out.cell 3;have y4:=HG7.out.cell 4;have y5:=HG7.out.cell 5;have e0:=HE7.out.cell 0;have e1:=HE7.out.cell 1;have e2:=HE7.out.cell 2;have e3:=HE7.out.cell 3;have e4:=HE7.out.cell 4;have e5:=HE7.out.cell 5;have k0:=HE7.out.free 0;have k1:=HE7.out.free 1;have k2:=HE7.out.free 2;have k3:=HE7.out.free 3;have k4:=HE7.out.free 4;have k5:=HE7.out.free 5;have d0:=HD7.out.cell 0;have d1:=HD7.out.free 0;clear hb7))
   refine ⟨?_,rfl,pre.map (·.1),⟨p1,o1,i1,l1,s1,false⟩,.slice xa l1.length xc,(fun k=>wS.heap.size≤k),HME.out,HI.out.no,HH.out,?_,?_,?_,?_⟩
   ·exact ((((((((Recs.below HB7.out).trans (Recs.setCell HE7.out 0 (.int .i64 p1))).trans (Recs.setCell (HE7.out.set 0 (.int .i64 p1)) 1 (.int .u8 o1))).trans (Recs.setCell ((HE7.out.set 0 (.int .i64 p1)).set 1 (.int .u8 o1)) 2 (.string ⟨i1.toArray⟩))).trans (Recs.setCell (((HE7.out.set 0 (.int .i64 p1)).set 1 (.int .u8 o1)).set 2 (.string ⟨i1.toArray⟩)) 3 (.slice xa l1.length xc))).trans (Recs.setCell ((((HE7.out.set 0 (.int .i64 p1)).set 1 (.int .u8 o1)).set 2 (.string ⟨i1.toArray⟩)).set 3 (.slice xa l1.length xc)) 4 (.string ⟨s1.toArray⟩))).trans (Recs.setCell (((((HE7.out.set 0 (.int .i64 p1)).set 1 (.int .u8 o1)).set 2 (.string ⟨i1.toArray⟩)).set 3 (.slice xa l1.length xc)).set 4 (.string ⟨s1.toArray⟩)) 5 (.bool false))).trans (Recs.setCell ((((((HD7.out.far (p:=⟨w.heap.size+1,0,none⟩) (by dsimp only;omega) (.int .i64 p1)).far (p:=⟨w.heap.size+1,1,none⟩) (by dsimp only;omega) (.int .u8 o1)).far (p:=⟨w.heap.size+1,2,none⟩) (by dsimp only;omega) (.string ⟨i1.toArray⟩)).far (p:=⟨w.heap.size+1,3,none⟩) (by dsimp only;omega) (.slice xa l1.length xc)).far (p:=⟨w.heap.size+1,4,none⟩) (by dsimp only;omega) (.string ⟨s1.toArray⟩)).far (p:=⟨w.heap.size+1,5,none⟩) (by dsimp only;omega) (.bool false)) 0 (.int .i64 0)))
   ·exact (((((((HE7.out.set 0 (.int .i64 p1)).set 1 (.int .u8 o1)).set 2 (.string ⟨i1.toArray⟩)).set 3 (.slice xa l1.length xc)).set 4 (.string ⟨s1.toArray⟩)).set 5 (.bool false)).far (p:=⟨w.heap.size+1+1,0,none⟩) (by dsimp only;omega) (.int .i64 0))
   ·exact (((((((HD7.out.far (p:=⟨w.heap.size+1,0,none⟩) (by dsimp only;omega) (.int .i64 p1)).far (p:=⟨w.heap.size+1,1,none⟩) (by dsimp only;omega) (.int .u8 o1)).far (p:=⟨w.heap.size+1,2,none⟩) (by dsimp only;omega) (.string ⟨i1.toArray⟩)).far (p:=⟨w.heap.size+1,3,none⟩) (by dsimp only;omega) (.slice xa l1.length xc)).far (p:=⟨w.heap.size+1,4,none⟩) (by dsimp only;omega) (.string ⟨s1.toArray⟩)).far (p:=⟨w.heap.size+1,5,none⟩) (by dsimp only;omega) (.bool false)).set 0 (.int .i64 0))
   ·exact ((((((((HS.out.below HB7.out).keep (Keep.setCell (a:=⟨w.heap.size+1,0,none⟩) (fun k hk=>by have:=HG5.out;have:=H56.out;have:=HG6.out;have:=HGC.out;dsimp only;omega) (.int .i64 p1))).keep (Keep.setCell (a:=⟨w.heap.size+1,1,none⟩) (fun k hk=>by have:=HG5.out;have:=H56.out;have:=HG6.out;have:=HGC.out;dsimp only;omega) (.int .u8 o1))).keep (Keep.setCell (a:=⟨w.heap.size+1,2,none⟩) (fun k hk=>by have:=HG5.out;have:=H56.out;have:=HG6.out;have:=HGC.out;dsimp only;omega) (.string ⟨i1.toArray⟩))).keep (Keep.setCell (a:=⟨w.heap.size+1,3,none⟩) (fun k hk=>by have:=HG5.out;have:=H56.out;have:=HG6.out;have:=HGC.out;dsimp only;omega) (.slice xa l1.length xc))).keep (Keep.setCell (a:=⟨w.heap.size+1,4,none⟩) (fun k hk=>by have:=HG5.out;have:=H56.out;have:=HG6.out;have:=HGC.out;dsimp only;omega) (.string ⟨s1.toArray⟩))).keep (Keep.setCell (a:=⟨w.heap.size+1,5,none⟩) (fun k hk=>by have:=HG5.out;have:=H56.out;have:=HG6.out;have:=HGC.out;dsimp only;omega) (.bool false))).keep (Keep.setCell (a:=⟨w.heap.size+1+1,0,none⟩) (fun k hk=>by have:=HG5.out;have:=H56.out;have:=HG6.out;have:=HGC.out;dsimp only;omega) (.int .i64 0)))
   ·exact ((((((((HI.out.below.trans (HB7.out.mono HI.out.below.size)).setCell (p:=⟨w.heap.size+1,0,none⟩) (by dsimp only;omega) (.int .i64 p1)).setCell (p:=⟨w.heap.size+1,1,none⟩) (by dsimp only;omega) (.int .u8 o1)).setCell (p:=⟨w.heap.size+1,2,none⟩) (by dsimp only;omega) (.string ⟨i1.toArray⟩)).setCell (p:=⟨w.heap.size+1,3,none⟩) (by dsimp only;omega) (.slice xa l1.length xc)).setCell (p:=⟨w.heap.size+1,4,none⟩) (by dsimp only;omega) (.string ⟨s1.toArray⟩)).setCell (p:=⟨w.heap.size+1,5,none⟩) (by dsimp only;omega) (.bool false)).setCell (p:=⟨w.heap.size+1+1,0,none⟩) (by dsimp only;omega) (.int .i64 0))
 case done=>
  rintro D xs W hD hall hi hK
  have HI:=Lib.hid hi
  have HKD:=Lib.hid hK
  have HRR:Hid (R=(none,codeE t cn (xs.map (·.1)))):=Lib.hid (by rw [HR.out,←hall,List.find?_eq_none.2 (fun e he=>by rw [hi.no e he];decide)])
  have HC6:=Lib.hid (HI.out.code)
  have HE7:=Lib.hid (HI.out.tk.blk (HF5.out.blk 4 rfl) (by have:=H56.out;have:=HG5.out;omega))
  have HD7:=Lib.hid (HI.out.tk.blk (HF5.out.blk 3 rfl) (by have:=H56.out;have:=HG5.out;omega))
  clear hi hK hall HSEQ HSH HFT
  generalize codeE t cn (xs.map (·.1))=cde at *
  have q0:=HC6.out.cell 0
  have e0:=HE7.out.cell 0
  have e1:=HE7.out.cell 1
  have e2:=HE7.out.cell 2
  have e3:=HE7.out.cell 3
  have e4:=HE7.out.cell 4
  have e5:=HE7.out.cell 5
  have k0:=HE7.out.free 0
  have k1:=HE7.out.free 1
  have k2:=HE7.out.free 2
  have k3:=HE7.out.free 3
  have k4:=HE7.out.free 4
  have k5:=HE7.out.free 5
  have d0:=HD7.out.cell 0
  have d1:=HD7.out.free 0
  have n1:¬b6=w.heap.size+1:=by have:=H56.out;have:=HG5.out;omega
  have n2:¬w.heap.size+1=b6:=fun e=>n1 e.symm
  have n3:¬b6=w.heap.size+1+1:=by have:=H56.out;have:=HG5.out;omega
  have n4:¬w.heap.size+1+1=b6:=fun e=>n3 e.symm
  go_wp2
  go_region
  go_wp2
  have hne1:D≠w.heap.size+1:=by have:=H56.out;have:=HG5.out;have:=HG6.out;have:=HGC.out;omega
  have hne2:D≠w.heap.size+1+1:=by have:=H56.out;have:=HG5.out;have:=HG6.out;have:=HGC.out;omega
  have hx1:=(((((((HE7.out.set 0 (.int .i64 0)).set 1 (.int .u8 0)).set 2 (.string ⟨#[]⟩)).set 3 (.slice none 0 0)).set 4 (.string ⟨#[]⟩)).set 5 (.bool false)).far (p:=⟨w.heap.size+1+1,0,none⟩) (by dsimp only;omega) (.int .i64 cde))
  have hx2:=(((((((HD7.out.far (p:=⟨w.heap.size+1,0,none⟩) (by dsimp only;omega) (.int .i64 0)).far (p:=⟨w.heap.size+1,1,none⟩) (by dsimp only;omega) (.int .u8 0)).far (p:=⟨w.heap.size+1,2,none⟩) (by dsimp only;omega) (.string ⟨#[]⟩)).far (p:=⟨w.heap.size+1,3,none⟩) (by dsimp only;omega) (.slice none 0 0)).far (p:=⟨w.heap.size+1,4,none⟩) (by dsimp only;omega) (.string ⟨#[]⟩)).far (p:=⟨w.heap.size+1,5,none⟩) (by dsimp only;omega) (.bool false)).set 0 (.int .i64 cde))
  have hx3:=(((((((HI.out.below.setCell (p:=⟨w.heap.size+1,0,none⟩) (by dsimp only;omega) (.int .i64 0)).setCell (p:=⟨w.heap.size+1,1,none⟩) (by dsimp only;omega) (.int .u8 0)).setCell (p:=⟨w.heap.size+1,2,none⟩) (by dsimp only;omega) (.string ⟨#[]⟩)).setCell (p:=⟨w.heap.size+1,3,none⟩) (by dsimp only;omega) (.slice none 0 0)).setCell (p:=⟨w.heap.size+1,4,none⟩) (by dsimp only;omega) (.string ⟨#[]⟩)).setCell (p:=⟨w.heap.size+1,5,none⟩) (by dsimp only;omega) (.bool false)).setCell (p:=⟨w.heap.size+1+1,0,none⟩) (by dsimp only;omega) (.int .i64 cde))
  have hx4:=((Below.heap_setCell ((((((W.setCell ⟨w.heap.size+1,0,none⟩ (.int .i64 0)).setCell ⟨w.heap.size+1,1,none⟩ (.int .u8 0)).setCell ⟨w.heap.size+1,2,none⟩ (.string ⟨#[]⟩)).setCell ⟨w.heap.size+1,3,none⟩ (.slice none 0 0)).setCell ⟨w.heap.size+1,4,none⟩ (.string ⟨#[]⟩)).setCell ⟨w.heap.size+1,5,none⟩ (.bool false)) ⟨w.heap.size+1+1,0,none⟩ (.int .i64 cde) D hne2).trans ((Below.heap_setCell (((((W.setCell ⟨w.heap.size+1,0,none⟩ (.int .i64 0)).setCell ⟨w.heap.size+1,1,none⟩ (.int .u8 0)).setCell ⟨w.heap.size+1,2,none⟩ (.string ⟨#[]⟩)).setCell ⟨w.heap.size+1,3,none⟩ (.slice none 0 0)).setCell ⟨w.heap.size+1,4,none⟩ (.string ⟨#[]⟩)) ⟨w.heap.size+1,5,none⟩ (.bool false) D hne1).trans ((Below.heap_setCell ((((W.setCell ⟨w.heap.size+1,0,none⟩ (.int .i64 0)).setCell ⟨w.heap.size+1,1,none⟩ (.int .u8 0)).setCell ⟨w.heap.size+1,2,none⟩ (.string ⟨#[]⟩)).setCell ⟨w.heap.size+1,3,none⟩ (.slice none 0 0)) ⟨w.heap.size+1,4,none⟩ (.string ⟨#[]⟩) D hne1).trans ((Below.heap_setCell (((W.setCell ⟨w.heap.size+1,0,none⟩ (.int .i64 0)).setCell ⟨w.heap.size+1,1,none⟩ (.int .u8 0)).setCell ⟨w.heap.size+1,2,none⟩ (.string ⟨#[]⟩)) ⟨w.heap.size+1,3,none⟩ (.slice none 0 0) D hne1).trans ((Below.heap_setCell ((W.setCell ⟨w.heap.size+1,0,none⟩ (.int .i64 0)).setCell ⟨w.heap.size+1,1,none⟩ (.int .u8 0)) ⟨w.heap.size+1,2,none⟩ (.string ⟨#[]⟩) D hne1).trans ((Below.heap_setCell (W.setCell ⟨w.heap.size+1,0,none⟩ (.int .i64 0)) ⟨w.heap.size+1,1,none⟩ (.int .u8 0) D hne1).trans ((Below.heap_setCell W ⟨w.heap.size+1,0,none⟩ (.int .i64 0) D hne1).trans HKD.out)))))))
  generalize (((((((W.setCell ⟨w.heap.size+1,0,none⟩ (.int .i64 0)).setCell ⟨w.heap.size+1,1,none⟩ (.int .u8 0)).setCell ⟨w.heap.size+1,2,none⟩ (.string ⟨#[]⟩)).setCell ⟨w.heap.size+1,3,none⟩ (.slice none 0 0)).setCell ⟨w.heap.size+1,4,none⟩ (.string ⟨#[]⟩)).setCell ⟨w.heap.size+1,5,none⟩ (.bool false)).setCell ⟨w.heap.size+1+1,0,none⟩ (.int .i64 cde))=W9 at *
  refine ⟨by simp,.inl ⟨_,_,rfl,run_takeDeferred (w:=W9.drew) hx4,?_⟩⟩
  have hgr:W9.drew.grownBy (W9.drew.putObj D (.deferred none)) (some D):=put_grown _
  have hrr:∀r,some D=some r→wS.heap.size≤r∧∃o:Obj,W9.drew.heap[r]?=some o∧o.isCells=false:=fun r e=>by injection e with e;subst e;exact ⟨hD,_,hx4,rfl⟩
  refine ⟨_,results_row_cell rfl _ _ _ _ _ _ _ _ _ rfl (blk_own (W:=W9.drew) hx1 hgr hrr) Tryz.underlying50 rfl (by kernel_rfl) rfl (load_code ((blk_own (W:=W9.drew) hx2 hgr hrr).cell 0)),?_⟩
  rw [HRR.out]
  exact ⟨rfl,hx3.drew.grown hgr hx3.drew.size (fun k hk=>Nat.le_trans HWS.out (hrr k hk).1)⟩
 case stop=>
  rintro D c pre W hD hpre ⟨rfl,pre0,x,v,q,h1,h2,h3,h4,h5,h6,h7⟩ hK
  have HRR:Hid (R=(some x,0)):=Lib.hid (by rw [HR.out,find_stop (x:=x) (by rw [←h1];exact hpre) h2 h3])
  have HKD:=Lib.hid hK
  have HX4:=Lib.hid h4
  have HX5:=Lib.hid h5
  have HX6:=Lib.hid h6
  have HX7:=Lib.hid h7
  clear h1 h2 h3 h4 h5 h6 h7 hK HSEQ HSH HFT
  gi_wp2
  refine ⟨by simp,.inl ⟨_,_,rfl,run_takeDeferred HKD.out,?_⟩⟩
  have hgr:W.grownBy (W.putObj D (.deferred none)) (some D):=put_grown _
  have hrr:∀r,some D=some r→wS.heap.size≤r∧∃o:Obj,W.heap[r]?=some o∧o.isCells=false:=fun r e=>by injection e with e;subst e;exact ⟨hD,_,HKD.out,rfl⟩
  refine ⟨_,results_row_cell rfl _ _ _ _ _ _ _ _ _ rfl (blk_own HX4.out hgr hrr) Tryz.underlying50 rfl (by kernel_rfl) rfl (load_code ((blk_own HX5.out hgr hrr).cell 0)),?_⟩
  rw [HRR.out]
  exact ⟨⟨v,q,rfl,HX6.out.tk (Tk.own (P:=fun _=>True) hgr hrr) (fun _ _=>trivial)⟩,HX7.out.grown hgr HX7.out.size (fun k hk=>Nat.le_trans HWS.out (hrr k hk).1)⟩
end Go.Proofs.YtjmekllgnhkodaaGreatDoor
namespace Go.Proofs.YtjmekllgnhkodaaGreatDoor
set_option maxHeartbeats 8000000
set_option maxRecDepth 100000
open Go.RowKit Go.Shelf Go.Sort
theorem ValuesS_any (pg op:Int) (s ex:ByteArray) (al:Bool) (l:List Opd) (x:Ins) (p q:Blocks) (v u:Value) (w:World) (h:SlR opdR w p v l) (g:SlR opdR w q u x.args) (hT:Spc w) (hl:l.length≤1000000) (hm:x.args.length≤1000000) (hc:(canonOf x).args.length≤1000000) (hf:∀y∈x.args,fits64 y.n) (hs:s.size≤9223372036854775807) (ht:x.op.size≤9223372036854775807):
  Calls Tryz.prog 58 #[.agg #[.int .i64 pg,.int .u8 op,.string s,v,.string ex,.bool al],.agg #[.string x.op,u]] w fun e w'=>e=.returned (.tuple #[.int .i64 (fitsS s x.op ex.data.toList l (canonOf x).args).1,.int .i64 (fitsS s x.op ex.data.toList l (canonOf x).args).2.1])∧Below w.heap.size w w':=by
 have HOf:=Lib.hid (fun W (hb:RowKit.Below w.heap.size w W)=>Of_any q x u W (g.below hb) (hT.below hb) hm hf)
 have HFT:=Lib.hid (fun p2 u2 W (hb:RowKit.Below w.heap.size w W) h2=>fits_walk pg op s ex x.op al l (canonOf x).args p p2 v u2 W (h.below hb) h2 hl hc hs ht)
 obtain ⟨va,vc,rfl⟩:∃a c,v=.slice a l.length c:=by obtain ⟨a,c,e,_⟩:=h;exact ⟨a,c,e⟩
 obtain ⟨ua,uc,rfl⟩:∃a c,u=.slice a x.args.length c:=by obtain ⟨a,c,e,_⟩:=g;exact ⟨a,c,e⟩
 obtain ⟨t,m⟩:=x
 dsimp only at *
 have HF:=Lib.hid (((Fr.start w).new 50 #[.int .i64 pg,.int .u8 op,.string s,.slice va l.length vc,.string ex,.bool al]).new' 27 #[.string t,.slice ua m.length uc] (World.size_alloc _ _))
 clear h g hl hm hc hf hs ht hT
 generalize (canonOf ⟨t,m⟩).args=cn at *
 generalize fitsS s t ex.data.toList l cn=R at *
 obtain ⟨W0,hW0⟩:∃W0:World,W0=((w.alloc (.cells #[.int .i64 pg,.int .u8 op,.string s,.slice va l.length vc,.string ex,.bool al] 50)).alloc (.cells #[.string t,.slice ua m.length uc] 27)):=⟨_,rfl⟩
 rw [←hW0] at HF
 go_enter Tryz.func58,Tryz.ntmps58
 go_upto_region 1 with fail
 rw [←hW0]
 clear hW0
 have e0:=(HF.out.blk 1 rfl).cell 0
 have e1:=(HF.out.blk 1 rfl).cell 1
 have e2:=(HF.out.blk 1 rfl).cell 2
 have e3:=(HF.out.blk 1 rfl).cell 3
 have e4:=(HF.out.blk 1 rfl).cell 4
 have e5:=(HF.out.blk 1 rfl).cell 5
 have c0:=(HF.out.blk 0 rfl).cell 0
 have c1:=(HF.out.blk 0 rfl).cell 1
 have HD:=Lib.hid HF.out.drew
 go_region_held3 (fun w'=>w'.cell? ⟨w.heap.size,0,none⟩=some (.int .i64 pg)∧w'.cell? ⟨w.heap.size,1,none⟩=some (.int .u8 op)∧w'.cell? ⟨w.heap.size,2,none⟩=some (.string s)∧w'.cell? ⟨w.heap.size,3,none⟩=some (.slice va l.length vc)∧w'.cell? ⟨w.heap.size,4,none⟩=some (.string ex)∧w'.cell? ⟨w.heap.size,5,none⟩=some (.bool al)∧w'.cell? ⟨w.heap.size+1,0,none⟩=some (.string t)∧w'.cell? ⟨w.heap.size+1,1,none⟩=some (.slice ua m.length uc)) (go_keep)
  (first
   | (go_at_call 62;refine (HOf.out _ HD.out.below).mono ?_;rintro e w1 ⟨u1,rfl,ho1,hb1⟩;have HO1:=Lib.hid ho1.slR;have HF1:=Lib.hid (HD.out.next hb1);have e0:=(HF1.out.blk 1 rfl).cell 0;have e1:=(HF1.out.blk 1 rfl).cell 1;have e2:=(HF1.out.blk 1 rfl).cell 2;have e3:=(HF1.out.blk 1 rfl).cell 3;have e4:=(HF1.out.blk 1 rfl).cell 4;have e5:=(HF1.out.blk 1 rfl).cell 5;have c0:=(HF1.out.blk 0 rfl).cell 0;have c1:=(HF1.out.blk 0 rfl).cell 1;clear ho1 hb1)
   | (go_at_call 94;refine (HFT.out _ _ _ HF1.out.below HO1.out).mono ?_;rintro e w2 ⟨rfl,hb2⟩;have HF2:=Lib.hid (HF1.out.next hb2);have e0:=(HF2.out.blk 1 rfl).cell 0;have e1:=(HF2.out.blk 1 rfl).cell 1;have e2:=(HF2.out.blk 1 rfl).cell 2;have e3:=(HF2.out.blk 1 rfl).cell 3;have e4:=(HF2.out.blk 1 rfl).cell 4;have e5:=(HF2.out.blk 1 rfl).cell 5;have c0:=(HF2.out.blk 0 rfl).cell 0;have c1:=(HF2.out.blk 0 rfl).cell 1;clear hb2))
 go_wp2
 go_ret2
 exact ⟨rfl,HF2.out.below⟩
end Go.Proofs.YtjmekllgnhkodaaGreatDoor
namespace Go.Proofs.YtjmekllgnhkodaaGreatDoor
set_option maxHeartbeats 8000000
set_option maxRecDepth 100000
open Go.RowKit Go.Shelf Go.Sort
theorem slR_opd (w:World) (q:Blocks) (l:List Opd) (cs:Array Value) (m:Nat) (hm:m=l.length) (hcs:cs.toList=l.flatMap Opd.cells) (hl:l.length≤1000000) (hq:∀k,w.heap.size≤k→q k):
  SlR opdR (w.alloc (.cells cs 90)) q (.slice (some ⟨w.heap.size,0,none⟩) m m) l:=slR_lit w _ q l cs m hm hcs hl hq
theorem findR_mem {x:Ins} {e:EntV} {k:Int} (h:findR x=(some e,k)):e∈candF x.op.data.toList (canonOf x).args∧hitE x.op (canonOf x).args e=true∧k=0∧check07 x=0:=by
 unfold findR at h
 split at h
 ·rename_i hc
  cases hf:(candF x.op.data.toList (canonOf x).args).find? (hitE x.op (canonOf x).args) with
  | none=>rw [hf] at h;cases h
  | some e2=>
   rw [hf] at h
   injection h with h1 h2
   injection h1 with h1
   subst h1
   exact ⟨List.mem_of_find?_eq_some hf,List.find?_some hf,h2.symm,hc⟩
 ·cases h
theorem findR_ok {x:Ins} {e:EntV} {k:Int} (h:findR x=(some e,k)):EntOk e:=by
 obtain ⟨p,k,hk,hx⟩:=cand_mem (findR_mem h).1
 exact ent_at hk hx
theorem upper_LD:upper ⟨#[76,68]⟩=⟨#[76,68]⟩:=by decide+kernel
end Go.Proofs.YtjmekllgnhkodaaGreatDoor
