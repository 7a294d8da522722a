/-
  The reference's Encode. Conditions: the library's table as its initialiser lays it.
-/
import Derived.Test.YtjmekllgnhkodaaGreatDoorQS
import Derived.Test.YtjmekllgnhkodaaGreatDoorQT
import Derived.Deep.RegionHeld3
import Derived.Lib.QuietBelow
namespace Go.Proofs.YtjmekllgnhkodaaGreatDoor
set_option maxHeartbeats 4000000
set_option maxRecDepth 100000
open Go.RowKit Go.Shelf Go.Sort
end Go.Proofs.YtjmekllgnhkodaaGreatDoor
namespace Go.Proofs.YtjmekllgnhkodaaGreatDoor
set_option maxHeartbeats 4000000
set_option maxRecDepth 100000
open Go.RowKit Go.Shelf Go.Sort
def exB (e:EntV):Bool:=
 let D:=(Dof e.ex e.args).isSome;let J:=(Jof e.ex e.args).isSome
 (e.ex==[]&&(!D&&!J)) || ((e.ex==[100]&&(D&&!J)) || ((e.ex==[101]&&(!D&&J)) || ((e.ex==[110]&&(!D&&J)) || ((e.ex==[119]&&(!D&&J)) || (e.ex==[100,110]&&(D&&J))))))
end Go.Proofs.YtjmekllgnhkodaaGreatDoor
namespace Go.Proofs.YtjmekllgnhkodaaGreatDoor
set_option maxHeartbeats 4000000
set_option maxRecDepth 100000
open Go.RowKit Go.Shelf Go.Sort
def PW (A B:List UInt8):Prop:=∀(i:Nat) (a b:UInt8),A[i]?=some a→B[i]?=some b→a=b
theorem PW.take {A B:List UInt8} (h:A.take (min A.length B.length)=B.take (min A.length B.length)):PW A B:=fun i a b ha hb=>by
 have h1:=(List.getElem?_eq_some_iff.1 ha).1
 have h2:=(List.getElem?_eq_some_iff.1 hb).1
 have e:=congrArg (fun l:List UInt8=>l[i]?) h
 rw [List.getElem?_take,List.getElem?_take,if_pos (by omega),if_pos (by omega),ha,hb] at e
 exact Option.some.inj e
end Go.Proofs.YtjmekllgnhkodaaGreatDoor
namespace Go.Proofs.YtjmekllgnhkodaaGreatDoor
set_option maxHeartbeats 4000000
set_option maxRecDepth 100000
open Go.RowKit Go.Shelf Go.Sort
end Go.Proofs.YtjmekllgnhkodaaGreatDoor
namespace Go.Proofs.YtjmekllgnhkodaaGreatDoor
set_option maxHeartbeats 4000000
set_option maxRecDepth 100000
open Go.RowKit Go.Shelf Go.Sort
end Go.Proofs.YtjmekllgnhkodaaGreatDoor
namespace Go.Proofs.YtjmekllgnhkodaaGreatDoor
set_option maxHeartbeats 4000000
set_option maxRecDepth 100000
open Go.RowKit Go.Shelf Go.Sort
theorem Encode11_any (x:Ins) (m:Mild x) (p:Blocks) (v:Value) (w:World) (h:SlR opdR w p v x.args):
  Calls Tryz.prog 82 #[.agg #[.string x.op,v]] w (EncQ w (encR x)):=by
 have HX:=Lib.hid (fun W (hb:RowKit.Below w.heap.size w W)=>Find9_any p x v W (h.below hb) (by have:=m.n;omega) m.f)
 obtain ⟨va,vc,rfl⟩:∃a c,v=.slice a x.args.length c:=by obtain ⟨a,c,e,_⟩:=h;exact ⟨a,c,e⟩
 have HI:=Lib.hid ((Fr.start w).new 27 #[.string x.op,.slice va x.args.length vc])
 obtain ⟨W0,hW0⟩:∃W:World,W=w.alloc (.cells #[.string x.op,.slice va x.args.length vc] 27):=⟨_,rfl⟩
 rw [←hW0] at HI
 cases hR:findR x with
 | mk o k=>
 rw [hR] at HX
 cases o with
 | none=>
  have hk:¬k=0:=findR_none hR
  have HR:Hid (encR x=(none,k)):=Lib.hid (by unfold encR;rw [hR])
  clear m h hR
  generalize encR x=R at *
  obtain ⟨t,l⟩:=x
  dsimp only at *
  go_enter Tryz.func82,Tryz.ntmps82
  go_upto_region 1 with fail
  rw [←hW0]
  clear hW0
  obtain ⟨a0,a1⟩:=(HI.out.blk 0 rfl).pair
  go_wp2_with (go_at_call 126;refine (HX.out _ HI.out.below).mono ?_;rintro e w4 ⟨rfl,hb⟩;have H4:=Lib.hid ((HI.out.next hb).alloc (.cells #[.int .i64 0,.int .u8 0,.string ⟨#[]⟩,.slice none 0 0,.string ⟨#[]⟩,.bool false] 53));clear hb a0 a1;unfold ent0)
  go_ret2
  exact (by rw [HR.out];exact ⟨rfl,H4.out.below⟩)
 | some e=>
  obtain ⟨hok,rfl,hfs,hby⟩:=found_num hR
  have hW:=found_W hR
  have HR:Hid (encR x=(some (encF e (numD e (canonOf x).args) (numN e (canonOf x).args)),0)):=Lib.hid (by unfold encR;rw [hR])
  have HBY:=Lib.hid (fun p v W h=>Bytes11_any e hok hW (numD e (canonOf x).args) (numN e (canonOf x).args) p v W h)
  rw [hby] at HBY
  have hvf:valF ⟨e.iop.toArray⟩ x.op e.ex e.args (canonOf x).args=(numD e (canonOf x).args,numN e (canonOf x).args):=by
   have h1:=fits_eq hok.var hok.up hok.ne (t:=x.op) (c:=(canonOf x).args)
   rw [hfs] at h1
   injection h1 with h2 h3
   injection h3 with h3 _
   exact Prod.ext h2.symm h3.symm
  have hxs:(⟨e.ex.toArray⟩:ByteArray).size≤9223372036854775807:=by have:=hW.len;show e.ex.toArray.size≤_;rw [List.size_toArray];omega
  have HVA:=Lib.hid (fun p2 v2 W h2 (hb:RowKit.Below w.heap.size w W)=>Values10_any e.pg e.op ⟨e.iop.toArray⟩ ⟨e.ex.toArray⟩ e.al e.args x p2 p v2 (.slice va x.args.length vc) W h2 (h.below hb) (by have:=m.n;omega) m.f hxs)
  rw [show (⟨e.ex.toArray⟩:ByteArray).data.toList=e.ex from rfl,hvf] at HVA
  clear hvf hxs
  clear hok hfs hby hW hR h m
  generalize encR x=R at *
  generalize encF e (numD e (canonOf x).args) (numN e (canonOf x).args)=EN at *
  generalize numD e (canonOf x).args=d at *
  generalize numN e (canonOf x).args=n at *
  obtain ⟨t,l⟩:=x
  obtain ⟨p1,o1,i1,l1,s1,f1⟩:=e
  dsimp only [entVal] at *
  go_enter Tryz.func82,Tryz.ntmps82
  go_upto_region 1 with fail
  rw [←hW0]
  clear hW0
  obtain ⟨a0,a1⟩:=(HI.out.blk 0 rfl).pair
  go_upto_region 4 with (go_at_call 126;refine (HX.out _ HI.out.below).mono ?_;rintro e w4 ⟨⟨v4,q4,rfl,hs⟩,hb⟩;obtain ⟨va4,vc4,rfl⟩:∃a c,v4=.slice a l1.length c:=(by obtain ⟨a,c,e,_⟩:=hs;exact ⟨a,c,e⟩);have H4:=Lib.hid ((HI.out.next hb).new 53 #[.int .i64 p1,.int .u8 o1,.string ⟨i1.toArray⟩,.slice va4 l1.length vc4,.string ⟨s1.toArray⟩,.bool f1]);have HS4:=Lib.hid (hs.alloc (.cells #[.int .i64 p1,.int .u8 o1,.string ⟨i1.toArray⟩,.slice va4 l1.length vc4,.string ⟨s1.toArray⟩,.bool f1] 53));clear hb hs a0 a1;dsimp only [entVal])
  generalize hg4:w4.heap.size=g4 at *
  obtain ⟨W4,hW4⟩:∃W:World,W=w4.alloc (.cells #[.int .i64 p1,.int .u8 o1,.string ⟨i1.toArray⟩,.slice va4 l1.length vc4,.string ⟨s1.toArray⟩,.bool f1] 53):=⟨_,rfl⟩
  rw [←hW4] at H4 HS4 ⊢
  clear hW4 hg4 HI HX
  obtain ⟨c0,c1,c2,c3,c4,c5⟩:=(H4.out.blk 0 rfl).six
  obtain ⟨a0,a1⟩:=(H4.out.blk 1 rfl).pair
  go_upto_region 5 with (go_at_call 80;refine (HVA.out _ _ _ HS4.out H4.out.below).mono ?_;rintro e w5 ⟨rfl,hb⟩;have H5:=Lib.hid (H4.out.next hb);have HS5:=Lib.hid (HS4.out.below hb);clear hb c0 c1 c2 c3 c4 c5 a0 a1)
  obtain ⟨c0,c1,c2,c3,c4,c5⟩:=(H5.out.blk 0 rfl).six
  go_wp2_with (go_at_call 36;refine (HBY.out _ _ _ HS5.out).mono ?_;rintro e w6 ⟨⟨v6,rfl,ho⟩,hb⟩;obtain ⟨va6,vc6,rfl⟩:=ho.form;have HO6:=Lib.hid ho;have H6:=Lib.hid (H5.out.next hb);clear hb ho)
  go_ret2
  exact (by rw [HR.out];exact ⟨⟨_,rfl,Own.base HO6.out H5.out.size⟩,H6.out.below⟩)
end Go.Proofs.YtjmekllgnhkodaaGreatDoor
