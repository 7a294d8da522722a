/-
  Functions of the program and of the reference, walked; plain facts on what they compute. Conditions: sizes.
-/
import Derived.Test.YtpigbggoiipmhaaGreatDoorBC4
import Derived.Test.YtpigbggoiipmhaaGreatDoorBU1
import Derived.Test.YtpigbggoiipmhaaGreatDoorBT0
namespace Go.Proofs.YtpigbggoiipmhaaGreatDoor
open Go.RowKit
section
variable {P:Program} (w:World)
end
section
variable {P:Program} {α:Type} {n:Nat} {enc:α->List Value} {h0:∀x,(enc x).length=n} {h1:∀x,∀u∈enc x,u.oneCell'=true}
end
theorem nK (w:World) (p:aB) (v:Value) (l:List UInt8) (h:SlR aI w p v l):(convert 22 9 v).run Tryz.prog w=.ok (.string ⟨l.toArray⟩) w:=by
 obtain ⟨a,c,rfl,hc,hm,g⟩:=h;cases l with
 | nil=>have hx:=run_convert_bytes_string (P:=Tryz.prog) w 22 9 5 a 0 c Tryz.underlying22 Tryz.underlying5 Tryz.underlying9;show (convert _ _ (.slice a 0 c)).run _ w=_;rw [hx];cases a<;>(simp [Conv.bytesToString,loadCells,loadCellsFrom];rfl)
 | cons x xs=>obtain ⟨b,o,cs,rfl,_,_,_⟩:=g 0 x rfl;exact run_convert_bytes_back w _ _ _ _ c (x::xs) Tryz.underlying22 Tryz.underlying5 Tryz.underlying9 (λj hj=>by obtain ⟨b',o',cs',e,_,_,hcs,hr⟩:=g j (x::xs)[j] (zL hj);injection e with e;injection e with e1 e2;subst e1 e2;have hr:cs'=[.int .u8 ((x::xs)[j].toNat:Int)]:=hr;subst hr;have:=hcs 0 _ rfl;have hadd:(⟨b,o,none⟩:Addr).add j=⟨b,o+j,none⟩:=(by unfold Addr.add;split<;>simp_all);rw [hadd];simpa [aI,Rep.flat] using this)
end Go.Proofs.YtpigbggoiipmhaaGreatDoor
namespace Go.Proofs.YtpigbggoiipmhaaGreatDoor
open Go.RowKit Go.Shelf Go.Sort
end Go.Proofs.YtpigbggoiipmhaaGreatDoor
