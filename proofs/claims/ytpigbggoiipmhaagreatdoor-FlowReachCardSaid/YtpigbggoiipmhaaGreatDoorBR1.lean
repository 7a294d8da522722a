/-
  Functions of the program and of the reference, walked; plain facts on what they compute. Conditions: sizes.
-/
import Derived.Test.YtpigbggoiipmhaaGreatDoorBC4
import Derived.Test.YtpigbggoiipmhaaGreatDoorBU1
namespace Go.Proofs.YtpigbggoiipmhaaGreatDoor
open Go.RowKit
section
variable {P:Program} (w:World)
end
section
variable {P:Program} {α:Type} {n:Nat} {enc:α->List Value} {h0:∀x,(enc x).length=n} {h1:∀x,∀u∈enc x,u.oneCell'=true}
end
end Go.Proofs.YtpigbggoiipmhaaGreatDoor
namespace Go.Proofs.YtpigbggoiipmhaaGreatDoor
open Go.RowKit Go.Shelf Go.Sort
end Go.Proofs.YtpigbggoiipmhaaGreatDoor
