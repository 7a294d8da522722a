/-
  Functions of the program and of the reference, walked; plain facts on what they compute. Conditions: sizes.
-/
import Derived.Test.YtpigbggoiipmhaaGreatDoorBC1
namespace Go.Proofs.YtpigbggoiipmhaaGreatDoor
open Go.RowKit Go.Shelf Go.Sort
theorem yN {l:List UInt8}:pgB l<7/\(pos (pgB l)<l.length->cF (pgB l) (bAt l (pos (pgB l)))=false):=by
 by_cases h1:bAt l 0=203
 ·rw [show pgB l=1 by unfold pgB;rw [if_pos h1]];exact ⟨by decide,λ_=>by simp [cF]⟩
 by_cases h2:bAt l 0=237
 ·rw [show pgB l=2 by unfold pgB;rw [if_neg h1,if_pos h2]];exact ⟨by decide,λ_=>by simp [cF]⟩
 by_cases h3:bAt l 0=221
 ·by_cases h4:1<l.length/\bAt l 1=203
  ·rw [show pgB l=5 by unfold pgB;rw [if_neg h1,if_neg h2,if_pos h3,if_pos h4]];exact ⟨by decide,λ_=>by simp [cF]⟩
  ·rw [show pgB l=3 by unfold pgB;rw [if_neg h1,if_neg h2,if_pos h3,if_neg h4]];refine ⟨by decide,λh=>?_⟩;have h:1<l.length:=h;show cF 3 (bAt l 1)=false;simp [cF];omega
 by_cases h5:bAt l 0=253
 ·by_cases h4:1<l.length/\bAt l 1=203
  ·rw [show pgB l=6 by unfold pgB;rw [if_neg h1,if_neg h2,if_neg h3,if_pos h5,if_pos h4]];exact ⟨by decide,λ_=>by simp [cF]⟩
  ·rw [show pgB l=4 by unfold pgB;rw [if_neg h1,if_neg h2,if_neg h3,if_pos h5,if_neg h4]];refine ⟨by decide,λh=>?_⟩;have h:1<l.length:=h;show cF 4 (bAt l 1)=false;simp [cF];omega
 ·rw [show pgB l=0 by unfold pgB;rw [if_neg h1,if_neg h2,if_neg h3,if_neg h5]];refine ⟨by decide,λ_=>?_⟩;show cF 0 (bAt l 0)=false;simp [cF];omega
end Go.Proofs.YtpigbggoiipmhaaGreatDoor
