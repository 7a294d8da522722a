/-
  Arguments opened: bytes; the bounds of an int8.
-/
import Derived.Test.YtmpmciccgempeaaGreatDoorBA17
import Derived.Test.YtmpmciccgempeaaGreatDoorBA2
import Derived.Test.YtmpmciccgempeaaGreatDoorBE1
import Derived.Test.YtmpmciccgempeaaGreatDoorBA1
import Derived.Test.YtmpmciccgempeaaGreatDoorBC1
import Derived.Test.YtmpmciccgempeaaGreatDoorChecked
import Derived.Test.YtmpmciccgempeaaGreatDoorShelf
import Derived.Test.YtmpmciccgempeaaGreatDoorCards
import Derived.Test.YtmpmciccgempeaaGreatDoorTie
import Derived.Test.YtmpmciccgempeaaGreatDoorBA7
import Derived.Test.YtmpmciccgempeaaGreatDoorBB2
import Derived.Test.YtmpmciccgempeaaGreatDoorBA6
import Derived.Test.YtmpmciccgempeaaGreatDoorBA3
namespace Go.Proofs.YtmpmciccgempeaaGreatDoor
open Go.RowKit Go.ChangeShapes Go.WideShapes Go.ChangeAt Go.Deep Go.Joins

variable {H : Type} {enc : TypeId × Value → H} {W : World}
theorem bounds_i8 {n : Int} (h : (Lit.int .i8 n).wf = true) : -128 ≤ n ∧ n ≤ 127 := by
  unfold Lit.wf at h
  simp only [Bool.and_eq_true, decide_eq_true_eq] at h
  exact h
theorem c_byteDn : Tryz.prog.cellsOf 5 = 1 := by kernel_rfl
set_option maxRecDepth 100000 in
theorem open_bytes_arg {b0 : Nat} {v : Value} {d : DataW H} {p : List MemPlace} (hv : Value.okWide Tryz.prog W .any b0 32 v) (h : DataW.Trod enc Tryz.prog W 0 (fun _ => true) true 32 v d p) :
    ∃ l, SlR aI W (fun _ => True) v l ∧ True := by
  obtain ⟨a, n, c, rfl⟩ := okWide_slice Tryz.underlying32 hv
  obtain ⟨fuel, hf⟩ := h
  obtain ⟨v, l, e, hs, _⟩ := qI (α := UInt8) (f := fun n => .int .u8 n.toNat) (h1 := fun x u hu => by simp at hu; subst hu; rfl) (Q := fun _ => True) Tryz.underlying32 c_byteDn (fun n v y ht => by
    obtain ⟨k, q, _, wf⟩ := DataW.trod_int Tryz.underlying5 ht
    obtain rfl := List.cons.inj q |>.1
    have hb := bounds_u8 wf
    refine ⟨UInt8.ofNat k.toNat, ?_, trivial⟩
    have e : ((UInt8.ofNat k.toNat).toNat : Int) = k := by
      rw [UInt8.toNat_ofNat']
      omega
    rw [e]) hf
  rw [lN] at e
  obtain rfl := List.cons.inj e |>.1
  exact ⟨l, hs, trivial⟩
end Go.Proofs.YtmpmciccgempeaaGreatDoor
