/-
  math/bits.TrailingZeros64 at this program; image.set.next. Conditions: the library's table as its initialiser lays it.
-/
import Derived.Test.YtcfjcoockklkeaaDoorImg1
import Derived.Shelf.Spec.TrailingZeros
namespace Go.Proofs.YtcfjcoockklkeaaDoor
open Go.RowKit Go.Shelf

def tzRen : Ren := ⟨fun | 29 => 99 | n => n, fun | 0 => 0 | 3 => 3 | 4 => 4 | 5 => 5 | 22 => 93 | 25 => 135 | 54 => 178 | n => n, fun | 1 => 1 | n => n⟩
theorem tzLays : Lays7.n29 Tryd.prog tzRen := {
  mixed := by kernel_rfl
  f29 := Tryd.func99.trans (congrArg some (by kernel_rfl))
  t0 := Tryd.underlying0
  a0 := Tryd.isAgg0
  z0 := Tryd.sizeOf0
  v0 := Tryd.zeroValue0
  i0 := by kernel_rfl
  t3 := Tryd.underlying3
  a3 := Tryd.isAgg3
  z3 := Tryd.sizeOf3
  v3 := Tryd.zeroValue3
  i3 := by kernel_rfl
  t4 := Tryd.underlying4
  a4 := Tryd.isAgg4
  z4 := Tryd.sizeOf4
  v4 := Tryd.zeroValue4
  i4 := by kernel_rfl
  t5 := Tryd.underlying5
  a5 := Tryd.isAgg5
  z5 := Tryd.sizeOf5
  v5 := Tryd.zeroValue5
  i5 := by kernel_rfl
  t22 := Tryd.underlying93
  a22 := Tryd.isAgg93
  z22 := Tryd.sizeOf93
  v22 := Tryd.zeroValue93
  i22 := by kernel_rfl
  t25 := Tryd.underlying135
  a25 := Tryd.isAgg135
  z25 := Tryd.sizeOf135
  v25 := Tryd.zeroValue135
  i25 := by kernel_rfl
  t54 := Tryd.underlying178
  a54 := Tryd.isAgg178
  z54 := Tryd.sizeOf178
  g1 := by kernel_rfl }
def Deb (w : World) : Prop := TabAt 1 Lib.deBruijn64tab w
theorem Deb.below {w w' : World} (h : Deb w) (hb : Below w.heap.size w w') : Deb w' := fun j hj => (hb.cell (World.block_lt_of_cell? _ _ (h j hj))).trans (h j hj)
theorem tz64_any (x : Nat) (hx : x < 18446744073709551616) (w : World) (hT : Deb w) :
    Calls Tryd.prog 99 #[.int .u64 x] w fun e w' => e = .returned (.int .i64 (Lib.ctz 64 x)) ∧ w' = w :=
  Any7.bits_TrailingZeros64 tzLays x hx w (fun _ => hT)
end Go.Proofs.YtcfjcoockklkeaaDoor
