/-
  The library's contracts at this dump, written by the kit's lay-plain tool: those that this claim uses. Conditions: as each states.
-/
import Derived.Shelf.Strings.Builder1
import Derived.Shelf.Strings.Builder2
import Derived.Shelf.Strings.OnBuilder
import Derived.Shelf.Strings.Trim
import Derived.Shelf.Small.Utf8
import Derived.Shelf.Small.Strs
import Derived.Shelf.Small.Wraps
import Derived.Shelf.Strings.BuilderF
import Derived.Shelf.Strings.BuilderK
import Derived.Shelf.Strings.Builder2Cap
import Derived.Shelf.Strings.Search1
import Derived.Shelf.Strings.Search2
import Derived.Shelf.Strings.Search3
import Derived.Shelf.Strings.Count
import Derived.Shelf.LaysM
import Derived.Shelf.Strings.Shaped
import Derived.Shelf.Sort.Plain
import Derived.Shelf.Strings.Prefix
import Derived.Shelf.Strings.Split
import Derived.Shelf.Strings.SplitShaped
import Derived.Shelf.Strings.Runes
import Derived.Shelf.Strings.AsciiSet
import Derived.Shelf.Unicode.DecodeSlow
import Derived.Shelf.Strings.BuilderCap
import Derived.Shelf.Slices.Equal
import Derived.Shelf.Slices.In.SortNone
import Derived.Shelf.Slices.Empties2
import Derived.Test.YtcfjcoockklkeaaDoorProg
namespace Go.Proofs
open Go.Shelf
def Tryd.lays189_ren : Go.Shelf.Ren := ⟨fun | 189 => 82 | 125 => 114 | 257 => 113 | 128 => 141 | 129 => 142 | 294 => 132 | 295 => 133 | 296 => 134 | 297 => 135 | 298 => 136 | 299 => 137 | 216 => 138 | 300 => 139 | 301 => 140 | 328 => 150 | 329 => 151 | 330 => 152 | 331 => 153 | 332 => 154 | 215 => 155 | 343 => 157 | n => n, fun | 28 => 67 | 3 => 3 | 46 => 135 | 0 => 0 | 51 => 189 | 53 => 93 | 4 => 4 | 183 => 182 | 182 => 181 | 131 => 153 | 5 => 5 | 9 => 9 | 218 => 204 | 222 => 208 | 228 => 211 | 229 => 212 | n => n, fun | n => n⟩
theorem Tryd.lays189 : Go.Proofs.Lays.n189 Tryd.prog Tryd.lays189_ren := {
  mixed := by kernel_rfl
  f125 := Tryd.func114.trans (congrArg some (by kernel_rfl))
  f128 := Tryd.func141.trans (congrArg some (by kernel_rfl))
  f129 := Tryd.func142.trans (congrArg some (by kernel_rfl))
  f189 := Tryd.func82.trans (congrArg some (by kernel_rfl))
  f215 := Tryd.func155.trans (congrArg some (by kernel_rfl))
  f216 := Tryd.func138.trans (congrArg some (by kernel_rfl))
  f257 := Tryd.func113.trans (congrArg some (by kernel_rfl))
  f294 := Tryd.func132.trans (congrArg some (by kernel_rfl))
  f295 := Tryd.func133.trans (congrArg some (by kernel_rfl))
  f296 := Tryd.func134.trans (congrArg some (by kernel_rfl))
  f297 := Tryd.func135.trans (congrArg some (by kernel_rfl))
  f298 := Tryd.func136.trans (congrArg some (by kernel_rfl))
  f299 := Tryd.func137.trans (congrArg some (by kernel_rfl))
  f300 := Tryd.func139.trans (congrArg some (by kernel_rfl))
  f301 := Tryd.func140.trans (congrArg some (by kernel_rfl))
  f328 := Tryd.func150.trans (congrArg some (by kernel_rfl))
  f329 := Tryd.func151.trans (congrArg some (by kernel_rfl))
  f330 := Tryd.func152.trans (congrArg some (by kernel_rfl))
  f331 := Tryd.func153.trans (congrArg some (by kernel_rfl))
  f332 := Tryd.func154.trans (congrArg some (by kernel_rfl))
  f343 := Tryd.func157.trans (congrArg some (by kernel_rfl))
  t0 := Tryd.underlying0
  a0 := Tryd.isAgg0
  z0 := Tryd.sizeOf0
  v0 := Tryd.zeroValue0
  t3 := Tryd.underlying3
  a3 := Tryd.isAgg3
  z3 := Tryd.sizeOf3
  v3 := Tryd.zeroValue3
  t4 := Tryd.underlying4
  a4 := Tryd.isAgg4
  z4 := Tryd.sizeOf4
  v4 := Tryd.zeroValue4
  t5 := Tryd.underlying5
  a5 := Tryd.isAgg5
  z5 := Tryd.sizeOf5
  v5 := Tryd.zeroValue5
  t9 := Tryd.underlying9
  a9 := Tryd.isAgg9
  z9 := Tryd.sizeOf9
  v9 := Tryd.zeroValue9
  t28 := Tryd.underlying67
  a28 := Tryd.isAgg67
  z28 := Tryd.sizeOf67
  v28 := Tryd.zeroValue67
  t46 := Tryd.underlying135
  a46 := Tryd.isAgg135
  z46 := Tryd.sizeOf135
  v46 := Tryd.zeroValue135
  t51 := Tryd.underlying189
  a51 := Tryd.isAgg189
  z51 := Tryd.sizeOf189
  v51 := Tryd.zeroValue189
  t53 := Tryd.underlying93
  a53 := Tryd.isAgg93
  z53 := Tryd.sizeOf93
  v53 := Tryd.zeroValue93
  t131 := Tryd.underlying153
  a131 := Tryd.isAgg153
  z131 := Tryd.sizeOf153
  v131 := Tryd.zeroValue153
  t182 := Tryd.underlying181
  a182 := Tryd.isAgg181
  z182 := Tryd.sizeOf181
  v182 := Tryd.zeroValue181
  t183 := Tryd.underlying182
  a183 := Tryd.isAgg182
  z183 := Tryd.sizeOf182
  v183 := Tryd.zeroValue182
  t218 := Tryd.underlying204
  a218 := Tryd.isAgg204
  z218 := Tryd.sizeOf204
  v218 := Tryd.zeroValue204
  t222 := Tryd.underlying208
  a222 := Tryd.isAgg208
  z222 := Tryd.sizeOf208
  v222 := Tryd.zeroValue208
  t228 := Tryd.underlying211
  a228 := Tryd.isAgg211
  z228 := Tryd.sizeOf211
  v228 := Tryd.zeroValue211
  t229 := Tryd.underlying212
  a229 := Tryd.isAgg212
  z229 := Tryd.sizeOf212
  v229 := Tryd.zeroValue212 }
open Go.Sort Go.RowKit in
theorem Tryd.slices_Sort_int (blk off cap : Nat) (zs : List Int) (w : World) (hH : Holds (Value.int .i64) w blk off zs.toArray) (hblk : blk < w.heap.size) (hsz : zs.length < 4611686018427387904) :
    Calls Tryd.prog 82 #[.slice (some ⟨blk, off, none⟩) zs.length cap] w fun e w' =>
      e = .returned (.tuple #[]) ∧ ∃ n os, w' = grow (putRow (Value.int .i64) (Sort.ahead w n) blk off (zs.mergeSort fun x y => decide (x ≤ y)).toArray) os := Any.slices_Sort_int Tryd.lays189 blk off cap zs w hH hblk hsz
open Go.RowKit Go.Sort in
/-- .. and plain. (LAID: no walk: one application.) -/
theorem Tryd.slices_Sort_int_none (p : Option Addr) (cap : Nat) (w : World) :
    Calls Tryd.prog 82 #[.slice p 0 cap] w fun e w' => e = .returned (.tuple #[]) ∧ w' = w := Any.slices_Sort_int_none Tryd.lays189 p cap w
end Go.Proofs
