/-
  The library's contracts at this dump, written by the kit's lay-plain tool: those that this claim uses. Conditions: as each states.
-/
import Derived.Shelf.Strings.Builder1
import Derived.Shelf.Strings.Builder2
import Derived.Shelf.Strings.OnBuilder
import Derived.Shelf.Small.Wraps
import Derived.Shelf.Strings.BuilderF
import Derived.Shelf.Strings.BuilderK
import Derived.Shelf.Strings.Builder2Cap
import Derived.Shelf.Strings.Search1
import Derived.Shelf.Strings.Search2
import Derived.Shelf.Strings.Search3
import Derived.Shelf.Strings.Cut
import Derived.Shelf.Strings.Count
import Derived.Shelf.LaysM
import Derived.Shelf.Strings.Shaped
import Derived.Shelf.Strings.Prefix
import Derived.Shelf.Strings.Split
import Derived.Shelf.Strings.Fields
import Derived.Shelf.Strings.SplitShaped
import Derived.Shelf.Unicode.Latin
import Derived.Shelf.Bits.Mul64
import Derived.Shelf.Strings.Repeat
import Derived.Shelf.Unicode.DecodeSlow
import Derived.Shelf.Unicode.Is16White
import Derived.Shelf.Unicode.IsSpaceAny
import Derived.Shelf.Unicode.Is16Any
import Derived.Shelf.Unicode.Is32Any
import Derived.Shelf.Unicode.ExclAny
import Derived.Shelf.Strings.BuilderCap
import Derived.Shelf.Slices.Turned
import Derived.Shelf.Slices.Equal
import Derived.Shelf.Slices.Empties2
import Derived.Test.YtmpmciccgempeaaGreatDoorProg
namespace Go.Proofs
open Go.Shelf
def Tryz.lays105_ren : Go.Shelf.Ren := ⟨fun | 105 => 118 | 212 => 167 | 99 => 168 | 165 => 165 | 166 => 117 | 170 => 169 | 169 => 119 | 263 => 225 | 264 => 226 | 206 => 227 | 240 => 166 | 241 => 223 | 276 => 224 | 277 => 256 | n => n, fun | 9 => 9 | 3 => 3 | 4 => 4 | 20 => 20 | 0 => 0 | 46 => 192 | 109 => 219 | 5 => 5 | 72 => 149 | 76 => 152 | 51 => 268 | 146 => 269 | 53 => 193 | 148 => 271 | 70 => 147 | 37 => 32 | 75 => 151 | 127 => 222 | 164 => 266 | 80 => 155 | n => n, fun | n => n⟩
theorem Tryz.lays105 : Go.Proofs.Lays.n105 Tryz.prog Tryz.lays105_ren := {
  mixed := by kernel_rfl
  f99 := Tryz.func168.trans (congrArg some (by kernel_rfl))
  f105 := Tryz.func118.trans (congrArg some (by kernel_rfl))
  f165 := Tryz.func165.trans (congrArg some (by kernel_rfl))
  f166 := Tryz.func117.trans (congrArg some (by kernel_rfl))
  f169 := Tryz.func119.trans (congrArg some (by kernel_rfl))
  f170 := Tryz.func169.trans (congrArg some (by kernel_rfl))
  f206 := Tryz.func227.trans (congrArg some (by kernel_rfl))
  f212 := Tryz.func167.trans (congrArg some (by kernel_rfl))
  f240 := Tryz.func166.trans (congrArg some (by kernel_rfl))
  f241 := Tryz.func223.trans (congrArg some (by kernel_rfl))
  f263 := Tryz.func225.trans (congrArg some (by kernel_rfl))
  f264 := Tryz.func226.trans (congrArg some (by kernel_rfl))
  f276 := Tryz.func224.trans (congrArg some (by kernel_rfl))
  f277 := Tryz.func256.trans (congrArg some (by kernel_rfl))
  t0 := Tryz.underlying0
  a0 := Tryz.isAgg0
  z0 := Tryz.sizeOf0
  v0 := Tryz.zeroValue0
  t3 := Tryz.underlying3
  a3 := Tryz.isAgg3
  z3 := Tryz.sizeOf3
  v3 := Tryz.zeroValue3
  t4 := Tryz.underlying4
  a4 := Tryz.isAgg4
  z4 := Tryz.sizeOf4
  v4 := Tryz.zeroValue4
  t5 := Tryz.underlying5
  a5 := Tryz.isAgg5
  z5 := Tryz.sizeOf5
  v5 := Tryz.zeroValue5
  t9 := Tryz.underlying9
  a9 := Tryz.isAgg9
  z9 := Tryz.sizeOf9
  v9 := Tryz.zeroValue9
  t20 := Tryz.underlying20
  a20 := Tryz.isAgg20
  z20 := Tryz.sizeOf20
  v20 := Tryz.zeroValue20
  t37 := Tryz.underlying32
  a37 := Tryz.isAgg32
  z37 := Tryz.sizeOf32
  v37 := Tryz.zeroValue32
  t46 := Tryz.underlying192
  a46 := Tryz.isAgg192
  z46 := Tryz.sizeOf192
  v46 := Tryz.zeroValue192
  t51 := Tryz.underlying268
  a51 := Tryz.isAgg268
  z51 := Tryz.sizeOf268
  v51 := Tryz.zeroValue268
  t53 := Tryz.underlying193
  a53 := Tryz.isAgg193
  z53 := Tryz.sizeOf193
  v53 := Tryz.zeroValue193
  t70 := Tryz.underlying147
  a70 := Tryz.isAgg147
  z70 := Tryz.sizeOf147
  v70 := Tryz.zeroValue147
  t72 := Tryz.underlying149
  a72 := Tryz.isAgg149
  z72 := Tryz.sizeOf149
  v72 := Tryz.zeroValue149
  t75 := Tryz.underlying151
  a75 := Tryz.isAgg151
  z75 := Tryz.sizeOf151
  v75 := Tryz.zeroValue151
  t76 := Tryz.underlying152
  a76 := Tryz.isAgg152
  z76 := Tryz.sizeOf152
  v76 := Tryz.zeroValue152
  t109 := Tryz.underlying219
  a109 := Tryz.isAgg219
  z109 := Tryz.sizeOf219
  v109 := Tryz.zeroValue219
  t127 := Tryz.underlying222
  a127 := Tryz.isAgg222
  z127 := Tryz.sizeOf222
  v127 := Tryz.zeroValue222
  t146 := Tryz.underlying269
  a146 := Tryz.isAgg269
  z146 := Tryz.sizeOf269
  v146 := Tryz.zeroValue269
  t148 := Tryz.underlying271
  a148 := Tryz.isAgg271
  z148 := Tryz.sizeOf271
  v148 := Tryz.zeroValue271
  t164 := Tryz.underlying266
  a164 := Tryz.isAgg266
  z164 := Tryz.sizeOf266
  v164 := Tryz.zeroValue266 }
theorem Tryz.Builder_Extra_105 : Builder.Extra Tryz.prog Tryz.lays105_ren := {
  sizeBuilder := by kernel_rfl
  liesBuilder := by kernel_rfl
  t5 := Tryz.underlying5
  a5 := Tryz.isAgg5
  z5 := Tryz.sizeOf5
  v5 := Tryz.zeroValue5
  infoByte := by kernel_rfl
  cellsByte := by kernel_rfl
  sizeByte := by kernel_rfl
  neB5 := by decide }
open Go.RowKit Go.Lib in
/-- **strings.Repeat: count ≥ 0, the result within one allocation: count copies of s.** (LAID: no walk: one application.) -/
theorem Tryz.strings_Repeat (s : ByteArray) (c : Nat) (w : World) (hc : c ≤ 9223372036854775807) (hlen : s.size * c ≤ 140737488355328) :
    Calls Tryz.prog 118 #[.string s, .int .i64 c] w fun e w' => e = .returned (.string ⟨(Lib.repeatL s.data.toList c).toArray⟩) ∧ Below w.heap.size w w' := Any.strings_Repeat Tryz.lays105 Tryz.Builder_Extra_105 s c w hc hlen
end Go.Proofs
