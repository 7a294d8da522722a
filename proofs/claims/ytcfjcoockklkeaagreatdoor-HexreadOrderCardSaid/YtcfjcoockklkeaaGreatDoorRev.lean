/-
  The library's contracts at this dump, written by the kit's lay-plain tool: those that this claim uses. Conditions: as each states.
-/
import Derived.Shelf.Strings.Builder1
import Derived.Shelf.Strings.Builder2
import Derived.Shelf.Strings.OnBuilder
import Derived.Shelf.Strings.Trim
import Derived.Shelf.Small.Utf8
import Derived.Shelf.Small.Strs
import Derived.Shelf.Small.Wraps
import Derived.Shelf.Strings.BuilderF
import Derived.Shelf.Strings.BuilderK
import Derived.Shelf.Strings.Builder2Cap
import Derived.Shelf.Strings.Search1
import Derived.Shelf.Strings.Search2
import Derived.Shelf.Strings.Search3
import Derived.Shelf.Strings.Count
import Derived.Shelf.LaysM
import Derived.Shelf.Strings.Shaped
import Derived.Shelf.Strings.Prefix
import Derived.Shelf.Strings.Split
import Derived.Shelf.Strings.SplitShaped
import Derived.Shelf.Unicode.Latin
import Derived.Shelf.Strings.Runes
import Derived.Shelf.Strings.AsciiSet
import Derived.Shelf.Unicode.DecodeSlow
import Derived.Shelf.Unicode.CaseLookup
import Derived.Shelf.Unicode.CaseConvert
import Derived.Shelf.Unicode.CaseTo
import Derived.Shelf.Unicode.CaseLaid
import Derived.Shelf.Strings.BuilderCap
import Derived.Ground.Names2Prog
import Derived.Shelf.Slices.ReverseS
import Derived.Shelf.Slices.Cells
import Derived.Test.YtcfjcoockklkeaaGreatDoorProg
namespace Go.Proofs
open Go.Shelf
def Tryz.lays159_ren : Go.Shelf.Ren := ⟨fun | 159 => 17 | 165 => 36 | 166 => 37 | 167 => 38 | 169 => 39 | 230 => 40 | 204 => 41 | 240 => 62 | 241 => 63 | 197 => 64 | 118 => 65 | 168 => 66 | 270 => 67 | 262 => 68 | 276 => 91 | 277 => 92 | 260 => 93 | 242 => 94 | 313 => 95 | 278 => 114 | 274 => 115 | 275 => 116 | n => n, fun | 9 => 9 | 4 => 4 | 3 => 3 | 5 => 5 | 72 => 78 | 0 => 0 | 76 => 82 | 75 => 81 | 107 => 87 | 70 => 76 | 20 => 20 | 37 => 55 | 127 => 118 | 21 => 21 | 105 => 119 | 164 => 151 | 162 => 157 | 203 => 155 | 119 => 172 | 46 => 165 | 139 => 175 | 138 => 174 | 51 => 176 | 160 => 177 | 208 => 191 | 206 => 189 | 80 => 85 | n => n, fun | 13 => 0 | 3 => 3 | 4 => 4 | n => n⟩
theorem Tryz.lays159 : Go.Proofs.Lays.n159 Tryz.prog Tryz.lays159_ren := {
  mixed := by kernel_rfl
  f118 := Tryz.func65.trans (congrArg some (by kernel_rfl))
  f159 := Tryz.func17.trans (congrArg some (by kernel_rfl))
  f165 := Tryz.func36.trans (congrArg some (by kernel_rfl))
  f166 := Tryz.func37.trans (congrArg some (by kernel_rfl))
  f167 := Tryz.func38.trans (congrArg some (by kernel_rfl))
  f168 := Tryz.func66.trans (congrArg some (by kernel_rfl))
  f169 := Tryz.func39.trans (congrArg some (by kernel_rfl))
  f197 := Tryz.func64.trans (congrArg some (by kernel_rfl))
  f204 := Tryz.func41.trans (congrArg some (by kernel_rfl))
  f230 := Tryz.func40.trans (congrArg some (by kernel_rfl))
  f240 := Tryz.func62.trans (congrArg some (by kernel_rfl))
  f241 := Tryz.func63.trans (congrArg some (by kernel_rfl))
  f242 := Tryz.func94.trans (congrArg some (by kernel_rfl))
  f260 := Tryz.func93.trans (congrArg some (by kernel_rfl))
  f262 := Tryz.func68.trans (congrArg some (by kernel_rfl))
  f270 := Tryz.func67.trans (congrArg some (by kernel_rfl))
  f274 := Tryz.func115.trans (congrArg some (by kernel_rfl))
  f275 := Tryz.func116.trans (congrArg some (by kernel_rfl))
  f276 := Tryz.func91.trans (congrArg some (by kernel_rfl))
  f277 := Tryz.func92.trans (congrArg some (by kernel_rfl))
  f278 := Tryz.func114.trans (congrArg some (by kernel_rfl))
  f313 := Tryz.func95.trans (congrArg some (by kernel_rfl))
  t0 := Tryz.underlying0
  a0 := Tryz.isAgg0
  z0 := Tryz.sizeOf0
  v0 := Tryz.zeroValue0
  t3 := Tryz.underlying3
  a3 := Tryz.isAgg3
  z3 := Tryz.sizeOf3
  v3 := Tryz.zeroValue3
  t4 := Tryz.underlying4
  a4 := Tryz.isAgg4
  z4 := Tryz.sizeOf4
  v4 := Tryz.zeroValue4
  t5 := Tryz.underlying5
  a5 := Tryz.isAgg5
  z5 := Tryz.sizeOf5
  v5 := Tryz.zeroValue5
  t9 := Tryz.underlying9
  a9 := Tryz.isAgg9
  z9 := Tryz.sizeOf9
  v9 := Tryz.zeroValue9
  t20 := Tryz.underlying20
  a20 := Tryz.isAgg20
  z20 := Tryz.sizeOf20
  v20 := Tryz.zeroValue20
  t21 := Tryz.underlying21
  a21 := Tryz.isAgg21
  z21 := Tryz.sizeOf21
  v21 := Tryz.zeroValue21
  t37 := Tryz.underlying55
  a37 := Tryz.isAgg55
  z37 := Tryz.sizeOf55
  v37 := Tryz.zeroValue55
  t46 := Tryz.underlying165
  a46 := Tryz.isAgg165
  z46 := Tryz.sizeOf165
  v46 := Tryz.zeroValue165
  t51 := Tryz.underlying176
  a51 := Tryz.isAgg176
  z51 := Tryz.sizeOf176
  v51 := Tryz.zeroValue176
  t70 := Tryz.underlying76
  a70 := Tryz.isAgg76
  z70 := Tryz.sizeOf76
  v70 := Tryz.zeroValue76
  t72 := Tryz.underlying78
  a72 := Tryz.isAgg78
  z72 := Tryz.sizeOf78
  v72 := Tryz.zeroValue78
  t75 := Tryz.underlying81
  a75 := Tryz.isAgg81
  z75 := Tryz.sizeOf81
  v75 := Tryz.zeroValue81
  t76 := Tryz.underlying82
  a76 := Tryz.isAgg82
  z76 := Tryz.sizeOf82
  v76 := Tryz.zeroValue82
  t105 := Tryz.underlying119
  a105 := Tryz.isAgg119
  z105 := Tryz.sizeOf119
  v105 := Tryz.zeroValue119
  t107 := Tryz.underlying87
  a107 := Tryz.isAgg87
  z107 := Tryz.sizeOf87
  v107 := Tryz.zeroValue87
  t119 := Tryz.underlying172
  a119 := Tryz.isAgg172
  z119 := Tryz.sizeOf172
  t127 := Tryz.underlying118
  a127 := Tryz.isAgg118
  z127 := Tryz.sizeOf118
  v127 := Tryz.zeroValue118
  t138 := Tryz.underlying174
  a138 := Tryz.isAgg174
  z138 := Tryz.sizeOf174
  v138 := Tryz.zeroValue174
  t139 := Tryz.underlying175
  a139 := Tryz.isAgg175
  z139 := Tryz.sizeOf175
  v139 := Tryz.zeroValue175
  t160 := Tryz.underlying177
  a160 := Tryz.isAgg177
  z160 := Tryz.sizeOf177
  v160 := Tryz.zeroValue177
  t162 := Tryz.underlying157
  a162 := Tryz.isAgg157
  z162 := Tryz.sizeOf157
  v162 := Tryz.zeroValue157
  t164 := Tryz.underlying151
  a164 := Tryz.isAgg151
  z164 := Tryz.sizeOf151
  v164 := Tryz.zeroValue151
  t203 := Tryz.underlying155
  a203 := Tryz.isAgg155
  z203 := Tryz.sizeOf155
  v203 := Tryz.zeroValue155
  t206 := Tryz.underlying189
  a206 := Tryz.isAgg189
  z206 := Tryz.sizeOf189
  v206 := Tryz.zeroValue189
  t208 := Tryz.underlying191
  a208 := Tryz.isAgg191
  z208 := Tryz.sizeOf191
  v208 := Tryz.zeroValue191
  g3 := by kernel_rfl
  g4 := by kernel_rfl
  g13 := by kernel_rfl }
theorem Tryz.Builder_Extra_159 : Builder.Extra Tryz.prog Tryz.lays159_ren := {
  sizeBuilder := by kernel_rfl
  liesBuilder := by kernel_rfl
  t5 := Tryz.underlying5
  a5 := Tryz.isAgg5
  z5 := Tryz.sizeOf5
  v5 := Tryz.zeroValue5
  infoByte := by kernel_rfl
  cellsByte := by kernel_rfl
  sizeByte := by kernel_rfl
  neB5 := by decide }
open Go.RowKit in
/-- strings.ToLower: "ToLower returns s with all Unicode letters mapped to their lower case.": ON ASCII TEXT OF AT MOST 2^47 BYTES. Below the heap's end the world is as it was: where a letter turns, the call makes a builder and its buffer. (LAID: no walk: one application.) -/
theorem Tryz.strings_ToLower_ascii (s : ByteArray) (w : World) (hs : s.size ≤ 140737488355328) (hascii : ∀ (j : Nat) (b : UInt8), s.data.toList[j]? = some b → b.toNat < 128) :
    Calls Tryz.prog 17 #[.string s] w fun e w' => e = .returned (.string ⟨(Lib.toLowerA s.data.toList).toArray⟩) ∧ Below w.heap.size w w' := Any.strings_ToLower_ascii Tryz.lays159 Tryz.Builder_Extra_159 s w hs hascii
def Tryz.laysNm217_ren : Go.Shelf.Ren := ⟨fun | 17 => 16 | n => n, fun | 24 => 42 | 9 => 9 | 3 => 3 | 4 => 4 | 0 => 0 | n => n, fun | n => n⟩
theorem Tryz.laysNm217 : Go.Proofs.Lays2.n17 Tryz.prog Tryz.laysNm217_ren := {
  mixed := by kernel_rfl
  f17 := Tryz.func16.trans (congrArg some (by kernel_rfl))
  t0 := Tryz.underlying0
  a0 := Tryz.isAgg0
  z0 := Tryz.sizeOf0
  v0 := Tryz.zeroValue0
  t3 := Tryz.underlying3
  a3 := Tryz.isAgg3
  z3 := Tryz.sizeOf3
  v3 := Tryz.zeroValue3
  t4 := Tryz.underlying4
  a4 := Tryz.isAgg4
  z4 := Tryz.sizeOf4
  v4 := Tryz.zeroValue4
  t9 := Tryz.underlying9
  a9 := Tryz.isAgg9
  z9 := Tryz.sizeOf9
  v9 := Tryz.zeroValue9
  t24 := Tryz.underlying42
  a24 := Tryz.isAgg42
  z24 := Tryz.sizeOf42
  v24 := Tryz.zeroValue42 }
open Go.RowKit Go.Lib Go.Sort in
/-- slices.Reverse at []string: "Reverse reverses the elements of the slice in place.": THE SLICE's CELLS HOLD 'zs.reverse' BEHIND THE CALL; all else is as it was, but for the count of draws (the exchange 's[i], s[j] = s[j], s[i]' draws its order, once a round). IN THE WORDS OF slices.Sort's CONTRACT: 'Holds': the cells hold zs and none is frozen; 'putRow': the world with those cells holding another array. A slice of length 0 that is not nil is among them ('zs = []'); nil: '.._nil'. (LAID: no walk: one application.) -/
theorem Tryz.slices_Reverse_string (blk off cap : Nat) (zs : List (List UInt8)) (w : World) (hH : Holds encStr w blk off zs.toArray) (hsz : zs.length ≤ 9223372036854775807) :
    Calls Tryz.prog 16 #[.slice (some ⟨blk, off, none⟩) zs.length cap] w fun e w' => e = .returned (.tuple #[]) ∧ ∃ n, w' = putRow encStr (Sort.ahead w n) blk off zs.reverse.toArray := Any.slices_Reverse_string Tryz.laysNm217 blk off cap zs w hH hsz
open Go.RowKit Go.Lib Go.Sort in
/-- The same at a slice of length 0, a nil one too: nothing is read, nothing written, nothing drawn. (LAID: no walk: one application.) -/
theorem Tryz.slices_Reverse_string_empty (a : Option Addr) (cap : Nat) (w : World) :
    Calls Tryz.prog 16 #[.slice a 0 cap] w fun e w' => e = .returned (.tuple #[]) ∧ w' = w := Any.slices_Reverse_string_empty Tryz.laysNm217 a cap w
end Go.Proofs
