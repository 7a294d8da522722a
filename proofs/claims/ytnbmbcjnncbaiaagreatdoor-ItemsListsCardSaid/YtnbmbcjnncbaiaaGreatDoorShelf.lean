/-
  The library's contracts at this dump, written by the kit's lay-plain tool: those that this claim uses. Conditions: as each states.
-/
import Derived.Shelf.Small.Wraps
import Derived.Shelf.Strings.Search1
import Derived.Shelf.Strings.Search2
import Derived.Shelf.Strings.Search3
import Derived.Shelf.Strings.Cut
import Derived.Shelf.Strings.Count
import Derived.Shelf.LaysM
import Derived.Shelf.Strings.Shaped
import Derived.Shelf.Strings.Prefix
import Derived.Shelf.Strings.Split
import Derived.Shelf.Strings.Fields
import Derived.Shelf.Strings.SplitShaped
import Derived.Shelf.Unicode.Latin
import Derived.Shelf.Unicode.DecodeSlow
import Derived.Shelf.Unicode.Is16White
import Derived.Shelf.Unicode.IsSpaceAny
import Derived.Shelf.Unicode.Is16Any
import Derived.Shelf.Unicode.Is32Any
import Derived.Shelf.Unicode.ExclAny
import Derived.Shelf.Slices.Turned
import Derived.Shelf.Slices.Equal
import Derived.Shelf.Slices.Empties2
import Derived.Test.YtnbmbcjnncbaiaaGreatDoorProg
namespace Go.Proofs
open Go.Shelf
def Tryz.lays103_ren : Go.Shelf.Ren := ⟨fun | 103 => 219 | 210 => 228 | 206 => 190 | n => n, fun | 9 => 9 | 4 => 4 | 24 => 208 | 3 => 3 | n => n, fun | n => n⟩
theorem Tryz.lays103 : Go.Proofs.Lays.n103 Tryz.prog Tryz.lays103_ren := {
  mixed := by kernel_rfl
  f103 := Tryz.func219.trans (congrArg some (by kernel_rfl))
  f206 := Tryz.func190.trans (congrArg some (by kernel_rfl))
  f210 := Tryz.func228.trans (congrArg some (by kernel_rfl))
  t3 := Tryz.underlying3
  a3 := Tryz.isAgg3
  z3 := Tryz.sizeOf3
  v3 := Tryz.zeroValue3
  t4 := Tryz.underlying4
  a4 := Tryz.isAgg4
  z4 := Tryz.sizeOf4
  v4 := Tryz.zeroValue4
  t9 := Tryz.underlying9
  a9 := Tryz.isAgg9
  z9 := Tryz.sizeOf9
  v9 := Tryz.zeroValue9
  t24 := Tryz.underlying208
  a24 := Tryz.isAgg208
  z24 := Tryz.sizeOf208
  v24 := Tryz.zeroValue208 }
open Go.RowKit in
/-- strings.CutPrefix: "CutPrefix returns s without the provided leading prefix string and reports whether it found the prefix. If s doesn't start with prefix, CutPrefix returns s, false. If prefix is the empty string, CutPrefix returns s, true.": IT RETURNS '(Lib.trimPrefix s p, Lib.hasPrefix s p)'; the world is as it was. (LAID: no walk: one application.) -/
theorem Tryz.strings_CutPrefix (s p : ByteArray) (w : World) :
    Calls Tryz.prog 219 #[.string s, .string p] w fun e w' => e = .returned (.tuple #[.string ⟨(Lib.trimPrefix s.data.toList p.data.toList).toArray⟩, .bool (Lib.hasPrefix s.data.toList p.data.toList)]) ∧ w' = w := Any.strings_CutPrefix Tryz.lays103 s p w
def Tryz.lays144_ren : Go.Shelf.Ren := ⟨fun | 144 => 171 | 143 => 112 | 219 => 150 | 217 => 177 | 225 => 178 | 224 => 179 | 267 => 180 | 266 => 203 | 314 => 204 | n => n, fun | 9 => 9 | 4 => 4 | 3 => 3 | 5 => 5 | 46 => 148 | 146 => 239 | 51 => 238 | n => n, fun | 1 => 0 | n => n⟩
theorem Tryz.lays144 : Go.Proofs.Lays.n144 Tryz.prog Tryz.lays144_ren := {
  mixed := by kernel_rfl
  f143 := Tryz.func112.trans (congrArg some (by kernel_rfl))
  f144 := Tryz.func171.trans (congrArg some (by kernel_rfl))
  f217 := Tryz.func177.trans (congrArg some (by kernel_rfl))
  f219 := Tryz.func150.trans (congrArg some (by kernel_rfl))
  f224 := Tryz.func179.trans (congrArg some (by kernel_rfl))
  f225 := Tryz.func178.trans (congrArg some (by kernel_rfl))
  f266 := Tryz.func203.trans (congrArg some (by kernel_rfl))
  f267 := Tryz.func180.trans (congrArg some (by kernel_rfl))
  f314 := Tryz.func204.trans (congrArg some (by kernel_rfl))
  t3 := Tryz.underlying3
  a3 := Tryz.isAgg3
  z3 := Tryz.sizeOf3
  v3 := Tryz.zeroValue3
  t4 := Tryz.underlying4
  a4 := Tryz.isAgg4
  z4 := Tryz.sizeOf4
  v4 := Tryz.zeroValue4
  t5 := Tryz.underlying5
  a5 := Tryz.isAgg5
  z5 := Tryz.sizeOf5
  v5 := Tryz.zeroValue5
  t9 := Tryz.underlying9
  a9 := Tryz.isAgg9
  z9 := Tryz.sizeOf9
  v9 := Tryz.zeroValue9
  t46 := Tryz.underlying148
  a46 := Tryz.isAgg148
  z46 := Tryz.sizeOf148
  v46 := Tryz.zeroValue148
  t51 := Tryz.underlying238
  a51 := Tryz.isAgg238
  z51 := Tryz.sizeOf238
  v51 := Tryz.zeroValue238
  t146 := Tryz.underlying239
  a146 := Tryz.isAgg239
  z146 := Tryz.sizeOf239
  v146 := Tryz.zeroValue239
  g1 := by kernel_rfl }
open Go.RowKit Go.Lib in
/-- strings.Contains: "Contains reports whether substr is within s.": AT A substr OF ONE BYTE c: IT RETURNS 'decide (0 ≤ Lib.indexByte s c)'; the world is as it was. (LAID: no walk: one application.) -/
theorem Tryz.strings_Contains_one (s : ByteArray) (c : UInt8) (w : World) :
    Calls Tryz.prog 171 #[.string s, .string ⟨#[c]⟩] w fun e w' => e = .returned (.bool (decide (0 ≤ Lib.indexByte s.data.toList c))) ∧ w' = w := Any.strings_Contains_one Tryz.lays144 s c w
def Tryz.lays145_ren : Go.Shelf.Ren := ⟨fun | 145 => 185 | 220 => 216 | 219 => 150 | 217 => 177 | 225 => 178 | 224 => 179 | 267 => 180 | 266 => 203 | 314 => 204 | n => n, fun | 9 => 9 | 4 => 4 | 59 => 232 | 3 => 3 | 5 => 5 | 46 => 148 | 146 => 239 | 51 => 238 | n => n, fun | 1 => 0 | n => n⟩
theorem Tryz.lays145 : Go.Proofs.Lays.n145 Tryz.prog Tryz.lays145_ren := {
  mixed := by kernel_rfl
  f145 := Tryz.func185.trans (congrArg some (by kernel_rfl))
  f217 := Tryz.func177.trans (congrArg some (by kernel_rfl))
  f219 := Tryz.func150.trans (congrArg some (by kernel_rfl))
  f220 := Tryz.func216.trans (congrArg some (by kernel_rfl))
  f224 := Tryz.func179.trans (congrArg some (by kernel_rfl))
  f225 := Tryz.func178.trans (congrArg some (by kernel_rfl))
  f266 := Tryz.func203.trans (congrArg some (by kernel_rfl))
  f267 := Tryz.func180.trans (congrArg some (by kernel_rfl))
  f314 := Tryz.func204.trans (congrArg some (by kernel_rfl))
  t3 := Tryz.underlying3
  a3 := Tryz.isAgg3
  z3 := Tryz.sizeOf3
  v3 := Tryz.zeroValue3
  t4 := Tryz.underlying4
  a4 := Tryz.isAgg4
  z4 := Tryz.sizeOf4
  v4 := Tryz.zeroValue4
  t5 := Tryz.underlying5
  a5 := Tryz.isAgg5
  z5 := Tryz.sizeOf5
  v5 := Tryz.zeroValue5
  t9 := Tryz.underlying9
  a9 := Tryz.isAgg9
  z9 := Tryz.sizeOf9
  v9 := Tryz.zeroValue9
  t46 := Tryz.underlying148
  a46 := Tryz.isAgg148
  z46 := Tryz.sizeOf148
  v46 := Tryz.zeroValue148
  t51 := Tryz.underlying238
  a51 := Tryz.isAgg238
  z51 := Tryz.sizeOf238
  v51 := Tryz.zeroValue238
  t59 := Tryz.underlying232
  a59 := Tryz.isAgg232
  z59 := Tryz.sizeOf232
  v59 := Tryz.zeroValue232
  t146 := Tryz.underlying239
  a146 := Tryz.isAgg239
  z146 := Tryz.sizeOf239
  v146 := Tryz.zeroValue239
  g1 := by kernel_rfl }
open Go.RowKit Go.Lib in
/-- strings.Cut: "Cut slices s around the first instance of sep, returning the text before and after sep. The found result reports whether sep appears in s. If sep does not appear in s, cut returns s, "", false.": IT RETURNS 'Lib.cut s sep'; the world is as it was but for the count of draws. (LAID: no walk: one application.) -/
theorem Tryz.strings_Cut (s sep : ByteArray) (m : Int) (w : World) (hs : s.size < 4294967281) (hm : w.cell? ⟨0, 0, none⟩ = some (.int .i64 m)) :
    Calls Tryz.prog 185 #[.string s, .string sep] w fun e w' => e = .returned (.tuple #[.string ⟨(Lib.cut s.data.toList sep.data.toList).1.toArray⟩, .string ⟨(Lib.cut s.data.toList sep.data.toList).2.1.toArray⟩, .bool (Lib.cut s.data.toList sep.data.toList).2.2]) ∧ ∃ n, w' = w.drewN n := Any.strings_Cut Tryz.lays145 s sep m w hs hm
def Tryz.lays138_ren : Go.Shelf.Ren := ⟨fun | 138 => 81 | 195 => 110 | 218 => 111 | 143 => 112 | 219 => 150 | 217 => 177 | 225 => 178 | 224 => 179 | 267 => 180 | 266 => 203 | 314 => 204 | n => n, fun | 9 => 9 | 3 => 3 | 4 => 4 | 5 => 5 | 0 => 0 | 46 => 148 | 146 => 239 | 51 => 238 | n => n, fun | 1 => 0 | n => n⟩
theorem Tryz.lays138 : Go.Proofs.Lays.n138 Tryz.prog Tryz.lays138_ren := {
  mixed := by kernel_rfl
  f138 := Tryz.func81.trans (congrArg some (by kernel_rfl))
  f143 := Tryz.func112.trans (congrArg some (by kernel_rfl))
  f195 := Tryz.func110.trans (congrArg some (by kernel_rfl))
  f217 := Tryz.func177.trans (congrArg some (by kernel_rfl))
  f218 := Tryz.func111.trans (congrArg some (by kernel_rfl))
  f219 := Tryz.func150.trans (congrArg some (by kernel_rfl))
  f224 := Tryz.func179.trans (congrArg some (by kernel_rfl))
  f225 := Tryz.func178.trans (congrArg some (by kernel_rfl))
  f266 := Tryz.func203.trans (congrArg some (by kernel_rfl))
  f267 := Tryz.func180.trans (congrArg some (by kernel_rfl))
  f314 := Tryz.func204.trans (congrArg some (by kernel_rfl))
  t0 := Tryz.underlying0
  a0 := Tryz.isAgg0
  z0 := Tryz.sizeOf0
  v0 := Tryz.zeroValue0
  t3 := Tryz.underlying3
  a3 := Tryz.isAgg3
  z3 := Tryz.sizeOf3
  v3 := Tryz.zeroValue3
  t4 := Tryz.underlying4
  a4 := Tryz.isAgg4
  z4 := Tryz.sizeOf4
  v4 := Tryz.zeroValue4
  t5 := Tryz.underlying5
  a5 := Tryz.isAgg5
  z5 := Tryz.sizeOf5
  v5 := Tryz.zeroValue5
  t9 := Tryz.underlying9
  a9 := Tryz.isAgg9
  z9 := Tryz.sizeOf9
  v9 := Tryz.zeroValue9
  t46 := Tryz.underlying148
  a46 := Tryz.isAgg148
  z46 := Tryz.sizeOf148
  v46 := Tryz.zeroValue148
  t51 := Tryz.underlying238
  a51 := Tryz.isAgg238
  z51 := Tryz.sizeOf238
  v51 := Tryz.zeroValue238
  t146 := Tryz.underlying239
  a146 := Tryz.isAgg239
  z146 := Tryz.sizeOf239
  v146 := Tryz.zeroValue239
  g1 := by kernel_rfl }
open Go.RowKit Go.Lib in
/-- strings.Count AT A substr OF ONE BYTE ('hp'): "Count counts the number of non-overlapping instances of substr in s.": IT RETURNS 'Lib.countByte s (that byte)'; the world is as it was. ✋ NO CONTRACT HERE YET at an empty substr (utf8.RuneCountInString) or at a longer one (a loop over strings.Index). (LAID: no walk: one application.) -/
theorem Tryz.strings_Count_one (s : ByteArray) (c : UInt8) (w : World) :
    Calls Tryz.prog 81 #[.string s, .string ⟨#[c]⟩] w fun e w' => e = .returned (.int .i64 (Lib.countByte s.data.toList c)) ∧ w' = w := Any.strings_Count_one Tryz.lays138 s c w
def Tryz.lays102_ren : Go.Shelf.Ren := ⟨fun | 102 => 221 | 209 => 231 | 207 => 238 | n => n, fun | 9 => 9 | 4 => 4 | 3 => 3 | n => n, fun | n => n⟩
theorem Tryz.lays102 : Go.Proofs.Lays.n102 Tryz.prog Tryz.lays102_ren := {
  mixed := by kernel_rfl
  f102 := Tryz.func221.trans (congrArg some (by kernel_rfl))
  f207 := Tryz.func238.trans (congrArg some (by kernel_rfl))
  f209 := Tryz.func231.trans (congrArg some (by kernel_rfl))
  t3 := Tryz.underlying3
  a3 := Tryz.isAgg3
  z3 := Tryz.sizeOf3
  v3 := Tryz.zeroValue3
  t4 := Tryz.underlying4
  a4 := Tryz.isAgg4
  z4 := Tryz.sizeOf4
  v4 := Tryz.zeroValue4
  t9 := Tryz.underlying9
  a9 := Tryz.isAgg9
  z9 := Tryz.sizeOf9
  v9 := Tryz.zeroValue9 }
open Go.RowKit Go.Lib in
/-- strings.TrimSuffix: "TrimSuffix returns s without the provided trailing suffix string. If s doesn't end with suffix, s is returned unchanged.": IT RETURNS 'Lib.trimSuffix s suffix'; the world is as it was. (LAID: no walk: one application.) -/
theorem Tryz.strings_TrimSuffix (s p : ByteArray) (w : World) (hs : s.size ≤ 9223372036854775807) :
    Calls Tryz.prog 221 #[.string s, .string p] w fun e w' => e = .returned (.string ⟨(Lib.trimSuffix s.data.toList p.data.toList).toArray⟩) ∧ w' = w := Any.strings_TrimSuffix Tryz.lays102 s p w hs
def Tryz.lays146_ren : Go.Shelf.Ren := ⟨fun | 146 => 191 | 221 => 218 | 268 => 227 | 138 => 81 | 143 => 112 | 195 => 110 | 197 => 237 | 218 => 111 | 219 => 150 | 260 => 243 | 217 => 177 | 225 => 178 | 224 => 179 | 267 => 180 | 266 => 203 | 314 => 204 | n => n, fun | 9 => 9 | 31 => 42 | 3 => 3 | 4 => 4 | 0 => 0 | 105 => 269 | 21 => 21 | 5 => 5 | 46 => 148 | 119 => 241 | 139 => 286 | 138 => 285 | 146 => 239 | 51 => 238 | n => n, fun | 1 => 0 | 3 => 4 | 4 => 5 | n => n⟩
theorem Tryz.lays146 : Go.Proofs.Lays.n146 Tryz.prog Tryz.lays146_ren := {
  mixed := by kernel_rfl
  f138 := Tryz.func81.trans (congrArg some (by kernel_rfl))
  f143 := Tryz.func112.trans (congrArg some (by kernel_rfl))
  f146 := Tryz.func191.trans (congrArg some (by kernel_rfl))
  f195 := Tryz.func110.trans (congrArg some (by kernel_rfl))
  f197 := Tryz.func237.trans (congrArg some (by kernel_rfl))
  f217 := Tryz.func177.trans (congrArg some (by kernel_rfl))
  f218 := Tryz.func111.trans (congrArg some (by kernel_rfl))
  f219 := Tryz.func150.trans (congrArg some (by kernel_rfl))
  f221 := Tryz.func218.trans (congrArg some (by kernel_rfl))
  f224 := Tryz.func179.trans (congrArg some (by kernel_rfl))
  f225 := Tryz.func178.trans (congrArg some (by kernel_rfl))
  f260 := Tryz.func243.trans (congrArg some (by kernel_rfl))
  f266 := Tryz.func203.trans (congrArg some (by kernel_rfl))
  f267 := Tryz.func180.trans (congrArg some (by kernel_rfl))
  f268 := Tryz.func227.trans (congrArg some (by kernel_rfl))
  f314 := Tryz.func204.trans (congrArg some (by kernel_rfl))
  t0 := Tryz.underlying0
  a0 := Tryz.isAgg0
  z0 := Tryz.sizeOf0
  v0 := Tryz.zeroValue0
  t3 := Tryz.underlying3
  a3 := Tryz.isAgg3
  z3 := Tryz.sizeOf3
  v3 := Tryz.zeroValue3
  t4 := Tryz.underlying4
  a4 := Tryz.isAgg4
  z4 := Tryz.sizeOf4
  v4 := Tryz.zeroValue4
  t5 := Tryz.underlying5
  a5 := Tryz.isAgg5
  z5 := Tryz.sizeOf5
  v5 := Tryz.zeroValue5
  t9 := Tryz.underlying9
  a9 := Tryz.isAgg9
  z9 := Tryz.sizeOf9
  v9 := Tryz.zeroValue9
  t21 := Tryz.underlying21
  a21 := Tryz.isAgg21
  z21 := Tryz.sizeOf21
  v21 := Tryz.zeroValue21
  t31 := Tryz.underlying42
  a31 := Tryz.isAgg42
  z31 := Tryz.sizeOf42
  v31 := Tryz.zeroValue42
  t46 := Tryz.underlying148
  a46 := Tryz.isAgg148
  z46 := Tryz.sizeOf148
  v46 := Tryz.zeroValue148
  t51 := Tryz.underlying238
  a51 := Tryz.isAgg238
  z51 := Tryz.sizeOf238
  v51 := Tryz.zeroValue238
  t105 := Tryz.underlying269
  a105 := Tryz.isAgg269
  z105 := Tryz.sizeOf269
  v105 := Tryz.zeroValue269
  t119 := Tryz.underlying241
  a119 := Tryz.isAgg241
  z119 := Tryz.sizeOf241
  t138 := Tryz.underlying285
  a138 := Tryz.isAgg285
  z138 := Tryz.sizeOf285
  v138 := Tryz.zeroValue285
  t139 := Tryz.underlying286
  a139 := Tryz.isAgg286
  z139 := Tryz.sizeOf286
  v139 := Tryz.zeroValue286
  t146 := Tryz.underlying239
  a146 := Tryz.isAgg239
  z146 := Tryz.sizeOf239
  v146 := Tryz.zeroValue239
  g1 := by kernel_rfl
  g3 := by kernel_rfl
  g4 := by kernel_rfl }
open Go.RowKit Go.Lib in
/-- strings.Split. (LAID: no walk: one application.) -/
theorem Tryz.strings_Split (s sep : ByteArray) (m : Int) (w : World) (hs : s.size < 4294967281) (hm : w.cell? ⟨0, 0, none⟩ = some (.int .i64 m)) (h1 : 1 ≤ sep.size) :
    Calls Tryz.prog 191 #[.string s, .string sep] w fun e w' =>
      e = .returned (.slice (some ⟨w.heap.size, 0, none⟩) (Lib.countB s sep + 1) (Lib.countB s sep + 1)) ∧ w' = w.alloc (.cells ((Lib.splitB sep 0 (Lib.countB s sep) s).map Value.string).toArray 9) := Any.strings_Split Tryz.lays146 (by kernel_rfl) s sep m w hs hm h1
def Tryz.lays157_ren : Go.Shelf.Ren := ⟨fun | 157 => 181 | 229 => 205 | 199 => 206 | 261 => 224 | 311 => 233 | 312 => 234 | n => n, fun | 9 => 9 | 31 => 42 | 3 => 3 | 5 => 5 | 4 => 4 | 119 => 241 | 0 => 0 | 40 => 243 | 152 => 249 | 21 => 21 | 154 => 251 | 51 => 238 | 141 => 253 | 196 => 261 | 193 => 258 | 198 => 264 | 49 => 262 | 194 => 259 | 201 => 267 | 226 => 272 | 46 => 148 | 227 => 273 | n => n, fun | 0 => 1 | 6 => 2 | n => n⟩
theorem Tryz.lays157 : Go.Proofs.Lays.n157 Tryz.prog Tryz.lays157_ren := {
  mixed := by kernel_rfl
  f157 := Tryz.func181.trans (congrArg some (by kernel_rfl))
  f199 := Tryz.func206.trans (congrArg some (by kernel_rfl))
  f229 := Tryz.func205.trans (congrArg some (by kernel_rfl))
  f261 := Tryz.func224.trans (congrArg some (by kernel_rfl))
  f311 := Tryz.func233.trans (congrArg some (by kernel_rfl))
  f312 := Tryz.func234.trans (congrArg some (by kernel_rfl))
  t0 := Tryz.underlying0
  a0 := Tryz.isAgg0
  z0 := Tryz.sizeOf0
  v0 := Tryz.zeroValue0
  t3 := Tryz.underlying3
  a3 := Tryz.isAgg3
  z3 := Tryz.sizeOf3
  v3 := Tryz.zeroValue3
  t4 := Tryz.underlying4
  a4 := Tryz.isAgg4
  z4 := Tryz.sizeOf4
  v4 := Tryz.zeroValue4
  t5 := Tryz.underlying5
  a5 := Tryz.isAgg5
  z5 := Tryz.sizeOf5
  v5 := Tryz.zeroValue5
  t9 := Tryz.underlying9
  a9 := Tryz.isAgg9
  z9 := Tryz.sizeOf9
  v9 := Tryz.zeroValue9
  t21 := Tryz.underlying21
  a21 := Tryz.isAgg21
  z21 := Tryz.sizeOf21
  v21 := Tryz.zeroValue21
  t31 := Tryz.underlying42
  a31 := Tryz.isAgg42
  z31 := Tryz.sizeOf42
  v31 := Tryz.zeroValue42
  t40 := Tryz.underlying243
  a40 := Tryz.isAgg243
  z40 := Tryz.sizeOf243
  v40 := Tryz.zeroValue243
  t46 := Tryz.underlying148
  a46 := Tryz.isAgg148
  z46 := Tryz.sizeOf148
  v46 := Tryz.zeroValue148
  t49 := Tryz.underlying262
  a49 := Tryz.isAgg262
  z49 := Tryz.sizeOf262
  v49 := Tryz.zeroValue262
  t51 := Tryz.underlying238
  a51 := Tryz.isAgg238
  z51 := Tryz.sizeOf238
  v51 := Tryz.zeroValue238
  t119 := Tryz.underlying241
  a119 := Tryz.isAgg241
  z119 := Tryz.sizeOf241
  t141 := Tryz.underlying253
  a141 := Tryz.isAgg253
  z141 := Tryz.sizeOf253
  v141 := Tryz.zeroValue253
  t152 := Tryz.underlying249
  a152 := Tryz.isAgg249
  z152 := Tryz.sizeOf249
  v152 := Tryz.zeroValue249
  t154 := Tryz.underlying251
  a154 := Tryz.isAgg251
  z154 := Tryz.sizeOf251
  v154 := Tryz.zeroValue251
  t193 := Tryz.underlying258
  a193 := Tryz.isAgg258
  z193 := Tryz.sizeOf258
  v193 := Tryz.zeroValue258
  t194 := Tryz.underlying259
  a194 := Tryz.isAgg259
  z194 := Tryz.sizeOf259
  v194 := Tryz.zeroValue259
  t196 := Tryz.underlying261
  a196 := Tryz.isAgg261
  z196 := Tryz.sizeOf261
  v196 := Tryz.zeroValue261
  t198 := Tryz.underlying264
  a198 := Tryz.isAgg264
  z198 := Tryz.sizeOf264
  v198 := Tryz.zeroValue264
  t201 := Tryz.underlying267
  a201 := Tryz.isAgg267
  z201 := Tryz.sizeOf267
  v201 := Tryz.zeroValue267
  t226 := Tryz.underlying272
  a226 := Tryz.isAgg272
  z226 := Tryz.sizeOf272
  v226 := Tryz.zeroValue272
  t227 := Tryz.underlying273
  a227 := Tryz.isAgg273
  z227 := Tryz.sizeOf273
  v227 := Tryz.zeroValue273
  g0 := by kernel_rfl
  g6 := by kernel_rfl }
open Go.RowKit Go.Lib in
/-- strings.Fields, the table by 'Lib.TabIs' (as strings.TrimSpace's contract). 'hg': the table's number, by its name: at a dump 'by kernel_rfl'. (LAID: no walk: one application.) -/
theorem Tryz.strings_Fields (s : ByteArray) (w : World) (hs : s.size < 4294967281) (hascii : ∀ (j : Nat) b, s.data.toList[j]? = some b → b.toNat < 128) (htab : Lib.TabIs Tryz.prog w "strings.asciiSpace" .u8 Lib.asciiSpaceTab) :
    Calls Tryz.prog 181 #[.string s] w fun e w' =>
      e = .returned (.slice (some ⟨w.heap.size, 0, none⟩) (Lib.fields s.data.toList).length (Lib.fields s.data.toList).length) ∧ w' = w.alloc (.cells ((Lib.fields s.data.toList).map fun l => Value.string ⟨l.toArray⟩).toArray 9) := Any.strings_Fields Tryz.lays157 (by kernel_rfl) (by kernel_rfl) s w hs hascii htab
def Tryz.lays107_ren : Go.Shelf.Ren := ⟨fun | 107 => 188 | 108 => 217 | n => n, fun | 28 => 56 | 3 => 3 | 4 => 4 | 0 => 0 | n => n, fun | n => n⟩
theorem Tryz.lays107 : Go.Proofs.Lays.n107 Tryz.prog Tryz.lays107_ren := {
  mixed := by kernel_rfl
  f107 := Tryz.func188.trans (congrArg some (by kernel_rfl))
  f108 := Tryz.func217.trans (congrArg some (by kernel_rfl))
  t0 := Tryz.underlying0
  a0 := Tryz.isAgg0
  z0 := Tryz.sizeOf0
  v0 := Tryz.zeroValue0
  t3 := Tryz.underlying3
  a3 := Tryz.isAgg3
  z3 := Tryz.sizeOf3
  v3 := Tryz.zeroValue3
  t4 := Tryz.underlying4
  a4 := Tryz.isAgg4
  z4 := Tryz.sizeOf4
  v4 := Tryz.zeroValue4
  t28 := Tryz.underlying56
  a28 := Tryz.isAgg56
  z28 := Tryz.sizeOf56
  v28 := Tryz.zeroValue56 }
open Go.Lib in
/-- slices.Contains at []int: "Contains reports whether v is present in s.": IT RETURNS 'elements.contains v'; the world is as it was. ITS CALLEE slices.Index IS MET BY ITS OWN CONTRACT OFF THE SHELF (lay that first): no loop is walked here. (LAID: no walk: one application.) -/
theorem Tryz.slices_Contains_int (b off n c : Nat) (zs : List Int) (x : Int) (w : World) (hz : n ≤ zs.length) (hbig : n ≤ 9223372036854775807) (hc : ∀ j, j < zs.length → w.cell? ⟨b, off + j, none⟩ = some (.int .i64 (zs.getD j 0))) :
    Calls Tryz.prog 188 #[.slice (some ⟨b, off, none⟩) n c, .int .i64 x] w fun e w' => e = .returned (.bool ((zs.take n).contains x)) ∧ w' = w := Any.slices_Contains_int Tryz.lays107 b off n c zs x w hz hbig hc
open Go.Lib in
/-- The same at a slice of length 0, a nil one too. (LAID: no walk: one application.) -/
theorem Tryz.slices_Contains_int_empty (a : Option Addr) (c : Nat) (x : Int) (w : World) :
    Calls Tryz.prog 188 #[.slice a 0 c, .int .i64 x] w fun e w' => e = .returned (.bool false) ∧ w' = w := Any.slices_Contains_int_empty Tryz.lays107 a c x w
def Tryz.lays109_ren : Go.Shelf.Ren := ⟨fun | 109 => 187 | n => n, fun | 31 => 42 | 9 => 9 | 3 => 3 | 0 => 0 | 4 => 4 | n => n, fun | n => n⟩
theorem Tryz.lays109 : Go.Proofs.Lays.n109 Tryz.prog Tryz.lays109_ren := {
  mixed := by kernel_rfl
  f109 := Tryz.func187.trans (congrArg some (by kernel_rfl))
  t0 := Tryz.underlying0
  a0 := Tryz.isAgg0
  z0 := Tryz.sizeOf0
  v0 := Tryz.zeroValue0
  t3 := Tryz.underlying3
  a3 := Tryz.isAgg3
  z3 := Tryz.sizeOf3
  v3 := Tryz.zeroValue3
  t4 := Tryz.underlying4
  a4 := Tryz.isAgg4
  z4 := Tryz.sizeOf4
  v4 := Tryz.zeroValue4
  t9 := Tryz.underlying9
  a9 := Tryz.isAgg9
  z9 := Tryz.sizeOf9
  v9 := Tryz.zeroValue9
  t31 := Tryz.underlying42
  a31 := Tryz.isAgg42
  z31 := Tryz.sizeOf42
  v31 := Tryz.zeroValue42 }
open Go.Lib in
/-- slices.Index at []string: "Index returns the index of the first occurrence of v in s, or -1 if not present.": IT RETURNS 'Lib.idxOfS (the elements) v'; the world is as it was. 'zs': what the cells behind the slice's address hold (its spare capacity too, if you have it); 'zs.take n': its elements. (LAID: no walk: one application.) -/
theorem Tryz.slices_Index_string (b off n c : Nat) (zs : List ByteArray) (x : ByteArray) (w : World) (hz : n ≤ zs.length) (hbig : n ≤ 9223372036854775807) (hc : ∀ j, j < zs.length → w.cell? ⟨b, off + j, none⟩ = some (.string (zs.getD j ByteArray.empty))) :
    Calls Tryz.prog 187 #[.slice (some ⟨b, off, none⟩) n c, .string x] w fun e w' => e = .returned (.int .i64 (Lib.idxOfS (zs.take n) x)) ∧ w' = w := Any.slices_Index_string Tryz.lays109 b off n c zs x w hz hbig hc
open Go.Lib in
/-- The same at a slice of length 0, a nil one too: no cell is known, none is asked for. (LAID: no walk: one application.) -/
theorem Tryz.slices_Index_string_empty (a : Option Addr) (c : Nat) (x : ByteArray) (w : World) :
    Calls Tryz.prog 187 #[.slice a 0 c, .string x] w fun e w' => e = .returned (.int .i64 (Lib.idxOfS [] x)) ∧ w' = w := Any.slices_Index_string_empty Tryz.lays109 a c x w
def Tryz.lays110_ren : Go.Shelf.Ren := ⟨fun | 110 => 166 | 109 => 187 | n => n, fun | 31 => 42 | 9 => 9 | 4 => 4 | 3 => 3 | 0 => 0 | n => n, fun | n => n⟩
theorem Tryz.lays110 : Go.Proofs.Lays.n110 Tryz.prog Tryz.lays110_ren := {
  mixed := by kernel_rfl
  f109 := Tryz.func187.trans (congrArg some (by kernel_rfl))
  f110 := Tryz.func166.trans (congrArg some (by kernel_rfl))
  t0 := Tryz.underlying0
  a0 := Tryz.isAgg0
  z0 := Tryz.sizeOf0
  v0 := Tryz.zeroValue0
  t3 := Tryz.underlying3
  a3 := Tryz.isAgg3
  z3 := Tryz.sizeOf3
  v3 := Tryz.zeroValue3
  t4 := Tryz.underlying4
  a4 := Tryz.isAgg4
  z4 := Tryz.sizeOf4
  v4 := Tryz.zeroValue4
  t9 := Tryz.underlying9
  a9 := Tryz.isAgg9
  z9 := Tryz.sizeOf9
  v9 := Tryz.zeroValue9
  t31 := Tryz.underlying42
  a31 := Tryz.isAgg42
  z31 := Tryz.sizeOf42
  v31 := Tryz.zeroValue42 }
open Go.Lib in
/-- slices.Contains at []string: "Contains reports whether v is present in s.": IT RETURNS 'Lib.containsS (the elements) v', which is true just where v is among them ('Lib.containsS_iff'); the world is as it was. ITS CALLEE slices.Index IS MET BY ITS OWN CONTRACT OFF THE SHELF (lay that first): no loop is walked here. (LAID: no walk: one application.) -/
theorem Tryz.slices_Contains_string (b off n c : Nat) (zs : List ByteArray) (x : ByteArray) (w : World) (hz : n ≤ zs.length) (hbig : n ≤ 9223372036854775807) (hc : ∀ j, j < zs.length → w.cell? ⟨b, off + j, none⟩ = some (.string (zs.getD j ByteArray.empty))) :
    Calls Tryz.prog 166 #[.slice (some ⟨b, off, none⟩) n c, .string x] w fun e w' => e = .returned (.bool (Lib.containsS (zs.take n) x)) ∧ w' = w := Any.slices_Contains_string Tryz.lays110 b off n c zs x w hz hbig hc
open Go.Lib in
/-- The same at a slice of length 0, a nil one too. (LAID: no walk: one application.) -/
theorem Tryz.slices_Contains_string_empty (a : Option Addr) (c : Nat) (x : ByteArray) (w : World) :
    Calls Tryz.prog 166 #[.slice a 0 c, .string x] w fun e w' => e = .returned (.bool false) ∧ w' = w := Any.slices_Contains_string_empty Tryz.lays110 a c x w
end Go.Proofs
