/-
  The library's contracts at this dump, written by the kit's lay-plain tool: those that this claim uses. Conditions: as each states.
-/
import Derived.Shelf.Strings.Builder1
import Derived.Shelf.Strings.Builder2
import Derived.Shelf.Strings.OnBuilder
import Derived.Shelf.Small.Wraps
import Derived.Shelf.Strings.BuilderF
import Derived.Shelf.Strings.BuilderK
import Derived.Shelf.Strings.Builder2Cap
import Derived.Shelf.Strings.Search1
import Derived.Shelf.Strings.Search2
import Derived.Shelf.Strings.Search3
import Derived.Shelf.Strings.Cut
import Derived.Shelf.Strings.Count
import Derived.Shelf.LaysM
import Derived.Shelf.Strings.Shaped
import Derived.Shelf.Strings.Prefix
import Derived.Shelf.Strings.Split
import Derived.Shelf.Strings.Fields
import Derived.Shelf.Strings.SplitShaped
import Derived.Shelf.Unicode.Latin
import Derived.Shelf.Bits.Mul64
import Derived.Shelf.Strings.Repeat
import Derived.Shelf.Unicode.DecodeSlow
import Derived.Shelf.Unicode.Is16White
import Derived.Shelf.Unicode.IsSpaceAny
import Derived.Shelf.Unicode.Is16Any
import Derived.Shelf.Unicode.Is32Any
import Derived.Shelf.Unicode.ExclAny
import Derived.Shelf.Strings.BuilderCap
import Derived.Shelf.Slices.Turned
import Derived.Shelf.Slices.Equal
import Derived.Shelf.Slices.Empties2
import Derived.Test.YtpigbggoiipmhaaGreatDoorProg
namespace Go.Proofs
open Go.Shelf
open Go.RowKit in
open Go.RowKit in
open Go.RowKit in
open Go.RowKit in
open Go.RowKit in
def Tryz.lays103_ren : Go.Shelf.Ren := ⟨fun | 103 => 284 | 210 => 295 | 206 => 155 | n => n, fun | 9 => 9 | 4 => 4 | 24 => 285 | 3 => 3 | n => n, fun | n => n⟩
theorem Tryz.lays103 : Go.Proofs.Lays.n103 Tryz.prog Tryz.lays103_ren := {
  mixed := by kernel_rfl
  f103 := Tryz.func284.trans (congrArg some (by kernel_rfl))
  f206 := Tryz.func155.trans (congrArg some (by kernel_rfl))
  f210 := Tryz.func295.trans (congrArg some (by kernel_rfl))
  t3 := Tryz.underlying3
  a3 := Tryz.isAgg3
  z3 := Tryz.sizeOf3
  v3 := Tryz.zeroValue3
  t4 := Tryz.underlying4
  a4 := Tryz.isAgg4
  z4 := Tryz.sizeOf4
  v4 := Tryz.zeroValue4
  t9 := Tryz.underlying9
  a9 := Tryz.isAgg9
  z9 := Tryz.sizeOf9
  v9 := Tryz.zeroValue9
  t24 := Tryz.underlying285
  a24 := Tryz.isAgg285
  z24 := Tryz.sizeOf285
  v24 := Tryz.zeroValue285 }
open Go.RowKit in
/-- strings.CutPrefix: "CutPrefix returns s without the provided leading prefix string and reports whether it found the prefix. If s doesn't start with prefix, CutPrefix returns s, false. If prefix is the empty string, CutPrefix returns s, true.": IT RETURNS '(Lib.trimPrefix s p, Lib.hasPrefix s p)'; the world is as it was. (LAID: no walk: one application.) -/
theorem Tryz.strings_CutPrefix (s p : ByteArray) (w : World) :
    Calls Tryz.prog 284 #[.string s, .string p] w fun e w' => e = .returned (.tuple #[.string ⟨(Lib.trimPrefix s.data.toList p.data.toList).toArray⟩, .bool (Lib.hasPrefix s.data.toList p.data.toList)]) ∧ w' = w := Any.strings_CutPrefix Tryz.lays103 s p w
def Tryz.lays144_ren : Go.Shelf.Ren := ⟨fun | 144 => 238 | 143 => 260 | 219 => 280 | 217 => 289 | 225 => 290 | 224 => 291 | 267 => 292 | 266 => 299 | 314 => 300 | n => n, fun | 9 => 9 | 4 => 4 | 3 => 3 | 5 => 5 | 46 => 168 | 146 => 220 | 51 => 219 | n => n, fun | 1 => 2 | n => n⟩
theorem Tryz.lays144 : Go.Proofs.Lays.n144 Tryz.prog Tryz.lays144_ren := {
  mixed := by kernel_rfl
  f143 := Tryz.func260.trans (congrArg some (by kernel_rfl))
  f144 := Tryz.func238.trans (congrArg some (by kernel_rfl))
  f217 := Tryz.func289.trans (congrArg some (by kernel_rfl))
  f219 := Tryz.func280.trans (congrArg some (by kernel_rfl))
  f224 := Tryz.func291.trans (congrArg some (by kernel_rfl))
  f225 := Tryz.func290.trans (congrArg some (by kernel_rfl))
  f266 := Tryz.func299.trans (congrArg some (by kernel_rfl))
  f267 := Tryz.func292.trans (congrArg some (by kernel_rfl))
  f314 := Tryz.func300.trans (congrArg some (by kernel_rfl))
  t3 := Tryz.underlying3
  a3 := Tryz.isAgg3
  z3 := Tryz.sizeOf3
  v3 := Tryz.zeroValue3
  t4 := Tryz.underlying4
  a4 := Tryz.isAgg4
  z4 := Tryz.sizeOf4
  v4 := Tryz.zeroValue4
  t5 := Tryz.underlying5
  a5 := Tryz.isAgg5
  z5 := Tryz.sizeOf5
  v5 := Tryz.zeroValue5
  t9 := Tryz.underlying9
  a9 := Tryz.isAgg9
  z9 := Tryz.sizeOf9
  v9 := Tryz.zeroValue9
  t46 := Tryz.underlying168
  a46 := Tryz.isAgg168
  z46 := Tryz.sizeOf168
  v46 := Tryz.zeroValue168
  t51 := Tryz.underlying219
  a51 := Tryz.isAgg219
  z51 := Tryz.sizeOf219
  v51 := Tryz.zeroValue219
  t146 := Tryz.underlying220
  a146 := Tryz.isAgg220
  z146 := Tryz.sizeOf220
  v146 := Tryz.zeroValue220
  g1 := by kernel_rfl }
open Go.RowKit Go.Lib in
/-- strings.Contains: "Contains reports whether substr is within s.": AT A substr OF ONE BYTE c: IT RETURNS 'decide (0 ≤ Lib.indexByte s c)'; the world is as it was. (LAID: no walk: one application.) -/
theorem Tryz.strings_Contains_one (s : ByteArray) (c : UInt8) (w : World) :
    Calls Tryz.prog 238 #[.string s, .string ⟨#[c]⟩] w fun e w' => e = .returned (.bool (decide (0 ≤ Lib.indexByte s.data.toList c))) ∧ w' = w := Any.strings_Contains_one Tryz.lays144 s c w
def Tryz.lays145_ren : Go.Shelf.Ren := ⟨fun | 145 => 257 | 220 => 279 | 219 => 280 | 217 => 289 | 225 => 290 | 224 => 291 | 267 => 292 | 266 => 299 | 314 => 300 | n => n, fun | 9 => 9 | 4 => 4 | 59 => 311 | 3 => 3 | 5 => 5 | 46 => 168 | 146 => 220 | 51 => 219 | n => n, fun | 1 => 2 | n => n⟩
theorem Tryz.lays145 : Go.Proofs.Lays.n145 Tryz.prog Tryz.lays145_ren := {
  mixed := by kernel_rfl
  f145 := Tryz.func257.trans (congrArg some (by kernel_rfl))
  f217 := Tryz.func289.trans (congrArg some (by kernel_rfl))
  f219 := Tryz.func280.trans (congrArg some (by kernel_rfl))
  f220 := Tryz.func279.trans (congrArg some (by kernel_rfl))
  f224 := Tryz.func291.trans (congrArg some (by kernel_rfl))
  f225 := Tryz.func290.trans (congrArg some (by kernel_rfl))
  f266 := Tryz.func299.trans (congrArg some (by kernel_rfl))
  f267 := Tryz.func292.trans (congrArg some (by kernel_rfl))
  f314 := Tryz.func300.trans (congrArg some (by kernel_rfl))
  t3 := Tryz.underlying3
  a3 := Tryz.isAgg3
  z3 := Tryz.sizeOf3
  v3 := Tryz.zeroValue3
  t4 := Tryz.underlying4
  a4 := Tryz.isAgg4
  z4 := Tryz.sizeOf4
  v4 := Tryz.zeroValue4
  t5 := Tryz.underlying5
  a5 := Tryz.isAgg5
  z5 := Tryz.sizeOf5
  v5 := Tryz.zeroValue5
  t9 := Tryz.underlying9
  a9 := Tryz.isAgg9
  z9 := Tryz.sizeOf9
  v9 := Tryz.zeroValue9
  t46 := Tryz.underlying168
  a46 := Tryz.isAgg168
  z46 := Tryz.sizeOf168
  v46 := Tryz.zeroValue168
  t51 := Tryz.underlying219
  a51 := Tryz.isAgg219
  z51 := Tryz.sizeOf219
  v51 := Tryz.zeroValue219
  t59 := Tryz.underlying311
  a59 := Tryz.isAgg311
  z59 := Tryz.sizeOf311
  v59 := Tryz.zeroValue311
  t146 := Tryz.underlying220
  a146 := Tryz.isAgg220
  z146 := Tryz.sizeOf220
  v146 := Tryz.zeroValue220
  g1 := by kernel_rfl }
open Go.RowKit Go.Lib in
def Tryz.lays138_ren : Go.Shelf.Ren := ⟨fun | 138 => 294 | 195 => 301 | 218 => 303 | 143 => 260 | 219 => 280 | 217 => 289 | 225 => 290 | 224 => 291 | 267 => 292 | 266 => 299 | 314 => 300 | n => n, fun | 9 => 9 | 3 => 3 | 4 => 4 | 5 => 5 | 0 => 0 | 46 => 168 | 146 => 220 | 51 => 219 | n => n, fun | 1 => 2 | n => n⟩
theorem Tryz.lays138 : Go.Proofs.Lays.n138 Tryz.prog Tryz.lays138_ren := {
  mixed := by kernel_rfl
  f138 := Tryz.func294.trans (congrArg some (by kernel_rfl))
  f143 := Tryz.func260.trans (congrArg some (by kernel_rfl))
  f195 := Tryz.func301.trans (congrArg some (by kernel_rfl))
  f217 := Tryz.func289.trans (congrArg some (by kernel_rfl))
  f218 := Tryz.func303.trans (congrArg some (by kernel_rfl))
  f219 := Tryz.func280.trans (congrArg some (by kernel_rfl))
  f224 := Tryz.func291.trans (congrArg some (by kernel_rfl))
  f225 := Tryz.func290.trans (congrArg some (by kernel_rfl))
  f266 := Tryz.func299.trans (congrArg some (by kernel_rfl))
  f267 := Tryz.func292.trans (congrArg some (by kernel_rfl))
  f314 := Tryz.func300.trans (congrArg some (by kernel_rfl))
  t0 := Tryz.underlying0
  a0 := Tryz.isAgg0
  z0 := Tryz.sizeOf0
  v0 := Tryz.zeroValue0
  t3 := Tryz.underlying3
  a3 := Tryz.isAgg3
  z3 := Tryz.sizeOf3
  v3 := Tryz.zeroValue3
  t4 := Tryz.underlying4
  a4 := Tryz.isAgg4
  z4 := Tryz.sizeOf4
  v4 := Tryz.zeroValue4
  t5 := Tryz.underlying5
  a5 := Tryz.isAgg5
  z5 := Tryz.sizeOf5
  v5 := Tryz.zeroValue5
  t9 := Tryz.underlying9
  a9 := Tryz.isAgg9
  z9 := Tryz.sizeOf9
  v9 := Tryz.zeroValue9
  t46 := Tryz.underlying168
  a46 := Tryz.isAgg168
  z46 := Tryz.sizeOf168
  v46 := Tryz.zeroValue168
  t51 := Tryz.underlying219
  a51 := Tryz.isAgg219
  z51 := Tryz.sizeOf219
  v51 := Tryz.zeroValue219
  t146 := Tryz.underlying220
  a146 := Tryz.isAgg220
  z146 := Tryz.sizeOf220
  v146 := Tryz.zeroValue220
  g1 := by kernel_rfl }
open Go.RowKit Go.Lib in
/-- strings.Count AT A substr OF ONE BYTE ('hp'): "Count counts the number of non-overlapping instances of substr in s.": IT RETURNS 'Lib.countByte s (that byte)'; the world is as it was. ✋ NO CONTRACT HERE YET at an empty substr (utf8.RuneCountInString) or at a longer one (a loop over strings.Index). (LAID: no walk: one application.) -/
theorem Tryz.strings_Count_one (s : ByteArray) (c : UInt8) (w : World) :
    Calls Tryz.prog 294 #[.string s, .string ⟨#[c]⟩] w fun e w' => e = .returned (.int .i64 (Lib.countByte s.data.toList c)) ∧ w' = w := Any.strings_Count_one Tryz.lays138 s c w
def Tryz.lays102_ren : Go.Shelf.Ren := ⟨fun | 102 => 55 | 209 => 104 | 207 => 150 | n => n, fun | 9 => 9 | 4 => 4 | 3 => 3 | n => n, fun | n => n⟩
theorem Tryz.lays102 : Go.Proofs.Lays.n102 Tryz.prog Tryz.lays102_ren := {
  mixed := by kernel_rfl
  f102 := Tryz.func55.trans (congrArg some (by kernel_rfl))
  f207 := Tryz.func150.trans (congrArg some (by kernel_rfl))
  f209 := Tryz.func104.trans (congrArg some (by kernel_rfl))
  t3 := Tryz.underlying3
  a3 := Tryz.isAgg3
  z3 := Tryz.sizeOf3
  v3 := Tryz.zeroValue3
  t4 := Tryz.underlying4
  a4 := Tryz.isAgg4
  z4 := Tryz.sizeOf4
  v4 := Tryz.zeroValue4
  t9 := Tryz.underlying9
  a9 := Tryz.isAgg9
  z9 := Tryz.sizeOf9
  v9 := Tryz.zeroValue9 }
open Go.RowKit Go.Lib in
/-- strings.TrimSuffix: "TrimSuffix returns s without the provided trailing suffix string. If s doesn't end with suffix, s is returned unchanged.": IT RETURNS 'Lib.trimSuffix s suffix'; the world is as it was. (LAID: no walk: one application.) -/
theorem Tryz.strings_TrimSuffix (s p : ByteArray) (w : World) (hs : s.size ≤ 9223372036854775807) :
    Calls Tryz.prog 55 #[.string s, .string p] w fun e w' => e = .returned (.string ⟨(Lib.trimSuffix s.data.toList p.data.toList).toArray⟩) ∧ w' = w := Any.strings_TrimSuffix Tryz.lays102 s p w hs
def Tryz.lays146_ren : Go.Shelf.Ren := ⟨fun | 146 => 262 | 221 => 283 | 268 => 293 | 138 => 294 | 143 => 260 | 195 => 301 | 197 => 302 | 218 => 303 | 219 => 280 | 260 => 304 | 217 => 289 | 225 => 290 | 224 => 291 | 267 => 292 | 266 => 299 | 314 => 300 | n => n, fun | 9 => 9 | 31 => 24 | 3 => 3 | 4 => 4 | 0 => 0 | 105 => 349 | 21 => 21 | 5 => 5 | 46 => 168 | 119 => 290 | 139 => 354 | 138 => 353 | 146 => 220 | 51 => 219 | n => n, fun | 1 => 2 | 3 => 6 | 4 => 7 | n => n⟩
theorem Tryz.lays146 : Go.Proofs.Lays.n146 Tryz.prog Tryz.lays146_ren := {
  mixed := by kernel_rfl
  f138 := Tryz.func294.trans (congrArg some (by kernel_rfl))
  f143 := Tryz.func260.trans (congrArg some (by kernel_rfl))
  f146 := Tryz.func262.trans (congrArg some (by kernel_rfl))
  f195 := Tryz.func301.trans (congrArg some (by kernel_rfl))
  f197 := Tryz.func302.trans (congrArg some (by kernel_rfl))
  f217 := Tryz.func289.trans (congrArg some (by kernel_rfl))
  f218 := Tryz.func303.trans (congrArg some (by kernel_rfl))
  f219 := Tryz.func280.trans (congrArg some (by kernel_rfl))
  f221 := Tryz.func283.trans (congrArg some (by kernel_rfl))
  f224 := Tryz.func291.trans (congrArg some (by kernel_rfl))
  f225 := Tryz.func290.trans (congrArg some (by kernel_rfl))
  f260 := Tryz.func304.trans (congrArg some (by kernel_rfl))
  f266 := Tryz.func299.trans (congrArg some (by kernel_rfl))
  f267 := Tryz.func292.trans (congrArg some (by kernel_rfl))
  f268 := Tryz.func293.trans (congrArg some (by kernel_rfl))
  f314 := Tryz.func300.trans (congrArg some (by kernel_rfl))
  t0 := Tryz.underlying0
  a0 := Tryz.isAgg0
  z0 := Tryz.sizeOf0
  v0 := Tryz.zeroValue0
  t3 := Tryz.underlying3
  a3 := Tryz.isAgg3
  z3 := Tryz.sizeOf3
  v3 := Tryz.zeroValue3
  t4 := Tryz.underlying4
  a4 := Tryz.isAgg4
  z4 := Tryz.sizeOf4
  v4 := Tryz.zeroValue4
  t5 := Tryz.underlying5
  a5 := Tryz.isAgg5
  z5 := Tryz.sizeOf5
  v5 := Tryz.zeroValue5
  t9 := Tryz.underlying9
  a9 := Tryz.isAgg9
  z9 := Tryz.sizeOf9
  v9 := Tryz.zeroValue9
  t21 := Tryz.underlying21
  a21 := Tryz.isAgg21
  z21 := Tryz.sizeOf21
  v21 := Tryz.zeroValue21
  t31 := Tryz.underlying24
  a31 := Tryz.isAgg24
  z31 := Tryz.sizeOf24
  v31 := Tryz.zeroValue24
  t46 := Tryz.underlying168
  a46 := Tryz.isAgg168
  z46 := Tryz.sizeOf168
  v46 := Tryz.zeroValue168
  t51 := Tryz.underlying219
  a51 := Tryz.isAgg219
  z51 := Tryz.sizeOf219
  v51 := Tryz.zeroValue219
  t105 := Tryz.underlying349
  a105 := Tryz.isAgg349
  z105 := Tryz.sizeOf349
  v105 := Tryz.zeroValue349
  t119 := Tryz.underlying290
  a119 := Tryz.isAgg290
  z119 := Tryz.sizeOf290
  t138 := Tryz.underlying353
  a138 := Tryz.isAgg353
  z138 := Tryz.sizeOf353
  v138 := Tryz.zeroValue353
  t139 := Tryz.underlying354
  a139 := Tryz.isAgg354
  z139 := Tryz.sizeOf354
  v139 := Tryz.zeroValue354
  t146 := Tryz.underlying220
  a146 := Tryz.isAgg220
  z146 := Tryz.sizeOf220
  v146 := Tryz.zeroValue220
  g1 := by kernel_rfl
  g3 := by kernel_rfl
  g4 := by kernel_rfl }
open Go.RowKit Go.Lib in
def Tryz.lays157_ren : Go.Shelf.Ren := ⟨fun | 157 => 205 | 229 => 239 | 199 => 240 | 261 => 261 | 311 => 281 | 312 => 282 | n => n, fun | 9 => 9 | 31 => 24 | 3 => 3 | 5 => 5 | 4 => 4 | 119 => 290 | 0 => 0 | 40 => 292 | 152 => 315 | 21 => 21 | 154 => 317 | 51 => 219 | 141 => 319 | 196 => 328 | 193 => 325 | 198 => 331 | 49 => 329 | 194 => 326 | 201 => 334 | 226 => 341 | 46 => 168 | 227 => 342 | n => n, fun | 0 => 1 | 6 => 3 | n => n⟩
theorem Tryz.lays157 : Go.Proofs.Lays.n157 Tryz.prog Tryz.lays157_ren := {
  mixed := by kernel_rfl
  f157 := Tryz.func205.trans (congrArg some (by kernel_rfl))
  f199 := Tryz.func240.trans (congrArg some (by kernel_rfl))
  f229 := Tryz.func239.trans (congrArg some (by kernel_rfl))
  f261 := Tryz.func261.trans (congrArg some (by kernel_rfl))
  f311 := Tryz.func281.trans (congrArg some (by kernel_rfl))
  f312 := Tryz.func282.trans (congrArg some (by kernel_rfl))
  t0 := Tryz.underlying0
  a0 := Tryz.isAgg0
  z0 := Tryz.sizeOf0
  v0 := Tryz.zeroValue0
  t3 := Tryz.underlying3
  a3 := Tryz.isAgg3
  z3 := Tryz.sizeOf3
  v3 := Tryz.zeroValue3
  t4 := Tryz.underlying4
  a4 := Tryz.isAgg4
  z4 := Tryz.sizeOf4
  v4 := Tryz.zeroValue4
  t5 := Tryz.underlying5
  a5 := Tryz.isAgg5
  z5 := Tryz.sizeOf5
  v5 := Tryz.zeroValue5
  t9 := Tryz.underlying9
  a9 := Tryz.isAgg9
  z9 := Tryz.sizeOf9
  v9 := Tryz.zeroValue9
  t21 := Tryz.underlying21
  a21 := Tryz.isAgg21
  z21 := Tryz.sizeOf21
  v21 := Tryz.zeroValue21
  t31 := Tryz.underlying24
  a31 := Tryz.isAgg24
  z31 := Tryz.sizeOf24
  v31 := Tryz.zeroValue24
  t40 := Tryz.underlying292
  a40 := Tryz.isAgg292
  z40 := Tryz.sizeOf292
  v40 := Tryz.zeroValue292
  t46 := Tryz.underlying168
  a46 := Tryz.isAgg168
  z46 := Tryz.sizeOf168
  v46 := Tryz.zeroValue168
  t49 := Tryz.underlying329
  a49 := Tryz.isAgg329
  z49 := Tryz.sizeOf329
  v49 := Tryz.zeroValue329
  t51 := Tryz.underlying219
  a51 := Tryz.isAgg219
  z51 := Tryz.sizeOf219
  v51 := Tryz.zeroValue219
  t119 := Tryz.underlying290
  a119 := Tryz.isAgg290
  z119 := Tryz.sizeOf290
  t141 := Tryz.underlying319
  a141 := Tryz.isAgg319
  z141 := Tryz.sizeOf319
  v141 := Tryz.zeroValue319
  t152 := Tryz.underlying315
  a152 := Tryz.isAgg315
  z152 := Tryz.sizeOf315
  v152 := Tryz.zeroValue315
  t154 := Tryz.underlying317
  a154 := Tryz.isAgg317
  z154 := Tryz.sizeOf317
  v154 := Tryz.zeroValue317
  t193 := Tryz.underlying325
  a193 := Tryz.isAgg325
  z193 := Tryz.sizeOf325
  v193 := Tryz.zeroValue325
  t194 := Tryz.underlying326
  a194 := Tryz.isAgg326
  z194 := Tryz.sizeOf326
  v194 := Tryz.zeroValue326
  t196 := Tryz.underlying328
  a196 := Tryz.isAgg328
  z196 := Tryz.sizeOf328
  v196 := Tryz.zeroValue328
  t198 := Tryz.underlying331
  a198 := Tryz.isAgg331
  z198 := Tryz.sizeOf331
  v198 := Tryz.zeroValue331
  t201 := Tryz.underlying334
  a201 := Tryz.isAgg334
  z201 := Tryz.sizeOf334
  v201 := Tryz.zeroValue334
  t226 := Tryz.underlying341
  a226 := Tryz.isAgg341
  z226 := Tryz.sizeOf341
  v226 := Tryz.zeroValue341
  t227 := Tryz.underlying342
  a227 := Tryz.isAgg342
  z227 := Tryz.sizeOf342
  v227 := Tryz.zeroValue342
  g0 := by kernel_rfl
  g6 := by kernel_rfl }
open Go.RowKit Go.Lib in
/-- strings.Fields, the table by 'Lib.TabIs' (as strings.TrimSpace's contract). 'hg': the table's number, by its name: at a dump 'by kernel_rfl'. (LAID: no walk: one application.) -/
theorem Tryz.strings_Fields (s : ByteArray) (w : World) (hs : s.size < 4294967281) (hascii : ∀ (j : Nat) b, s.data.toList[j]? = some b → b.toNat < 128) (htab : Lib.TabIs Tryz.prog w "strings.asciiSpace" .u8 Lib.asciiSpaceTab) :
    Calls Tryz.prog 205 #[.string s] w fun e w' =>
      e = .returned (.slice (some ⟨w.heap.size, 0, none⟩) (Lib.fields s.data.toList).length (Lib.fields s.data.toList).length) ∧ w' = w.alloc (.cells ((Lib.fields s.data.toList).map fun l => Value.string ⟨l.toArray⟩).toArray 9) := Any.strings_Fields Tryz.lays157 (by kernel_rfl) (by kernel_rfl) s w hs hascii htab
def Tryz.lays107_ren : Go.Shelf.Ren := ⟨fun | 107 => 17 | 108 => 43 | n => n, fun | 28 => 38 | 3 => 3 | 4 => 4 | 0 => 0 | n => n, fun | n => n⟩
theorem Tryz.lays107 : Go.Proofs.Lays.n107 Tryz.prog Tryz.lays107_ren := {
  mixed := by kernel_rfl
  f107 := Tryz.func17.trans (congrArg some (by kernel_rfl))
  f108 := Tryz.func43.trans (congrArg some (by kernel_rfl))
  t0 := Tryz.underlying0
  a0 := Tryz.isAgg0
  z0 := Tryz.sizeOf0
  v0 := Tryz.zeroValue0
  t3 := Tryz.underlying3
  a3 := Tryz.isAgg3
  z3 := Tryz.sizeOf3
  v3 := Tryz.zeroValue3
  t4 := Tryz.underlying4
  a4 := Tryz.isAgg4
  z4 := Tryz.sizeOf4
  v4 := Tryz.zeroValue4
  t28 := Tryz.underlying38
  a28 := Tryz.isAgg38
  z28 := Tryz.sizeOf38
  v28 := Tryz.zeroValue38 }
open Go.Lib in
/-- slices.Contains at []int: "Contains reports whether v is present in s.": IT RETURNS 'elements.contains v'; the world is as it was. ITS CALLEE slices.Index IS MET BY ITS OWN CONTRACT OFF THE SHELF (lay that first): no loop is walked here. (LAID: no walk: one application.) -/
theorem Tryz.slices_Contains_int (b off n c : Nat) (zs : List Int) (x : Int) (w : World) (hz : n ≤ zs.length) (hbig : n ≤ 9223372036854775807) (hc : ∀ j, j < zs.length → w.cell? ⟨b, off + j, none⟩ = some (.int .i64 (zs.getD j 0))) :
    Calls Tryz.prog 17 #[.slice (some ⟨b, off, none⟩) n c, .int .i64 x] w fun e w' => e = .returned (.bool ((zs.take n).contains x)) ∧ w' = w := Any.slices_Contains_int Tryz.lays107 b off n c zs x w hz hbig hc
open Go.Lib in
/-- The same at a slice of length 0, a nil one too. (LAID: no walk: one application.) -/
theorem Tryz.slices_Contains_int_empty (a : Option Addr) (c : Nat) (x : Int) (w : World) :
    Calls Tryz.prog 17 #[.slice a 0 c, .int .i64 x] w fun e w' => e = .returned (.bool false) ∧ w' = w := Any.slices_Contains_int_empty Tryz.lays107 a c x w
open Go.Lib in
open Go.Lib in
def Tryz.lays110_ren : Go.Shelf.Ren := ⟨fun | 110 => 12 | 109 => 32 | n => n, fun | 31 => 24 | 9 => 9 | 4 => 4 | 3 => 3 | 0 => 0 | n => n, fun | n => n⟩
theorem Tryz.lays110 : Go.Proofs.Lays.n110 Tryz.prog Tryz.lays110_ren := {
  mixed := by kernel_rfl
  f109 := Tryz.func32.trans (congrArg some (by kernel_rfl))
  f110 := Tryz.func12.trans (congrArg some (by kernel_rfl))
  t0 := Tryz.underlying0
  a0 := Tryz.isAgg0
  z0 := Tryz.sizeOf0
  v0 := Tryz.zeroValue0
  t3 := Tryz.underlying3
  a3 := Tryz.isAgg3
  z3 := Tryz.sizeOf3
  v3 := Tryz.zeroValue3
  t4 := Tryz.underlying4
  a4 := Tryz.isAgg4
  z4 := Tryz.sizeOf4
  v4 := Tryz.zeroValue4
  t9 := Tryz.underlying9
  a9 := Tryz.isAgg9
  z9 := Tryz.sizeOf9
  v9 := Tryz.zeroValue9
  t31 := Tryz.underlying24
  a31 := Tryz.isAgg24
  z31 := Tryz.sizeOf24
  v31 := Tryz.zeroValue24 }
open Go.Lib in
/-- slices.Contains at []string: "Contains reports whether v is present in s.": IT RETURNS 'Lib.containsS (the elements) v', which is true just where v is among them ('Lib.containsS_iff'); the world is as it was. ITS CALLEE slices.Index IS MET BY ITS OWN CONTRACT OFF THE SHELF (lay that first): no loop is walked here. (LAID: no walk: one application.) -/
theorem Tryz.slices_Contains_string (b off n c : Nat) (zs : List ByteArray) (x : ByteArray) (w : World) (hz : n ≤ zs.length) (hbig : n ≤ 9223372036854775807) (hc : ∀ j, j < zs.length → w.cell? ⟨b, off + j, none⟩ = some (.string (zs.getD j ByteArray.empty))) :
    Calls Tryz.prog 12 #[.slice (some ⟨b, off, none⟩) n c, .string x] w fun e w' => e = .returned (.bool (Lib.containsS (zs.take n) x)) ∧ w' = w := Any.slices_Contains_string Tryz.lays110 b off n c zs x w hz hbig hc
open Go.Lib in
/-- The same at a slice of length 0, a nil one too. (LAID: no walk: one application.) -/
theorem Tryz.slices_Contains_string_empty (a : Option Addr) (c : Nat) (x : ByteArray) (w : World) :
    Calls Tryz.prog 12 #[.slice a 0 c, .string x] w fun e w' => e = .returned (.bool false) ∧ w' = w := Any.slices_Contains_string_empty Tryz.lays110 a c x w
end Go.Proofs
