/-
  The library's contracts at this dump, written by the kit's lay-plain tool: those that this claim uses. Conditions: as each states.
-/
import Derived.Shelf.Strings.Builder1
import Derived.Shelf.Strings.Builder2
import Derived.Shelf.Strings.OnBuilder
import Derived.Shelf.Small.Wraps
import Derived.Shelf.Strings.BuilderF
import Derived.Shelf.Strings.BuilderK
import Derived.Shelf.Strings.Builder2Cap
import Derived.Shelf.Strings.Search1
import Derived.Shelf.Strings.Search2
import Derived.Shelf.Strings.Search3
import Derived.Shelf.Strings.Cut
import Derived.Shelf.Strings.Count
import Derived.Shelf.LaysM
import Derived.Shelf.Strings.Shaped
import Derived.Shelf.Strings.Prefix
import Derived.Shelf.Strings.Split
import Derived.Shelf.Strings.Fields
import Derived.Shelf.Strings.SplitShaped
import Derived.Shelf.Unicode.Latin
import Derived.Shelf.Unicode.DecodeSlow
import Derived.Shelf.Unicode.Is16White
import Derived.Shelf.Unicode.IsSpaceAny
import Derived.Shelf.Unicode.Is16Any
import Derived.Shelf.Unicode.Is32Any
import Derived.Shelf.Unicode.ExclAny
import Derived.Shelf.Strings.BuilderCap
import Derived.Shelf.Slices.Turned
import Derived.Test.YtlepicdjnbbndaaGreatDoorProg
namespace Go.Proofs
open Go.Shelf
def Tryz.lays156_ren : Go.Shelf.Ren := ⟨fun | 156 => 95 | 165 => 149 | 166 => 150 | 169 => 151 | 240 => 177 | 241 => 178 | 276 => 201 | 277 => 202 | n => n, fun | 31 => 102 | 9 => 9 | 3 => 3 | 4 => 4 | 0 => 0 | 20 => 20 | 72 => 181 | 76 => 185 | 70 => 179 | 37 => 49 | 75 => 184 | 127 => 204 | 164 => 218 | 5 => 5 | 80 => 187 | n => n, fun | n => n⟩
theorem Tryz.lays156 : Go.Proofs.Lays.n156 Tryz.prog Tryz.lays156_ren := {
  mixed := by kernel_rfl
  f156 := Tryz.func95.trans (congrArg some (by kernel_rfl))
  f165 := Tryz.func149.trans (congrArg some (by kernel_rfl))
  f166 := Tryz.func150.trans (congrArg some (by kernel_rfl))
  f169 := Tryz.func151.trans (congrArg some (by kernel_rfl))
  f240 := Tryz.func177.trans (congrArg some (by kernel_rfl))
  f241 := Tryz.func178.trans (congrArg some (by kernel_rfl))
  f276 := Tryz.func201.trans (congrArg some (by kernel_rfl))
  f277 := Tryz.func202.trans (congrArg some (by kernel_rfl))
  t0 := Tryz.underlying0
  a0 := Tryz.isAgg0
  z0 := Tryz.sizeOf0
  v0 := Tryz.zeroValue0
  t3 := Tryz.underlying3
  a3 := Tryz.isAgg3
  z3 := Tryz.sizeOf3
  v3 := Tryz.zeroValue3
  t4 := Tryz.underlying4
  a4 := Tryz.isAgg4
  z4 := Tryz.sizeOf4
  v4 := Tryz.zeroValue4
  t9 := Tryz.underlying9
  a9 := Tryz.isAgg9
  z9 := Tryz.sizeOf9
  v9 := Tryz.zeroValue9
  t20 := Tryz.underlying20
  a20 := Tryz.isAgg20
  z20 := Tryz.sizeOf20
  v20 := Tryz.zeroValue20
  t31 := Tryz.underlying102
  a31 := Tryz.isAgg102
  z31 := Tryz.sizeOf102
  v31 := Tryz.zeroValue102
  t37 := Tryz.underlying49
  a37 := Tryz.isAgg49
  z37 := Tryz.sizeOf49
  v37 := Tryz.zeroValue49
  t70 := Tryz.underlying179
  a70 := Tryz.isAgg179
  z70 := Tryz.sizeOf179
  v70 := Tryz.zeroValue179
  t72 := Tryz.underlying181
  a72 := Tryz.isAgg181
  z72 := Tryz.sizeOf181
  v72 := Tryz.zeroValue181
  t75 := Tryz.underlying184
  a75 := Tryz.isAgg184
  z75 := Tryz.sizeOf184
  v75 := Tryz.zeroValue184
  t76 := Tryz.underlying185
  a76 := Tryz.isAgg185
  z76 := Tryz.sizeOf185
  v76 := Tryz.zeroValue185
  t127 := Tryz.underlying204
  a127 := Tryz.isAgg204
  z127 := Tryz.sizeOf204
  v127 := Tryz.zeroValue204
  t164 := Tryz.underlying218
  a164 := Tryz.isAgg218
  z164 := Tryz.sizeOf218
  v164 := Tryz.zeroValue218 }
theorem Tryz.Builder_Extra_156 : Builder.Extra Tryz.prog Tryz.lays156_ren := {
  sizeBuilder := by kernel_rfl
  liesBuilder := by kernel_rfl
  t5 := Tryz.underlying5
  a5 := Tryz.isAgg5
  z5 := Tryz.sizeOf5
  v5 := Tryz.zeroValue5
  infoByte := by kernel_rfl
  cellsByte := by kernel_rfl
  sizeByte := by kernel_rfl
  neB5 := by decide }
open Go.RowKit in
/-- No element: the empty string; the world is as it was. (Whatever the slice's address and capacity: a nil slice too.) (LAID: no walk: one application.) -/
theorem Tryz.strings_Join_none (a : Option Addr) (c : Nat) (sep : ByteArray) (w : World) :
    Calls Tryz.prog 95 #[.slice a 0 c, .string sep] w fun e w' => e = .returned (.string ⟨#[]⟩) ∧ w' = w := Any.strings_Join_none Tryz.lays156 Tryz.Builder_Extra_156 a c sep w
open Go.RowKit in
/-- strings.Join: "Join concatenates the elements of its first argument to create a single string. The separator string sep is placed between elements in the resulting string.": HOWEVER MANY ELEMENTS. Below the heap's end the world is as it was. (LAID: no walk: one application.) -/
theorem Tryz.strings_Join (bk o c : Nat) (xs : List ByteArray) (sep : ByteArray) (w : World) (hcells : ∀ (j : Nat) x, xs[j]? = some x → w.cell? ⟨bk, o + j, none⟩ = some (.string x)) (hbk : bk < w.heap.size) (hN : xs.length ≤ 140737488355328) (hcap : xs.length ≤ c) (hlen : (Lib.join (xs.map (·.data.toList)) sep.data.toList).length ≤ 140737488355328) :
    Calls Tryz.prog 95 #[.slice (some ⟨bk, o, none⟩) xs.length c, .string sep] w fun e w' => e = .returned (.string ⟨(Lib.join (xs.map (·.data.toList)) sep.data.toList).toArray⟩) ∧ Below w.heap.size w w' := Any.strings_Join Tryz.lays156 Tryz.Builder_Extra_156 bk o c xs sep w hcells hbk hN hcap hlen
def Tryz.lays103_ren : Go.Shelf.Ren := ⟨fun | 103 => 172 | 210 => 197 | 206 => 211 | n => n, fun | 9 => 9 | 4 => 4 | 24 => 107 | 3 => 3 | n => n, fun | n => n⟩
theorem Tryz.lays103 : Go.Proofs.Lays.n103 Tryz.prog Tryz.lays103_ren := {
  mixed := by kernel_rfl
  f103 := Tryz.func172.trans (congrArg some (by kernel_rfl))
  f206 := Tryz.func211.trans (congrArg some (by kernel_rfl))
  f210 := Tryz.func197.trans (congrArg some (by kernel_rfl))
  t3 := Tryz.underlying3
  a3 := Tryz.isAgg3
  z3 := Tryz.sizeOf3
  v3 := Tryz.zeroValue3
  t4 := Tryz.underlying4
  a4 := Tryz.isAgg4
  z4 := Tryz.sizeOf4
  v4 := Tryz.zeroValue4
  t9 := Tryz.underlying9
  a9 := Tryz.isAgg9
  z9 := Tryz.sizeOf9
  v9 := Tryz.zeroValue9
  t24 := Tryz.underlying107
  a24 := Tryz.isAgg107
  z24 := Tryz.sizeOf107
  v24 := Tryz.zeroValue107 }
open Go.RowKit in
/-- strings.CutPrefix: "CutPrefix returns s without the provided leading prefix string and reports whether it found the prefix. If s doesn't start with prefix, CutPrefix returns s, false. If prefix is the empty string, CutPrefix returns s, true.": IT RETURNS '(Lib.trimPrefix s p, Lib.hasPrefix s p)'; the world is as it was. (LAID: no walk: one application.) -/
theorem Tryz.strings_CutPrefix (s p : ByteArray) (w : World) :
    Calls Tryz.prog 172 #[.string s, .string p] w fun e w' => e = .returned (.tuple #[.string ⟨(Lib.trimPrefix s.data.toList p.data.toList).toArray⟩, .bool (Lib.hasPrefix s.data.toList p.data.toList)]) ∧ w' = w := Any.strings_CutPrefix Tryz.lays103 s p w
def Tryz.lays144_ren : Go.Shelf.Ren := ⟨fun | 144 => 131 | 143 => 109 | 219 => 154 | 217 => 179 | 225 => 180 | 224 => 181 | 267 => 182 | 266 => 203 | 314 => 204 | n => n, fun | 9 => 9 | 4 => 4 | 3 => 3 | 5 => 5 | 46 => 206 | 146 => 220 | 51 => 212 | n => n, fun | 1 => 0 | n => n⟩
theorem Tryz.lays144 : Go.Proofs.Lays.n144 Tryz.prog Tryz.lays144_ren := {
  mixed := by kernel_rfl
  f143 := Tryz.func109.trans (congrArg some (by kernel_rfl))
  f144 := Tryz.func131.trans (congrArg some (by kernel_rfl))
  f217 := Tryz.func179.trans (congrArg some (by kernel_rfl))
  f219 := Tryz.func154.trans (congrArg some (by kernel_rfl))
  f224 := Tryz.func181.trans (congrArg some (by kernel_rfl))
  f225 := Tryz.func180.trans (congrArg some (by kernel_rfl))
  f266 := Tryz.func203.trans (congrArg some (by kernel_rfl))
  f267 := Tryz.func182.trans (congrArg some (by kernel_rfl))
  f314 := Tryz.func204.trans (congrArg some (by kernel_rfl))
  t3 := Tryz.underlying3
  a3 := Tryz.isAgg3
  z3 := Tryz.sizeOf3
  v3 := Tryz.zeroValue3
  t4 := Tryz.underlying4
  a4 := Tryz.isAgg4
  z4 := Tryz.sizeOf4
  v4 := Tryz.zeroValue4
  t5 := Tryz.underlying5
  a5 := Tryz.isAgg5
  z5 := Tryz.sizeOf5
  v5 := Tryz.zeroValue5
  t9 := Tryz.underlying9
  a9 := Tryz.isAgg9
  z9 := Tryz.sizeOf9
  v9 := Tryz.zeroValue9
  t46 := Tryz.underlying206
  a46 := Tryz.isAgg206
  z46 := Tryz.sizeOf206
  v46 := Tryz.zeroValue206
  t51 := Tryz.underlying212
  a51 := Tryz.isAgg212
  z51 := Tryz.sizeOf212
  v51 := Tryz.zeroValue212
  t146 := Tryz.underlying220
  a146 := Tryz.isAgg220
  z146 := Tryz.sizeOf220
  v146 := Tryz.zeroValue220
  g1 := by kernel_rfl }
open Go.RowKit Go.Lib in
/-- strings.Contains: "Contains reports whether substr is within s.": AT A substr OF ONE BYTE c: IT RETURNS 'decide (0 ≤ Lib.indexByte s c)'; the world is as it was. (LAID: no walk: one application.) -/
theorem Tryz.strings_Contains_one (s : ByteArray) (c : UInt8) (w : World) :
    Calls Tryz.prog 131 #[.string s, .string ⟨#[c]⟩] w fun e w' => e = .returned (.bool (decide (0 ≤ Lib.indexByte s.data.toList c))) ∧ w' = w := Any.strings_Contains_one Tryz.lays144 s c w
def Tryz.lays145_ren : Go.Shelf.Ren := ⟨fun | 145 => 115 | 220 => 159 | 219 => 154 | 217 => 179 | 225 => 180 | 224 => 181 | 267 => 182 | 266 => 203 | 314 => 204 | n => n, fun | 9 => 9 | 4 => 4 | 59 => 160 | 3 => 3 | 5 => 5 | 46 => 206 | 146 => 220 | 51 => 212 | n => n, fun | 1 => 0 | n => n⟩
theorem Tryz.lays145 : Go.Proofs.Lays.n145 Tryz.prog Tryz.lays145_ren := {
  mixed := by kernel_rfl
  f145 := Tryz.func115.trans (congrArg some (by kernel_rfl))
  f217 := Tryz.func179.trans (congrArg some (by kernel_rfl))
  f219 := Tryz.func154.trans (congrArg some (by kernel_rfl))
  f220 := Tryz.func159.trans (congrArg some (by kernel_rfl))
  f224 := Tryz.func181.trans (congrArg some (by kernel_rfl))
  f225 := Tryz.func180.trans (congrArg some (by kernel_rfl))
  f266 := Tryz.func203.trans (congrArg some (by kernel_rfl))
  f267 := Tryz.func182.trans (congrArg some (by kernel_rfl))
  f314 := Tryz.func204.trans (congrArg some (by kernel_rfl))
  t3 := Tryz.underlying3
  a3 := Tryz.isAgg3
  z3 := Tryz.sizeOf3
  v3 := Tryz.zeroValue3
  t4 := Tryz.underlying4
  a4 := Tryz.isAgg4
  z4 := Tryz.sizeOf4
  v4 := Tryz.zeroValue4
  t5 := Tryz.underlying5
  a5 := Tryz.isAgg5
  z5 := Tryz.sizeOf5
  v5 := Tryz.zeroValue5
  t9 := Tryz.underlying9
  a9 := Tryz.isAgg9
  z9 := Tryz.sizeOf9
  v9 := Tryz.zeroValue9
  t46 := Tryz.underlying206
  a46 := Tryz.isAgg206
  z46 := Tryz.sizeOf206
  v46 := Tryz.zeroValue206
  t51 := Tryz.underlying212
  a51 := Tryz.isAgg212
  z51 := Tryz.sizeOf212
  v51 := Tryz.zeroValue212
  t59 := Tryz.underlying160
  a59 := Tryz.isAgg160
  z59 := Tryz.sizeOf160
  v59 := Tryz.zeroValue160
  t146 := Tryz.underlying220
  a146 := Tryz.isAgg220
  z146 := Tryz.sizeOf220
  v146 := Tryz.zeroValue220
  g1 := by kernel_rfl }
open Go.RowKit Go.Lib in
/-- strings.Cut: "Cut slices s around the first instance of sep, returning the text before and after sep. The found result reports whether sep appears in s. If sep does not appear in s, cut returns s, "", false.": IT RETURNS 'Lib.cut s sep'; the world is as it was but for the count of draws. (LAID: no walk: one application.) -/
theorem Tryz.strings_Cut (s sep : ByteArray) (m : Int) (w : World) (hs : s.size < 4294967281) (hm : w.cell? ⟨0, 0, none⟩ = some (.int .i64 m)) :
    Calls Tryz.prog 115 #[.string s, .string sep] w fun e w' => e = .returned (.tuple #[.string ⟨(Lib.cut s.data.toList sep.data.toList).1.toArray⟩, .string ⟨(Lib.cut s.data.toList sep.data.toList).2.1.toArray⟩, .bool (Lib.cut s.data.toList sep.data.toList).2.2]) ∧ ∃ n, w' = w.drewN n := Any.strings_Cut Tryz.lays145 s sep m w hs hm
def Tryz.lays138_ren : Go.Shelf.Ren := ⟨fun | 138 => 55 | 195 => 107 | 218 => 108 | 143 => 109 | 219 => 154 | 217 => 179 | 225 => 180 | 224 => 181 | 267 => 182 | 266 => 203 | 314 => 204 | n => n, fun | 9 => 9 | 3 => 3 | 4 => 4 | 5 => 5 | 0 => 0 | 46 => 206 | 146 => 220 | 51 => 212 | n => n, fun | 1 => 0 | n => n⟩
theorem Tryz.lays138 : Go.Proofs.Lays.n138 Tryz.prog Tryz.lays138_ren := {
  mixed := by kernel_rfl
  f138 := Tryz.func55.trans (congrArg some (by kernel_rfl))
  f143 := Tryz.func109.trans (congrArg some (by kernel_rfl))
  f195 := Tryz.func107.trans (congrArg some (by kernel_rfl))
  f217 := Tryz.func179.trans (congrArg some (by kernel_rfl))
  f218 := Tryz.func108.trans (congrArg some (by kernel_rfl))
  f219 := Tryz.func154.trans (congrArg some (by kernel_rfl))
  f224 := Tryz.func181.trans (congrArg some (by kernel_rfl))
  f225 := Tryz.func180.trans (congrArg some (by kernel_rfl))
  f266 := Tryz.func203.trans (congrArg some (by kernel_rfl))
  f267 := Tryz.func182.trans (congrArg some (by kernel_rfl))
  f314 := Tryz.func204.trans (congrArg some (by kernel_rfl))
  t0 := Tryz.underlying0
  a0 := Tryz.isAgg0
  z0 := Tryz.sizeOf0
  v0 := Tryz.zeroValue0
  t3 := Tryz.underlying3
  a3 := Tryz.isAgg3
  z3 := Tryz.sizeOf3
  v3 := Tryz.zeroValue3
  t4 := Tryz.underlying4
  a4 := Tryz.isAgg4
  z4 := Tryz.sizeOf4
  v4 := Tryz.zeroValue4
  t5 := Tryz.underlying5
  a5 := Tryz.isAgg5
  z5 := Tryz.sizeOf5
  v5 := Tryz.zeroValue5
  t9 := Tryz.underlying9
  a9 := Tryz.isAgg9
  z9 := Tryz.sizeOf9
  v9 := Tryz.zeroValue9
  t46 := Tryz.underlying206
  a46 := Tryz.isAgg206
  z46 := Tryz.sizeOf206
  v46 := Tryz.zeroValue206
  t51 := Tryz.underlying212
  a51 := Tryz.isAgg212
  z51 := Tryz.sizeOf212
  v51 := Tryz.zeroValue212
  t146 := Tryz.underlying220
  a146 := Tryz.isAgg220
  z146 := Tryz.sizeOf220
  v146 := Tryz.zeroValue220
  g1 := by kernel_rfl }
open Go.RowKit Go.Lib in
/-- strings.Count AT A substr OF ONE BYTE ('hp'): "Count counts the number of non-overlapping instances of substr in s.": IT RETURNS 'Lib.countByte s (that byte)'; the world is as it was. ✋ NO CONTRACT HERE YET at an empty substr (utf8.RuneCountInString) or at a longer one (a loop over strings.Index). (LAID: no walk: one application.) -/
theorem Tryz.strings_Count_one (s : ByteArray) (c : UInt8) (w : World) :
    Calls Tryz.prog 55 #[.string s, .string ⟨#[c]⟩] w fun e w' => e = .returned (.int .i64 (Lib.countByte s.data.toList c)) ∧ w' = w := Any.strings_Count_one Tryz.lays138 s c w
def Tryz.lays102_ren : Go.Shelf.Ren := ⟨fun | 102 => 94 | 209 => 148 | 207 => 176 | n => n, fun | 9 => 9 | 4 => 4 | 3 => 3 | n => n, fun | n => n⟩
theorem Tryz.lays102 : Go.Proofs.Lays.n102 Tryz.prog Tryz.lays102_ren := {
  mixed := by kernel_rfl
  f102 := Tryz.func94.trans (congrArg some (by kernel_rfl))
  f207 := Tryz.func176.trans (congrArg some (by kernel_rfl))
  f209 := Tryz.func148.trans (congrArg some (by kernel_rfl))
  t3 := Tryz.underlying3
  a3 := Tryz.isAgg3
  z3 := Tryz.sizeOf3
  v3 := Tryz.zeroValue3
  t4 := Tryz.underlying4
  a4 := Tryz.isAgg4
  z4 := Tryz.sizeOf4
  v4 := Tryz.zeroValue4
  t9 := Tryz.underlying9
  a9 := Tryz.isAgg9
  z9 := Tryz.sizeOf9
  v9 := Tryz.zeroValue9 }
open Go.RowKit Go.Lib in
/-- strings.TrimSuffix: "TrimSuffix returns s without the provided trailing suffix string. If s doesn't end with suffix, s is returned unchanged.": IT RETURNS 'Lib.trimSuffix s suffix'; the world is as it was. (LAID: no walk: one application.) -/
theorem Tryz.strings_TrimSuffix (s p : ByteArray) (w : World) (hs : s.size ≤ 9223372036854775807) :
    Calls Tryz.prog 94 #[.string s, .string p] w fun e w' => e = .returned (.string ⟨(Lib.trimSuffix s.data.toList p.data.toList).toArray⟩) ∧ w' = w := Any.strings_TrimSuffix Tryz.lays102 s p w hs
def Tryz.lays146_ren : Go.Shelf.Ren := ⟨fun | 146 => 136 | 221 => 171 | 268 => 196 | 138 => 55 | 143 => 109 | 195 => 107 | 197 => 210 | 218 => 108 | 219 => 154 | 260 => 214 | 217 => 179 | 225 => 180 | 224 => 181 | 267 => 182 | 266 => 203 | 314 => 204 | n => n, fun | 9 => 9 | 31 => 102 | 3 => 3 | 4 => 4 | 0 => 0 | 105 => 234 | 21 => 21 | 5 => 5 | 46 => 206 | 119 => 196 | 139 => 247 | 138 => 246 | 146 => 220 | 51 => 212 | n => n, fun | 1 => 0 | 3 => 3 | 4 => 4 | n => n⟩
theorem Tryz.lays146 : Go.Proofs.Lays.n146 Tryz.prog Tryz.lays146_ren := {
  mixed := by kernel_rfl
  f138 := Tryz.func55.trans (congrArg some (by kernel_rfl))
  f143 := Tryz.func109.trans (congrArg some (by kernel_rfl))
  f146 := Tryz.func136.trans (congrArg some (by kernel_rfl))
  f195 := Tryz.func107.trans (congrArg some (by kernel_rfl))
  f197 := Tryz.func210.trans (congrArg some (by kernel_rfl))
  f217 := Tryz.func179.trans (congrArg some (by kernel_rfl))
  f218 := Tryz.func108.trans (congrArg some (by kernel_rfl))
  f219 := Tryz.func154.trans (congrArg some (by kernel_rfl))
  f221 := Tryz.func171.trans (congrArg some (by kernel_rfl))
  f224 := Tryz.func181.trans (congrArg some (by kernel_rfl))
  f225 := Tryz.func180.trans (congrArg some (by kernel_rfl))
  f260 := Tryz.func214.trans (congrArg some (by kernel_rfl))
  f266 := Tryz.func203.trans (congrArg some (by kernel_rfl))
  f267 := Tryz.func182.trans (congrArg some (by kernel_rfl))
  f268 := Tryz.func196.trans (congrArg some (by kernel_rfl))
  f314 := Tryz.func204.trans (congrArg some (by kernel_rfl))
  t0 := Tryz.underlying0
  a0 := Tryz.isAgg0
  z0 := Tryz.sizeOf0
  v0 := Tryz.zeroValue0
  t3 := Tryz.underlying3
  a3 := Tryz.isAgg3
  z3 := Tryz.sizeOf3
  v3 := Tryz.zeroValue3
  t4 := Tryz.underlying4
  a4 := Tryz.isAgg4
  z4 := Tryz.sizeOf4
  v4 := Tryz.zeroValue4
  t5 := Tryz.underlying5
  a5 := Tryz.isAgg5
  z5 := Tryz.sizeOf5
  v5 := Tryz.zeroValue5
  t9 := Tryz.underlying9
  a9 := Tryz.isAgg9
  z9 := Tryz.sizeOf9
  v9 := Tryz.zeroValue9
  t21 := Tryz.underlying21
  a21 := Tryz.isAgg21
  z21 := Tryz.sizeOf21
  v21 := Tryz.zeroValue21
  t31 := Tryz.underlying102
  a31 := Tryz.isAgg102
  z31 := Tryz.sizeOf102
  v31 := Tryz.zeroValue102
  t46 := Tryz.underlying206
  a46 := Tryz.isAgg206
  z46 := Tryz.sizeOf206
  v46 := Tryz.zeroValue206
  t51 := Tryz.underlying212
  a51 := Tryz.isAgg212
  z51 := Tryz.sizeOf212
  v51 := Tryz.zeroValue212
  t105 := Tryz.underlying234
  a105 := Tryz.isAgg234
  z105 := Tryz.sizeOf234
  v105 := Tryz.zeroValue234
  t119 := Tryz.underlying196
  a119 := Tryz.isAgg196
  z119 := Tryz.sizeOf196
  t138 := Tryz.underlying246
  a138 := Tryz.isAgg246
  z138 := Tryz.sizeOf246
  v138 := Tryz.zeroValue246
  t139 := Tryz.underlying247
  a139 := Tryz.isAgg247
  z139 := Tryz.sizeOf247
  v139 := Tryz.zeroValue247
  t146 := Tryz.underlying220
  a146 := Tryz.isAgg220
  z146 := Tryz.sizeOf220
  v146 := Tryz.zeroValue220
  g1 := by kernel_rfl
  g3 := by kernel_rfl
  g4 := by kernel_rfl }
open Go.RowKit Go.Lib in
/-- strings.Split. (LAID: no walk: one application.) -/
theorem Tryz.strings_Split (s sep : ByteArray) (m : Int) (w : World) (hs : s.size < 4294967281) (hm : w.cell? ⟨0, 0, none⟩ = some (.int .i64 m)) (h1 : 1 ≤ sep.size) :
    Calls Tryz.prog 136 #[.string s, .string sep] w fun e w' =>
      e = .returned (.slice (some ⟨w.heap.size, 0, none⟩) (Lib.countB s sep + 1) (Lib.countB s sep + 1)) ∧ w' = w.alloc (.cells ((Lib.splitB sep 0 (Lib.countB s sep) s).map Value.string).toArray 9) := Any.strings_Split Tryz.lays146 (by kernel_rfl) s sep m w hs hm h1
def Tryz.lays157_ren : Go.Shelf.Ren := ⟨fun | 157 => 135 | 229 => 169 | 199 => 170 | 261 => 195 | 311 => 208 | 312 => 209 | n => n, fun | 9 => 9 | 31 => 102 | 3 => 3 | 5 => 5 | 4 => 4 | 119 => 196 | 0 => 0 | 40 => 198 | 152 => 209 | 21 => 21 | 154 => 211 | 51 => 212 | 141 => 214 | 196 => 226 | 193 => 223 | 198 => 229 | 49 => 227 | 194 => 224 | 201 => 232 | 226 => 237 | 46 => 206 | 227 => 238 | n => n, fun | 0 => 1 | 6 => 2 | n => n⟩
theorem Tryz.lays157 : Go.Proofs.Lays.n157 Tryz.prog Tryz.lays157_ren := {
  mixed := by kernel_rfl
  f157 := Tryz.func135.trans (congrArg some (by kernel_rfl))
  f199 := Tryz.func170.trans (congrArg some (by kernel_rfl))
  f229 := Tryz.func169.trans (congrArg some (by kernel_rfl))
  f261 := Tryz.func195.trans (congrArg some (by kernel_rfl))
  f311 := Tryz.func208.trans (congrArg some (by kernel_rfl))
  f312 := Tryz.func209.trans (congrArg some (by kernel_rfl))
  t0 := Tryz.underlying0
  a0 := Tryz.isAgg0
  z0 := Tryz.sizeOf0
  v0 := Tryz.zeroValue0
  t3 := Tryz.underlying3
  a3 := Tryz.isAgg3
  z3 := Tryz.sizeOf3
  v3 := Tryz.zeroValue3
  t4 := Tryz.underlying4
  a4 := Tryz.isAgg4
  z4 := Tryz.sizeOf4
  v4 := Tryz.zeroValue4
  t5 := Tryz.underlying5
  a5 := Tryz.isAgg5
  z5 := Tryz.sizeOf5
  v5 := Tryz.zeroValue5
  t9 := Tryz.underlying9
  a9 := Tryz.isAgg9
  z9 := Tryz.sizeOf9
  v9 := Tryz.zeroValue9
  t21 := Tryz.underlying21
  a21 := Tryz.isAgg21
  z21 := Tryz.sizeOf21
  v21 := Tryz.zeroValue21
  t31 := Tryz.underlying102
  a31 := Tryz.isAgg102
  z31 := Tryz.sizeOf102
  v31 := Tryz.zeroValue102
  t40 := Tryz.underlying198
  a40 := Tryz.isAgg198
  z40 := Tryz.sizeOf198
  v40 := Tryz.zeroValue198
  t46 := Tryz.underlying206
  a46 := Tryz.isAgg206
  z46 := Tryz.sizeOf206
  v46 := Tryz.zeroValue206
  t49 := Tryz.underlying227
  a49 := Tryz.isAgg227
  z49 := Tryz.sizeOf227
  v49 := Tryz.zeroValue227
  t51 := Tryz.underlying212
  a51 := Tryz.isAgg212
  z51 := Tryz.sizeOf212
  v51 := Tryz.zeroValue212
  t119 := Tryz.underlying196
  a119 := Tryz.isAgg196
  z119 := Tryz.sizeOf196
  t141 := Tryz.underlying214
  a141 := Tryz.isAgg214
  z141 := Tryz.sizeOf214
  v141 := Tryz.zeroValue214
  t152 := Tryz.underlying209
  a152 := Tryz.isAgg209
  z152 := Tryz.sizeOf209
  v152 := Tryz.zeroValue209
  t154 := Tryz.underlying211
  a154 := Tryz.isAgg211
  z154 := Tryz.sizeOf211
  v154 := Tryz.zeroValue211
  t193 := Tryz.underlying223
  a193 := Tryz.isAgg223
  z193 := Tryz.sizeOf223
  v193 := Tryz.zeroValue223
  t194 := Tryz.underlying224
  a194 := Tryz.isAgg224
  z194 := Tryz.sizeOf224
  v194 := Tryz.zeroValue224
  t196 := Tryz.underlying226
  a196 := Tryz.isAgg226
  z196 := Tryz.sizeOf226
  v196 := Tryz.zeroValue226
  t198 := Tryz.underlying229
  a198 := Tryz.isAgg229
  z198 := Tryz.sizeOf229
  v198 := Tryz.zeroValue229
  t201 := Tryz.underlying232
  a201 := Tryz.isAgg232
  z201 := Tryz.sizeOf232
  v201 := Tryz.zeroValue232
  t226 := Tryz.underlying237
  a226 := Tryz.isAgg237
  z226 := Tryz.sizeOf237
  v226 := Tryz.zeroValue237
  t227 := Tryz.underlying238
  a227 := Tryz.isAgg238
  z227 := Tryz.sizeOf238
  v227 := Tryz.zeroValue238
  g0 := by kernel_rfl
  g6 := by kernel_rfl }
open Go.RowKit Go.Lib in
/-- strings.Fields, the table by 'Lib.TabIs' (as strings.TrimSpace's contract). 'hg': the table's number, by its name: at a dump 'by kernel_rfl'. (LAID: no walk: one application.) -/
theorem Tryz.strings_Fields (s : ByteArray) (w : World) (hs : s.size < 4294967281) (hascii : ∀ (j : Nat) b, s.data.toList[j]? = some b → b.toNat < 128) (htab : Lib.TabIs Tryz.prog w "strings.asciiSpace" .u8 Lib.asciiSpaceTab) :
    Calls Tryz.prog 135 #[.string s] w fun e w' =>
      e = .returned (.slice (some ⟨w.heap.size, 0, none⟩) (Lib.fields s.data.toList).length (Lib.fields s.data.toList).length) ∧ w' = w.alloc (.cells ((Lib.fields s.data.toList).map fun l => Value.string ⟨l.toArray⟩).toArray 9) := Any.strings_Fields Tryz.lays157 (by kernel_rfl) (by kernel_rfl) s w hs hascii htab
def Tryz.lays107_ren : Go.Shelf.Ren := ⟨fun | 107 => 166 | 108 => 194 | n => n, fun | 28 => 33 | 3 => 3 | 4 => 4 | 0 => 0 | n => n, fun | n => n⟩
theorem Tryz.lays107 : Go.Proofs.Lays.n107 Tryz.prog Tryz.lays107_ren := {
  mixed := by kernel_rfl
  f107 := Tryz.func166.trans (congrArg some (by kernel_rfl))
  f108 := Tryz.func194.trans (congrArg some (by kernel_rfl))
  t0 := Tryz.underlying0
  a0 := Tryz.isAgg0
  z0 := Tryz.sizeOf0
  v0 := Tryz.zeroValue0
  t3 := Tryz.underlying3
  a3 := Tryz.isAgg3
  z3 := Tryz.sizeOf3
  v3 := Tryz.zeroValue3
  t4 := Tryz.underlying4
  a4 := Tryz.isAgg4
  z4 := Tryz.sizeOf4
  v4 := Tryz.zeroValue4
  t28 := Tryz.underlying33
  a28 := Tryz.isAgg33
  z28 := Tryz.sizeOf33
  v28 := Tryz.zeroValue33 }
open Go.Lib in
/-- slices.Contains at []int: "Contains reports whether v is present in s.": IT RETURNS 'elements.contains v'; the world is as it was. ITS CALLEE slices.Index IS MET BY ITS OWN CONTRACT OFF THE SHELF (lay that first): no loop is walked here. (LAID: no walk: one application.) -/
theorem Tryz.slices_Contains_int (b off n c : Nat) (zs : List Int) (x : Int) (w : World) (hz : n ≤ zs.length) (hbig : n ≤ 9223372036854775807) (hc : ∀ j, j < zs.length → w.cell? ⟨b, off + j, none⟩ = some (.int .i64 (zs.getD j 0))) :
    Calls Tryz.prog 166 #[.slice (some ⟨b, off, none⟩) n c, .int .i64 x] w fun e w' => e = .returned (.bool ((zs.take n).contains x)) ∧ w' = w := Any.slices_Contains_int Tryz.lays107 b off n c zs x w hz hbig hc
open Go.Lib in
/-- The same at a slice of length 0, a nil one too. (LAID: no walk: one application.) -/
theorem Tryz.slices_Contains_int_empty (a : Option Addr) (c : Nat) (x : Int) (w : World) :
    Calls Tryz.prog 166 #[.slice a 0 c, .int .i64 x] w fun e w' => e = .returned (.bool false) ∧ w' = w := Any.slices_Contains_int_empty Tryz.lays107 a c x w
def Tryz.lays109_ren : Go.Shelf.Ren := ⟨fun | 109 => 117 | n => n, fun | 31 => 102 | 9 => 9 | 3 => 3 | 0 => 0 | 4 => 4 | n => n, fun | n => n⟩
theorem Tryz.lays109 : Go.Proofs.Lays.n109 Tryz.prog Tryz.lays109_ren := {
  mixed := by kernel_rfl
  f109 := Tryz.func117.trans (congrArg some (by kernel_rfl))
  t0 := Tryz.underlying0
  a0 := Tryz.isAgg0
  z0 := Tryz.sizeOf0
  v0 := Tryz.zeroValue0
  t3 := Tryz.underlying3
  a3 := Tryz.isAgg3
  z3 := Tryz.sizeOf3
  v3 := Tryz.zeroValue3
  t4 := Tryz.underlying4
  a4 := Tryz.isAgg4
  z4 := Tryz.sizeOf4
  v4 := Tryz.zeroValue4
  t9 := Tryz.underlying9
  a9 := Tryz.isAgg9
  z9 := Tryz.sizeOf9
  v9 := Tryz.zeroValue9
  t31 := Tryz.underlying102
  a31 := Tryz.isAgg102
  z31 := Tryz.sizeOf102
  v31 := Tryz.zeroValue102 }
open Go.Lib in
/-- slices.Index at []string: "Index returns the index of the first occurrence of v in s, or -1 if not present.": IT RETURNS 'Lib.idxOfS (the elements) v'; the world is as it was. 'zs': what the cells behind the slice's address hold (its spare capacity too, if you have it); 'zs.take n': its elements. (LAID: no walk: one application.) -/
theorem Tryz.slices_Index_string (b off n c : Nat) (zs : List ByteArray) (x : ByteArray) (w : World) (hz : n ≤ zs.length) (hbig : n ≤ 9223372036854775807) (hc : ∀ j, j < zs.length → w.cell? ⟨b, off + j, none⟩ = some (.string (zs.getD j ByteArray.empty))) :
    Calls Tryz.prog 117 #[.slice (some ⟨b, off, none⟩) n c, .string x] w fun e w' => e = .returned (.int .i64 (Lib.idxOfS (zs.take n) x)) ∧ w' = w := Any.slices_Index_string Tryz.lays109 b off n c zs x w hz hbig hc
open Go.Lib in
/-- The same at a slice of length 0, a nil one too: no cell is known, none is asked for. (LAID: no walk: one application.) -/
theorem Tryz.slices_Index_string_empty (a : Option Addr) (c : Nat) (x : ByteArray) (w : World) :
    Calls Tryz.prog 117 #[.slice a 0 c, .string x] w fun e w' => e = .returned (.int .i64 (Lib.idxOfS [] x)) ∧ w' = w := Any.slices_Index_string_empty Tryz.lays109 a c x w
def Tryz.lays110_ren : Go.Shelf.Ren := ⟨fun | 110 => 69 | 109 => 117 | n => n, fun | 31 => 102 | 9 => 9 | 4 => 4 | 3 => 3 | 0 => 0 | n => n, fun | n => n⟩
theorem Tryz.lays110 : Go.Proofs.Lays.n110 Tryz.prog Tryz.lays110_ren := {
  mixed := by kernel_rfl
  f109 := Tryz.func117.trans (congrArg some (by kernel_rfl))
  f110 := Tryz.func69.trans (congrArg some (by kernel_rfl))
  t0 := Tryz.underlying0
  a0 := Tryz.isAgg0
  z0 := Tryz.sizeOf0
  v0 := Tryz.zeroValue0
  t3 := Tryz.underlying3
  a3 := Tryz.isAgg3
  z3 := Tryz.sizeOf3
  v3 := Tryz.zeroValue3
  t4 := Tryz.underlying4
  a4 := Tryz.isAgg4
  z4 := Tryz.sizeOf4
  v4 := Tryz.zeroValue4
  t9 := Tryz.underlying9
  a9 := Tryz.isAgg9
  z9 := Tryz.sizeOf9
  v9 := Tryz.zeroValue9
  t31 := Tryz.underlying102
  a31 := Tryz.isAgg102
  z31 := Tryz.sizeOf102
  v31 := Tryz.zeroValue102 }
open Go.Lib in
/-- slices.Contains at []string: "Contains reports whether v is present in s.": IT RETURNS 'Lib.containsS (the elements) v', which is true just where v is among them ('Lib.containsS_iff'); the world is as it was. ITS CALLEE slices.Index IS MET BY ITS OWN CONTRACT OFF THE SHELF (lay that first): no loop is walked here. (LAID: no walk: one application.) -/
theorem Tryz.slices_Contains_string (b off n c : Nat) (zs : List ByteArray) (x : ByteArray) (w : World) (hz : n ≤ zs.length) (hbig : n ≤ 9223372036854775807) (hc : ∀ j, j < zs.length → w.cell? ⟨b, off + j, none⟩ = some (.string (zs.getD j ByteArray.empty))) :
    Calls Tryz.prog 69 #[.slice (some ⟨b, off, none⟩) n c, .string x] w fun e w' => e = .returned (.bool (Lib.containsS (zs.take n) x)) ∧ w' = w := Any.slices_Contains_string Tryz.lays110 b off n c zs x w hz hbig hc
open Go.Lib in
/-- The same at a slice of length 0, a nil one too. (LAID: no walk: one application.) -/
theorem Tryz.slices_Contains_string_empty (a : Option Addr) (c : Nat) (x : ByteArray) (w : World) :
    Calls Tryz.prog 69 #[.slice a 0 c, .string x] w fun e w' => e = .returned (.bool false) ∧ w' = w := Any.slices_Contains_string_empty Tryz.lays110 a c x w
end Go.Proofs
