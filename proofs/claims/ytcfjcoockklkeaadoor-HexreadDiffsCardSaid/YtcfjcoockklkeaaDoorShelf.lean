/-
  The library's contracts at this dump, written by the kit's lay-plain tool: those that this claim uses. Conditions: as each states.
-/
import Derived.Shelf.Strings.Builder1
import Derived.Shelf.Strings.Builder2
import Derived.Shelf.Strings.OnBuilder
import Derived.Shelf.Strings.Trim
import Derived.Shelf.Small.Utf8
import Derived.Shelf.Small.Strs
import Derived.Shelf.Small.Wraps
import Derived.Shelf.Strings.BuilderF
import Derived.Shelf.Strings.BuilderK
import Derived.Shelf.Strings.Builder2Cap
import Derived.Shelf.Strings.Search1
import Derived.Shelf.Strings.Search2
import Derived.Shelf.Strings.Search3
import Derived.Shelf.Strings.Count
import Derived.Shelf.LaysM
import Derived.Shelf.Strings.Shaped
import Derived.Shelf.Strings.Prefix
import Derived.Shelf.Strings.Split
import Derived.Shelf.Strings.SplitShaped
import Derived.Shelf.Strings.Runes
import Derived.Shelf.Strings.AsciiSet
import Derived.Shelf.Unicode.DecodeSlow
import Derived.Shelf.Strings.BuilderCap
import Derived.Shelf.Slices.Equal
import Derived.Shelf.Slices.Empties2
import Derived.Test.YtcfjcoockklkeaaDoorProg
namespace Go.Proofs
open Go.Shelf
def Tryd.lays169_ren : Go.Shelf.Ren := ⟨fun | 169 => 88 | n => n, fun | 70 => 140 | 9 => 9 | 0 => 0 | 72 => 142 | 37 => 44 | 127 => 177 | 3 => 3 | 5 => 5 | n => n, fun | n => n⟩
theorem Tryd.lays169 : Go.Proofs.Lays.n169 Tryd.prog Tryd.lays169_ren := {
  mixed := by kernel_rfl
  f169 := Tryd.func88.trans (congrArg some (by kernel_rfl))
  t0 := Tryd.underlying0
  a0 := Tryd.isAgg0
  z0 := Tryd.sizeOf0
  v0 := Tryd.zeroValue0
  t3 := Tryd.underlying3
  a3 := Tryd.isAgg3
  z3 := Tryd.sizeOf3
  v3 := Tryd.zeroValue3
  t9 := Tryd.underlying9
  a9 := Tryd.isAgg9
  z9 := Tryd.sizeOf9
  v9 := Tryd.zeroValue9
  t37 := Tryd.underlying44
  a37 := Tryd.isAgg44
  z37 := Tryd.sizeOf44
  v37 := Tryd.zeroValue44
  t70 := Tryd.underlying140
  a70 := Tryd.isAgg140
  z70 := Tryd.sizeOf140
  v70 := Tryd.zeroValue140
  t72 := Tryd.underlying142
  a72 := Tryd.isAgg142
  z72 := Tryd.sizeOf142
  v72 := Tryd.zeroValue142
  t127 := Tryd.underlying177
  a127 := Tryd.isAgg177
  z127 := Tryd.sizeOf177
  v127 := Tryd.zeroValue177 }
theorem Tryd.Builder_Extra_169 : Builder.Extra Tryd.prog Tryd.lays169_ren := {
  sizeBuilder := by kernel_rfl
  liesBuilder := by kernel_rfl
  t5 := Tryd.underlying5
  a5 := Tryd.isAgg5
  z5 := Tryd.sizeOf5
  v5 := Tryd.zeroValue5
  infoByte := by kernel_rfl
  cellsByte := by kernel_rfl
  sizeByte := by kernel_rfl
  neB5 := by decide }
open Go.RowKit in
/-- (*strings.Builder).String: "String returns the accumulated string.": OF A BUILDER THAT HOLDS AT LEAST ONE BYTE. ✋ THE MODEL FREEZES THOSE BYTES IN THE BUFFER (unsafe.String): a later write INTO them ends the model's run without an answer; a later append BEHIND them goes on. The statement's order of evaluation is drawn: one draw. (LAID: no walk: one application.) -/
theorem Tryd.Builder_String (B b : Nat) (l : List UInt8) (w : World) (h : Lib.IsBuilder 142 5 B b (Lib.byteCells l) w) (h0 : l ≠ []) :
    Calls Tryd.prog 88 #[.pointer (some ⟨b, 0, none⟩)] w fun e w' => e = .returned (.string ⟨l.toArray⟩) ∧ Below B w w' := Any.Builder_String Tryd.lays169 Tryd.Builder_Extra_169 B b l w h h0
open Go.RowKit in
/-- (*strings.Builder).String OF A BUILDER THAT HOLDS NO BYTE: the empty string. (Its buffer is nil, or a row of which it has taken nothing yet; where that row has NO capacity the model lays one new block for unsafe.SliceData's 'some address'.) One draw. (LAID: no walk: one application.) -/
theorem Tryd.Builder_String_empty (B b : Nat) (w : World) (h : Lib.IsBuilder 142 5 B b [] w) (hBw : B ≤ w.heap.size) :
    Calls Tryd.prog 88 #[.pointer (some ⟨b, 0, none⟩)] w fun e w' => e = .returned (.string ⟨#[]⟩) ∧ Below B w w' := Any.Builder_String_empty Tryd.lays169 Tryd.Builder_Extra_169 B b w h hBw
open Go.RowKit in
/-- (*strings.Builder).String: "String returns the accumulated string.": WHATEVER THE BUILDER HOLDS. (LAID: no walk: one application.) -/
theorem Tryd.Builder_String_any (B b : Nat) (l : List UInt8) (w : World) (h : Lib.IsBuilder 142 5 B b (Lib.byteCells l) w) (hBw : B ≤ w.heap.size) :
    Calls Tryd.prog 88 #[.pointer (some ⟨b, 0, none⟩)] w fun e w' => e = .returned (.string ⟨l.toArray⟩) ∧ Below B w w' := Any.Builder_String_any Tryd.lays169 Tryd.Builder_Extra_169 B b l w h hBw
def Tryd.lays156_ren : Go.Shelf.Ren := ⟨fun | 156 => 50 | 165 => 86 | 166 => 87 | 169 => 88 | 240 => 120 | 241 => 121 | 276 => 144 | 277 => 145 | n => n, fun | 31 => 33 | 9 => 9 | 3 => 3 | 4 => 4 | 0 => 0 | 20 => 20 | 72 => 142 | 76 => 145 | 70 => 140 | 37 => 44 | 75 => 144 | 127 => 177 | 164 => 193 | 5 => 5 | 80 => 147 | n => n, fun | n => n⟩
theorem Tryd.lays156 : Go.Proofs.Lays.n156 Tryd.prog Tryd.lays156_ren := {
  mixed := by kernel_rfl
  f156 := Tryd.func50.trans (congrArg some (by kernel_rfl))
  f165 := Tryd.func86.trans (congrArg some (by kernel_rfl))
  f166 := Tryd.func87.trans (congrArg some (by kernel_rfl))
  f169 := Tryd.func88.trans (congrArg some (by kernel_rfl))
  f240 := Tryd.func120.trans (congrArg some (by kernel_rfl))
  f241 := Tryd.func121.trans (congrArg some (by kernel_rfl))
  f276 := Tryd.func144.trans (congrArg some (by kernel_rfl))
  f277 := Tryd.func145.trans (congrArg some (by kernel_rfl))
  t0 := Tryd.underlying0
  a0 := Tryd.isAgg0
  z0 := Tryd.sizeOf0
  v0 := Tryd.zeroValue0
  t3 := Tryd.underlying3
  a3 := Tryd.isAgg3
  z3 := Tryd.sizeOf3
  v3 := Tryd.zeroValue3
  t4 := Tryd.underlying4
  a4 := Tryd.isAgg4
  z4 := Tryd.sizeOf4
  v4 := Tryd.zeroValue4
  t9 := Tryd.underlying9
  a9 := Tryd.isAgg9
  z9 := Tryd.sizeOf9
  v9 := Tryd.zeroValue9
  t20 := Tryd.underlying20
  a20 := Tryd.isAgg20
  z20 := Tryd.sizeOf20
  v20 := Tryd.zeroValue20
  t31 := Tryd.underlying33
  a31 := Tryd.isAgg33
  z31 := Tryd.sizeOf33
  v31 := Tryd.zeroValue33
  t37 := Tryd.underlying44
  a37 := Tryd.isAgg44
  z37 := Tryd.sizeOf44
  v37 := Tryd.zeroValue44
  t70 := Tryd.underlying140
  a70 := Tryd.isAgg140
  z70 := Tryd.sizeOf140
  v70 := Tryd.zeroValue140
  t72 := Tryd.underlying142
  a72 := Tryd.isAgg142
  z72 := Tryd.sizeOf142
  v72 := Tryd.zeroValue142
  t75 := Tryd.underlying144
  a75 := Tryd.isAgg144
  z75 := Tryd.sizeOf144
  v75 := Tryd.zeroValue144
  t76 := Tryd.underlying145
  a76 := Tryd.isAgg145
  z76 := Tryd.sizeOf145
  v76 := Tryd.zeroValue145
  t127 := Tryd.underlying177
  a127 := Tryd.isAgg177
  z127 := Tryd.sizeOf177
  v127 := Tryd.zeroValue177
  t164 := Tryd.underlying193
  a164 := Tryd.isAgg193
  z164 := Tryd.sizeOf193
  v164 := Tryd.zeroValue193 }
theorem Tryd.Builder_Extra_156 : Builder.Extra Tryd.prog Tryd.lays156_ren := {
  sizeBuilder := by kernel_rfl
  liesBuilder := by kernel_rfl
  t5 := Tryd.underlying5
  a5 := Tryd.isAgg5
  z5 := Tryd.sizeOf5
  v5 := Tryd.zeroValue5
  infoByte := by kernel_rfl
  cellsByte := by kernel_rfl
  sizeByte := by kernel_rfl
  neB5 := by decide }
open Go.RowKit in
/-- No element: the empty string; the world is as it was. (Whatever the slice's address and capacity: a nil slice too.) (LAID: no walk: one application.) -/
theorem Tryd.strings_Join_none (a : Option Addr) (c : Nat) (sep : ByteArray) (w : World) :
    Calls Tryd.prog 50 #[.slice a 0 c, .string sep] w fun e w' => e = .returned (.string ⟨#[]⟩) ∧ w' = w := Any.strings_Join_none Tryd.lays156 Tryd.Builder_Extra_156 a c sep w
open Go.RowKit in
/-- strings.Join: "Join concatenates the elements of its first argument to create a single string. The separator string sep is placed between elements in the resulting string.": HOWEVER MANY ELEMENTS. Below the heap's end the world is as it was. (LAID: no walk: one application.) -/
theorem Tryd.strings_Join (bk o c : Nat) (xs : List ByteArray) (sep : ByteArray) (w : World) (hcells : ∀ (j : Nat) x, xs[j]? = some x → w.cell? ⟨bk, o + j, none⟩ = some (.string x)) (hbk : bk < w.heap.size) (hN : xs.length ≤ 140737488355328) (hcap : xs.length ≤ c) (hlen : (Lib.join (xs.map (·.data.toList)) sep.data.toList).length ≤ 140737488355328) :
    Calls Tryd.prog 50 #[.slice (some ⟨bk, o, none⟩) xs.length c, .string sep] w fun e w' => e = .returned (.string ⟨(Lib.join (xs.map (·.data.toList)) sep.data.toList).toArray⟩) ∧ Below w.heap.size w w' := Any.strings_Join Tryd.lays156 Tryd.Builder_Extra_156 bk o c xs sep w hcells hbk hN hcap hlen
def Tryd.lays162_ren : Go.Shelf.Ren := ⟨fun | 162 => 38 | 232 => 73 | 227 => 74 | 234 => 75 | 236 => 76 | 228 => 108 | 271 => 109 | 151 => 110 | 120 => 129 | 197 => 111 | 152 => 130 | 260 => 131 | 137 => 127 | 119 => 149 | 224 => 124 | 225 => 123 | 217 => 122 | 266 => 146 | n => n, fun | 9 => 9 | 4 => 4 | 3 => 3 | 5 => 5 | 117 => 126 | 116 => 125 | 0 => 0 | 124 => 129 | 21 => 21 | 105 => 167 | 46 => 135 | 119 => 200 | 139 => 203 | 138 => 202 | n => n, fun | 3 => 2 | 4 => 3 | n => n⟩
theorem Tryd.lays162 : Go.Proofs.Lays.n162 Tryd.prog Tryd.lays162_ren := {
  mixed := by kernel_rfl
  f119 := Tryd.func149.trans (congrArg some (by kernel_rfl))
  f120 := Tryd.func129.trans (congrArg some (by kernel_rfl))
  f137 := Tryd.func127.trans (congrArg some (by kernel_rfl))
  f151 := Tryd.func110.trans (congrArg some (by kernel_rfl))
  f152 := Tryd.func130.trans (congrArg some (by kernel_rfl))
  f162 := Tryd.func38.trans (congrArg some (by kernel_rfl))
  f197 := Tryd.func111.trans (congrArg some (by kernel_rfl))
  f217 := Tryd.func122.trans (congrArg some (by kernel_rfl))
  f224 := Tryd.func124.trans (congrArg some (by kernel_rfl))
  f225 := Tryd.func123.trans (congrArg some (by kernel_rfl))
  f227 := Tryd.func74.trans (congrArg some (by kernel_rfl))
  f228 := Tryd.func108.trans (congrArg some (by kernel_rfl))
  f232 := Tryd.func73.trans (congrArg some (by kernel_rfl))
  f234 := Tryd.func75.trans (congrArg some (by kernel_rfl))
  f236 := Tryd.func76.trans (congrArg some (by kernel_rfl))
  f260 := Tryd.func131.trans (congrArg some (by kernel_rfl))
  f266 := Tryd.func146.trans (congrArg some (by kernel_rfl))
  f271 := Tryd.func109.trans (congrArg some (by kernel_rfl))
  t0 := Tryd.underlying0
  a0 := Tryd.isAgg0
  z0 := Tryd.sizeOf0
  v0 := Tryd.zeroValue0
  t3 := Tryd.underlying3
  a3 := Tryd.isAgg3
  z3 := Tryd.sizeOf3
  v3 := Tryd.zeroValue3
  t4 := Tryd.underlying4
  a4 := Tryd.isAgg4
  z4 := Tryd.sizeOf4
  v4 := Tryd.zeroValue4
  t5 := Tryd.underlying5
  a5 := Tryd.isAgg5
  z5 := Tryd.sizeOf5
  v5 := Tryd.zeroValue5
  t9 := Tryd.underlying9
  a9 := Tryd.isAgg9
  z9 := Tryd.sizeOf9
  v9 := Tryd.zeroValue9
  t21 := Tryd.underlying21
  a21 := Tryd.isAgg21
  z21 := Tryd.sizeOf21
  v21 := Tryd.zeroValue21
  t46 := Tryd.underlying135
  a46 := Tryd.isAgg135
  z46 := Tryd.sizeOf135
  v46 := Tryd.zeroValue135
  t105 := Tryd.underlying167
  a105 := Tryd.isAgg167
  z105 := Tryd.sizeOf167
  v105 := Tryd.zeroValue167
  t116 := Tryd.underlying125
  a116 := Tryd.isAgg125
  z116 := Tryd.sizeOf125
  t117 := Tryd.underlying126
  a117 := Tryd.isAgg126
  z117 := Tryd.sizeOf126
  v117 := Tryd.zeroValue126
  t119 := Tryd.underlying200
  a119 := Tryd.isAgg200
  z119 := Tryd.sizeOf200
  t124 := Tryd.underlying129
  a124 := Tryd.isAgg129
  z124 := Tryd.sizeOf129
  v124 := Tryd.zeroValue129
  t138 := Tryd.underlying202
  a138 := Tryd.isAgg202
  z138 := Tryd.sizeOf202
  v138 := Tryd.zeroValue202
  t139 := Tryd.underlying203
  a139 := Tryd.isAgg203
  z139 := Tryd.sizeOf203
  v139 := Tryd.zeroValue203
  g3 := by kernel_rfl
  g4 := by kernel_rfl }
open Go.RowKit in
/-- strings.TrimRight: "TrimRight returns a slice of the string s, with all trailing Unicode code points contained in cutset removed.": AT A cutset OF ONE ASCII BYTE. The world is as it was. (LAID: no walk: one application.) -/
theorem Tryd.strings_TrimRight_one (s : ByteArray) (c : UInt8) (hc : c.toNat < 128) (w : World) (hs : s.size ≤ 9223372036854775807) :
    Calls Tryd.prog 38 #[.string s, .string ⟨#[c]⟩] w fun e w' => e = .returned (.string ⟨(Lib.trimRightB s.data.toList c).toArray⟩) ∧ w' = w := Any.strings_TrimRight_one Tryd.lays162 s c hc w hs
def Tryd.lays160_ren : Go.Shelf.Ren := ⟨fun | 160 => 39 | 232 => 73 | 231 => 77 | 227 => 74 | 234 => 75 | 233 => 78 | 236 => 76 | 235 => 79 | 228 => 108 | 271 => 109 | 151 => 110 | 197 => 111 | 120 => 129 | 152 => 130 | 260 => 131 | 137 => 127 | 119 => 149 | 224 => 124 | 225 => 123 | 217 => 122 | 266 => 146 | n => n, fun | 9 => 9 | 4 => 4 | 3 => 3 | 5 => 5 | 117 => 126 | 116 => 125 | 0 => 0 | 124 => 129 | 21 => 21 | 105 => 167 | 46 => 135 | 119 => 200 | 139 => 203 | 138 => 202 | n => n, fun | 3 => 2 | 4 => 3 | n => n⟩
theorem Tryd.lays160 : Go.Proofs.Lays.n160 Tryd.prog Tryd.lays160_ren := {
  mixed := by kernel_rfl
  f119 := Tryd.func149.trans (congrArg some (by kernel_rfl))
  f120 := Tryd.func129.trans (congrArg some (by kernel_rfl))
  f137 := Tryd.func127.trans (congrArg some (by kernel_rfl))
  f151 := Tryd.func110.trans (congrArg some (by kernel_rfl))
  f152 := Tryd.func130.trans (congrArg some (by kernel_rfl))
  f160 := Tryd.func39.trans (congrArg some (by kernel_rfl))
  f197 := Tryd.func111.trans (congrArg some (by kernel_rfl))
  f217 := Tryd.func122.trans (congrArg some (by kernel_rfl))
  f224 := Tryd.func124.trans (congrArg some (by kernel_rfl))
  f225 := Tryd.func123.trans (congrArg some (by kernel_rfl))
  f227 := Tryd.func74.trans (congrArg some (by kernel_rfl))
  f228 := Tryd.func108.trans (congrArg some (by kernel_rfl))
  f231 := Tryd.func77.trans (congrArg some (by kernel_rfl))
  f232 := Tryd.func73.trans (congrArg some (by kernel_rfl))
  f233 := Tryd.func78.trans (congrArg some (by kernel_rfl))
  f234 := Tryd.func75.trans (congrArg some (by kernel_rfl))
  f235 := Tryd.func79.trans (congrArg some (by kernel_rfl))
  f236 := Tryd.func76.trans (congrArg some (by kernel_rfl))
  f260 := Tryd.func131.trans (congrArg some (by kernel_rfl))
  f266 := Tryd.func146.trans (congrArg some (by kernel_rfl))
  f271 := Tryd.func109.trans (congrArg some (by kernel_rfl))
  t0 := Tryd.underlying0
  a0 := Tryd.isAgg0
  z0 := Tryd.sizeOf0
  v0 := Tryd.zeroValue0
  t3 := Tryd.underlying3
  a3 := Tryd.isAgg3
  z3 := Tryd.sizeOf3
  v3 := Tryd.zeroValue3
  t4 := Tryd.underlying4
  a4 := Tryd.isAgg4
  z4 := Tryd.sizeOf4
  v4 := Tryd.zeroValue4
  t5 := Tryd.underlying5
  a5 := Tryd.isAgg5
  z5 := Tryd.sizeOf5
  v5 := Tryd.zeroValue5
  t9 := Tryd.underlying9
  a9 := Tryd.isAgg9
  z9 := Tryd.sizeOf9
  v9 := Tryd.zeroValue9
  t21 := Tryd.underlying21
  a21 := Tryd.isAgg21
  z21 := Tryd.sizeOf21
  v21 := Tryd.zeroValue21
  t46 := Tryd.underlying135
  a46 := Tryd.isAgg135
  z46 := Tryd.sizeOf135
  v46 := Tryd.zeroValue135
  t105 := Tryd.underlying167
  a105 := Tryd.isAgg167
  z105 := Tryd.sizeOf167
  v105 := Tryd.zeroValue167
  t116 := Tryd.underlying125
  a116 := Tryd.isAgg125
  z116 := Tryd.sizeOf125
  t117 := Tryd.underlying126
  a117 := Tryd.isAgg126
  z117 := Tryd.sizeOf126
  v117 := Tryd.zeroValue126
  t119 := Tryd.underlying200
  a119 := Tryd.isAgg200
  z119 := Tryd.sizeOf200
  t124 := Tryd.underlying129
  a124 := Tryd.isAgg129
  z124 := Tryd.sizeOf129
  v124 := Tryd.zeroValue129
  t138 := Tryd.underlying202
  a138 := Tryd.isAgg202
  z138 := Tryd.sizeOf202
  v138 := Tryd.zeroValue202
  t139 := Tryd.underlying203
  a139 := Tryd.isAgg203
  z139 := Tryd.sizeOf203
  v139 := Tryd.zeroValue203
  g3 := by kernel_rfl
  g4 := by kernel_rfl }
open Go.RowKit in
/-- strings.Trim: "Trim returns a slice of the string s with all leading and trailing Unicode code points contained in cutset removed.": AT A cutset OF ONE ASCII BYTE. THE WORLD BEHIND IT: as it was, or (where s is not empty) with ONE DRAW MORE off the tape: the statement 'return trimLeftByte(trimRightByte(s, c), c)' draws its order of evaluation. (LAID: no walk: one application.) -/
theorem Tryd.strings_Trim_one (s : ByteArray) (c : UInt8) (hc : c.toNat < 128) (w : World) (hs : s.size ≤ 9223372036854775807) :
    Calls Tryd.prog 39 #[.string s, .string ⟨#[c]⟩] w fun e w' => e = .returned (.string ⟨(Lib.trimB s.data.toList c).toArray⟩) ∧ (w' = w ∨ w' = w.drew) := Any.strings_Trim_one Tryd.lays160 s c hc w hs
def Tryd.lays137_ren : Go.Shelf.Ren := ⟨fun | 137 => 127 | 217 => 122 | 266 => 146 | n => n, fun | 9 => 9 | 5 => 5 | 3 => 3 | n => n, fun | n => n⟩
theorem Tryd.lays137 : Go.Proofs.Lays.n137 Tryd.prog Tryd.lays137_ren := {
  mixed := by kernel_rfl
  f137 := Tryd.func127.trans (congrArg some (by kernel_rfl))
  f217 := Tryd.func122.trans (congrArg some (by kernel_rfl))
  f266 := Tryd.func146.trans (congrArg some (by kernel_rfl))
  t3 := Tryd.underlying3
  a3 := Tryd.isAgg3
  z3 := Tryd.sizeOf3
  v3 := Tryd.zeroValue3
  t5 := Tryd.underlying5
  a5 := Tryd.isAgg5
  z5 := Tryd.sizeOf5
  v5 := Tryd.zeroValue5
  t9 := Tryd.underlying9
  a9 := Tryd.isAgg9
  z9 := Tryd.sizeOf9
  v9 := Tryd.zeroValue9 }
open Go.RowKit in
/-- strings.IndexByte: "IndexByte returns the index of the first instance of c in s, or -1 if c is not present in s.": IT RETURNS 'Lib.indexByte s c'; the world is as it was. (LAID: no walk: one application.) -/
theorem Tryd.strings_IndexByte (s : ByteArray) (c : Int) (w : World) :
    Calls Tryd.prog 127 #[.string s, .int .u8 c] w fun e w' => e = .returned (.int .i64 (Lib.indexByte s.data.toList c.toNat.toUInt8)) ∧ w' = w := Any.strings_IndexByte Tryd.lays137 s c w
def Tryd.lays103_ren : Go.Shelf.Ren := ⟨fun | 103 => 59 | 210 => 94 | 206 => 126 | n => n, fun | 9 => 9 | 4 => 4 | 24 => 37 | 3 => 3 | n => n, fun | n => n⟩
theorem Tryd.lays103 : Go.Proofs.Lays.n103 Tryd.prog Tryd.lays103_ren := {
  mixed := by kernel_rfl
  f103 := Tryd.func59.trans (congrArg some (by kernel_rfl))
  f206 := Tryd.func126.trans (congrArg some (by kernel_rfl))
  f210 := Tryd.func94.trans (congrArg some (by kernel_rfl))
  t3 := Tryd.underlying3
  a3 := Tryd.isAgg3
  z3 := Tryd.sizeOf3
  v3 := Tryd.zeroValue3
  t4 := Tryd.underlying4
  a4 := Tryd.isAgg4
  z4 := Tryd.sizeOf4
  v4 := Tryd.zeroValue4
  t9 := Tryd.underlying9
  a9 := Tryd.isAgg9
  z9 := Tryd.sizeOf9
  v9 := Tryd.zeroValue9
  t24 := Tryd.underlying37
  a24 := Tryd.isAgg37
  z24 := Tryd.sizeOf37
  v24 := Tryd.zeroValue37 }
open Go.RowKit in
/-- strings.CutPrefix: "CutPrefix returns s without the provided leading prefix string and reports whether it found the prefix. If s doesn't start with prefix, CutPrefix returns s, false. If prefix is the empty string, CutPrefix returns s, true.": IT RETURNS '(Lib.trimPrefix s p, Lib.hasPrefix s p)'; the world is as it was. (LAID: no walk: one application.) -/
theorem Tryd.strings_CutPrefix (s p : ByteArray) (w : World) :
    Calls Tryd.prog 59 #[.string s, .string p] w fun e w' => e = .returned (.tuple #[.string ⟨(Lib.trimPrefix s.data.toList p.data.toList).toArray⟩, .bool (Lib.hasPrefix s.data.toList p.data.toList)]) ∧ w' = w := Any.strings_CutPrefix Tryd.lays103 s p w
def Tryd.lays144_ren : Go.Shelf.Ren := ⟨fun | 144 => 40 | 143 => 57 | 219 => 92 | 217 => 122 | 225 => 123 | 224 => 124 | 267 => 125 | 266 => 146 | 314 => 147 | n => n, fun | 9 => 9 | 4 => 4 | 3 => 3 | 5 => 5 | 46 => 135 | 146 => 196 | 51 => 189 | n => n, fun | 1 => 0 | n => n⟩
theorem Tryd.lays144 : Go.Proofs.Lays.n144 Tryd.prog Tryd.lays144_ren := {
  mixed := by kernel_rfl
  f143 := Tryd.func57.trans (congrArg some (by kernel_rfl))
  f144 := Tryd.func40.trans (congrArg some (by kernel_rfl))
  f217 := Tryd.func122.trans (congrArg some (by kernel_rfl))
  f219 := Tryd.func92.trans (congrArg some (by kernel_rfl))
  f224 := Tryd.func124.trans (congrArg some (by kernel_rfl))
  f225 := Tryd.func123.trans (congrArg some (by kernel_rfl))
  f266 := Tryd.func146.trans (congrArg some (by kernel_rfl))
  f267 := Tryd.func125.trans (congrArg some (by kernel_rfl))
  f314 := Tryd.func147.trans (congrArg some (by kernel_rfl))
  t3 := Tryd.underlying3
  a3 := Tryd.isAgg3
  z3 := Tryd.sizeOf3
  v3 := Tryd.zeroValue3
  t4 := Tryd.underlying4
  a4 := Tryd.isAgg4
  z4 := Tryd.sizeOf4
  v4 := Tryd.zeroValue4
  t5 := Tryd.underlying5
  a5 := Tryd.isAgg5
  z5 := Tryd.sizeOf5
  v5 := Tryd.zeroValue5
  t9 := Tryd.underlying9
  a9 := Tryd.isAgg9
  z9 := Tryd.sizeOf9
  v9 := Tryd.zeroValue9
  t46 := Tryd.underlying135
  a46 := Tryd.isAgg135
  z46 := Tryd.sizeOf135
  v46 := Tryd.zeroValue135
  t51 := Tryd.underlying189
  a51 := Tryd.isAgg189
  z51 := Tryd.sizeOf189
  v51 := Tryd.zeroValue189
  t146 := Tryd.underlying196
  a146 := Tryd.isAgg196
  z146 := Tryd.sizeOf196
  v146 := Tryd.zeroValue196
  g1 := by kernel_rfl }
open Go.RowKit Go.Lib in
/-- strings.Contains: "Contains reports whether substr is within s.": AT A substr OF ONE BYTE c: IT RETURNS 'decide (0 ≤ Lib.indexByte s c)'; the world is as it was. (LAID: no walk: one application.) -/
theorem Tryd.strings_Contains_one (s : ByteArray) (c : UInt8) (w : World) :
    Calls Tryd.prog 40 #[.string s, .string ⟨#[c]⟩] w fun e w' => e = .returned (.bool (decide (0 ≤ Lib.indexByte s.data.toList c))) ∧ w' = w := Any.strings_Contains_one Tryd.lays144 s c w
def Tryd.lays138_ren : Go.Shelf.Ren := ⟨fun | 138 => 24 | 195 => 55 | 218 => 56 | 143 => 57 | 219 => 92 | 217 => 122 | 225 => 123 | 224 => 124 | 267 => 125 | 266 => 146 | 314 => 147 | n => n, fun | 9 => 9 | 3 => 3 | 4 => 4 | 5 => 5 | 0 => 0 | 46 => 135 | 146 => 196 | 51 => 189 | n => n, fun | 1 => 0 | n => n⟩
theorem Tryd.lays138 : Go.Proofs.Lays.n138 Tryd.prog Tryd.lays138_ren := {
  mixed := by kernel_rfl
  f138 := Tryd.func24.trans (congrArg some (by kernel_rfl))
  f143 := Tryd.func57.trans (congrArg some (by kernel_rfl))
  f195 := Tryd.func55.trans (congrArg some (by kernel_rfl))
  f217 := Tryd.func122.trans (congrArg some (by kernel_rfl))
  f218 := Tryd.func56.trans (congrArg some (by kernel_rfl))
  f219 := Tryd.func92.trans (congrArg some (by kernel_rfl))
  f224 := Tryd.func124.trans (congrArg some (by kernel_rfl))
  f225 := Tryd.func123.trans (congrArg some (by kernel_rfl))
  f266 := Tryd.func146.trans (congrArg some (by kernel_rfl))
  f267 := Tryd.func125.trans (congrArg some (by kernel_rfl))
  f314 := Tryd.func147.trans (congrArg some (by kernel_rfl))
  t0 := Tryd.underlying0
  a0 := Tryd.isAgg0
  z0 := Tryd.sizeOf0
  v0 := Tryd.zeroValue0
  t3 := Tryd.underlying3
  a3 := Tryd.isAgg3
  z3 := Tryd.sizeOf3
  v3 := Tryd.zeroValue3
  t4 := Tryd.underlying4
  a4 := Tryd.isAgg4
  z4 := Tryd.sizeOf4
  v4 := Tryd.zeroValue4
  t5 := Tryd.underlying5
  a5 := Tryd.isAgg5
  z5 := Tryd.sizeOf5
  v5 := Tryd.zeroValue5
  t9 := Tryd.underlying9
  a9 := Tryd.isAgg9
  z9 := Tryd.sizeOf9
  v9 := Tryd.zeroValue9
  t46 := Tryd.underlying135
  a46 := Tryd.isAgg135
  z46 := Tryd.sizeOf135
  v46 := Tryd.zeroValue135
  t51 := Tryd.underlying189
  a51 := Tryd.isAgg189
  z51 := Tryd.sizeOf189
  v51 := Tryd.zeroValue189
  t146 := Tryd.underlying196
  a146 := Tryd.isAgg196
  z146 := Tryd.sizeOf196
  v146 := Tryd.zeroValue196
  g1 := by kernel_rfl }
open Go.RowKit Go.Lib in
/-- strings.Count AT A substr OF ONE BYTE ('hp'): "Count counts the number of non-overlapping instances of substr in s.": IT RETURNS 'Lib.countByte s (that byte)'; the world is as it was. ✋ NO CONTRACT HERE YET at an empty substr (utf8.RuneCountInString) or at a longer one (a loop over strings.Index). (LAID: no walk: one application.) -/
theorem Tryd.strings_Count_one (s : ByteArray) (c : UInt8) (w : World) :
    Calls Tryd.prog 24 #[.string s, .string ⟨#[c]⟩] w fun e w' => e = .returned (.int .i64 (Lib.countByte s.data.toList c)) ∧ w' = w := Any.strings_Count_one Tryd.lays138 s c w
def Tryd.lays102_ren : Go.Shelf.Ren := ⟨fun | 102 => 37 | 209 => 72 | 207 => 107 | n => n, fun | 9 => 9 | 4 => 4 | 3 => 3 | n => n, fun | n => n⟩
theorem Tryd.lays102 : Go.Proofs.Lays.n102 Tryd.prog Tryd.lays102_ren := {
  mixed := by kernel_rfl
  f102 := Tryd.func37.trans (congrArg some (by kernel_rfl))
  f207 := Tryd.func107.trans (congrArg some (by kernel_rfl))
  f209 := Tryd.func72.trans (congrArg some (by kernel_rfl))
  t3 := Tryd.underlying3
  a3 := Tryd.isAgg3
  z3 := Tryd.sizeOf3
  v3 := Tryd.zeroValue3
  t4 := Tryd.underlying4
  a4 := Tryd.isAgg4
  z4 := Tryd.sizeOf4
  v4 := Tryd.zeroValue4
  t9 := Tryd.underlying9
  a9 := Tryd.isAgg9
  z9 := Tryd.sizeOf9
  v9 := Tryd.zeroValue9 }
open Go.RowKit Go.Lib in
/-- strings.TrimSuffix: "TrimSuffix returns s without the provided trailing suffix string. If s doesn't end with suffix, s is returned unchanged.": IT RETURNS 'Lib.trimSuffix s suffix'; the world is as it was. (LAID: no walk: one application.) -/
theorem Tryd.strings_TrimSuffix (s p : ByteArray) (w : World) (hs : s.size ≤ 9223372036854775807) :
    Calls Tryd.prog 37 #[.string s, .string p] w fun e w' => e = .returned (.string ⟨(Lib.trimSuffix s.data.toList p.data.toList).toArray⟩) ∧ w' = w := Any.strings_TrimSuffix Tryd.lays102 s p w hs
open Go.RowKit Go.Lib in
/-- strings.Count at whatever sep that is not empty: the two roads under one statement. (LAID: no walk: one application.) -/
theorem Tryd.strings_Count_any (s sep : ByteArray) (m : Int) (w : World) (hs : s.size < 4294967281) (hm : w.cell? ⟨0, 0, none⟩ = some (.int .i64 m)) (h1 : 1 ≤ sep.size) :
    Calls Tryd.prog 24 #[.string s, .string sep] w fun e w' => e = .returned (.int .i64 (Lib.countB s sep)) ∧ w' = w := Any.strings_Count_any Tryd.lays138 s sep m w hs hm h1
def Tryd.lays146_ren : Go.Shelf.Ren := ⟨fun | 146 => 25 | 221 => 58 | 268 => 93 | 138 => 24 | 143 => 57 | 195 => 55 | 197 => 111 | 218 => 56 | 219 => 92 | 260 => 131 | 217 => 122 | 225 => 123 | 224 => 124 | 267 => 125 | 266 => 146 | 314 => 147 | n => n, fun | 9 => 9 | 31 => 33 | 3 => 3 | 4 => 4 | 0 => 0 | 105 => 167 | 21 => 21 | 5 => 5 | 46 => 135 | 119 => 200 | 139 => 203 | 138 => 202 | 146 => 196 | 51 => 189 | n => n, fun | 1 => 0 | 3 => 2 | 4 => 3 | n => n⟩
theorem Tryd.lays146 : Go.Proofs.Lays.n146 Tryd.prog Tryd.lays146_ren := {
  mixed := by kernel_rfl
  f138 := Tryd.func24.trans (congrArg some (by kernel_rfl))
  f143 := Tryd.func57.trans (congrArg some (by kernel_rfl))
  f146 := Tryd.func25.trans (congrArg some (by kernel_rfl))
  f195 := Tryd.func55.trans (congrArg some (by kernel_rfl))
  f197 := Tryd.func111.trans (congrArg some (by kernel_rfl))
  f217 := Tryd.func122.trans (congrArg some (by kernel_rfl))
  f218 := Tryd.func56.trans (congrArg some (by kernel_rfl))
  f219 := Tryd.func92.trans (congrArg some (by kernel_rfl))
  f221 := Tryd.func58.trans (congrArg some (by kernel_rfl))
  f224 := Tryd.func124.trans (congrArg some (by kernel_rfl))
  f225 := Tryd.func123.trans (congrArg some (by kernel_rfl))
  f260 := Tryd.func131.trans (congrArg some (by kernel_rfl))
  f266 := Tryd.func146.trans (congrArg some (by kernel_rfl))
  f267 := Tryd.func125.trans (congrArg some (by kernel_rfl))
  f268 := Tryd.func93.trans (congrArg some (by kernel_rfl))
  f314 := Tryd.func147.trans (congrArg some (by kernel_rfl))
  t0 := Tryd.underlying0
  a0 := Tryd.isAgg0
  z0 := Tryd.sizeOf0
  v0 := Tryd.zeroValue0
  t3 := Tryd.underlying3
  a3 := Tryd.isAgg3
  z3 := Tryd.sizeOf3
  v3 := Tryd.zeroValue3
  t4 := Tryd.underlying4
  a4 := Tryd.isAgg4
  z4 := Tryd.sizeOf4
  v4 := Tryd.zeroValue4
  t5 := Tryd.underlying5
  a5 := Tryd.isAgg5
  z5 := Tryd.sizeOf5
  v5 := Tryd.zeroValue5
  t9 := Tryd.underlying9
  a9 := Tryd.isAgg9
  z9 := Tryd.sizeOf9
  v9 := Tryd.zeroValue9
  t21 := Tryd.underlying21
  a21 := Tryd.isAgg21
  z21 := Tryd.sizeOf21
  v21 := Tryd.zeroValue21
  t31 := Tryd.underlying33
  a31 := Tryd.isAgg33
  z31 := Tryd.sizeOf33
  v31 := Tryd.zeroValue33
  t46 := Tryd.underlying135
  a46 := Tryd.isAgg135
  z46 := Tryd.sizeOf135
  v46 := Tryd.zeroValue135
  t51 := Tryd.underlying189
  a51 := Tryd.isAgg189
  z51 := Tryd.sizeOf189
  v51 := Tryd.zeroValue189
  t105 := Tryd.underlying167
  a105 := Tryd.isAgg167
  z105 := Tryd.sizeOf167
  v105 := Tryd.zeroValue167
  t119 := Tryd.underlying200
  a119 := Tryd.isAgg200
  z119 := Tryd.sizeOf200
  t138 := Tryd.underlying202
  a138 := Tryd.isAgg202
  z138 := Tryd.sizeOf202
  v138 := Tryd.zeroValue202
  t139 := Tryd.underlying203
  a139 := Tryd.isAgg203
  z139 := Tryd.sizeOf203
  v139 := Tryd.zeroValue203
  t146 := Tryd.underlying196
  a146 := Tryd.isAgg196
  z146 := Tryd.sizeOf196
  v146 := Tryd.zeroValue196
  g1 := by kernel_rfl
  g3 := by kernel_rfl
  g4 := by kernel_rfl }
open Go.RowKit Go.Lib in
/-- strings.Split. (LAID: no walk: one application.) -/
theorem Tryd.strings_Split (s sep : ByteArray) (m : Int) (w : World) (hs : s.size < 4294967281) (hm : w.cell? ⟨0, 0, none⟩ = some (.int .i64 m)) (h1 : 1 ≤ sep.size) :
    Calls Tryd.prog 25 #[.string s, .string sep] w fun e w' =>
      e = .returned (.slice (some ⟨w.heap.size, 0, none⟩) (Lib.countB s sep + 1) (Lib.countB s sep + 1)) ∧ w' = w.alloc (.cells ((Lib.splitB sep 0 (Lib.countB s sep) s).map Value.string).toArray 9) := Any.strings_Split Tryd.lays146 (by kernel_rfl) s sep m w hs hm h1
def Tryd.lays111_ren : Go.Shelf.Ren := ⟨fun | 111 => 42 | n => n, fun | 28 => 67 | 3 => 3 | 4 => 4 | 0 => 0 | n => n, fun | n => n⟩
theorem Tryd.lays111 : Go.Proofs.Lays.n111 Tryd.prog Tryd.lays111_ren := {
  mixed := by kernel_rfl
  f111 := Tryd.func42.trans (congrArg some (by kernel_rfl))
  t0 := Tryd.underlying0
  a0 := Tryd.isAgg0
  z0 := Tryd.sizeOf0
  v0 := Tryd.zeroValue0
  t3 := Tryd.underlying3
  a3 := Tryd.isAgg3
  z3 := Tryd.sizeOf3
  v3 := Tryd.zeroValue3
  t4 := Tryd.underlying4
  a4 := Tryd.isAgg4
  z4 := Tryd.sizeOf4
  v4 := Tryd.zeroValue4
  t28 := Tryd.underlying67
  a28 := Tryd.isAgg67
  z28 := Tryd.sizeOf67
  v28 := Tryd.zeroValue67 }
open Go.RowKit Go.Lib in
/-- slices.Equal at []int: "Equal reports whether two slices are equal: the same length and all elements equal. If the lengths are different, Equal returns false. Otherwise, the elements are compared in increasing index order, and the comparison stops at the first unequal pair. Empty and nil slices are considered equal.": IT RETURNS WHETHER THE TWO LISTS OF ELEMENTS ARE ONE; the world is as it was but for the count of draws (the test 's1[i] != s2[i]' has two reads, whose order the model draws, once a round). 'xs', 'ys': what the cells behind the two addresses hold (the spare capacity too, if you have it); 'xs.take n', 'ys.take m': the elements. THE TWO SLICES MAY OVERLAP. (LAID: no walk: one application.) -/
theorem Tryd.slices_Equal_int (b1 o1 n c b2 o2 m d : Nat) (xs ys : List Int) (w : World) (hx : n ≤ xs.length) (hy : m ≤ ys.length) (hbig : n ≤ 9223372036854775807) (hbig2 : m ≤ 9223372036854775807) (hc1 : ∀ j, j < xs.length → w.cell? ⟨b1, o1 + j, none⟩ = some (.int .i64 (xs.getD j 0))) (hc2 : ∀ j, j < ys.length → w.cell? ⟨b2, o2 + j, none⟩ = some (.int .i64 (ys.getD j 0))) :
    Calls Tryd.prog 42 #[.slice (some ⟨b1, o1, none⟩) n c, .slice (some ⟨b2, o2, none⟩) m d] w fun e w' => e = .returned (.bool (xs.take n == ys.take m)) ∧ ∃ q, w' = w.drewN q := Any.slices_Equal_int Tryd.lays111 b1 o1 n c b2 o2 m d xs ys w hx hy hbig hbig2 hc1 hc2
open Go.RowKit Go.Lib in
/-- The same where the first is of length 0 (a nil one too): no cell is asked for. (LAID: no walk: one application.) -/
theorem Tryd.slices_Equal_int_empty (a1 a2 : Option Addr) (c m d : Nat) (w : World) (hbig2 : m ≤ 9223372036854775807) :
    Calls Tryd.prog 42 #[.slice a1 0 c, .slice a2 m d] w fun e w' => e = .returned (.bool (decide (m = 0))) ∧ w' = w := Any.slices_Equal_int_empty Tryd.lays111 a1 a2 c m d w hbig2
open Go.RowKit Go.Lib in
theorem Tryd.slices_Equal_int_lens (a1 a2 : Option Addr) (n c m d : Nat) (w : World) (hnm : n ≠ m) :
    Calls Tryd.prog 42 #[.slice a1 n c, .slice a2 m d] w fun e w' => e = .returned (.bool false) ∧ w' = w := Any.slices_Equal_int_lens Tryd.lays111 a1 a2 n c m d w hnm
end Go.Proofs
