/-
  NARROWER THAN 'FOR EVERY INPUT', by the rows' own cells (each row's printed sentence says how): HexwriteDumps: laid · HexwriteSame: laid · HexwriteJoins: laid · HexwriteWrites: laid · HexwriteRecords: laid · HexreadMerges: laid · HexreadEnds: laid · HexreadInverse: laid · HexreadDiffs: laid.
  DERIVED. THE GIVEN ROWS OF THIS SEAT. 9 by the template 'for every input the law returns true; each argument reads behind the call as it read before'; 0 by the template 'total and deterministic' (their statements: YtcfjcoockklkeaaDoorTotals.lean).
  GIVEN WITH THE SEED: the statements are not yours to turn. If you find one false, say at which input.
  Laid BY PROGRAM, IN A SANDBOX (cutbox-rows.mjs): the forced cells as the released guide's own fill.sh prints them over the translation f5fd44da62deb054… (all of the seat's roots in one cut). By AI agents, Wed Nov 11 2026. No macro, syntax, notation, axiom, sorry.
-/
import Derived.Test.YtcfjcoockklkeaaDoorChecked
import GoSem.PinnedTables
import GoSem.Claim
import GoSem.ClaimJoined
import GoSem.ClaimMapViews
import Derived.JoinedTies
import Derived.KernelRfl
namespace Go.Proofs.YtcfjcoockklkeaaDoor
/- THE CELL 'sum', in the pinned program and in every row, IS THE sha256 OF THE DUMP (.gsa) THAT YtcfjcoockklkeaaDoorProg.lean LOADS. Nothing in Lean hashes anything: it is a label: what it is worth is what the hold of that sum in a sandbox is worth. -/
noncomputable def Tryd.pinned : Pinned := { name := "ytcfjcoockklkeaadoor", sum := "f5fd44da62deb054da3ba98929f0616180a446d8b548c8511363aca832a9df17", checked := Tryd.checked }
namespace Rows
def none {H : Type} : Left H := { results := [], args := [] }

/- WHAT THE LISTED PACKAGE-LEVEL VARIABLES READ AS WHEN THE CALL BEGINS. Each datum BY PROGRAM (the guide's laid-datum.mjs) off the statement by which the dump's own 'gosem.cut.vars' lays the variable. In a bare row this is a premise. The card (YtcfjcoockklkeaaDoorCards.lean) ties it to the program's text. -/
def laid_math_bits_deBruijn64tab {H : Type} : DataW H := .agg [.lit (.int .u8 0), .lit (.int .u8 1), .lit (.int .u8 56), .lit (.int .u8 2), .lit (.int .u8 57), .lit (.int .u8 49), .lit (.int .u8 28), .lit (.int .u8 3), .lit (.int .u8 61), .lit (.int .u8 58), .lit (.int .u8 42), .lit (.int .u8 50), .lit (.int .u8 38), .lit (.int .u8 29), .lit (.int .u8 17), .lit (.int .u8 4), .lit (.int .u8 62), .lit (.int .u8 47), .lit (.int .u8 59), .lit (.int .u8 36), .lit (.int .u8 45), .lit (.int .u8 43), .lit (.int .u8 51), .lit (.int .u8 22), .lit (.int .u8 53), .lit (.int .u8 39), .lit (.int .u8 33), .lit (.int .u8 30), .lit (.int .u8 24), .lit (.int .u8 18), .lit (.int .u8 12), .lit (.int .u8 5), .lit (.int .u8 63), .lit (.int .u8 55), .lit (.int .u8 48), .lit (.int .u8 27), .lit (.int .u8 60), .lit (.int .u8 41), .lit (.int .u8 37), .lit (.int .u8 16), .lit (.int .u8 46), .lit (.int .u8 35), .lit (.int .u8 44), .lit (.int .u8 21), .lit (.int .u8 52), .lit (.int .u8 32), .lit (.int .u8 23), .lit (.int .u8 11), .lit (.int .u8 54), .lit (.int .u8 26), .lit (.int .u8 40), .lit (.int .u8 15), .lit (.int .u8 34), .lit (.int .u8 20), .lit (.int .u8 31), .lit (.int .u8 10), .lit (.int .u8 25), .lit (.int .u8 14), .lit (.int .u8 19), .lit (.int .u8 9), .lit (.int .u8 13), .lit (.int .u8 8), .lit (.int .u8 7), .lit (.int .u8 6)]
def laid_unicode_utf8_acceptRanges {H : Type} : DataW H := .agg [.agg [.lit (.int .u8 128), .lit (.int .u8 191)], .agg [.lit (.int .u8 160), .lit (.int .u8 191)], .agg [.lit (.int .u8 128), .lit (.int .u8 159)], .agg [.lit (.int .u8 144), .lit (.int .u8 191)], .agg [.lit (.int .u8 128), .lit (.int .u8 143)], .agg [.lit (.int .u8 0), .lit (.int .u8 0)], .agg [.lit (.int .u8 0), .lit (.int .u8 0)], .agg [.lit (.int .u8 0), .lit (.int .u8 0)], .agg [.lit (.int .u8 0), .lit (.int .u8 0)], .agg [.lit (.int .u8 0), .lit (.int .u8 0)], .agg [.lit (.int .u8 0), .lit (.int .u8 0)], .agg [.lit (.int .u8 0), .lit (.int .u8 0)], .agg [.lit (.int .u8 0), .lit (.int .u8 0)], .agg [.lit (.int .u8 0), .lit (.int .u8 0)], .agg [.lit (.int .u8 0), .lit (.int .u8 0)], .agg [.lit (.int .u8 0), .lit (.int .u8 0)]]
/-- One of Go's own tables, pinned by name: the form's constant. -/
def laid_unicode_utf8_first : DataW Unit := Go.Pinned.utf8First

/-- 'breadboardlaw04.HexwriteDumps': WHATEVER THE INPUT: true; the input reads as it did. -/
def hexwriteDumpsSpec : ChangeSpec := { name := "hexwriteDumps", fn := fun _ => fun
  | [d] => { results := [.lit (.bool true)], args := [d] }
  | _ => none }
def hexwriteDumpsRow : OpenClaim := { program := "ytcfjcoockklkeaadoor", sum := "f5fd44da62deb054da3ba98929f0616180a446d8b548c8511363aca832a9df17", func := "breadboard/breadboardlaw04.HexwriteDumps", spec := "hexwriteDumps", inPlace := ["internal/abi.NoEscape", "internal/bytealg.MakeNoZero"], unfollowed := true, recurses := true, named := ["math/bits.deBruijn64tab"], apart := false, laid := [("math/bits.deBruijn64tab", laid_math_bits_deBruijn64tab)] }
def HexwriteDumpsSaid : Prop := hexwriteDumpsRow.holds Tryd.pinned (OpenSpec.ofChange hexwriteDumpsSpec)

/-- ITS FALSE NEIGHBOUR: 'it returns false'. Refute it at one input. -/
def hexwriteDumpsWrong : ChangeSpec := { name := "hexwriteDumps", fn := fun _ => fun
  | [d] => { results := [.lit (.bool false)], args := [d] }
  | _ => none }
def HexwriteDumpsWrongFalsely : Prop := hexwriteDumpsRow.holds Tryd.pinned (OpenSpec.ofChange hexwriteDumpsWrong)

/-- 'breadboardlaw04.HexwriteSame': WHATEVER THE INPUT: true; the input reads as it did. -/
def hexwriteSameSpec : ChangeSpec := { name := "hexwriteSame", fn := fun _ => fun
  | [d1, d2] => { results := [.lit (.bool true)], args := [d1, d2] }
  | _ => none }
def hexwriteSameRow : OpenClaim := { program := "ytcfjcoockklkeaadoor", sum := "f5fd44da62deb054da3ba98929f0616180a446d8b548c8511363aca832a9df17", func := "breadboard/breadboardlaw04.HexwriteSame", spec := "hexwriteSame", inPlace := ["internal/abi.NoEscape", "internal/bytealg.MakeNoZero"], unfollowed := true, recurses := true, named := ["math/bits.deBruijn64tab"], apart := false, laid := [("math/bits.deBruijn64tab", laid_math_bits_deBruijn64tab)] }
def HexwriteSameSaid : Prop := hexwriteSameRow.holds Tryd.pinned (OpenSpec.ofChange hexwriteSameSpec)

/-- ITS FALSE NEIGHBOUR: 'it returns false'. Refute it at one input. -/
def hexwriteSameWrong : ChangeSpec := { name := "hexwriteSame", fn := fun _ => fun
  | [d1, d2] => { results := [.lit (.bool false)], args := [d1, d2] }
  | _ => none }
def HexwriteSameWrongFalsely : Prop := hexwriteSameRow.holds Tryd.pinned (OpenSpec.ofChange hexwriteSameWrong)

/-- 'breadboardlaw04.HexwriteJoins': WHATEVER THE INPUT: true; the input reads as it did. -/
def hexwriteJoinsSpec : ChangeSpec := { name := "hexwriteJoins", fn := fun _ => fun
  | [d] => { results := [.lit (.bool true)], args := [d] }
  | _ => none }
def hexwriteJoinsRow : OpenClaim := { program := "ytcfjcoockklkeaadoor", sum := "f5fd44da62deb054da3ba98929f0616180a446d8b548c8511363aca832a9df17", func := "breadboard/breadboardlaw04.HexwriteJoins", spec := "hexwriteJoins", inPlace := ["internal/abi.NoEscape", "internal/bytealg.MakeNoZero"], unfollowed := true, recurses := true, named := ["math/bits.deBruijn64tab"], apart := false, laid := [("math/bits.deBruijn64tab", laid_math_bits_deBruijn64tab)] }
def HexwriteJoinsSaid : Prop := hexwriteJoinsRow.holds Tryd.pinned (OpenSpec.ofChange hexwriteJoinsSpec)

/-- ITS FALSE NEIGHBOUR: 'it returns false'. Refute it at one input. -/
def hexwriteJoinsWrong : ChangeSpec := { name := "hexwriteJoins", fn := fun _ => fun
  | [d] => { results := [.lit (.bool false)], args := [d] }
  | _ => none }
def HexwriteJoinsWrongFalsely : Prop := hexwriteJoinsRow.holds Tryd.pinned (OpenSpec.ofChange hexwriteJoinsWrong)

/-- 'breadboardlaw04.HexwriteWrites': WHATEVER THE INPUT: true; the input reads as it did. -/
def hexwriteWritesSpec : ChangeSpec := { name := "hexwriteWrites", fn := fun _ => fun
  | [d1, d2] => { results := [.lit (.bool true)], args := [d1, d2] }
  | _ => none }
def hexwriteWritesRow : OpenClaim := { program := "ytcfjcoockklkeaadoor", sum := "f5fd44da62deb054da3ba98929f0616180a446d8b548c8511363aca832a9df17", func := "breadboard/breadboardlaw04.HexwriteWrites", spec := "hexwriteWrites", inPlace := ["internal/abi.NoEscape", "internal/bytealg.MakeNoZero", "internal/bytealg.CountString", "internal/bytealg.IndexByteString", "internal/bytealg.IndexString"], unfollowed := true, recurses := true, named := ["math/bits.deBruijn64tab", "internal/bytealg.MaxLen"], apart := false, laid := [("math/bits.deBruijn64tab", laid_math_bits_deBruijn64tab)] }
def HexwriteWritesSaid : Prop := hexwriteWritesRow.holds Tryd.pinned (OpenSpec.ofChange hexwriteWritesSpec)

/-- ITS FALSE NEIGHBOUR: 'it returns false'. Refute it at one input. -/
def hexwriteWritesWrong : ChangeSpec := { name := "hexwriteWrites", fn := fun _ => fun
  | [d1, d2] => { results := [.lit (.bool false)], args := [d1, d2] }
  | _ => none }
def HexwriteWritesWrongFalsely : Prop := hexwriteWritesRow.holds Tryd.pinned (OpenSpec.ofChange hexwriteWritesWrong)

/-- 'breadboardlaw04.HexwriteRecords': WHATEVER THE INPUT: true; the input reads as it did. -/
def hexwriteRecordsSpec : ChangeSpec := { name := "hexwriteRecords", fn := fun _ => fun
  | [d] => { results := [.lit (.bool true)], args := [d] }
  | _ => none }
def hexwriteRecordsRow : OpenClaim := { program := "ytcfjcoockklkeaadoor", sum := "f5fd44da62deb054da3ba98929f0616180a446d8b548c8511363aca832a9df17", func := "breadboard/breadboardlaw04.HexwriteRecords", spec := "hexwriteRecords", inPlace := ["internal/abi.NoEscape", "internal/bytealg.MakeNoZero", "internal/bytealg.CountString", "internal/bytealg.IndexByteString", "internal/bytealg.IndexString"], unfollowed := true, recurses := true, named := ["math/bits.deBruijn64tab", "unicode/utf8.first", "unicode/utf8.acceptRanges", "internal/bytealg.MaxLen"], apart := false, laid := [("math/bits.deBruijn64tab", laid_math_bits_deBruijn64tab), ("unicode/utf8.acceptRanges", laid_unicode_utf8_acceptRanges), ("unicode/utf8.first", laid_unicode_utf8_first)] }
def HexwriteRecordsSaid : Prop := hexwriteRecordsRow.holds Tryd.pinned (OpenSpec.ofChange hexwriteRecordsSpec)

/-- ITS FALSE NEIGHBOUR: 'it returns false'. Refute it at one input. -/
def hexwriteRecordsWrong : ChangeSpec := { name := "hexwriteRecords", fn := fun _ => fun
  | [d] => { results := [.lit (.bool false)], args := [d] }
  | _ => none }
def HexwriteRecordsWrongFalsely : Prop := hexwriteRecordsRow.holds Tryd.pinned (OpenSpec.ofChange hexwriteRecordsWrong)

/-- 'breadboardlaw05.HexreadMerges': WHATEVER THE INPUT: true; the input reads as it did. -/
def hexreadMergesSpec : ChangeSpec := { name := "hexreadMerges", fn := fun _ => fun
  | [d] => { results := [.lit (.bool true)], args := [d] }
  | _ => none }
def hexreadMergesRow : OpenClaim := { program := "ytcfjcoockklkeaadoor", sum := "f5fd44da62deb054da3ba98929f0616180a446d8b548c8511363aca832a9df17", func := "breadboard/breadboardlaw05.HexreadMerges", spec := "hexreadMerges", inPlace := ["internal/bytealg.CountString", "internal/bytealg.IndexByteString", "internal/bytealg.IndexString"], unfollowed := true, recurses := true, named := ["unicode/utf8.first", "unicode/utf8.acceptRanges", "internal/bytealg.MaxLen", "math/bits.deBruijn64tab"], apart := false, laid := [("math/bits.deBruijn64tab", laid_math_bits_deBruijn64tab), ("unicode/utf8.acceptRanges", laid_unicode_utf8_acceptRanges), ("unicode/utf8.first", laid_unicode_utf8_first)] }
def HexreadMergesSaid : Prop := hexreadMergesRow.holds Tryd.pinned (OpenSpec.ofChange hexreadMergesSpec)

/-- ITS FALSE NEIGHBOUR: 'it returns false'. Refute it at one input. -/
def hexreadMergesWrong : ChangeSpec := { name := "hexreadMerges", fn := fun _ => fun
  | [d] => { results := [.lit (.bool false)], args := [d] }
  | _ => none }
def HexreadMergesWrongFalsely : Prop := hexreadMergesRow.holds Tryd.pinned (OpenSpec.ofChange hexreadMergesWrong)

/-- 'breadboardlaw05.HexreadEnds': WHATEVER THE INPUT: true; the input reads as it did. -/
def hexreadEndsSpec : ChangeSpec := { name := "hexreadEnds", fn := fun _ => fun
  | [d1, d2] => { results := [.lit (.bool true)], args := [d1, d2] }
  | _ => none }
def hexreadEndsRow : OpenClaim := { program := "ytcfjcoockklkeaadoor", sum := "f5fd44da62deb054da3ba98929f0616180a446d8b548c8511363aca832a9df17", func := "breadboard/breadboardlaw05.HexreadEnds", spec := "hexreadEnds", inPlace := ["internal/bytealg.CountString", "internal/bytealg.IndexByteString", "internal/bytealg.IndexString"], unfollowed := true, recurses := true, named := ["math/bits.deBruijn64tab", "unicode/utf8.first", "unicode/utf8.acceptRanges", "internal/bytealg.MaxLen"], apart := false, laid := [("math/bits.deBruijn64tab", laid_math_bits_deBruijn64tab), ("unicode/utf8.acceptRanges", laid_unicode_utf8_acceptRanges), ("unicode/utf8.first", laid_unicode_utf8_first)] }
def HexreadEndsSaid : Prop := hexreadEndsRow.holds Tryd.pinned (OpenSpec.ofChange hexreadEndsSpec)

/-- ITS FALSE NEIGHBOUR: 'it returns false'. Refute it at one input. -/
def hexreadEndsWrong : ChangeSpec := { name := "hexreadEnds", fn := fun _ => fun
  | [d1, d2] => { results := [.lit (.bool false)], args := [d1, d2] }
  | _ => none }
def HexreadEndsWrongFalsely : Prop := hexreadEndsRow.holds Tryd.pinned (OpenSpec.ofChange hexreadEndsWrong)

/-- 'breadboardlaw05.HexreadInverse': WHATEVER THE INPUT: true; the input reads as it did. -/
def hexreadInverseSpec : ChangeSpec := { name := "hexreadInverse", fn := fun _ => fun
  | [d1, d2] => { results := [.lit (.bool true)], args := [d1, d2] }
  | _ => none }
def hexreadInverseRow : OpenClaim := { program := "ytcfjcoockklkeaadoor", sum := "f5fd44da62deb054da3ba98929f0616180a446d8b548c8511363aca832a9df17", func := "breadboard/breadboardlaw05.HexreadInverse", spec := "hexreadInverse", inPlace := ["internal/bytealg.CountString", "internal/bytealg.IndexByteString", "internal/bytealg.IndexString", "internal/abi.NoEscape", "internal/bytealg.MakeNoZero"], unfollowed := true, recurses := true, named := ["math/bits.deBruijn64tab", "unicode/utf8.first", "unicode/utf8.acceptRanges", "internal/bytealg.MaxLen"], apart := false, laid := [("math/bits.deBruijn64tab", laid_math_bits_deBruijn64tab), ("unicode/utf8.acceptRanges", laid_unicode_utf8_acceptRanges), ("unicode/utf8.first", laid_unicode_utf8_first)] }
def HexreadInverseSaid : Prop := hexreadInverseRow.holds Tryd.pinned (OpenSpec.ofChange hexreadInverseSpec)

/-- ITS FALSE NEIGHBOUR: 'it returns false'. Refute it at one input. -/
def hexreadInverseWrong : ChangeSpec := { name := "hexreadInverse", fn := fun _ => fun
  | [d1, d2] => { results := [.lit (.bool false)], args := [d1, d2] }
  | _ => none }
def HexreadInverseWrongFalsely : Prop := hexreadInverseRow.holds Tryd.pinned (OpenSpec.ofChange hexreadInverseWrong)

/-- 'breadboardlaw05.HexreadDiffs': WHATEVER THE INPUT: true; the input reads as it did. -/
def hexreadDiffsSpec : ChangeSpec := { name := "hexreadDiffs", fn := fun _ => fun
  | [d1, d2] => { results := [.lit (.bool true)], args := [d1, d2] }
  | _ => none }
def hexreadDiffsRow : OpenClaim := { program := "ytcfjcoockklkeaadoor", sum := "f5fd44da62deb054da3ba98929f0616180a446d8b548c8511363aca832a9df17", func := "breadboard/breadboardlaw05.HexreadDiffs", spec := "hexreadDiffs", inPlace := ["internal/bytealg.CountString", "internal/bytealg.IndexByteString", "internal/bytealg.IndexString"], unfollowed := true, recurses := true, named := ["math/bits.deBruijn64tab", "unicode/utf8.first", "unicode/utf8.acceptRanges", "internal/bytealg.MaxLen"], apart := false, laid := [("math/bits.deBruijn64tab", laid_math_bits_deBruijn64tab), ("unicode/utf8.acceptRanges", laid_unicode_utf8_acceptRanges), ("unicode/utf8.first", laid_unicode_utf8_first)] }
def HexreadDiffsSaid : Prop := hexreadDiffsRow.holds Tryd.pinned (OpenSpec.ofChange hexreadDiffsSpec)

/-- ITS FALSE NEIGHBOUR: 'it returns false'. Refute it at one input. -/
def hexreadDiffsWrong : ChangeSpec := { name := "hexreadDiffs", fn := fun _ => fun
  | [d1, d2] => { results := [.lit (.bool false)], args := [d1, d2] }
  | _ => none }
def HexreadDiffsWrongFalsely : Prop := hexreadDiffsRow.holds Tryd.pinned (OpenSpec.ofChange hexreadDiffsWrong)

/- THE SECOND FORM. 'bulk': how many values and letters a reading holds, each counted each time it is reached (what is shared counts as often as it is met; a slice's spare places count too). A statement '..UptoSaid' is the law's where the arguments, and the package variables that the reading takes, are together of bulk at most 1048576: NARROWER than '..Said'. Prove '..Said' where nothing that the law and all that it calls make is longer than what came in: it says more and counts as full. Else prove '..UptoSaid'. A law counts once. -/
mutual
def uptoBulk {H : Type} : DataW H → Nat
  | .lit (.string bytes) => bytes.length + 1
  | .lit _ => 1
  | .nil => 1
  | .ptr d => uptoBulk d + 1
  | .slice elems spare => uptoBulkAll elems + uptoBulkAll spare + 1
  | .agg parts => uptoBulkAll parts + 1
  | .iface _ d => uptoBulk d + 1
  | .map entries => uptoBulkEntries entries + 1
  | .held _ => 1
def uptoBulkAll {H : Type} : List (DataW H) → Nat
  | [] => 0
  | d :: r => uptoBulk d + uptoBulkAll r
def uptoBulkEntries {H : Type} : List (Lit × DataW H) → Nat
  | [] => 0
  | x :: r => uptoBulkEntry x + uptoBulkEntries r
def uptoBulkEntry {H : Type} : Lit × DataW H → Nat
  | (.string bytes, d) => bytes.length + uptoBulk d + 1
  | (_, d) => uptoBulk d + 1
 end
def uptoSmall : (H : Type) → List (DataW H) → Bool := fun _ ds => decide (uptoBulkAll ds ≤ 1048576)
def OpenSpec.upto (s : _root_.Go.ChangeSpec) : _root_.Go.OpenSpec := { _root_.Go.OpenSpec.ofChange s with cond := some uptoSmall }

/-- 'breadboardlaw04.HexwriteDumps', WHERE WHAT IT READS IS OF BULK AT MOST 1048576: true; the input reads as it did. -/
def hexwriteDumpsUptoRow : OpenClaim := { program := "ytcfjcoockklkeaadoor", sum := "f5fd44da62deb054da3ba98929f0616180a446d8b548c8511363aca832a9df17", func := "breadboard/breadboardlaw04.HexwriteDumps", spec := "hexwriteDumps", inPlace := ["internal/abi.NoEscape", "internal/bytealg.MakeNoZero"], unfollowed := true, recurses := true, named := ["math/bits.deBruijn64tab"], apart := false, laid := [("math/bits.deBruijn64tab", laid_math_bits_deBruijn64tab)], narrowed := true }
def HexwriteDumpsUptoSaid : Prop := hexwriteDumpsUptoRow.holds Tryd.pinned (OpenSpec.upto hexwriteDumpsSpec)

/-- 'breadboardlaw04.HexwriteSame', WHERE WHAT IT READS IS OF BULK AT MOST 1048576: true; the input reads as it did. -/
def hexwriteSameUptoRow : OpenClaim := { program := "ytcfjcoockklkeaadoor", sum := "f5fd44da62deb054da3ba98929f0616180a446d8b548c8511363aca832a9df17", func := "breadboard/breadboardlaw04.HexwriteSame", spec := "hexwriteSame", inPlace := ["internal/abi.NoEscape", "internal/bytealg.MakeNoZero"], unfollowed := true, recurses := true, named := ["math/bits.deBruijn64tab"], apart := false, laid := [("math/bits.deBruijn64tab", laid_math_bits_deBruijn64tab)], narrowed := true }
def HexwriteSameUptoSaid : Prop := hexwriteSameUptoRow.holds Tryd.pinned (OpenSpec.upto hexwriteSameSpec)

/-- 'breadboardlaw04.HexwriteJoins', WHERE WHAT IT READS IS OF BULK AT MOST 1048576: true; the input reads as it did. -/
def hexwriteJoinsUptoRow : OpenClaim := { program := "ytcfjcoockklkeaadoor", sum := "f5fd44da62deb054da3ba98929f0616180a446d8b548c8511363aca832a9df17", func := "breadboard/breadboardlaw04.HexwriteJoins", spec := "hexwriteJoins", inPlace := ["internal/abi.NoEscape", "internal/bytealg.MakeNoZero"], unfollowed := true, recurses := true, named := ["math/bits.deBruijn64tab"], apart := false, laid := [("math/bits.deBruijn64tab", laid_math_bits_deBruijn64tab)], narrowed := true }
def HexwriteJoinsUptoSaid : Prop := hexwriteJoinsUptoRow.holds Tryd.pinned (OpenSpec.upto hexwriteJoinsSpec)

/-- 'breadboardlaw04.HexwriteWrites', WHERE WHAT IT READS IS OF BULK AT MOST 1048576: true; the input reads as it did. -/
def hexwriteWritesUptoRow : OpenClaim := { program := "ytcfjcoockklkeaadoor", sum := "f5fd44da62deb054da3ba98929f0616180a446d8b548c8511363aca832a9df17", func := "breadboard/breadboardlaw04.HexwriteWrites", spec := "hexwriteWrites", inPlace := ["internal/abi.NoEscape", "internal/bytealg.MakeNoZero", "internal/bytealg.CountString", "internal/bytealg.IndexByteString", "internal/bytealg.IndexString"], unfollowed := true, recurses := true, named := ["math/bits.deBruijn64tab", "internal/bytealg.MaxLen"], apart := false, laid := [("math/bits.deBruijn64tab", laid_math_bits_deBruijn64tab)], narrowed := true }
def HexwriteWritesUptoSaid : Prop := hexwriteWritesUptoRow.holds Tryd.pinned (OpenSpec.upto hexwriteWritesSpec)

/-- 'breadboardlaw04.HexwriteRecords', WHERE WHAT IT READS IS OF BULK AT MOST 1048576: true; the input reads as it did. -/
def hexwriteRecordsUptoRow : OpenClaim := { program := "ytcfjcoockklkeaadoor", sum := "f5fd44da62deb054da3ba98929f0616180a446d8b548c8511363aca832a9df17", func := "breadboard/breadboardlaw04.HexwriteRecords", spec := "hexwriteRecords", inPlace := ["internal/abi.NoEscape", "internal/bytealg.MakeNoZero", "internal/bytealg.CountString", "internal/bytealg.IndexByteString", "internal/bytealg.IndexString"], unfollowed := true, recurses := true, named := ["math/bits.deBruijn64tab", "unicode/utf8.first", "unicode/utf8.acceptRanges", "internal/bytealg.MaxLen"], apart := false, laid := [("math/bits.deBruijn64tab", laid_math_bits_deBruijn64tab), ("unicode/utf8.acceptRanges", laid_unicode_utf8_acceptRanges), ("unicode/utf8.first", laid_unicode_utf8_first)], narrowed := true }
def HexwriteRecordsUptoSaid : Prop := hexwriteRecordsUptoRow.holds Tryd.pinned (OpenSpec.upto hexwriteRecordsSpec)

/-- 'breadboardlaw05.HexreadMerges', WHERE WHAT IT READS IS OF BULK AT MOST 1048576: true; the input reads as it did. -/
def hexreadMergesUptoRow : OpenClaim := { program := "ytcfjcoockklkeaadoor", sum := "f5fd44da62deb054da3ba98929f0616180a446d8b548c8511363aca832a9df17", func := "breadboard/breadboardlaw05.HexreadMerges", spec := "hexreadMerges", inPlace := ["internal/bytealg.CountString", "internal/bytealg.IndexByteString", "internal/bytealg.IndexString"], unfollowed := true, recurses := true, named := ["unicode/utf8.first", "unicode/utf8.acceptRanges", "internal/bytealg.MaxLen", "math/bits.deBruijn64tab"], apart := false, laid := [("math/bits.deBruijn64tab", laid_math_bits_deBruijn64tab), ("unicode/utf8.acceptRanges", laid_unicode_utf8_acceptRanges), ("unicode/utf8.first", laid_unicode_utf8_first)], narrowed := true }
def HexreadMergesUptoSaid : Prop := hexreadMergesUptoRow.holds Tryd.pinned (OpenSpec.upto hexreadMergesSpec)

/-- 'breadboardlaw05.HexreadEnds', WHERE WHAT IT READS IS OF BULK AT MOST 1048576: true; the input reads as it did. -/
def hexreadEndsUptoRow : OpenClaim := { program := "ytcfjcoockklkeaadoor", sum := "f5fd44da62deb054da3ba98929f0616180a446d8b548c8511363aca832a9df17", func := "breadboard/breadboardlaw05.HexreadEnds", spec := "hexreadEnds", inPlace := ["internal/bytealg.CountString", "internal/bytealg.IndexByteString", "internal/bytealg.IndexString"], unfollowed := true, recurses := true, named := ["math/bits.deBruijn64tab", "unicode/utf8.first", "unicode/utf8.acceptRanges", "internal/bytealg.MaxLen"], apart := false, laid := [("math/bits.deBruijn64tab", laid_math_bits_deBruijn64tab), ("unicode/utf8.acceptRanges", laid_unicode_utf8_acceptRanges), ("unicode/utf8.first", laid_unicode_utf8_first)], narrowed := true }
def HexreadEndsUptoSaid : Prop := hexreadEndsUptoRow.holds Tryd.pinned (OpenSpec.upto hexreadEndsSpec)

/-- 'breadboardlaw05.HexreadInverse', WHERE WHAT IT READS IS OF BULK AT MOST 1048576: true; the input reads as it did. -/
def hexreadInverseUptoRow : OpenClaim := { program := "ytcfjcoockklkeaadoor", sum := "f5fd44da62deb054da3ba98929f0616180a446d8b548c8511363aca832a9df17", func := "breadboard/breadboardlaw05.HexreadInverse", spec := "hexreadInverse", inPlace := ["internal/bytealg.CountString", "internal/bytealg.IndexByteString", "internal/bytealg.IndexString", "internal/abi.NoEscape", "internal/bytealg.MakeNoZero"], unfollowed := true, recurses := true, named := ["math/bits.deBruijn64tab", "unicode/utf8.first", "unicode/utf8.acceptRanges", "internal/bytealg.MaxLen"], apart := false, laid := [("math/bits.deBruijn64tab", laid_math_bits_deBruijn64tab), ("unicode/utf8.acceptRanges", laid_unicode_utf8_acceptRanges), ("unicode/utf8.first", laid_unicode_utf8_first)], narrowed := true }
def HexreadInverseUptoSaid : Prop := hexreadInverseUptoRow.holds Tryd.pinned (OpenSpec.upto hexreadInverseSpec)

/-- 'breadboardlaw05.HexreadDiffs', WHERE WHAT IT READS IS OF BULK AT MOST 1048576: true; the input reads as it did. -/
def hexreadDiffsUptoRow : OpenClaim := { program := "ytcfjcoockklkeaadoor", sum := "f5fd44da62deb054da3ba98929f0616180a446d8b548c8511363aca832a9df17", func := "breadboard/breadboardlaw05.HexreadDiffs", spec := "hexreadDiffs", inPlace := ["internal/bytealg.CountString", "internal/bytealg.IndexByteString", "internal/bytealg.IndexString"], unfollowed := true, recurses := true, named := ["math/bits.deBruijn64tab", "unicode/utf8.first", "unicode/utf8.acceptRanges", "internal/bytealg.MaxLen"], apart := false, laid := [("math/bits.deBruijn64tab", laid_math_bits_deBruijn64tab), ("unicode/utf8.acceptRanges", laid_unicode_utf8_acceptRanges), ("unicode/utf8.first", laid_unicode_utf8_first)], narrowed := true }
def HexreadDiffsUptoSaid : Prop := hexreadDiffsUptoRow.holds Tryd.pinned (OpenSpec.upto hexreadDiffsSpec)

end Rows
end Go.Proofs.YtcfjcoockklkeaaDoor
