/-
  table.At at DD 7E. Conditions: the library's table as its initialiser lays it.
-/
import Derived.Test.YtlepicdjnbbndaaGreatDoorT22
namespace Go.Proofs.YtlepicdjnbbndaaGreatDoor
open Go.RowKit Go.Shelf Go.Sort

theorem look7E : lookF 126 mainL = some [48, 49, 114, 114, 114, 115, 115, 115, 32, 76, 68, 32, 114, 44, 115] := by decide +kernel
theorem rule7E : ruleF [48, 49, 114, 114, 114, 115, 115, 115, 32, 76, 68, 32, 114, 44, 115] = some ⟨[48, 49, 114, 114, 114, 115, 115, 115], [76, 68], [[114], [115]], false⟩ := by kernel_rfl
theorem args7E : argsF [48, 49, 114, 114, 114, 115, 115, 115] 126 [[114], [115]] = some ([⟨1, 7, 0⟩, ⟨4, 2, 0⟩], []) := by kernel_rfl
theorem at7E (w : World) (hT : Spc w) :
    Calls Tryz.prog 13 #[.int .i64 3, .int .u8 126] w fun e w' => ∃ v', e = .returned (.tuple #[.agg #[.int .i64 3, .int .u8 126, .string ⟨#[76, 68]⟩, v', .string ⟨#[100]⟩, .bool false], .int .i64 1]) ∧ OpdOwn w' (fun b => w.heap.size ≤ b) v' [⟨1, 7, 0⟩, ⟨5, 5, 0⟩] ∧ Below w.heap.size w w' :=
  At_mem 3 126 _ ⟨[48, 49, 114, 114, 114, 115, 115, 115], [76, 68], [[114], [115]], false⟩ [⟨1, 7, 0⟩, ⟨4, 2, 0⟩] [] 1 w (.inl rfl) (by decide) (by decide) look7E rule7E args7E
    ⟨by decide, by decide, by decide, by decide, by decide⟩ rfl (by decide) (by decide) (by kernel_rfl) (by decide) (by decide) hT
end Go.Proofs.YtlepicdjnbbndaaGreatDoor
