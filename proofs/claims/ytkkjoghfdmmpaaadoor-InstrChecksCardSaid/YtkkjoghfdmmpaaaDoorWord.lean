/-
  canon.word: is a word in a list of words? Conditions: the library's table of white space as its initialiser lays it.
-/
import Derived.Test.YtkkjoghfdmmpaaaDoorWidth
import Derived.Test.YtkkjoghfdmmpaaaDoorShelf
namespace Go.Proofs.YtkkjoghfdmmpaaaDoor
open Go.RowKit

/-- The library's table of white space. -/
def Spc (w : World) : Prop := Lib.TabIs Tryd.prog w "strings.asciiSpace" .u8 Lib.asciiSpaceTab
theorem Spc.below {w w' : World} (h : Spc w) (hb : Below w.heap.size w w') : Spc w' := by
  have hg : Tryd.prog.globalNamed "strings.asciiSpace" = some 1 := by kernel_rfl
  exact var?_below hb hg (World.block_lt_of_cell? w _ (h.cell hg 0 (by rw [Lib.asciiSpaceTab_length]; decide))) h

/-- The words of a text. -/
def fieldsOf (c : ByteArray) : List ByteArray := (Lib.fields c.data.toList).map fun l => ⟨l.toArray⟩
theorem containsS_inL (l : List ByteArray) (s : ByteArray) : Lib.containsS l s = inL l s := by
  rw [Bool.eq_iff_iff, Lib.containsS_iff, inL_iff]

set_option maxHeartbeats 400000 in
theorem word_any (c : ByteArray) (L : List ByteArray) (s : ByteArray) (w : World) (hL : fieldsOf c = L) (hn : L.length ≤ 1000) (hs : c.size < 4294967281) (ha : ∀ (j : Nat) b, c.data.toList[j]? = some b → b.toNat < 128) (hT : Spc w) :
    Calls Tryd.prog 75 #[.string c, .string s] w fun e w' => e = .returned (.bool (inL L s)) ∧ Below w.heap.size w w' := by
  have hf := Tryd.strings_Fields c w hs ha hT
  have hlen : (Lib.fields c.data.toList).length = L.length := by rw [← hL]; simp [fieldsOf]
  have hcells : ((Lib.fields c.data.toList).map fun l => Value.string ⟨l.toArray⟩) = L.map Value.string := by rw [← hL]; simp [fieldsOf]
  rw [hlen, hcells] at hf
  have HF := Lib.hid hf
  have HC : Hid (∀ j, j < L.length → (w.alloc (.cells (L.map Value.string).toArray 9)).cell? ⟨w.heap.size, 0 + j, none⟩ = some (.string (L.getD j ByteArray.empty))) := fun j hj => by
    rw [World.cell?_alloc_at _ _ _ _ rfl]
    simp [hj]
  have HT : Hid (L.length ≤ 9223372036854775807) := Lib.hid (by omega)
  clear hf hlen hcells hL hs ha hT hn
  go_enter Tryd.func75, Tryd.ntmps75
  go_wp2_with fail
  refine HF.out.mono ?_
  rintro e w1 ⟨rfl, rfl⟩
  go_wp2_with fail
  refine (Tryd.slices_Contains_string _ 0 _ _ L s _ (Nat.le_refl _) HT.out HC.out).mono ?_
  rintro e w1 ⟨rfl, rfl⟩
  go_wp2
  go_ret
  exact ⟨ret_bool (containsS_inL _ _), (Below.refl _ _).alloc (Nat.le_refl _) _⟩
end Go.Proofs.YtkkjoghfdmmpaaaDoor
