/-
  slices.Reverse and strings.ToLower at a text's lines. Conditions: sizes; ASCII.
-/
import Derived.Test.YtcfjcoockklkeaaGreatDoorV42
import Derived.Test.YtcfjcoockklkeaaGreatDoorRev
import Derived.Sort.OwnSorted
namespace Go.Proofs.YtcfjcoockklkeaaGreatDoor
open Go.RowKit Go.Sort

theorem reverse_cells (LS : List ByteArray) (n : Nat) (hn : n ≤ LS.length) :
    putCells encStr 0 (((LS.take n).map (·.data.toList)).reverse).toArray (LS.map Value.string).toArray = (((LS.take n).reverse ++ LS.drop n).map Value.string).toArray := by
  rw [← List.map_reverse]
  have hZ : (LS.take n).reverse.length = n := by simp; omega
  have hD : ∀ i, n ≤ i → (LS.drop n)[i - n]? = LS[i]? := fun i hi => by rw [List.getElem?_drop, show n + (i - n) = i by omega]
  have hL : (LS.take n).reverse.length + (LS.drop n).length = LS.length := by simp; omega
  generalize (LS.take n).reverse = Z at *
  generalize LS.drop n = D at *
  apply Array.ext_getElem?
  intro i
  unfold putCells
  rw [Array.getElem?_mapIdx, List.getElem?_toArray, List.getElem?_toArray, List.getElem?_map, List.getElem?_map]
  by_cases h : i < n
  · rw [List.getElem?_append_left (by omega), List.getElem?_eq_getElem (show i < LS.length by omega), List.getElem?_eq_getElem (show i < Z.length by omega), Option.map_some, Option.map_some, Option.map_some, if_pos ⟨Nat.zero_le _, by rw [List.size_toArray, List.length_map]; omega⟩]
    have hi : i < (Z.map (·.data.toList)).toArray.size := by simp; omega
    rw [Nat.sub_zero, getElem!_pos (Z.map (·.data.toList)).toArray i hi]
    simp [encStr]
  · rw [List.getElem?_append_right (by omega), hZ, hD i (by omega)]
    cases LS[i]? with
    | none => rfl
    | some x =>
      show some (ite _ _ _) = some (Value.string x)
      rw [if_neg (by rw [List.size_toArray, List.length_map]; omega)]
theorem Rev_any (b n c : Nat) (LS : List ByteArray) (w : World) (h : Blk w b 9 (LS.map Value.string).toArray) (hn : n ≤ LS.length) (hl : LS.length ≤ 1000000) :
    Calls Tryz.prog 16 #[.slice (some ⟨b, 0, none⟩) n c] w fun e w' => e = .returned (.tuple #[]) ∧ Blk w' b 9 (((LS.take n).reverse ++ LS.drop n).map Value.string).toArray ∧ Below b w w' ∧ w'.heap.size = w.heap.size := by
  have hlen : ((LS.take n).map (·.data.toList)).length = n := by simp; omega
  have hH : Holds encStr w b 0 ((LS.take n).map (·.data.toList)).toArray := by
    intro j hj
    have hj' : j < n := by rw [List.size_toArray, hlen] at hj; exact hj
    refine ⟨?_, h.free _⟩
    rw [Nat.zero_add]
    have h1 := h.cell j
    have h2 : (LS.map Value.string).toArray[j]? = some (.string LS[j]) := by simp
    have h3 : w.cell? ⟨b, j, none⟩ = (LS.map Value.string).toArray[j]? := by
      have hb : w.heap[b]? = some (.cells (LS.map Value.string).toArray 9 (0, 0)) := h
      unfold World.cell?
      rw [hb]
      rfl
    rw [h3, h2, getElem!_pos ((LS.take n).map (·.data.toList)).toArray j hj]
    simp [encStr]
  have hc := Tryz.slices_Reverse_string b 0 c ((LS.take n).map (·.data.toList)) w hH (by rw [hlen]; omega)
  rw [hlen] at hc
  refine hc.mono ?_
  rintro e w' ⟨rfl, q, rfl⟩
  have hb : w.heap[b]? = some (.cells (LS.map Value.string).toArray 9 (0, 0)) := h
  refine ⟨rfl, ?_, ⟨rfl, rfl, rfl, by simp [putRow, mapBlock, Sort.ahead], fun k hk => ?_⟩, by simp [putRow, mapBlock, Sort.ahead]⟩
  · show (putRow encStr (Sort.ahead w q) b 0 _).heap[b]? = _
    simp only [putRow, mapBlock, Sort.ahead, Array.getElem?_modify, if_pos, hb, Option.map_some, onCells]
    rw [reverse_cells LS n hn]
  · have : b ≠ k := fun e => by omega
    simp [putRow, mapBlock, Sort.ahead, Array.getElem?_modify, this]
/-- a line in small letters -/
theorem Lower_any (s : ByteArray) (w : World) (hs : s.size ≤ 1000000000) (ha : ∀ c ∈ s.data.toList, c.toNat < 128) :
    Calls Tryz.prog 17 #[.string s] w fun e w' => e = .returned (.string ⟨(s.data.toList.map lowU).toArray⟩) ∧ Below w.heap.size w w' :=
  (Tryz.strings_ToLower_ascii s w (by omega) (fun j b hb => ha b (List.mem_of_getElem? hb))).mono fun e w' ⟨h1, h2⟩ => ⟨by rw [h1, lowerA_eq], h2⟩
end Go.Proofs.YtcfjcoockklkeaaGreatDoor
