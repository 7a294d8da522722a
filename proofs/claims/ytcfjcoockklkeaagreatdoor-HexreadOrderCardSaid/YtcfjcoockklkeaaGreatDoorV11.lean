/-
  strings.Split at a line feed; records' lines parsed. Conditions: sizes.
-/
import Derived.Test.YtcfjcoockklkeaaGreatDoorV9
import Derived.Test.YtcfjcoockklkeaaGreatDoorV10
import Derived.Test.YtcfjcoockklkeaaGreatDoorV7
import Derived.Lib.SplitLaws
namespace Go.Proofs.YtcfjcoockklkeaaGreatDoor
open Go.RowKit

theorem split_is : ∀ s : List UInt8, Lib.split s [10] = splitNL s
  | [] => rfl
  | c :: l => by
    have ih := split_is l
    unfold Lib.split at ih ⊢
    by_cases hc : c = 10
    · subst hc
      rw [Lib.count_cons_eq, Nat.add_comm 1, Lib.splitK, if_neg (by simp [Lib.index, List.isPrefixOf]), splitNL, if_pos rfl, ← ih]
      simp [Lib.index, List.isPrefixOf]
    · rw [Lib.count_cons_ne _ _ _ hc, splitNL, if_neg hc, ← ih]
      cases hn : Lib.count l [10] with
      | zero => rfl
      | succ n =>
        obtain ⟨i, hi⟩ : ∃ i : Nat, Lib.index l [10] = i := by
          rcases Lib.index_spec l [10] with h | ⟨i, h, _⟩
          · rw [Lib.count_miss h.1] at hn; omega
          · exact ⟨i, h⟩
        have h1 : Lib.index (c :: l) [10] = ((i + 1 : Nat) : Int) := by
          unfold Lib.index
          rw [if_neg (by simp [List.isPrefixOf]; exact fun h => hc h.symm), if_neg (by rw [hi]; simp), hi]
          omega
        rw [Lib.splitK, if_neg (by rw [h1]; simp; try omega), Lib.splitK, if_neg (by rw [hi]; simp), h1, hi]
        simp
theorem Index10 (x : ByteArray) (w : World) : Calls Tryz.prog 61 #[.string x, .string ⟨#[10]⟩] w fun e w' => e = .returned (.int .i64 (Lib.indexB x ⟨#[10]⟩)) ∧ w' = w :=
  (Any.strings_Index_one (ρ := Tryz.lays146_ren) { Tryz.lays146 with } x 10 w).mono fun e w' ⟨h1, h2⟩ => ⟨by rw [h1, ← Lib.index_one], h2⟩
theorem Count10 (x : ByteArray) (w : World) : Calls Tryz.prog 60 #[.string x, .string ⟨#[10]⟩] w fun e w' => e = .returned (.int .i64 (Lib.countB x ⟨#[10]⟩)) ∧ w' = w :=
  (Tryz.strings_Count_one x 10 w).mono fun e w' ⟨h1, h2⟩ => ⟨by rw [h1]; exact ret_int (by show ((List.count _ _ : Nat) : Int) = _; rw [← Lib.count_one]), h2⟩
set_option maxHeartbeats 1000000 in
/-- strings.Split at a line feed -/
theorem Split10 (s : ByteArray) (w : World) (hs : s.size < 4294967281) :
    Calls Tryz.prog 15 #[.string s, .string ⟨#[10]⟩] w fun e w' => ∃ L : List ByteArray, L.map (·.data.toList) = splitNL s.data.toList ∧ e = .returned (.slice (some ⟨w.heap.size, 0, none⟩) L.length L.length) ∧ w' = w.alloc (.cells (L.map Value.string).toArray 9) := by
  have hle := Lib.countB_le ⟨#[10]⟩ (by decide) s.size s (Nat.le_refl _)
  have hlen := Lib.splitB_all ⟨#[10]⟩ (by decide) 0 _ s rfl
  have c := Any.strings_genSplit_core (ρ := Tryz.lays146_ren) { Tryz.lays146 with } (by kernel_rfl) s ⟨#[10]⟩ 0 (-1) (Lib.countB s ⟨#[10]⟩ + 1) w hs (by decide) (Nat.zero_le _) (fun x _ _ => Index10 x _) (Count10 s w) (by decide) (by decide) (by rw [if_pos (by decide)]; omega)
  rw [Nat.add_sub_cancel, hlen] at c
  have e2 : Lib.cellsOf (Lib.splitB ⟨#[10]⟩ 0 (Lib.countB s ⟨#[10]⟩) s) (Lib.countB s ⟨#[10]⟩ + 1) = ((Lib.splitB ⟨#[10]⟩ 0 (Lib.countB s ⟨#[10]⟩) s).map Value.string).toArray := by rw [← hlen]; exact Lib.cellsOf_full _
  rw [e2] at c
  have HD : Hid ((Lib.splitB ⟨#[10]⟩ 0 (Lib.countB s ⟨#[10]⟩) s).map (·.data.toList) = splitNL s.data.toList) := by
    show _ = _
    rw [Lib.splitB_data, ← split_is]; rfl
  generalize Lib.splitB ⟨#[10]⟩ 0 (Lib.countB s ⟨#[10]⟩) s = L at *
  have HL := Lib.hid hlen
  have HC := Lib.hid c
  clear hle hlen e2 c
  generalize Lib.countB s ⟨#[10]⟩ = n at *
  go_enter Tryz.func15, Tryz.ntmps15
  go_wp2_with (go_at_call 35; refine HC.out.mono ?_; rintro e w' ⟨rfl, hw⟩; have HW := Lib.hid hw; clear hw)
  go_ret
  exact ⟨L, HD.out, by rw [HL.out]; rfl, HW.out⟩
theorem Parse_line (a : Nat) (l : List UInt8) (w : World) (ha : a < 65536) (hl : l.length ≤ 255) :
    Calls Tryz.prog 46 #[.string ⟨(recLine 0 a l).toArray⟩] w fun e w' => ∃ v, e = .returned (.tuple #[.agg #[.int .i64 0, .int .i64 a, v], .int .i64 0]) ∧ SlR byteR w' (fun k => w.heap.size ≤ k) v l ∧ Below w.heap.size w w' :=
  (Parse_any ⟨(recLine 0 a l).toArray⟩ w (by show (recLine 0 a l).toArray.size ≤ _; rw [List.size_toArray, recLine_len]; omega)).mono fun e w' ⟨r, c, v, h1, h2, h3, h4⟩ => by
    have h1 : parseH (recLine 0 a l) = (c, r) := h1
    rw [parse_line ha hl] at h1
    injection h1 with hc hr
    subst hc hr
    exact ⟨v, h2, h3, h4⟩
end Go.Proofs.YtcfjcoockklkeaaGreatDoor
