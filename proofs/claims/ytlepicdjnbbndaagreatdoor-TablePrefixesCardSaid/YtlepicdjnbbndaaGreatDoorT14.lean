/-
  strings.Split at a comma; table.parse. Conditions: sizes; the library's table as its initialiser lays it.
-/
import Derived.Test.YtlepicdjnbbndaaGreatDoorT12
import Derived.Lib.SplitLaws
namespace Go.Proofs.YtlepicdjnbbndaaGreatDoor
open Go.RowKit Go.Shelf

theorem Index44 (x : ByteArray) (w : World) : Calls Tryz.prog 109 #[.string x, .string ⟨#[44]⟩] w fun e w' => e = .returned (.int .i64 (Lib.indexB x ⟨#[44]⟩)) ∧ w' = w :=
  (Any.strings_Index_one (ρ := Tryz.lays146_ren) { Tryz.lays146 with } x 44 w).mono fun e w' ⟨h1, h2⟩ => ⟨by rw [h1, ← Lib.index_one], h2⟩
theorem Count44 (x : ByteArray) (w : World) : Calls Tryz.prog 55 #[.string x, .string ⟨#[44]⟩] w fun e w' => e = .returned (.int .i64 (Lib.countB x ⟨#[44]⟩)) ∧ w' = w :=
  (Tryz.strings_Count_one x 44 w).mono fun e w' ⟨h1, h2⟩ => ⟨by rw [h1]; exact ret_int (by show ((List.count _ _ : Nat) : Int) = _; rw [← Lib.count_one]), h2⟩
set_option maxHeartbeats 1000000 in
/-- strings.Split at a comma -/
theorem Split44 (s : ByteArray) (w : World) (hs : s.size < 4294967281) :
    Calls Tryz.prog 136 #[.string s, .string ⟨#[44]⟩] w fun e w' => ∃ L : List ByteArray, L.map (·.data.toList) = Lib.split s.data.toList [44] ∧ e = .returned (.slice (some ⟨w.heap.size, 0, none⟩) L.length L.length) ∧ w' = w.alloc (.cells (L.map Value.string).toArray 9) := by
  have hle := Lib.countB_le ⟨#[44]⟩ (by decide) s.size s (Nat.le_refl _)
  have hlen := Lib.splitB_all ⟨#[44]⟩ (by decide) 0 _ s rfl
  have c := Any.strings_genSplit_core (ρ := Tryz.lays146_ren) { Tryz.lays146 with } (by kernel_rfl) s ⟨#[44]⟩ 0 (-1) (Lib.countB s ⟨#[44]⟩ + 1) w hs (by decide) (Nat.zero_le _) (fun x _ _ => Index44 x _) (Count44 s w) (by decide) (by decide) (by rw [if_pos (by decide)]; omega)
  rw [Nat.add_sub_cancel, hlen] at c
  have e2 : Lib.cellsOf (Lib.splitB ⟨#[44]⟩ 0 (Lib.countB s ⟨#[44]⟩) s) (Lib.countB s ⟨#[44]⟩ + 1) = ((Lib.splitB ⟨#[44]⟩ 0 (Lib.countB s ⟨#[44]⟩) s).map Value.string).toArray := by rw [← hlen]; exact Lib.cellsOf_full _
  rw [e2] at c
  have HD : Hid ((Lib.splitB ⟨#[44]⟩ 0 (Lib.countB s ⟨#[44]⟩) s).map (·.data.toList) = Lib.split s.data.toList [44]) := by
    show _ = _
    rw [Lib.splitB_data]; rfl
  generalize Lib.splitB ⟨#[44]⟩ 0 (Lib.countB s ⟨#[44]⟩) s = L at *
  have HL := Lib.hid hlen
  have HC := Lib.hid c
  clear hle hlen e2 c
  generalize Lib.countB s ⟨#[44]⟩ = n at *
  go_enter Tryz.func136, Tryz.ntmps136
  go_wp2_with (go_at_call 171; refine HC.out.mono ?_; rintro e w' ⟨rfl, hw⟩; have HW := Lib.hid hw; clear hw)
  go_ret
  exact ⟨L, HD.out, by rw [HL.out]; rfl, HW.out⟩
/-- the words of a text in memory -/
theorem Fields_words (s : ByteArray) (F : List (List UInt8)) (w : World) (hF : Lib.fields s.data.toList = F) (hs : s.size ≤ 1000) (ha : ∀ b ∈ s.data.toList, b.toNat < 128) (hT : Spc w) :
    Calls Tryz.prog 135 #[.string s] w fun e w' => ∃ g : Nat, e = .returned (.slice (some ⟨g, 0, none⟩) F.length F.length) ∧ Blk w' g 9 (F.map fun l => Value.string ⟨l.toArray⟩).toArray ∧ Below w.heap.size w w' :=
  (Tryz.strings_Fields s w (by omega) (fun j b hb => ha b (List.mem_of_getElem? hb)) hT).mono fun e w' ⟨h1, h2⟩ => by
    rw [hF] at h1 h2
    subst h2
    exact ⟨_, h1, Blk.new _ _ _, (Below.refl _ w).alloc (Nat.le_refl _) _⟩
end Go.Proofs.YtlepicdjnbbndaaGreatDoor
