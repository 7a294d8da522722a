/-
  THE MNEMONICS OF THE PROGRAM: instr.Ops; instr.set, a map that holds true at each of them.
-/
import Derived.Test.YtkkjoghfdmmpaaaDoorNames
import Derived.Test.YtkkjoghfdmmpaaaDoorWord
import Derived.Maps.Own
import Derived.Maps.Views
import Derived.WalkKit
namespace Go.Proofs.YtkkjoghfdmmpaaaDoor
open Go.RowKit

def opsText : ByteArray := ⟨#[65, 68, 67, 32, 65, 68, 68, 32, 65, 78, 68, 32, 66, 73, 84, 32, 67, 65, 76, 76, 32, 67, 67, 70, 32, 67, 80, 32, 67, 80, 68, 32, 67, 80, 68, 82, 32, 67, 80, 73, 32, 67, 80, 73, 82, 32, 67, 80, 76, 32, 68, 65, 65, 32, 68, 69, 67, 32, 68, 73, 32, 68, 74, 78, 90, 32, 69, 73, 32, 69, 88, 32, 69, 88, 88, 32, 72, 65, 76, 84, 32, 73, 77, 32, 73, 78, 32, 73, 78, 67, 32, 73, 78, 68, 32, 73, 78, 68, 82, 32, 73, 78, 73, 32, 73, 78, 73, 82, 32, 74, 80, 32, 74, 82, 32, 76, 68, 32, 76, 68, 68, 32, 76, 68, 68, 82, 32, 76, 68, 73, 32, 76, 68, 73, 82, 32, 78, 69, 71, 32, 78, 79, 80, 32, 79, 82, 32, 79, 84, 68, 82, 32, 79, 84, 73, 82, 32, 79, 85, 84, 32, 79, 85, 84, 68, 32, 79, 85, 84, 73, 32, 80, 79, 80, 32, 80, 85, 83, 72, 32, 82, 69, 83, 32, 82, 69, 84, 32, 82, 69, 84, 73, 32, 82, 69, 84, 78, 32, 82, 76, 32, 82, 76, 65, 32, 82, 76, 67, 32, 82, 76, 67, 65, 32, 82, 76, 68, 32, 82, 82, 32, 82, 82, 65, 32, 82, 82, 67, 32, 82, 82, 67, 65, 32, 82, 82, 68, 32, 82, 83, 84, 32, 83, 66, 67, 32, 83, 67, 70, 32, 83, 69, 84, 32, 83, 76, 65, 32, 83, 76, 76, 32, 83, 82, 65, 32, 83, 82, 76, 32, 83, 85, 66, 32, 88, 79, 82]⟩
theorem opsText_fields : fieldsOf opsText = opsL := by decide +kernel
theorem opsText_ascii : ∀ (j : Nat) b, opsText.data.toList[j]? = some b → b.toNat < 128 := fun _ b h =>
  (show ∀ b ∈ opsText.data.toList, b.toNat < 128 by decide +kernel) b (List.mem_of_getElem? h)
theorem fields_ops (w : World) (hT : Spc w) : Calls Tryd.prog 107 #[.string opsText] w fun e w' => ∃ v, e = .returned v ∧ SlR strR w' (fun b => w.heap.size ≤ b) v opsL ∧ Below w.heap.size w w' := by
  have hf := Tryd.strings_Fields opsText w (by decide +kernel) opsText_ascii hT
  have hlen : (Lib.fields opsText.data.toList).length = opsL.length := by rw [← opsText_fields]; simp [fieldsOf]
  have hcells : ((Lib.fields opsText.data.toList).map fun l => Value.string ⟨l.toArray⟩) = opsL.map Value.string := by rw [← opsText_fields]; simp [fieldsOf]
  rw [hlen, hcells] at hf
  refine hf.mono ?_
  rintro e w' ⟨rfl, rfl⟩
  exact ⟨_, rfl, slR_strs w 9 _ opsL _ rfl (Nat.le_refl _) (by decide), (Below.refl _ _).alloc (Nat.le_refl _) _⟩

set_option maxRecDepth 100000 in
theorem ops_any (w : World) (hT : Spc w) : Calls Tryd.prog 59 #[] w fun e w' => ∃ v, e = .returned v ∧ SlR strR w' (fun b => w.heap.size ≤ b) v opsL ∧ Below w.heap.size w w' := by
  have HF := Lib.hid (fields_ops w hT)
  go_enter Tryd.func59, Tryd.ntmps59
  go_wp2_with fail
  refine HF.out.mono ?_
  rintro e w1 ⟨v, rfl, hs, hb⟩
  go_wp2
  go_ret
  exact ⟨_, rfl, hs, hb⟩

open Go.Maps in
set_option maxHeartbeats 1000000 in
theorem set_any (w : World) (hT : Spc w) : Calls Tryd.prog 85 #[] w fun e w' => e = .returned (.map (some w.heap.size)) ∧
    (∃ D : DataW Unit, w'.ownsMap Tryd.prog 9 (plainElem Tryd.prog 4) w.heap.size opsL.length D ∧ ∀ s : ByteArray, D.atKey (.string s.data.toList) (.lit (.bool false)) = .lit (.bool (inL opsL s))) ∧ Below w.heap.size w w' := by
  have hmm := @run_makeMap Tryd.prog
  have ho := ops_any (w.alloc (.map #[] 0)) (hT.below ((Below.refl _ _).alloc (Nat.le_refl _) _))
  have hsz : ∀ s ∈ opsL, s.size ≤ maxLen := by decide +kernel
  have hln : opsL.length < maxLen := by decide
  obtain ⟨l, hl⟩ : ∃ l, l = opsL := ⟨_, rfl⟩
  rw [← hl] at ho hsz hln ⊢
  clear hl hT
  have HO := Lib.hid ho
  have HSZ := Lib.hid hsz
  have HLN := Lib.hid hln
  clear ho hsz hln
  go_enter Tryd.func85, Tryd.ntmps85
  go_wp2_with fail
  refine HO.out.mono ?_
  rintro e w1 ⟨v, rfl, hs, hb⟩
  have hown0 : w1.ownsMap Tryd.prog 9 (plainElem (H := Unit) Tryd.prog 4) w.heap.size 0 (.map []) := (World.ownsMap_made w Tryd.prog _ _).kept (row := none) ⟨hb.os, hb.tape, hb.output, hb.size, fun k hk _ => hb.block k hk⟩ (by simp)
  have hbw : Below w.heap.size w w1 := ((Below.refl _ _).alloc (Nat.le_refl _) _).trans (hb.mono (by simp))
  have hs1 : SlR strR w1 (fun b => w.heap.size < b) v l := hs.mono fun k hk => by simp at hk; omega
  obtain ⟨a, c, rfl, _⟩ := hs.str
  have HOWN := Lib.hid hown0
  have HBW := Lib.hid hbw
  have HS1 := Lib.hid hs1
  clear hown0 hbw hs1 hs hb HO
  go_wp2
  go_loopw [7] (fun i wr => ∃ k : Nat, k ≤ l.length ∧ i = .int .i64 k ∧ (∃ D : DataW Unit, wr.ownsMap Tryd.prog 9 (plainElem Tryd.prog 4) w.heap.size k D ∧ IsMap D ∧ ∀ s : ByteArray, D.atKey (.string s.data.toList) (.lit (.bool false)) = .lit (.bool (inL (l.take k) s))) ∧ SlR strR wr (fun b => w.heap.size < b) (.slice a l.length c) l ∧ Below w.heap.size w wr) (fun i _ => l.length - (intOf i).toNat)
  case atStart => exact ⟨0, Nat.zero_le _, rfl, ⟨_, HOWN.out, ⟨[], rfl⟩, fun s => rfl⟩, HS1.out, HBW.out⟩
  case round =>
    obtain ⟨k, hk, rfl, ⟨D, hown, hm, hD⟩, hs, hb⟩ := hrel
    have HS := Lib.hid hs
    have HB := Lib.hid hb
    have HM := Lib.hid hm
    have HD := Lib.hid hD
    obtain ⟨a2, c2, hv, _, _, g1⟩ := hs.str
    obtain ⟨rfl, _, rfl⟩ : a = a2 ∧ l.length = l.length ∧ c = c2 := by injection hv with h1 h2 h3; exact ⟨h1, h2, h3⟩
    clear hs hb hm hD hv
    by_cases hlt : k < l.length
    · obtain ⟨b1, o1, rfl, _, d1⟩ := g1 k l[k] (List.getElem?_eq_getElem hlt)
      clear g1
      have HT := Lib.hid (List.take_append_getElem hlt)
      have hkey : keyOf Tryd.prog 9 (.string l[k]) = some (.string l[k].data.toList) := Go.WideMaps.keyOf_string_mk Tryd.underlying9 (HSZ.out _ (List.getElem_mem _))
      generalize l[k] = x at *
      go_wp2_with (at_mapUpdate; refine wpList_mapUpdate_own _ rfl _ _ _ 113 rfl 9 4 (string_keyed Tryd.underlying9) Tryd.underlying113 (plainElem (H := Unit) Tryd.prog 4) w.heap.size k _ rfl hown (by have := HLN.out; omega) _ _ _ rfl rfl hkey _ [] (plainElem_bool Tryd.underlying4 true) ?_; intro w3 hown3 hgrow3; have HOWN3 := Lib.hid hown3; have HG3 := Lib.hid hgrow3; clear hown3 hgrow3 hown hkey)
      go_roundw
      case rel =>
        refine ⟨k + 1, by omega, by go_num, ⟨_, HOWN3.out, ?_, fun s => ?_⟩, ?_, HB.out.grown HG3.out HB.out.size (fun j hj => by cases hj; exact Nat.le_refl _)⟩
        · obtain ⟨es, rfl⟩ := HM.out
          exact ⟨_, rfl⟩
        · rw [← HT.out]
          by_cases hs : s = x
          · subst hs
            rw [atKey_put_same HM.out (show WideAt.IsKeyLit (.string s.data.toList) from trivial)]
            simp [inL]
          · rw [atKey_put_other (fun e => hs (by cases s; cases x; simp at e; simp [e])), HD.out]
            have hn : (x.toList == s.toList) = false := by
              cases hh : (x.toList == s.toList)
              · rfl
              · exact absurd (toList_inj (eq_of_beq hh)).symm hs
            simp [inL, hn]
        · exact HS.out.old.keep (Keep.grown HG3.out (fun k hk => ⟨hk.2, fun e => by cases e; exact Nat.lt_irrefl _ hk.1⟩)) |>.mono (fun k hk => hk.1)
      case measure => simp [intOf]; omega
    · clear g1
      have hkl : k = l.length := by omega
      go_wp2
      go_ret
      subst hkl
      exact ⟨rfl, ⟨D, hown, fun s => by rw [HD.out, List.take_length]⟩, HB.out⟩
end Go.Proofs.YtkkjoghfdmmpaaaDoor
