/-
  hexread's reader: data, end, line. Conditions: the line's size; the library's table as its initialiser lays it.
-/
import Derived.Test.YtcfjcoockklkeaaGreatDoorV11
import Derived.Test.YtcfjcoockklkeaaGreatDoorV14
import Derived.Shelf.Strings.SlTrimAscii
namespace Go.Proofs.YtcfjcoockklkeaaGreatDoor
open Go.RowKit

theorem trimS_blank (l : List UInt8) : Lib.trimS l [32, 9] = [] ↔ blankL l = true := by
  have hc : ∀ c : UInt8, ([32, 9] : List UInt8).contains c = isBl c := fun c => by
    unfold isBl
    rw [Bool.eq_iff_iff]
    simp
  have hd : ∀ m : List UInt8, m.dropWhile (fun c => ([32, 9] : List UInt8).contains c) = [] ↔ m.all isBl = true := fun m => by
    induction m with
    | nil => simp
    | cons c m ih =>
      rw [List.dropWhile_cons, hc]
      cases hb : isBl c with
      | true => simpa [hb] using ih
      | false => simp [hb]
  unfold Lib.trimS Lib.trimLeftS Lib.trimRightS blankL
  rw [hd]
  constructor
  · intro h
    rw [List.all_reverse] at h
    by_cases hq : l.all isBl = true
    · exact hq
    · exfalso
      have h2 := mt (hd l.reverse).1 (by rw [List.all_reverse]; exact hq)
      cases hs : l.reverse.dropWhile (fun c => ([32, 9] : List UInt8).contains c) with
      | nil => exact h2 hs
      | cons c m =>
        have hp := List.head_dropWhile_not (fun c => ([32, 9] : List UInt8).contains c) (show l.reverse.dropWhile (fun c => ([32, 9] : List UInt8).contains c) ≠ [] by rw [hs]; simp)
        simp only [hs, List.head_cons] at hp
        rw [hc] at hp
        rw [hs] at h
        simp [hp] at h
  · intro h
    have h2 : l.reverse.dropWhile (fun c => ([32, 9] : List UInt8).contains c) = [] := (hd _).2 (by rw [List.all_reverse]; exact h)
    rw [h2]; rfl
theorem Trim_yes (s : ByteArray) (w : World) (hs : s.size ≤ 1000000000) (h : blankL s.data.toList = true) : Calls Tryz.prog 45 #[.string s, .string ⟨#[32, 9]⟩] w fun e w' => e = .returned (.string ⟨#[]⟩) ∧ Below w.heap.size w w' :=
  (Any.strings_Trim_laid Tryz.lays160 (by kernel_rfl) s ⟨#[32, 9]⟩ w (by omega) (by decide) (ascii_of_all (by decide))).mono fun e w' ⟨h1, h2⟩ => ⟨by
    rw [h1]
    have e : Lib.trimS s.data.toList (⟨#[32, 9]⟩ : ByteArray).data.toList = [] := (trimS_blank _).2 h
    rw [e], h2⟩
theorem Trim_no (s : ByteArray) (w : World) (hs : s.size ≤ 1000000000) (h : blankL s.data.toList = false) : Calls Tryz.prog 45 #[.string s, .string ⟨#[32, 9]⟩] w fun e w' => ∃ t : ByteArray, t.toList.isEmpty = false ∧ e = .returned (.string t) ∧ Below w.heap.size w w' :=
  (Any.strings_Trim_laid Tryz.lays160 (by kernel_rfl) s ⟨#[32, 9]⟩ w (by omega) (by decide) (ascii_of_all (by decide))).mono fun e w' ⟨h1, h2⟩ => ⟨_, by
    cases hq : Lib.trimS s.data.toList (⟨#[32, 9]⟩ : ByteArray).data.toList with
    | nil => exact absurd ((trimS_blank _).1 hq) (by rw [h]; simp)
    | cons c m => rw [ByteArray.toList_eq]; rfl, h1, h2⟩
theorem trimSuf (l : List UInt8) : Lib.trimSuffix l [13] = trimCR l := by
  unfold Lib.trimSuffix trimCR Lib.hasSuffix
  cases hl : l.reverse with
  | nil =>
    obtain rfl : l = [] := by simpa using hl
    rfl
  | cons c m =>
    obtain rfl : l = m.reverse ++ [c] := by
      have := congrArg List.reverse hl
      simpa using this
    rw [List.getLast?_concat, List.dropLast_concat]
    by_cases h : c = 13
    · subst h
      rw [if_pos (by simp [List.isSuffixOf, List.isPrefixOf]), if_pos rfl]
      simp
    · rw [if_neg (by simp [List.isSuffixOf, List.isPrefixOf]; exact fun e => h e.symm), if_neg (by intro e; injection e with e; exact h e)]
theorem TrimSuf13 (s : ByteArray) (w : World) (hs : s.size ≤ 1000000000) : Calls Tryz.prog 44 #[.string s, .string ⟨#[13]⟩] w fun e w' => e = .returned (.string ⟨(trimCR s.data.toList).toArray⟩) ∧ w = w' :=
  (Tryz.strings_TrimSuffix s ⟨#[13]⟩ w (by omega)).mono fun e w' ⟨h1, h2⟩ => ⟨by rw [h1, ← trimSuf], h2.symm⟩
end Go.Proofs.YtcfjcoockklkeaaGreatDoor
