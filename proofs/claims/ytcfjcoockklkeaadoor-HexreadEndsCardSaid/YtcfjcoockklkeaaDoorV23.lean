/-
  PLAIN, and the library at chapter 5's constants: what HexreadEnds asks. Conditions: sizes.
-/
import Derived.Test.YtcfjcoockklkeaaDoorV22
namespace Go.Proofs.YtcfjcoockklkeaaDoor
open Go.RowKit

theorem dropW_all {f : UInt8 → Bool} : ∀ m : List UInt8, m.dropWhile f = [] ↔ m.all f = true
  | [] => by simp
  | c :: m => by
    rw [List.dropWhile_cons, List.all_cons]
    cases hb : f c with
    | false => simp
    | true =>
      rw [if_pos rfl, Bool.true_and]
      exact dropW_all m
theorem trim2_all {f : UInt8 → Bool} (l : List UInt8) : ((l.reverse.dropWhile f).reverse).dropWhile f = [] ↔ l.all f = true := by
  rw [dropW_all]
  constructor
  · intro h
    rw [List.all_reverse] at h
    by_cases hq : l.all f = true
    · exact hq
    · exfalso
      have h2 := mt (dropW_all l.reverse).1 (by rw [List.all_reverse]; exact hq)
      cases hs : l.reverse.dropWhile f with
      | nil => exact h2 hs
      | cons c m =>
        have hp := List.head_dropWhile_not f (show l.reverse.dropWhile f ≠ [] by rw [hs]; simp)
        simp only [hs, List.head_cons] at hp
        rw [hs, List.all_cons, hp] at h
        cases h
  · intro h
    have h2 : l.reverse.dropWhile f = [] := (dropW_all _).2 (by rw [List.all_reverse]; exact h)
    rw [h2]; rfl
theorem trimS_all (cs l : List UInt8) : Lib.trimS l cs = [] ↔ l.all (fun c => cs.contains c) = true := trim2_all l
def is3 (c : UInt8) : Bool := ([32, 9, 10] : List UInt8).contains c
theorem Trim3_yes (s : ByteArray) (w : World) (hs : s.size ≤ 1000000000) (h : s.data.toList.all is3 = true) : Calls Tryd.prog 39 #[.string s, .string ⟨#[32, 9, 10]⟩] w fun e w' => e = .returned (.string ⟨#[]⟩) ∧ Below w.heap.size w w' :=
  (Any.strings_Trim_laid Tryd.lays160 (by kernel_rfl) s ⟨#[32, 9, 10]⟩ w (by omega) (by decide) (ascii_of_all (by decide))).mono fun e w' ⟨h1, h2⟩ => ⟨by
    rw [h1]
    have e : Lib.trimS s.data.toList (⟨#[32, 9, 10]⟩ : ByteArray).data.toList = [] := (trimS_all _ _).2 h
    rw [e], h2⟩
theorem Trim3_no (s : ByteArray) (w : World) (hs : s.size ≤ 1000000000) (h : s.data.toList.all is3 = false) : Calls Tryd.prog 39 #[.string s, .string ⟨#[32, 9, 10]⟩] w fun e w' => ∃ t : ByteArray, t.toList.isEmpty = false ∧ e = .returned (.string t) ∧ Below w.heap.size w w' :=
  (Any.strings_Trim_laid Tryd.lays160 (by kernel_rfl) s ⟨#[32, 9, 10]⟩ w (by omega) (by decide) (ascii_of_all (by decide))).mono fun e w' ⟨h1, h2⟩ => ⟨_, by
    cases hq : Lib.trimS s.data.toList (⟨#[32, 9, 10]⟩ : ByteArray).data.toList with
    | nil => exact absurd ((trimS_all _ _).1 hq) (by show ¬ s.data.toList.all is3 = true; rw [h]; simp)
    | cons c m => rw [ByteArray.toList_eq]; rfl, h1, h2⟩
theorem mem_splitNL : ∀ (m s : List UInt8), s ∈ splitNL m → ∀ c ∈ s, c ∈ m ∧ c ≠ 10
  | [], s, h, c, hc => by
    rw [splitNL] at h
    simp at h
    subst h
    cases hc
  | x :: r, s, h, c, hc => by
    rw [splitNL] at h
    by_cases hx : x = 10
    · rw [if_pos hx] at h
      rcases List.mem_cons.1 h with rfl | h
      · cases hc
      · have := mem_splitNL r s h c hc
        exact ⟨List.mem_cons_of_mem _ this.1, this.2⟩
    · rw [if_neg hx] at h
      cases hs : splitNL r with
      | nil => exact absurd hs (splitNL_ne r)
      | cons y L =>
        rw [hs] at h
        rcases List.mem_cons.1 h with rfl | h
        · rcases List.mem_cons.1 hc with rfl | hc
          · exact ⟨by simp, hx⟩
          · have := mem_splitNL r y (by rw [hs]; simp) c hc
            exact ⟨List.mem_cons_of_mem _ this.1, this.2⟩
        · have := mem_splitNL r s (by rw [hs]; simp [h]) c hc
          exact ⟨List.mem_cons_of_mem _ this.1, this.2⟩
theorem trimCR_mem {s : List UInt8} {c : UInt8} (h : c ∈ trimCR s) : c ∈ s := by
  unfold trimCR at h
  split at h
  · rw [List.dropLast_eq_take] at h
    exact List.mem_of_mem_take h
  · exact h
theorem blank_of3 {m : List UInt8} (h : m.all is3 = true) : ∀ s ∈ splitNL m, blankL (trimCR s) = true := fun s hs => by
  unfold blankL
  rw [List.all_eq_true]
  intro c hc
  obtain ⟨h1, h2⟩ := mem_splitNL m s hs c (trimCR_mem hc)
  have h3 := List.all_eq_true.1 h c h1
  unfold is3 at h3
  unfold isBl
  simp at h3
  simp
  rcases h3 with h3 | h3 | h3
  · exact .inl h3
  · exact .inr h3
  · exact absurd h3 h2
theorem trimRight_same {l : List UInt8} (h : (13 : UInt8) ∉ l) : Lib.trimRightB l 13 = l := by
  unfold Lib.trimRightB
  have : l.reverse.dropWhile (· == 13) = l.reverse := by
    cases hl : l.reverse with
    | nil => rfl
    | cons c m =>
      rw [List.dropWhile_cons, if_neg]
      intro e
      have e : c = 13 := by simpa using e
      have : c ∈ l.reverse := by rw [hl]; simp
      exact h (by rw [← e]; simpa using this)
  rw [this, List.reverse_reverse]
theorem trimCR_same {l : List UInt8} (h : (13 : UInt8) ∉ l) : trimCR l = l := by
  unfold trimCR
  rw [if_neg]
  intro e
  exact h (List.mem_of_getLast? e)
theorem indexByte_mem (c : UInt8) : ∀ l : List UInt8, 0 ≤ Lib.indexByte l c ↔ c ∈ l
  | [] => by simp [Lib.indexByte]
  | b :: l => by
    have ih := indexByte_mem c l
    unfold Lib.indexByte
    by_cases hb : b = c
    · subst hb; simp
    · rw [if_neg (by simpa using hb)]
      by_cases hm : Lib.indexByte l c = -1
      · rw [if_pos (by simpa using hm)]
        have : c ∉ l := fun h => by have := ih.2 h; omega
        simp [this]
        exact fun e => hb e.symm
      · rw [if_neg (by simpa using hm)]
        have hge : 0 ≤ Lib.indexByte l c ↔ 0 ≤ Lib.indexByte l c + 1 := by
          rcases (Int.lt_or_le (Lib.indexByte l c) 0) with h | h
          · exfalso
            have : -1 ≤ Lib.indexByte l c := by rw [← Lib.index_one]; exact Lib.index_ge _ _
            omega
          · constructor <;> intro _ <;> omega
        rw [← hge, ih]
        constructor
        · exact fun h => List.mem_cons_of_mem _ h
        · intro h
          rcases List.mem_cons.1 h with h | h
          · exact absurd h.symm hb
          · exact h
theorem Cont13 (s : ByteArray) (b : Bool) (w : World) (h : b = decide ((13 : UInt8) ∈ s.data.toList)) : Calls Tryd.prog 40 #[.string s, .string ⟨#[13]⟩] w fun e w' => e = .returned (.bool b) ∧ w = w' :=
  (Tryd.strings_Contains_one s 13 w).mono fun e w' ⟨h1, h2⟩ => ⟨by
    rw [h1, h]
    congr 2
    rw [decide_eq_decide]
    exact indexByte_mem 13 _, h2.symm⟩
theorem TrimR13 (s : ByteArray) (w : World) (hs : s.size ≤ 1000000000) : Calls Tryd.prog 38 #[.string s, .string ⟨#[13]⟩] w fun e w' => e = .returned (.string ⟨(Lib.trimRightB s.data.toList 13).toArray⟩) ∧ w = w' :=
  (Tryd.strings_TrimRight_one s 13 (by decide) w (by omega)).mono fun e w' ⟨h1, h2⟩ => ⟨h1, h2.symm⟩
theorem textOf_len8 (R : List (Nat × List UInt8)) (hS : Sep 0 R) : (textOf 16 R).length ≤ 900000000 := by
  have hsum : ∀ L : List (Nat × List UInt8), (∀ y ∈ L, y.2.length ≤ 255) → (txtP L).length ≤ 600 * L.length := by
    intro L
    induction L with
    | nil => intro _; exact Nat.zero_le _
    | cons y L ih =>
      intro h
      have h1 := ih (fun z hz => h z (by simp [hz]))
      have h2 := h y (by simp)
      have : txtP (y :: L) = recLine 0 y.1 y.2 ++ [10] ++ txtP L := by simp [txtP, joinL]
      rw [this, List.length_append, List.length_append, recLine_len, List.length_cons]
      simp only [List.length_cons, List.length_nil]
      omega
  have hcnt : (recs 16 R).length ≤ 65536 := by
    rcases recs_count (n := 16) (by omega) hS with h | h
    · rw [h]; simp [recs]
    · omega
  have h1 := hsum (recs 16 R) (fun y hy => by have := (recs_mem (n := 16) (by omega) hS y hy).2.1; omega)
  rw [textOf_is, List.length_append]
  have h2 : (endLine ++ [10]).length = 12 := rfl
  omega
/-- the text without its last line -/
theorem TrimEnd (R : List (Nat × List UInt8)) (hS : Sep 0 R) (w : World) : Calls Tryd.prog 37 #[.string ⟨(textOf 16 R).toArray⟩, .string ⟨#[58, 48, 48, 48, 48, 48, 48, 48, 49, 70, 70, 10]⟩] w fun e w' => e = .returned (.string ⟨(txtP (recs 16 R)).toArray⟩) ∧ w = w' :=
  (Tryd.strings_TrimSuffix ⟨(textOf 16 R).toArray⟩ ⟨#[58, 48, 48, 48, 48, 48, 48, 48, 49, 70, 70, 10]⟩ w (by show (textOf 16 R).toArray.size ≤ _; rw [List.size_toArray]; have := textOf_len8 R hS; omega)).mono fun e w' ⟨h1, h2⟩ => ⟨by
    rw [h1]
    have e1 : (⟨(textOf 16 R).toArray⟩ : ByteArray).data.toList = textOf 16 R := by simp
    have e2 : (⟨#[58, 48, 48, 48, 48, 48, 48, 48, 49, 70, 70, 10]⟩ : ByteArray).data.toList = endLine ++ [10] := rfl
    rw [e1, e2, textOf_is]
    unfold Lib.trimSuffix Lib.hasSuffix
    rw [if_pos (by rw [List.isSuffixOf_iff_suffix]; exact List.suffix_append _ _), List.length_append, Nat.add_sub_cancel, List.take_left], h2.symm⟩
end Go.Proofs.YtcfjcoockklkeaaDoor
