/-
  PLAIN LAWS OF THE CANONICAL FORM: it is its own canonical form, and its width is the instruction's.
-/
import Derived.Test.YtkkjoghfdmmpaaaDoorTwice1
namespace Go.Proofs.YtkkjoghfdmmpaaaDoor
open Go.RowKit

theorem numb_kind (sz : Int) (o : Opd) : (numb sz o).kind = o.kind := by unfold numb; split <;> rfl
theorem numb_other (sz : Int) (o : Opd) (h : o.kind ≠ 6) : numb sz o = o := by unfold numb; rw [if_neg (fun hh => h hh.1)]
theorem numb_eq_other (sz : Int) (o p : Opd) (h : p.kind ≠ 6) : numb sz o = p ↔ o = p := by
  constructor
  · intro e
    rw [numb_other sz o (by rw [← numb_kind sz o, e]; exact h)] at e
    exact e
  · rintro rfl; exact numb_other sz _ h
theorem numb_numb (sz : Int) (o : Opd) : numb sz (numb sz o) = numb sz o := by
  by_cases h : o.kind = 6 ∧ o.n < 0 ∧ -(sz / 2) ≤ o.n ∧ 1 < sz
  · have e : numb sz o = { o with n := o.n + sz } := by unfold numb; rw [if_pos h]
    rw [e]
    unfold numb
    rw [if_neg (by dsimp only; omega)]
  · have e : numb sz o = o := by unfold numb; rw [if_neg h]
    rw [e, e]
theorem numb_fits (sz : Int) (o : Opd) (hs : sz ≤ 65536) (h : fits64 o.n) : fits64 (numb sz o).n := by
  unfold fits64 at *
  by_cases hc : o.kind = 6 ∧ o.n < 0 ∧ -(sz / 2) ≤ o.n ∧ 1 < sz
  · have e : numb sz o = { o with n := o.n + sz } := by unfold numb; rw [if_pos hc]
    rw [e]; dsimp only; omega
  · have e : numb sz o = o := by unfold numb; rw [if_neg hc]
    rw [e]; exact h
theorem sizeOfW_le (w : Int) : sizeOfW w ≤ 65536 := by unfold sizeOfW; split; omega; split <;> omega
theorem canon_fits {s : ByteArray} {l : List Opd} (h : ∀ x ∈ l, fits64 x.n) : ∀ x ∈ canonArgs s l, fits64 x.n := by
  intro x hx
  unfold canonArgs at hx
  obtain ⟨y, hy, rfl⟩ := List.mem_map.1 hx
  exact numb_fits _ _ (sizeOfW_le _) (exch_fits (accum_fits h) y hy)

theorem ld_noSub : inL wSub ⟨#[76, 68]⟩ = false := by decide +kernel
theorem ld_noAdd : inL wAdd ⟨#[76, 68]⟩ = false := by decide +kernel
theorem ex_noSub : inL wSub ⟨#[69, 88]⟩ = false := by decide +kernel
theorem ex_noAdd : inL wAdd ⟨#[69, 88]⟩ = false := by decide +kernel
theorem op_of {s : ByteArray} {l : List UInt8} (h : (s.toList == l) = true) : s = ⟨l.toArray⟩ := toList_inj ((eq_of_beq h).trans (toList_mk l).symm)
theorem accum_no {s : ByteArray} {l : List Opd} (h1 : inL wSub s = false) (h2 : inL wAdd s = false) : accum s l = l := by
  match l with
  | [] => rfl
  | [x] => simp [accum, h2]
  | [x, y] => simp [accum, h1]
  | _ :: _ :: _ :: _ => rfl
theorem exch_no {s : ByteArray} {l : List Opd} (h : (s.toList == [69, 88]) = false) : exch s l = l := by simp [exch, h]
theorem width_args {s : ByteArray} (l m : List Opd) (h : head3 l = head3 m) : width ⟨s, l⟩ = width ⟨s, m⟩ := by simp [width, h]
theorem width_no {s : ByteArray} (l m : List Opd) (h : (s.toList == [76, 68]) = false) : width ⟨s, l⟩ = width ⟨s, m⟩ := by simp [width, h]
theorem width_exac (s : ByteArray) (l : List Opd) : width ⟨s, exch s (accum s l)⟩ = width ⟨s, l⟩ := by
  cases h : (s.toList == [76, 68])
  · exact width_no _ _ h
  · obtain rfl := op_of h
    rw [accum_no ld_noSub ld_noAdd, exch_no (by decide +kernel)]
theorem head3_map (sz : Int) (l : List Opd) : head3 (l.map (numb sz)) = head3 l := by
  cases l with
  | nil => rfl
  | cons x l => simp only [List.map, head3, numb_kind]
theorem width_canon (x : Ins) : width (canonOf x) = width x := by
  obtain ⟨s, l⟩ := x
  unfold canonOf canonArgs
  dsimp only
  rw [width_args _ _ (head3_map _ _), width_exac]
theorem canonOf_op (x : Ins) : (canonOf x).op = x.op := rfl

theorem accum_map (s : ByteArray) (l : List Opd) (sz : Int) : accum s (l.map (numb sz)) = (accum s l).map (numb sz) := by
  have hA : ∀ o, numb sz o = regA ↔ o = regA := fun o => numb_eq_other sz o regA (by decide)
  have hN : numb sz regA = regA := (hA regA).2 rfl
  match l with
  | [] => rfl
  | [x] => cases h : inL wAdd s <;> simp [accum, h, hN]
  | [x, y] =>
    have e : opdEq (numb sz x) regA = opdEq x regA := by simp only [opdEq, hA]
    cases h : inL wSub s <;> cases h2 : opdEq x regA <;> simp [accum, h, h2, e]
  | _ :: _ :: _ :: _ => rfl
theorem add_notSub {s : ByteArray} (h : inL wAdd s = true) : inL wSub s = false := by
  have := inL_iff.1 h
  simp [wAdd] at this
  rcases this with rfl | rfl | rfl <;> decide +kernel
theorem accum_accum (s : ByteArray) (l : List Opd) : accum s (accum s l) = accum s l := by
  match l with
  | [] => rfl
  | [x] =>
    cases h : inL wAdd s
    · simp [accum, h]
    · simp [accum, h, add_notSub h]
  | [x, y] =>
    cases h : inL wSub s
    · simp [accum, h]
    · have h3 : inL wAdd s = false := by
        cases h4 : inL wAdd s
        · rfl
        · rw [add_notSub h4] at h; cases h
      cases h2 : opdEq x regA <;> simp [accum, h, h2, h3]
  | _ :: _ :: _ :: _ => rfl
theorem exch_map (s : ByteArray) (l : List Opd) (sz : Int) : exch s (l.map (numb sz)) = (exch s l).map (numb sz) := by
  have h1 : ∀ o, numb sz o = opHL ↔ o = opHL := fun o => numb_eq_other sz o opHL (by decide)
  have h2 : ∀ o, numb sz o = opDE ↔ o = opDE := fun o => numb_eq_other sz o opDE (by decide)
  have e1 := (h1 opHL).2 rfl
  have e2 := (h2 opDE).2 rfl
  have hl : (l.map (numb sz) = [opHL, opDE]) ↔ l = [opHL, opDE] := by
    match l with
    | [] => simp
    | [x] => simp
    | [x, y] => simp [h1, h2]
    | _ :: _ :: _ :: _ => simp
  unfold exch
  cases h : (s.toList == [69, 88])
  · simp
  · by_cases hh : l = [opHL, opDE]
    · subst hh; simp [e1, e2]
    · simp [hh, hl]
theorem exch_exac (s : ByteArray) (l : List Opd) : exch s (accum s (exch s (accum s l))) = exch s (accum s l) := by
  cases h : (s.toList == [69, 88])
  · rw [exch_no h, exch_no h, accum_accum]
  · obtain rfl := op_of h
    rw [accum_no ex_noSub ex_noAdd, accum_no ex_noSub ex_noAdd]
    by_cases hh : l = [opHL, opDE]
    · subst hh; decide +kernel
    · have e : exch ⟨#[69, 88]⟩ l = l := by unfold exch; simp [hh]
      rw [e, e]
/-- the canonical form of a canonical form -/
theorem canonOf_canonOf (x : Ins) : canonOf (canonOf x) = canonOf x := by
  have hw := width_canon x
  obtain ⟨s, l⟩ := x
  have e : ∀ l, canonArgs s l = (exch s (accum s l)).map (numb (sizeOfW (width ⟨s, l⟩))) := fun l => by
    unfold canonArgs; dsimp only; rw [width_exac]
  show (⟨s, canonArgs s (canonArgs s l)⟩ : Ins) = ⟨s, canonArgs s l⟩
  have hw : width ⟨s, canonArgs s l⟩ = width ⟨s, l⟩ := hw
  rw [e (canonArgs s l), hw, e l, accum_map, exch_map, exch_exac, List.map_map]
  congr 1
  exact List.map_congr_left fun o _ => numb_numb _ o
end Go.Proofs.YtkkjoghfdmmpaaaDoor
