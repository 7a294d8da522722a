/-
  Marks, numbers and shapes of instructions, the program's and the references'. Conditions: sizes.
-/
import Derived.Test.YtlepicdjnbbndaaGreatDoorK4
import Derived.Test.YtlepicdjnbbndaaGreatDoorK2
import Derived.Test.YtlepicdjnbbndaaGreatDoorK1
import Derived.Laws.CopyOwn
import Derived.Lib.Join
import Derived.Lib.Strings
import Derived.Test.YtlepicdjnbbndaaGreatDoorShelf
import Derived.Deep.RegionHeld3
/-
  PLAIN LAWS: the canonical form of a legal instruction is legal, and its numbers are not negative as far as the width permits.
-/
namespace Go.Proofs.YtlepicdjnbbndaaGreatDoor
open Go.RowKit

theorem check_zero {x : Ins} (h : check07 x = 0) : inL opsL x.op = true ∧ x.args.length ≤ 3 ∧ ∀ y ∈ x.args, validOpd y = true := by
  unfold check07 at h
  cases h1 : inL opsL x.op
  · rw [h1] at h; simp at h
  · rw [h1] at h
    by_cases h2 : 3 < x.args.length
    · simp [h2] at h
    · simp only [Bool.not_true, Bool.false_eq_true, if_false, h2] at h
      refine ⟨rfl, by omega, ?_⟩
      cases h3 : x.args.all validOpd
      · rw [h3] at h; simp at h
      · simpa using h3

end Go.Proofs.YtlepicdjnbbndaaGreatDoor

/-
  THE TEXT OF AN OPERAND THAT HAS NO NUMBER; instr.marked; the reference's number.
-/
namespace Go.Proofs.YtlepicdjnbbndaaGreatDoor
open Go.RowKit

theorem plain_any (s : ByteArray) (n : Int) (w : World) : Calls Tryz.prog 185 #[.string s, .int .i64 n] w fun e w' => e = .returned (.string s) ∧ w' = w := by
  go_enter Tryz.func185, Tryz.ntmps185
  go_wp2
  go_ret
  exact ⟨rfl, rfl⟩
def paren (s : ByteArray) : ByteArray := ⟨#[40]⟩ ++ s ++ ⟨#[41]⟩
theorem find1_any (s : ByteArray) (n : Int) (w : World) (hs : s.size ≤ 1000) : Calls Tryz.prog 186 #[.string s, .int .i64 n] w fun e w' => e = .returned (.string (paren s)) ∧ w' = w := by
  go_enter Tryz.func186, Tryz.ntmps186
  go_wp2
  go_ret
  exact ⟨rfl, rfl⟩

/-- the text of an operand whose form is its register's name alone, or that name in parentheses -/
def regText (o : Opd) : ByteArray := if okOpd o then (kindD o.kind).nm o.reg.toNat else ⟨#[]⟩
def indText (o : Opd) : ByteArray := if okOpd o then paren ((kindD o.kind).nm o.reg.toNat) else ⟨#[]⟩

theorem text_no (o : Opd) (h : okOpd o = false) (w : World) : Calls Tryz.prog 93 #[.agg #[.int .i64 o.kind, .int .i64 o.reg, .int .i64 o.n]] w fun e w' => e = .returned (.string ⟨#[]⟩) ∧ Below w.heap.size w w' := by
  have HB0 : Hid (Below w.heap.size w (w.alloc (.cells #[.int .i64 o.kind, .int .i64 o.reg, .int .i64 o.n] 87))) := (Below.refl _ _).alloc (Nat.le_refl _) _
  have HO := Lib.hid (of_no o h (w.alloc (.cells #[.int .i64 o.kind, .int .i64 o.reg, .int .i64 o.n] 87)))
  simp only [kindNil] at HO
  go_enter Tryz.func93, Tryz.ntmps93
  go_wp2_with (go_at_call 113; refine HO.out.mono ?_; rintro e w1 ⟨rfl, hb⟩; have HB := Lib.hid (HB0.out.trans (hb.mono HB0.out.size)); clear hb)
  go_ret
  exact ⟨rfl, HB.out.alloc HB.out.size _⟩

set_option maxHeartbeats 1000000 in
theorem text_plain (o : Opd) (hf : (kindD o.kind).form = 185) (w : World) : Calls Tryz.prog 93 #[.agg #[.int .i64 o.kind, .int .i64 o.reg, .int .i64 o.n]] w fun e w' => e = .returned (.string (regText o)) ∧ Below w.heap.size w w' := by
  cases h : okOpd o
  · rw [show regText o = ⟨#[]⟩ by simp [regText, h]]
    exact text_no o h w
  · rw [show regText o = (kindD o.kind).nm o.reg.toNat by simp [regText, h]]
    have HB0 : Hid (Below w.heap.size w (w.alloc (.cells #[.int .i64 o.kind, .int .i64 o.reg, .int .i64 o.n] 87))) := (Below.refl _ _).alloc (Nat.le_refl _) _
    have HK : Hid (Blk (w.alloc (.cells #[.int .i64 o.kind, .int .i64 o.reg, .int .i64 o.n] 87)) w.heap.size 87 #[.int .i64 o.kind, .int .i64 o.reg, .int .i64 o.n]) := Blk.new w _ _
    have ho := of_yes o h (w.alloc (.cells #[.int .i64 o.kind, .int .i64 o.reg, .int .i64 o.n] 87))
    simp only [KindD.val] at ho
    rw [hf] at ho
    have HO := Lib.hid ho
    clear ho hf h
    go_enter Tryz.func93, Tryz.ntmps93
    go_wp2_with (first | (go_at_call 113; refine HO.out.mono ?_; rintro e w1 ⟨rfl, hb⟩; have HB := Lib.hid (HB0.out.trans (hb.mono HB0.out.size)); have c2 : w1.cell? ⟨w.heap.size, 2, none⟩ = some (.int .i64 o.n) := (hb.cell (p := ⟨w.heap.size, 2, none⟩) HK.out.lt).trans (HK.out.cell 2); have hlt : w.heap.size < w1.heap.size := Nat.lt_of_lt_of_le HK.out.lt hb.size; clear hb)
                       | (go_at_call 185; refine (plain_any _ _ _).mono ?_; rintro e w2 ⟨rfl, rfl⟩))
    go_ret
    exact ⟨rfl, HB.out.alloc HB.out.size _⟩
end Go.Proofs.YtlepicdjnbbndaaGreatDoor

/-
  WHICH OPERANDS HAVE A NUMBER: instr.marked, the reference's number; instr.Numbers.
-/
namespace Go.Proofs.YtlepicdjnbbndaaGreatDoor
open Go.RowKit

def hasNum (o : Opd) : Bool := o.kind == 5 || o.kind == 6 || o.kind == 7 || o.kind == 10
def idxText (r : Int) : ByteArray := ⟨#[40]⟩ ++ regText ⟨3, r, 0⟩ ++ ⟨#[43, 100, 41]⟩
def markS (o : Opd) : ByteArray := if o.kind == 5 then idxText o.reg else if o.kind == 6 then ⟨#[110]⟩ else if o.kind == 7 then ⟨#[40, 110, 41]⟩ else if o.kind == 10 then ⟨#[101]⟩ else ⟨#[]⟩
theorem form3 : (kindD 3).form = 185 := rfl

theorem names_size (k : Int) : ∀ s ∈ (kindD k).names, s.size ≤ 3 := by
  by_cases h1 : k = 1
  · subst h1; decide +kernel
  by_cases h2 : k = 2
  · subst h2; decide +kernel
  by_cases h3 : k = 3
  · subst h3; decide +kernel
  by_cases h4 : k = 4
  · subst h4; decide +kernel
  by_cases h5 : k = 5
  · subst h5; decide +kernel
  by_cases h6 : k = 6
  · subst h6; decide +kernel
  by_cases h7 : k = 7
  · subst h7; decide +kernel
  by_cases h8 : k = 8
  · subst h8; decide +kernel
  by_cases h9 : k = 9
  · subst h9; decide +kernel
  by_cases h10 : k = 10
  · subst h10; decide +kernel
  simp [kindD, h1, h2, h3, h4, h5, h6, h7, h8, h9, h10]
theorem nm_size (k : Int) (i : Nat) : ((kindD k).nm i).size ≤ 3 := by
  unfold KindD.nm
  cases h : (kindD k).names[i]? with
  | none => decide
  | some s => exact names_size k s (List.mem_of_getElem? h)
theorem regText_size (o : Opd) : (regText o).size ≤ 3 := by
  unfold regText
  split
  · exact nm_size _ _
  · decide


set_option maxHeartbeats 1000000 in
theorem marked_any (o : Opd) (w : World) : Calls Tryz.prog 92 #[.agg #[.int .i64 o.kind, .int .i64 o.reg, .int .i64 o.n]] w fun e w' => e = .returned (.tuple #[.string (markS o), .bool (hasNum o)]) ∧ Below w.heap.size w w' := by
  have HB0 : Hid (Below w.heap.size w (w.alloc (.cells #[.int .i64 o.kind, .int .i64 o.reg, .int .i64 o.n] 87))) := (Below.refl _ _).alloc (Nat.le_refl _) _
  obtain ⟨k, r, n⟩ := o
  dsimp only at *
  cases h5 : (k == 5)
  · cases h6 : (k == 6)
    · cases h7 : (k == 7)
      · cases h10 : (k == 10)
        all_goals
          have HV := Lib.hid (show hasNum ⟨k, r, n⟩ = _ by simp only [hasNum, h5, h6, h7, h10]; rfl)
          have HM := Lib.hid (show markS ⟨k, r, n⟩ = _ by simp only [markS, h5, h6, h7, h10]; rfl)
          go_enter Tryz.func92, Tryz.ntmps92
          go_wp2
          go_ret2
          exact ⟨by rw [HV.out, HM.out] <;> rfl, HB0.out⟩
      · have HV := Lib.hid (show hasNum ⟨k, r, n⟩ = true by simp only [hasNum, h5, h6, h7]; rfl)
        have HM := Lib.hid (show markS ⟨k, r, n⟩ = ⟨#[40, 110, 41]⟩ by simp only [markS, h5, h6, h7]; rfl)
        go_enter Tryz.func92, Tryz.ntmps92
        go_wp2
        go_ret2
        exact ⟨by rw [HV.out, HM.out] <;> rfl, HB0.out⟩
    · have HV := Lib.hid (show hasNum ⟨k, r, n⟩ = true by simp only [hasNum, h5, h6]; rfl)
      have HM := Lib.hid (show markS ⟨k, r, n⟩ = ⟨#[110]⟩ by simp only [markS, h5, h6]; rfl)
      go_enter Tryz.func92, Tryz.ntmps92
      go_wp2
      go_ret2
      exact ⟨by rw [HV.out, HM.out] <;> rfl, HB0.out⟩
  · have HV := Lib.hid (show hasNum ⟨k, r, n⟩ = true by simp only [hasNum, h5]; rfl)
    have HM := Lib.hid (show markS ⟨k, r, n⟩ = idxText r by simp only [markS, h5]; rfl)
    have hsz := regText_size ⟨3, r, 0⟩
    have HTX := Lib.hid (fun wx => text_plain ⟨3, r, 0⟩ form3 wx)
    go_enter Tryz.func92, Tryz.ntmps92
    go_wp2_with (go_at_call 93; refine (HTX.out _).mono ?_; rintro e w1 ⟨rfl, hb⟩; have HB := Lib.hid (HB0.out.trans (hb.mono HB0.out.size)); clear hb)
    go_ret2
    exact ⟨by rw [HV.out, HM.out] <;> rfl, HB.out⟩
end Go.Proofs.YtlepicdjnbbndaaGreatDoor

/-
  THE NUMBERS OF AN INSTRUCTION: the reference's Numbers and instr.Numbers.
-/
namespace Go.Proofs.YtlepicdjnbbndaaGreatDoor
open Go.RowKit

theorem Own.stay {α : Type} {R : Rep α} {w w' : World} {B : Nat} {e : TypeId} {v : Value} {xs : List α} (h : Own R w B e NoB v xs) (hb : Below w.heap.size w w') : Own R w' B e NoB v xs :=
  h.keep (Keep.of_below hb (fun k hk => by rcases hk with hk | hk; exact hk.elim; exact (h.lt k hk).2))

end Go.Proofs.YtlepicdjnbbndaaGreatDoor

/-
  THE SAME NUMBERS: slices.Equal on integers.
-/
namespace Go.Proofs.YtlepicdjnbbndaaGreatDoor
open Go.RowKit


end Go.Proofs.YtlepicdjnbbndaaGreatDoor

/-
  THE MARK OF AN OPERAND, the reference's: a name, or a letter for the number.
-/
namespace Go.Proofs.YtlepicdjnbbndaaGreatDoor
open Go.RowKit

/-- the reference's text of an operand without a number -/
def regText06 (o : Opd) : ByteArray := if validOpd o then nameOf o.kind o.reg else ⟨#[]⟩
set_option maxHeartbeats 2000000 in
theorem text06_reg (o : Opd) (h : hasNum o = false) (w : World) : Calls Tryz.prog 155 #[.agg #[.int .i64 o.kind, .int .i64 o.reg, .int .i64 o.n]] w fun e w' => e = .returned (.string (regText06 o)) ∧ Below w.heap.size w w' := by
  have HB0 : Hid (Below w.heap.size w (w.alloc (.cells #[.int .i64 o.kind, .int .i64 o.reg, .int .i64 o.n] 87))) := (Below.refl _ _).alloc (Nat.le_refl _) _
  have HK : Hid (Blk (w.alloc (.cells #[.int .i64 o.kind, .int .i64 o.reg, .int .i64 o.n] 87)) w.heap.size 87 #[.int .i64 o.kind, .int .i64 o.reg, .int .i64 o.n]) := Blk.new w _ _
  simp only [hasNum, Bool.or_eq_false_iff] at h
  obtain ⟨⟨⟨h5, h6⟩, h7⟩, h10⟩ := h
  have hva := fun wz => valid06_any o wz
  cases hv : validOpd o
  all_goals
    rw [hv] at hva
    have HVA := Lib.hid hva
    clear hva
  · have HV := Lib.hid (show regText06 o = ⟨#[]⟩ by simp [regText06, hv])
    go_enter Tryz.func155, Tryz.ntmps155
    go_wp2_with (go_at_call 127; refine (HVA.out _).mono ?_; rintro e w1 ⟨rfl, hb⟩; have HB := Lib.hid (HB0.out.trans (hb.mono HB0.out.size)); clear hb)
    go_ret
    exact ⟨ret_str HV.out.symm, HB.out⟩
  · have HV := Lib.hid (show regText06 o = nameOf o.kind o.reg by simp [regText06, hv])
    go_enter Tryz.func155, Tryz.ntmps155
    go_wp2_with (first | (go_at_call 127; refine (HVA.out _).mono ?_; rintro e w1 ⟨rfl, hb⟩; have HB := Lib.hid (HB0.out.trans (hb.mono HB0.out.size)); have c0 : w1.cell? ⟨w.heap.size, 0, none⟩ = some (.int .i64 o.kind) := (hb.cell (p := ⟨w.heap.size, 0, none⟩) HK.out.lt).trans (HK.out.cell 0); have c1 : w1.cell? ⟨w.heap.size, 1, none⟩ = some (.int .i64 o.reg) := (hb.cell (p := ⟨w.heap.size, 1, none⟩) HK.out.lt).trans (HK.out.cell 1); clear hb)
                       | (go_at_call 165; refine (name_any _ _ _).mono ?_; rintro e w2 ⟨rfl, hb⟩; have HB2 := Lib.hid (HB.out.trans (hb.mono HB.out.size)); clear hb))
    go_ret
    exact ⟨ret_str HV.out.symm, HB2.out⟩

/-- the reference's mark -/
def mark07 (o : Opd) : ByteArray :=
  if o.kind == 5 then (if o.reg == 5 then ⟨#[40, 73, 88, 43, 100, 41]⟩ else ⟨#[40, 73, 89, 43, 100, 41]⟩) else if o.kind == 6 then ⟨#[110]⟩ else if o.kind == 7 then ⟨#[40, 110, 41]⟩ else if o.kind == 10 then ⟨#[101]⟩ else regText06 o
set_option maxHeartbeats 2000000 in
theorem mark07_any (o : Opd) (w : World) : Calls Tryz.prog 111 #[.agg #[.int .i64 o.kind, .int .i64 o.reg, .int .i64 o.n]] w fun e w' => e = .returned (.string (mark07 o)) ∧ Below w.heap.size w w' := by
  have HB0 : Hid (Below w.heap.size w (w.alloc (.cells #[.int .i64 o.kind, .int .i64 o.reg, .int .i64 o.n] 87))) := (Below.refl _ _).alloc (Nat.le_refl _) _
  cases h5 : (o.kind == 5)
  · cases h6 : (o.kind == 6)
    · cases h7 : (o.kind == 7)
      · cases h10 : (o.kind == 10)
        · have HV := Lib.hid (show mark07 o = regText06 o by simp only [mark07, h5, h6, h7, h10]; rfl)
          have HT := Lib.hid (fun wz => text06_reg o (by simp only [hasNum, h5, h6, h7, h10]; rfl) wz)
          go_enter Tryz.func111, Tryz.ntmps111
          go_wp2_with (go_at_call 155; refine (HT.out _).mono ?_; rintro e w1 ⟨rfl, hb⟩; have HB := Lib.hid (HB0.out.trans (hb.mono HB0.out.size)); clear hb)
          go_ret
          exact ⟨ret_str HV.out.symm, HB.out⟩
        · have HV := Lib.hid (show mark07 o = ⟨#[101]⟩ by simp only [mark07, h5, h6, h7, h10]; rfl)
          go_enter Tryz.func111, Tryz.ntmps111
          go_wp2
          go_ret
          exact ⟨ret_str HV.out.symm, HB0.out⟩
      · have HV := Lib.hid (show mark07 o = ⟨#[40, 110, 41]⟩ by simp only [mark07, h5, h6, h7]; rfl)
        go_enter Tryz.func111, Tryz.ntmps111
        go_wp2
        go_ret
        exact ⟨ret_str HV.out.symm, HB0.out⟩
    · have HV := Lib.hid (show mark07 o = ⟨#[110]⟩ by simp only [mark07, h5, h6]; rfl)
      go_enter Tryz.func111, Tryz.ntmps111
      go_wp2
      go_ret
      exact ⟨ret_str HV.out.symm, HB0.out⟩
  · cases hr : (o.reg == 5)
    all_goals
      have HV := Lib.hid (show mark07 o = _ by simp only [mark07, h5, hr]; rfl)
      go_enter Tryz.func111, Tryz.ntmps111
      go_wp2
      go_ret
      exact ⟨ret_str HV.out.symm, HB0.out⟩
end Go.Proofs.YtlepicdjnbbndaaGreatDoor

/-
  THE MARK OF A VALID OPERAND: the program's is the reference's.
-/
namespace Go.Proofs.YtlepicdjnbbndaaGreatDoor
open Go.RowKit

/-- operand.Text of an operand without a number -/
def textOf (o : Opd) : ByteArray := if o.kind == 4 then indText o else regText o
/-- what Shape writes for an operand -/
def markP (o : Opd) : ByteArray := if hasNum o then markS o else textOf o
theorem name_range {k r : Int} (h : ((nameOf k r).toList == []) = false) : 0 ≤ r ∧ r < 9 := by
  constructor
  · refine Int.not_lt.1 fun hr => ?_
    rw [show nameOf k r = ⟨#[]⟩ by simp [nameOf, nameL, hr]] at h
    exact absurd h (by decide +kernel)
  · refine Int.not_le.1 fun hr => ?_
    have hl : (regsL k)[r.toNat]? = none := by have := regs_short k; simp; omega
    rw [show nameOf k r = ⟨#[]⟩ by simp [nameOf, nameL, hl]] at h
    exact absurd h (by decide +kernel)

theorem mark_1 (r n : Int) (h : validOpd ⟨1, r, n⟩ = true) : markP ⟨1, r, n⟩ = mark07 ⟨1, r, n⟩ := by
  have hok : okOpd ⟨1, r, n⟩ = true := by rw [ok_valid]; exact h
  have hn : ((nameOf 1 r).toList == []) = false := by
    cases hh : ((nameOf 1 r).toList == [])
    · rfl
    · simp only [validOpd, hh] at h
      exact absurd h (by simp)
  obtain ⟨h0, h9⟩ := name_range hn
  have hr : r = 0 ∨ r = 1 ∨ r = 2 ∨ r = 3 ∨ r = 4 ∨ r = 5 ∨ r = 6 ∨ r = 7 ∨ r = 8 := by omega
  clear h0 h9
  have e1 : mark07 ⟨1, r, n⟩ = nameOf 1 r := by show regText06 ⟨1, r, n⟩ = _; simp only [regText06, h, if_true]
  have e2 : markP ⟨1, r, n⟩ = (kindD 1).nm r.toNat := by show regText ⟨1, r, n⟩ = _; simp only [regText, hok, if_true]
  rw [e1, e2]
  clear e1 e2 h hok
  rcases hr with rfl | rfl | rfl | rfl | rfl | rfl | rfl | rfl | rfl
  all_goals first | exact absurd hn (by decide +kernel) | decide +kernel
theorem mark_2 (r n : Int) (h : validOpd ⟨2, r, n⟩ = true) : markP ⟨2, r, n⟩ = mark07 ⟨2, r, n⟩ := by
  have hok : okOpd ⟨2, r, n⟩ = true := by rw [ok_valid]; exact h
  have hn : ((nameOf 2 r).toList == []) = false := by
    cases hh : ((nameOf 2 r).toList == [])
    · rfl
    · simp only [validOpd, hh] at h
      exact absurd h (by simp)
  obtain ⟨h0, h9⟩ := name_range hn
  have hr : r = 0 ∨ r = 1 ∨ r = 2 ∨ r = 3 ∨ r = 4 ∨ r = 5 ∨ r = 6 ∨ r = 7 ∨ r = 8 := by omega
  clear h0 h9
  have e1 : mark07 ⟨2, r, n⟩ = nameOf 2 r := by show regText06 ⟨2, r, n⟩ = _; simp only [regText06, h, if_true]
  have e2 : markP ⟨2, r, n⟩ = (kindD 2).nm r.toNat := by show regText ⟨2, r, n⟩ = _; simp only [regText, hok, if_true]
  rw [e1, e2]
  clear e1 e2 h hok
  rcases hr with rfl | rfl | rfl | rfl | rfl | rfl | rfl | rfl | rfl
  all_goals first | exact absurd hn (by decide +kernel) | decide +kernel
theorem mark_3 (r n : Int) (h : validOpd ⟨3, r, n⟩ = true) : markP ⟨3, r, n⟩ = mark07 ⟨3, r, n⟩ := by
  have hok : okOpd ⟨3, r, n⟩ = true := by rw [ok_valid]; exact h
  have hn : ((nameOf 3 r).toList == []) = false := by
    cases hh : ((nameOf 3 r).toList == [])
    · rfl
    · simp only [validOpd, hh] at h
      exact absurd h (by simp)
  obtain ⟨h0, h9⟩ := name_range hn
  have hr : r = 0 ∨ r = 1 ∨ r = 2 ∨ r = 3 ∨ r = 4 ∨ r = 5 ∨ r = 6 ∨ r = 7 ∨ r = 8 := by omega
  clear h0 h9
  have e1 : mark07 ⟨3, r, n⟩ = nameOf 3 r := by show regText06 ⟨3, r, n⟩ = _; simp only [regText06, h, if_true]
  have e2 : markP ⟨3, r, n⟩ = (kindD 3).nm r.toNat := by show regText ⟨3, r, n⟩ = _; simp only [regText, hok, if_true]
  rw [e1, e2]
  clear e1 e2 h hok
  rcases hr with rfl | rfl | rfl | rfl | rfl | rfl | rfl | rfl | rfl
  all_goals first | exact absurd hn (by decide +kernel) | decide +kernel
theorem mark_4 (r n : Int) (h : validOpd ⟨4, r, n⟩ = true) : markP ⟨4, r, n⟩ = mark07 ⟨4, r, n⟩ := by
  have hok : okOpd ⟨4, r, n⟩ = true := by rw [ok_valid]; exact h
  have hn : ((nameOf 4 r).toList == []) = false := by
    cases hh : ((nameOf 4 r).toList == [])
    · rfl
    · simp only [validOpd, hh] at h
      exact absurd h (by simp)
  obtain ⟨h0, h9⟩ := name_range hn
  have hr : r = 0 ∨ r = 1 ∨ r = 2 ∨ r = 3 ∨ r = 4 ∨ r = 5 ∨ r = 6 ∨ r = 7 ∨ r = 8 := by omega
  clear h0 h9
  have e1 : mark07 ⟨4, r, n⟩ = nameOf 4 r := by show regText06 ⟨4, r, n⟩ = _; simp only [regText06, h, if_true]
  have e2 : markP ⟨4, r, n⟩ = paren ((kindD 4).nm r.toNat) := by show indText ⟨4, r, n⟩ = _; simp only [indText, hok, if_true]
  rw [e1, e2]
  clear e1 e2 h hok
  rcases hr with rfl | rfl | rfl | rfl | rfl | rfl | rfl | rfl | rfl
  all_goals first | exact absurd hn (by decide +kernel) | decide +kernel
theorem mark_5 (r n : Int) (h : validOpd ⟨5, r, n⟩ = true) : markP ⟨5, r, n⟩ = mark07 ⟨5, r, n⟩ := by
  have hok : okOpd ⟨5, r, n⟩ = true := by rw [ok_valid]; exact h
  have hn : ((nameOf 5 r).toList == []) = false := by
    cases hh : ((nameOf 5 r).toList == [])
    · rfl
    · simp only [validOpd, hh] at h
      exact absurd h (by simp)
  obtain ⟨h0, h9⟩ := name_range hn
  have hr : r = 0 ∨ r = 1 ∨ r = 2 ∨ r = 3 ∨ r = 4 ∨ r = 5 ∨ r = 6 ∨ r = 7 ∨ r = 8 := by omega
  clear h0 h9
  rw [show markP ⟨5, r, n⟩ = idxText r from rfl, show mark07 ⟨5, r, n⟩ = (if r == 5 then ⟨#[40, 73, 88, 43, 100, 41]⟩ else ⟨#[40, 73, 89, 43, 100, 41]⟩) from rfl]
  clear h hok
  rcases hr with rfl | rfl | rfl | rfl | rfl | rfl | rfl | rfl | rfl
  all_goals first | exact absurd hn (by decide +kernel) | decide +kernel
theorem mark_6 (r n : Int) : markP ⟨6, r, n⟩ = mark07 ⟨6, r, n⟩ := rfl
theorem mark_7 (r n : Int) : markP ⟨7, r, n⟩ = mark07 ⟨7, r, n⟩ := rfl
theorem mark_8 (r n : Int) (h : validOpd ⟨8, r, n⟩ = true) : markP ⟨8, r, n⟩ = mark07 ⟨8, r, n⟩ := by
  have hok : okOpd ⟨8, r, n⟩ = true := by rw [ok_valid]; exact h
  have hn : ((nameOf 8 r).toList == []) = false := by
    cases hh : ((nameOf 8 r).toList == [])
    · rfl
    · simp only [validOpd, hh] at h
      exact absurd h (by simp)
  obtain ⟨h0, h9⟩ := name_range hn
  have hr : r = 0 ∨ r = 1 ∨ r = 2 ∨ r = 3 ∨ r = 4 ∨ r = 5 ∨ r = 6 ∨ r = 7 ∨ r = 8 := by omega
  clear h0 h9
  have e1 : mark07 ⟨8, r, n⟩ = nameOf 8 r := by show regText06 ⟨8, r, n⟩ = _; simp only [regText06, h, if_true]
  have e2 : markP ⟨8, r, n⟩ = (kindD 8).nm r.toNat := by show regText ⟨8, r, n⟩ = _; simp only [regText, hok, if_true]
  rw [e1, e2]
  clear e1 e2 h hok
  rcases hr with rfl | rfl | rfl | rfl | rfl | rfl | rfl | rfl | rfl
  all_goals first | exact absurd hn (by decide +kernel) | decide +kernel
theorem mark_9 (r n : Int) (h : validOpd ⟨9, r, n⟩ = true) : markP ⟨9, r, n⟩ = mark07 ⟨9, r, n⟩ := by
  have hok : okOpd ⟨9, r, n⟩ = true := by rw [ok_valid]; exact h
  have hn : ((nameOf 9 r).toList == []) = false := by
    cases hh : ((nameOf 9 r).toList == [])
    · rfl
    · simp only [validOpd, hh] at h
      exact absurd h (by simp)
  obtain ⟨h0, h9⟩ := name_range hn
  have hr : r = 0 ∨ r = 1 ∨ r = 2 ∨ r = 3 ∨ r = 4 ∨ r = 5 ∨ r = 6 ∨ r = 7 ∨ r = 8 := by omega
  clear h0 h9
  have e1 : mark07 ⟨9, r, n⟩ = nameOf 9 r := by show regText06 ⟨9, r, n⟩ = _; simp only [regText06, h, if_true]
  have e2 : markP ⟨9, r, n⟩ = (kindD 9).nm r.toNat := by show regText ⟨9, r, n⟩ = _; simp only [regText, hok, if_true]
  rw [e1, e2]
  clear e1 e2 h hok
  rcases hr with rfl | rfl | rfl | rfl | rfl | rfl | rfl | rfl | rfl
  all_goals first | exact absurd hn (by decide +kernel) | decide +kernel
theorem mark_10 (r n : Int) : markP ⟨10, r, n⟩ = mark07 ⟨10, r, n⟩ := rfl
theorem mark_eq (o : Opd) (h : validOpd o = true) : markP o = mark07 o := by
  obtain ⟨k, r, n⟩ := o
  by_cases h1 : k = 1
  · subst h1; exact mark_1 r n h
  by_cases h2 : k = 2
  · subst h2; exact mark_2 r n h
  by_cases h3 : k = 3
  · subst h3; exact mark_3 r n h
  by_cases h4 : k = 4
  · subst h4; exact mark_4 r n h
  by_cases h5 : k = 5
  · subst h5; exact mark_5 r n h
  by_cases h6 : k = 6
  · subst h6; exact mark_6 r n
  by_cases h7 : k = 7
  · subst h7; exact mark_7 r n
  by_cases h8 : k = 8
  · subst h8; exact mark_8 r n h
  by_cases h9 : k = 9
  · subst h9; exact mark_9 r n h
  by_cases h10 : k = 10
  · subst h10; exact mark_10 r n
  simp [validOpd, h1, h2, h3, h4, h5, h6, h7, h8, h9, h10] at h
end Go.Proofs.YtlepicdjnbbndaaGreatDoor

/-
  operand.Text OF AN OPERAND WITHOUT A NUMBER.
-/
namespace Go.Proofs.YtlepicdjnbbndaaGreatDoor
open Go.RowKit

set_option maxHeartbeats 1000000 in
theorem text_ind (o : Opd) (hf : (kindD o.kind).form = 186) (w : World) : Calls Tryz.prog 93 #[.agg #[.int .i64 o.kind, .int .i64 o.reg, .int .i64 o.n]] w fun e w' => e = .returned (.string (indText o)) ∧ Below w.heap.size w w' := by
  cases h : okOpd o
  · rw [show indText o = ⟨#[]⟩ by simp [indText, h]]
    exact text_no o h w
  · rw [show indText o = paren ((kindD o.kind).nm o.reg.toNat) by simp [indText, h]]
    have HB0 : Hid (Below w.heap.size w (w.alloc (.cells #[.int .i64 o.kind, .int .i64 o.reg, .int .i64 o.n] 87))) := (Below.refl _ _).alloc (Nat.le_refl _) _
    have HK : Hid (Blk (w.alloc (.cells #[.int .i64 o.kind, .int .i64 o.reg, .int .i64 o.n] 87)) w.heap.size 87 #[.int .i64 o.kind, .int .i64 o.reg, .int .i64 o.n]) := Blk.new w _ _
    have ho := of_yes o h (w.alloc (.cells #[.int .i64 o.kind, .int .i64 o.reg, .int .i64 o.n] 87))
    simp only [KindD.val] at ho
    rw [hf] at ho
    have HO := Lib.hid ho
    clear ho hf h
    go_enter Tryz.func93, Tryz.ntmps93
    go_wp2_with (first | (go_at_call 113; refine HO.out.mono ?_; rintro e w1 ⟨rfl, hb⟩; have HB := Lib.hid (HB0.out.trans (hb.mono HB0.out.size)); have c2 : w1.cell? ⟨w.heap.size, 2, none⟩ = some (.int .i64 o.n) := (hb.cell (p := ⟨w.heap.size, 2, none⟩) HK.out.lt).trans (HK.out.cell 2); have hlt : w.heap.size < w1.heap.size := Nat.lt_of_lt_of_le HK.out.lt hb.size; clear hb)
                       | (go_at_call 186; refine (find1_any _ _ _ (Nat.le_trans (nm_size _ _) (by decide))).mono ?_; rintro e w2 ⟨rfl, rfl⟩))
    go_ret
    exact ⟨rfl, HB.out.alloc HB.out.size _⟩

theorem text_any (o : Opd) (h : hasNum o = false) (w : World) : Calls Tryz.prog 93 #[.agg #[.int .i64 o.kind, .int .i64 o.reg, .int .i64 o.n]] w fun e w' => e = .returned (.string (textOf o)) ∧ Below w.heap.size w w' := by
  cases hk : kindOk o.kind
  · have ho : okOpd o = false := by simp [okOpd, hk]
    rw [show textOf o = ⟨#[]⟩ by simp [textOf, indText, regText, ho]]
    exact text_no o ho w
  · obtain ⟨k, r, n⟩ := o
    dsimp only at hk
    simp only [kindOk, Bool.or_eq_true, beq_iff_eq] at hk
    rcases hk with ((((((((rfl | rfl) | rfl) | rfl) | rfl) | rfl) | rfl) | rfl) | rfl) | rfl
    · exact text_plain ⟨1, r, n⟩ rfl w
    · exact text_plain ⟨2, r, n⟩ rfl w
    · exact text_plain ⟨3, r, n⟩ rfl w
    · exact text_ind ⟨4, r, n⟩ rfl w
    · exact absurd h (by simp [hasNum])
    · exact absurd h (by simp [hasNum])
    · exact absurd h (by simp [hasNum])
    · exact text_plain ⟨8, r, n⟩ rfl w
    · exact text_plain ⟨9, r, n⟩ rfl w
    · exact absurd h (by simp [hasNum])
end Go.Proofs.YtlepicdjnbbndaaGreatDoor

/-
  THE SHAPE OF AN INSTRUCTION: the reference's.
-/
namespace Go.Proofs.YtlepicdjnbbndaaGreatDoor
open Go.RowKit

theorem regs_size (k : Int) : ∀ s ∈ regsL k, s.size ≤ 4 := by
  by_cases h1 : k = 1
  · subst h1; decide +kernel
  by_cases h2 : k = 2
  · subst h2; decide +kernel
  by_cases h3 : k = 3
  · subst h3; decide +kernel
  by_cases h4 : k = 4
  · subst h4; decide +kernel
  by_cases h5 : k = 5
  · subst h5; decide +kernel
  by_cases h8 : k = 8
  · subst h8; decide +kernel
  by_cases h9 : k = 9
  · subst h9; decide +kernel
  simp [regsL, h1, h2, h3, h4, h5, h8, h9]
theorem nameOf_size (k r : Int) : (nameOf k r).size ≤ 4 := by
  unfold nameOf nameL
  split
  · decide
  · cases h : (regsL k)[r.toNat]? with
    | none => decide
    | some s => exact regs_size k s (List.mem_of_getElem? h)
theorem mark07_size (o : Opd) : (mark07 o).size ≤ 6 := by
  unfold mark07
  repeat' split
  all_goals first | decide | skip
  unfold regText06
  split
  · exact Nat.le_trans (nameOf_size _ _) (by decide)
  · decide
def sepAt (k : Nat) : ByteArray := if k = 0 then ⟨#[32]⟩ else ⟨#[44]⟩
/-- the shape of the first k operands -/
def shapeUpto (s : ByteArray) (l : List Opd) : Nat → ByteArray
  | 0 => s
  | k + 1 => (shapeUpto s l k ++ sepAt k) ++ mark07 (l.getD k default)
theorem shapeUpto_size (s : ByteArray) (l : List Opd) : ∀ k, (shapeUpto s l k).size ≤ s.size + 7 * k
  | 0 => by simp [shapeUpto]
  | k + 1 => by
    have h1 := shapeUpto_size s l k
    have h2 := mark07_size (l.getD k default)
    have h3 : (sepAt k).size = 1 := by unfold sepAt; split <;> rfl
    simp only [shapeUpto, ByteArray.size_append]
    omega
def shape07 (x : Ins) : ByteArray := if check07 x == 0 then shapeUpto x.op x.args x.args.length else ⟨#[]⟩

set_option maxHeartbeats 2000000 in
theorem shape07_any (p : Blocks) (x : Ins) (v : Value) (w : World) (h : SlR opdR w p v x.args) :
    Calls Tryz.prog 58 #[.agg #[.string x.op, v]] w fun e w' => e = .returned (.string (shape07 x)) ∧ Below w.heap.size w w' := by
  obtain ⟨a, c, rfl, _⟩ := h.opd
  obtain ⟨W, hW⟩ : ∃ W : World, W = w.alloc (.cells #[.string x.op, .slice a x.args.length c] 25) := ⟨_, rfl⟩
  have hbW : Below w.heap.size w W := hW ▸ (Below.refl _ _).alloc (Nat.le_refl _) _
  have k1 : Blk W w.heap.size 25 #[.string x.op, .slice a x.args.length c] := hW ▸ Blk.new w _ _
  have HBW := Lib.hid hbW
  have HK := Lib.hid k1
  have HSL := Lib.hid (h.below hbW)
  have HCH := Lib.hid (check07_any _ x _ W HSL.out)
  obtain ⟨a0, a1, _, _⟩ := k1.two
  clear h hbW k1
  cases hc : (check07 x == 0)
  · have HV := Lib.hid (show shape07 x = ⟨#[]⟩ by simp only [shape07, hc]; rfl)
    go_enter Tryz.func58, Tryz.ntmps58
    go_wp2_with fail
    rw [← hW]
    clear hW
    refine HCH.out.mono ?_
    rintro e w1 ⟨rfl, hb⟩
    have HB1 := Lib.hid hb
    clear hb
    go_wp2
    go_ret
    exact ⟨ret_str HV.out.symm, HBW.out.trans (HB1.out.mono HBW.out.size)⟩
  · have hc0 : check07 x = 0 := by simpa using hc
    have HV := Lib.hid (show shape07 x = shapeUpto x.op x.args x.args.length by simp only [shape07, hc]; rfl)
    obtain ⟨hop, hn, _⟩ := check_zero hc0
    have hsz : x.op.size ≤ 4 := (show ∀ s ∈ opsL, s.size ≤ 4 by decide +kernel) _ (inL_iff.1 hop)
    have HN := Lib.hid hn
    have HSZ : Hid (∀ k, k ≤ 3 → (shapeUpto x.op x.args k).size ≤ 1000) := fun k hk => by have := shapeUpto_size x.op x.args k; omega
    rw [hc0] at HCH
    clear hc hc0 hop hn hsz
    go_enter Tryz.func58, Tryz.ntmps58
    go_wp2_with fail
    rw [← hW]
    clear hW
    refine HCH.out.mono ?_
    rintro e w1 ⟨rfl, hb⟩
    have HB1 := Lib.hid (HBW.out.trans (hb.mono HBW.out.size))
    have HSL1 := Lib.hid (HSL.out.below hb)
    have HK1 := Lib.hid (HK.out.below hb HK.out.lt)
    obtain ⟨b0, b1, _, _⟩ := HK1.out.two
    clear hb a0 a1
    go_wp2
    go_loopw [3, 4] (fun o i wr => ∃ k : Nat, k ≤ x.args.length ∧ i = .int .i64 k ∧ o = .string (shapeUpto x.op x.args k) ∧ Below w1.heap.size w1 wr) (fun _ i _ => x.args.length - (intOf i).toNat)
    case atStart => exact ⟨0, Nat.zero_le _, rfl, rfl, Below.refl _ _⟩
    case round =>
      obtain ⟨k, hk, rfl, rfl, hb⟩ := hrel
      have HBX := Lib.hid hb
      have HKX := Lib.hid (HK1.out.below hb HK1.out.lt)
      obtain ⟨a0, a1, _, _⟩ := HKX.out.two
      obtain ⟨ad, cd, hv, _, _, g1⟩ := (HSL1.out.below hb).opd
      obtain ⟨rfl, _, rfl⟩ : a = ad ∧ x.args.length = x.args.length ∧ c = cd := by injection hv with h1 h2 h3; exact ⟨h1, h2, h3⟩
      clear hb hv
      have hsk := HSZ.out k (by have := HN.out; omega)
      by_cases hlt : k < x.args.length
      · obtain ⟨b2, o2, rfl, _, d1, d2, d3⟩ := g1 k x.args[k] (List.getElem?_eq_getElem hlt)
        clear g1
        have hm := mark07_size x.args[k]
        have HST : Hid (shapeUpto x.op x.args (k + 1) = (shapeUpto x.op x.args k ++ sepAt k) ++ mark07 x.args[k]) := by
          show (shapeUpto x.op x.args k ++ sepAt k) ++ mark07 (x.args.getD k default) = _
          rw [show x.args.getD k default = x.args[k] by simp [List.getD, hlt]]
        have HMK := Lib.hid (fun wz => mark07_any x.args[k] wz)
        generalize x.args[k] = y at *
        by_cases hk0 : k = 0
        · subst hk0
          simp only [Nat.zero_mul, Nat.add_zero] at d1 d2 d3
          go_wp2_with (go_at_call 111; refine (HMK.out _).mono ?_; rintro e w2 ⟨rfl, hb⟩; have HB2 := Lib.hid (HBX.out.trans (hb.mono HBX.out.size)); clear hb)
          go_roundw
          case rel => exact ⟨1, by omega, by go_num, by rw [HST.out]; rfl, HB2.out⟩
          case measure => simp [intOf]; omega
        · have hkb : ((k : Int) == 0) = false := by simpa using hk0
          go_wp2_with (go_at_call 111; refine (HMK.out _).mono ?_; rintro e w2 ⟨rfl, hb⟩; have HB2 := Lib.hid (HBX.out.trans (hb.mono HBX.out.size)); clear hb)
          go_roundw
          case rel => exact ⟨k + 1, by omega, by go_num, by rw [HST.out, sepAt, if_neg hk0], HB2.out⟩
          case measure => simp [intOf]; omega
      · clear g1
        have hkl : k = x.args.length := by omega
        go_wp2
        go_ret
        subst hkl
        exact ⟨ret_str HV.out.symm, HB1.out.trans (HBX.out.mono HB1.out.size)⟩
end Go.Proofs.YtlepicdjnbbndaaGreatDoor

/-
  THE CLOSURE OF instr.Shape: it appends the mark of an operand.
-/
namespace Go.Proofs.YtlepicdjnbbndaaGreatDoor
open Go.RowKit

theorem elStr : ElT Tryz.prog 102 9 strR.size 16 := ElT.mk' (z := .string ⟨#[]⟩) Tryz.underlying102 (by kernel_rfl) rfl (by decide)

set_option maxHeartbeats 2000000 in
theorem add_any (o : Opd) (bm B0 : Nat) (v : Value) (ms : List ByteArray) (w : World) (hk : Blk w bm 102 #[v]) (ho : Own strR w (bm + 1) 9 NoB v ms) (h0 : B0 ≤ bm) (hl : ms.length ≤ 1000) :
    Calls Tryz.prog 91 #[.agg #[.int .i64 o.kind, .int .i64 o.reg, .int .i64 o.n], .pointer (some ⟨bm, 0, none⟩)] w fun e w' => e = .returned (.tuple #[]) ∧
      (∃ v', Blk w' bm 102 #[v'] ∧ Own strR w' (bm + 1) 9 NoB v' (ms ++ [markP o])) ∧ Below B0 w w' := by
  obtain ⟨oa, oc, rfl⟩ := ho.form
  have HA : Hid (Below w.heap.size w (w.alloc (.cells #[.int .i64 o.kind, .int .i64 o.reg, .int .i64 o.n] 87))) := (Below.refl _ _).alloc (Nat.le_refl _) _
  have HKA : Hid (Blk (w.alloc (.cells #[.int .i64 o.kind, .int .i64 o.reg, .int .i64 o.n] 87)) w.heap.size 87 #[.int .i64 o.kind, .int .i64 o.reg, .int .i64 o.n]) := Blk.new w _ _
  have HK := Lib.hid hk
  have HO := Lib.hid ho
  have HL := Lib.hid hl
  have hma := fun wz => marked_any o wz
  have hbm : bm < w.heap.size := hk.lt
  clear hk ho
  cases hn : hasNum o
  all_goals
    rw [hn] at hma
    have HMA := Lib.hid hma
    clear hma
  · have HM := Lib.hid (show textOf o = markP o by simp [markP, hn])
    have htx := fun wz => text_any o hn wz
    rw [HM.out] at htx
    have HTX := Lib.hid htx
    clear htx
    go_enter Tryz.func91, Tryz.ntmps91
    go_wp2_with (first | (go_at_call 92; refine (HMA.out _).mono ?_; rintro e W1 ⟨rfl, hb⟩; have HB1 := Lib.hid (HA.out.trans (hb.mono HA.out.size)); have c0 : W1.cell? ⟨w.heap.size, 0, none⟩ = some (.int .i64 o.kind) := (hb.cell (p := ⟨w.heap.size, 0, none⟩) HKA.out.lt).trans (HKA.out.cell 0); have c1 : W1.cell? ⟨w.heap.size, 1, none⟩ = some (.int .i64 o.reg) := (hb.cell (p := ⟨w.heap.size, 1, none⟩) HKA.out.lt).trans (HKA.out.cell 1); have c2 : W1.cell? ⟨w.heap.size, 2, none⟩ = some (.int .i64 o.n) := (hb.cell (p := ⟨w.heap.size, 2, none⟩) HKA.out.lt).trans (HKA.out.cell 2); clear hb)
                       | (go_at_call 93; refine (HTX.out _).mono ?_; rintro e WW ⟨rfl, hb⟩; have HBB := Lib.hid (HB1.out.trans (hb.mono HB1.out.size)); have HO1 := Lib.hid (HO.out.stay HBB.out); have HK1 := Lib.hid (HK.out.below HBB.out hbm); have HSZ := Lib.hid (Nat.lt_of_lt_of_le hbm HBB.out.size); obtain ⟨p0, p1⟩ := HK1.out.one; have hbm1 : bm < WW.heap.size := HSZ.out; clear hb)
                       | (at_builtin; refine wpList_append_R _ rfl (.tmp 14) (.tmp 16) 102 rfl (bm + 1) 9 16 elStr NoB (fun j => NoB j ∨ j = WW.heap.size) _ _ ms [markP o] rfl rfl (HO1.out.stay ((Below.refl _ _).alloc (Nat.le_refl _) _)) (slR_one (R := strR) (p := NoB) rfl _) (fun _ h => False.elim h) (fun j hj e => by rcases hj with hj | rfl; exact hj.elim; exact absurd (HO1.out.lt _ e.symm).2 (Nat.lt_irrefl _)) (by have := HL.out; simp; omega) (by have := HL.out; simp; omega) (by have := HSZ.out; simp; omega) ?_; intro v' w' hap; have HAP := Lib.hid hap; obtain ⟨oa', oc', rfl⟩ := hap.1.form; have hkb := HK1.out; have hkn : Blk w' bm 102 #[.slice oa ms.length oc] := (hkb.alloc _).grown hap.2.1 (fun e => by have := (HO1.out.lt bm e.symm).1; omega); obtain ⟨q0, q1⟩ := hkn.one; clear hap))
    go_end0
    obtain ⟨ho2, hg, _⟩ := HAP.out
    have ho3 : Own strR w' (bm + 1) 9 NoB (.slice oa' (ms ++ [markP o]).length oc') (ms ++ [markP o]) := ho2.flat NoB
    have hlt3 := ho3.lt
    rw [List.length_append] at ho3 hlt3
    refine ⟨rfl, ⟨_, hkn.set 0 _, ho3.keep (Keep.setCell (fun k hk => ?_) _)⟩, ?_⟩
    · rcases hk with hk | hk
      · exact hk.elim
      · have := (hlt3 k hk).1
        show k ≠ bm
        omega
    · exact (((HBB.out.mono (Nat.le_trans h0 (Nat.le_of_lt hbm))).alloc (Nat.le_trans h0 (Nat.le_of_lt hbm1)) _).grown hg (by simp; omega) (fun j hj => by have := (HO1.out.lt j hj).1; omega)).setCell (p := ⟨bm, 0, none⟩) h0 _
  · have HM := Lib.hid (show markS o = markP o by simp [markP, hn])
    rw [HM.out] at HMA
    go_enter Tryz.func91, Tryz.ntmps91
    go_wp2_with (first | (go_at_call 92; refine (HMA.out _).mono ?_; rintro e WW ⟨rfl, hb⟩; have HB1 := Lib.hid (HA.out.trans (hb.mono HA.out.size)); have HBB := HB1; have HO1 := Lib.hid (HO.out.stay HB1.out); have HK1 := Lib.hid (HK.out.below HB1.out hbm); have HSZ := Lib.hid (Nat.lt_of_lt_of_le hbm HB1.out.size); obtain ⟨p0, p1⟩ := HK1.out.one; have hbm1 : bm < WW.heap.size := HSZ.out; clear hb)
                       | (at_builtin; refine wpList_append_R _ rfl (.tmp 14) (.tmp 16) 102 rfl (bm + 1) 9 16 elStr NoB (fun j => NoB j ∨ j = WW.heap.size) _ _ ms [markP o] rfl rfl (HO1.out.stay ((Below.refl _ _).alloc (Nat.le_refl _) _)) (slR_one (R := strR) (p := NoB) rfl _) (fun _ h => False.elim h) (fun j hj e => by rcases hj with hj | rfl; exact hj.elim; exact absurd (HO1.out.lt _ e.symm).2 (Nat.lt_irrefl _)) (by have := HL.out; simp; omega) (by have := HL.out; simp; omega) (by have := HSZ.out; simp; omega) ?_; intro v' w' hap; have HAP := Lib.hid hap; obtain ⟨oa', oc', rfl⟩ := hap.1.form; have hkb := HK1.out; have hkn : Blk w' bm 102 #[.slice oa ms.length oc] := (hkb.alloc _).grown hap.2.1 (fun e => by have := (HO1.out.lt bm e.symm).1; omega); obtain ⟨q0, q1⟩ := hkn.one; clear hap))
    go_end0
    obtain ⟨ho2, hg, _⟩ := HAP.out
    have ho3 : Own strR w' (bm + 1) 9 NoB (.slice oa' (ms ++ [markP o]).length oc') (ms ++ [markP o]) := ho2.flat NoB
    have hlt3 := ho3.lt
    rw [List.length_append] at ho3 hlt3
    refine ⟨rfl, ⟨_, hkn.set 0 _, ho3.keep (Keep.setCell (fun k hk => ?_) _)⟩, ?_⟩
    · rcases hk with hk | hk
      · exact hk.elim
      · have := (hlt3 k hk).1
        show k ≠ bm
        omega
    · exact (((HBB.out.mono (Nat.le_trans h0 (Nat.le_of_lt hbm))).alloc (Nat.le_trans h0 (Nat.le_of_lt hbm1)) _).grown hg (by simp; omega) (fun j hj => by have := (HO1.out.lt j hj).1; omega)).setCell (p := ⟨bm, 0, none⟩) h0 _
end Go.Proofs.YtlepicdjnbbndaaGreatDoor

/-
  PLAIN: the program's way to join the marks is the reference's way.
-/
namespace Go.Proofs.YtlepicdjnbbndaaGreatDoor
open Go.RowKit

theorem regs_noSpace (k : Int) : ∀ s ∈ regsL k, ∀ b ∈ s.data.toList, b ≠ 32 := by
  by_cases h1 : k = 1
  · subst h1; decide +kernel
  by_cases h2 : k = 2
  · subst h2; decide +kernel
  by_cases h3 : k = 3
  · subst h3; decide +kernel
  by_cases h4 : k = 4
  · subst h4; decide +kernel
  by_cases h5 : k = 5
  · subst h5; decide +kernel
  by_cases h8 : k = 8
  · subst h8; decide +kernel
  by_cases h9 : k = 9
  · subst h9; decide +kernel
  simp [regsL, h1, h2, h3, h4, h5, h8, h9]
theorem nameOf_noSpace (k r : Int) : ∀ b ∈ (nameOf k r).data.toList, b ≠ 32 := by
  unfold nameOf nameL
  split
  · simp
  · cases h : (regsL k)[r.toNat]? with
    | none => simp
    | some s => exact regs_noSpace k s (List.mem_of_getElem? h)
theorem mark07_noSpace (o : Opd) : ∀ b ∈ (mark07 o).data.toList, b ≠ 32 := by
  unfold mark07
  repeat' split
  all_goals first | decide | skip
  unfold regText06
  split
  · exact nameOf_noSpace _ _
  · simp
theorem nameOf_ne {k r n : Int} (hk : k ≠ 6 ∧ k ≠ 7 ∧ k ≠ 10) (h : validOpd ⟨k, r, n⟩ = true) : (nameOf k r).data.toList ≠ [] := by
  intro e
  have e2 : ((nameOf k r).toList == []) = true := by rw [Go.ByteArray.toList_eq, e]; rfl
  obtain ⟨h6, h7, h10⟩ := hk
  by_cases h5 : k = 5
  · subst h5
    simp only [validOpd, e2] at h
    exact absurd h (by simp)
  · simp [validOpd, h5, h6, h7, h10, e2] at h
theorem mark07_ne {o : Opd} (h : validOpd o = true) : (mark07 o).data.toList ≠ [] := by
  obtain ⟨k, r, n⟩ := o
  by_cases h5 : k = 5
  · subst h5; unfold mark07; simp only [beq_self_eq_true, if_true]; split <;> decide
  by_cases h6 : k = 6
  · subst h6; exact (show ([110] : List UInt8) ≠ [] by decide)
  by_cases h7 : k = 7
  · subst h7; exact (show ([40, 110, 41] : List UInt8) ≠ [] by decide)
  by_cases h10 : k = 10
  · subst h10; exact (show ([101] : List UInt8) ≠ [] by decide)
  have e : mark07 ⟨k, r, n⟩ = nameOf k r := by simp [mark07, regText06, h5, h6, h7, h10, h]
  rw [e]
  exact nameOf_ne ⟨h6, h7, h10⟩ h

/-- what instr.Shape writes: the name, a space, the marks with commas, less a space at the end -/
def shapeL (s : ByteArray) (ms : List ByteArray) : List UInt8 := Lib.trimSuffix (s.data.toList ++ [32] ++ Lib.join (ms.map (·.data.toList)) [44]) [32]
theorem trim_no {l m : List UInt8} (hm : m ≠ []) (h : ∀ b ∈ m, b ≠ 32) : Lib.trimSuffix (l ++ m) [32] = l ++ m := by
  unfold Lib.trimSuffix
  rw [if_neg]
  intro hs
  have hs2 : [32] <:+ l ++ m := List.isSuffixOf_iff_suffix.1 hs
  obtain ⟨t, ht⟩ := hs2
  rcases List.eq_nil_or_concat m with rfl | ⟨m', x, rfl⟩
  · exact hm rfl
  · have e1 : (t ++ [32]).getLast? = (l ++ (m' ++ [x])).getLast? := by rw [ht, List.concat_eq_append]
    rw [← List.append_assoc] at e1
    simp at e1
    exact h x (by simp) e1.symm
theorem trim_yes (l : List UInt8) : Lib.trimSuffix (l ++ [32]) [32] = l := by
  unfold Lib.trimSuffix
  rw [if_pos (show Lib.hasSuffix (l ++ [32]) [32] = true from List.isSuffixOf_iff_suffix.2 ⟨l, rfl⟩)]
  simp
theorem data_app (a b : ByteArray) : (a ++ b).data.toList = a.data.toList ++ b.data.toList := by simp
theorem shape_eq (s : ByteArray) (l : List Opd) (hl : l.length ≤ 3) (hv : ∀ y ∈ l, validOpd y = true) : shapeL s (l.map markP) = (shapeUpto s l l.length).data.toList := by
  have hm : ∀ y ∈ l, markP y = mark07 y := fun y hy => mark_eq y (hv y hy)
  rw [List.map_congr_left hm]
  unfold shapeL
  match l, hl with
  | [], _ => simp only [List.map, Lib.join_nil, List.append_nil, trim_yes, List.length, shapeUpto]
  | [a], _ =>
    simp only [List.map, Lib.join_one, trim_no (mark07_ne (hv a (by simp))) (mark07_noSpace a), List.length, shapeUpto, data_app]
    rfl
  | [a, b], _ =>
    have e : Lib.join ([a, b].map mark07 |>.map (·.data.toList)) [44] = (mark07 a).data.toList ++ [44] ++ (mark07 b).data.toList := by simp [Lib.join, List.intercalate]
    rw [e, ← List.append_assoc, trim_no (mark07_ne (hv b (by simp))) (mark07_noSpace b)]
    simp [shapeUpto, sepAt]
  | [a, b, c], _ =>
    have e : Lib.join ([a, b, c].map mark07 |>.map (·.data.toList)) [44] = (mark07 a).data.toList ++ [44] ++ (mark07 b).data.toList ++ [44] ++ (mark07 c).data.toList := by simp [Lib.join, List.intercalate]
    rw [e, ← List.append_assoc, trim_no (mark07_ne (hv c (by simp))) (mark07_noSpace c)]
    simp [shapeUpto, sepAt]
end Go.Proofs.YtlepicdjnbbndaaGreatDoor


/-
  The references' upper-case; breadboardref07.Upper; instr.Known; Go's comparison of lists of strings. Conditions: sizes.
-/
namespace Go.Proofs.YtlepicdjnbbndaaGreatDoor
open Go.RowKit




end Go.Proofs.YtlepicdjnbbndaaGreatDoor

/-
  strings.Join on a list of strings; instr.Shape.
-/
namespace Go.Proofs.YtlepicdjnbbndaaGreatDoor
open Go.RowKit

def joinL (l : List ByteArray) (sep : ByteArray) : List UInt8 := Lib.join (l.map (·.data.toList)) sep.data.toList
theorem join_any (p : Blocks) (v : Value) (l : List ByteArray) (sep : ByteArray) (w : World) (h : SlR strR w p v l) (hN : l.length ≤ 140737488355328) (hlen : (joinL l sep).length ≤ 140737488355328) :
    Calls Tryz.prog 95 #[v, .string sep] w fun e w' => (∃ j : ByteArray, e = .returned (.string j) ∧ j.data.toList = joinL l sep) ∧ Below w.heap.size w w' := by
  obtain ⟨a, c, rfl, hc, _, g⟩ := h.str
  cases l with
  | nil =>
    refine (Tryz.strings_Join_none a c sep w).mono ?_
    rintro e w' ⟨rfl, rfl⟩
    exact ⟨⟨_, rfl, by simp [joinL, Lib.join_nil]⟩, Below.refl _ _⟩
  | cons x xs =>
    obtain ⟨b, o, rfl, _, hx⟩ := g 0 x rfl
    refine (Tryz.strings_Join b o c (x :: xs) sep w (fun j y hy => ?_) (World.block_lt_of_cell? _ _ hx) hN hc hlen).mono ?_
    · obtain ⟨b', o', e, _, hy'⟩ := g j y hy
      injection e with e
      injection e with e1 e2
      subst e1 e2
      exact hy'
    · rintro e w' ⟨rfl, hb⟩
      exact ⟨⟨_, rfl, rfl⟩, hb⟩

theorem markP_size {o : Opd} (h : validOpd o = true) : (markP o).size ≤ 6 := by rw [mark_eq o h]; exact mark07_size o
theorem joinL_size (l : List ByteArray) (h : ∀ s ∈ l, s.size ≤ 6) (hl : l.length ≤ 3) : (joinL l ⟨#[44]⟩).length ≤ 20 := by
  have hs : ∀ s ∈ l, s.data.toList.length ≤ 6 := fun s hs => by have := h s hs; simpa using this
  match l, hl with
  | [], _ => simp [joinL, Lib.join_nil]
  | [a], _ => have := hs a (by simp); simp only [joinL, List.map, Lib.join_one]; omega
  | [a, b], _ =>
    have h1 := hs a (by simp)
    have h2 := hs b (by simp)
    simp [joinL, Lib.join, List.intercalate] at h1 h2 ⊢; omega
  | [a, b, c], _ =>
    have h1 := hs a (by simp)
    have h2 := hs b (by simp)
    have h3 := hs c (by simp)
    simp [joinL, Lib.join, List.intercalate] at h1 h2 h3 ⊢; omega

theorem size_of_join {j : ByteArray} {l : List UInt8} (h : j.data.toList = l) (hl : l.length ≤ 20) : j.size ≤ 20 := by rw [← h] at hl; simpa using hl
theorem size_le_max {s j : ByteArray} (h1 : s.size ≤ 4) (h2 : j.size ≤ 20) : (s ++ ⟨#[32]⟩ ++ j).size ≤ 9223372036854775807 := by
  rw [ByteArray.size_append, ByteArray.size_append]; show s.size + 1 + j.size ≤ _; omega
theorem cat_le_max {s j : ByteArray} (h1 : s.size ≤ 4) (h2 : j.size ≤ 20) : (s ++ ⟨#[32]⟩).size + j.size ≤ 9223372036854775807 := by
  rw [ByteArray.size_append]; show s.size + 1 + j.size ≤ _; omega
/-- What stands while the marks are gathered. -/
structure ShH (w0 : World) (x : Ins) (b0 bm : Nat) (va vm : Value) (k : Nat) (w : World) : Prop where
  below : Below w0.heap.size w0 w
  lt : w0.heap.size ≤ bm
  sx : SlR opdR w (fun b => b < bm) va x.args
  blk : Blk w b0 25 #[.string x.op, va]
  lt0 : b0 < bm
  mks : Blk w bm 102 #[vm]
  own : Own strR w (bm + 1) 9 NoB vm ((x.args.take k).map markP)

theorem ShH.step {w0 w w' : World} {x : Ins} {b0 bm k : Nat} {va vm v' : Value} (h : ShH w0 x b0 bm va vm k w) (hk : k < x.args.length) (hb : Below bm w w') (hm : Blk w' bm 102 #[v'])
    (ho : Own strR w' (bm + 1) 9 NoB v' ((x.args.take k).map markP ++ [markP x.args[k]])) : ShH w0 x b0 bm va v' (k + 1) w' :=
  ⟨h.below.trans (hb.mono h.lt), h.lt, h.sx.keep (Keep.of_below hb fun _ hk => hk), h.blk.below hb h.lt0, h.lt0, hm, by
    rw [List.take_succ_eq_append_getElem hk, List.map_append]; exact ho⟩
theorem ShH.drew {w0 w : World} {x : Ins} {b0 bm k : Nat} {va vm : Value} (h : ShH w0 x b0 bm va vm k w) : ShH w0 x b0 bm va vm k w.drew :=
  ⟨⟨h.below.os, h.below.tape, h.below.output, h.below.size, h.below.block⟩, h.lt, h.sx.drew, h.blk, h.lt0, h.mks, h.own.keep fun _ _ => rfl⟩

set_option maxHeartbeats 2000000 in
theorem shape_any (p : Blocks) (x : Ins) (v : Value) (w : World) (h : SlR opdR w p v x.args) (hT : Spc w) (hs : x.op.size ≤ maxLen) :
    Calls Tryz.prog 48 #[.agg #[.string x.op, v]] w fun e w' => e = .returned (.string (shape07 x)) ∧ Below w.heap.size w w' := by
  obtain ⟨a, c, rfl, _⟩ := h.opd
  obtain ⟨W, hW⟩ : ∃ W : World, W = w.alloc (.cells #[.string x.op, .slice a x.args.length c] 25) := ⟨_, rfl⟩
  have hbW : Below w.heap.size w W := hW ▸ (Below.refl _ _).alloc (Nat.le_refl _) _
  have k1 : Blk W w.heap.size 25 #[.string x.op, .slice a x.args.length c] := hW ▸ Blk.new w _ _
  have HBW := Lib.hid hbW
  have HK := Lib.hid k1
  have HSL := Lib.hid (h.below hbW)
  have HCH := Lib.hid (check_any _ x _ W HSL.out (hT.below hbW) hs)
  obtain ⟨a0, a1, _, _⟩ := k1.two
  clear h hbW k1 hT hs
  cases hc : (check07 x == 0)
  · have HV := Lib.hid (show shape07 x = ⟨#[]⟩ by simp only [shape07, hc]; rfl)
    have hne : (check07 x != 0) = true := by simpa [bne] using hc
    go_enter Tryz.func48, Tryz.ntmps48
    go_wp2_with fail
    rw [← hW]
    clear hW
    refine HCH.out.mono ?_
    rintro e w1 ⟨rfl, hb⟩
    have HB1 := Lib.hid hb
    clear hb
    go_wp2
    go_ret
    exact ⟨ret_str HV.out.symm, HBW.out.trans (HB1.out.mono HBW.out.size)⟩
  · have hc0 : check07 x = 0 := by simpa using hc
    have HV := Lib.hid (show shape07 x = shapeUpto x.op x.args x.args.length by simp only [shape07, hc]; rfl)
    obtain ⟨hop, hn, hval⟩ := check_zero hc0
    have hsz : x.op.size ≤ 4 := (show ∀ s ∈ opsL, s.size ≤ 4 by decide +kernel) _ (inL_iff.1 hop)
    have HN := Lib.hid hn
    have HVAL := Lib.hid hval
    rw [hc0] at HCH
    clear hc hc0 hop hn hval
    go_enter Tryz.func48, Tryz.ntmps48
    go_wp2_with fail
    rw [← hW]
    clear hW
    refine HCH.out.mono ?_
    rintro e w1 ⟨rfl, hb⟩
    have hl1 := Nat.lt_of_lt_of_le HK.out.lt hb.size
    have H0 : Hid (ShH w x w.heap.size w1.heap.size (.slice a x.args.length c) (.slice none 0 0) 0 (w1.alloc (.cells #[.slice none 0 0] 102))) :=
      ⟨(HBW.out.trans (hb.mono HBW.out.size)).alloc (Nat.le_trans HBW.out.size hb.size) _, Nat.le_trans HBW.out.size hb.size,
       (((HSL.out.below hb).old).mono fun _ hk => hk.2).alloc _, (HK.out.below hb HK.out.lt).alloc _, hl1, Blk.new w1 _ _, Own.nil _ _ _ _ _⟩
    obtain ⟨b0, b1, _, _⟩ := (HK.out.below hb HK.out.lt).two
    clear hb a0 a1
    go_wp2
    go_loopw [14] (fun i wr => ∃ (k : Nat) (vm : Value), k ≤ x.args.length ∧ i = .int .i64 k ∧ ShH w x w.heap.size w1.heap.size (.slice a x.args.length c) vm k wr) (fun i _ => x.args.length - (intOf i).toNat)
    case atStart => exact ⟨0, _, Nat.zero_le _, rfl, H0.out⟩
    case round =>
      obtain ⟨k, vm, hk, rfl, hh⟩ := hrel
      have H := Lib.hid hh
      have hbm : w1.heap.size < wr.heap.size := hh.mks.lt
      obtain ⟨p0, p1⟩ := hh.mks.one
      obtain ⟨a0, a1, _, _⟩ := hh.blk.two
      clear hh
      by_cases hlt : k < x.args.length
      · obtain ⟨ad, cd, hv, _, _, g1⟩ := H.out.sx.opd
        obtain ⟨rfl, _, rfl⟩ : a = ad ∧ x.args.length = x.args.length ∧ c = cd := by injection hv with h1 h2 h3; exact ⟨h1, h2, h3⟩
        obtain ⟨b2, o2, rfl, _, d1, d2, d3⟩ := g1 k x.args[k] (List.getElem?_eq_getElem hlt)
        clear g1 hv
        have HSTEP := fun w' v' => Lib.hid (H.out.step (w' := w') (v' := v') hlt)
        have HMS : Hid (((x.args.take k).map markP).length ≤ 1000) := by have := HN.out; show _ ≤ _; simp; omega
        have HOX := Lib.hid H.out.own
        generalize (x.args.take k).map markP = ms at *
        generalize x.args[k] = y at *
        have HADD := Lib.hid (add_any y w1.heap.size w1.heap.size vm ms (wr.alloc (.cells #[.int .i64 y.kind, .int .i64 y.reg, .int .i64 y.n] 87)) (H.out.mks.alloc _) (HOX.out.stay ((Below.refl _ _).alloc (Nat.le_refl _) _)) (Nat.le_refl _) HMS.out)
        go_wp2_with (go_at_call 91; refine HADD.out.mono ?_; rintro e w3 ⟨rfl, ⟨v3, hk3, ho3⟩, hb⟩; have H3 := (HSTEP w3 v3).out (((Below.refl _ _).alloc (Nat.le_of_lt hbm) _).trans hb) hk3 ho3; have H4 := Lib.hid H3; clear hb hk3 ho3 H3)
        go_roundw
        case rel => exact ⟨k + 1, v3, by omega, by go_num, H4.out⟩
        case measure => simp [intOf]; omega
      · obtain rfl : k = x.args.length := by omega
        have HNS := H.out.own
        rw [List.take_length] at HNS
        have HSLM := Lib.hid ((HNS.slR (q := fun _ => True) (fun _ _ => trivial) (fun _ _ => trivial)).drew)
        have HJN := Lib.hid (joinL_size (x.args.map markP) (fun s hs => by obtain ⟨y, hy, rfl⟩ := List.mem_map.1 hs; exact markP_size (HVAL.out y hy)) (by simpa using HN.out))
        have HJ := Lib.hid (join_any _ _ _ ⟨#[44]⟩ _ HSLM.out (by have := HN.out; simp; omega) (by have := HJN.out; omega))
        clear HNS
        have hcat := fun wz => run_string_add_sum (P := Tryz.prog) wz x.op ⟨#[32]⟩ (by show x.op.size + 1 ≤ _; omega)
        have HBW3 := Lib.hid H.out.below
        have HFIN := Lib.hid (shape_eq x.op x.args HN.out HVAL.out)
        go_wp2
        go_region_held3 (fun w' => w'.cell? ⟨w.heap.size, 0, none⟩ = some (.string x.op) ∧ w'.cell? ⟨w1.heap.size, 0, none⟩ = some vm) (go_keep)
          (first | (go_at_call 95; refine HJ.out.mono ?_; rintro e w3 ⟨⟨j, rfl, hj⟩, hb⟩; have HB3 := Lib.hid hb; have HJ3 := Lib.hid hj; have f0 : w3.cell? ⟨w.heap.size, 0, none⟩ = some (.string x.op) := (hb.cell (p := ⟨w.heap.size, 0, none⟩) (Nat.lt_trans hl1 hbm)).trans a0; have f1 : w3.cell? ⟨w1.heap.size, 0, none⟩ = some vm := (hb.cell (p := ⟨w1.heap.size, 0, none⟩) hbm).trans p0; have hjs : j.size ≤ 20 := size_of_join hj HJN.out; have hcat2 := (fun wz => run_string_add_sum (P := Tryz.prog) wz (x.op ++ ⟨#[32]⟩) j (cat_le_max hsz hjs)); clear hb hj)
                 | (go_at_call 94; refine (Tryz.strings_TrimSuffix _ _ _ (size_le_max hsz hjs)).mono ?_; rintro e w4 ⟨rfl, rfl⟩))
        go_wp2
        go_ret
        refine ⟨ret_str ?_, HBW3.out.drew.trans (HB3.out.mono HBW3.out.size)⟩
        rw [HV.out]
        apply toList_inj
        rw [Go.ByteArray.toList_eq, Go.ByteArray.toList_eq]
        show Lib.trimSuffix _ _ = _
        rw [HJ3.out, ← HFIN.out]
        simp [shapeL, joinL]
end Go.Proofs.YtlepicdjnbbndaaGreatDoor
