/-
  WHICH OPERANDS HAVE A NUMBER: instr.marked, the reference's number; instr.Numbers.
-/
import Derived.Test.YtkkjoghfdmmpaaaDoorText1
namespace Go.Proofs.YtkkjoghfdmmpaaaDoor
open Go.RowKit

def hasNum (o : Opd) : Bool := o.kind == 5 || o.kind == 6 || o.kind == 7 || o.kind == 10
def idxText (r : Int) : ByteArray := ⟨#[40]⟩ ++ regText ⟨3, r, 0⟩ ++ ⟨#[43, 100, 41]⟩
def markS (o : Opd) : ByteArray := if o.kind == 5 then idxText o.reg else if o.kind == 6 then ⟨#[110]⟩ else if o.kind == 7 then ⟨#[40, 110, 41]⟩ else if o.kind == 10 then ⟨#[101]⟩ else ⟨#[]⟩
theorem form3 : (kindD 3).form = 159 := rfl

theorem names_size (k : Int) : ∀ s ∈ (kindD k).names, s.size ≤ 3 := by
  by_cases h1 : k = 1
  · subst h1; decide +kernel
  by_cases h2 : k = 2
  · subst h2; decide +kernel
  by_cases h3 : k = 3
  · subst h3; decide +kernel
  by_cases h4 : k = 4
  · subst h4; decide +kernel
  by_cases h5 : k = 5
  · subst h5; decide +kernel
  by_cases h6 : k = 6
  · subst h6; decide +kernel
  by_cases h7 : k = 7
  · subst h7; decide +kernel
  by_cases h8 : k = 8
  · subst h8; decide +kernel
  by_cases h9 : k = 9
  · subst h9; decide +kernel
  by_cases h10 : k = 10
  · subst h10; decide +kernel
  simp [kindD, h1, h2, h3, h4, h5, h6, h7, h8, h9, h10]
theorem nm_size (k : Int) (i : Nat) : ((kindD k).nm i).size ≤ 3 := by
  unfold KindD.nm
  cases h : (kindD k).names[i]? with
  | none => decide
  | some s => exact names_size k s (List.mem_of_getElem? h)
theorem regText_size (o : Opd) : (regText o).size ≤ 3 := by
  unfold regText
  split
  · exact nm_size _ _
  · decide

set_option maxHeartbeats 1000000 in
theorem number_any (o : Opd) (w : World) : Calls Tryd.prog 105 #[.agg #[.int .i64 o.kind, .int .i64 o.reg, .int .i64 o.n]] w fun e w' => e = .returned (.bool (hasNum o)) ∧ Below w.heap.size w w' := by
  have HB0 : Hid (Below w.heap.size w (w.alloc (.cells #[.int .i64 o.kind, .int .i64 o.reg, .int .i64 o.n] 47))) := (Below.refl _ _).alloc (Nat.le_refl _) _
  obtain ⟨k, r, n⟩ := o
  dsimp only at *
  cases h5 : (k == 5)
  · cases h6 : (k == 6)
    · cases h7 : (k == 7)
      · have HV := Lib.hid (show hasNum ⟨k, r, n⟩ = (k == 10) by simp only [hasNum, h5, h6, h7]; rfl)
        go_enter Tryd.func105, Tryd.ntmps105
        go_wp2
        go_ret
        exact ⟨ret_bool HV.out.symm, HB0.out⟩
      · have HV := Lib.hid (show hasNum ⟨k, r, n⟩ = true by simp only [hasNum, h5, h6, h7]; rfl)
        go_enter Tryd.func105, Tryd.ntmps105
        go_wp2
        go_ret
        exact ⟨ret_bool HV.out.symm, HB0.out⟩
    · have HV := Lib.hid (show hasNum ⟨k, r, n⟩ = true by simp only [hasNum, h5, h6]; rfl)
      go_enter Tryd.func105, Tryd.ntmps105
      go_wp2
      go_ret
      exact ⟨ret_bool HV.out.symm, HB0.out⟩
  · have HV := Lib.hid (show hasNum ⟨k, r, n⟩ = true by simp only [hasNum, h5]; rfl)
    go_enter Tryd.func105, Tryd.ntmps105
    go_wp2
    go_ret
    exact ⟨ret_bool HV.out.symm, HB0.out⟩

set_option maxHeartbeats 1000000 in
theorem marked_any (o : Opd) (w : World) : Calls Tryd.prog 101 #[.agg #[.int .i64 o.kind, .int .i64 o.reg, .int .i64 o.n]] w fun e w' => e = .returned (.tuple #[.string (markS o), .bool (hasNum o)]) ∧ Below w.heap.size w w' := by
  have HB0 : Hid (Below w.heap.size w (w.alloc (.cells #[.int .i64 o.kind, .int .i64 o.reg, .int .i64 o.n] 47))) := (Below.refl _ _).alloc (Nat.le_refl _) _
  obtain ⟨k, r, n⟩ := o
  dsimp only at *
  cases h5 : (k == 5)
  · cases h6 : (k == 6)
    · cases h7 : (k == 7)
      · cases h10 : (k == 10)
        all_goals
          have HV := Lib.hid (show hasNum ⟨k, r, n⟩ = _ by simp only [hasNum, h5, h6, h7, h10]; rfl)
          have HM := Lib.hid (show markS ⟨k, r, n⟩ = _ by simp only [markS, h5, h6, h7, h10]; rfl)
          go_enter Tryd.func101, Tryd.ntmps101
          go_wp2
          go_ret2
          exact ⟨by rw [HV.out, HM.out] <;> rfl, HB0.out⟩
      · have HV := Lib.hid (show hasNum ⟨k, r, n⟩ = true by simp only [hasNum, h5, h6, h7]; rfl)
        have HM := Lib.hid (show markS ⟨k, r, n⟩ = ⟨#[40, 110, 41]⟩ by simp only [markS, h5, h6, h7]; rfl)
        go_enter Tryd.func101, Tryd.ntmps101
        go_wp2
        go_ret2
        exact ⟨by rw [HV.out, HM.out] <;> rfl, HB0.out⟩
    · have HV := Lib.hid (show hasNum ⟨k, r, n⟩ = true by simp only [hasNum, h5, h6]; rfl)
      have HM := Lib.hid (show markS ⟨k, r, n⟩ = ⟨#[110]⟩ by simp only [markS, h5, h6]; rfl)
      go_enter Tryd.func101, Tryd.ntmps101
      go_wp2
      go_ret2
      exact ⟨by rw [HV.out, HM.out] <;> rfl, HB0.out⟩
  · have HV := Lib.hid (show hasNum ⟨k, r, n⟩ = true by simp only [hasNum, h5]; rfl)
    have HM := Lib.hid (show markS ⟨k, r, n⟩ = idxText r by simp only [markS, h5]; rfl)
    have hsz := regText_size ⟨3, r, 0⟩
    have HTX := Lib.hid (fun wx => text_plain ⟨3, r, 0⟩ form3 wx)
    go_enter Tryd.func101, Tryd.ntmps101
    go_wp2_with (go_at_call 102; refine (HTX.out _).mono ?_; rintro e w1 ⟨rfl, hb⟩; have HB := Lib.hid (HB0.out.trans (hb.mono HB0.out.size)); clear hb)
    go_ret2
    exact ⟨by rw [HV.out, HM.out] <;> rfl, HB.out⟩
end Go.Proofs.YtkkjoghfdmmpaaaDoor
