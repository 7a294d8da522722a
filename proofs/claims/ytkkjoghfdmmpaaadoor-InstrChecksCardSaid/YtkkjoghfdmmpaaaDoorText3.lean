/-
  THE MARK OF AN OPERAND, the reference's: a name, or a letter for the number.
-/
import Derived.Test.YtkkjoghfdmmpaaaDoorEqInt
namespace Go.Proofs.YtkkjoghfdmmpaaaDoor
open Go.RowKit

/-- the reference's text of an operand without a number -/
def regText06 (o : Opd) : ByteArray := if validOpd o then nameOf o.kind o.reg else ⟨#[]⟩
set_option maxHeartbeats 2000000 in
theorem text06_reg (o : Opd) (h : hasNum o = false) (w : World) : Calls Tryd.prog 130 #[.agg #[.int .i64 o.kind, .int .i64 o.reg, .int .i64 o.n]] w fun e w' => e = .returned (.string (regText06 o)) ∧ Below w.heap.size w w' := by
  have HB0 : Hid (Below w.heap.size w (w.alloc (.cells #[.int .i64 o.kind, .int .i64 o.reg, .int .i64 o.n] 47))) := (Below.refl _ _).alloc (Nat.le_refl _) _
  have HK : Hid (Blk (w.alloc (.cells #[.int .i64 o.kind, .int .i64 o.reg, .int .i64 o.n] 47)) w.heap.size 47 #[.int .i64 o.kind, .int .i64 o.reg, .int .i64 o.n]) := Blk.new w _ _
  simp only [hasNum, Bool.or_eq_false_iff] at h
  obtain ⟨⟨⟨h5, h6⟩, h7⟩, h10⟩ := h
  have hva := fun wz => valid06_any o wz
  cases hv : validOpd o
  all_goals
    rw [hv] at hva
    have HVA := Lib.hid hva
    clear hva
  · have HV := Lib.hid (show regText06 o = ⟨#[]⟩ by simp [regText06, hv])
    go_enter Tryd.func130, Tryd.ntmps130
    go_wp2_with (go_at_call 84; refine (HVA.out _).mono ?_; rintro e w1 ⟨rfl, hb⟩; have HB := Lib.hid (HB0.out.trans (hb.mono HB0.out.size)); clear hb)
    go_ret
    exact ⟨ret_str HV.out.symm, HB.out⟩
  · have HV := Lib.hid (show regText06 o = nameOf o.kind o.reg by simp [regText06, hv])
    go_enter Tryd.func130, Tryd.ntmps130
    go_wp2_with (first | (go_at_call 84; refine (HVA.out _).mono ?_; rintro e w1 ⟨rfl, hb⟩; have HB := Lib.hid (HB0.out.trans (hb.mono HB0.out.size)); have c0 : w1.cell? ⟨w.heap.size, 0, none⟩ = some (.int .i64 o.kind) := (hb.cell (p := ⟨w.heap.size, 0, none⟩) HK.out.lt).trans (HK.out.cell 0); have c1 : w1.cell? ⟨w.heap.size, 1, none⟩ = some (.int .i64 o.reg) := (hb.cell (p := ⟨w.heap.size, 1, none⟩) HK.out.lt).trans (HK.out.cell 1); clear hb)
                       | (go_at_call 120; refine (name_any _ _ _).mono ?_; rintro e w2 ⟨rfl, hb⟩; have HB2 := Lib.hid (HB.out.trans (hb.mono HB.out.size)); clear hb))
    go_ret
    exact ⟨ret_str HV.out.symm, HB2.out⟩

/-- the reference's mark -/
def mark07 (o : Opd) : ByteArray :=
  if o.kind == 5 then (if o.reg == 5 then ⟨#[40, 73, 88, 43, 100, 41]⟩ else ⟨#[40, 73, 89, 43, 100, 41]⟩) else if o.kind == 6 then ⟨#[110]⟩ else if o.kind == 7 then ⟨#[40, 110, 41]⟩ else if o.kind == 10 then ⟨#[101]⟩ else regText06 o
set_option maxHeartbeats 2000000 in
theorem mark07_any (o : Opd) (w : World) : Calls Tryd.prog 104 #[.agg #[.int .i64 o.kind, .int .i64 o.reg, .int .i64 o.n]] w fun e w' => e = .returned (.string (mark07 o)) ∧ Below w.heap.size w w' := by
  have HB0 : Hid (Below w.heap.size w (w.alloc (.cells #[.int .i64 o.kind, .int .i64 o.reg, .int .i64 o.n] 47))) := (Below.refl _ _).alloc (Nat.le_refl _) _
  cases h5 : (o.kind == 5)
  · cases h6 : (o.kind == 6)
    · cases h7 : (o.kind == 7)
      · cases h10 : (o.kind == 10)
        · have HV := Lib.hid (show mark07 o = regText06 o by simp only [mark07, h5, h6, h7, h10]; rfl)
          have HT := Lib.hid (fun wz => text06_reg o (by simp only [hasNum, h5, h6, h7, h10]; rfl) wz)
          go_enter Tryd.func104, Tryd.ntmps104
          go_wp2_with (go_at_call 130; refine (HT.out _).mono ?_; rintro e w1 ⟨rfl, hb⟩; have HB := Lib.hid (HB0.out.trans (hb.mono HB0.out.size)); clear hb)
          go_ret
          exact ⟨ret_str HV.out.symm, HB.out⟩
        · have HV := Lib.hid (show mark07 o = ⟨#[101]⟩ by simp only [mark07, h5, h6, h7, h10]; rfl)
          go_enter Tryd.func104, Tryd.ntmps104
          go_wp2
          go_ret
          exact ⟨ret_str HV.out.symm, HB0.out⟩
      · have HV := Lib.hid (show mark07 o = ⟨#[40, 110, 41]⟩ by simp only [mark07, h5, h6, h7]; rfl)
        go_enter Tryd.func104, Tryd.ntmps104
        go_wp2
        go_ret
        exact ⟨ret_str HV.out.symm, HB0.out⟩
    · have HV := Lib.hid (show mark07 o = ⟨#[110]⟩ by simp only [mark07, h5, h6]; rfl)
      go_enter Tryd.func104, Tryd.ntmps104
      go_wp2
      go_ret
      exact ⟨ret_str HV.out.symm, HB0.out⟩
  · cases hr : (o.reg == 5)
    all_goals
      have HV := Lib.hid (show mark07 o = _ by simp only [mark07, h5, hr]; rfl)
      go_enter Tryd.func104, Tryd.ntmps104
      go_wp2
      go_ret
      exact ⟨ret_str HV.out.symm, HB0.out⟩
end Go.Proofs.YtkkjoghfdmmpaaaDoor
