/-
  The width of an instruction: the reference's. Conditions: none.
-/
import Derived.Test.YtkkjoghfdmmpaaaDoorMake
namespace Go.Proofs.YtkkjoghfdmmpaaaDoor
open Go.RowKit

/-- The strings of a literal slice. -/
theorem slR_strs (w : World) (e : TypeId) (p : Blocks) (l : List ByteArray) (b : Nat) (hb : b = w.heap.size) (hp : p b) (hl : l.length ≤ maxLen) : SlR strR (w.alloc (.cells (l.map Value.string).toArray e)) p (.slice (some ⟨b, 0, none⟩) l.length l.length) l := by
  subst hb
  refine ⟨_, l.length, rfl, Nat.le_refl _, hl, fun i x hx => ⟨_, _, [.string x], rfl, hp, by simp, fun j u hu => ?_, rfl⟩⟩
  cases j with
  | succ j => simp at hu
  | zero =>
    simp at hu
    subst hu
    rw [World.cell?_alloc_at _ _ _ _ rfl]
    simp [strR, Rep.flat, hx]

def bs (l : List UInt8) : ByteArray := ⟨l.toArray⟩
/-- BIT RES SET IM RST OUT -/
def wZero : List ByteArray := [⟨#[66, 73, 84]⟩, ⟨#[82, 69, 83]⟩, ⟨#[83, 69, 84]⟩, ⟨#[73, 77]⟩, ⟨#[82, 83, 84]⟩, ⟨#[79, 85, 84]⟩]
def head3 (l : List Opd) : Bool := match l with | a :: _ => a.kind == 3 | [] => false
def width (x : Ins) : Int :=
  if inL wZero x.op then 0 else if (x.op.toList == [74, 80]) || (x.op.toList == [67, 65, 76, 76]) || ((x.op.toList == [76, 68]) && head3 x.args) then 2 else 1

set_option maxHeartbeats 400000 in
theorem ref08Width_any (p : Blocks) (x : Ins) (v : Value) (w : World) (h : SlR opdR w p v x.args) :
    Calls Tryd.prog 30 #[.agg #[.string x.op, v]] w fun e w' => e = .returned (.int .i64 (width x)) ∧ Below w.heap.size w w' := by
  obtain ⟨s, l⟩ := x
  dsimp only at h
  obtain ⟨a, c, rfl, hc, hm, g⟩ := h.opd
  clear h
  have HF : Hid (∀ (wx : World) (b : Nat), b = wx.heap.size → SlR strR (World.alloc wx (.cells #[.string ⟨#[66, 73, 84]⟩, .string ⟨#[82, 69, 83]⟩, .string ⟨#[83, 69, 84]⟩, .string ⟨#[73, 77]⟩, .string ⟨#[82, 83, 84]⟩, .string ⟨#[79, 85, 84]⟩] 9)) (fun _ => True) (.slice (some ⟨b, 0, none⟩) 6 6) wZero) :=
    fun wx b hb => slR_strs wx 9 (fun _ => True) wZero b hb trivial (by simp [wZero, maxLen])
  have HB : ∀ A B : Obj, Below w.heap.size w ((w.alloc A).alloc B) := fun A B => ((Below.refl _ _).alloc (Nat.le_refl _) _).alloc (by simp) _
  cases hz : inL wZero s
  · cases h1 : (s.toList == [74, 80])
    · cases h2 : (s.toList == [67, 65, 76, 76])
      · cases h3 : (s.toList == [76, 68])
        · clear g
          have HV := Lib.hid (show width ⟨s, l⟩ = 1 by simp [width, hz, h1, h2, h3])
          go_enter Tryd.func30, Tryd.ntmps30
          go_wp2_with (go_at_call 76; refine (in08_any _ _ wZero _ _ (HF.out _ _ (by simp))).mono ?_; rintro e w' ⟨rfl, rfl⟩)
          go_ret
          exact ⟨ret_int HV.out.symm, HB _ _⟩
        · cases l with
          | nil =>
            clear g
            have HV := Lib.hid (show width ⟨s, []⟩ = 1 by simp [width, hz, h1, h2, h3, head3])
            go_enter Tryd.func30, Tryd.ntmps30
            go_wp2_with (go_at_call 76; refine (in08_any _ _ wZero _ _ (HF.out _ _ (by simp))).mono ?_; rintro e w' ⟨rfl, rfl⟩)
            go_ret
            exact ⟨ret_int HV.out.symm, HB _ _⟩
          | cons x l =>
            obtain ⟨b, o, rfl, _, d1, d2, d3⟩ := g 0 x rfl
            clear g
            simp only [Nat.zero_mul, Nat.add_zero] at d1
            clear d2 d3
            have hbl : b < w.heap.size := World.block_lt_of_cell? w _ d1
            have hk0 : (0 : Int) < ((x :: l).length : Int) := by simp
            have hk1 : 0 < (x :: l).length := by simp
            cases h4 : (x.kind == 3)
            · have HV := Lib.hid (show width ⟨s, x :: l⟩ = 1 by simp [width, hz, h1, h2, h3, head3, h4])
              generalize (x :: l).length = n at *
              go_enter Tryd.func30, Tryd.ntmps30
              go_wp2_with (go_at_call 76; refine (in08_any _ _ wZero _ _ (HF.out _ _ (by simp))).mono ?_; rintro e w' ⟨rfl, rfl⟩)
              go_ret
              exact ⟨ret_int HV.out.symm, HB _ _⟩
            · have HV := Lib.hid (show width ⟨s, x :: l⟩ = 2 by simp [width, hz, h1, h2, h3, head3, h4])
              generalize (x :: l).length = n at *
              go_enter Tryd.func30, Tryd.ntmps30
              go_wp2_with (go_at_call 76; refine (in08_any _ _ wZero _ _ (HF.out _ _ (by simp))).mono ?_; rintro e w' ⟨rfl, rfl⟩)
              go_ret
              exact ⟨ret_int HV.out.symm, HB _ _⟩
      · clear g
        have HV := Lib.hid (show width ⟨s, l⟩ = 2 by simp [width, hz, h1, h2])
        go_enter Tryd.func30, Tryd.ntmps30
        go_wp2_with (go_at_call 76; refine (in08_any _ _ wZero _ _ (HF.out _ _ (by simp))).mono ?_; rintro e w' ⟨rfl, rfl⟩)
        go_ret
        exact ⟨ret_int HV.out.symm, HB _ _⟩
    · clear g
      have HV := Lib.hid (show width ⟨s, l⟩ = 2 by simp [width, hz, h1])
      go_enter Tryd.func30, Tryd.ntmps30
      go_wp2_with (go_at_call 76; refine (in08_any _ _ wZero _ _ (HF.out _ _ (by simp))).mono ?_; rintro e w' ⟨rfl, rfl⟩)
      go_ret
      exact ⟨ret_int HV.out.symm, HB _ _⟩
  · clear g
    have HV := Lib.hid (show width ⟨s, l⟩ = 0 by simp [width, hz])
    go_enter Tryd.func30, Tryd.ntmps30
    go_wp2_with (go_at_call 76; refine (in08_any _ _ wZero _ _ (HF.out _ _ (by simp))).mono ?_; rintro e w' ⟨rfl, rfl⟩)
    go_ret
    exact ⟨ret_int HV.out.symm, HB _ _⟩
end Go.Proofs.YtkkjoghfdmmpaaaDoor
