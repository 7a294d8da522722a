/-
  WHICH OPERANDS ARE VALID: the reference's tables of registers, a register's name, and Valid.
-/
import Derived.Test.YtkkjoghfdmmpaaaDoorWidth
namespace Go.Proofs.YtkkjoghfdmmpaaaDoor
open Go.RowKit

def regsL (k : Int) : List ByteArray :=
  if k == 1 then [⟨#[66]⟩, ⟨#[67]⟩, ⟨#[68]⟩, ⟨#[69]⟩, ⟨#[72]⟩, ⟨#[76]⟩, ⟨#[]⟩, ⟨#[65]⟩] else if k == 2 then [⟨#[73, 88, 72]⟩, ⟨#[73, 88, 76]⟩, ⟨#[73, 89, 72]⟩, ⟨#[73, 89, 76]⟩] else if k == 3 then [⟨#[66, 67]⟩, ⟨#[68, 69]⟩, ⟨#[72, 76]⟩, ⟨#[83, 80]⟩, ⟨#[65, 70]⟩, ⟨#[73, 88]⟩, ⟨#[73, 89]⟩, ⟨#[65, 70, 39]⟩] else if k == 4 then [⟨#[40, 66, 67, 41]⟩, ⟨#[40, 68, 69, 41]⟩, ⟨#[40, 72, 76, 41]⟩, ⟨#[40, 83, 80, 41]⟩, ⟨#[]⟩, ⟨#[40, 73, 88, 41]⟩, ⟨#[40, 73, 89, 41]⟩, ⟨#[]⟩, ⟨#[40, 67, 41]⟩] else if k == 5 then [⟨#[]⟩, ⟨#[]⟩, ⟨#[]⟩, ⟨#[]⟩, ⟨#[]⟩, ⟨#[73, 88]⟩, ⟨#[73, 89]⟩] else if k == 8 then [⟨#[78, 90]⟩, ⟨#[90]⟩, ⟨#[78, 67]⟩, ⟨#[67]⟩, ⟨#[80, 79]⟩, ⟨#[80, 69]⟩, ⟨#[80]⟩, ⟨#[77]⟩] else if k == 9 then [⟨#[73]⟩, ⟨#[82]⟩] else []

theorem regs_none (k : Int) (h1 : (k == 1) = false) (h2 : (k == 2) = false) (h3 : (k == 3) = false) (h4 : (k == 4) = false) (h5 : (k == 5) = false) (h8 : (k == 8) = false) (h9 : (k == 9) = false) (w : World) : Calls Tryd.prog 145 #[.int .i64 k] w fun e w' => ∃ v, e = .returned v ∧ SlR strR w' (fun _ => True) v (regsL k) ∧ Below w.heap.size w w' := by
  have HV := Lib.hid (show regsL k = [] by simp only [regsL, h1, h2, h3, h4, h5, h8, h9]; rfl)
  go_enter Tryd.func145, Tryd.ntmps145
  go_wp2
  go_ret
  exact ⟨_, rfl, by rw [HV.out]; exact SlR.nil _ _ _, Below.refl _ _⟩
set_option maxHeartbeats 1000000 in
theorem regs_any (k : Int) (w : World) : Calls Tryd.prog 145 #[.int .i64 k] w fun e w' => ∃ v, e = .returned v ∧ SlR strR w' (fun _ => True) v (regsL k) ∧ Below w.heap.size w w' := by
  by_cases h1 : k = 1
  · subst h1
    have HF : Hid (∀ (wx : World) (b : Nat), b = wx.heap.size → SlR strR (World.alloc wx (.cells #[.string ⟨#[66]⟩, .string ⟨#[67]⟩, .string ⟨#[68]⟩, .string ⟨#[69]⟩, .string ⟨#[72]⟩, .string ⟨#[76]⟩, .string ⟨#[]⟩, .string ⟨#[65]⟩] 9)) (fun _ => True) (.slice (some ⟨b, 0, none⟩) 8 8) (regsL 1)) :=
      fun wx b hb => slR_strs wx 9 (fun _ => True) (regsL 1) b hb trivial (by decide)
    go_enter Tryd.func145, Tryd.ntmps145
    go_wp2
    go_ret
    exact ⟨_, rfl, HF.out _ _ rfl, (Below.refl _ _).alloc (Nat.le_refl _) _⟩
  by_cases h2 : k = 2
  · subst h2
    have HF : Hid (∀ (wx : World) (b : Nat), b = wx.heap.size → SlR strR (World.alloc wx (.cells #[.string ⟨#[73, 88, 72]⟩, .string ⟨#[73, 88, 76]⟩, .string ⟨#[73, 89, 72]⟩, .string ⟨#[73, 89, 76]⟩] 9)) (fun _ => True) (.slice (some ⟨b, 0, none⟩) 4 4) (regsL 2)) :=
      fun wx b hb => slR_strs wx 9 (fun _ => True) (regsL 2) b hb trivial (by decide)
    go_enter Tryd.func145, Tryd.ntmps145
    go_wp2
    go_ret
    exact ⟨_, rfl, HF.out _ _ rfl, (Below.refl _ _).alloc (Nat.le_refl _) _⟩
  by_cases h3 : k = 3
  · subst h3
    have HF : Hid (∀ (wx : World) (b : Nat), b = wx.heap.size → SlR strR (World.alloc wx (.cells #[.string ⟨#[66, 67]⟩, .string ⟨#[68, 69]⟩, .string ⟨#[72, 76]⟩, .string ⟨#[83, 80]⟩, .string ⟨#[65, 70]⟩, .string ⟨#[73, 88]⟩, .string ⟨#[73, 89]⟩, .string ⟨#[65, 70, 39]⟩] 9)) (fun _ => True) (.slice (some ⟨b, 0, none⟩) 8 8) (regsL 3)) :=
      fun wx b hb => slR_strs wx 9 (fun _ => True) (regsL 3) b hb trivial (by decide)
    go_enter Tryd.func145, Tryd.ntmps145
    go_wp2
    go_ret
    exact ⟨_, rfl, HF.out _ _ rfl, (Below.refl _ _).alloc (Nat.le_refl _) _⟩
  by_cases h4 : k = 4
  · subst h4
    have HF : Hid (∀ (wx : World) (b : Nat), b = wx.heap.size → SlR strR (World.alloc wx (.cells #[.string ⟨#[40, 66, 67, 41]⟩, .string ⟨#[40, 68, 69, 41]⟩, .string ⟨#[40, 72, 76, 41]⟩, .string ⟨#[40, 83, 80, 41]⟩, .string ⟨#[]⟩, .string ⟨#[40, 73, 88, 41]⟩, .string ⟨#[40, 73, 89, 41]⟩, .string ⟨#[]⟩, .string ⟨#[40, 67, 41]⟩] 9)) (fun _ => True) (.slice (some ⟨b, 0, none⟩) 9 9) (regsL 4)) :=
      fun wx b hb => slR_strs wx 9 (fun _ => True) (regsL 4) b hb trivial (by decide)
    go_enter Tryd.func145, Tryd.ntmps145
    go_wp2
    go_ret
    exact ⟨_, rfl, HF.out _ _ rfl, (Below.refl _ _).alloc (Nat.le_refl _) _⟩
  by_cases h5 : k = 5
  · subst h5
    have HF : Hid (∀ (wx : World) (b : Nat), b = wx.heap.size → SlR strR (World.alloc wx (.cells #[.string ⟨#[]⟩, .string ⟨#[]⟩, .string ⟨#[]⟩, .string ⟨#[]⟩, .string ⟨#[]⟩, .string ⟨#[73, 88]⟩, .string ⟨#[73, 89]⟩] 9)) (fun _ => True) (.slice (some ⟨b, 0, none⟩) 7 7) (regsL 5)) :=
      fun wx b hb => slR_strs wx 9 (fun _ => True) (regsL 5) b hb trivial (by decide)
    go_enter Tryd.func145, Tryd.ntmps145
    go_wp2
    go_ret
    exact ⟨_, rfl, HF.out _ _ rfl, (Below.refl _ _).alloc (Nat.le_refl _) _⟩
  by_cases h8 : k = 8
  · subst h8
    have HF : Hid (∀ (wx : World) (b : Nat), b = wx.heap.size → SlR strR (World.alloc wx (.cells #[.string ⟨#[78, 90]⟩, .string ⟨#[90]⟩, .string ⟨#[78, 67]⟩, .string ⟨#[67]⟩, .string ⟨#[80, 79]⟩, .string ⟨#[80, 69]⟩, .string ⟨#[80]⟩, .string ⟨#[77]⟩] 9)) (fun _ => True) (.slice (some ⟨b, 0, none⟩) 8 8) (regsL 8)) :=
      fun wx b hb => slR_strs wx 9 (fun _ => True) (regsL 8) b hb trivial (by decide)
    go_enter Tryd.func145, Tryd.ntmps145
    go_wp2
    go_ret
    exact ⟨_, rfl, HF.out _ _ rfl, (Below.refl _ _).alloc (Nat.le_refl _) _⟩
  by_cases h9 : k = 9
  · subst h9
    have HF : Hid (∀ (wx : World) (b : Nat), b = wx.heap.size → SlR strR (World.alloc wx (.cells #[.string ⟨#[73]⟩, .string ⟨#[82]⟩] 9)) (fun _ => True) (.slice (some ⟨b, 0, none⟩) 2 2) (regsL 9)) :=
      fun wx b hb => slR_strs wx 9 (fun _ => True) (regsL 9) b hb trivial (by decide)
    go_enter Tryd.func145, Tryd.ntmps145
    go_wp2
    go_ret
    exact ⟨_, rfl, HF.out _ _ rfl, (Below.refl _ _).alloc (Nat.le_refl _) _⟩
  exact regs_none k (by simpa using h1) (by simpa using h2) (by simpa using h3) (by simpa using h4) (by simpa using h5) (by simpa using h8) (by simpa using h9) w

/-- the name of a register of a kind, or nothing -/
def nameL (l : List ByteArray) (r : Int) : ByteArray := if r < 0 then ⟨#[]⟩ else (l[r.toNat]?).getD ⟨#[]⟩
def nameOf (k r : Int) : ByteArray := nameL (regsL k) r
theorem name_any (k r : Int) (w : World) : Calls Tryd.prog 120 #[.int .i64 k, .int .i64 r] w fun e w' => e = .returned (.string (nameOf k r)) ∧ Below w.heap.size w w' := by
  have HR := Lib.hid (regs_any k w)
  cases h1 : decide (r < 0)
  · have h1 : ¬ r < 0 := of_decide_eq_false h1
    have h0 : 0 ≤ r := by omega
    obtain ⟨n, rfl⟩ := Int.eq_ofNat_of_zero_le h0
    clear h1 h0
    cases h2 : (regsL k)[n]? with
    | none =>
      have HV := Lib.hid (show nameOf k n = ⟨#[]⟩ by simp [nameOf, nameL, h2])
      have hle : (regsL k).length ≤ n := by simpa using h2
      have hd : decide ((n : Int) < 0) = false := decide_eq_false (by omega)
      have hg : decide (((regsL k).length : Int) ≤ n) = true := by simp; omega
      clear h2
      go_enter Tryd.func120, Tryd.ntmps120
      go_wp2_with fail
      refine HR.out.mono ?_
      rintro e w1 ⟨v, rfl, hs, hb⟩
      obtain ⟨a, c, rfl, _⟩ := hs.str
      have HB := Lib.hid hb
      clear hs hb
      go_wp2
      go_ret
      exact ⟨ret_str HV.out.symm, HB.out⟩
    | some s =>
      have HV := Lib.hid (show nameOf k n = s by simp [nameOf, nameL, h2]; intro h; omega)
      have H2 := Lib.hid h2
      have hlt : n < (regsL k).length := (List.getElem?_eq_some_iff.1 h2).1
      have hd : decide ((n : Int) < 0) = false := decide_eq_false (by omega)
      have hg : decide (((regsL k).length : Int) ≤ n) = false := by simp; omega
      have hlt' : (n : Int) < (regsL k).length := by omega
      have h0' : (0 : Int) ≤ n := by omega
      clear h2
      go_enter Tryd.func120, Tryd.ntmps120
      go_wp2_with fail
      refine HR.out.mono ?_
      rintro e w1 ⟨v, rfl, hs, hb⟩
      obtain ⟨a, c, rfl, _, _, g⟩ := hs.str
      obtain ⟨b, o, rfl, _, d1⟩ := g n s H2.out
      clear g
      have HB := Lib.hid hb
      clear hs hb
      go_wp2
      go_ret
      exact ⟨ret_str HV.out.symm, HB.out⟩
  · have h1 : r < 0 := of_decide_eq_true h1
    have HV := Lib.hid (show nameOf k r = ⟨#[]⟩ by simp [nameOf, nameL, h1])
    have hd : decide (r < 0) = true := by simpa using h1
    go_enter Tryd.func120, Tryd.ntmps120
    go_wp2_with fail
    refine HR.out.mono ?_
    rintro e w1 ⟨v, rfl, hs, hb⟩
    obtain ⟨a, c, rfl, _⟩ := hs.str
    have HB := Lib.hid hb
    clear hs hb
    go_wp2
    go_ret
    exact ⟨ret_str HV.out.symm, HB.out⟩
end Go.Proofs.YtkkjoghfdmmpaaaDoor
