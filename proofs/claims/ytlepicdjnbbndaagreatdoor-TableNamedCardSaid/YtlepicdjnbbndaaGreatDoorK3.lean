/-
  The references' names of registers, which operands are valid, operand.find. Conditions: none.
-/
import Derived.Test.YtlepicdjnbbndaaGreatDoorK1
import Derived.Laws.EntriesVeiled
import Derived.Deep.DeepCutAuto
import Derived.Laws.CopyOwn
/-
  WHICH OPERANDS ARE VALID: the reference's tables of registers, a register's name, and Valid.
-/
namespace Go.Proofs.YtlepicdjnbbndaaGreatDoor
open Go.RowKit

def regsL (k : Int) : List ByteArray :=
  if k == 1 then [⟨#[66]⟩, ⟨#[67]⟩, ⟨#[68]⟩, ⟨#[69]⟩, ⟨#[72]⟩, ⟨#[76]⟩, ⟨#[]⟩, ⟨#[65]⟩] else if k == 2 then [⟨#[73, 88, 72]⟩, ⟨#[73, 88, 76]⟩, ⟨#[73, 89, 72]⟩, ⟨#[73, 89, 76]⟩] else if k == 3 then [⟨#[66, 67]⟩, ⟨#[68, 69]⟩, ⟨#[72, 76]⟩, ⟨#[83, 80]⟩, ⟨#[65, 70]⟩, ⟨#[73, 88]⟩, ⟨#[73, 89]⟩, ⟨#[65, 70, 39]⟩] else if k == 4 then [⟨#[40, 66, 67, 41]⟩, ⟨#[40, 68, 69, 41]⟩, ⟨#[40, 72, 76, 41]⟩, ⟨#[40, 83, 80, 41]⟩, ⟨#[]⟩, ⟨#[40, 73, 88, 41]⟩, ⟨#[40, 73, 89, 41]⟩, ⟨#[]⟩, ⟨#[40, 67, 41]⟩] else if k == 5 then [⟨#[]⟩, ⟨#[]⟩, ⟨#[]⟩, ⟨#[]⟩, ⟨#[]⟩, ⟨#[73, 88]⟩, ⟨#[73, 89]⟩] else if k == 8 then [⟨#[78, 90]⟩, ⟨#[90]⟩, ⟨#[78, 67]⟩, ⟨#[67]⟩, ⟨#[80, 79]⟩, ⟨#[80, 69]⟩, ⟨#[80]⟩, ⟨#[77]⟩] else if k == 9 then [⟨#[73]⟩, ⟨#[82]⟩] else []

theorem regs_none (k : Int) (h1 : (k == 1) = false) (h2 : (k == 2) = false) (h3 : (k == 3) = false) (h4 : (k == 4) = false) (h5 : (k == 5) = false) (h8 : (k == 8) = false) (h9 : (k == 9) = false) (w : World) : Calls Tryz.prog 193 #[.int .i64 k] w fun e w' => ∃ v, e = .returned v ∧ SlR strR w' (fun _ => True) v (regsL k) ∧ Below w.heap.size w w' := by
  have HV := Lib.hid (show regsL k = [] by simp only [regsL, h1, h2, h3, h4, h5, h8, h9]; rfl)
  go_enter Tryz.func193, Tryz.ntmps193
  go_wp2
  go_ret
  exact ⟨_, rfl, by rw [HV.out]; exact SlR.nil _ _ _, Below.refl _ _⟩
set_option maxHeartbeats 1000000 in
theorem regs_any (k : Int) (w : World) : Calls Tryz.prog 193 #[.int .i64 k] w fun e w' => ∃ v, e = .returned v ∧ SlR strR w' (fun _ => True) v (regsL k) ∧ Below w.heap.size w w' := by
  by_cases h1 : k = 1
  · subst h1
    have HF : Hid (∀ (wx : World) (b : Nat), b = wx.heap.size → SlR strR (World.alloc wx (.cells #[.string ⟨#[66]⟩, .string ⟨#[67]⟩, .string ⟨#[68]⟩, .string ⟨#[69]⟩, .string ⟨#[72]⟩, .string ⟨#[76]⟩, .string ⟨#[]⟩, .string ⟨#[65]⟩] 9)) (fun _ => True) (.slice (some ⟨b, 0, none⟩) 8 8) (regsL 1)) :=
      fun wx b hb => slR_strs wx 9 (fun _ => True) (regsL 1) b hb trivial (by decide)
    go_enter Tryz.func193, Tryz.ntmps193
    go_wp2
    go_ret
    exact ⟨_, rfl, HF.out _ _ rfl, (Below.refl _ _).alloc (Nat.le_refl _) _⟩
  by_cases h2 : k = 2
  · subst h2
    have HF : Hid (∀ (wx : World) (b : Nat), b = wx.heap.size → SlR strR (World.alloc wx (.cells #[.string ⟨#[73, 88, 72]⟩, .string ⟨#[73, 88, 76]⟩, .string ⟨#[73, 89, 72]⟩, .string ⟨#[73, 89, 76]⟩] 9)) (fun _ => True) (.slice (some ⟨b, 0, none⟩) 4 4) (regsL 2)) :=
      fun wx b hb => slR_strs wx 9 (fun _ => True) (regsL 2) b hb trivial (by decide)
    go_enter Tryz.func193, Tryz.ntmps193
    go_wp2
    go_ret
    exact ⟨_, rfl, HF.out _ _ rfl, (Below.refl _ _).alloc (Nat.le_refl _) _⟩
  by_cases h3 : k = 3
  · subst h3
    have HF : Hid (∀ (wx : World) (b : Nat), b = wx.heap.size → SlR strR (World.alloc wx (.cells #[.string ⟨#[66, 67]⟩, .string ⟨#[68, 69]⟩, .string ⟨#[72, 76]⟩, .string ⟨#[83, 80]⟩, .string ⟨#[65, 70]⟩, .string ⟨#[73, 88]⟩, .string ⟨#[73, 89]⟩, .string ⟨#[65, 70, 39]⟩] 9)) (fun _ => True) (.slice (some ⟨b, 0, none⟩) 8 8) (regsL 3)) :=
      fun wx b hb => slR_strs wx 9 (fun _ => True) (regsL 3) b hb trivial (by decide)
    go_enter Tryz.func193, Tryz.ntmps193
    go_wp2
    go_ret
    exact ⟨_, rfl, HF.out _ _ rfl, (Below.refl _ _).alloc (Nat.le_refl _) _⟩
  by_cases h4 : k = 4
  · subst h4
    have HF : Hid (∀ (wx : World) (b : Nat), b = wx.heap.size → SlR strR (World.alloc wx (.cells #[.string ⟨#[40, 66, 67, 41]⟩, .string ⟨#[40, 68, 69, 41]⟩, .string ⟨#[40, 72, 76, 41]⟩, .string ⟨#[40, 83, 80, 41]⟩, .string ⟨#[]⟩, .string ⟨#[40, 73, 88, 41]⟩, .string ⟨#[40, 73, 89, 41]⟩, .string ⟨#[]⟩, .string ⟨#[40, 67, 41]⟩] 9)) (fun _ => True) (.slice (some ⟨b, 0, none⟩) 9 9) (regsL 4)) :=
      fun wx b hb => slR_strs wx 9 (fun _ => True) (regsL 4) b hb trivial (by decide)
    go_enter Tryz.func193, Tryz.ntmps193
    go_wp2
    go_ret
    exact ⟨_, rfl, HF.out _ _ rfl, (Below.refl _ _).alloc (Nat.le_refl _) _⟩
  by_cases h5 : k = 5
  · subst h5
    have HF : Hid (∀ (wx : World) (b : Nat), b = wx.heap.size → SlR strR (World.alloc wx (.cells #[.string ⟨#[]⟩, .string ⟨#[]⟩, .string ⟨#[]⟩, .string ⟨#[]⟩, .string ⟨#[]⟩, .string ⟨#[73, 88]⟩, .string ⟨#[73, 89]⟩] 9)) (fun _ => True) (.slice (some ⟨b, 0, none⟩) 7 7) (regsL 5)) :=
      fun wx b hb => slR_strs wx 9 (fun _ => True) (regsL 5) b hb trivial (by decide)
    go_enter Tryz.func193, Tryz.ntmps193
    go_wp2
    go_ret
    exact ⟨_, rfl, HF.out _ _ rfl, (Below.refl _ _).alloc (Nat.le_refl _) _⟩
  by_cases h8 : k = 8
  · subst h8
    have HF : Hid (∀ (wx : World) (b : Nat), b = wx.heap.size → SlR strR (World.alloc wx (.cells #[.string ⟨#[78, 90]⟩, .string ⟨#[90]⟩, .string ⟨#[78, 67]⟩, .string ⟨#[67]⟩, .string ⟨#[80, 79]⟩, .string ⟨#[80, 69]⟩, .string ⟨#[80]⟩, .string ⟨#[77]⟩] 9)) (fun _ => True) (.slice (some ⟨b, 0, none⟩) 8 8) (regsL 8)) :=
      fun wx b hb => slR_strs wx 9 (fun _ => True) (regsL 8) b hb trivial (by decide)
    go_enter Tryz.func193, Tryz.ntmps193
    go_wp2
    go_ret
    exact ⟨_, rfl, HF.out _ _ rfl, (Below.refl _ _).alloc (Nat.le_refl _) _⟩
  by_cases h9 : k = 9
  · subst h9
    have HF : Hid (∀ (wx : World) (b : Nat), b = wx.heap.size → SlR strR (World.alloc wx (.cells #[.string ⟨#[73]⟩, .string ⟨#[82]⟩] 9)) (fun _ => True) (.slice (some ⟨b, 0, none⟩) 2 2) (regsL 9)) :=
      fun wx b hb => slR_strs wx 9 (fun _ => True) (regsL 9) b hb trivial (by decide)
    go_enter Tryz.func193, Tryz.ntmps193
    go_wp2
    go_ret
    exact ⟨_, rfl, HF.out _ _ rfl, (Below.refl _ _).alloc (Nat.le_refl _) _⟩
  exact regs_none k (by simpa using h1) (by simpa using h2) (by simpa using h3) (by simpa using h4) (by simpa using h5) (by simpa using h8) (by simpa using h9) w

/-- the name of a register of a kind, or nothing -/
def nameL (l : List ByteArray) (r : Int) : ByteArray := if r < 0 then ⟨#[]⟩ else (l[r.toNat]?).getD ⟨#[]⟩
def nameOf (k r : Int) : ByteArray := nameL (regsL k) r
theorem name_any (k r : Int) (w : World) : Calls Tryz.prog 165 #[.int .i64 k, .int .i64 r] w fun e w' => e = .returned (.string (nameOf k r)) ∧ Below w.heap.size w w' := by
  have HR := Lib.hid (regs_any k w)
  cases h1 : decide (r < 0)
  · have h1 : ¬ r < 0 := of_decide_eq_false h1
    have h0 : 0 ≤ r := by omega
    obtain ⟨n, rfl⟩ := Int.eq_ofNat_of_zero_le h0
    clear h1 h0
    cases h2 : (regsL k)[n]? with
    | none =>
      have HV := Lib.hid (show nameOf k n = ⟨#[]⟩ by simp [nameOf, nameL, h2])
      have hle : (regsL k).length ≤ n := by simpa using h2
      have hd : decide ((n : Int) < 0) = false := decide_eq_false (by omega)
      have hg : decide (((regsL k).length : Int) ≤ n) = true := by simp; omega
      clear h2
      go_enter Tryz.func165, Tryz.ntmps165
      go_wp2_with fail
      refine HR.out.mono ?_
      rintro e w1 ⟨v, rfl, hs, hb⟩
      obtain ⟨a, c, rfl, _⟩ := hs.str
      have HB := Lib.hid hb
      clear hs hb
      go_wp2
      go_ret
      exact ⟨ret_str HV.out.symm, HB.out⟩
    | some s =>
      have HV := Lib.hid (show nameOf k n = s by simp [nameOf, nameL, h2]; intro h; omega)
      have H2 := Lib.hid h2
      have hlt : n < (regsL k).length := (List.getElem?_eq_some_iff.1 h2).1
      have hd : decide ((n : Int) < 0) = false := decide_eq_false (by omega)
      have hg : decide (((regsL k).length : Int) ≤ n) = false := by simp; omega
      have hlt' : (n : Int) < (regsL k).length := by omega
      have h0' : (0 : Int) ≤ n := by omega
      clear h2
      go_enter Tryz.func165, Tryz.ntmps165
      go_wp2_with fail
      refine HR.out.mono ?_
      rintro e w1 ⟨v, rfl, hs, hb⟩
      obtain ⟨a, c, rfl, _, _, g⟩ := hs.str
      obtain ⟨b, o, rfl, _, d1⟩ := g n s H2.out
      clear g
      have HB := Lib.hid hb
      clear hs hb
      go_wp2
      go_ret
      exact ⟨ret_str HV.out.symm, HB.out⟩
  · have h1 : r < 0 := of_decide_eq_true h1
    have HV := Lib.hid (show nameOf k r = ⟨#[]⟩ by simp [nameOf, nameL, h1])
    have hd : decide (r < 0) = true := by simpa using h1
    go_enter Tryz.func165, Tryz.ntmps165
    go_wp2_with fail
    refine HR.out.mono ?_
    rintro e w1 ⟨v, rfl, hs, hb⟩
    obtain ⟨a, c, rfl, _⟩ := hs.str
    have HB := Lib.hid hb
    clear hs hb
    go_wp2
    go_ret
    exact ⟨ret_str HV.out.symm, HB.out⟩
end Go.Proofs.YtlepicdjnbbndaaGreatDoor

/-
  WHICH OPERANDS ARE VALID: the reference's Valid.
-/
namespace Go.Proofs.YtlepicdjnbbndaaGreatDoor
open Go.RowKit

/-- which operands are valid -/
def validOpd (o : Opd) : Bool :=
  if o.kind == 1 || o.kind == 2 || o.kind == 3 || o.kind == 4 || o.kind == 8 || o.kind == 9 then !((nameOf o.kind o.reg).toList == []) && o.n == 0
  else if o.kind == 5 then !((nameOf 5 o.reg).toList == []) && decide (-128 ≤ o.n) && decide (o.n ≤ 127)
  else if o.kind == 6 then o.reg == 0 && decide (-32768 ≤ o.n) && decide (o.n ≤ 65535)
  else if o.kind == 7 then o.reg == 0 && decide (0 ≤ o.n) && decide (o.n ≤ 65535)
  else if o.kind == 10 then o.reg == 0 && decide (-128 ≤ o.n) && decide (o.n ≤ 127)
  else false

set_option maxHeartbeats 4000000 in
theorem valid06_1 (r n : Int) (w : World) : Calls Tryz.prog 127 #[.agg #[.int .i64 1, .int .i64 r, .int .i64 n]] w fun e w' => e = .returned (.bool (validOpd ⟨1, r, n⟩)) ∧ Below w.heap.size w w' := by
  have HB0 : Hid (Below w.heap.size w (w.alloc (.cells #[.int .i64 1, .int .i64 r, .int .i64 n] 87))) := (Below.refl _ _).alloc (Nat.le_refl _) _
  have HK : Hid (Blk (w.alloc (.cells #[.int .i64 1, .int .i64 r, .int .i64 n] 87)) w.heap.size 87 #[.int .i64 1, .int .i64 r, .int .i64 n]) := Blk.new w _ _
  have HN := Lib.hid (name_any 1 r (w.alloc (.cells #[.int .i64 1, .int .i64 r, .int .i64 n] 87)))
  cases e0 : ((nameOf 1 r).toList == [])
  · cases e1 : (n == 0)
    · have HV := Lib.hid (show validOpd ⟨1, r, n⟩ = false by simp only [validOpd, e0, e1]; rfl)
      go_enter Tryz.func127, Tryz.ntmps127
      go_wp2_with (go_at_call 165; refine HN.out.mono ?_; rintro e w1 ⟨rfl, hb⟩; have HB := Lib.hid hb; have a2 : w1.cell? ⟨w.heap.size, 2, none⟩ = some (.int .i64 n) := (hb.cell (p := ⟨w.heap.size, 2, none⟩) HK.out.lt).trans (HK.out.cell 2); clear hb)
      go_ret
      exact ⟨ret_bool HV.out.symm, HB0.out.trans (HB.out.mono HB0.out.size)⟩
    · have HV := Lib.hid (show validOpd ⟨1, r, n⟩ = true by simp only [validOpd, e0, e1]; rfl)
      go_enter Tryz.func127, Tryz.ntmps127
      go_wp2_with (go_at_call 165; refine HN.out.mono ?_; rintro e w1 ⟨rfl, hb⟩; have HB := Lib.hid hb; have a2 : w1.cell? ⟨w.heap.size, 2, none⟩ = some (.int .i64 n) := (hb.cell (p := ⟨w.heap.size, 2, none⟩) HK.out.lt).trans (HK.out.cell 2); clear hb)
      go_ret
      exact ⟨ret_bool HV.out.symm, HB0.out.trans (HB.out.mono HB0.out.size)⟩
  · have HV := Lib.hid (show validOpd ⟨1, r, n⟩ = false by simp only [validOpd, e0]; rfl)
    go_enter Tryz.func127, Tryz.ntmps127
    go_wp2_with (go_at_call 165; refine HN.out.mono ?_; rintro e w1 ⟨rfl, hb⟩; have HB := Lib.hid hb; have a2 : w1.cell? ⟨w.heap.size, 2, none⟩ = some (.int .i64 n) := (hb.cell (p := ⟨w.heap.size, 2, none⟩) HK.out.lt).trans (HK.out.cell 2); clear hb)
    go_ret
    exact ⟨ret_bool HV.out.symm, HB0.out.trans (HB.out.mono HB0.out.size)⟩
set_option maxHeartbeats 4000000 in
theorem valid06_2 (r n : Int) (w : World) : Calls Tryz.prog 127 #[.agg #[.int .i64 2, .int .i64 r, .int .i64 n]] w fun e w' => e = .returned (.bool (validOpd ⟨2, r, n⟩)) ∧ Below w.heap.size w w' := by
  have HB0 : Hid (Below w.heap.size w (w.alloc (.cells #[.int .i64 2, .int .i64 r, .int .i64 n] 87))) := (Below.refl _ _).alloc (Nat.le_refl _) _
  have HK : Hid (Blk (w.alloc (.cells #[.int .i64 2, .int .i64 r, .int .i64 n] 87)) w.heap.size 87 #[.int .i64 2, .int .i64 r, .int .i64 n]) := Blk.new w _ _
  have HN := Lib.hid (name_any 2 r (w.alloc (.cells #[.int .i64 2, .int .i64 r, .int .i64 n] 87)))
  cases e0 : ((nameOf 2 r).toList == [])
  · cases e1 : (n == 0)
    · have HV := Lib.hid (show validOpd ⟨2, r, n⟩ = false by simp only [validOpd, e0, e1]; rfl)
      go_enter Tryz.func127, Tryz.ntmps127
      go_wp2_with (go_at_call 165; refine HN.out.mono ?_; rintro e w1 ⟨rfl, hb⟩; have HB := Lib.hid hb; have a2 : w1.cell? ⟨w.heap.size, 2, none⟩ = some (.int .i64 n) := (hb.cell (p := ⟨w.heap.size, 2, none⟩) HK.out.lt).trans (HK.out.cell 2); clear hb)
      go_ret
      exact ⟨ret_bool HV.out.symm, HB0.out.trans (HB.out.mono HB0.out.size)⟩
    · have HV := Lib.hid (show validOpd ⟨2, r, n⟩ = true by simp only [validOpd, e0, e1]; rfl)
      go_enter Tryz.func127, Tryz.ntmps127
      go_wp2_with (go_at_call 165; refine HN.out.mono ?_; rintro e w1 ⟨rfl, hb⟩; have HB := Lib.hid hb; have a2 : w1.cell? ⟨w.heap.size, 2, none⟩ = some (.int .i64 n) := (hb.cell (p := ⟨w.heap.size, 2, none⟩) HK.out.lt).trans (HK.out.cell 2); clear hb)
      go_ret
      exact ⟨ret_bool HV.out.symm, HB0.out.trans (HB.out.mono HB0.out.size)⟩
  · have HV := Lib.hid (show validOpd ⟨2, r, n⟩ = false by simp only [validOpd, e0]; rfl)
    go_enter Tryz.func127, Tryz.ntmps127
    go_wp2_with (go_at_call 165; refine HN.out.mono ?_; rintro e w1 ⟨rfl, hb⟩; have HB := Lib.hid hb; have a2 : w1.cell? ⟨w.heap.size, 2, none⟩ = some (.int .i64 n) := (hb.cell (p := ⟨w.heap.size, 2, none⟩) HK.out.lt).trans (HK.out.cell 2); clear hb)
    go_ret
    exact ⟨ret_bool HV.out.symm, HB0.out.trans (HB.out.mono HB0.out.size)⟩
set_option maxHeartbeats 4000000 in
theorem valid06_3 (r n : Int) (w : World) : Calls Tryz.prog 127 #[.agg #[.int .i64 3, .int .i64 r, .int .i64 n]] w fun e w' => e = .returned (.bool (validOpd ⟨3, r, n⟩)) ∧ Below w.heap.size w w' := by
  have HB0 : Hid (Below w.heap.size w (w.alloc (.cells #[.int .i64 3, .int .i64 r, .int .i64 n] 87))) := (Below.refl _ _).alloc (Nat.le_refl _) _
  have HK : Hid (Blk (w.alloc (.cells #[.int .i64 3, .int .i64 r, .int .i64 n] 87)) w.heap.size 87 #[.int .i64 3, .int .i64 r, .int .i64 n]) := Blk.new w _ _
  have HN := Lib.hid (name_any 3 r (w.alloc (.cells #[.int .i64 3, .int .i64 r, .int .i64 n] 87)))
  cases e0 : ((nameOf 3 r).toList == [])
  · cases e1 : (n == 0)
    · have HV := Lib.hid (show validOpd ⟨3, r, n⟩ = false by simp only [validOpd, e0, e1]; rfl)
      go_enter Tryz.func127, Tryz.ntmps127
      go_wp2_with (go_at_call 165; refine HN.out.mono ?_; rintro e w1 ⟨rfl, hb⟩; have HB := Lib.hid hb; have a2 : w1.cell? ⟨w.heap.size, 2, none⟩ = some (.int .i64 n) := (hb.cell (p := ⟨w.heap.size, 2, none⟩) HK.out.lt).trans (HK.out.cell 2); clear hb)
      go_ret
      exact ⟨ret_bool HV.out.symm, HB0.out.trans (HB.out.mono HB0.out.size)⟩
    · have HV := Lib.hid (show validOpd ⟨3, r, n⟩ = true by simp only [validOpd, e0, e1]; rfl)
      go_enter Tryz.func127, Tryz.ntmps127
      go_wp2_with (go_at_call 165; refine HN.out.mono ?_; rintro e w1 ⟨rfl, hb⟩; have HB := Lib.hid hb; have a2 : w1.cell? ⟨w.heap.size, 2, none⟩ = some (.int .i64 n) := (hb.cell (p := ⟨w.heap.size, 2, none⟩) HK.out.lt).trans (HK.out.cell 2); clear hb)
      go_ret
      exact ⟨ret_bool HV.out.symm, HB0.out.trans (HB.out.mono HB0.out.size)⟩
  · have HV := Lib.hid (show validOpd ⟨3, r, n⟩ = false by simp only [validOpd, e0]; rfl)
    go_enter Tryz.func127, Tryz.ntmps127
    go_wp2_with (go_at_call 165; refine HN.out.mono ?_; rintro e w1 ⟨rfl, hb⟩; have HB := Lib.hid hb; have a2 : w1.cell? ⟨w.heap.size, 2, none⟩ = some (.int .i64 n) := (hb.cell (p := ⟨w.heap.size, 2, none⟩) HK.out.lt).trans (HK.out.cell 2); clear hb)
    go_ret
    exact ⟨ret_bool HV.out.symm, HB0.out.trans (HB.out.mono HB0.out.size)⟩
set_option maxHeartbeats 4000000 in
theorem valid06_4 (r n : Int) (w : World) : Calls Tryz.prog 127 #[.agg #[.int .i64 4, .int .i64 r, .int .i64 n]] w fun e w' => e = .returned (.bool (validOpd ⟨4, r, n⟩)) ∧ Below w.heap.size w w' := by
  have HB0 : Hid (Below w.heap.size w (w.alloc (.cells #[.int .i64 4, .int .i64 r, .int .i64 n] 87))) := (Below.refl _ _).alloc (Nat.le_refl _) _
  have HK : Hid (Blk (w.alloc (.cells #[.int .i64 4, .int .i64 r, .int .i64 n] 87)) w.heap.size 87 #[.int .i64 4, .int .i64 r, .int .i64 n]) := Blk.new w _ _
  have HN := Lib.hid (name_any 4 r (w.alloc (.cells #[.int .i64 4, .int .i64 r, .int .i64 n] 87)))
  cases e0 : ((nameOf 4 r).toList == [])
  · cases e1 : (n == 0)
    · have HV := Lib.hid (show validOpd ⟨4, r, n⟩ = false by simp only [validOpd, e0, e1]; rfl)
      go_enter Tryz.func127, Tryz.ntmps127
      go_wp2_with (go_at_call 165; refine HN.out.mono ?_; rintro e w1 ⟨rfl, hb⟩; have HB := Lib.hid hb; have a2 : w1.cell? ⟨w.heap.size, 2, none⟩ = some (.int .i64 n) := (hb.cell (p := ⟨w.heap.size, 2, none⟩) HK.out.lt).trans (HK.out.cell 2); clear hb)
      go_ret
      exact ⟨ret_bool HV.out.symm, HB0.out.trans (HB.out.mono HB0.out.size)⟩
    · have HV := Lib.hid (show validOpd ⟨4, r, n⟩ = true by simp only [validOpd, e0, e1]; rfl)
      go_enter Tryz.func127, Tryz.ntmps127
      go_wp2_with (go_at_call 165; refine HN.out.mono ?_; rintro e w1 ⟨rfl, hb⟩; have HB := Lib.hid hb; have a2 : w1.cell? ⟨w.heap.size, 2, none⟩ = some (.int .i64 n) := (hb.cell (p := ⟨w.heap.size, 2, none⟩) HK.out.lt).trans (HK.out.cell 2); clear hb)
      go_ret
      exact ⟨ret_bool HV.out.symm, HB0.out.trans (HB.out.mono HB0.out.size)⟩
  · have HV := Lib.hid (show validOpd ⟨4, r, n⟩ = false by simp only [validOpd, e0]; rfl)
    go_enter Tryz.func127, Tryz.ntmps127
    go_wp2_with (go_at_call 165; refine HN.out.mono ?_; rintro e w1 ⟨rfl, hb⟩; have HB := Lib.hid hb; have a2 : w1.cell? ⟨w.heap.size, 2, none⟩ = some (.int .i64 n) := (hb.cell (p := ⟨w.heap.size, 2, none⟩) HK.out.lt).trans (HK.out.cell 2); clear hb)
    go_ret
    exact ⟨ret_bool HV.out.symm, HB0.out.trans (HB.out.mono HB0.out.size)⟩
set_option maxHeartbeats 4000000 in
theorem valid06_8 (r n : Int) (w : World) : Calls Tryz.prog 127 #[.agg #[.int .i64 8, .int .i64 r, .int .i64 n]] w fun e w' => e = .returned (.bool (validOpd ⟨8, r, n⟩)) ∧ Below w.heap.size w w' := by
  have HB0 : Hid (Below w.heap.size w (w.alloc (.cells #[.int .i64 8, .int .i64 r, .int .i64 n] 87))) := (Below.refl _ _).alloc (Nat.le_refl _) _
  have HK : Hid (Blk (w.alloc (.cells #[.int .i64 8, .int .i64 r, .int .i64 n] 87)) w.heap.size 87 #[.int .i64 8, .int .i64 r, .int .i64 n]) := Blk.new w _ _
  have HN := Lib.hid (name_any 8 r (w.alloc (.cells #[.int .i64 8, .int .i64 r, .int .i64 n] 87)))
  cases e0 : ((nameOf 8 r).toList == [])
  · cases e1 : (n == 0)
    · have HV := Lib.hid (show validOpd ⟨8, r, n⟩ = false by simp only [validOpd, e0, e1]; rfl)
      go_enter Tryz.func127, Tryz.ntmps127
      go_wp2_with (go_at_call 165; refine HN.out.mono ?_; rintro e w1 ⟨rfl, hb⟩; have HB := Lib.hid hb; have a2 : w1.cell? ⟨w.heap.size, 2, none⟩ = some (.int .i64 n) := (hb.cell (p := ⟨w.heap.size, 2, none⟩) HK.out.lt).trans (HK.out.cell 2); clear hb)
      go_ret
      exact ⟨ret_bool HV.out.symm, HB0.out.trans (HB.out.mono HB0.out.size)⟩
    · have HV := Lib.hid (show validOpd ⟨8, r, n⟩ = true by simp only [validOpd, e0, e1]; rfl)
      go_enter Tryz.func127, Tryz.ntmps127
      go_wp2_with (go_at_call 165; refine HN.out.mono ?_; rintro e w1 ⟨rfl, hb⟩; have HB := Lib.hid hb; have a2 : w1.cell? ⟨w.heap.size, 2, none⟩ = some (.int .i64 n) := (hb.cell (p := ⟨w.heap.size, 2, none⟩) HK.out.lt).trans (HK.out.cell 2); clear hb)
      go_ret
      exact ⟨ret_bool HV.out.symm, HB0.out.trans (HB.out.mono HB0.out.size)⟩
  · have HV := Lib.hid (show validOpd ⟨8, r, n⟩ = false by simp only [validOpd, e0]; rfl)
    go_enter Tryz.func127, Tryz.ntmps127
    go_wp2_with (go_at_call 165; refine HN.out.mono ?_; rintro e w1 ⟨rfl, hb⟩; have HB := Lib.hid hb; have a2 : w1.cell? ⟨w.heap.size, 2, none⟩ = some (.int .i64 n) := (hb.cell (p := ⟨w.heap.size, 2, none⟩) HK.out.lt).trans (HK.out.cell 2); clear hb)
    go_ret
    exact ⟨ret_bool HV.out.symm, HB0.out.trans (HB.out.mono HB0.out.size)⟩
set_option maxHeartbeats 4000000 in
theorem valid06_9 (r n : Int) (w : World) : Calls Tryz.prog 127 #[.agg #[.int .i64 9, .int .i64 r, .int .i64 n]] w fun e w' => e = .returned (.bool (validOpd ⟨9, r, n⟩)) ∧ Below w.heap.size w w' := by
  have HB0 : Hid (Below w.heap.size w (w.alloc (.cells #[.int .i64 9, .int .i64 r, .int .i64 n] 87))) := (Below.refl _ _).alloc (Nat.le_refl _) _
  have HK : Hid (Blk (w.alloc (.cells #[.int .i64 9, .int .i64 r, .int .i64 n] 87)) w.heap.size 87 #[.int .i64 9, .int .i64 r, .int .i64 n]) := Blk.new w _ _
  have HN := Lib.hid (name_any 9 r (w.alloc (.cells #[.int .i64 9, .int .i64 r, .int .i64 n] 87)))
  cases e0 : ((nameOf 9 r).toList == [])
  · cases e1 : (n == 0)
    · have HV := Lib.hid (show validOpd ⟨9, r, n⟩ = false by simp only [validOpd, e0, e1]; rfl)
      go_enter Tryz.func127, Tryz.ntmps127
      go_wp2_with (go_at_call 165; refine HN.out.mono ?_; rintro e w1 ⟨rfl, hb⟩; have HB := Lib.hid hb; have a2 : w1.cell? ⟨w.heap.size, 2, none⟩ = some (.int .i64 n) := (hb.cell (p := ⟨w.heap.size, 2, none⟩) HK.out.lt).trans (HK.out.cell 2); clear hb)
      go_ret
      exact ⟨ret_bool HV.out.symm, HB0.out.trans (HB.out.mono HB0.out.size)⟩
    · have HV := Lib.hid (show validOpd ⟨9, r, n⟩ = true by simp only [validOpd, e0, e1]; rfl)
      go_enter Tryz.func127, Tryz.ntmps127
      go_wp2_with (go_at_call 165; refine HN.out.mono ?_; rintro e w1 ⟨rfl, hb⟩; have HB := Lib.hid hb; have a2 : w1.cell? ⟨w.heap.size, 2, none⟩ = some (.int .i64 n) := (hb.cell (p := ⟨w.heap.size, 2, none⟩) HK.out.lt).trans (HK.out.cell 2); clear hb)
      go_ret
      exact ⟨ret_bool HV.out.symm, HB0.out.trans (HB.out.mono HB0.out.size)⟩
  · have HV := Lib.hid (show validOpd ⟨9, r, n⟩ = false by simp only [validOpd, e0]; rfl)
    go_enter Tryz.func127, Tryz.ntmps127
    go_wp2_with (go_at_call 165; refine HN.out.mono ?_; rintro e w1 ⟨rfl, hb⟩; have HB := Lib.hid hb; have a2 : w1.cell? ⟨w.heap.size, 2, none⟩ = some (.int .i64 n) := (hb.cell (p := ⟨w.heap.size, 2, none⟩) HK.out.lt).trans (HK.out.cell 2); clear hb)
    go_ret
    exact ⟨ret_bool HV.out.symm, HB0.out.trans (HB.out.mono HB0.out.size)⟩
set_option maxHeartbeats 4000000 in
theorem valid06_5 (r n : Int) (w : World) : Calls Tryz.prog 127 #[.agg #[.int .i64 5, .int .i64 r, .int .i64 n]] w fun e w' => e = .returned (.bool (validOpd ⟨5, r, n⟩)) ∧ Below w.heap.size w w' := by
  have HB0 : Hid (Below w.heap.size w (w.alloc (.cells #[.int .i64 5, .int .i64 r, .int .i64 n] 87))) := (Below.refl _ _).alloc (Nat.le_refl _) _
  have HK : Hid (Blk (w.alloc (.cells #[.int .i64 5, .int .i64 r, .int .i64 n] 87)) w.heap.size 87 #[.int .i64 5, .int .i64 r, .int .i64 n]) := Blk.new w _ _
  have HN := Lib.hid (name_any 5 r (w.alloc (.cells #[.int .i64 5, .int .i64 r, .int .i64 n] 87)))
  cases e0 : ((nameOf 5 r).toList == [])
  · cases e1 : decide (-128 ≤ n)
    · have HV := Lib.hid (show validOpd ⟨5, r, n⟩ = false by simp only [validOpd, e0, e1]; rfl)
      go_enter Tryz.func127, Tryz.ntmps127
      go_wp2_with (go_at_call 165; refine HN.out.mono ?_; rintro e w1 ⟨rfl, hb⟩; have HB := Lib.hid hb; have a2 : w1.cell? ⟨w.heap.size, 2, none⟩ = some (.int .i64 n) := (hb.cell (p := ⟨w.heap.size, 2, none⟩) HK.out.lt).trans (HK.out.cell 2); clear hb)
      go_ret
      exact ⟨ret_bool HV.out.symm, HB0.out.trans (HB.out.mono HB0.out.size)⟩
    · cases e2 : decide (n ≤ 127)
      · have HV := Lib.hid (show validOpd ⟨5, r, n⟩ = false by simp only [validOpd, e0, e1, e2]; rfl)
        go_enter Tryz.func127, Tryz.ntmps127
        go_wp2_with (go_at_call 165; refine HN.out.mono ?_; rintro e w1 ⟨rfl, hb⟩; have HB := Lib.hid hb; have a2 : w1.cell? ⟨w.heap.size, 2, none⟩ = some (.int .i64 n) := (hb.cell (p := ⟨w.heap.size, 2, none⟩) HK.out.lt).trans (HK.out.cell 2); clear hb)
        go_ret
        exact ⟨ret_bool HV.out.symm, HB0.out.trans (HB.out.mono HB0.out.size)⟩
      · have HV := Lib.hid (show validOpd ⟨5, r, n⟩ = true by simp only [validOpd, e0, e1, e2]; rfl)
        go_enter Tryz.func127, Tryz.ntmps127
        go_wp2_with (go_at_call 165; refine HN.out.mono ?_; rintro e w1 ⟨rfl, hb⟩; have HB := Lib.hid hb; have a2 : w1.cell? ⟨w.heap.size, 2, none⟩ = some (.int .i64 n) := (hb.cell (p := ⟨w.heap.size, 2, none⟩) HK.out.lt).trans (HK.out.cell 2); clear hb)
        go_ret
        exact ⟨ret_bool HV.out.symm, HB0.out.trans (HB.out.mono HB0.out.size)⟩
  · have HV := Lib.hid (show validOpd ⟨5, r, n⟩ = false by simp only [validOpd, e0]; rfl)
    go_enter Tryz.func127, Tryz.ntmps127
    go_wp2_with (go_at_call 165; refine HN.out.mono ?_; rintro e w1 ⟨rfl, hb⟩; have HB := Lib.hid hb; have a2 : w1.cell? ⟨w.heap.size, 2, none⟩ = some (.int .i64 n) := (hb.cell (p := ⟨w.heap.size, 2, none⟩) HK.out.lt).trans (HK.out.cell 2); clear hb)
    go_ret
    exact ⟨ret_bool HV.out.symm, HB0.out.trans (HB.out.mono HB0.out.size)⟩
set_option maxHeartbeats 4000000 in
theorem valid06_6 (r n : Int) (w : World) : Calls Tryz.prog 127 #[.agg #[.int .i64 6, .int .i64 r, .int .i64 n]] w fun e w' => e = .returned (.bool (validOpd ⟨6, r, n⟩)) ∧ Below w.heap.size w w' := by
  have HB0 : Hid (Below w.heap.size w (w.alloc (.cells #[.int .i64 6, .int .i64 r, .int .i64 n] 87))) := (Below.refl _ _).alloc (Nat.le_refl _) _
  cases e0 : (r == 0)
  · have HV := Lib.hid (show validOpd ⟨6, r, n⟩ = false by simp only [validOpd, e0]; rfl)
    go_enter Tryz.func127, Tryz.ntmps127
    go_wp2
    go_ret
    exact ⟨ret_bool HV.out.symm, HB0.out⟩
  · cases e1 : decide (-32768 ≤ n)
    · have HV := Lib.hid (show validOpd ⟨6, r, n⟩ = false by simp only [validOpd, e0, e1]; rfl)
      go_enter Tryz.func127, Tryz.ntmps127
      go_wp2
      go_ret
      exact ⟨ret_bool HV.out.symm, HB0.out⟩
    · cases e2 : decide (n ≤ 65535)
      · have HV := Lib.hid (show validOpd ⟨6, r, n⟩ = false by simp only [validOpd, e0, e1, e2]; rfl)
        go_enter Tryz.func127, Tryz.ntmps127
        go_wp2
        go_ret
        exact ⟨ret_bool HV.out.symm, HB0.out⟩
      · have HV := Lib.hid (show validOpd ⟨6, r, n⟩ = true by simp only [validOpd, e0, e1, e2]; rfl)
        go_enter Tryz.func127, Tryz.ntmps127
        go_wp2
        go_ret
        exact ⟨ret_bool HV.out.symm, HB0.out⟩
set_option maxHeartbeats 4000000 in
theorem valid06_7 (r n : Int) (w : World) : Calls Tryz.prog 127 #[.agg #[.int .i64 7, .int .i64 r, .int .i64 n]] w fun e w' => e = .returned (.bool (validOpd ⟨7, r, n⟩)) ∧ Below w.heap.size w w' := by
  have HB0 : Hid (Below w.heap.size w (w.alloc (.cells #[.int .i64 7, .int .i64 r, .int .i64 n] 87))) := (Below.refl _ _).alloc (Nat.le_refl _) _
  cases e0 : (r == 0)
  · have HV := Lib.hid (show validOpd ⟨7, r, n⟩ = false by simp only [validOpd, e0]; rfl)
    go_enter Tryz.func127, Tryz.ntmps127
    go_wp2
    go_ret
    exact ⟨ret_bool HV.out.symm, HB0.out⟩
  · cases e1 : decide (0 ≤ n)
    · have HV := Lib.hid (show validOpd ⟨7, r, n⟩ = false by simp only [validOpd, e0, e1]; rfl)
      go_enter Tryz.func127, Tryz.ntmps127
      go_wp2
      go_ret
      exact ⟨ret_bool HV.out.symm, HB0.out⟩
    · cases e2 : decide (n ≤ 65535)
      · have HV := Lib.hid (show validOpd ⟨7, r, n⟩ = false by simp only [validOpd, e0, e1, e2]; rfl)
        go_enter Tryz.func127, Tryz.ntmps127
        go_wp2
        go_ret
        exact ⟨ret_bool HV.out.symm, HB0.out⟩
      · have HV := Lib.hid (show validOpd ⟨7, r, n⟩ = true by simp only [validOpd, e0, e1, e2]; rfl)
        go_enter Tryz.func127, Tryz.ntmps127
        go_wp2
        go_ret
        exact ⟨ret_bool HV.out.symm, HB0.out⟩
set_option maxHeartbeats 4000000 in
theorem valid06_10 (r n : Int) (w : World) : Calls Tryz.prog 127 #[.agg #[.int .i64 10, .int .i64 r, .int .i64 n]] w fun e w' => e = .returned (.bool (validOpd ⟨10, r, n⟩)) ∧ Below w.heap.size w w' := by
  have HB0 : Hid (Below w.heap.size w (w.alloc (.cells #[.int .i64 10, .int .i64 r, .int .i64 n] 87))) := (Below.refl _ _).alloc (Nat.le_refl _) _
  cases e0 : (r == 0)
  · have HV := Lib.hid (show validOpd ⟨10, r, n⟩ = false by simp only [validOpd, e0]; rfl)
    go_enter Tryz.func127, Tryz.ntmps127
    go_wp2
    go_ret
    exact ⟨ret_bool HV.out.symm, HB0.out⟩
  · cases e1 : decide (-128 ≤ n)
    · have HV := Lib.hid (show validOpd ⟨10, r, n⟩ = false by simp only [validOpd, e0, e1]; rfl)
      go_enter Tryz.func127, Tryz.ntmps127
      go_wp2
      go_ret
      exact ⟨ret_bool HV.out.symm, HB0.out⟩
    · cases e2 : decide (n ≤ 127)
      · have HV := Lib.hid (show validOpd ⟨10, r, n⟩ = false by simp only [validOpd, e0, e1, e2]; rfl)
        go_enter Tryz.func127, Tryz.ntmps127
        go_wp2
        go_ret
        exact ⟨ret_bool HV.out.symm, HB0.out⟩
      · have HV := Lib.hid (show validOpd ⟨10, r, n⟩ = true by simp only [validOpd, e0, e1, e2]; rfl)
        go_enter Tryz.func127, Tryz.ntmps127
        go_wp2
        go_ret
        exact ⟨ret_bool HV.out.symm, HB0.out⟩
set_option maxHeartbeats 2000000 in
theorem valid06_no (k r n : Int) (h1 : (k == 1) = false) (h2 : (k == 2) = false) (h3 : (k == 3) = false) (h4 : (k == 4) = false) (h8 : (k == 8) = false) (h9 : (k == 9) = false) (h5 : (k == 5) = false) (h6 : (k == 6) = false) (h7 : (k == 7) = false) (h10 : (k == 10) = false) (w : World) : Calls Tryz.prog 127 #[.agg #[.int .i64 k, .int .i64 r, .int .i64 n]] w fun e w' => e = .returned (.bool (validOpd ⟨k, r, n⟩)) ∧ Below w.heap.size w w' := by
  have HB0 : Hid (Below w.heap.size w (w.alloc (.cells #[.int .i64 k, .int .i64 r, .int .i64 n] 87))) := (Below.refl _ _).alloc (Nat.le_refl _) _
  have HV := Lib.hid (show validOpd ⟨k, r, n⟩ = false by simp only [validOpd, h1, h2, h3, h4, h8, h9, h5, h6, h7, h10]; rfl)
  go_enter Tryz.func127, Tryz.ntmps127
  go_wp2
  go_ret
  exact ⟨ret_bool HV.out.symm, HB0.out⟩
theorem valid06_any (o : Opd) (w : World) : Calls Tryz.prog 127 #[.agg #[.int .i64 o.kind, .int .i64 o.reg, .int .i64 o.n]] w fun e w' => e = .returned (.bool (validOpd o)) ∧ Below w.heap.size w w' := by
  obtain ⟨k, r, n⟩ := o
  dsimp only
  by_cases h1 : k = 1
  · subst h1; exact valid06_1 r n w
  by_cases h2 : k = 2
  · subst h2; exact valid06_2 r n w
  by_cases h3 : k = 3
  · subst h3; exact valid06_3 r n w
  by_cases h4 : k = 4
  · subst h4; exact valid06_4 r n w
  by_cases h8 : k = 8
  · subst h8; exact valid06_8 r n w
  by_cases h9 : k = 9
  · subst h9; exact valid06_9 r n w
  by_cases h5 : k = 5
  · subst h5; exact valid06_5 r n w
  by_cases h6 : k = 6
  · subst h6; exact valid06_6 r n w
  by_cases h7 : k = 7
  · subst h7; exact valid06_7 r n w
  by_cases h10 : k = 10
  · subst h10; exact valid06_10 r n w
  exact valid06_no k r n (by simpa using h1) (by simpa using h2) (by simpa using h3) (by simpa using h4) (by simpa using h8) (by simpa using h9) (by simpa using h5) (by simpa using h6) (by simpa using h7) (by simpa using h10) w
end Go.Proofs.YtlepicdjnbbndaaGreatDoor

/-
  THE KINDS OF OPERANDS: operand.find.
-/
namespace Go.Proofs.YtlepicdjnbbndaaGreatDoor
open Go.RowKit

theorem results_row_tmp {P : Program} {fn : Func} {p u : Tmp} {ty : TypeId} (h : fn.results = #[.cell p ty, .tmp u]) (tmps : Array Value) (w : World) (g : Nat) (t : TypeId) (cs : Array Value) (fr : Nat × Nat) (d : TypeDesc)
    (hp : tmps.getD p undef = .pointer (some ⟨g, 0, none⟩)) (hg : w.heap[g]? = some (.cells cs t fr))
    (hu : P.underlying ty = some d) (hd : (match d with | .struct _ | .array _ _ => true | _ => false) = true) (hi : (P.info? ty).map (·.size) = some cs.size) :
    (results fn tmps).run P w = .ok (.tuple #[.agg cs, tmps.getD u undef]) w := by
  have hp' : tmps[p]?.getD undef = .pointer (some ⟨g, 0, none⟩) := by simpa using hp
  simp [results, h, hp', asAddr, run_loadVar_row w g t ty cs fr d hg hu hd hi]
theorem results_row_tmp2 {P : Program} {fn : Func} {p u v : Tmp} {ty : TypeId} (h : fn.results = #[.cell p ty, .tmp u, .tmp v]) (tmps : Array Value) (w : World) (g : Nat) (t : TypeId) (cs : Array Value) (fr : Nat × Nat) (d : TypeDesc)
    (hp : tmps.getD p undef = .pointer (some ⟨g, 0, none⟩)) (hg : w.heap[g]? = some (.cells cs t fr))
    (hu : P.underlying ty = some d) (hd : (match d with | .struct _ | .array _ _ => true | _ => false) = true) (hi : (P.info? ty).map (·.size) = some cs.size) :
    (results fn tmps).run P w = .ok (.tuple #[.agg cs, tmps.getD u undef, tmps.getD v undef]) w := by
  have hp' : tmps[p]?.getD undef = .pointer (some ⟨g, 0, none⟩) := by simpa using hp
  simp [results, h, hp', asAddr, run_loadVar_row w g t ty cs fr d hg hu hd hi]

/-- the names of a kind's registers, the range of its number, its form -/
structure KindD where
  names : List ByteArray
  lo : Int
  hi : Int
  form : FuncId
def KindD.nm (d : KindD) (i : Nat) : ByteArray := (d.names[i]?).getD ⟨#[]⟩
def KindD.val (d : KindD) : Value := .agg #[.string (d.nm 0), .string (d.nm 1), .string (d.nm 2), .string (d.nm 3), .string (d.nm 4), .string (d.nm 5), .string (d.nm 6), .string (d.nm 7), .string (d.nm 8), .int .i64 d.lo, .int .i64 d.hi, .func (.func d.form) #[] #[]]
def kindNil : Value := .agg #[.string ⟨#[]⟩, .string ⟨#[]⟩, .string ⟨#[]⟩, .string ⟨#[]⟩, .string ⟨#[]⟩, .string ⟨#[]⟩, .string ⟨#[]⟩, .string ⟨#[]⟩, .string ⟨#[]⟩, .int .i64 0, .int .i64 0, .nilFunc]
def kindOk (k : Int) : Bool := k == 1 || k == 2 || k == 3 || k == 4 || k == 5 || k == 6 || k == 7 || k == 8 || k == 9 || k == 10
def kindD (k : Int) : KindD :=
  if k == 1 then ⟨[⟨#[66]⟩, ⟨#[67]⟩, ⟨#[68]⟩, ⟨#[69]⟩, ⟨#[72]⟩, ⟨#[76]⟩, ⟨#[]⟩, ⟨#[65]⟩, ⟨#[]⟩], 0, 0, 185⟩ else if k == 2 then ⟨[⟨#[73, 88, 72]⟩, ⟨#[73, 88, 76]⟩, ⟨#[73, 89, 72]⟩, ⟨#[73, 89, 76]⟩, ⟨#[]⟩, ⟨#[]⟩, ⟨#[]⟩, ⟨#[]⟩, ⟨#[]⟩], 0, 0, 185⟩ else if k == 3 then ⟨[⟨#[66, 67]⟩, ⟨#[68, 69]⟩, ⟨#[72, 76]⟩, ⟨#[83, 80]⟩, ⟨#[65, 70]⟩, ⟨#[73, 88]⟩, ⟨#[73, 89]⟩, ⟨#[65, 70, 39]⟩, ⟨#[]⟩], 0, 0, 185⟩ else if k == 4 then ⟨[⟨#[66, 67]⟩, ⟨#[68, 69]⟩, ⟨#[72, 76]⟩, ⟨#[83, 80]⟩, ⟨#[]⟩, ⟨#[73, 88]⟩, ⟨#[73, 89]⟩, ⟨#[]⟩, ⟨#[67]⟩], 0, 0, 186⟩ else if k == 5 then ⟨[⟨#[]⟩, ⟨#[]⟩, ⟨#[]⟩, ⟨#[]⟩, ⟨#[]⟩, ⟨#[73, 88]⟩, ⟨#[73, 89]⟩, ⟨#[]⟩, ⟨#[]⟩], -128, 127, 187⟩ else if k == 6 then ⟨[⟨#[42]⟩, ⟨#[]⟩, ⟨#[]⟩, ⟨#[]⟩, ⟨#[]⟩, ⟨#[]⟩, ⟨#[]⟩, ⟨#[]⟩, ⟨#[]⟩], -32768, 65535, 189⟩ else if k == 7 then ⟨[⟨#[42]⟩, ⟨#[]⟩, ⟨#[]⟩, ⟨#[]⟩, ⟨#[]⟩, ⟨#[]⟩, ⟨#[]⟩, ⟨#[]⟩, ⟨#[]⟩], 0, 65535, 191⟩ else if k == 8 then ⟨[⟨#[78, 90]⟩, ⟨#[90]⟩, ⟨#[78, 67]⟩, ⟨#[67]⟩, ⟨#[80, 79]⟩, ⟨#[80, 69]⟩, ⟨#[80]⟩, ⟨#[77]⟩, ⟨#[]⟩], 0, 0, 185⟩ else if k == 9 then ⟨[⟨#[73]⟩, ⟨#[82]⟩, ⟨#[]⟩, ⟨#[]⟩, ⟨#[]⟩, ⟨#[]⟩, ⟨#[]⟩, ⟨#[]⟩, ⟨#[]⟩], 0, 0, 185⟩ else if k == 10 then ⟨[⟨#[42]⟩, ⟨#[]⟩, ⟨#[]⟩, ⟨#[]⟩, ⟨#[]⟩, ⟨#[]⟩, ⟨#[]⟩, ⟨#[]⟩, ⟨#[]⟩], -128, 127, 192⟩ else ⟨[], 0, 0, 0⟩
set_option maxHeartbeats 2000000 in
theorem find_1 (w : World) : Calls Tryz.prog 156 #[.int .i64 1] w fun e w' => e = .returned (.tuple #[(kindD 1).val, .bool true]) ∧ Below w.heap.size w w' := by
  go_enter Tryz.func156, Tryz.ntmps156
  go_wp2
  refine bodyPost_ret (results_row_tmp rfl _ _ w.heap.size 154 #[.string ⟨#[66]⟩, .string ⟨#[67]⟩, .string ⟨#[68]⟩, .string ⟨#[69]⟩, .string ⟨#[72]⟩, .string ⟨#[76]⟩, .string ⟨#[]⟩, .string ⟨#[65]⟩, .string ⟨#[]⟩, .int .i64 (0), .int .i64 (0), .func (.func 185) #[] #[]] (0, 0) _ rfl (Blk.new w _ _) Tryz.underlying154 rfl (by kernel_rfl)) rfl ⟨rfl, ?_⟩
  exact (Below.refl _ _).alloc (Nat.le_refl _) _
set_option maxHeartbeats 2000000 in
theorem find_2 (w : World) : Calls Tryz.prog 156 #[.int .i64 2] w fun e w' => e = .returned (.tuple #[(kindD 2).val, .bool true]) ∧ Below w.heap.size w w' := by
  go_enter Tryz.func156, Tryz.ntmps156
  go_wp2
  refine bodyPost_ret (results_row_tmp rfl _ _ w.heap.size 154 #[.string ⟨#[73, 88, 72]⟩, .string ⟨#[73, 88, 76]⟩, .string ⟨#[73, 89, 72]⟩, .string ⟨#[73, 89, 76]⟩, .string ⟨#[]⟩, .string ⟨#[]⟩, .string ⟨#[]⟩, .string ⟨#[]⟩, .string ⟨#[]⟩, .int .i64 (0), .int .i64 (0), .func (.func 185) #[] #[]] (0, 0) _ rfl (Blk.new w _ _) Tryz.underlying154 rfl (by kernel_rfl)) rfl ⟨rfl, ?_⟩
  exact (Below.refl _ _).alloc (Nat.le_refl _) _
set_option maxHeartbeats 2000000 in
theorem find_3 (w : World) : Calls Tryz.prog 156 #[.int .i64 3] w fun e w' => e = .returned (.tuple #[(kindD 3).val, .bool true]) ∧ Below w.heap.size w w' := by
  go_enter Tryz.func156, Tryz.ntmps156
  go_wp2
  refine bodyPost_ret (results_row_tmp rfl _ _ w.heap.size 154 #[.string ⟨#[66, 67]⟩, .string ⟨#[68, 69]⟩, .string ⟨#[72, 76]⟩, .string ⟨#[83, 80]⟩, .string ⟨#[65, 70]⟩, .string ⟨#[73, 88]⟩, .string ⟨#[73, 89]⟩, .string ⟨#[65, 70, 39]⟩, .string ⟨#[]⟩, .int .i64 (0), .int .i64 (0), .func (.func 185) #[] #[]] (0, 0) _ rfl (Blk.new w _ _) Tryz.underlying154 rfl (by kernel_rfl)) rfl ⟨rfl, ?_⟩
  exact (Below.refl _ _).alloc (Nat.le_refl _) _
set_option maxHeartbeats 2000000 in
theorem find_4 (w : World) : Calls Tryz.prog 156 #[.int .i64 4] w fun e w' => e = .returned (.tuple #[(kindD 4).val, .bool true]) ∧ Below w.heap.size w w' := by
  go_enter Tryz.func156, Tryz.ntmps156
  go_wp2
  refine bodyPost_ret (results_row_tmp rfl _ _ w.heap.size 154 #[.string ⟨#[66, 67]⟩, .string ⟨#[68, 69]⟩, .string ⟨#[72, 76]⟩, .string ⟨#[83, 80]⟩, .string ⟨#[]⟩, .string ⟨#[73, 88]⟩, .string ⟨#[73, 89]⟩, .string ⟨#[]⟩, .string ⟨#[67]⟩, .int .i64 (0), .int .i64 (0), .func (.func 186) #[] #[]] (0, 0) _ rfl (Blk.new w _ _) Tryz.underlying154 rfl (by kernel_rfl)) rfl ⟨rfl, ?_⟩
  exact (Below.refl _ _).alloc (Nat.le_refl _) _
set_option maxHeartbeats 2000000 in
theorem find_5 (w : World) : Calls Tryz.prog 156 #[.int .i64 5] w fun e w' => e = .returned (.tuple #[(kindD 5).val, .bool true]) ∧ Below w.heap.size w w' := by
  go_enter Tryz.func156, Tryz.ntmps156
  go_wp2
  refine bodyPost_ret (results_row_tmp rfl _ _ w.heap.size 154 #[.string ⟨#[]⟩, .string ⟨#[]⟩, .string ⟨#[]⟩, .string ⟨#[]⟩, .string ⟨#[]⟩, .string ⟨#[73, 88]⟩, .string ⟨#[73, 89]⟩, .string ⟨#[]⟩, .string ⟨#[]⟩, .int .i64 (-128), .int .i64 (127), .func (.func 187) #[] #[]] (0, 0) _ rfl (Blk.new w _ _) Tryz.underlying154 rfl (by kernel_rfl)) rfl ⟨rfl, ?_⟩
  exact (Below.refl _ _).alloc (Nat.le_refl _) _
set_option maxHeartbeats 2000000 in
theorem find_6 (w : World) : Calls Tryz.prog 156 #[.int .i64 6] w fun e w' => e = .returned (.tuple #[(kindD 6).val, .bool true]) ∧ Below w.heap.size w w' := by
  go_enter Tryz.func156, Tryz.ntmps156
  go_wp2
  refine bodyPost_ret (results_row_tmp rfl _ _ w.heap.size 154 #[.string ⟨#[42]⟩, .string ⟨#[]⟩, .string ⟨#[]⟩, .string ⟨#[]⟩, .string ⟨#[]⟩, .string ⟨#[]⟩, .string ⟨#[]⟩, .string ⟨#[]⟩, .string ⟨#[]⟩, .int .i64 (-32768), .int .i64 (65535), .func (.func 189) #[] #[]] (0, 0) _ rfl (Blk.new w _ _) Tryz.underlying154 rfl (by kernel_rfl)) rfl ⟨rfl, ?_⟩
  exact (Below.refl _ _).alloc (Nat.le_refl _) _
set_option maxHeartbeats 2000000 in
theorem find_7 (w : World) : Calls Tryz.prog 156 #[.int .i64 7] w fun e w' => e = .returned (.tuple #[(kindD 7).val, .bool true]) ∧ Below w.heap.size w w' := by
  go_enter Tryz.func156, Tryz.ntmps156
  go_wp2
  refine bodyPost_ret (results_row_tmp rfl _ _ w.heap.size 154 #[.string ⟨#[42]⟩, .string ⟨#[]⟩, .string ⟨#[]⟩, .string ⟨#[]⟩, .string ⟨#[]⟩, .string ⟨#[]⟩, .string ⟨#[]⟩, .string ⟨#[]⟩, .string ⟨#[]⟩, .int .i64 (0), .int .i64 (65535), .func (.func 191) #[] #[]] (0, 0) _ rfl (Blk.new w _ _) Tryz.underlying154 rfl (by kernel_rfl)) rfl ⟨rfl, ?_⟩
  exact (Below.refl _ _).alloc (Nat.le_refl _) _
set_option maxHeartbeats 2000000 in
theorem find_8 (w : World) : Calls Tryz.prog 156 #[.int .i64 8] w fun e w' => e = .returned (.tuple #[(kindD 8).val, .bool true]) ∧ Below w.heap.size w w' := by
  go_enter Tryz.func156, Tryz.ntmps156
  go_wp2
  refine bodyPost_ret (results_row_tmp rfl _ _ w.heap.size 154 #[.string ⟨#[78, 90]⟩, .string ⟨#[90]⟩, .string ⟨#[78, 67]⟩, .string ⟨#[67]⟩, .string ⟨#[80, 79]⟩, .string ⟨#[80, 69]⟩, .string ⟨#[80]⟩, .string ⟨#[77]⟩, .string ⟨#[]⟩, .int .i64 (0), .int .i64 (0), .func (.func 185) #[] #[]] (0, 0) _ rfl (Blk.new w _ _) Tryz.underlying154 rfl (by kernel_rfl)) rfl ⟨rfl, ?_⟩
  exact (Below.refl _ _).alloc (Nat.le_refl _) _
set_option maxHeartbeats 2000000 in
theorem find_9 (w : World) : Calls Tryz.prog 156 #[.int .i64 9] w fun e w' => e = .returned (.tuple #[(kindD 9).val, .bool true]) ∧ Below w.heap.size w w' := by
  go_enter Tryz.func156, Tryz.ntmps156
  go_wp2
  refine bodyPost_ret (results_row_tmp rfl _ _ w.heap.size 154 #[.string ⟨#[73]⟩, .string ⟨#[82]⟩, .string ⟨#[]⟩, .string ⟨#[]⟩, .string ⟨#[]⟩, .string ⟨#[]⟩, .string ⟨#[]⟩, .string ⟨#[]⟩, .string ⟨#[]⟩, .int .i64 (0), .int .i64 (0), .func (.func 185) #[] #[]] (0, 0) _ rfl (Blk.new w _ _) Tryz.underlying154 rfl (by kernel_rfl)) rfl ⟨rfl, ?_⟩
  exact (Below.refl _ _).alloc (Nat.le_refl _) _
set_option maxHeartbeats 2000000 in
theorem find_10 (w : World) : Calls Tryz.prog 156 #[.int .i64 10] w fun e w' => e = .returned (.tuple #[(kindD 10).val, .bool true]) ∧ Below w.heap.size w w' := by
  go_enter Tryz.func156, Tryz.ntmps156
  go_wp2
  refine bodyPost_ret (results_row_tmp rfl _ _ w.heap.size 154 #[.string ⟨#[42]⟩, .string ⟨#[]⟩, .string ⟨#[]⟩, .string ⟨#[]⟩, .string ⟨#[]⟩, .string ⟨#[]⟩, .string ⟨#[]⟩, .string ⟨#[]⟩, .string ⟨#[]⟩, .int .i64 (-128), .int .i64 (127), .func (.func 192) #[] #[]] (0, 0) _ rfl (Blk.new w _ _) Tryz.underlying154 rfl (by kernel_rfl)) rfl ⟨rfl, ?_⟩
  exact (Below.refl _ _).alloc (Nat.le_refl _) _
set_option maxHeartbeats 2000000 in
theorem find_none (k : Int) (h1 : (k == 1) = false) (h2 : (k == 2) = false) (h3 : (k == 3) = false) (h4 : (k == 4) = false) (h5 : (k == 5) = false) (h6 : (k == 6) = false) (h7 : (k == 7) = false) (h8 : (k == 8) = false) (h9 : (k == 9) = false) (h10 : (k == 10) = false) (w : World) : Calls Tryz.prog 156 #[.int .i64 k] w fun e w' => e = .returned (.tuple #[kindNil, .bool false]) ∧ Below w.heap.size w w' := by
  go_enter Tryz.func156, Tryz.ntmps156
  go_wp2
  refine bodyPost_ret (results_row_tmp rfl _ _ w.heap.size 154 #[.string ⟨#[]⟩, .string ⟨#[]⟩, .string ⟨#[]⟩, .string ⟨#[]⟩, .string ⟨#[]⟩, .string ⟨#[]⟩, .string ⟨#[]⟩, .string ⟨#[]⟩, .string ⟨#[]⟩, .int .i64 0, .int .i64 0, .nilFunc] (0, 0) _ rfl (Blk.new w _ _) Tryz.underlying154 rfl (by kernel_rfl)) rfl ⟨rfl, ?_⟩
  exact (Below.refl _ _).alloc (Nat.le_refl _) _
theorem find_ok (k : Int) (hk : kindOk k = true) (w : World) : Calls Tryz.prog 156 #[.int .i64 k] w fun e w' => e = .returned (.tuple #[(kindD k).val, .bool true]) ∧ Below w.heap.size w w' := by
  by_cases h1 : k = 1
  · subst h1; exact find_1 w
  by_cases h2 : k = 2
  · subst h2; exact find_2 w
  by_cases h3 : k = 3
  · subst h3; exact find_3 w
  by_cases h4 : k = 4
  · subst h4; exact find_4 w
  by_cases h5 : k = 5
  · subst h5; exact find_5 w
  by_cases h6 : k = 6
  · subst h6; exact find_6 w
  by_cases h7 : k = 7
  · subst h7; exact find_7 w
  by_cases h8 : k = 8
  · subst h8; exact find_8 w
  by_cases h9 : k = 9
  · subst h9; exact find_9 w
  by_cases h10 : k = 10
  · subst h10; exact find_10 w
  simp [kindOk, h1, h2, h3, h4, h5, h6, h7, h8, h9, h10] at hk
theorem find_no (k : Int) (hk : kindOk k = false) (w : World) : Calls Tryz.prog 156 #[.int .i64 k] w fun e w' => e = .returned (.tuple #[kindNil, .bool false]) ∧ Below w.heap.size w w' := by
  simp only [kindOk, Bool.or_eq_false_iff] at hk
  obtain ⟨⟨⟨⟨⟨⟨⟨⟨⟨h1, h2⟩, h3⟩, h4⟩, h5⟩, h6⟩, h7⟩, h8⟩, h9⟩, h10⟩ := hk
  exact find_none k h1 h2 h3 h4 h5 h6 h7 h8 h9 h10 w
end Go.Proofs.YtlepicdjnbbndaaGreatDoor

/-
  A NUMBER IN A RANGE: num.Fits with one number.
-/
namespace Go.Proofs.YtlepicdjnbbndaaGreatDoor
open Go.RowKit

def fitsB (lo hi n : Int) : Bool := decide (lo ≤ n) && decide (n ≤ hi)
set_option maxHeartbeats 1000000 in
theorem fits_any (lo hi n : Int) (b : Nat) (w : World) (hc : w.cell? ⟨b, 0, none⟩ = some (.int .i64 n)) :
    Calls Tryz.prog 157 #[.int .i64 lo, .int .i64 hi, .slice (some ⟨b, 0, none⟩) 1 1] w fun e w' => e = .returned (.bool (fitsB lo hi n)) ∧ w' = w := by
  cases h1 : decide (n < lo)
  · cases h2 : decide (hi < n)
    · have HV := Lib.hid (show fitsB lo hi n = true by have := of_decide_eq_false h1; have := of_decide_eq_false h2; simp [fitsB]; omega)
      go_enter Tryz.func157, Tryz.ntmps157
      go_wp2
      refine wp_loop_rounds 4 ?_
      rw [rounds_succ]
      go_wp2
      rw [rounds_succ]
      go_wp2
      go_ret
      exact ⟨ret_bool HV.out.symm, rfl⟩
    · have HV := Lib.hid (show fitsB lo hi n = false by have := of_decide_eq_true h2; simp [fitsB]; omega)
      go_enter Tryz.func157, Tryz.ntmps157
      go_wp2
      refine wp_loop_rounds 4 ?_
      rw [rounds_succ]
      go_wp2
      go_ret
      exact ⟨ret_bool HV.out.symm, rfl⟩
  · have HV := Lib.hid (show fitsB lo hi n = false by have := of_decide_eq_true h1; simp [fitsB]; omega)
    go_enter Tryz.func157, Tryz.ntmps157
    go_wp2
    refine wp_loop_rounds 4 ?_
    rw [rounds_succ]
    go_wp2
    go_ret
    exact ⟨ret_bool HV.out.symm, rfl⟩
end Go.Proofs.YtlepicdjnbbndaaGreatDoor

/-
  WHICH OPERANDS ARE VALID: operand.of.
-/
namespace Go.Proofs.YtlepicdjnbbndaaGreatDoor
open Go.RowKit

theorem Blk.set' {w : World} {g : Nat} {t : TypeId} {cs cs' : Array Value} (h : Blk w g t cs) (i : Nat) (u : Value) (hc : cs.setIfInBounds i u = cs') : Blk (w.setCell ⟨g, i, none⟩ u) g t cs' := hc ▸ h.set i u
theorem Blk.drew {w : World} {g : Nat} {t : TypeId} {cs : Array Value} (h : Blk w g t cs) : Blk w.drew g t cs := h
set_option maxHeartbeats 1000000 in
theorem Blk.set12 {w : World} {g : Nat} {t : TypeId} {z0 z1 z2 z3 z4 z5 z6 z7 z8 z9 z10 z11 : Value} (h : Blk w g t #[z0, z1, z2, z3, z4, z5, z6, z7, z8, z9, z10, z11]) (a0 a1 a2 a3 a4 a5 a6 a7 a8 a9 a10 a11 : Value) : Blk (((((((((((((w.setCell ⟨g, 0, none⟩ a0).setCell ⟨g, 1, none⟩ a1).setCell ⟨g, 2, none⟩ a2).setCell ⟨g, 3, none⟩ a3).setCell ⟨g, 4, none⟩ a4).setCell ⟨g, 5, none⟩ a5).setCell ⟨g, 6, none⟩ a6).setCell ⟨g, 7, none⟩ a7).setCell ⟨g, 8, none⟩ a8).setCell ⟨g, 9, none⟩ a9).setCell ⟨g, 10, none⟩ a10).setCell ⟨g, 11, none⟩ a11)).drew g t #[a0, a1, a2, a3, a4, a5, a6, a7, a8, a9, a10, a11] := by
  have h0 := h.set' 0 a0 (cs' := #[a0, z1, z2, z3, z4, z5, z6, z7, z8, z9, z10, z11]) (by simp)
  have h1 := h0.set' 1 a1 (cs' := #[a0, a1, z2, z3, z4, z5, z6, z7, z8, z9, z10, z11]) (by simp)
  have h2 := h1.set' 2 a2 (cs' := #[a0, a1, a2, z3, z4, z5, z6, z7, z8, z9, z10, z11]) (by simp)
  have h3 := h2.set' 3 a3 (cs' := #[a0, a1, a2, a3, z4, z5, z6, z7, z8, z9, z10, z11]) (by simp)
  have h4 := h3.set' 4 a4 (cs' := #[a0, a1, a2, a3, a4, z5, z6, z7, z8, z9, z10, z11]) (by simp)
  have h5 := h4.set' 5 a5 (cs' := #[a0, a1, a2, a3, a4, a5, z6, z7, z8, z9, z10, z11]) (by simp)
  have h6 := h5.set' 6 a6 (cs' := #[a0, a1, a2, a3, a4, a5, a6, z7, z8, z9, z10, z11]) (by simp)
  have h7 := h6.set' 7 a7 (cs' := #[a0, a1, a2, a3, a4, a5, a6, a7, z8, z9, z10, z11]) (by simp)
  have h8 := h7.set' 8 a8 (cs' := #[a0, a1, a2, a3, a4, a5, a6, a7, a8, z9, z10, z11]) (by simp)
  have h9 := h8.set' 9 a9 (cs' := #[a0, a1, a2, a3, a4, a5, a6, a7, a8, a9, z10, z11]) (by simp)
  have h10 := h9.set' 10 a10 (cs' := #[a0, a1, a2, a3, a4, a5, a6, a7, a8, a9, a10, z11]) (by simp)
  have h11 := h10.set' 11 a11 (cs' := #[a0, a1, a2, a3, a4, a5, a6, a7, a8, a9, a10, a11]) (by simp)
  exact h11.drew
theorem below_set12 {w0 w : World} {B g : Nat} (h : Below B w0 w) (hg : B ≤ g) (a0 a1 a2 a3 a4 a5 a6 a7 a8 a9 a10 a11 : Value) : Below B w0 (((((((((((((w.setCell ⟨g, 0, none⟩ a0).setCell ⟨g, 1, none⟩ a1).setCell ⟨g, 2, none⟩ a2).setCell ⟨g, 3, none⟩ a3).setCell ⟨g, 4, none⟩ a4).setCell ⟨g, 5, none⟩ a5).setCell ⟨g, 6, none⟩ a6).setCell ⟨g, 7, none⟩ a7).setCell ⟨g, 8, none⟩ a8).setCell ⟨g, 9, none⟩ a9).setCell ⟨g, 10, none⟩ a10).setCell ⟨g, 11, none⟩ a11)).drew :=
  ((((((((((((h.setCell (p := ⟨g, 0, none⟩) hg a0).setCell (p := ⟨g, 1, none⟩) hg a1).setCell (p := ⟨g, 2, none⟩) hg a2).setCell (p := ⟨g, 3, none⟩) hg a3).setCell (p := ⟨g, 4, none⟩) hg a4).setCell (p := ⟨g, 5, none⟩) hg a5).setCell (p := ⟨g, 6, none⟩) hg a6).setCell (p := ⟨g, 7, none⟩) hg a7).setCell (p := ⟨g, 8, none⟩) hg a8).setCell (p := ⟨g, 9, none⟩) hg a9).setCell (p := ⟨g, 10, none⟩) hg a10).setCell (p := ⟨g, 11, none⟩) hg a11).drew
def okOpd (o : Opd) : Bool := kindOk o.kind && decide (0 ≤ o.reg) && decide (o.reg < 9) && !(((kindD o.kind).nm o.reg.toNat).toList == []) && fitsB (kindD o.kind).lo (kindD o.kind).hi o.n

set_option maxHeartbeats 4000000 in
theorem of_noKind (k r n : Int) (hk : kindOk k = false) (w : World) : Calls Tryz.prog 113 #[.agg #[.int .i64 k, .int .i64 r, .int .i64 n]] w fun e w' => e = .returned (.tuple #[kindNil, .string ⟨#[]⟩, .bool false]) ∧ Below w.heap.size w w' := by
  have HK : Hid (Blk (w.alloc (.cells #[.int .i64 k, .int .i64 r, .int .i64 n] 87)) w.heap.size 87 #[.int .i64 k, .int .i64 r, .int .i64 n]) := Blk.new w _ _
  obtain ⟨W, hW⟩ : ∃ W : World, W = (w.alloc (.cells #[.int .i64 k, .int .i64 r, .int .i64 n] 87)).alloc (.cells #[.string ⟨#[]⟩, .string ⟨#[]⟩, .string ⟨#[]⟩, .string ⟨#[]⟩, .string ⟨#[]⟩, .string ⟨#[]⟩, .string ⟨#[]⟩, .string ⟨#[]⟩, .string ⟨#[]⟩, .int .i64 0, .int .i64 0, .nilFunc] 154) := ⟨_, rfl⟩
  have HBW : Hid (Below w.heap.size w W) := hW ▸ ((Below.refl _ _).alloc (Nat.le_refl _) _).alloc (by simp) _
  have HKW : Hid (Blk W w.heap.size 87 #[.int .i64 k, .int .i64 r, .int .i64 n]) := hW ▸ HK.out.alloc _
  have HZW : Hid (Blk W (w.heap.size + 1) 154 #[.string ⟨#[]⟩, .string ⟨#[]⟩, .string ⟨#[]⟩, .string ⟨#[]⟩, .string ⟨#[]⟩, .string ⟨#[]⟩, .string ⟨#[]⟩, .string ⟨#[]⟩, .string ⟨#[]⟩, .int .i64 0, .int .i64 0, .nilFunc]) := Lib.hid (by rw [hW]; exact (by simpa using Blk.new (w.alloc (.cells #[.int .i64 k, .int .i64 r, .int .i64 n] 87)) 154 #[.string ⟨#[]⟩, .string ⟨#[]⟩, .string ⟨#[]⟩, .string ⟨#[]⟩, .string ⟨#[]⟩, .string ⟨#[]⟩, .string ⟨#[]⟩, .string ⟨#[]⟩, .string ⟨#[]⟩, .int .i64 0, .int .i64 0, .nilFunc]))
  have HFI := Lib.hid (find_no k hk W)
  simp only [kindNil] at HFI
  go_enter Tryz.func113, Tryz.ntmps113
  go_wp2_with fail
  rw [← hW]
  clear hW HK
  refine HFI.out.mono ?_
  rintro e w1 ⟨rfl, hb⟩
  have HB := Lib.hid hb
  have b0 : w1.cell? ⟨w.heap.size, 0, none⟩ = some (.int .i64 k) := (hb.cell (p := ⟨w.heap.size, 0, none⟩) HKW.out.lt).trans (HKW.out.cell 0)
  have b1 : w1.cell? ⟨w.heap.size, 1, none⟩ = some (.int .i64 r) := (hb.cell (p := ⟨w.heap.size, 1, none⟩) HKW.out.lt).trans (HKW.out.cell 1)
  have b2 : w1.cell? ⟨w.heap.size, 2, none⟩ = some (.int .i64 n) := (hb.cell (p := ⟨w.heap.size, 2, none⟩) HKW.out.lt).trans (HKW.out.cell 2)
  have HZ := Lib.hid (HZW.out.below hb HZW.out.lt)
  have hlt1 : w.heap.size < w1.heap.size := Nat.lt_of_lt_of_le HKW.out.lt hb.size
  have hlt2 : w.heap.size + 1 < w1.heap.size := Nat.lt_of_lt_of_le HZW.out.lt hb.size
  clear hb
  go_upto_region 3 with fail
  go_wp2_with (refine wpList_store_row rfl 154 _ _ rfl (w.heap.size + 1) #[.string ⟨#[]⟩, .string ⟨#[]⟩, .string ⟨#[]⟩, .string ⟨#[]⟩, .string ⟨#[]⟩, .string ⟨#[]⟩, .string ⟨#[]⟩, .string ⟨#[]⟩, .string ⟨#[]⟩, .int .i64 0, .int .i64 0, .nilFunc] rfl rfl 154 _ (HZ.out.alloc _) (by kernel_rfl) rfl (by kernel_rfl) ?_)
  refine bodyPost_ret (results_row_tmp2 rfl _ _ (w.heap.size + 1) 154 #[.string ⟨#[]⟩, .string ⟨#[]⟩, .string ⟨#[]⟩, .string ⟨#[]⟩, .string ⟨#[]⟩, .string ⟨#[]⟩, .string ⟨#[]⟩, .string ⟨#[]⟩, .string ⟨#[]⟩, .int .i64 0, .int .i64 0, .nilFunc] (0, 0) _ rfl (setRow_heap _ _ _ _ _ _ (HZ.out.alloc _)) Tryz.underlying154 rfl (by kernel_rfl)) rfl ⟨rfl, ?_⟩
  exact below_setRow ((HBW.out.trans (HB.out.mono HBW.out.size)).alloc (Nat.le_trans HBW.out.size HB.out.size) _) (by omega) _

set_option maxHeartbeats 4000000 in
theorem of_neg (k r n : Int) (hk : kindOk k = true) (h0 : decide (r < 0) = true) (w : World) : Calls Tryz.prog 113 #[.agg #[.int .i64 k, .int .i64 r, .int .i64 n]] w fun e w' => e = .returned (.tuple #[kindNil, .string ⟨#[]⟩, .bool false]) ∧ Below w.heap.size w w' := by
  have HK : Hid (Blk (w.alloc (.cells #[.int .i64 k, .int .i64 r, .int .i64 n] 87)) w.heap.size 87 #[.int .i64 k, .int .i64 r, .int .i64 n]) := Blk.new w _ _
  obtain ⟨W, hW⟩ : ∃ W : World, W = (w.alloc (.cells #[.int .i64 k, .int .i64 r, .int .i64 n] 87)).alloc (.cells #[.string ⟨#[]⟩, .string ⟨#[]⟩, .string ⟨#[]⟩, .string ⟨#[]⟩, .string ⟨#[]⟩, .string ⟨#[]⟩, .string ⟨#[]⟩, .string ⟨#[]⟩, .string ⟨#[]⟩, .int .i64 0, .int .i64 0, .nilFunc] 154) := ⟨_, rfl⟩
  have HBW : Hid (Below w.heap.size w W) := hW ▸ ((Below.refl _ _).alloc (Nat.le_refl _) _).alloc (by simp) _
  have HKW : Hid (Blk W w.heap.size 87 #[.int .i64 k, .int .i64 r, .int .i64 n]) := hW ▸ HK.out.alloc _
  have HZW : Hid (Blk W (w.heap.size + 1) 154 #[.string ⟨#[]⟩, .string ⟨#[]⟩, .string ⟨#[]⟩, .string ⟨#[]⟩, .string ⟨#[]⟩, .string ⟨#[]⟩, .string ⟨#[]⟩, .string ⟨#[]⟩, .string ⟨#[]⟩, .int .i64 0, .int .i64 0, .nilFunc]) := Lib.hid (by rw [hW]; exact (by simpa using Blk.new (w.alloc (.cells #[.int .i64 k, .int .i64 r, .int .i64 n] 87)) 154 #[.string ⟨#[]⟩, .string ⟨#[]⟩, .string ⟨#[]⟩, .string ⟨#[]⟩, .string ⟨#[]⟩, .string ⟨#[]⟩, .string ⟨#[]⟩, .string ⟨#[]⟩, .string ⟨#[]⟩, .int .i64 0, .int .i64 0, .nilFunc]))
  have HFI := Lib.hid (find_ok k hk W)
  simp only [KindD.val] at HFI
  have HC : Hid (∀ (wx : World) (b : Nat), b = wx.heap.size → (wx.alloc (.cells #[.int .i64 n] 3)).cell? ⟨b, 0, none⟩ = some (.int .i64 n)) := fun wx b hb => by rw [hb]; exact (Blk.new wx _ _).cell 0
  go_enter Tryz.func113, Tryz.ntmps113
  go_wp2_with fail
  rw [← hW]
  clear hW HK
  refine HFI.out.mono ?_
  rintro e w1 ⟨rfl, hb⟩
  have HB := Lib.hid hb
  have b0 : w1.cell? ⟨w.heap.size, 0, none⟩ = some (.int .i64 k) := (hb.cell (p := ⟨w.heap.size, 0, none⟩) HKW.out.lt).trans (HKW.out.cell 0)
  have b1 : w1.cell? ⟨w.heap.size, 1, none⟩ = some (.int .i64 r) := (hb.cell (p := ⟨w.heap.size, 1, none⟩) HKW.out.lt).trans (HKW.out.cell 1)
  have b2 : w1.cell? ⟨w.heap.size, 2, none⟩ = some (.int .i64 n) := (hb.cell (p := ⟨w.heap.size, 2, none⟩) HKW.out.lt).trans (HKW.out.cell 2)
  have HZ := Lib.hid (HZW.out.below hb HZW.out.lt)
  have hlt1 : w.heap.size < w1.heap.size := Nat.lt_of_lt_of_le HKW.out.lt hb.size
  have hlt2 : w.heap.size + 1 < w1.heap.size := Nat.lt_of_lt_of_le HZW.out.lt hb.size
  clear hb
  go_upto_region 3 with fail
  go_wp2_with (refine wpList_store_row rfl 154 _ _ rfl (w.heap.size + 1) #[.string ⟨#[]⟩, .string ⟨#[]⟩, .string ⟨#[]⟩, .string ⟨#[]⟩, .string ⟨#[]⟩, .string ⟨#[]⟩, .string ⟨#[]⟩, .string ⟨#[]⟩, .string ⟨#[]⟩, .int .i64 0, .int .i64 0, .nilFunc] rfl rfl 154 _ (HZ.out.alloc _) (by kernel_rfl) rfl (by kernel_rfl) ?_)
  refine bodyPost_ret (results_row_tmp2 rfl _ _ (w.heap.size + 1) 154 #[.string ⟨#[]⟩, .string ⟨#[]⟩, .string ⟨#[]⟩, .string ⟨#[]⟩, .string ⟨#[]⟩, .string ⟨#[]⟩, .string ⟨#[]⟩, .string ⟨#[]⟩, .string ⟨#[]⟩, .int .i64 0, .int .i64 0, .nilFunc] (0, 0) _ rfl (setRow_heap _ _ _ _ _ _ (HZ.out.alloc _)) Tryz.underlying154 rfl (by kernel_rfl)) rfl ⟨rfl, ?_⟩
  exact below_setRow ((HBW.out.trans (HB.out.mono HBW.out.size)).alloc (Nat.le_trans HBW.out.size HB.out.size) _) (by omega) _

set_option maxHeartbeats 4000000 in
theorem of_big (k r n : Int) (hk : kindOk k = true) (h0 : decide (r < 0) = false) (h9 : decide (9 ≤ r) = true) (w : World) : Calls Tryz.prog 113 #[.agg #[.int .i64 k, .int .i64 r, .int .i64 n]] w fun e w' => e = .returned (.tuple #[kindNil, .string ⟨#[]⟩, .bool false]) ∧ Below w.heap.size w w' := by
  have HK : Hid (Blk (w.alloc (.cells #[.int .i64 k, .int .i64 r, .int .i64 n] 87)) w.heap.size 87 #[.int .i64 k, .int .i64 r, .int .i64 n]) := Blk.new w _ _
  obtain ⟨W, hW⟩ : ∃ W : World, W = (w.alloc (.cells #[.int .i64 k, .int .i64 r, .int .i64 n] 87)).alloc (.cells #[.string ⟨#[]⟩, .string ⟨#[]⟩, .string ⟨#[]⟩, .string ⟨#[]⟩, .string ⟨#[]⟩, .string ⟨#[]⟩, .string ⟨#[]⟩, .string ⟨#[]⟩, .string ⟨#[]⟩, .int .i64 0, .int .i64 0, .nilFunc] 154) := ⟨_, rfl⟩
  have HBW : Hid (Below w.heap.size w W) := hW ▸ ((Below.refl _ _).alloc (Nat.le_refl _) _).alloc (by simp) _
  have HKW : Hid (Blk W w.heap.size 87 #[.int .i64 k, .int .i64 r, .int .i64 n]) := hW ▸ HK.out.alloc _
  have HZW : Hid (Blk W (w.heap.size + 1) 154 #[.string ⟨#[]⟩, .string ⟨#[]⟩, .string ⟨#[]⟩, .string ⟨#[]⟩, .string ⟨#[]⟩, .string ⟨#[]⟩, .string ⟨#[]⟩, .string ⟨#[]⟩, .string ⟨#[]⟩, .int .i64 0, .int .i64 0, .nilFunc]) := Lib.hid (by rw [hW]; exact (by simpa using Blk.new (w.alloc (.cells #[.int .i64 k, .int .i64 r, .int .i64 n] 87)) 154 #[.string ⟨#[]⟩, .string ⟨#[]⟩, .string ⟨#[]⟩, .string ⟨#[]⟩, .string ⟨#[]⟩, .string ⟨#[]⟩, .string ⟨#[]⟩, .string ⟨#[]⟩, .string ⟨#[]⟩, .int .i64 0, .int .i64 0, .nilFunc]))
  have HFI := Lib.hid (find_ok k hk W)
  simp only [KindD.val] at HFI
  have HC : Hid (∀ (wx : World) (b : Nat), b = wx.heap.size → (wx.alloc (.cells #[.int .i64 n] 3)).cell? ⟨b, 0, none⟩ = some (.int .i64 n)) := fun wx b hb => by rw [hb]; exact (Blk.new wx _ _).cell 0
  go_enter Tryz.func113, Tryz.ntmps113
  go_wp2_with fail
  rw [← hW]
  clear hW HK
  refine HFI.out.mono ?_
  rintro e w1 ⟨rfl, hb⟩
  have HB := Lib.hid hb
  have b0 : w1.cell? ⟨w.heap.size, 0, none⟩ = some (.int .i64 k) := (hb.cell (p := ⟨w.heap.size, 0, none⟩) HKW.out.lt).trans (HKW.out.cell 0)
  have b1 : w1.cell? ⟨w.heap.size, 1, none⟩ = some (.int .i64 r) := (hb.cell (p := ⟨w.heap.size, 1, none⟩) HKW.out.lt).trans (HKW.out.cell 1)
  have b2 : w1.cell? ⟨w.heap.size, 2, none⟩ = some (.int .i64 n) := (hb.cell (p := ⟨w.heap.size, 2, none⟩) HKW.out.lt).trans (HKW.out.cell 2)
  have HZ := Lib.hid (HZW.out.below hb HZW.out.lt)
  have hlt1 : w.heap.size < w1.heap.size := Nat.lt_of_lt_of_le HKW.out.lt hb.size
  have hlt2 : w.heap.size + 1 < w1.heap.size := Nat.lt_of_lt_of_le HZW.out.lt hb.size
  clear hb
  go_upto_region 3 with fail
  go_wp2_with (refine wpList_store_row rfl 154 _ _ rfl (w.heap.size + 1) #[.string ⟨#[]⟩, .string ⟨#[]⟩, .string ⟨#[]⟩, .string ⟨#[]⟩, .string ⟨#[]⟩, .string ⟨#[]⟩, .string ⟨#[]⟩, .string ⟨#[]⟩, .string ⟨#[]⟩, .int .i64 0, .int .i64 0, .nilFunc] rfl rfl 154 _ (HZ.out.alloc _) (by kernel_rfl) rfl (by kernel_rfl) ?_)
  refine bodyPost_ret (results_row_tmp2 rfl _ _ (w.heap.size + 1) 154 #[.string ⟨#[]⟩, .string ⟨#[]⟩, .string ⟨#[]⟩, .string ⟨#[]⟩, .string ⟨#[]⟩, .string ⟨#[]⟩, .string ⟨#[]⟩, .string ⟨#[]⟩, .string ⟨#[]⟩, .int .i64 0, .int .i64 0, .nilFunc] (0, 0) _ rfl (setRow_heap _ _ _ _ _ _ (HZ.out.alloc _)) Tryz.underlying154 rfl (by kernel_rfl)) rfl ⟨rfl, ?_⟩
  exact below_setRow ((HBW.out.trans (HB.out.mono HBW.out.size)).alloc (Nat.le_trans HBW.out.size HB.out.size) _) (by omega) _

end Go.Proofs.YtlepicdjnbbndaaGreatDoor
