/-
  Marks, numbers and shapes of instructions, the program's and the references'. Conditions: sizes.
-/
import Derived.Test.YtkkjoghfdmmpaaaDoorK4
import Derived.Test.YtkkjoghfdmmpaaaDoorK2
import Derived.Test.YtkkjoghfdmmpaaaDoorK1
import Derived.Laws.CopyOwn
import Derived.Lib.Join
import Derived.Lib.Strings
import Derived.Test.YtkkjoghfdmmpaaaDoorShelf
import Derived.Deep.RegionHeld3
/-
  PLAIN LAWS: the canonical form of a legal instruction is legal, and its numbers are not negative as far as the width permits.
-/
namespace Go.Proofs.YtkkjoghfdmmpaaaDoor
open Go.RowKit

theorem check_zero {x : Ins} (h : check07 x = 0) : inL opsL x.op = true ∧ x.args.length ≤ 3 ∧ ∀ y ∈ x.args, validOpd y = true := by
  unfold check07 at h
  cases h1 : inL opsL x.op
  · rw [h1] at h; simp at h
  · rw [h1] at h
    by_cases h2 : 3 < x.args.length
    · simp [h2] at h
    · simp only [Bool.not_true, Bool.false_eq_true, if_false, h2] at h
      refine ⟨rfl, by omega, ?_⟩
      cases h3 : x.args.all validOpd
      · rw [h3] at h; simp at h
      · simpa using h3
theorem zero_check {x : Ins} (h1 : inL opsL x.op = true) (h2 : x.args.length ≤ 3) (h3 : ∀ y ∈ x.args, validOpd y = true) : check07 x = 0 := by
  have h4 : x.args.all validOpd = true := by simpa using h3
  have h5 : ¬ 3 < x.args.length := by omega
  simp only [check07, h1, h4, h5, Bool.not_true, Bool.false_eq_true, if_false, if_true]

theorem valid_imm {o : Opd} (hk : o.kind = 6) (h : validOpd o = true) : o.reg = 0 ∧ -32768 ≤ o.n ∧ o.n ≤ 65535 := by
  obtain ⟨k, r, n⟩ := o
  dsimp only at hk
  subst hk
  simp [validOpd] at h
  exact ⟨h.1.1, h.1.2, h.2⟩
theorem imm_valid {r n : Int} (hr : r = 0) (h1 : -32768 ≤ n) (h2 : n ≤ 65535) : validOpd ⟨6, r, n⟩ = true := by
  subst hr
  simp [validOpd, h1, h2]
theorem sizeOfW_cases (w : Int) : sizeOfW w = 65536 ∨ sizeOfW w = 256 ∨ sizeOfW w = 1 := by unfold sizeOfW; split; simp; split <;> simp
theorem numb_valid {w : Int} {o : Opd} (h : validOpd o = true) : validOpd (numb (sizeOfW w) o) = true := by
  by_cases hc : o.kind = 6 ∧ o.n < 0 ∧ -(sizeOfW w / 2) ≤ o.n ∧ 1 < sizeOfW w
  · have e : numb (sizeOfW w) o = { o with n := o.n + sizeOfW w } := by unfold numb; rw [if_pos hc]
    rw [e]
    obtain ⟨hk, hn, h1, h2⟩ := hc
    obtain ⟨v1, v2, v3⟩ := valid_imm hk h
    obtain ⟨k, r, n⟩ := o
    dsimp only at *
    subst hk
    have := sizeOfW_le w
    exact imm_valid v1 (by omega) (by omega)
  · have e : numb (sizeOfW w) o = o := by unfold numb; rw [if_neg hc]
    rw [e]; exact h
theorem regA_valid : validOpd regA = true := by decide +kernel
theorem opDE_valid : validOpd opDE = true := by decide +kernel
theorem opHL_valid : validOpd opHL = true := by decide +kernel
theorem accum_all {s : ByteArray} {l : List Opd} (P : Opd → Prop) (hA : P regA) (h : ∀ y ∈ l, P y) : ∀ y ∈ accum s l, P y := by
  intro y hy
  unfold accum at hy
  split at hy
  · split at hy
    · rcases List.mem_cons.1 hy with rfl | hy
      · exact hA
      · exact h y hy
    · exact h y hy
  · split at hy
    · exact h y (by simp at hy ⊢; exact .inr hy)
    · exact h y hy
  · exact h y hy
theorem exch_all {s : ByteArray} {l : List Opd} (P : Opd → Prop) (hD : P opDE) (hH : P opHL) (h : ∀ y ∈ l, P y) : ∀ y ∈ exch s l, P y := by
  intro y hy
  unfold exch at hy
  split at hy
  · simp at hy
    rcases hy with rfl | rfl
    · exact hD
    · exact hH
  · exact h y hy
theorem accum_len {s : ByteArray} {l : List Opd} (h : l.length ≤ 3) : (accum s l).length ≤ 3 := by
  unfold accum
  split
  · split <;> simp
  · split <;> simp
  · exact h
theorem exch_len {s : ByteArray} {l : List Opd} (h : l.length ≤ 3) : (exch s l).length ≤ 3 := by
  unfold exch
  split
  · simp
  · exact h
theorem canonArgs_eq (s : ByteArray) (l : List Opd) : canonArgs s l = (exch s (accum s l)).map (numb (sizeOfW (width ⟨s, l⟩))) := by
  unfold canonArgs; dsimp only; rw [width_exac]
theorem canon_check {x : Ins} (h : check07 x = 0) : check07 (canonOf x) = 0 := by
  obtain ⟨h1, h2, h3⟩ := check_zero h
  obtain ⟨s, l⟩ := x
  refine zero_check h1 ?_ ?_
  · show (canonArgs s l).length ≤ 3
    rw [canonArgs_eq, List.length_map]
    exact exch_len (accum_len h2)
  · show ∀ y ∈ canonArgs s l, validOpd y = true
    rw [canonArgs_eq]
    intro y hy
    obtain ⟨z, hz, rfl⟩ := List.mem_map.1 hy
    exact numb_valid (exch_all (validOpd · = true) opDE_valid opHL_valid (accum_all (validOpd · = true) regA_valid h3) z hz)
theorem canon_numb {x : Ins} (h : check07 x = 0) : ∀ y ∈ (canonOf x).args, y.kind = 6 → y.n < 0 → width x ≠ 2 ∧ (width x = 1 → y.n < -128) := by
  obtain ⟨_, _, h3⟩ := check_zero h
  obtain ⟨s, l⟩ := x
  show ∀ y ∈ canonArgs s l, _
  rw [canonArgs_eq]
  intro y hy hk hn
  obtain ⟨z, hz, rfl⟩ := List.mem_map.1 hy
  have hv := exch_all (validOpd · = true) opDE_valid opHL_valid (accum_all (validOpd · = true) regA_valid h3) z hz
  rw [numb_kind] at hk
  obtain ⟨_, v2, v3⟩ := valid_imm hk hv
  have key : ∀ sz : Int, (numb sz z).n < 0 → z.n < 0 ∧ (1 < sz → z.n < -(sz / 2)) ∧ (numb sz z).n ≤ z.n ∨ sz ≤ 0 := by
    intro sz hlt
    by_cases hc : z.kind = 6 ∧ z.n < 0 ∧ -(sz / 2) ≤ z.n ∧ 1 < sz
    · have e : numb sz z = { z with n := z.n + sz } := by unfold numb; rw [if_pos hc]
      rw [e] at hlt
      dsimp only at hlt
      omega
    · have e : numb sz z = z := by unfold numb; rw [if_neg hc]
      rw [e] at hlt ⊢
      left
      exact ⟨hlt, fun h1 => by
        have : ¬ (-(sz / 2) ≤ z.n) := fun h2 => hc ⟨hk, hlt, h2, h1⟩
        omega, Int.le_refl _⟩
  rcases width_cases ⟨s, l⟩ with hw | hw | hw <;> rw [hw] at hn ⊢ <;> simp only [sizeOfW] at hn ⊢
  · simp
  · rcases key 256 hn with ⟨k1, k2, k3⟩ | k
    · refine ⟨by decide, fun _ => ?_⟩
      have := k2 (by decide)
      exact Int.lt_of_le_of_lt k3 (by omega)
    · omega
  · rcases key 65536 hn with ⟨k1, k2, k3⟩ | k
    · have := k2 (by decide)
      omega
    · omega
end Go.Proofs.YtkkjoghfdmmpaaaDoor

/-
  THE TEXT OF AN OPERAND THAT HAS NO NUMBER; instr.marked; the reference's number.
-/
namespace Go.Proofs.YtkkjoghfdmmpaaaDoor
open Go.RowKit

theorem plain_any (s : ByteArray) (n : Int) (w : World) : Calls Tryd.prog 159 #[.string s, .int .i64 n] w fun e w' => e = .returned (.string s) ∧ w' = w := by
  go_enter Tryd.func159, Tryd.ntmps159
  go_wp2
  go_ret
  exact ⟨rfl, rfl⟩
def paren (s : ByteArray) : ByteArray := ⟨#[40]⟩ ++ s ++ ⟨#[41]⟩
theorem find1_any (s : ByteArray) (n : Int) (w : World) (hs : s.size ≤ 1000) : Calls Tryd.prog 160 #[.string s, .int .i64 n] w fun e w' => e = .returned (.string (paren s)) ∧ w' = w := by
  go_enter Tryd.func160, Tryd.ntmps160
  go_wp2
  go_ret
  exact ⟨rfl, rfl⟩

/-- the text of an operand whose form is its register's name alone, or that name in parentheses -/
def regText (o : Opd) : ByteArray := if okOpd o then (kindD o.kind).nm o.reg.toNat else ⟨#[]⟩
def indText (o : Opd) : ByteArray := if okOpd o then paren ((kindD o.kind).nm o.reg.toNat) else ⟨#[]⟩

theorem text_no (o : Opd) (h : okOpd o = false) (w : World) : Calls Tryd.prog 102 #[.agg #[.int .i64 o.kind, .int .i64 o.reg, .int .i64 o.n]] w fun e w' => e = .returned (.string ⟨#[]⟩) ∧ Below w.heap.size w w' := by
  have HB0 : Hid (Below w.heap.size w (w.alloc (.cells #[.int .i64 o.kind, .int .i64 o.reg, .int .i64 o.n] 47))) := (Below.refl _ _).alloc (Nat.le_refl _) _
  have HO := Lib.hid (of_no o h (w.alloc (.cells #[.int .i64 o.kind, .int .i64 o.reg, .int .i64 o.n] 47)))
  simp only [kindNil] at HO
  go_enter Tryd.func102, Tryd.ntmps102
  go_wp2_with (go_at_call 122; refine HO.out.mono ?_; rintro e w1 ⟨rfl, hb⟩; have HB := Lib.hid (HB0.out.trans (hb.mono HB0.out.size)); clear hb)
  go_ret
  exact ⟨rfl, HB.out.alloc HB.out.size _⟩

set_option maxHeartbeats 1000000 in
theorem text_plain (o : Opd) (hf : (kindD o.kind).form = 159) (w : World) : Calls Tryd.prog 102 #[.agg #[.int .i64 o.kind, .int .i64 o.reg, .int .i64 o.n]] w fun e w' => e = .returned (.string (regText o)) ∧ Below w.heap.size w w' := by
  cases h : okOpd o
  · rw [show regText o = ⟨#[]⟩ by simp [regText, h]]
    exact text_no o h w
  · rw [show regText o = (kindD o.kind).nm o.reg.toNat by simp [regText, h]]
    have HB0 : Hid (Below w.heap.size w (w.alloc (.cells #[.int .i64 o.kind, .int .i64 o.reg, .int .i64 o.n] 47))) := (Below.refl _ _).alloc (Nat.le_refl _) _
    have HK : Hid (Blk (w.alloc (.cells #[.int .i64 o.kind, .int .i64 o.reg, .int .i64 o.n] 47)) w.heap.size 47 #[.int .i64 o.kind, .int .i64 o.reg, .int .i64 o.n]) := Blk.new w _ _
    have ho := of_yes o h (w.alloc (.cells #[.int .i64 o.kind, .int .i64 o.reg, .int .i64 o.n] 47))
    simp only [KindD.val] at ho
    rw [hf] at ho
    have HO := Lib.hid ho
    clear ho hf h
    go_enter Tryd.func102, Tryd.ntmps102
    go_wp2_with (first | (go_at_call 122; refine HO.out.mono ?_; rintro e w1 ⟨rfl, hb⟩; have HB := Lib.hid (HB0.out.trans (hb.mono HB0.out.size)); have c2 : w1.cell? ⟨w.heap.size, 2, none⟩ = some (.int .i64 o.n) := (hb.cell (p := ⟨w.heap.size, 2, none⟩) HK.out.lt).trans (HK.out.cell 2); have hlt : w.heap.size < w1.heap.size := Nat.lt_of_lt_of_le HK.out.lt hb.size; clear hb)
                       | (go_at_call 159; refine (plain_any _ _ _).mono ?_; rintro e w2 ⟨rfl, rfl⟩))
    go_ret
    exact ⟨rfl, HB.out.alloc HB.out.size _⟩
end Go.Proofs.YtkkjoghfdmmpaaaDoor

/-
  WHICH OPERANDS HAVE A NUMBER: instr.marked, the reference's number; instr.Numbers.
-/
namespace Go.Proofs.YtkkjoghfdmmpaaaDoor
open Go.RowKit

def hasNum (o : Opd) : Bool := o.kind == 5 || o.kind == 6 || o.kind == 7 || o.kind == 10
def idxText (r : Int) : ByteArray := ⟨#[40]⟩ ++ regText ⟨3, r, 0⟩ ++ ⟨#[43, 100, 41]⟩
def markS (o : Opd) : ByteArray := if o.kind == 5 then idxText o.reg else if o.kind == 6 then ⟨#[110]⟩ else if o.kind == 7 then ⟨#[40, 110, 41]⟩ else if o.kind == 10 then ⟨#[101]⟩ else ⟨#[]⟩
theorem form3 : (kindD 3).form = 159 := rfl

theorem names_size (k : Int) : ∀ s ∈ (kindD k).names, s.size ≤ 3 := by
  by_cases h1 : k = 1
  · subst h1; decide +kernel
  by_cases h2 : k = 2
  · subst h2; decide +kernel
  by_cases h3 : k = 3
  · subst h3; decide +kernel
  by_cases h4 : k = 4
  · subst h4; decide +kernel
  by_cases h5 : k = 5
  · subst h5; decide +kernel
  by_cases h6 : k = 6
  · subst h6; decide +kernel
  by_cases h7 : k = 7
  · subst h7; decide +kernel
  by_cases h8 : k = 8
  · subst h8; decide +kernel
  by_cases h9 : k = 9
  · subst h9; decide +kernel
  by_cases h10 : k = 10
  · subst h10; decide +kernel
  simp [kindD, h1, h2, h3, h4, h5, h6, h7, h8, h9, h10]
theorem nm_size (k : Int) (i : Nat) : ((kindD k).nm i).size ≤ 3 := by
  unfold KindD.nm
  cases h : (kindD k).names[i]? with
  | none => decide
  | some s => exact names_size k s (List.mem_of_getElem? h)
theorem regText_size (o : Opd) : (regText o).size ≤ 3 := by
  unfold regText
  split
  · exact nm_size _ _
  · decide

set_option maxHeartbeats 1000000 in
theorem number_any (o : Opd) (w : World) : Calls Tryd.prog 105 #[.agg #[.int .i64 o.kind, .int .i64 o.reg, .int .i64 o.n]] w fun e w' => e = .returned (.bool (hasNum o)) ∧ Below w.heap.size w w' := by
  have HB0 : Hid (Below w.heap.size w (w.alloc (.cells #[.int .i64 o.kind, .int .i64 o.reg, .int .i64 o.n] 47))) := (Below.refl _ _).alloc (Nat.le_refl _) _
  obtain ⟨k, r, n⟩ := o
  dsimp only at *
  cases h5 : (k == 5)
  · cases h6 : (k == 6)
    · cases h7 : (k == 7)
      · have HV := Lib.hid (show hasNum ⟨k, r, n⟩ = (k == 10) by simp only [hasNum, h5, h6, h7]; rfl)
        go_enter Tryd.func105, Tryd.ntmps105
        go_wp2
        go_ret
        exact ⟨ret_bool HV.out.symm, HB0.out⟩
      · have HV := Lib.hid (show hasNum ⟨k, r, n⟩ = true by simp only [hasNum, h5, h6, h7]; rfl)
        go_enter Tryd.func105, Tryd.ntmps105
        go_wp2
        go_ret
        exact ⟨ret_bool HV.out.symm, HB0.out⟩
    · have HV := Lib.hid (show hasNum ⟨k, r, n⟩ = true by simp only [hasNum, h5, h6]; rfl)
      go_enter Tryd.func105, Tryd.ntmps105
      go_wp2
      go_ret
      exact ⟨ret_bool HV.out.symm, HB0.out⟩
  · have HV := Lib.hid (show hasNum ⟨k, r, n⟩ = true by simp only [hasNum, h5]; rfl)
    go_enter Tryd.func105, Tryd.ntmps105
    go_wp2
    go_ret
    exact ⟨ret_bool HV.out.symm, HB0.out⟩

set_option maxHeartbeats 1000000 in
theorem marked_any (o : Opd) (w : World) : Calls Tryd.prog 101 #[.agg #[.int .i64 o.kind, .int .i64 o.reg, .int .i64 o.n]] w fun e w' => e = .returned (.tuple #[.string (markS o), .bool (hasNum o)]) ∧ Below w.heap.size w w' := by
  have HB0 : Hid (Below w.heap.size w (w.alloc (.cells #[.int .i64 o.kind, .int .i64 o.reg, .int .i64 o.n] 47))) := (Below.refl _ _).alloc (Nat.le_refl _) _
  obtain ⟨k, r, n⟩ := o
  dsimp only at *
  cases h5 : (k == 5)
  · cases h6 : (k == 6)
    · cases h7 : (k == 7)
      · cases h10 : (k == 10)
        all_goals
          have HV := Lib.hid (show hasNum ⟨k, r, n⟩ = _ by simp only [hasNum, h5, h6, h7, h10]; rfl)
          have HM := Lib.hid (show markS ⟨k, r, n⟩ = _ by simp only [markS, h5, h6, h7, h10]; rfl)
          go_enter Tryd.func101, Tryd.ntmps101
          go_wp2
          go_ret2
          exact ⟨by rw [HV.out, HM.out] <;> rfl, HB0.out⟩
      · have HV := Lib.hid (show hasNum ⟨k, r, n⟩ = true by simp only [hasNum, h5, h6, h7]; rfl)
        have HM := Lib.hid (show markS ⟨k, r, n⟩ = ⟨#[40, 110, 41]⟩ by simp only [markS, h5, h6, h7]; rfl)
        go_enter Tryd.func101, Tryd.ntmps101
        go_wp2
        go_ret2
        exact ⟨by rw [HV.out, HM.out] <;> rfl, HB0.out⟩
    · have HV := Lib.hid (show hasNum ⟨k, r, n⟩ = true by simp only [hasNum, h5, h6]; rfl)
      have HM := Lib.hid (show markS ⟨k, r, n⟩ = ⟨#[110]⟩ by simp only [markS, h5, h6]; rfl)
      go_enter Tryd.func101, Tryd.ntmps101
      go_wp2
      go_ret2
      exact ⟨by rw [HV.out, HM.out] <;> rfl, HB0.out⟩
  · have HV := Lib.hid (show hasNum ⟨k, r, n⟩ = true by simp only [hasNum, h5]; rfl)
    have HM := Lib.hid (show markS ⟨k, r, n⟩ = idxText r by simp only [markS, h5]; rfl)
    have hsz := regText_size ⟨3, r, 0⟩
    have HTX := Lib.hid (fun wx => text_plain ⟨3, r, 0⟩ form3 wx)
    go_enter Tryd.func101, Tryd.ntmps101
    go_wp2_with (go_at_call 102; refine (HTX.out _).mono ?_; rintro e w1 ⟨rfl, hb⟩; have HB := Lib.hid (HB0.out.trans (hb.mono HB0.out.size)); clear hb)
    go_ret2
    exact ⟨by rw [HV.out, HM.out] <;> rfl, HB.out⟩
end Go.Proofs.YtkkjoghfdmmpaaaDoor

/-
  THE NUMBERS OF AN INSTRUCTION: the reference's Numbers and instr.Numbers.
-/
namespace Go.Proofs.YtkkjoghfdmmpaaaDoor
open Go.RowKit

def intR : Rep Int := Rep.flat 1 (fun n => [.int .i64 n]) (fun _ => rfl) (fun _ u hu => by simp at hu; subst hu; rfl)
theorem elInt : ElT Tryd.prog 68 3 intR.size 8 := ElT.mk' (z := .int .i64 0) Tryd.underlying68 (by kernel_rfl) rfl (by decide)
def numsOf (l : List Opd) : List Int := (l.filter hasNum).map (·.n)
theorem numsOf_len (l : List Opd) : (numsOf l).length ≤ l.length := by simp [numsOf]; exact List.length_filter_le _ _
theorem numsOf_yes {l : List Opd} {k : Nat} {x : Opd} (h : l.take k ++ [x] = l.take (k + 1)) (hx : hasNum x = true) : numsOf (l.take (k + 1)) = numsOf (l.take k) ++ [x.n] := by
  rw [← h]; simp [numsOf, hx]
theorem numsOf_no {l : List Opd} {k : Nat} {x : Opd} (h : l.take k ++ [x] = l.take (k + 1)) (hx : hasNum x = false) : numsOf (l.take (k + 1)) = numsOf (l.take k) := by
  rw [← h]; simp [numsOf, hx]
theorem Own.stay {α : Type} {R : Rep α} {w w' : World} {B : Nat} {e : TypeId} {v : Value} {xs : List α} (h : Own R w B e NoB v xs) (hb : Below w.heap.size w w') : Own R w' B e NoB v xs :=
  h.keep (Keep.of_below hb (fun k hk => by rcases hk with hk | hk; exact hk.elim; exact (h.lt k hk).2))

set_option maxHeartbeats 2000000 in
theorem nums07_any (p : Blocks) (x : Ins) (v : Value) (w : World) (h : SlR opdR w p v x.args) (hn : x.args.length ≤ 1000000) :
    Calls Tryd.prog 52 #[.agg #[.string x.op, v]] w fun e w' => ∃ v', e = .returned v' ∧ Own intR w' w.heap.size 3 NoB v' (numsOf x.args) ∧ Below w.heap.size w w' := by
  obtain ⟨s, l⟩ := x
  dsimp only at *
  obtain ⟨a, c, rfl, _⟩ := h.opd
  obtain ⟨W, hW⟩ : ∃ W : World, W = w.alloc (.cells #[.string s, .slice a l.length c] 39) := ⟨_, rfl⟩
  have hbW : Below w.heap.size w W := hW ▸ (Below.refl _ _).alloc (Nat.le_refl _) _
  have k1 : Blk W w.heap.size 39 #[.string s, .slice a l.length c] := hW ▸ Blk.new w _ _
  have HBW := Lib.hid hbW
  have HK := Lib.hid k1
  have HSL := Lib.hid (h.below hbW)
  have HN := Lib.hid hn
  clear h hbW k1 hn
  go_enter Tryd.func52, Tryd.ntmps52
  go_wp2
  rw [← hW]
  clear hW
  go_loopw [3, 4] (fun o i wr => ∃ k : Nat, k ≤ l.length ∧ i = .int .i64 k ∧ Own intR wr W.heap.size 3 NoB o (numsOf (l.take k)) ∧ Below W.heap.size W wr) (fun _ i _ => l.length - (intOf i).toNat)
  case atStart => exact ⟨0, Nat.zero_le _, rfl, Own.nil _ _ _ _ _, Below.refl _ _⟩
  case round =>
    obtain ⟨k, hk, rfl, ho, hb⟩ := hrel
    have HO := Lib.hid ho
    have HB := Lib.hid hb
    have hs1 : w.heap.size < wr.heap.size := Nat.lt_of_lt_of_le HK.out.lt hb.size
    obtain ⟨a0, a1, _, _⟩ := (HK.out.below hb HK.out.lt).two
    obtain ⟨ad, cd, hv, _, _, g1⟩ := (HSL.out.below hb).opd
    obtain ⟨rfl, _, rfl⟩ : a = ad ∧ l.length = l.length ∧ c = cd := by injection hv with h1 h2 h3; exact ⟨h1, h2, h3⟩
    obtain ⟨oa, oc, rfl⟩ := ho.form
    clear ho hb hv
    by_cases hlt : k < l.length
    · obtain ⟨b1, o1, rfl, _, d1, d2, d3⟩ := g1 k l[k] (List.getElem?_eq_getElem hlt)
      clear g1
      have HT := Lib.hid (List.take_append_getElem hlt)
      have hnu := fun wz => number_any l[k] wz
      have hb1 : b1 < wr.heap.size := World.block_lt_of_cell? _ _ d1
      generalize l[k] = y at *
      cases hy : hasNum y
      all_goals
        rw [hy] at hnu
        have HNU := Lib.hid hnu
        have HY := Lib.hid hy
        clear hnu hy
      · go_wp2_with (go_at_call 105; refine (HNU.out _).mono ?_; rintro e w2 ⟨rfl, hb⟩; have HB2 := Lib.hid hb; clear hb)
        go_roundw
        case rel => exact ⟨k + 1, by omega, by go_num, by rw [numsOf_no HT.out HY.out]; exact HO.out.stay HB2.out, HB.out.trans (HB2.out.mono HB.out.size)⟩
        case measure => simp [intOf]; omega
      · have hown0 : ∀ j, Value.ownBlock (.slice oa (numsOf (l.take k)).length oc) = some j → j < wr.heap.size := fun j hj => (HO.out.lt j hj).2
        have HOW := Lib.hid hown0
        have HLN : Hid ((numsOf (l.take k)).length ≤ 1000000) := Lib.hid (by have := numsOf_len (l.take k); have := HN.out; simp at *; omega)
        clear hown0
        go_wp2_with (first | (go_at_call 105; refine (HNU.out _).mono ?_; rintro e w2 ⟨rfl, hb⟩; have HB2 := Lib.hid hb; have e1 : w2.cell? ⟨w.heap.size, 1, none⟩ = some (.slice (some ⟨b1, o1, none⟩) l.length c) := (hb.cell (p := ⟨w.heap.size, 1, none⟩) hs1).trans a1; have e3 : w2.cell? ⟨b1, o1 + k * 3 + 2, none⟩ = some (.int .i64 y.n) := (hb.cell (p := ⟨b1, o1 + k * 3 + 2, none⟩) hb1).trans d3; have hlt2 : w.heap.size < w2.heap.size := Nat.lt_of_lt_of_le hs1 hb.size; have hlt3 : b1 < w2.heap.size := Nat.lt_of_lt_of_le hb1 hb.size; clear hb)
                           | (at_builtin; refine wpList_append_R _ rfl (.tmp 18) (.tmp 25) 68 rfl W.heap.size 3 8 elInt NoB (fun j => NoB j ∨ j = w2.heap.size) _ _ (numsOf (l.take k)) [y.n] rfl rfl ((HO.out.stay HB2.out).stay ((Below.refl _ _).alloc (Nat.le_refl _) _)) (slR_one (R := intR) (p := NoB) rfl _) (fun _ h => False.elim h) (fun j hj e => by rcases hj with hj | rfl; exact hj.elim; exact absurd (HOW.out _ e.symm) (Nat.not_lt.2 HB2.out.size)) (by have := HLN.out; simp; omega) (by have := HLN.out; simp; omega) (by have := HB.out.size; have := HB2.out.size; simp; omega) ?_; intro v' w' hap; have HAP := Lib.hid hap; obtain ⟨oa', oc', rfl⟩ := hap.1.form; clear hap))
        go_roundw
        case rel =>
          obtain ⟨ho, hg, _⟩ := HAP.out
          have ho2 : Own intR w' W.heap.size 3 NoB (.slice oa' (numsOf (l.take k) ++ [y.n]).length oc') (numsOf (l.take k) ++ [y.n]) := ho.flat NoB
          rw [List.length_append] at ho2
          refine ⟨k + 1, by omega, by go_num, by rw [numsOf_yes HT.out HY.out]; exact ho2, ((HB.out.trans (HB2.out.mono HB.out.size)).alloc (Nat.le_trans HB.out.size HB2.out.size) _).grown hg (by have := HB.out.size; have := HB2.out.size; simp; omega) (fun j hj => (HO.out.lt j hj).1)⟩
        case measure => simp [intOf]; omega
    · clear g1
      have hkl : k = l.length := by omega
      go_wp2
      go_ret
      subst hkl
      rw [List.take_length] at HO
      exact ⟨_, rfl, HO.out.base HBW.out.size, HBW.out.trans (HB.out.mono HBW.out.size)⟩
set_option maxHeartbeats 2000000 in
theorem nums_any (p : Blocks) (x : Ins) (v : Value) (w : World) (h : SlR opdR w p v x.args) (hn : x.args.length ≤ 1000000) :
    Calls Tryd.prog 51 #[.agg #[.string x.op, v]] w fun e w' => ∃ v', e = .returned v' ∧ Own intR w' w.heap.size 3 NoB v' (numsOf x.args) ∧ Below w.heap.size w w' := by
  obtain ⟨s, l⟩ := x
  dsimp only at *
  obtain ⟨a, c, rfl, _⟩ := h.opd
  obtain ⟨W, hW⟩ : ∃ W : World, W = w.alloc (.cells #[.string s, .slice a l.length c] 39) := ⟨_, rfl⟩
  have hbW : Below w.heap.size w W := hW ▸ (Below.refl _ _).alloc (Nat.le_refl _) _
  have k1 : Blk W w.heap.size 39 #[.string s, .slice a l.length c] := hW ▸ Blk.new w _ _
  have HBW := Lib.hid hbW
  have HK := Lib.hid k1
  have HSL := Lib.hid (h.below hbW)
  have HN := Lib.hid hn
  clear h hbW k1 hn
  go_enter Tryd.func51, Tryd.ntmps51
  go_wp2
  rw [← hW]
  clear hW
  go_loopw [3, 11] (fun o i wr => ∃ k : Nat, k ≤ l.length ∧ i = .int .i64 k ∧ Own intR wr W.heap.size 3 NoB o (numsOf (l.take k)) ∧ Below W.heap.size W wr) (fun _ i _ => l.length - (intOf i).toNat)
  case atStart => exact ⟨0, Nat.zero_le _, rfl, Own.nil _ _ _ _ _, Below.refl _ _⟩
  case round =>
    obtain ⟨k, hk, rfl, ho, hb⟩ := hrel
    have HO := Lib.hid ho
    have HB := Lib.hid hb
    have hs1 : w.heap.size < wr.heap.size := Nat.lt_of_lt_of_le HK.out.lt hb.size
    obtain ⟨a0, a1, _, _⟩ := (HK.out.below hb HK.out.lt).two
    obtain ⟨ad, cd, hv, _, _, g1⟩ := (HSL.out.below hb).opd
    obtain ⟨rfl, _, rfl⟩ : a = ad ∧ l.length = l.length ∧ c = cd := by injection hv with h1 h2 h3; exact ⟨h1, h2, h3⟩
    obtain ⟨oa, oc, rfl⟩ := ho.form
    clear ho hb hv
    by_cases hlt : k < l.length
    · obtain ⟨b1, o1, rfl, _, d1, d2, d3⟩ := g1 k l[k] (List.getElem?_eq_getElem hlt)
      clear g1
      have HT := Lib.hid (List.take_append_getElem hlt)
      have hnu := fun wz => marked_any l[k] wz
      generalize l[k] = y at *
      have HA : Hid (Below wr.heap.size wr (wr.alloc (.cells #[.int .i64 y.kind, .int .i64 y.reg, .int .i64 y.n] 47))) := (Below.refl _ _).alloc (Nat.le_refl _) _
      have HKA : Hid (Blk (wr.alloc (.cells #[.int .i64 y.kind, .int .i64 y.reg, .int .i64 y.n] 47)) wr.heap.size 47 #[.int .i64 y.kind, .int .i64 y.reg, .int .i64 y.n]) := Blk.new wr _ _
      cases hy : hasNum y
      all_goals
        rw [hy] at hnu
        have HNU := Lib.hid hnu
        have HY := Lib.hid hy
        clear hnu hy
      · go_wp2_with (go_at_call 101; refine (HNU.out _).mono ?_; rintro e w2 ⟨rfl, hb⟩; have HB2 := Lib.hid (HA.out.trans (hb.mono HA.out.size)); clear hb)
        go_roundw
        case rel => exact ⟨k + 1, by omega, by go_num, by rw [numsOf_no HT.out HY.out]; exact HO.out.stay HB2.out, HB.out.trans (HB2.out.mono HB.out.size)⟩
        case measure => simp [intOf]; omega
      · have hown0 : ∀ j, Value.ownBlock (.slice oa (numsOf (l.take k)).length oc) = some j → j < wr.heap.size := fun j hj => (HO.out.lt j hj).2
        have HOW := Lib.hid hown0
        have HLN : Hid ((numsOf (l.take k)).length ≤ 1000000) := Lib.hid (by have := numsOf_len (l.take k); have := HN.out; simp at *; omega)
        clear hown0
        go_wp2_with (first | (go_at_call 101; refine (HNU.out _).mono ?_; rintro e w2 ⟨rfl, hb⟩; have HB2 := Lib.hid (HA.out.trans (hb.mono HA.out.size)); have e3 : w2.cell? ⟨wr.heap.size, 2, none⟩ = some (.int .i64 y.n) := (hb.cell (p := ⟨wr.heap.size, 2, none⟩) HKA.out.lt).trans (HKA.out.cell 2); have hlt2 : wr.heap.size < w2.heap.size := Nat.lt_of_lt_of_le HKA.out.lt hb.size; clear hb)
                           | (at_builtin; refine wpList_append_R _ rfl (.tmp 21) (.tmp 24) 68 rfl W.heap.size 3 8 elInt NoB (fun j => NoB j ∨ j = w2.heap.size) _ _ (numsOf (l.take k)) [y.n] rfl rfl ((HO.out.stay HB2.out).stay ((Below.refl _ _).alloc (Nat.le_refl _) _)) (slR_one (R := intR) (p := NoB) rfl _) (fun _ h => False.elim h) (fun j hj e => by rcases hj with hj | rfl; exact hj.elim; exact absurd (HOW.out _ e.symm) (Nat.not_lt.2 HB2.out.size)) (by have := HLN.out; simp; omega) (by have := HLN.out; simp; omega) (by have := HB.out.size; have := HB2.out.size; simp; omega) ?_; intro v' w' hap; have HAP := Lib.hid hap; obtain ⟨oa', oc', rfl⟩ := hap.1.form; clear hap))
        go_roundw
        case rel =>
          obtain ⟨ho, hg, _⟩ := HAP.out
          have ho2 : Own intR w' W.heap.size 3 NoB (.slice oa' (numsOf (l.take k) ++ [y.n]).length oc') (numsOf (l.take k) ++ [y.n]) := ho.flat NoB
          rw [List.length_append] at ho2
          refine ⟨k + 1, by omega, by go_num, by rw [numsOf_yes HT.out HY.out]; exact ho2, ((HB.out.trans (HB2.out.mono HB.out.size)).alloc (Nat.le_trans HB.out.size HB2.out.size) _).grown hg (by have := HB.out.size; have := HB2.out.size; simp; omega) (fun j hj => (HO.out.lt j hj).1)⟩
        case measure => simp [intOf]; omega
    · clear g1
      have hkl : k = l.length := by omega
      go_wp2
      go_ret
      subst hkl
      rw [List.take_length] at HO
      exact ⟨_, rfl, HO.out.base HBW.out.size, HBW.out.trans (HB.out.mono HBW.out.size)⟩
end Go.Proofs.YtkkjoghfdmmpaaaDoor

/-
  THE SAME NUMBERS: slices.Equal on integers.
-/
namespace Go.Proofs.YtkkjoghfdmmpaaaDoor
open Go.RowKit

theorem SlR.int {w : World} {p : Blocks} {v : Value} {l : List Int} (h : SlR intR w p v l) : ∃ a cap, v = .slice a l.length cap ∧ l.length ≤ cap ∧ cap ≤ 9223372036854775807 ∧
    ∀ i x, l[i]? = some x → ∃ b o, a = some ⟨b, o, none⟩ ∧ p b ∧ w.cell? ⟨b, o + i, none⟩ = some (.int .i64 x) := by
  obtain ⟨a, cap, e, h1, h2, h3⟩ := h
  refine ⟨a, cap, e, h1, by simpa [maxLen] using h2, fun i x hx => ?_⟩
  obtain ⟨b, o, cs, ea, hb, hbs, hc, hr⟩ := h3 i x hx
  have hr : cs = [.int .i64 x] := hr
  subst hr
  have := hc 0 _ rfl
  rw [show intR.size = 1 from rfl, Nat.mul_one, Nat.add_zero] at this
  exact ⟨b, o, ea, hb, this⟩

set_option maxHeartbeats 400000 in
theorem EqualInt_any (p q : Blocks) (v1 v2 : Value) (l1 l2 : List Int) (w : World) (h1 : SlR intR w p v1 l1) (h2 : SlR intR w q v2 l2) :
    Calls Tryd.prog 50 #[v1, v2] w fun e w' => e = .returned (.bool (decide (l1 = l2))) ∧ ∃ n, w' = w.drewN n := by
  obtain ⟨a1, c1, rfl, hc1, hm1, g1⟩ := h1.int
  obtain ⟨a2, c2, rfl, hc2, hm2, g2⟩ := h2.int
  clear h1 h2
  by_cases hl : l1.length = l2.length
  · have HL := Lib.hid hl
    rw [← hl] at hc2 ⊢
    clear hl
    go_enter Tryd.func50, Tryd.ntmps50
    go_wp2
    go_loopw [5, 13] (fun _ i wr => ∃ k n : Nat, k ≤ l1.length ∧ i = .int .i64 k ∧ wr = w.drewN n ∧ l1.take k = l2.take k) (fun _ i _ => l1.length - (intOf i).toNat)
    case atStart => exact ⟨0, 0, Nat.zero_le _, rfl, rfl, rfl⟩
    case round =>
      obtain ⟨k, n, hk, rfl, rfl, ht⟩ := hrel
      have HT := Lib.hid ht
      clear ht
      by_cases hlt : k < l1.length
      · have hlt2 : k < l2.length := by have := HL.out; omega
        obtain ⟨b1, o1, rfl, _, d1⟩ := g1 k l1[k] (List.getElem?_eq_getElem hlt)
        obtain ⟨b2, o2, rfl, _, e1⟩ := g2 k l2[k] (List.getElem?_eq_getElem hlt2)
        clear g1 g2
        have HS := Lib.hid (take_succ_eq hlt hlt2 HT.out)
        have HN : Hid (l1[k] ≠ l2[k] → l1 ≠ l2) := fun h e => h (by simp only [e])
        generalize l1[k] = x at *
        generalize l2[k] = y at *
        cases hxy : (x == y)
        rotate_left
        · go_wp2
          go_quiet (fail)
          go_wp2
          go_roundw
          case rel => exact ⟨k + 1, n + nq, by omega, by go_num, rfl, HS.out (eq_of_beq hxy)⟩
          case measure => simp [intOf]; omega
        · go_wp2
          go_quiet (fail)
          go_wp2
          go_ret
          exact ⟨ret_bool (decide_eq_false (HN.out (by simpa using hxy))).symm, _, drewN2 _ _ _⟩
      · go_wp2
        go_ret
        exact ⟨ret_bool (decide_eq_true (by have h1 := HT.out; have h2 := HL.out; rwa [List.take_of_length_le (by omega), List.take_of_length_le (by omega)] at h1)).symm, n, rfl⟩
  · go_enter Tryd.func50, Tryd.ntmps50
    go_wp2
    go_ret
    exact ⟨by simp; intro h; exact hl (by rw [h]), 0, rfl⟩
end Go.Proofs.YtkkjoghfdmmpaaaDoor

/-
  THE MARK OF AN OPERAND, the reference's: a name, or a letter for the number.
-/
namespace Go.Proofs.YtkkjoghfdmmpaaaDoor
open Go.RowKit

/-- the reference's text of an operand without a number -/
def regText06 (o : Opd) : ByteArray := if validOpd o then nameOf o.kind o.reg else ⟨#[]⟩
set_option maxHeartbeats 2000000 in
theorem text06_reg (o : Opd) (h : hasNum o = false) (w : World) : Calls Tryd.prog 130 #[.agg #[.int .i64 o.kind, .int .i64 o.reg, .int .i64 o.n]] w fun e w' => e = .returned (.string (regText06 o)) ∧ Below w.heap.size w w' := by
  have HB0 : Hid (Below w.heap.size w (w.alloc (.cells #[.int .i64 o.kind, .int .i64 o.reg, .int .i64 o.n] 47))) := (Below.refl _ _).alloc (Nat.le_refl _) _
  have HK : Hid (Blk (w.alloc (.cells #[.int .i64 o.kind, .int .i64 o.reg, .int .i64 o.n] 47)) w.heap.size 47 #[.int .i64 o.kind, .int .i64 o.reg, .int .i64 o.n]) := Blk.new w _ _
  simp only [hasNum, Bool.or_eq_false_iff] at h
  obtain ⟨⟨⟨h5, h6⟩, h7⟩, h10⟩ := h
  have hva := fun wz => valid06_any o wz
  cases hv : validOpd o
  all_goals
    rw [hv] at hva
    have HVA := Lib.hid hva
    clear hva
  · have HV := Lib.hid (show regText06 o = ⟨#[]⟩ by simp [regText06, hv])
    go_enter Tryd.func130, Tryd.ntmps130
    go_wp2_with (go_at_call 84; refine (HVA.out _).mono ?_; rintro e w1 ⟨rfl, hb⟩; have HB := Lib.hid (HB0.out.trans (hb.mono HB0.out.size)); clear hb)
    go_ret
    exact ⟨ret_str HV.out.symm, HB.out⟩
  · have HV := Lib.hid (show regText06 o = nameOf o.kind o.reg by simp [regText06, hv])
    go_enter Tryd.func130, Tryd.ntmps130
    go_wp2_with (first | (go_at_call 84; refine (HVA.out _).mono ?_; rintro e w1 ⟨rfl, hb⟩; have HB := Lib.hid (HB0.out.trans (hb.mono HB0.out.size)); have c0 : w1.cell? ⟨w.heap.size, 0, none⟩ = some (.int .i64 o.kind) := (hb.cell (p := ⟨w.heap.size, 0, none⟩) HK.out.lt).trans (HK.out.cell 0); have c1 : w1.cell? ⟨w.heap.size, 1, none⟩ = some (.int .i64 o.reg) := (hb.cell (p := ⟨w.heap.size, 1, none⟩) HK.out.lt).trans (HK.out.cell 1); clear hb)
                       | (go_at_call 120; refine (name_any _ _ _).mono ?_; rintro e w2 ⟨rfl, hb⟩; have HB2 := Lib.hid (HB.out.trans (hb.mono HB.out.size)); clear hb))
    go_ret
    exact ⟨ret_str HV.out.symm, HB2.out⟩

/-- the reference's mark -/
def mark07 (o : Opd) : ByteArray :=
  if o.kind == 5 then (if o.reg == 5 then ⟨#[40, 73, 88, 43, 100, 41]⟩ else ⟨#[40, 73, 89, 43, 100, 41]⟩) else if o.kind == 6 then ⟨#[110]⟩ else if o.kind == 7 then ⟨#[40, 110, 41]⟩ else if o.kind == 10 then ⟨#[101]⟩ else regText06 o
set_option maxHeartbeats 2000000 in
theorem mark07_any (o : Opd) (w : World) : Calls Tryd.prog 104 #[.agg #[.int .i64 o.kind, .int .i64 o.reg, .int .i64 o.n]] w fun e w' => e = .returned (.string (mark07 o)) ∧ Below w.heap.size w w' := by
  have HB0 : Hid (Below w.heap.size w (w.alloc (.cells #[.int .i64 o.kind, .int .i64 o.reg, .int .i64 o.n] 47))) := (Below.refl _ _).alloc (Nat.le_refl _) _
  cases h5 : (o.kind == 5)
  · cases h6 : (o.kind == 6)
    · cases h7 : (o.kind == 7)
      · cases h10 : (o.kind == 10)
        · have HV := Lib.hid (show mark07 o = regText06 o by simp only [mark07, h5, h6, h7, h10]; rfl)
          have HT := Lib.hid (fun wz => text06_reg o (by simp only [hasNum, h5, h6, h7, h10]; rfl) wz)
          go_enter Tryd.func104, Tryd.ntmps104
          go_wp2_with (go_at_call 130; refine (HT.out _).mono ?_; rintro e w1 ⟨rfl, hb⟩; have HB := Lib.hid (HB0.out.trans (hb.mono HB0.out.size)); clear hb)
          go_ret
          exact ⟨ret_str HV.out.symm, HB.out⟩
        · have HV := Lib.hid (show mark07 o = ⟨#[101]⟩ by simp only [mark07, h5, h6, h7, h10]; rfl)
          go_enter Tryd.func104, Tryd.ntmps104
          go_wp2
          go_ret
          exact ⟨ret_str HV.out.symm, HB0.out⟩
      · have HV := Lib.hid (show mark07 o = ⟨#[40, 110, 41]⟩ by simp only [mark07, h5, h6, h7]; rfl)
        go_enter Tryd.func104, Tryd.ntmps104
        go_wp2
        go_ret
        exact ⟨ret_str HV.out.symm, HB0.out⟩
    · have HV := Lib.hid (show mark07 o = ⟨#[110]⟩ by simp only [mark07, h5, h6]; rfl)
      go_enter Tryd.func104, Tryd.ntmps104
      go_wp2
      go_ret
      exact ⟨ret_str HV.out.symm, HB0.out⟩
  · cases hr : (o.reg == 5)
    all_goals
      have HV := Lib.hid (show mark07 o = _ by simp only [mark07, h5, hr]; rfl)
      go_enter Tryd.func104, Tryd.ntmps104
      go_wp2
      go_ret
      exact ⟨ret_str HV.out.symm, HB0.out⟩
end Go.Proofs.YtkkjoghfdmmpaaaDoor

/-
  THE MARK OF A VALID OPERAND: the program's is the reference's.
-/
namespace Go.Proofs.YtkkjoghfdmmpaaaDoor
open Go.RowKit

/-- operand.Text of an operand without a number -/
def textOf (o : Opd) : ByteArray := if o.kind == 4 then indText o else regText o
/-- what Shape writes for an operand -/
def markP (o : Opd) : ByteArray := if hasNum o then markS o else textOf o
theorem name_range {k r : Int} (h : ((nameOf k r).toList == []) = false) : 0 ≤ r ∧ r < 9 := by
  constructor
  · refine Int.not_lt.1 fun hr => ?_
    rw [show nameOf k r = ⟨#[]⟩ by simp [nameOf, nameL, hr]] at h
    exact absurd h (by decide +kernel)
  · refine Int.not_le.1 fun hr => ?_
    have hl : (regsL k)[r.toNat]? = none := by have := regs_short k; simp; omega
    rw [show nameOf k r = ⟨#[]⟩ by simp [nameOf, nameL, hl]] at h
    exact absurd h (by decide +kernel)

theorem mark_1 (r n : Int) (h : validOpd ⟨1, r, n⟩ = true) : markP ⟨1, r, n⟩ = mark07 ⟨1, r, n⟩ := by
  have hok : okOpd ⟨1, r, n⟩ = true := by rw [ok_valid]; exact h
  have hn : ((nameOf 1 r).toList == []) = false := by
    cases hh : ((nameOf 1 r).toList == [])
    · rfl
    · simp only [validOpd, hh] at h
      exact absurd h (by simp)
  obtain ⟨h0, h9⟩ := name_range hn
  have hr : r = 0 ∨ r = 1 ∨ r = 2 ∨ r = 3 ∨ r = 4 ∨ r = 5 ∨ r = 6 ∨ r = 7 ∨ r = 8 := by omega
  clear h0 h9
  have e1 : mark07 ⟨1, r, n⟩ = nameOf 1 r := by show regText06 ⟨1, r, n⟩ = _; simp only [regText06, h, if_true]
  have e2 : markP ⟨1, r, n⟩ = (kindD 1).nm r.toNat := by show regText ⟨1, r, n⟩ = _; simp only [regText, hok, if_true]
  rw [e1, e2]
  clear e1 e2 h hok
  rcases hr with rfl | rfl | rfl | rfl | rfl | rfl | rfl | rfl | rfl
  all_goals first | exact absurd hn (by decide +kernel) | decide +kernel
theorem mark_2 (r n : Int) (h : validOpd ⟨2, r, n⟩ = true) : markP ⟨2, r, n⟩ = mark07 ⟨2, r, n⟩ := by
  have hok : okOpd ⟨2, r, n⟩ = true := by rw [ok_valid]; exact h
  have hn : ((nameOf 2 r).toList == []) = false := by
    cases hh : ((nameOf 2 r).toList == [])
    · rfl
    · simp only [validOpd, hh] at h
      exact absurd h (by simp)
  obtain ⟨h0, h9⟩ := name_range hn
  have hr : r = 0 ∨ r = 1 ∨ r = 2 ∨ r = 3 ∨ r = 4 ∨ r = 5 ∨ r = 6 ∨ r = 7 ∨ r = 8 := by omega
  clear h0 h9
  have e1 : mark07 ⟨2, r, n⟩ = nameOf 2 r := by show regText06 ⟨2, r, n⟩ = _; simp only [regText06, h, if_true]
  have e2 : markP ⟨2, r, n⟩ = (kindD 2).nm r.toNat := by show regText ⟨2, r, n⟩ = _; simp only [regText, hok, if_true]
  rw [e1, e2]
  clear e1 e2 h hok
  rcases hr with rfl | rfl | rfl | rfl | rfl | rfl | rfl | rfl | rfl
  all_goals first | exact absurd hn (by decide +kernel) | decide +kernel
theorem mark_3 (r n : Int) (h : validOpd ⟨3, r, n⟩ = true) : markP ⟨3, r, n⟩ = mark07 ⟨3, r, n⟩ := by
  have hok : okOpd ⟨3, r, n⟩ = true := by rw [ok_valid]; exact h
  have hn : ((nameOf 3 r).toList == []) = false := by
    cases hh : ((nameOf 3 r).toList == [])
    · rfl
    · simp only [validOpd, hh] at h
      exact absurd h (by simp)
  obtain ⟨h0, h9⟩ := name_range hn
  have hr : r = 0 ∨ r = 1 ∨ r = 2 ∨ r = 3 ∨ r = 4 ∨ r = 5 ∨ r = 6 ∨ r = 7 ∨ r = 8 := by omega
  clear h0 h9
  have e1 : mark07 ⟨3, r, n⟩ = nameOf 3 r := by show regText06 ⟨3, r, n⟩ = _; simp only [regText06, h, if_true]
  have e2 : markP ⟨3, r, n⟩ = (kindD 3).nm r.toNat := by show regText ⟨3, r, n⟩ = _; simp only [regText, hok, if_true]
  rw [e1, e2]
  clear e1 e2 h hok
  rcases hr with rfl | rfl | rfl | rfl | rfl | rfl | rfl | rfl | rfl
  all_goals first | exact absurd hn (by decide +kernel) | decide +kernel
theorem mark_4 (r n : Int) (h : validOpd ⟨4, r, n⟩ = true) : markP ⟨4, r, n⟩ = mark07 ⟨4, r, n⟩ := by
  have hok : okOpd ⟨4, r, n⟩ = true := by rw [ok_valid]; exact h
  have hn : ((nameOf 4 r).toList == []) = false := by
    cases hh : ((nameOf 4 r).toList == [])
    · rfl
    · simp only [validOpd, hh] at h
      exact absurd h (by simp)
  obtain ⟨h0, h9⟩ := name_range hn
  have hr : r = 0 ∨ r = 1 ∨ r = 2 ∨ r = 3 ∨ r = 4 ∨ r = 5 ∨ r = 6 ∨ r = 7 ∨ r = 8 := by omega
  clear h0 h9
  have e1 : mark07 ⟨4, r, n⟩ = nameOf 4 r := by show regText06 ⟨4, r, n⟩ = _; simp only [regText06, h, if_true]
  have e2 : markP ⟨4, r, n⟩ = paren ((kindD 4).nm r.toNat) := by show indText ⟨4, r, n⟩ = _; simp only [indText, hok, if_true]
  rw [e1, e2]
  clear e1 e2 h hok
  rcases hr with rfl | rfl | rfl | rfl | rfl | rfl | rfl | rfl | rfl
  all_goals first | exact absurd hn (by decide +kernel) | decide +kernel
theorem mark_5 (r n : Int) (h : validOpd ⟨5, r, n⟩ = true) : markP ⟨5, r, n⟩ = mark07 ⟨5, r, n⟩ := by
  have hok : okOpd ⟨5, r, n⟩ = true := by rw [ok_valid]; exact h
  have hn : ((nameOf 5 r).toList == []) = false := by
    cases hh : ((nameOf 5 r).toList == [])
    · rfl
    · simp only [validOpd, hh] at h
      exact absurd h (by simp)
  obtain ⟨h0, h9⟩ := name_range hn
  have hr : r = 0 ∨ r = 1 ∨ r = 2 ∨ r = 3 ∨ r = 4 ∨ r = 5 ∨ r = 6 ∨ r = 7 ∨ r = 8 := by omega
  clear h0 h9
  rw [show markP ⟨5, r, n⟩ = idxText r from rfl, show mark07 ⟨5, r, n⟩ = (if r == 5 then ⟨#[40, 73, 88, 43, 100, 41]⟩ else ⟨#[40, 73, 89, 43, 100, 41]⟩) from rfl]
  clear h hok
  rcases hr with rfl | rfl | rfl | rfl | rfl | rfl | rfl | rfl | rfl
  all_goals first | exact absurd hn (by decide +kernel) | decide +kernel
theorem mark_6 (r n : Int) : markP ⟨6, r, n⟩ = mark07 ⟨6, r, n⟩ := rfl
theorem mark_7 (r n : Int) : markP ⟨7, r, n⟩ = mark07 ⟨7, r, n⟩ := rfl
theorem mark_8 (r n : Int) (h : validOpd ⟨8, r, n⟩ = true) : markP ⟨8, r, n⟩ = mark07 ⟨8, r, n⟩ := by
  have hok : okOpd ⟨8, r, n⟩ = true := by rw [ok_valid]; exact h
  have hn : ((nameOf 8 r).toList == []) = false := by
    cases hh : ((nameOf 8 r).toList == [])
    · rfl
    · simp only [validOpd, hh] at h
      exact absurd h (by simp)
  obtain ⟨h0, h9⟩ := name_range hn
  have hr : r = 0 ∨ r = 1 ∨ r = 2 ∨ r = 3 ∨ r = 4 ∨ r = 5 ∨ r = 6 ∨ r = 7 ∨ r = 8 := by omega
  clear h0 h9
  have e1 : mark07 ⟨8, r, n⟩ = nameOf 8 r := by show regText06 ⟨8, r, n⟩ = _; simp only [regText06, h, if_true]
  have e2 : markP ⟨8, r, n⟩ = (kindD 8).nm r.toNat := by show regText ⟨8, r, n⟩ = _; simp only [regText, hok, if_true]
  rw [e1, e2]
  clear e1 e2 h hok
  rcases hr with rfl | rfl | rfl | rfl | rfl | rfl | rfl | rfl | rfl
  all_goals first | exact absurd hn (by decide +kernel) | decide +kernel
theorem mark_9 (r n : Int) (h : validOpd ⟨9, r, n⟩ = true) : markP ⟨9, r, n⟩ = mark07 ⟨9, r, n⟩ := by
  have hok : okOpd ⟨9, r, n⟩ = true := by rw [ok_valid]; exact h
  have hn : ((nameOf 9 r).toList == []) = false := by
    cases hh : ((nameOf 9 r).toList == [])
    · rfl
    · simp only [validOpd, hh] at h
      exact absurd h (by simp)
  obtain ⟨h0, h9⟩ := name_range hn
  have hr : r = 0 ∨ r = 1 ∨ r = 2 ∨ r = 3 ∨ r = 4 ∨ r = 5 ∨ r = 6 ∨ r = 7 ∨ r = 8 := by omega
  clear h0 h9
  have e1 : mark07 ⟨9, r, n⟩ = nameOf 9 r := by show regText06 ⟨9, r, n⟩ = _; simp only [regText06, h, if_true]
  have e2 : markP ⟨9, r, n⟩ = (kindD 9).nm r.toNat := by show regText ⟨9, r, n⟩ = _; simp only [regText, hok, if_true]
  rw [e1, e2]
  clear e1 e2 h hok
  rcases hr with rfl | rfl | rfl | rfl | rfl | rfl | rfl | rfl | rfl
  all_goals first | exact absurd hn (by decide +kernel) | decide +kernel
theorem mark_10 (r n : Int) : markP ⟨10, r, n⟩ = mark07 ⟨10, r, n⟩ := rfl
theorem mark_eq (o : Opd) (h : validOpd o = true) : markP o = mark07 o := by
  obtain ⟨k, r, n⟩ := o
  by_cases h1 : k = 1
  · subst h1; exact mark_1 r n h
  by_cases h2 : k = 2
  · subst h2; exact mark_2 r n h
  by_cases h3 : k = 3
  · subst h3; exact mark_3 r n h
  by_cases h4 : k = 4
  · subst h4; exact mark_4 r n h
  by_cases h5 : k = 5
  · subst h5; exact mark_5 r n h
  by_cases h6 : k = 6
  · subst h6; exact mark_6 r n
  by_cases h7 : k = 7
  · subst h7; exact mark_7 r n
  by_cases h8 : k = 8
  · subst h8; exact mark_8 r n h
  by_cases h9 : k = 9
  · subst h9; exact mark_9 r n h
  by_cases h10 : k = 10
  · subst h10; exact mark_10 r n
  simp [validOpd, h1, h2, h3, h4, h5, h6, h7, h8, h9, h10] at h
end Go.Proofs.YtkkjoghfdmmpaaaDoor

/-
  operand.Text OF AN OPERAND WITHOUT A NUMBER.
-/
namespace Go.Proofs.YtkkjoghfdmmpaaaDoor
open Go.RowKit

theorem form4 : (kindD 4).form = 160 := rfl
set_option maxHeartbeats 1000000 in
theorem text_ind (o : Opd) (hf : (kindD o.kind).form = 160) (w : World) : Calls Tryd.prog 102 #[.agg #[.int .i64 o.kind, .int .i64 o.reg, .int .i64 o.n]] w fun e w' => e = .returned (.string (indText o)) ∧ Below w.heap.size w w' := by
  cases h : okOpd o
  · rw [show indText o = ⟨#[]⟩ by simp [indText, h]]
    exact text_no o h w
  · rw [show indText o = paren ((kindD o.kind).nm o.reg.toNat) by simp [indText, h]]
    have HB0 : Hid (Below w.heap.size w (w.alloc (.cells #[.int .i64 o.kind, .int .i64 o.reg, .int .i64 o.n] 47))) := (Below.refl _ _).alloc (Nat.le_refl _) _
    have HK : Hid (Blk (w.alloc (.cells #[.int .i64 o.kind, .int .i64 o.reg, .int .i64 o.n] 47)) w.heap.size 47 #[.int .i64 o.kind, .int .i64 o.reg, .int .i64 o.n]) := Blk.new w _ _
    have ho := of_yes o h (w.alloc (.cells #[.int .i64 o.kind, .int .i64 o.reg, .int .i64 o.n] 47))
    simp only [KindD.val] at ho
    rw [hf] at ho
    have HO := Lib.hid ho
    clear ho hf h
    go_enter Tryd.func102, Tryd.ntmps102
    go_wp2_with (first | (go_at_call 122; refine HO.out.mono ?_; rintro e w1 ⟨rfl, hb⟩; have HB := Lib.hid (HB0.out.trans (hb.mono HB0.out.size)); have c2 : w1.cell? ⟨w.heap.size, 2, none⟩ = some (.int .i64 o.n) := (hb.cell (p := ⟨w.heap.size, 2, none⟩) HK.out.lt).trans (HK.out.cell 2); have hlt : w.heap.size < w1.heap.size := Nat.lt_of_lt_of_le HK.out.lt hb.size; clear hb)
                       | (go_at_call 160; refine (find1_any _ _ _ (Nat.le_trans (nm_size _ _) (by decide))).mono ?_; rintro e w2 ⟨rfl, rfl⟩))
    go_ret
    exact ⟨rfl, HB.out.alloc HB.out.size _⟩

theorem text_any (o : Opd) (h : hasNum o = false) (w : World) : Calls Tryd.prog 102 #[.agg #[.int .i64 o.kind, .int .i64 o.reg, .int .i64 o.n]] w fun e w' => e = .returned (.string (textOf o)) ∧ Below w.heap.size w w' := by
  cases hk : kindOk o.kind
  · have ho : okOpd o = false := by simp [okOpd, hk]
    rw [show textOf o = ⟨#[]⟩ by simp [textOf, indText, regText, ho]]
    exact text_no o ho w
  · obtain ⟨k, r, n⟩ := o
    dsimp only at hk
    simp only [kindOk, Bool.or_eq_true, beq_iff_eq] at hk
    rcases hk with ((((((((rfl | rfl) | rfl) | rfl) | rfl) | rfl) | rfl) | rfl) | rfl) | rfl
    · exact text_plain ⟨1, r, n⟩ rfl w
    · exact text_plain ⟨2, r, n⟩ rfl w
    · exact text_plain ⟨3, r, n⟩ rfl w
    · exact text_ind ⟨4, r, n⟩ rfl w
    · exact absurd h (by simp [hasNum])
    · exact absurd h (by simp [hasNum])
    · exact absurd h (by simp [hasNum])
    · exact text_plain ⟨8, r, n⟩ rfl w
    · exact text_plain ⟨9, r, n⟩ rfl w
    · exact absurd h (by simp [hasNum])
end Go.Proofs.YtkkjoghfdmmpaaaDoor

/-
  THE SHAPE OF AN INSTRUCTION: the reference's.
-/
namespace Go.Proofs.YtkkjoghfdmmpaaaDoor
open Go.RowKit

theorem regs_size (k : Int) : ∀ s ∈ regsL k, s.size ≤ 4 := by
  by_cases h1 : k = 1
  · subst h1; decide +kernel
  by_cases h2 : k = 2
  · subst h2; decide +kernel
  by_cases h3 : k = 3
  · subst h3; decide +kernel
  by_cases h4 : k = 4
  · subst h4; decide +kernel
  by_cases h5 : k = 5
  · subst h5; decide +kernel
  by_cases h8 : k = 8
  · subst h8; decide +kernel
  by_cases h9 : k = 9
  · subst h9; decide +kernel
  simp [regsL, h1, h2, h3, h4, h5, h8, h9]
theorem nameOf_size (k r : Int) : (nameOf k r).size ≤ 4 := by
  unfold nameOf nameL
  split
  · decide
  · cases h : (regsL k)[r.toNat]? with
    | none => decide
    | some s => exact regs_size k s (List.mem_of_getElem? h)
theorem mark07_size (o : Opd) : (mark07 o).size ≤ 6 := by
  unfold mark07
  repeat' split
  all_goals first | decide | skip
  unfold regText06
  split
  · exact Nat.le_trans (nameOf_size _ _) (by decide)
  · decide
def sepAt (k : Nat) : ByteArray := if k = 0 then ⟨#[32]⟩ else ⟨#[44]⟩
/-- the shape of the first k operands -/
def shapeUpto (s : ByteArray) (l : List Opd) : Nat → ByteArray
  | 0 => s
  | k + 1 => (shapeUpto s l k ++ sepAt k) ++ mark07 (l.getD k default)
theorem shapeUpto_size (s : ByteArray) (l : List Opd) : ∀ k, (shapeUpto s l k).size ≤ s.size + 7 * k
  | 0 => by simp [shapeUpto]
  | k + 1 => by
    have h1 := shapeUpto_size s l k
    have h2 := mark07_size (l.getD k default)
    have h3 : (sepAt k).size = 1 := by unfold sepAt; split <;> rfl
    simp only [shapeUpto, ByteArray.size_append]
    omega
def shape07 (x : Ins) : ByteArray := if check07 x == 0 then shapeUpto x.op x.args x.args.length else ⟨#[]⟩

set_option maxHeartbeats 2000000 in
theorem shape07_any (p : Blocks) (x : Ins) (v : Value) (w : World) (h : SlR opdR w p v x.args) :
    Calls Tryd.prog 49 #[.agg #[.string x.op, v]] w fun e w' => e = .returned (.string (shape07 x)) ∧ Below w.heap.size w w' := by
  obtain ⟨a, c, rfl, _⟩ := h.opd
  obtain ⟨W, hW⟩ : ∃ W : World, W = w.alloc (.cells #[.string x.op, .slice a x.args.length c] 39) := ⟨_, rfl⟩
  have hbW : Below w.heap.size w W := hW ▸ (Below.refl _ _).alloc (Nat.le_refl _) _
  have k1 : Blk W w.heap.size 39 #[.string x.op, .slice a x.args.length c] := hW ▸ Blk.new w _ _
  have HBW := Lib.hid hbW
  have HK := Lib.hid k1
  have HSL := Lib.hid (h.below hbW)
  have HCH := Lib.hid (check07_any _ x _ W HSL.out)
  obtain ⟨a0, a1, _, _⟩ := k1.two
  clear h hbW k1
  cases hc : (check07 x == 0)
  · have HV := Lib.hid (show shape07 x = ⟨#[]⟩ by simp only [shape07, hc]; rfl)
    go_enter Tryd.func49, Tryd.ntmps49
    go_wp2_with fail
    rw [← hW]
    clear hW
    refine HCH.out.mono ?_
    rintro e w1 ⟨rfl, hb⟩
    have HB1 := Lib.hid hb
    clear hb
    go_wp2
    go_ret
    exact ⟨ret_str HV.out.symm, HBW.out.trans (HB1.out.mono HBW.out.size)⟩
  · have hc0 : check07 x = 0 := by simpa using hc
    have HV := Lib.hid (show shape07 x = shapeUpto x.op x.args x.args.length by simp only [shape07, hc]; rfl)
    obtain ⟨hop, hn, _⟩ := check_zero hc0
    have hsz : x.op.size ≤ 4 := (show ∀ s ∈ opsL, s.size ≤ 4 by decide +kernel) _ (inL_iff.1 hop)
    have HN := Lib.hid hn
    have HSZ : Hid (∀ k, k ≤ 3 → (shapeUpto x.op x.args k).size ≤ 1000) := fun k hk => by have := shapeUpto_size x.op x.args k; omega
    rw [hc0] at HCH
    clear hc hc0 hop hn hsz
    go_enter Tryd.func49, Tryd.ntmps49
    go_wp2_with fail
    rw [← hW]
    clear hW
    refine HCH.out.mono ?_
    rintro e w1 ⟨rfl, hb⟩
    have HB1 := Lib.hid (HBW.out.trans (hb.mono HBW.out.size))
    have HSL1 := Lib.hid (HSL.out.below hb)
    have HK1 := Lib.hid (HK.out.below hb HK.out.lt)
    obtain ⟨b0, b1, _, _⟩ := HK1.out.two
    clear hb a0 a1
    go_wp2
    go_loopw [3, 4] (fun o i wr => ∃ k : Nat, k ≤ x.args.length ∧ i = .int .i64 k ∧ o = .string (shapeUpto x.op x.args k) ∧ Below w1.heap.size w1 wr) (fun _ i _ => x.args.length - (intOf i).toNat)
    case atStart => exact ⟨0, Nat.zero_le _, rfl, rfl, Below.refl _ _⟩
    case round =>
      obtain ⟨k, hk, rfl, rfl, hb⟩ := hrel
      have HBX := Lib.hid hb
      have HKX := Lib.hid (HK1.out.below hb HK1.out.lt)
      obtain ⟨a0, a1, _, _⟩ := HKX.out.two
      obtain ⟨ad, cd, hv, _, _, g1⟩ := (HSL1.out.below hb).opd
      obtain ⟨rfl, _, rfl⟩ : a = ad ∧ x.args.length = x.args.length ∧ c = cd := by injection hv with h1 h2 h3; exact ⟨h1, h2, h3⟩
      clear hb hv
      have hsk := HSZ.out k (by have := HN.out; omega)
      by_cases hlt : k < x.args.length
      · obtain ⟨b2, o2, rfl, _, d1, d2, d3⟩ := g1 k x.args[k] (List.getElem?_eq_getElem hlt)
        clear g1
        have hm := mark07_size x.args[k]
        have HST : Hid (shapeUpto x.op x.args (k + 1) = (shapeUpto x.op x.args k ++ sepAt k) ++ mark07 x.args[k]) := by
          show (shapeUpto x.op x.args k ++ sepAt k) ++ mark07 (x.args.getD k default) = _
          rw [show x.args.getD k default = x.args[k] by simp [List.getD, hlt]]
        have HMK := Lib.hid (fun wz => mark07_any x.args[k] wz)
        generalize x.args[k] = y at *
        by_cases hk0 : k = 0
        · subst hk0
          simp only [Nat.zero_mul, Nat.add_zero] at d1 d2 d3
          go_wp2_with (go_at_call 104; refine (HMK.out _).mono ?_; rintro e w2 ⟨rfl, hb⟩; have HB2 := Lib.hid (HBX.out.trans (hb.mono HBX.out.size)); clear hb)
          go_roundw
          case rel => exact ⟨1, by omega, by go_num, by rw [HST.out]; rfl, HB2.out⟩
          case measure => simp [intOf]; omega
        · have hkb : ((k : Int) == 0) = false := by simpa using hk0
          go_wp2_with (go_at_call 104; refine (HMK.out _).mono ?_; rintro e w2 ⟨rfl, hb⟩; have HB2 := Lib.hid (HBX.out.trans (hb.mono HBX.out.size)); clear hb)
          go_roundw
          case rel => exact ⟨k + 1, by omega, by go_num, by rw [HST.out, sepAt, if_neg hk0], HB2.out⟩
          case measure => simp [intOf]; omega
      · clear g1
        have hkl : k = x.args.length := by omega
        go_wp2
        go_ret
        subst hkl
        exact ⟨ret_str HV.out.symm, HB1.out.trans (HBX.out.mono HB1.out.size)⟩
end Go.Proofs.YtkkjoghfdmmpaaaDoor

/-
  THE CLOSURE OF instr.Shape: it appends the mark of an operand.
-/
namespace Go.Proofs.YtkkjoghfdmmpaaaDoor
open Go.RowKit

theorem elStr : ElT Tryd.prog 33 9 strR.size 16 := ElT.mk' (z := .string ⟨#[]⟩) Tryd.underlying33 (by kernel_rfl) rfl (by decide)

set_option maxHeartbeats 2000000 in
theorem add_any (o : Opd) (bm B0 : Nat) (v : Value) (ms : List ByteArray) (w : World) (hk : Blk w bm 33 #[v]) (ho : Own strR w (bm + 1) 9 NoB v ms) (h0 : B0 ≤ bm) (hl : ms.length ≤ 1000) :
    Calls Tryd.prog 100 #[.agg #[.int .i64 o.kind, .int .i64 o.reg, .int .i64 o.n], .pointer (some ⟨bm, 0, none⟩)] w fun e w' => e = .returned (.tuple #[]) ∧
      (∃ v', Blk w' bm 33 #[v'] ∧ Own strR w' (bm + 1) 9 NoB v' (ms ++ [markP o])) ∧ Below B0 w w' := by
  obtain ⟨oa, oc, rfl⟩ := ho.form
  have HA : Hid (Below w.heap.size w (w.alloc (.cells #[.int .i64 o.kind, .int .i64 o.reg, .int .i64 o.n] 47))) := (Below.refl _ _).alloc (Nat.le_refl _) _
  have HKA : Hid (Blk (w.alloc (.cells #[.int .i64 o.kind, .int .i64 o.reg, .int .i64 o.n] 47)) w.heap.size 47 #[.int .i64 o.kind, .int .i64 o.reg, .int .i64 o.n]) := Blk.new w _ _
  have HK := Lib.hid hk
  have HO := Lib.hid ho
  have HL := Lib.hid hl
  have hma := fun wz => marked_any o wz
  have hbm : bm < w.heap.size := hk.lt
  clear hk ho
  cases hn : hasNum o
  all_goals
    rw [hn] at hma
    have HMA := Lib.hid hma
    clear hma
  · have HM := Lib.hid (show textOf o = markP o by simp [markP, hn])
    have htx := fun wz => text_any o hn wz
    rw [HM.out] at htx
    have HTX := Lib.hid htx
    clear htx
    go_enter Tryd.func100, Tryd.ntmps100
    go_wp2_with (first | (go_at_call 101; refine (HMA.out _).mono ?_; rintro e W1 ⟨rfl, hb⟩; have HB1 := Lib.hid (HA.out.trans (hb.mono HA.out.size)); have c0 : W1.cell? ⟨w.heap.size, 0, none⟩ = some (.int .i64 o.kind) := (hb.cell (p := ⟨w.heap.size, 0, none⟩) HKA.out.lt).trans (HKA.out.cell 0); have c1 : W1.cell? ⟨w.heap.size, 1, none⟩ = some (.int .i64 o.reg) := (hb.cell (p := ⟨w.heap.size, 1, none⟩) HKA.out.lt).trans (HKA.out.cell 1); have c2 : W1.cell? ⟨w.heap.size, 2, none⟩ = some (.int .i64 o.n) := (hb.cell (p := ⟨w.heap.size, 2, none⟩) HKA.out.lt).trans (HKA.out.cell 2); clear hb)
                       | (go_at_call 102; refine (HTX.out _).mono ?_; rintro e WW ⟨rfl, hb⟩; have HBB := Lib.hid (HB1.out.trans (hb.mono HB1.out.size)); have HO1 := Lib.hid (HO.out.stay HBB.out); have HK1 := Lib.hid (HK.out.below HBB.out hbm); have HSZ := Lib.hid (Nat.lt_of_lt_of_le hbm HBB.out.size); obtain ⟨p0, p1⟩ := HK1.out.one; have hbm1 : bm < WW.heap.size := HSZ.out; clear hb)
                       | (at_builtin; refine wpList_append_R _ rfl (.tmp 14) (.tmp 16) 33 rfl (bm + 1) 9 16 elStr NoB (fun j => NoB j ∨ j = WW.heap.size) _ _ ms [markP o] rfl rfl (HO1.out.stay ((Below.refl _ _).alloc (Nat.le_refl _) _)) (slR_one (R := strR) (p := NoB) rfl _) (fun _ h => False.elim h) (fun j hj e => by rcases hj with hj | rfl; exact hj.elim; exact absurd (HO1.out.lt _ e.symm).2 (Nat.lt_irrefl _)) (by have := HL.out; simp; omega) (by have := HL.out; simp; omega) (by have := HSZ.out; simp; omega) ?_; intro v' w' hap; have HAP := Lib.hid hap; obtain ⟨oa', oc', rfl⟩ := hap.1.form; have hkb := HK1.out; have hkn : Blk w' bm 33 #[.slice oa ms.length oc] := (hkb.alloc _).grown hap.2.1 (fun e => by have := (HO1.out.lt bm e.symm).1; omega); obtain ⟨q0, q1⟩ := hkn.one; clear hap))
    go_end0
    obtain ⟨ho2, hg, _⟩ := HAP.out
    have ho3 : Own strR w' (bm + 1) 9 NoB (.slice oa' (ms ++ [markP o]).length oc') (ms ++ [markP o]) := ho2.flat NoB
    have hlt3 := ho3.lt
    rw [List.length_append] at ho3 hlt3
    refine ⟨rfl, ⟨_, hkn.set 0 _, ho3.keep (Keep.setCell (fun k hk => ?_) _)⟩, ?_⟩
    · rcases hk with hk | hk
      · exact hk.elim
      · have := (hlt3 k hk).1
        show k ≠ bm
        omega
    · exact (((HBB.out.mono (Nat.le_trans h0 (Nat.le_of_lt hbm))).alloc (Nat.le_trans h0 (Nat.le_of_lt hbm1)) _).grown hg (by simp; omega) (fun j hj => by have := (HO1.out.lt j hj).1; omega)).setCell (p := ⟨bm, 0, none⟩) h0 _
  · have HM := Lib.hid (show markS o = markP o by simp [markP, hn])
    rw [HM.out] at HMA
    go_enter Tryd.func100, Tryd.ntmps100
    go_wp2_with (first | (go_at_call 101; refine (HMA.out _).mono ?_; rintro e WW ⟨rfl, hb⟩; have HB1 := Lib.hid (HA.out.trans (hb.mono HA.out.size)); have HBB := HB1; have HO1 := Lib.hid (HO.out.stay HB1.out); have HK1 := Lib.hid (HK.out.below HB1.out hbm); have HSZ := Lib.hid (Nat.lt_of_lt_of_le hbm HB1.out.size); obtain ⟨p0, p1⟩ := HK1.out.one; have hbm1 : bm < WW.heap.size := HSZ.out; clear hb)
                       | (at_builtin; refine wpList_append_R _ rfl (.tmp 14) (.tmp 16) 33 rfl (bm + 1) 9 16 elStr NoB (fun j => NoB j ∨ j = WW.heap.size) _ _ ms [markP o] rfl rfl (HO1.out.stay ((Below.refl _ _).alloc (Nat.le_refl _) _)) (slR_one (R := strR) (p := NoB) rfl _) (fun _ h => False.elim h) (fun j hj e => by rcases hj with hj | rfl; exact hj.elim; exact absurd (HO1.out.lt _ e.symm).2 (Nat.lt_irrefl _)) (by have := HL.out; simp; omega) (by have := HL.out; simp; omega) (by have := HSZ.out; simp; omega) ?_; intro v' w' hap; have HAP := Lib.hid hap; obtain ⟨oa', oc', rfl⟩ := hap.1.form; have hkb := HK1.out; have hkn : Blk w' bm 33 #[.slice oa ms.length oc] := (hkb.alloc _).grown hap.2.1 (fun e => by have := (HO1.out.lt bm e.symm).1; omega); obtain ⟨q0, q1⟩ := hkn.one; clear hap))
    go_end0
    obtain ⟨ho2, hg, _⟩ := HAP.out
    have ho3 : Own strR w' (bm + 1) 9 NoB (.slice oa' (ms ++ [markP o]).length oc') (ms ++ [markP o]) := ho2.flat NoB
    have hlt3 := ho3.lt
    rw [List.length_append] at ho3 hlt3
    refine ⟨rfl, ⟨_, hkn.set 0 _, ho3.keep (Keep.setCell (fun k hk => ?_) _)⟩, ?_⟩
    · rcases hk with hk | hk
      · exact hk.elim
      · have := (hlt3 k hk).1
        show k ≠ bm
        omega
    · exact (((HBB.out.mono (Nat.le_trans h0 (Nat.le_of_lt hbm))).alloc (Nat.le_trans h0 (Nat.le_of_lt hbm1)) _).grown hg (by simp; omega) (fun j hj => by have := (HO1.out.lt j hj).1; omega)).setCell (p := ⟨bm, 0, none⟩) h0 _
end Go.Proofs.YtkkjoghfdmmpaaaDoor

/-
  PLAIN: the program's way to join the marks is the reference's way.
-/
namespace Go.Proofs.YtkkjoghfdmmpaaaDoor
open Go.RowKit

theorem regs_noSpace (k : Int) : ∀ s ∈ regsL k, ∀ b ∈ s.data.toList, b ≠ 32 := by
  by_cases h1 : k = 1
  · subst h1; decide +kernel
  by_cases h2 : k = 2
  · subst h2; decide +kernel
  by_cases h3 : k = 3
  · subst h3; decide +kernel
  by_cases h4 : k = 4
  · subst h4; decide +kernel
  by_cases h5 : k = 5
  · subst h5; decide +kernel
  by_cases h8 : k = 8
  · subst h8; decide +kernel
  by_cases h9 : k = 9
  · subst h9; decide +kernel
  simp [regsL, h1, h2, h3, h4, h5, h8, h9]
theorem nameOf_noSpace (k r : Int) : ∀ b ∈ (nameOf k r).data.toList, b ≠ 32 := by
  unfold nameOf nameL
  split
  · simp
  · cases h : (regsL k)[r.toNat]? with
    | none => simp
    | some s => exact regs_noSpace k s (List.mem_of_getElem? h)
theorem mark07_noSpace (o : Opd) : ∀ b ∈ (mark07 o).data.toList, b ≠ 32 := by
  unfold mark07
  repeat' split
  all_goals first | decide | skip
  unfold regText06
  split
  · exact nameOf_noSpace _ _
  · simp
theorem nameOf_ne {k r n : Int} (hk : k ≠ 6 ∧ k ≠ 7 ∧ k ≠ 10) (h : validOpd ⟨k, r, n⟩ = true) : (nameOf k r).data.toList ≠ [] := by
  intro e
  have e2 : ((nameOf k r).toList == []) = true := by rw [Go.ByteArray.toList_eq, e]; rfl
  obtain ⟨h6, h7, h10⟩ := hk
  by_cases h5 : k = 5
  · subst h5
    simp only [validOpd, e2] at h
    exact absurd h (by simp)
  · simp [validOpd, h5, h6, h7, h10, e2] at h
theorem mark07_ne {o : Opd} (h : validOpd o = true) : (mark07 o).data.toList ≠ [] := by
  obtain ⟨k, r, n⟩ := o
  by_cases h5 : k = 5
  · subst h5; unfold mark07; simp only [beq_self_eq_true, if_true]; split <;> decide
  by_cases h6 : k = 6
  · subst h6; exact (show ([110] : List UInt8) ≠ [] by decide)
  by_cases h7 : k = 7
  · subst h7; exact (show ([40, 110, 41] : List UInt8) ≠ [] by decide)
  by_cases h10 : k = 10
  · subst h10; exact (show ([101] : List UInt8) ≠ [] by decide)
  have e : mark07 ⟨k, r, n⟩ = nameOf k r := by simp [mark07, regText06, h5, h6, h7, h10, h]
  rw [e]
  exact nameOf_ne ⟨h6, h7, h10⟩ h

/-- what instr.Shape writes: the name, a space, the marks with commas, less a space at the end -/
def shapeL (s : ByteArray) (ms : List ByteArray) : List UInt8 := Lib.trimSuffix (s.data.toList ++ [32] ++ Lib.join (ms.map (·.data.toList)) [44]) [32]
theorem trim_no {l m : List UInt8} (hm : m ≠ []) (h : ∀ b ∈ m, b ≠ 32) : Lib.trimSuffix (l ++ m) [32] = l ++ m := by
  unfold Lib.trimSuffix
  rw [if_neg]
  intro hs
  have hs2 : [32] <:+ l ++ m := List.isSuffixOf_iff_suffix.1 hs
  obtain ⟨t, ht⟩ := hs2
  rcases List.eq_nil_or_concat m with rfl | ⟨m', x, rfl⟩
  · exact hm rfl
  · have e1 : (t ++ [32]).getLast? = (l ++ (m' ++ [x])).getLast? := by rw [ht, List.concat_eq_append]
    rw [← List.append_assoc] at e1
    simp at e1
    exact h x (by simp) e1.symm
theorem trim_yes (l : List UInt8) : Lib.trimSuffix (l ++ [32]) [32] = l := by
  unfold Lib.trimSuffix
  rw [if_pos (show Lib.hasSuffix (l ++ [32]) [32] = true from List.isSuffixOf_iff_suffix.2 ⟨l, rfl⟩)]
  simp
theorem data_app (a b : ByteArray) : (a ++ b).data.toList = a.data.toList ++ b.data.toList := by simp
theorem shape_eq (s : ByteArray) (l : List Opd) (hl : l.length ≤ 3) (hv : ∀ y ∈ l, validOpd y = true) : shapeL s (l.map markP) = (shapeUpto s l l.length).data.toList := by
  have hm : ∀ y ∈ l, markP y = mark07 y := fun y hy => mark_eq y (hv y hy)
  rw [List.map_congr_left hm]
  unfold shapeL
  match l, hl with
  | [], _ => simp only [List.map, Lib.join_nil, List.append_nil, trim_yes, List.length, shapeUpto]
  | [a], _ =>
    simp only [List.map, Lib.join_one, trim_no (mark07_ne (hv a (by simp))) (mark07_noSpace a), List.length, shapeUpto, data_app]
    rfl
  | [a, b], _ =>
    have e : Lib.join ([a, b].map mark07 |>.map (·.data.toList)) [44] = (mark07 a).data.toList ++ [44] ++ (mark07 b).data.toList := by simp [Lib.join, List.intercalate]
    rw [e, ← List.append_assoc, trim_no (mark07_ne (hv b (by simp))) (mark07_noSpace b)]
    simp [shapeUpto, sepAt]
  | [a, b, c], _ =>
    have e : Lib.join ([a, b, c].map mark07 |>.map (·.data.toList)) [44] = (mark07 a).data.toList ++ [44] ++ (mark07 b).data.toList ++ [44] ++ (mark07 c).data.toList := by simp [Lib.join, List.intercalate]
    rw [e, ← List.append_assoc, trim_no (mark07_ne (hv c (by simp))) (mark07_noSpace c)]
    simp [shapeUpto, sepAt]
end Go.Proofs.YtkkjoghfdmmpaaaDoor

/-
  append of one element onto a row of the call's own; bytes and strings as rows. Conditions: the new length's bytes.
-/
namespace Go.Proofs.YtkkjoghfdmmpaaaDoor
open Go.RowKit

theorem grown_step {w0 w1 w2 : World} {row : Option Nat} (h1 : w0.grownBy w1 row) (h2 : w1.grownBy w2 row) : w0.grownBy w2 row :=
  ⟨h2.1.trans h1.1, h2.2.trans h1.2, h2.3.trans h1.3, Nat.le_trans h1.4 h2.4, fun k hk hne => (h2.5 k (Nat.lt_of_lt_of_le hk h1.4) hne).trans (h1.5 k hk hne)⟩

section
variable {P : Program} {α : Type} {n : Nat} {enc : α → List Value} {h0 : ∀ x, (enc x).length = n} {h1 : ∀ x, ∀ u ∈ enc x, u.oneCell' = true}
/-- What one more element leaves. -/
def Pushed (R : Rep α) (w : World) (B : Nat) (e : TypeId) (row : Option Nat) (zs : List α) (v' : Value) (w' : World) : Prop := Own R w' B e NoB v' zs ∧ w.grownBy w' row
theorem Own.pushed {w : World} {B bytes : Nat} {t ty e : TypeId} {v : Value} {xs : List α} {x : α} (hE : ElT P t e n bytes) (h : Own (Rep.flat n enc h0 h1) w B e NoB v xs) (cs : Array Value) (hcs : cs = (enc x).toArray)
    (hbytes : (xs.length + 1) * bytes ≤ 140737488355328) (hlen : xs.length + 1 ≤ 9223372036854775807) (hB : B ≤ w.heap.size) :
    ∃ a c w', (Builtin.append_ #[t, t] ty #[v, .slice (some ⟨w.heap.size, 0, none⟩) 1 1]).run P (w.alloc (.cells cs e)) = .ok (.slice a (xs.length + 1) c) w' ∧ Pushed (Rep.flat n enc h0 h1) w B e v.ownBlock (xs ++ [x]) (.slice a (xs.length + 1) c) w' := by
  subst hcs
  have hlt := h.lt
  obtain ⟨v', w', hrun, ho, hg, _⟩ := run_append_R (P := P) (R := Rep.flat n enc h0 h1) (w := w.alloc (.cells (enc x).toArray e)) B t ty e bytes hE (p := NoB) (q := fun k => NoB k ∨ k = w.heap.size) (v := v)
    (vx := .slice (some ⟨w.heap.size, 0, none⟩) 1 1) (xs := xs) (ys := [x]) (h.keep (Keep.of_below ((Below.refl _ _).alloc (Nat.le_refl _) _) (fun k hk => by rcases hk with hk | hk; exact hk.elim; exact (hlt k hk).2))) (slR_one (R := Rep.flat n enc h0 h1) (p := NoB) rfl _) (fun _ hk => hk.elim)
    (fun k hk e => by
      rcases hk with hk | rfl
      · exact hk.elim
      · exact absurd (hlt _ e.symm).2 (Nat.lt_irrefl _)) (by simpa using hbytes) (by simpa using hlen) (by simp; omega)
  obtain ⟨a, c, rfl⟩ := ho.form
  have ho' := ho.flat NoB
  rw [List.length_append, List.length_singleton] at hrun ho'
  exact ⟨a, c, w', hrun, ho', grown_step (World.grownBy_alloc w _ _) hg⟩
theorem wp_push {o : Oper} {a : Act} {w : World} {K : Act → World → Prop} {Q : Exit → Act → World → Prop} (s x : Operand) (t : TypeId)
    (ho : o.op = .call { callee := .builtin .append, args := #[s, x], argTypes := #[t, t] })
    (B : Nat) (e : TypeId) (bytes : Nat) (hE : ElT P t e n bytes) (v : Value) (xs : List α) (y : α) (cs : Array Value) (hs : a.eval s = v) (hxe : a.eval x = .slice (some ⟨w.heap.size, 0, none⟩) 1 1) (hown : Own (Rep.flat n enc h0 h1) w B e NoB v xs)
    (hcs : cs = (enc y).toArray) (hbytes : (xs.length + 1) * bytes ≤ 140737488355328) (hlen : xs.length + 1 ≤ 9223372036854775807) (hB : B ≤ w.heap.size)
    (h : ∀ a' c' w', Pushed (Rep.flat n enc h0 h1) w B e v.ownBlock (xs ++ [y]) (.slice a' (xs.length + 1) c') w' → K (a.put o.dst (.slice a' (xs.length + 1) c')) w') : o.wp P a (w.alloc (.cells cs e)) K Q := by
  obtain ⟨a', c', w', hrun, h2⟩ := hown.pushed (P := P) (ty := o.type) hE cs hcs hbytes hlen hB
  unfold Oper.wp execOp
  simp only [ho, resolve, invoke, builtin, Sem.run_bind, Sem.run_pure, Result.andThen_ok, List.map_toArray, List.map_cons, List.map_nil, hs, hxe, hrun]
  exact h a' c' w' h2
theorem wpList_push {ops : Array Oper} {rest : List Oper} {o : Oper} {a : Act} {w : World} {Q : Exit → Act → World → Prop} (hgd : o.guard = none) (s x : Operand) (t : TypeId)
    (ho : o.op = .call { callee := .builtin .append, args := #[s, x], argTypes := #[t, t] })
    (B : Nat) (e : TypeId) (bytes : Nat) (hE : ElT P t e n bytes) (v : Value) (xs : List α) (y : α) (cs : Array Value) (hs : a.eval s = v) (hxe : a.eval x = .slice (some ⟨w.heap.size, 0, none⟩) 1 1) (hown : Own (Rep.flat n enc h0 h1) w B e NoB v xs)
    (hcs : cs = (enc y).toArray) (hbytes : (xs.length + 1) * bytes ≤ 140737488355328) (hlen : xs.length + 1 ≤ 9223372036854775807) (hB : B ≤ w.heap.size)
    (h : ∀ a' c' w', Pushed (Rep.flat n enc h0 h1) w B e v.ownBlock (xs ++ [y]) (.slice a' (xs.length + 1) c') w' → wpList P ops Q rest (a.put o.dst (.slice a' (xs.length + 1) c')) w') : wpList P ops Q (o :: rest) a (w.alloc (.cells cs e)) :=
  wpList_plain hgd fun _ hK => wp_push s x t ho B e bytes hE v xs y cs hs hxe hown hcs hbytes hlen hB fun a' c' w' h2 => hK _ _ (h a' c' w' h2)
end

/-- A row just laid out of a literal. -/
theorem Own.lit {α : Type} {n : Nat} {enc : α → List Value} {h0 : ∀ x, (enc x).length = n} {h1 : ∀ x, ∀ u ∈ enc x, u.oneCell' = true} (w : World) (e : TypeId) (l : List α) (cs : Array Value) (m : Nat) (hm : m = l.length) (hcs : cs.toList = l.flatMap enc) (hl : l.length ≤ 1000000) :
    Own (Rep.flat n enc h0 h1) (w.alloc (.cells cs e)) w.heap.size e NoB (.slice (some ⟨w.heap.size, 0, none⟩) m m) l := by
  subst hm
  have hels : ∀ (l : List α) (p : Blocks) (w : World), Els (Rep.flat n enc h0 h1) w p (l.flatMap enc) l := by
    intro l p w
    induction l with
    | nil => rfl
    | cons x l ih => exact ⟨enc x, l.flatMap enc, rfl, rfl, ih⟩
  have hlen : cs.size = l.length * n := by
    have := (hels l (fun _ => True) w).len
    rw [← hcs] at this
    simpa [Rep.flat] using this
  exact ⟨cs.toList, ⟨by simpa [Rep.flat] using hlen, .inr ⟨w.heap.size, l.length, cs, rfl, Nat.le_refl _, heap_alloc_new w _, Nat.le_refl _, by unfold maxLen; omega, hlen, List.take_of_length_le (by show cs.toList.length ≤ l.length * n; rw [← hlen, Array.length_toList]; exact Nat.le_refl _)⟩⟩, by rw [hcs]; exact hels l _ _⟩
theorem slR_lit {α : Type} {n : Nat} {enc : α → List Value} {h0 : ∀ x, (enc x).length = n} {h1 : ∀ x, ∀ u ∈ enc x, u.oneCell' = true} (w : World) (e : TypeId) (q : Blocks) (l : List α) (cs : Array Value) (m : Nat) (hm : m = l.length) (hcs : cs.toList = l.flatMap enc) (hl : l.length ≤ 1000000) (hq : ∀ k, w.heap.size ≤ k → q k) :
    SlR (Rep.flat n enc h0 h1) (w.alloc (.cells cs e)) q (.slice (some ⟨w.heap.size, 0, none⟩) m m) l := (Own.lit w e l cs m hm hcs hl).slR (fun _ h => h.elim) hq

def byteR : Rep UInt8 := Rep.flat 1 (fun b => [.int .u8 b.toNat]) (fun _ => rfl) (fun _ u hu => by simp at hu; subst hu; rfl)
theorem elByte : ElT Tryd.prog 58 5 byteR.size 1 := ElT.mk' (z := .int .u8 0) Tryd.underlying58 (by kernel_rfl) rfl (by decide)
/-- 'string(b)' of a slice of bytes. -/
theorem run_string_sl (w : World) (p : Blocks) (v : Value) (l : List UInt8) (h : SlR byteR w p v l) : (convert 58 9 v).run Tryd.prog w = .ok (.string ⟨l.toArray⟩) w := by
  obtain ⟨a, c, rfl, hc, hm, g⟩ := h
  cases l with
  | nil =>
    have hx := run_convert_bytes_string (P := Tryd.prog) w 58 9 5 a 0 c Tryd.underlying58 Tryd.underlying5 Tryd.underlying9
    show (convert _ _ (.slice a 0 c)).run _ w = _
    rw [hx]
    cases a <;> (simp [Conv.bytesToString, loadCells, loadCellsFrom]; rfl)
  | cons x xs =>
    obtain ⟨b, o, cs, rfl, _, _, _⟩ := g 0 x rfl
    exact run_convert_bytes_back w _ _ _ _ c (x :: xs) Tryd.underlying58 Tryd.underlying5 Tryd.underlying9 (fun j hj => by
      obtain ⟨b', o', cs', e, _, _, hcs, hr⟩ := g j (x :: xs)[j] (List.getElem?_eq_getElem hj)
      injection e with e
      injection e with e1 e2
      subst e1 e2
      have hr : cs' = [.int .u8 ((x :: xs)[j].toNat : Int)] := hr
      subst hr
      have := hcs 0 _ rfl
      have hadd : (⟨b, o, none⟩ : Addr).add j = ⟨b, o + j, none⟩ := by unfold Addr.add; split <;> simp_all
      rw [hadd]
      simpa [byteR, Rep.flat] using this)
end Go.Proofs.YtkkjoghfdmmpaaaDoor

/-
  The references' upper-case; breadboardref07.Upper; instr.Known; Go's comparison of lists of strings. Conditions: sizes.
-/
namespace Go.Proofs.YtkkjoghfdmmpaaaDoor
open Go.RowKit

theorem EqualStr_any (p q : Blocks) (v1 v2 : Value) (l1 l2 : List ByteArray) (w : World) (h1 : SlR strR w p v1 l1) (h2 : SlR strR w q v2 l2) :
    Calls Tryd.prog 58 #[v1, v2] w fun e w' => e = .returned (.bool (decide (l1 = l2))) ∧ Below w.heap.size w w' := by
  have hb1 := h1.len_le
  have hb2 := h2.len_le
  obtain ⟨a1, c1, rfl, hc1, hm1, g1⟩ := h1.str
  obtain ⟨a2, c2, rfl, hc2, hm2, g2⟩ := h2.str
  by_cases hl : l1.length = l2.length
  · cases l1 with
    | nil =>
      refine (Tryd.slices_Equal_string_empty a1 a2 c1 l2.length c2 w hb2).mono ?_
      rintro e w' ⟨rfl, rfl⟩
      have : l2 = [] := List.eq_nil_of_length_eq_zero hl.symm
      subst this
      exact ⟨ret_bool (by simp), Below.refl _ _⟩
    | cons x xs =>
      cases l2 with
      | nil => simp at hl
      | cons y ys =>
        obtain ⟨b1, o1, rfl, _, _⟩ := g1 0 x rfl
        obtain ⟨b2, o2, rfl, _, _⟩ := g2 0 y rfl
        refine (Tryd.slices_Equal_string b1 o1 (x :: xs).length c1 b2 o2 (y :: ys).length c2 (x :: xs) (y :: ys) w (Nat.le_refl _) (Nat.le_refl _) hb1 hb2 (fun j hj => ?_) (fun j hj => ?_)).mono ?_
        · obtain ⟨b, o, e, _, h⟩ := g1 j (x :: xs)[j] (List.getElem?_eq_getElem hj)
          injection e with e
          injection e with e1 e2
          subst e1 e2
          rw [h]; simp [List.getD, List.getElem?_eq_getElem hj]
        · obtain ⟨b, o, e, _, h⟩ := g2 j (y :: ys)[j] (List.getElem?_eq_getElem hj)
          injection e with e
          injection e with e1 e2
          subst e1 e2
          rw [h]; simp [List.getD, List.getElem?_eq_getElem hj]
        · rintro e w' ⟨rfl, n, rfl⟩
          exact ⟨ret_bool (by rw [List.take_length, List.take_length]), (Below.refl _ _).trans ⟨rfl, rfl, rfl, Nat.le_refl _, fun _ _ => rfl⟩⟩
  · refine (Tryd.slices_Equal_string_lens a1 a2 l1.length c1 l2.length c2 w hl).mono ?_
    rintro e w' ⟨rfl, rfl⟩
    exact ⟨ret_bool (decide_eq_false (fun e => hl (by rw [e]))).symm, Below.refl _ _⟩

theorem up_take {l xs : List UInt8} {k : Nat} {c : UInt8} (hx : xs = (l.take k).map up) (HT : l.take (k+1) = l.take k ++ [c]) : xs ++ [up c] = (l.take (k+1)).map up := by
  rw [HT, List.map_append, List.map_singleton, hx]
theorem up_byte {c : UInt8} (h1 : 97 ≤ c.toNat) (h2 : c.toNat ≤ 122) : (#[Value.int .u8 ((c.toNat : Int) - 32)] : Array Value) = [Value.int .u8 ((up c).toNat : Int)].toArray := by
  rw [up_yes h1 h2, show (c.toNat : Int) - 97 + 65 = c.toNat - 32 by omega]
theorem no_byte {c : UInt8} (h : ¬ (97 ≤ c.toNat ∧ c.toNat ≤ 122)) : (#[Value.int .u8 (c.toNat : Int)] : Array Value) = [Value.int .u8 ((up c).toNat : Int)].toArray := by rw [up_no h]

set_option maxHeartbeats 1000000 in
theorem Upper01_any (s : ByteArray) (w : World) (hs : s.size ≤ 1000000) :
    Calls Tryd.prog 57 #[.string s] w fun e w' => e = .returned (.string (upper s)) ∧ Below w.heap.size w w' := by
  generalize hl : s.data.toList = l at *
  have hlen : l.length = s.size := by rw [← hl]; simp
  have HL := Lib.hid hl
  have HLEN := Lib.hid hlen
  clear hl hlen
  go_enter Tryd.func57, Tryd.ntmps57
  go_wp2
  go_loopw [3, 4] (fun v i wr => ∃ k : Nat, k ≤ s.size ∧ i = .int .i64 k ∧ Own byteR wr w.heap.size 5 NoB v ((l.take k).map up) ∧ Below w.heap.size w wr) (fun _ i _ => s.size - (intOf i).toNat)
  case atStart => exact ⟨0, Nat.zero_le _, rfl, Own.nil _ _ _ _ _, Below.refl _ _⟩
  case round =>
    obtain ⟨k, hk, rfl, ho, hb⟩ := hrel
    by_cases hlt : k < s.size
    · have hlt' : k < l.length := by have := HLEN.out; omega
      have HT : Hid (l.take (k+1) = l.take k ++ [l[k]]) := List.take_succ_eq_append_getElem hlt'
      have hck : l[k] = s[k] := by have := HL.out; subst this; rfl
      rw [hck] at HT
      have hlm : ((l.take k).map up).length = k := by simp; omega
      generalize hx : (l.take k).map up = xs at *
      have HX := Lib.hid (up_take hx.symm HT.out)
      have HLM := Lib.hid hlm
      have HO := Lib.hid ho
      have HB := Lib.hid hb
      obtain ⟨oa, oc, rfl⟩ := ho.form
      clear hck hx hlm ho
      have hc256 : s[k].toNat < 256 := s[k].toNat_lt
      have HC1 : Hid ((xs.length + 1) * 1 ≤ 140737488355328) := by have := HLM.out; show _ ≤ _; omega
      have HC2 : Hid (xs.length + 1 ≤ 9223372036854775807) := by have := HLM.out; show _ ≤ _; omega
      by_cases h1 : 97 ≤ s[k].toNat
      · by_cases h2 : s[k].toNat ≤ 122
        · have HC := Lib.hid (up_byte h1 h2)
          go_wp2_with (at_builtin; refine wpList_push rfl (.tmp 23) (.tmp 25) 58 rfl w.heap.size 5 1 elByte _ xs (up s[k]) _ rfl rfl HO.out HC.out HC1.out HC2.out HB.out.size ?_; intro a' c' w' hp; have HP := Lib.hid hp; clear hp)
          go_roundw
          case rel => exact ⟨k + 1, by omega, by go_num, by rw [← HX.out]; exact HP.out.1, HB.out.grown HP.out.2 HB.out.size (fun j hj => (HO.out.lt j hj).1)⟩
          case measure => simp [intOf]; omega
        · have HC := Lib.hid (no_byte (c := s[k]) (by omega))
          go_wp2_with (at_builtin; refine wpList_push rfl (.tmp 23) (.tmp 25) 58 rfl w.heap.size 5 1 elByte _ xs (up s[k]) _ rfl rfl HO.out HC.out HC1.out HC2.out HB.out.size ?_; intro a' c' w' hp; have HP := Lib.hid hp; clear hp)
          go_roundw
          case rel => exact ⟨k + 1, by omega, by go_num, by rw [← HX.out]; exact HP.out.1, HB.out.grown HP.out.2 HB.out.size (fun j hj => (HO.out.lt j hj).1)⟩
          case measure => simp [intOf]; omega
      · have HC := Lib.hid (no_byte (c := s[k]) (by omega))
        go_wp2_with (at_builtin; refine wpList_push rfl (.tmp 23) (.tmp 25) 58 rfl w.heap.size 5 1 elByte _ xs (up s[k]) _ rfl rfl HO.out HC.out HC1.out HC2.out HB.out.size ?_; intro a' c' w' hp; have HP := Lib.hid hp; clear hp)
        go_roundw
        case rel => exact ⟨k + 1, by omega, by go_num, by rw [← HX.out]; exact HP.out.1, HB.out.grown HP.out.2 HB.out.size (fun j hj => (HO.out.lt j hj).1)⟩
        case measure => simp [intOf]; omega
    · have hk' : k = s.size := by omega
      subst hk'
      rw [List.take_of_length_le (by have := HLEN.out; omega)] at ho
      have hstr := run_string_sl wr (fun _ => True) _ _ (ho.slR (fun _ _ => trivial) (fun _ _ => trivial))
      have HB := Lib.hid hb
      rw [← HL.out] at hstr
      clear ho hb
      go_wp2
      go_ret
      exact ⟨rfl, HB.out⟩

theorem upper_size (s : ByteArray) : (upper s).size = s.size := by
  show ((s.data.toList.map up).toArray).size = s.data.size
  rw [List.size_toArray, List.length_map, Array.length_toList]
set_option maxHeartbeats 1000000 in
theorem Known_any (s : ByteArray) (w : World) (hT : Spc w) (hs : s.size ≤ 1000000) :
    Calls Tryd.prog 55 #[.string s] w fun e w' => e = .returned (.bool (inL opsL (upper s))) ∧ Below w.heap.size w w' := by
  have hset := set_any w hT
  have HSET := Lib.hid hset
  have HUS : Hid ((upper s).size ≤ maxLen) := by
    have : (upper s).size = s.size := upper_size s
    show _ ≤ _; unfold maxLen; omega
  clear hset hT
  go_enter Tryd.func55, Tryd.ntmps55
  go_wp2_with fail
  refine HSET.out.mono ?_
  rintro e w1 ⟨rfl, ⟨D, hown, hD⟩, hb⟩
  have HB1 := Lib.hid hb
  go_wp2_with fail
  refine (Upper_any s _ (by omega)).mono ?_
  rintro e w2 ⟨rfl, hb2⟩
  have HB2 := Lib.hid hb2
  have hlook := look_set (w := w2) (hown.kept (row := none) ⟨hb2.os, hb2.tape, hb2.output, hb2.size, fun k hk _ => hb2.block k hk⟩ (by simp)) hD (upper s) HUS.out
  clear hb hb2 hown hD
  go_wp2
  go_ret
  exact ⟨rfl, HB1.out.trans (HB2.out.mono HB1.out.size)⟩
end Go.Proofs.YtkkjoghfdmmpaaaDoor

/-
  strings.Join on a list of strings; instr.Shape.
-/
namespace Go.Proofs.YtkkjoghfdmmpaaaDoor
open Go.RowKit

def joinL (l : List ByteArray) (sep : ByteArray) : List UInt8 := Lib.join (l.map (·.data.toList)) sep.data.toList
theorem join_any (p : Blocks) (v : Value) (l : List ByteArray) (sep : ByteArray) (w : World) (h : SlR strR w p v l) (hN : l.length ≤ 140737488355328) (hlen : (joinL l sep).length ≤ 140737488355328) :
    Calls Tryd.prog 69 #[v, .string sep] w fun e w' => (∃ j : ByteArray, e = .returned (.string j) ∧ j.data.toList = joinL l sep) ∧ Below w.heap.size w w' := by
  obtain ⟨a, c, rfl, hc, _, g⟩ := h.str
  cases l with
  | nil =>
    refine (Tryd.strings_Join_none a c sep w).mono ?_
    rintro e w' ⟨rfl, rfl⟩
    exact ⟨⟨_, rfl, by simp [joinL, Lib.join_nil]⟩, Below.refl _ _⟩
  | cons x xs =>
    obtain ⟨b, o, rfl, _, hx⟩ := g 0 x rfl
    refine (Tryd.strings_Join b o c (x :: xs) sep w (fun j y hy => ?_) (World.block_lt_of_cell? _ _ hx) hN hc hlen).mono ?_
    · obtain ⟨b', o', e, _, hy'⟩ := g j y hy
      injection e with e
      injection e with e1 e2
      subst e1 e2
      exact hy'
    · rintro e w' ⟨rfl, hb⟩
      exact ⟨⟨_, rfl, rfl⟩, hb⟩

theorem markP_size {o : Opd} (h : validOpd o = true) : (markP o).size ≤ 6 := by rw [mark_eq o h]; exact mark07_size o
theorem joinL_size (l : List ByteArray) (h : ∀ s ∈ l, s.size ≤ 6) (hl : l.length ≤ 3) : (joinL l ⟨#[44]⟩).length ≤ 20 := by
  have hs : ∀ s ∈ l, s.data.toList.length ≤ 6 := fun s hs => by have := h s hs; simpa using this
  match l, hl with
  | [], _ => simp [joinL, Lib.join_nil]
  | [a], _ => have := hs a (by simp); simp only [joinL, List.map, Lib.join_one]; omega
  | [a, b], _ =>
    have h1 := hs a (by simp)
    have h2 := hs b (by simp)
    simp [joinL, Lib.join, List.intercalate] at h1 h2 ⊢; omega
  | [a, b, c], _ =>
    have h1 := hs a (by simp)
    have h2 := hs b (by simp)
    have h3 := hs c (by simp)
    simp [joinL, Lib.join, List.intercalate] at h1 h2 h3 ⊢; omega

theorem size_of_join {j : ByteArray} {l : List UInt8} (h : j.data.toList = l) (hl : l.length ≤ 20) : j.size ≤ 20 := by rw [← h] at hl; simpa using hl
theorem size_le_max {s j : ByteArray} (h1 : s.size ≤ 4) (h2 : j.size ≤ 20) : (s ++ ⟨#[32]⟩ ++ j).size ≤ 9223372036854775807 := by
  rw [ByteArray.size_append, ByteArray.size_append]; show s.size + 1 + j.size ≤ _; omega
theorem cat_le_max {s j : ByteArray} (h1 : s.size ≤ 4) (h2 : j.size ≤ 20) : (s ++ ⟨#[32]⟩).size + j.size ≤ 9223372036854775807 := by
  rw [ByteArray.size_append]; show s.size + 1 + j.size ≤ _; omega
/-- What stands while the marks are gathered. -/
structure ShH (w0 : World) (x : Ins) (b0 bm : Nat) (va vm : Value) (k : Nat) (w : World) : Prop where
  below : Below w0.heap.size w0 w
  lt : w0.heap.size ≤ bm
  sx : SlR opdR w (fun b => b < bm) va x.args
  blk : Blk w b0 39 #[.string x.op, va]
  lt0 : b0 < bm
  mks : Blk w bm 33 #[vm]
  own : Own strR w (bm + 1) 9 NoB vm ((x.args.take k).map markP)

theorem ShH.step {w0 w w' : World} {x : Ins} {b0 bm k : Nat} {va vm v' : Value} (h : ShH w0 x b0 bm va vm k w) (hk : k < x.args.length) (hb : Below bm w w') (hm : Blk w' bm 33 #[v'])
    (ho : Own strR w' (bm + 1) 9 NoB v' ((x.args.take k).map markP ++ [markP x.args[k]])) : ShH w0 x b0 bm va v' (k + 1) w' :=
  ⟨h.below.trans (hb.mono h.lt), h.lt, h.sx.keep (Keep.of_below hb fun _ hk => hk), h.blk.below hb h.lt0, h.lt0, hm, by
    rw [List.take_succ_eq_append_getElem hk, List.map_append]; exact ho⟩
theorem ShH.drew {w0 w : World} {x : Ins} {b0 bm k : Nat} {va vm : Value} (h : ShH w0 x b0 bm va vm k w) : ShH w0 x b0 bm va vm k w.drew :=
  ⟨⟨h.below.os, h.below.tape, h.below.output, h.below.size, h.below.block⟩, h.lt, h.sx.drew, h.blk, h.lt0, h.mks, h.own.keep fun _ _ => rfl⟩

set_option maxHeartbeats 2000000 in
theorem shape_any (p : Blocks) (x : Ins) (v : Value) (w : World) (h : SlR opdR w p v x.args) (hT : Spc w) (hs : x.op.size ≤ maxLen) :
    Calls Tryd.prog 48 #[.agg #[.string x.op, v]] w fun e w' => e = .returned (.string (shape07 x)) ∧ Below w.heap.size w w' := by
  obtain ⟨a, c, rfl, _⟩ := h.opd
  obtain ⟨W, hW⟩ : ∃ W : World, W = w.alloc (.cells #[.string x.op, .slice a x.args.length c] 39) := ⟨_, rfl⟩
  have hbW : Below w.heap.size w W := hW ▸ (Below.refl _ _).alloc (Nat.le_refl _) _
  have k1 : Blk W w.heap.size 39 #[.string x.op, .slice a x.args.length c] := hW ▸ Blk.new w _ _
  have HBW := Lib.hid hbW
  have HK := Lib.hid k1
  have HSL := Lib.hid (h.below hbW)
  have HCH := Lib.hid (check_any _ x _ W HSL.out (hT.below hbW) hs)
  obtain ⟨a0, a1, _, _⟩ := k1.two
  clear h hbW k1 hT hs
  cases hc : (check07 x == 0)
  · have HV := Lib.hid (show shape07 x = ⟨#[]⟩ by simp only [shape07, hc]; rfl)
    have hne : (check07 x != 0) = true := by simpa [bne] using hc
    go_enter Tryd.func48, Tryd.ntmps48
    go_wp2_with fail
    rw [← hW]
    clear hW
    refine HCH.out.mono ?_
    rintro e w1 ⟨rfl, hb⟩
    have HB1 := Lib.hid hb
    clear hb
    go_wp2
    go_ret
    exact ⟨ret_str HV.out.symm, HBW.out.trans (HB1.out.mono HBW.out.size)⟩
  · have hc0 : check07 x = 0 := by simpa using hc
    have HV := Lib.hid (show shape07 x = shapeUpto x.op x.args x.args.length by simp only [shape07, hc]; rfl)
    obtain ⟨hop, hn, hval⟩ := check_zero hc0
    have hsz : x.op.size ≤ 4 := (show ∀ s ∈ opsL, s.size ≤ 4 by decide +kernel) _ (inL_iff.1 hop)
    have HN := Lib.hid hn
    have HVAL := Lib.hid hval
    rw [hc0] at HCH
    clear hc hc0 hop hn hval
    go_enter Tryd.func48, Tryd.ntmps48
    go_wp2_with fail
    rw [← hW]
    clear hW
    refine HCH.out.mono ?_
    rintro e w1 ⟨rfl, hb⟩
    have hl1 := Nat.lt_of_lt_of_le HK.out.lt hb.size
    have H0 : Hid (ShH w x w.heap.size w1.heap.size (.slice a x.args.length c) (.slice none 0 0) 0 (w1.alloc (.cells #[.slice none 0 0] 33))) :=
      ⟨(HBW.out.trans (hb.mono HBW.out.size)).alloc (Nat.le_trans HBW.out.size hb.size) _, Nat.le_trans HBW.out.size hb.size,
       (((HSL.out.below hb).old).mono fun _ hk => hk.2).alloc _, (HK.out.below hb HK.out.lt).alloc _, hl1, Blk.new w1 _ _, Own.nil _ _ _ _ _⟩
    obtain ⟨b0, b1, _, _⟩ := (HK.out.below hb HK.out.lt).two
    clear hb a0 a1
    go_wp2
    go_loopw [14] (fun i wr => ∃ (k : Nat) (vm : Value), k ≤ x.args.length ∧ i = .int .i64 k ∧ ShH w x w.heap.size w1.heap.size (.slice a x.args.length c) vm k wr) (fun i _ => x.args.length - (intOf i).toNat)
    case atStart => exact ⟨0, _, Nat.zero_le _, rfl, H0.out⟩
    case round =>
      obtain ⟨k, vm, hk, rfl, hh⟩ := hrel
      have H := Lib.hid hh
      have hbm : w1.heap.size < wr.heap.size := hh.mks.lt
      obtain ⟨p0, p1⟩ := hh.mks.one
      obtain ⟨a0, a1, _, _⟩ := hh.blk.two
      clear hh
      by_cases hlt : k < x.args.length
      · obtain ⟨ad, cd, hv, _, _, g1⟩ := H.out.sx.opd
        obtain ⟨rfl, _, rfl⟩ : a = ad ∧ x.args.length = x.args.length ∧ c = cd := by injection hv with h1 h2 h3; exact ⟨h1, h2, h3⟩
        obtain ⟨b2, o2, rfl, _, d1, d2, d3⟩ := g1 k x.args[k] (List.getElem?_eq_getElem hlt)
        clear g1 hv
        have HSTEP := fun w' v' => Lib.hid (H.out.step (w' := w') (v' := v') hlt)
        have HMS : Hid (((x.args.take k).map markP).length ≤ 1000) := by have := HN.out; show _ ≤ _; simp; omega
        have HOX := Lib.hid H.out.own
        generalize (x.args.take k).map markP = ms at *
        generalize x.args[k] = y at *
        have HADD := Lib.hid (add_any y w1.heap.size w1.heap.size vm ms (wr.alloc (.cells #[.int .i64 y.kind, .int .i64 y.reg, .int .i64 y.n] 47)) (H.out.mks.alloc _) (HOX.out.stay ((Below.refl _ _).alloc (Nat.le_refl _) _)) (Nat.le_refl _) HMS.out)
        go_wp2_with (go_at_call 100; refine HADD.out.mono ?_; rintro e w3 ⟨rfl, ⟨v3, hk3, ho3⟩, hb⟩; have H3 := (HSTEP w3 v3).out (((Below.refl _ _).alloc (Nat.le_of_lt hbm) _).trans hb) hk3 ho3; have H4 := Lib.hid H3; clear hb hk3 ho3 H3)
        go_roundw
        case rel => exact ⟨k + 1, v3, by omega, by go_num, H4.out⟩
        case measure => simp [intOf]; omega
      · obtain rfl : k = x.args.length := by omega
        have HNS := H.out.own
        rw [List.take_length] at HNS
        have HSLM := Lib.hid ((HNS.slR (q := fun _ => True) (fun _ _ => trivial) (fun _ _ => trivial)).drew)
        have HJN := Lib.hid (joinL_size (x.args.map markP) (fun s hs => by obtain ⟨y, hy, rfl⟩ := List.mem_map.1 hs; exact markP_size (HVAL.out y hy)) (by simpa using HN.out))
        have HJ := Lib.hid (join_any _ _ _ ⟨#[44]⟩ _ HSLM.out (by have := HN.out; simp; omega) (by have := HJN.out; omega))
        clear HNS
        have hcat := fun wz => run_string_add_sum (P := Tryd.prog) wz x.op ⟨#[32]⟩ (by show x.op.size + 1 ≤ _; omega)
        have HBW3 := Lib.hid H.out.below
        have HFIN := Lib.hid (shape_eq x.op x.args HN.out HVAL.out)
        go_wp2
        go_region_held3 (fun w' => w'.cell? ⟨w.heap.size, 0, none⟩ = some (.string x.op) ∧ w'.cell? ⟨w1.heap.size, 0, none⟩ = some vm) (go_keep)
          (first | (go_at_call 69; refine HJ.out.mono ?_; rintro e w3 ⟨⟨j, rfl, hj⟩, hb⟩; have HB3 := Lib.hid hb; have HJ3 := Lib.hid hj; have f0 : w3.cell? ⟨w.heap.size, 0, none⟩ = some (.string x.op) := (hb.cell (p := ⟨w.heap.size, 0, none⟩) (Nat.lt_trans hl1 hbm)).trans a0; have f1 : w3.cell? ⟨w1.heap.size, 0, none⟩ = some vm := (hb.cell (p := ⟨w1.heap.size, 0, none⟩) hbm).trans p0; have hjs : j.size ≤ 20 := size_of_join hj HJN.out; have hcat2 := (fun wz => run_string_add_sum (P := Tryd.prog) wz (x.op ++ ⟨#[32]⟩) j (cat_le_max hsz hjs)); clear hb hj)
                 | (go_at_call 103; refine (Tryd.strings_TrimSuffix _ _ _ (size_le_max hsz hjs)).mono ?_; rintro e w4 ⟨rfl, rfl⟩))
        go_wp2
        go_ret
        refine ⟨ret_str ?_, HBW3.out.drew.trans (HB3.out.mono HBW3.out.size)⟩
        rw [HV.out]
        apply toList_inj
        rw [Go.ByteArray.toList_eq, Go.ByteArray.toList_eq]
        show Lib.trimSuffix _ _ = _
        rw [HJ3.out, ← HFIN.out]
        simp [shapeL, joinL]
end Go.Proofs.YtkkjoghfdmmpaaaDoor
