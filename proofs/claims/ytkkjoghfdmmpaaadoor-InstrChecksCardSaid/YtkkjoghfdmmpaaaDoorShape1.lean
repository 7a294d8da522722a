/-
  THE SHAPE OF AN INSTRUCTION: the reference's.
-/
import Derived.Test.YtkkjoghfdmmpaaaDoorText4
import Derived.Test.YtkkjoghfdmmpaaaDoorNumb1
namespace Go.Proofs.YtkkjoghfdmmpaaaDoor
open Go.RowKit

theorem regs_size (k : Int) : ∀ s ∈ regsL k, s.size ≤ 4 := by
  by_cases h1 : k = 1
  · subst h1; decide +kernel
  by_cases h2 : k = 2
  · subst h2; decide +kernel
  by_cases h3 : k = 3
  · subst h3; decide +kernel
  by_cases h4 : k = 4
  · subst h4; decide +kernel
  by_cases h5 : k = 5
  · subst h5; decide +kernel
  by_cases h8 : k = 8
  · subst h8; decide +kernel
  by_cases h9 : k = 9
  · subst h9; decide +kernel
  simp [regsL, h1, h2, h3, h4, h5, h8, h9]
theorem nameOf_size (k r : Int) : (nameOf k r).size ≤ 4 := by
  unfold nameOf nameL
  split
  · decide
  · cases h : (regsL k)[r.toNat]? with
    | none => decide
    | some s => exact regs_size k s (List.mem_of_getElem? h)
theorem mark07_size (o : Opd) : (mark07 o).size ≤ 6 := by
  unfold mark07
  repeat' split
  all_goals first | decide | skip
  unfold regText06
  split
  · exact Nat.le_trans (nameOf_size _ _) (by decide)
  · decide
def sepAt (k : Nat) : ByteArray := if k = 0 then ⟨#[32]⟩ else ⟨#[44]⟩
/-- the shape of the first k operands -/
def shapeUpto (s : ByteArray) (l : List Opd) : Nat → ByteArray
  | 0 => s
  | k + 1 => (shapeUpto s l k ++ sepAt k) ++ mark07 (l.getD k default)
theorem shapeUpto_size (s : ByteArray) (l : List Opd) : ∀ k, (shapeUpto s l k).size ≤ s.size + 7 * k
  | 0 => by simp [shapeUpto]
  | k + 1 => by
    have h1 := shapeUpto_size s l k
    have h2 := mark07_size (l.getD k default)
    have h3 : (sepAt k).size = 1 := by unfold sepAt; split <;> rfl
    simp only [shapeUpto, ByteArray.size_append]
    omega
def shape07 (x : Ins) : ByteArray := if check07 x == 0 then shapeUpto x.op x.args x.args.length else ⟨#[]⟩

set_option maxHeartbeats 2000000 in
theorem shape07_any (p : Blocks) (x : Ins) (v : Value) (w : World) (h : SlR opdR w p v x.args) :
    Calls Tryd.prog 49 #[.agg #[.string x.op, v]] w fun e w' => e = .returned (.string (shape07 x)) ∧ Below w.heap.size w w' := by
  obtain ⟨a, c, rfl, _⟩ := h.opd
  obtain ⟨W, hW⟩ : ∃ W : World, W = w.alloc (.cells #[.string x.op, .slice a x.args.length c] 39) := ⟨_, rfl⟩
  have hbW : Below w.heap.size w W := hW ▸ (Below.refl _ _).alloc (Nat.le_refl _) _
  have k1 : Blk W w.heap.size 39 #[.string x.op, .slice a x.args.length c] := hW ▸ Blk.new w _ _
  have HBW := Lib.hid hbW
  have HK := Lib.hid k1
  have HSL := Lib.hid (h.below hbW)
  have HCH := Lib.hid (check07_any _ x _ W HSL.out)
  obtain ⟨a0, a1, _, _⟩ := k1.two
  clear h hbW k1
  cases hc : (check07 x == 0)
  · have HV := Lib.hid (show shape07 x = ⟨#[]⟩ by simp only [shape07, hc]; rfl)
    go_enter Tryd.func49, Tryd.ntmps49
    go_wp2_with fail
    rw [← hW]
    clear hW
    refine HCH.out.mono ?_
    rintro e w1 ⟨rfl, hb⟩
    have HB1 := Lib.hid hb
    clear hb
    go_wp2
    go_ret
    exact ⟨ret_str HV.out.symm, HBW.out.trans (HB1.out.mono HBW.out.size)⟩
  · have hc0 : check07 x = 0 := by simpa using hc
    have HV := Lib.hid (show shape07 x = shapeUpto x.op x.args x.args.length by simp only [shape07, hc]; rfl)
    obtain ⟨hop, hn, _⟩ := check_zero hc0
    have hsz : x.op.size ≤ 4 := (show ∀ s ∈ opsL, s.size ≤ 4 by decide +kernel) _ (inL_iff.1 hop)
    have HN := Lib.hid hn
    have HSZ : Hid (∀ k, k ≤ 3 → (shapeUpto x.op x.args k).size ≤ 1000) := fun k hk => by have := shapeUpto_size x.op x.args k; omega
    rw [hc0] at HCH
    clear hc hc0 hop hn hsz
    go_enter Tryd.func49, Tryd.ntmps49
    go_wp2_with fail
    rw [← hW]
    clear hW
    refine HCH.out.mono ?_
    rintro e w1 ⟨rfl, hb⟩
    have HB1 := Lib.hid (HBW.out.trans (hb.mono HBW.out.size))
    have HSL1 := Lib.hid (HSL.out.below hb)
    have HK1 := Lib.hid (HK.out.below hb HK.out.lt)
    obtain ⟨b0, b1, _, _⟩ := HK1.out.two
    clear hb a0 a1
    go_wp2
    go_loopw [3, 4] (fun o i wr => ∃ k : Nat, k ≤ x.args.length ∧ i = .int .i64 k ∧ o = .string (shapeUpto x.op x.args k) ∧ Below w1.heap.size w1 wr) (fun _ i _ => x.args.length - (intOf i).toNat)
    case atStart => exact ⟨0, Nat.zero_le _, rfl, rfl, Below.refl _ _⟩
    case round =>
      obtain ⟨k, hk, rfl, rfl, hb⟩ := hrel
      have HBX := Lib.hid hb
      have HKX := Lib.hid (HK1.out.below hb HK1.out.lt)
      obtain ⟨a0, a1, _, _⟩ := HKX.out.two
      obtain ⟨ad, cd, hv, _, _, g1⟩ := (HSL1.out.below hb).opd
      obtain ⟨rfl, _, rfl⟩ : a = ad ∧ x.args.length = x.args.length ∧ c = cd := by injection hv with h1 h2 h3; exact ⟨h1, h2, h3⟩
      clear hb hv
      have hsk := HSZ.out k (by have := HN.out; omega)
      by_cases hlt : k < x.args.length
      · obtain ⟨b2, o2, rfl, _, d1, d2, d3⟩ := g1 k x.args[k] (List.getElem?_eq_getElem hlt)
        clear g1
        have hm := mark07_size x.args[k]
        have HST : Hid (shapeUpto x.op x.args (k + 1) = (shapeUpto x.op x.args k ++ sepAt k) ++ mark07 x.args[k]) := by
          show (shapeUpto x.op x.args k ++ sepAt k) ++ mark07 (x.args.getD k default) = _
          rw [show x.args.getD k default = x.args[k] by simp [List.getD, hlt]]
        have HMK := Lib.hid (fun wz => mark07_any x.args[k] wz)
        generalize x.args[k] = y at *
        by_cases hk0 : k = 0
        · subst hk0
          simp only [Nat.zero_mul, Nat.add_zero] at d1 d2 d3
          go_wp2_with (go_at_call 104; refine (HMK.out _).mono ?_; rintro e w2 ⟨rfl, hb⟩; have HB2 := Lib.hid (HBX.out.trans (hb.mono HBX.out.size)); clear hb)
          go_roundw
          case rel => exact ⟨1, by omega, by go_num, by rw [HST.out]; rfl, HB2.out⟩
          case measure => simp [intOf]; omega
        · have hkb : ((k : Int) == 0) = false := by simpa using hk0
          go_wp2_with (go_at_call 104; refine (HMK.out _).mono ?_; rintro e w2 ⟨rfl, hb⟩; have HB2 := Lib.hid (HBX.out.trans (hb.mono HBX.out.size)); clear hb)
          go_roundw
          case rel => exact ⟨k + 1, by omega, by go_num, by rw [HST.out, sepAt, if_neg hk0], HB2.out⟩
          case measure => simp [intOf]; omega
      · clear g1
        have hkl : k = x.args.length := by omega
        go_wp2
        go_ret
        subst hkl
        exact ⟨ret_str HV.out.symm, HB1.out.trans (HBX.out.mono HB1.out.size)⟩
end Go.Proofs.YtkkjoghfdmmpaaaDoor
