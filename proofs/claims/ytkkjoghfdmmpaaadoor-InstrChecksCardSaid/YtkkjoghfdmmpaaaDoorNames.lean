/-
  THE MNEMONICS: the reference's Ops, Known and Check.
-/
import Derived.Test.YtkkjoghfdmmpaaaDoorValid8
import Derived.Test.YtkkjoghfdmmpaaaDoorIns
namespace Go.Proofs.YtkkjoghfdmmpaaaDoor
open Go.RowKit

def opsL : List ByteArray := [⟨#[65, 68, 67]⟩, ⟨#[65, 68, 68]⟩, ⟨#[65, 78, 68]⟩, ⟨#[66, 73, 84]⟩, ⟨#[67, 65, 76, 76]⟩, ⟨#[67, 67, 70]⟩, ⟨#[67, 80]⟩, ⟨#[67, 80, 68]⟩, ⟨#[67, 80, 68, 82]⟩, ⟨#[67, 80, 73]⟩, ⟨#[67, 80, 73, 82]⟩, ⟨#[67, 80, 76]⟩, ⟨#[68, 65, 65]⟩, ⟨#[68, 69, 67]⟩, ⟨#[68, 73]⟩, ⟨#[68, 74, 78, 90]⟩, ⟨#[69, 73]⟩, ⟨#[69, 88]⟩, ⟨#[69, 88, 88]⟩, ⟨#[72, 65, 76, 84]⟩, ⟨#[73, 77]⟩, ⟨#[73, 78]⟩, ⟨#[73, 78, 67]⟩, ⟨#[73, 78, 68]⟩, ⟨#[73, 78, 68, 82]⟩, ⟨#[73, 78, 73]⟩, ⟨#[73, 78, 73, 82]⟩, ⟨#[74, 80]⟩, ⟨#[74, 82]⟩, ⟨#[76, 68]⟩, ⟨#[76, 68, 68]⟩, ⟨#[76, 68, 68, 82]⟩, ⟨#[76, 68, 73]⟩, ⟨#[76, 68, 73, 82]⟩, ⟨#[78, 69, 71]⟩, ⟨#[78, 79, 80]⟩, ⟨#[79, 82]⟩, ⟨#[79, 84, 68, 82]⟩, ⟨#[79, 84, 73, 82]⟩, ⟨#[79, 85, 84]⟩, ⟨#[79, 85, 84, 68]⟩, ⟨#[79, 85, 84, 73]⟩, ⟨#[80, 79, 80]⟩, ⟨#[80, 85, 83, 72]⟩, ⟨#[82, 69, 83]⟩, ⟨#[82, 69, 84]⟩, ⟨#[82, 69, 84, 73]⟩, ⟨#[82, 69, 84, 78]⟩, ⟨#[82, 76]⟩, ⟨#[82, 76, 65]⟩, ⟨#[82, 76, 67]⟩, ⟨#[82, 76, 67, 65]⟩, ⟨#[82, 76, 68]⟩, ⟨#[82, 82]⟩, ⟨#[82, 82, 65]⟩, ⟨#[82, 82, 67]⟩, ⟨#[82, 82, 67, 65]⟩, ⟨#[82, 82, 68]⟩, ⟨#[82, 83, 84]⟩, ⟨#[83, 66, 67]⟩, ⟨#[83, 67, 70]⟩, ⟨#[83, 69, 84]⟩, ⟨#[83, 76, 65]⟩, ⟨#[83, 76, 76]⟩, ⟨#[83, 82, 65]⟩, ⟨#[83, 82, 76]⟩, ⟨#[83, 85, 66]⟩, ⟨#[88, 79, 82]⟩]
theorem opsL_len : opsL.length = 68 := rfl

set_option maxRecDepth 100000 in
set_option maxHeartbeats 2000000 in
theorem ops07_any (w : World) : Calls Tryd.prog 60 #[] w fun e w' => ∃ v, e = .returned v ∧ SlR strR w' (fun _ => True) v opsL ∧ Below w.heap.size w w' := by
  have HF : Hid (SlR strR (w.alloc (.cells (opsL.map Value.string).toArray 9)) (fun _ => True) (.slice (some ⟨w.heap.size, 0, none⟩) opsL.length opsL.length) opsL) := slR_strs w 9 (fun _ => True) opsL _ rfl trivial (by decide)
  go_enter Tryd.func60, Tryd.ntmps60
  go_wp2
  go_ret
  exact ⟨_, rfl, HF.out, (Below.refl _ _).alloc (Nat.le_refl _) _⟩

set_option maxHeartbeats 400000 in
theorem known07_any (s : ByteArray) (w : World) : Calls Tryd.prog 56 #[.string s] w fun e w' => e = .returned (.bool (inL opsL s)) ∧ Below w.heap.size w w' := by
  have ho := ops07_any w
  obtain ⟨l, hl⟩ : ∃ l, l = opsL := ⟨_, rfl⟩
  rw [← hl] at ho ⊢
  clear hl
  have HO := Lib.hid ho
  clear ho
  go_enter Tryd.func56, Tryd.ntmps56
  go_wp2_with fail
  refine HO.out.mono ?_
  rintro e w1 ⟨v, rfl, hs, hb⟩
  have HB := Lib.hid hb
  clear hb
  obtain ⟨a1, c1, rfl, hc1, hm1, g1⟩ := hs.str
  clear hs HO
  go_wp2
  go_loop [4] (fun i => ∃ k : Nat, k ≤ l.length ∧ i = .int .i64 k ∧ inL l s = inL (l.drop k) s) (fun i => l.length - (intOf i).toNat)
  case atStart => exact ⟨0, Nat.zero_le _, rfl, rfl⟩
  case round =>
    obtain ⟨k, hk, rfl, ht⟩ := hrel
    have HT := Lib.hid ht
    clear ht
    by_cases hlt : k < l.length
    · obtain ⟨b1, o1, rfl, _, d1⟩ := g1 k l[k] (List.getElem?_eq_getElem hlt)
      clear g1
      have HD := Lib.hid (List.drop_eq_getElem_cons hlt)
      have HY : Hid ((l[k].toList == s.toList) = true → inL l s = true) := inL_drop_yes hlt
      generalize l[k] = x at *
      go_wp2
      · go_ret
        exact ⟨ret_bool (HY.out (by assumption)).symm, HB.out⟩
      · go_round
        case rel => exact ⟨k + 1, by omega, by go_num, by rw [HT.out, HD.out]; simp only [inL, List.any_cons]; simp [*]⟩
        case measure => simp [intOf]; omega
    · go_wp2
      go_ret
      exact ⟨ret_bool (by rw [HT.out, List.drop_of_length_le (by omega)]; rfl), HB.out⟩
/-- what the reference's Check answers -/
def check07 (x : Ins) : Int := if !inL opsL x.op then 12 else if 3 < x.args.length then 11 else if x.args.all validOpd then 0 else 2

set_option maxHeartbeats 1000000 in
theorem check07_any (p : Blocks) (x : Ins) (v : Value) (w : World) (h : SlR opdR w p v x.args) :
    Calls Tryd.prog 38 #[.agg #[.string x.op, v]] w fun e w' => e = .returned (.int .i64 (check07 x)) ∧ Below w.heap.size w w' := by
  obtain ⟨s, l⟩ := x
  dsimp only at *
  obtain ⟨a, c, rfl, _⟩ := h.opd
  obtain ⟨W, hW⟩ : ∃ W : World, W = w.alloc (.cells #[.string s, .slice a l.length c] 39) := ⟨_, rfl⟩
  have hbW : Below w.heap.size w W := hW ▸ (Below.refl _ _).alloc (Nat.le_refl _) _
  have k1 : Blk W w.heap.size 39 #[.string s, .slice a l.length c] := hW ▸ Blk.new w _ _
  have HBW := Lib.hid hbW
  have HK := Lib.hid k1
  have HSL := Lib.hid (h.below hbW)
  have hkn := known07_any s W
  clear h hbW k1
  cases hs : inL opsL s
  all_goals
    rw [hs] at hkn
    have HKN := Lib.hid hkn
    clear hkn
  · have HV := Lib.hid (show check07 ⟨s, l⟩ = 12 by simp [check07, hs])
    go_enter Tryd.func38, Tryd.ntmps38
    obtain ⟨a0, a1, _, _⟩ := HK.out.two
    go_wp2_with fail
    rw [← hW]
    clear hW
    refine HKN.out.mono ?_
    rintro e w1 ⟨rfl, hb⟩
    have HB := Lib.hid hb
    clear hb
    go_wp2
    go_ret
    exact ⟨ret_int HV.out.symm, HBW.out.trans (HB.out.mono HBW.out.size)⟩
  · have hs1 : w.heap.size < W.heap.size := HK.out.lt
    cases hl : decide ((3 : Int) < l.length)
    rotate_left
    · have HV := Lib.hid (show check07 ⟨s, l⟩ = 11 by have := of_decide_eq_true hl; simp [check07, hs]; omega)
      go_enter Tryd.func38, Tryd.ntmps38
      go_wp2_with fail
      rw [← hW]
      clear hW
      refine HKN.out.mono ?_
      rintro e w1 ⟨rfl, hb⟩
      have HB := Lib.hid hb
      obtain ⟨a0, a1, _, _⟩ := (HK.out.below hb hs1).two
      clear hb
      go_wp2
      go_ret
      exact ⟨ret_int HV.out.symm, HBW.out.trans (HB.out.mono HBW.out.size)⟩
    · have HV := Lib.hid (show check07 ⟨s, l⟩ = if l.all validOpd then 0 else 2 by have := of_decide_eq_false hl; simp [check07, hs]; omega)
      go_enter Tryd.func38, Tryd.ntmps38
      go_wp2_with fail
      rw [← hW]
      clear hW
      refine HKN.out.mono ?_
      rintro e w1 ⟨rfl, hb⟩
      have HB := Lib.hid (HBW.out.trans (hb.mono HBW.out.size))
      have HSL1 := Lib.hid (HSL.out.below hb)
      have HK1 := Lib.hid (HK.out.below hb hs1)
      obtain ⟨a0, a1, _, _⟩ := HK1.out.two
      clear hb
      go_wp2
      go_loopw [3] (fun i wx => ∃ k : Nat, k ≤ l.length ∧ i = .int .i64 k ∧ l.all validOpd = (l.drop k).all validOpd ∧ Below w1.heap.size w1 wx) (fun i _ => l.length - (intOf i).toNat)
      case atStart => exact ⟨0, Nat.zero_le _, rfl, rfl, Below.refl _ _⟩
      case round =>
        obtain ⟨k, hk, rfl, ht, hb⟩ := hrel
        have HT := Lib.hid ht
        have HBX := Lib.hid hb
        have HKX := Lib.hid (HK1.out.below hb HK1.out.lt)
        obtain ⟨a0, a1, _, _⟩ := HKX.out.two
        obtain ⟨ad, cd, hv, _, _, g1⟩ := (HSL1.out.below hb).opd
        obtain ⟨rfl, _, rfl⟩ : a = ad ∧ l.length = l.length ∧ c = cd := by injection hv with h1 h2 h3; exact ⟨h1, h2, h3⟩
        clear ht hb hv
        by_cases hlt : k < l.length
        · obtain ⟨b1, o1, rfl, _, d1, d2, d3⟩ := g1 k l[k] (List.getElem?_eq_getElem hlt)
          clear g1
          have HD := Lib.hid (List.drop_eq_getElem_cons hlt)
          have hva := fun wz => valid06_any l[k] wz
          generalize l[k] = x at *
          cases hvx : validOpd x
          all_goals
            rw [hvx] at hva
            have HVA := Lib.hid hva
            have HVX := Lib.hid hvx
            clear hva hvx
          · go_wp2_with (go_at_call 84; refine (HVA.out _).mono ?_; rintro e w2 ⟨rfl, hb⟩; have HB2 := Lib.hid (HBX.out.trans (hb.mono HBX.out.size)); clear hb)
            go_ret
            exact ⟨ret_int (by rw [HV.out, HT.out, HD.out, List.all_cons, HVX.out]; rfl), HB.out.trans (HB2.out.mono HB.out.size)⟩
          · go_wp2_with (go_at_call 84; refine (HVA.out _).mono ?_; rintro e w2 ⟨rfl, hb⟩; have HB2 := Lib.hid (HBX.out.trans (hb.mono HBX.out.size)); clear hb)
            go_round
            case rel => exact ⟨k + 1, by omega, by go_num, by rw [HT.out, HD.out, List.all_cons, HVX.out, Bool.true_and], HB2.out⟩
            case measure => simp [intOf]; omega
        · clear g1
          go_wp2
          go_ret
          exact ⟨ret_int (by rw [HV.out, HT.out, List.drop_of_length_le (by omega)]; rfl), HB.out.trans (HBX.out.mono HB.out.size)⟩
end Go.Proofs.YtkkjoghfdmmpaaaDoor
