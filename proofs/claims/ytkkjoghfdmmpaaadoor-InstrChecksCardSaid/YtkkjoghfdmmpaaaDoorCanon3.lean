/-
  canon.Width. Conditions: the library's table of white space as its initialiser lays it.
-/
import Derived.Test.YtkkjoghfdmmpaaaDoorCanon2
namespace Go.Proofs.YtkkjoghfdmmpaaaDoor
open Go.RowKit

/-- JP CALL -/
def wJp : List ByteArray := [⟨#[74, 80]⟩, ⟨#[67, 65, 76, 76]⟩]
theorem wZero_fields : fieldsOf ⟨#[66, 73, 84, 32, 82, 69, 83, 32, 83, 69, 84, 32, 73, 77, 32, 82, 83, 84, 32, 79, 85, 84]⟩ = wZero := by decide +kernel
theorem wJp_fields : fieldsOf ⟨#[74, 80, 32, 67, 65, 76, 76]⟩ = wJp := by decide +kernel
theorem wZero_ascii : ∀ (j : Nat) b, (⟨#[66, 73, 84, 32, 82, 69, 83, 32, 83, 69, 84, 32, 73, 77, 32, 82, 83, 84, 32, 79, 85, 84]⟩ : ByteArray).data.toList[j]? = some b → b.toNat < 128 := fun _ b h =>
  (by decide +kernel : ∀ x ∈ (⟨#[66, 73, 84, 32, 82, 69, 83, 32, 83, 69, 84, 32, 73, 77, 32, 82, 83, 84, 32, 79, 85, 84]⟩ : ByteArray).data.toList, x.toNat < 128) b (List.mem_of_getElem? h)
theorem wJp_ascii : ∀ (j : Nat) b, (⟨#[74, 80, 32, 67, 65, 76, 76]⟩ : ByteArray).data.toList[j]? = some b → b.toNat < 128 := fun _ b h =>
  (by decide +kernel : ∀ x ∈ (⟨#[74, 80, 32, 67, 65, 76, 76]⟩ : ByteArray).data.toList, x.toNat < 128) b (List.mem_of_getElem? h)
theorem wordZero_any (s : ByteArray) (w : World) (hT : Spc w) : Calls Tryd.prog 75 #[.string ⟨#[66, 73, 84, 32, 82, 69, 83, 32, 83, 69, 84, 32, 73, 77, 32, 82, 83, 84, 32, 79, 85, 84]⟩, .string s] w fun e w' => e = .returned (.bool (inL wZero s)) ∧ Below w.heap.size w w' :=
  word_any _ wZero s w wZero_fields (by decide) (by decide) wZero_ascii hT
theorem wordJp_any (s : ByteArray) (w : World) (hT : Spc w) : Calls Tryd.prog 75 #[.string ⟨#[74, 80, 32, 67, 65, 76, 76]⟩, .string s] w fun e w' => e = .returned (.bool (inL wJp s)) ∧ Below w.heap.size w w' :=
  word_any _ wJp s w wJp_fields (by decide) (by decide) wJp_ascii hT
theorem toList_mk (l : List UInt8) : (⟨l.toArray⟩ : ByteArray).toList = l := by rw [Go.ByteArray.toList_eq]
theorem inL_jp (s : ByteArray) : inL wJp s = ((s.toList == [74, 80]) || (s.toList == [67, 65, 76, 76])) := by
  have e1 : (⟨#[74, 80]⟩ : ByteArray).toList = [74, 80] := toList_mk _
  have e2 : (⟨#[67, 65, 76, 76]⟩ : ByteArray).toList = [67, 65, 76, 76] := toList_mk _
  simp only [inL, wJp, List.any_cons, List.any_nil, Bool.or_false, e1, e2]
  rw [Bool.beq_comm, Bool.beq_comm (a := [67, 65, 76, 76])]

set_option maxHeartbeats 2000000 in
theorem Width_any (p : Blocks) (x : Ins) (v : Value) (w : World) (h : SlR opdR w p v x.args) (hT : Spc w) :
    Calls Tryd.prog 29 #[.agg #[.string x.op, v]] w fun e w' => e = .returned (.int .i64 (width x)) ∧ Below w.heap.size w w' := by
  obtain ⟨s, l⟩ := x
  dsimp only at h
  obtain ⟨a, c, rfl, hc, hm, g⟩ := h.opd
  clear h
  have HSP := Lib.hid hT
  clear hT
  have HB0 : Hid (Below w.heap.size w (w.alloc (.cells #[.string s, .slice a l.length c] 39))) := (Below.refl _ _).alloc (Nat.le_refl _) _
  have HK0 : Hid (Blk (w.alloc (.cells #[.string s, .slice a l.length c] 39)) w.heap.size 39 #[.string s, .slice a l.length c]) := Blk.new w _ _
  have hzw := fun wx hT => wordZero_any s wx hT
  have hjw := fun wx hT => wordJp_any s wx hT
  cases hz : inL wZero s
  all_goals
    simp only [hz] at hzw
    have HZ := Lib.hid hzw
    clear hzw
  · cases hj : inL wJp s
    all_goals
      simp only [hj] at hjw
      have HJ := Lib.hid hjw
      have hjp := inL_jp s
      rw [hj] at hjp
      clear hjw
    · obtain ⟨h1, h2⟩ := Bool.or_eq_false_iff.1 hjp.symm
      clear hjp
      cases h3 : (s.toList == [76, 68])
      · clear g
        have HV := Lib.hid (show width ⟨s, l⟩ = 1 by simp [width, hz, h1, h2, h3])
        go_enter Tryd.func29, Tryd.ntmps29
        go_wp2_with fail
        refine (HZ.out _ (HSP.out.below HB0.out)).mono ?_
        rintro e w1 ⟨rfl, hb1⟩
        have HB1 := Lib.hid hb1
        have HK1 := Lib.hid (HK0.out.below hb1 HK0.out.lt)
        obtain ⟨e0, e1, _, _⟩ := HK1.out.two
        clear hb1
        go_wp2_with fail
        refine (HJ.out _ ((HSP.out.below HB0.out).below HB1.out)).mono ?_
        rintro e w2 ⟨rfl, hb2⟩
        have HB2 := Lib.hid hb2
        have HK2 := Lib.hid (HK1.out.below hb2 HK1.out.lt)
        clear e0 e1 hb2
        obtain ⟨e0, e1, _, _⟩ := HK2.out.two
        go_wp2
        go_ret
        exact ⟨ret_int HV.out.symm, (HB0.out.trans (HB1.out.mono HB0.out.size)).trans (HB2.out.mono (Nat.le_trans HB0.out.size HB1.out.size))⟩
      · cases l with
        | nil =>
          clear g
          have HV := Lib.hid (show width ⟨s, []⟩ = 1 by simp [width, hz, h1, h2, h3, head3])
          go_enter Tryd.func29, Tryd.ntmps29
          go_wp2_with fail
          refine (HZ.out _ (HSP.out.below HB0.out)).mono ?_
          rintro e w1 ⟨rfl, hb1⟩
          have HB1 := Lib.hid hb1
          have HK1 := Lib.hid (HK0.out.below hb1 HK0.out.lt)
          obtain ⟨e0, e1, _, _⟩ := HK1.out.two
          clear hb1
          go_wp2_with fail
          refine (HJ.out _ ((HSP.out.below HB0.out).below HB1.out)).mono ?_
          rintro e w2 ⟨rfl, hb2⟩
          have HB2 := Lib.hid hb2
          have HK2 := Lib.hid (HK1.out.below hb2 HK1.out.lt)
          clear e0 e1 hb2
          obtain ⟨e0, e1, _, _⟩ := HK2.out.two
          go_wp2
          go_ret
          exact ⟨ret_int HV.out.symm, (HB0.out.trans (HB1.out.mono HB0.out.size)).trans (HB2.out.mono (Nat.le_trans HB0.out.size HB1.out.size))⟩
        | cons x l =>
          obtain ⟨b, o, rfl, _, d1, d2, d3⟩ := g 0 x rfl
          clear g
          simp only [Nat.zero_mul, Nat.add_zero] at d1
          clear d2 d3
          have hbl : b < w.heap.size := World.block_lt_of_cell? w _ d1
          have hk0 : (0 : Int) < ((x :: l).length : Int) := by simp
          have hk1 : 0 < (x :: l).length := by simp
          cases h4 : (x.kind == 3)
          · have HV := Lib.hid (show width ⟨s, x :: l⟩ = 1 by simp [width, hz, h1, h2, h3, head3, h4])
            generalize (x :: l).length = n at *
            go_enter Tryd.func29, Tryd.ntmps29
            go_wp2_with fail
            refine (HZ.out _ (HSP.out.below HB0.out)).mono ?_
            rintro e w1 ⟨rfl, hb1⟩
            have HB1 := Lib.hid hb1
            have HK1 := Lib.hid (HK0.out.below hb1 HK0.out.lt)
            obtain ⟨e0, e1, _, _⟩ := HK1.out.two
            clear hb1
            go_wp2_with fail
            refine (HJ.out _ ((HSP.out.below HB0.out).below HB1.out)).mono ?_
            rintro e w2 ⟨rfl, hb2⟩
            have HB2 := Lib.hid hb2
            have HK2 := Lib.hid (HK1.out.below hb2 HK1.out.lt)
            clear e0 e1 hb2
            obtain ⟨e0, e1, _, _⟩ := HK2.out.two
            have d1' := (HB2.out.cell (p := ⟨b, o, none⟩) (Nat.lt_of_lt_of_le (Nat.lt_of_lt_of_le hbl HB0.out.size) HB1.out.size)).trans ((HB1.out.cell (p := ⟨b, o, none⟩) (Nat.lt_of_lt_of_le hbl HB0.out.size)).trans ((HB0.out.cell (p := ⟨b, o, none⟩) hbl).trans d1))
            go_wp2
            go_ret
            exact ⟨ret_int HV.out.symm, (HB0.out.trans (HB1.out.mono HB0.out.size)).trans (HB2.out.mono (Nat.le_trans HB0.out.size HB1.out.size))⟩
          · have HV := Lib.hid (show width ⟨s, x :: l⟩ = 2 by simp [width, hz, h1, h2, h3, head3, h4])
            generalize (x :: l).length = n at *
            go_enter Tryd.func29, Tryd.ntmps29
            go_wp2_with fail
            refine (HZ.out _ (HSP.out.below HB0.out)).mono ?_
            rintro e w1 ⟨rfl, hb1⟩
            have HB1 := Lib.hid hb1
            have HK1 := Lib.hid (HK0.out.below hb1 HK0.out.lt)
            obtain ⟨e0, e1, _, _⟩ := HK1.out.two
            clear hb1
            go_wp2_with fail
            refine (HJ.out _ ((HSP.out.below HB0.out).below HB1.out)).mono ?_
            rintro e w2 ⟨rfl, hb2⟩
            have HB2 := Lib.hid hb2
            have HK2 := Lib.hid (HK1.out.below hb2 HK1.out.lt)
            clear e0 e1 hb2
            obtain ⟨e0, e1, _, _⟩ := HK2.out.two
            have d1' := (HB2.out.cell (p := ⟨b, o, none⟩) (Nat.lt_of_lt_of_le (Nat.lt_of_lt_of_le hbl HB0.out.size) HB1.out.size)).trans ((HB1.out.cell (p := ⟨b, o, none⟩) (Nat.lt_of_lt_of_le hbl HB0.out.size)).trans ((HB0.out.cell (p := ⟨b, o, none⟩) hbl).trans d1))
            go_wp2
            go_ret
            exact ⟨ret_int HV.out.symm, (HB0.out.trans (HB1.out.mono HB0.out.size)).trans (HB2.out.mono (Nat.le_trans HB0.out.size HB1.out.size))⟩
    · clear g
      have HV := Lib.hid (show width ⟨s, l⟩ = 2 by
        have e : ((s.toList == [74, 80]) || (s.toList == [67, 65, 76, 76])) = true := hjp.symm
        simp only [width, hz, e, Bool.true_or, if_true]; rfl)
      clear hjp
      go_enter Tryd.func29, Tryd.ntmps29
      go_wp2_with fail
      refine (HZ.out _ (HSP.out.below HB0.out)).mono ?_
      rintro e w1 ⟨rfl, hb1⟩
      have HB1 := Lib.hid hb1
      have HK1 := Lib.hid (HK0.out.below hb1 HK0.out.lt)
      obtain ⟨e0, e1, _, _⟩ := HK1.out.two
      clear hb1
      go_wp2_with fail
      refine (HJ.out _ ((HSP.out.below HB0.out).below HB1.out)).mono ?_
      rintro e w2 ⟨rfl, hb2⟩
      have HB2 := Lib.hid hb2
      have HK2 := Lib.hid (HK1.out.below hb2 HK1.out.lt)
      clear e0 e1 hb2
      obtain ⟨e0, e1, _, _⟩ := HK2.out.two
      go_wp2
      go_ret
      exact ⟨ret_int HV.out.symm, (HB0.out.trans (HB1.out.mono HB0.out.size)).trans (HB2.out.mono (Nat.le_trans HB0.out.size HB1.out.size))⟩
  · clear g hjw
    have HV := Lib.hid (show width ⟨s, l⟩ = 0 by simp [width, hz])
    go_enter Tryd.func29, Tryd.ntmps29
    go_wp2_with fail
    refine (HZ.out _ (HSP.out.below HB0.out)).mono ?_
    rintro e w1 ⟨rfl, hb1⟩
    have HB1 := Lib.hid hb1
    have HK1 := Lib.hid (HK0.out.below hb1 HK0.out.lt)
    obtain ⟨e0, e1, _, _⟩ := HK1.out.two
    clear hb1
    go_wp2
    go_ret
    exact ⟨ret_int HV.out.symm, HB0.out.trans (HB1.out.mono HB0.out.size)⟩
end Go.Proofs.YtkkjoghfdmmpaaaDoor
