/-
  image.set.next. Conditions: the library's table as its initialiser lays it.
-/
import Derived.Test.YtcfjcoockklkeaaDoorImg2
import Derived.Laws.ShiftsVarLaws
namespace Go.Proofs.YtcfjcoockklkeaaDoor
open Go.RowKit

/-- the bits from c on to its word's end: those in the set, or those not in it -/
def segN (d : Nat → Bool) (q : Bool) (c : Nat) : Nat := (if q then wordOf d (c / 64) else (2 ^ 64 - 1) ^^^ wordOf d (c / 64)) / 2 ^ (c % 64)
theorem seg_bit (d : Nat → Bool) (q : Bool) (c j : Nat) : (segN d q c).testBit j = (decide (c % 64 + j < 64) && (d (c + j) == q)) := by
  have hc : c / 64 * 64 + (c % 64 + j) = c + j := by omega
  unfold segN
  rw [Nat.testBit_div_two_pow, Nat.add_comm j (c % 64)]
  cases q
  · simp only [Bool.false_eq_true, if_false]
    rw [Nat.testBit_xor, Nat.testBit_two_pow_sub_one, wordOf_bit, hc]
    cases h : decide (c % 64 + j < 64) <;> cases d (c + j) <;> rfl
  · simp only [if_true]
    rw [wordOf_bit, hc]
    cases h : decide (c % 64 + j < 64) <;> cases d (c + j) <;> rfl
theorem seg_lt (d : Nat → Bool) (q : Bool) (c : Nat) : segN d q c < 18446744073709551616 := by
  have h64 : (2 : Nat) ^ 64 = 18446744073709551616 := by decide
  have h := wordOf_lt d (c / 64)
  unfold segN
  refine Nat.lt_of_le_of_lt (Nat.div_le_self _ _) ?_
  rw [← h64]
  cases q
  · simp only [Bool.false_eq_true, if_false]
    exact Nat.xor_lt_two_pow (by omega) h
  · exact h
theorem seg_zero {d : Nat → Bool} {q : Bool} {c : Nat} (h : segN d q c = 0) (x : Nat) (h1 : c ≤ x) (h2 : x < (c / 64 + 1) * 64) : (d x == q) = false := by
  have hb := seg_bit d q c (x - c)
  rw [h, Nat.zero_testBit, show c + (x - c) = x by omega, decide_eq_true (show c % 64 + (x - c) < 64 by omega), Bool.true_and] at hb
  exact hb.symm
theorem tb_div (x i : Nat) : x.testBit i = decide (x / 2 ^ i % 2 = 1) := Nat.testBit_eq_decide_div_mod_eq
theorem ctz_spec {x : Nat} (h0 : x ≠ 0) (h : x < 18446744073709551616) : x.testBit (Lib.ctz 64 x) = true ∧ ∀ j, j < Lib.ctz 64 x → x.testBit j = false := by
  have h64 : (2 : Nat) ^ 64 = 18446744073709551616 := by decide
  obtain ⟨m, hm, _⟩ := Lib.ctzFrom_spec 64 x (by omega) (by omega)
  have e : Lib.ctz 64 x = Lib.ctzFrom 64 x := by unfold Lib.ctz; rw [if_neg h0]
  rw [e]
  generalize Lib.ctzFrom 64 x = t at *
  subst hm
  refine ⟨?_, fun j hj => ?_⟩
  · rw [tb_div, Nat.mul_div_cancel_left _ (Nat.two_pow_pos t)]
    simp
  · rw [tb_div]
    have e2 : 2 ^ t * (2 * m + 1) = 2 ^ j * (2 * (2 ^ (t - j - 1) * (2 * m + 1))) := by
      rw [show (2 : Nat) ^ t = 2 ^ j * (2 * 2 ^ (t - j - 1)) by rw [← Nat.pow_succ', ← Nat.pow_add]; congr 1; omega]
      simp [Nat.mul_assoc]
    rw [e2, Nat.mul_div_cancel_left _ (Nat.two_pow_pos j)]
    simp
theorem seg_next {d : Nat → Bool} {q : Bool} {a c : Nat} (h0 : segN d q c ≠ 0) (hac : a ≤ c) (hc : c < 65536) (hno : ∀ x, a ≤ x → x < c → (d x == q) = false) : nextS d q a = c + Lib.ctz 64 (segN d q c) ∧ Lib.ctz 64 (segN d q c) < 64 := by
  obtain ⟨h1, h2⟩ := ctz_spec h0 (seg_lt d q c)
  generalize Lib.ctz 64 (segN d q c) = t at *
  rw [seg_bit] at h1
  obtain ⟨h3, h4⟩ := (Bool.and_eq_true _ _).mp h1
  have h3 := of_decide_eq_true h3
  refine ⟨nextS_eq (by omega) (by omega) (fun x hx1 hx2 => ?_) (fun _ => h4), by omega⟩
  by_cases hx : x < c
  · exact hno x hx1 hx
  · have h5 := h2 (x - c) (by omega)
    rw [seg_bit, show c + (x - c) = x by omega, decide_eq_true (show c % 64 + (x - c) < 64 by omega), Bool.true_and] at h5
    exact h5
theorem seg_true (d : Nat → Bool) (c : Nat) : ((wordOf d (c / 64) : Nat) : Int) / 2 ^ (c % 64) = ((segN d true c : Nat) : Int) := by
  simp [segN]
theorem seg_false (d : Nat → Bool) (c : Nat) : bits BinOp.xor IntKind.u64 (if IntKind.u64.signed = true then -1 else IntKind.u64.max) ((wordOf d (c / 64) : Nat) : Int) / 2 ^ (c % 64) = ((segN d false c : Nat) : Int) := by
  have h64 : (2 : Nat) ^ 64 = 18446744073709551616 := by decide
  have h := wordOf_lt d (c / 64)
  have e : (if IntKind.u64.signed = true then -1 else IntKind.u64.max) = ((18446744073709551615 : Nat) : Int) := by decide
  rw [e, u64_xor_nat _ _ (by omega) (by omega)]
  simp [segN]

set_option maxHeartbeats 1000000 in
theorem next_false (b n a : Nat) (d : Nat → Bool) (v : Nat → UInt8) (w : World) (h : ImgC w b d v n) (hT : Deb w) (ha : a ≤ 65536) :
    Calls Tryd.prog 64 #[.pointer (some ⟨b, 0, none⟩), .int .i64 a, .bool false] w fun e w' => e = .returned (.int .i64 (nextS d false a)) ∧ w = w' := by
  have H := Lib.hid h
  have HT := Lib.hid hT
  clear h hT
  go_enter Tryd.func64, Tryd.ntmps64
  go_wp2
  go_loop [1] (fun i => ∃ c : Nat, a ≤ c ∧ c ≤ 65536 ∧ i = .int .i64 c ∧ (∀ x, a ≤ x → x < c → (d x == false) = false)) (fun i => 65536 - (intOf i).toNat)
  case atStart => exact ⟨a, Nat.le_refl _, ha, rfl, fun x h1 h2 => by omega⟩
  case round =>
    obtain ⟨c, hac, hc, rfl, hno⟩ := hrel
    have HNO := Lib.hid hno
    clear hno
    by_cases hlt : c < 65536
    · have hw := H.out.words (c / 64) (by omega)
      have HWL := Lib.hid (wordOf_lt d (c / 64))
      have hi1 : (0 : Int) ≤ (c : Int) / 64 := by omega
      have hi2 : (c : Int) / 64 < 1024 := by omega
      generalize hW : wordOf d (c / 64) = W at *
      have HW := Lib.hid hW
      clear hW
      have hlti : decide ((c : Int) < 65536) = true := by simp; omega
      have hc0 : (0 : Int) ≤ (c : Int) := by omega
      have hcm : (c : Int) ≤ 100000 := by omega
      have HLT := Lib.hid hlt
      have HCC := Lib.hid hc
      clear hlt hc
      go_upto_region 6 with fail
      have hv := seg_false d c
      rw [HW.out] at hv
      rw [hv]
      clear hv
      have HNX := Lib.hid (fun h0 => seg_next (d := d) (q := false) (a := a) (c := c) h0 hac HLT.out HNO.out)
      have HZR := Lib.hid (fun h0 x => seg_zero (d := d) (q := false) (c := c) h0 x)
      have HSL := Lib.hid (seg_lt d false c)
      generalize segN d false c = S at *
      by_cases h0 : S = 0
      · have HS0 := Lib.hid h0
        have hz : ((S : Int) != 0) = false := by rw [h0]; rfl
        clear h0 hi1 hi2 hlti
        go_wp2
        go_round
        case rel => exact ⟨(c / 64 + 1) * 64, by omega, by have := HLT.out; omega, by go_num, fun x h1 h2 => if hx : x < c then HNO.out x h1 hx else HZR.out HS0.out x (by omega) h2⟩
        case measure => have := HLT.out; simp [intOf]; omega
      · have hz : ((S : Int) != 0) = true := by simp [bne]; omega
        have hk := (HNX.out h0).2
        have HK := Lib.hid (HNX.out h0).1
        clear h0 hi1 hi2 hlti
        have HTZ := Lib.hid (tz64_any S HSL.out w HT.out)
        generalize Lib.ctz 64 S = t at *
        have ht0 : (0 : Int) ≤ (t : Int) := by omega
        have htm : (t : Int) ≤ 64 := by omega
        have hcm2 : (c : Int) ≤ 100000 := hcm
        have hac' := Lib.hid hac
        have hk' := Lib.hid hk
        have ha' := Lib.hid ha
        clear hac hk ha
        go_wp2_with (go_at_call 99; refine HTZ.out.mono ?_; rintro e w' ⟨rfl, rfl⟩)
        go_ret
        exact ⟨ret_int (by rw [HK.out]; simp), rfl⟩
    · obtain rfl : c = 65536 := by omega
      have HF := Lib.hid (nextS_eq (d := d) (b := false) hac (Nat.le_refl _) HNO.out (fun h => absurd h (by omega)))
      go_wp2
      go_ret
      exact ⟨ret_int (by rw [HF.out]; rfl), rfl⟩

set_option maxHeartbeats 1000000 in
theorem next_true (b n a : Nat) (d : Nat → Bool) (v : Nat → UInt8) (w : World) (h : ImgC w b d v n) (hT : Deb w) (ha : a ≤ 65536) :
    Calls Tryd.prog 64 #[.pointer (some ⟨b, 0, none⟩), .int .i64 a, .bool true] w fun e w' => e = .returned (.int .i64 (nextS d true a)) ∧ w = w' := by
  have H := Lib.hid h
  have HT := Lib.hid hT
  clear h hT
  go_enter Tryd.func64, Tryd.ntmps64
  go_wp2
  go_loop [1] (fun i => ∃ c : Nat, a ≤ c ∧ c ≤ 65536 ∧ i = .int .i64 c ∧ (∀ x, a ≤ x → x < c → (d x == true) = false)) (fun i => 65536 - (intOf i).toNat)
  case atStart => exact ⟨a, Nat.le_refl _, ha, rfl, fun x h1 h2 => by omega⟩
  case round =>
    obtain ⟨c, hac, hc, rfl, hno⟩ := hrel
    have HNO := Lib.hid hno
    clear hno
    by_cases hlt : c < 65536
    · have hw := H.out.words (c / 64) (by omega)
      have HWL := Lib.hid (wordOf_lt d (c / 64))
      have hi1 : (0 : Int) ≤ (c : Int) / 64 := by omega
      have hi2 : (c : Int) / 64 < 1024 := by omega
      generalize hW : wordOf d (c / 64) = W at *
      have HW := Lib.hid hW
      clear hW
      have hlti : decide ((c : Int) < 65536) = true := by simp; omega
      have hc0 : (0 : Int) ≤ (c : Int) := by omega
      have hcm : (c : Int) ≤ 100000 := by omega
      have HLT := Lib.hid hlt
      have HCC := Lib.hid hc
      clear hlt hc
      go_upto_region 6 with fail
      have hv := seg_true d c
      rw [HW.out] at hv
      rw [hv]
      clear hv
      have HNX := Lib.hid (fun h0 => seg_next (d := d) (q := true) (a := a) (c := c) h0 hac HLT.out HNO.out)
      have HZR := Lib.hid (fun h0 x => seg_zero (d := d) (q := true) (c := c) h0 x)
      have HSL := Lib.hid (seg_lt d true c)
      generalize segN d true c = S at *
      by_cases h0 : S = 0
      · have HS0 := Lib.hid h0
        have hz : ((S : Int) != 0) = false := by rw [h0]; rfl
        clear h0 hi1 hi2 hlti
        go_wp2
        go_round
        case rel => exact ⟨(c / 64 + 1) * 64, by omega, by have := HLT.out; omega, by go_num, fun x h1 h2 => if hx : x < c then HNO.out x h1 hx else HZR.out HS0.out x (by omega) h2⟩
        case measure => have := HLT.out; simp [intOf]; omega
      · have hz : ((S : Int) != 0) = true := by simp [bne]; omega
        have hk := (HNX.out h0).2
        have HK := Lib.hid (HNX.out h0).1
        clear h0 hi1 hi2 hlti
        have HTZ := Lib.hid (tz64_any S HSL.out w HT.out)
        generalize Lib.ctz 64 S = t at *
        have ht0 : (0 : Int) ≤ (t : Int) := by omega
        have htm : (t : Int) ≤ 64 := by omega
        have hcm2 : (c : Int) ≤ 100000 := hcm
        have hac' := Lib.hid hac
        have hk' := Lib.hid hk
        have ha' := Lib.hid ha
        clear hac hk ha
        go_wp2_with (go_at_call 99; refine HTZ.out.mono ?_; rintro e w' ⟨rfl, rfl⟩)
        go_ret
        exact ⟨ret_int (by rw [HK.out]; simp), rfl⟩
    · obtain rfl : c = 65536 := by omega
      have HF := Lib.hid (nextS_eq (d := d) (b := true) hac (Nat.le_refl _) HNO.out (fun h => absurd h (by omega)))
      go_wp2
      go_ret
      exact ⟨ret_int (by rw [HF.out]; rfl), rfl⟩
end Go.Proofs.YtcfjcoockklkeaaDoor
