/-
  num.Fits; record.Sum and its closure; record.right. Conditions: none.
-/
import Derived.Test.YtcfjcoockklkeaaDoorP5b
namespace Go.Proofs.YtcfjcoockklkeaaDoor
open Go.RowKit

def allB (lo hi : Int) (l : List Int) : Bool := l.all fun n => decide (lo ≤ n) && decide (n ≤ hi)
theorem allB_drop (lo hi : Int) {l : List Int} {k : Nat} (hk : k < l.length) : allB lo hi (l.drop k) = ((decide (lo ≤ l[k]) && decide (l[k] ≤ hi)) && allB lo hi (l.drop (k + 1))) := by
  unfold allB
  rw [List.drop_eq_getElem_cons hk, List.all_cons]
theorem allB_end (lo hi : Int) (l : List Int) : allB lo hi (l.drop l.length) = true := by rw [List.drop_length]; rfl

set_option maxHeartbeats 1000000 in
theorem Fits_any (lo hi : Int) (p : Blocks) (v : Value) (l : List Int) (w : World) (h : SlR intR w p v l) :
    Calls Tryd.prog 51 #[.int .i64 lo, .int .i64 hi, v] w fun e w' => e = .returned (.bool (allB lo hi l)) ∧ w = w' := by
  obtain ⟨a, c, rfl, hc1, hc2, g⟩ := h.int
  have G := Lib.hid g
  have hlen : (l.length : Int) ≤ 9223372036854775807 := by omega
  have HLN := Lib.hid hlen
  clear h g hc1 hc2 hlen
  go_enter Tryd.func51, Tryd.ntmps51
  go_wp2
  go_loop [11] (fun i => ∃ k : Nat, k ≤ l.length ∧ i = .int .i64 k ∧ allB lo hi l = allB lo hi (l.drop k)) (fun i => l.length - (intOf i).toNat)
  case atStart => exact ⟨0, Nat.zero_le _, rfl, rfl⟩
  case round =>
    obtain ⟨k, hk, rfl, hm⟩ := hrel
    have HM := Lib.hid hm
    clear hm
    by_cases hlt : k < l.length
    · obtain ⟨b1, o1, rfl, _, hcell⟩ := G.out k l[k] (List.getElem?_eq_getElem hlt)
      have HS := Lib.hid (allB_drop lo hi hlt)
      generalize l[k] = y at *
      have hk9 := HLN.out
      cases h1 : decide (y < lo)
      · cases h2 : decide (hi < y)
        · have e1 : decide (lo ≤ y) = true := by have := of_decide_eq_false h1; simp; omega
          have e2 : decide (y ≤ hi) = true := by have := of_decide_eq_false h2; simp; omega
          have HE := Lib.hid (HM.out.trans (by rw [HS.out, e1, e2]; rfl : _ = allB lo hi (l.drop (k + 1))))
          clear e1 e2
          go_wp2
          go_round
          case rel => exact ⟨k + 1, by omega, by go_num, HE.out⟩
          case measure => simp [intOf]; omega
        · have e2 : decide (y ≤ hi) = false := by have := of_decide_eq_true h2; simp; omega
          have HE := Lib.hid (HM.out.trans (by rw [HS.out, e2, Bool.and_false, Bool.false_and] : _ = false))
          clear e2
          go_wp2
          go_ret
          exact ⟨ret_bool HE.out.symm, rfl⟩
      · have e1 : decide (lo ≤ y) = false := by have := of_decide_eq_true h1; simp; omega
        have HE := Lib.hid (HM.out.trans (by rw [HS.out, e1]; rfl : _ = false))
        clear e1
        go_wp2
        go_ret
        exact ⟨ret_bool HE.out.symm, rfl⟩
    · obtain rfl : k = l.length := by omega
      have HE := Lib.hid (HM.out.trans (allB_end lo hi l))
      go_wp2
      go_ret
      exact ⟨ret_bool HE.out.symm, rfl⟩

theorem sum03_nil : sum03 [] = 0 := by decide
theorem sum03_snoc (l : List UInt8) (c : UInt8) : sum03 (l ++ [c]) = sum03 l - c := by
  apply UInt8.toNat_inj.1
  have h1 : ((sum03 (l ++ [c])).toNat : Int) = ((256 - (sumN (l ++ [c]) : Int)) % 256) % 256 := lowB_is _
  have h2 : ((sum03 l).toNat : Int) = ((256 - (sumN l : Int)) % 256) % 256 := lowB_is _
  have h3 := sumN_256 l
  have h4 := c.toNat_lt
  rw [sumN_app] at h1
  rw [UInt8.toNat_sub]
  omega
theorem u8_sub (s x : UInt8) : ((s - x).toNat : Int) = ((s.toNat : Int) - x.toNat) % 256 := by
  have := s.toNat_lt
  have := x.toNat_lt
  rw [UInt8.toNat_sub]
  omega
theorem Sum1_any (B : Nat) (s x : UInt8) (w : World) (hc : w.cell? ⟨B, 0, none⟩ = some (.int .u8 s.toNat)) (hf : w.frozen? ⟨B, 0, none⟩ = false) :
    Calls Tryd.prog 98 #[.int .u8 x.toNat, .pointer (some ⟨B, 0, none⟩)] w fun e w' => e = .returned (.tuple #[]) ∧ ∃ q, w' = (w.setCell ⟨B, 0, none⟩ (.int .u8 ((s - x).toNat : Nat))).drewN q := by
  have HS := Lib.hid (u8_sub s x)
  have h1 := s.toNat_lt
  have h2 := x.toNat_lt
  go_enter Tryd.func98, Tryd.ntmps98
  go_wp2
  go_end0
  exact ⟨rfl, 0, by rw [HS.out]; rfl⟩
end Go.Proofs.YtcfjcoockklkeaaDoor
