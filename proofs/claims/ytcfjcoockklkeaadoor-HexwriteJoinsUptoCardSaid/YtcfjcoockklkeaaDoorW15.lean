/-
  breadboardref02.Few. Conditions: none.
-/
import Derived.Test.YtcfjcoockklkeaaDoorW14
namespace Go.Proofs.YtcfjcoockklkeaaDoor
open Go.RowKit

def runIR : Rep (Int × List UInt8) := Rep.pair intR (Rep.slice byteR)
theorem SlR.irun {w : World} {p : Blocks} {v : Value} {l : List (Int × List UInt8)} (h : SlR runIR w p v l) : ∃ a cap, v = .slice a l.length cap ∧ l.length ≤ cap ∧ cap ≤ 9223372036854775807 ∧
    ∀ i x, l[i]? = some x → ∃ b o sa sc, a = some ⟨b, o, none⟩ ∧ p b ∧ w.cell? ⟨b, o + i * 2, none⟩ = some (.int .i64 x.1) ∧ w.cell? ⟨b, o + i * 2 + 1, none⟩ = some (.slice sa x.2.length sc) ∧ SlR byteR w p (.slice sa x.2.length sc) x.2 := by
  obtain ⟨a, cap, e, h1, h2, h3⟩ := h
  refine ⟨a, cap, e, h1, by simpa [maxLen] using h2, fun i x hx => ?_⟩
  obtain ⟨b, o, cs, ea, hb, hbs, hc, hr⟩ := h3 i x hx
  obtain ⟨c1, c2, ecs, hr1, vs, hv, hs⟩ := hr
  have hr1 : c1 = [.int .i64 x.1] := hr1
  obtain ⟨sa, sc, rfl, _⟩ := hs.byte
  subst ecs hr1 hv
  exact ⟨b, o, sa, sc, ea, hb, hc 0 _ rfl, hc 1 _ rfl, hs⟩
def sumF (l : List (Int × List UInt8)) : Nat := (l.map fun r => min r.2.length 5000).sum
def fewB (l : List (Int × List UInt8)) : Bool := decide (l.length ≤ 60) && decide (sumF l ≤ 3000)
theorem sumF_take {l : List (Int × List UInt8)} {k : Nat} {x : Int × List UInt8} (h : l.take (k + 1) = l.take k ++ [x]) : sumF (l.take (k + 1)) = sumF (l.take k) + min x.2.length 5000 := by
  unfold sumF
  rw [h]
  simp
theorem sumF_le (l : List (Int × List UInt8)) : sumF l ≤ 5000 * l.length := by
  unfold sumF
  induction l with
  | nil => simp
  | cons x l ih => rw [List.map_cons, List.sum_cons, List.length_cons]; omega
set_option maxHeartbeats 2000000 in
set_option maxRecDepth 100000 in
theorem Few_any (p : Blocks) (v : Value) (l : List (Int × List UInt8)) (w : World) (h : SlR runIR w p v l) :
    Calls Tryd.prog 14 #[v] w fun e w' => e = .returned (.bool (fewB l)) ∧ w = w' := by
  obtain ⟨a, c, rfl, hc1, hc2, g⟩ := h.irun
  have G := Lib.hid g
  have hlen : (l.length : Int) ≤ 9223372036854775807 := by omega
  have HLN := Lib.hid hlen
  clear h g hc1 hc2 hlen
  go_enter Tryd.func14, Tryd.ntmps14
  go_wp2
  go_loop [3, 4] (fun z i => ∃ (k : Nat) (m : Int), k ≤ l.length ∧ i = .int .i64 k ∧ z = .int .i64 m ∧ (k ≤ 1000 → m = sumF (l.take k))) (fun _ i => l.length - (intOf i).toNat)
  case atStart => exact ⟨0, 0, Nat.zero_le _, rfl, rfl, fun _ => rfl⟩
  case round =>
    obtain ⟨k, m, hk, rfl, rfl, hm⟩ := hrel
    have HM := Lib.hid hm
    clear hm
    by_cases hlt : k < l.length
    · have HTK := Lib.hid (sumF_take (List.take_succ_eq_append_getElem hlt))
      obtain ⟨b1, o1, sa, sc, rfl, _, d0, d1, hsl⟩ := G.out k l[k] (List.getElem?_eq_getElem hlt)
      have hsz : (l[k].2.length : Int) ≤ 9223372036854775807 := by
        obtain ⟨_, _, e, h1, h2, _⟩ := hsl.byte
        omega
      clear hsl d0
      generalize l[k] = x at *
      have hk9 := HLN.out
      have hmn : min (x.2.length : Int) 5000 = ((min x.2.length 5000 : Nat) : Int) := by omega
      have hm2 : min x.2.length 5000 ≤ 5000 := Nat.min_le_right _ _
      have HMN := Lib.hid hmn
      clear hmn
      by_cases hkk : k < 1000
      · have hme := HM.out (by omega)
        have hsl2 := sumF_le (l.take k)
        have hlk : (l.take k).length ≤ k := List.length_take_le _ _
        have hm0 : (0 : Int) ≤ m := by omega
        have hm1 : m ≤ 5000000 := by omega
        have HME := Lib.hid hme
        clear hme hsl2 hlk
        go_wp2
        rw [HMN.out]
        go_round
        case rel => exact ⟨k + 1, m + (min x.2.length 5000 : Nat), by omega, by go_num, by go_num, fun _ => by rw [HTK.out, HME.out]; omega⟩
        case measure => simp [intOf]; omega
      · go_wp2
        go_round
        case rel => exact ⟨k + 1, _, by omega, by go_num, rfl, fun h => absurd h (by omega)⟩
        case measure => simp [intOf]; omega
    · obtain rfl : k = l.length := by omega
      rw [List.take_length] at HM
      by_cases hl60 : l.length ≤ 60
      · have hme := HM.out (by omega)
        have hsl2 := sumF_le l
        subst hme
        have h60 : decide ((l.length : Int) ≤ 60) = true := by simp; omega
        have HF : Hid (fewB l = decide ((sumF l : Int) ≤ 3000)) := by
          show _ = _
          unfold fewB
          rw [decide_eq_true hl60, Bool.true_and, Bool.eq_iff_iff]
          simp; omega
        clear HM hsl2
        generalize hq : decide ((sumF l : Int) ≤ 3000) = q at *
        go_wp2
        go_ret
        exact ⟨ret_bool (by rw [HF.out]), rfl⟩
      · have h60 : decide ((l.length : Int) ≤ 60) = false := by simp; omega
        have HF : Hid (fewB l = false) := by
          show _ = _
          unfold fewB
          rw [decide_eq_false hl60, Bool.false_and]
        go_wp2
        go_ret
        exact ⟨ret_bool HF.out.symm, rfl⟩
end Go.Proofs.YtcfjcoockklkeaaDoor
