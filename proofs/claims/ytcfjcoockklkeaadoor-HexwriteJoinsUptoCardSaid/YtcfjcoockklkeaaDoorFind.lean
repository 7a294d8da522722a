/-
  breadboardref02.Find. Conditions: none.
-/
import Derived.Test.YtcfjcoockklkeaaDoorRight
namespace Go.Proofs.YtcfjcoockklkeaaDoor
open Go.RowKit

structure CellV where
  addr : Nat
  byte : UInt8
def cellR : Rep CellV := Rep.flat 2 (fun x => [.int .i64 x.addr, .int .u8 x.byte.toNat]) (fun _ => rfl) (fun _ u hu => by simp at hu; rcases hu with rfl | rfl <;> rfl)
theorem cellR_size : cellR.size = 2 := rfl
theorem SlR.cel {w : World} {p : Blocks} {v : Value} {l : List CellV} (h : SlR cellR w p v l) : ∃ a cap, v = .slice a l.length cap ∧ l.length ≤ cap ∧ cap ≤ 9223372036854775807 ∧
    ∀ i x, l[i]? = some x → ∃ b o, a = some ⟨b, o, none⟩ ∧ p b ∧ w.cell? ⟨b, o + i * 2, none⟩ = some (.int .i64 x.addr) ∧ w.cell? ⟨b, o + i * 2 + 1, none⟩ = some (.int .u8 x.byte.toNat) := by
  obtain ⟨a, cap, e, h1, h2, h3⟩ := h
  refine ⟨a, cap, e, h1, by simpa [maxLen] using h2, fun i x hx => ?_⟩
  obtain ⟨b, o, cs, ea, hb, hbs, hc, hr⟩ := h3 i x hx
  have hr : cs = [.int .i64 x.addr, .int .u8 x.byte.toNat] := hr
  subst hr
  exact ⟨b, o, ea, hb, hc 0 _ rfl, hc 1 _ rfl⟩
def find02 (a : Int) : List CellV → Nat
  | [] => 0
  | x :: r => if (x.addr : Int) < a then find02 a r + 1 else 0
theorem find02_yes {a : Int} {l : List CellV} {k : Nat} (hk : k < l.length) (h : (l[k].addr : Int) < a) : k + find02 a (l.drop k) = k + 1 + find02 a (l.drop (k + 1)) := by
  rw [List.drop_eq_getElem_cons hk, find02, if_pos h]; omega
theorem find02_no {a : Int} {l : List CellV} {k : Nat} (hk : k < l.length) (h : ¬ (l[k].addr : Int) < a) : k + find02 a (l.drop k) = k := by
  rw [List.drop_eq_getElem_cons hk, find02, if_neg h]; rfl

set_option maxRecDepth 100000 in
set_option maxHeartbeats 1000000 in
theorem Find_any (p : Blocks) (v : Value) (l : List CellV) (ad : Int) (w : World) (h : SlR cellR w p v l) :
    Calls Tryd.prog 83 #[v, .int .i64 ad] w fun e w' => e = .returned (.int .i64 (find02 ad l : Nat)) ∧ w = w' := by
  obtain ⟨a, c, rfl, hc1, hc2, g⟩ := h.cel
  have G := Lib.hid g
  have hlen : (l.length : Int) ≤ 9223372036854775807 := by omega
  have HLN := Lib.hid hlen
  clear h g hc1 hc2 hlen
  go_enter Tryd.func83, Tryd.ntmps83
  go_wp2
  go_loop [5] (fun i => ∃ k : Nat, k ≤ l.length ∧ i = .int .i64 k ∧ find02 ad l = k + find02 ad (l.drop k)) (fun i => l.length - (intOf i).toNat)
  case atStart => exact ⟨0, Nat.zero_le _, rfl, by simp⟩
  case round =>
    obtain ⟨k, hk, rfl, hx⟩ := hrel
    have HX := Lib.hid hx
    clear hx
    by_cases hlt : k < l.length
    · obtain ⟨b1, o1, rfl, _, d1, _⟩ := G.out k l[k] (List.getElem?_eq_getElem hlt)
      have HY := Lib.hid (find02_yes (a := ad) hlt)
      have HNO := Lib.hid (find02_no (a := ad) hlt)
      generalize l[k].addr = y at *
      have hk9 := HLN.out
      by_cases hy : (y : Int) < ad
      · have HE := Lib.hid (HY.out hy)
        go_wp2
        go_round
        case rel => exact ⟨k + 1, by omega, by go_num, HX.out.trans HE.out⟩
        case measure => simp [intOf]; omega
      · have HE := Lib.hid (HX.out.trans (HNO.out hy))
        go_wp2
        go_ret
        exact ⟨ret_int (by rw [HE.out]), rfl⟩
    · obtain rfl : k = l.length := by omega
      have HE : Hid (find02 ad l = l.length) := by
        have e := HX.out
        rw [List.drop_length] at e
        exact e
      go_wp2
      go_ret
      exact ⟨ret_int (by rw [HE.out]), rfl⟩
end Go.Proofs.YtcfjcoockklkeaaDoor
