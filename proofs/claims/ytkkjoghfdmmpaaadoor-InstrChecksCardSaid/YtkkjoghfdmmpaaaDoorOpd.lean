/-
  Operands and instructions in memory; Go's comparison of lists of operands. Conditions: none.
-/
import Derived.Test.YtkkjoghfdmmpaaaDoorBase
import Derived.Test.YtkkjoghfdmmpaaaDoorChecked
import Derived.Deep.QuietTactic
import Derived.BigQuiet
import Derived.Laws.StructEq
namespace Go.Proofs.YtkkjoghfdmmpaaaDoor
open Go.RowKit

structure Opd where
  kind : Int
  reg : Int
  n : Int
  deriving DecidableEq, Inhabited
def Opd.cells (o : Opd) : List Value := [.int .i64 o.kind, .int .i64 o.reg, .int .i64 o.n]
def opdR : Rep Opd := Rep.flat 3 Opd.cells (fun _ => rfl) (fun _ u hu => by simp [Opd.cells] at hu; rcases hu with rfl | rfl | rfl <;> rfl)
theorem opdR_size : opdR.size = 3 := rfl

/-- Three cells of an operand in a list. -/
theorem SlR.opd {w : World} {p : Blocks} {v : Value} {l : List Opd} (h : SlR opdR w p v l) : ∃ a cap, v = .slice a l.length cap ∧ l.length ≤ cap ∧ cap ≤ 9223372036854775807 ∧
    ∀ i x, l[i]? = some x → ∃ b o, a = some ⟨b, o, none⟩ ∧ p b ∧ w.cell? ⟨b, o + i * 3, none⟩ = some (.int .i64 x.kind) ∧ w.cell? ⟨b, o + i * 3 + 1, none⟩ = some (.int .i64 x.reg) ∧ w.cell? ⟨b, o + i * 3 + 2, none⟩ = some (.int .i64 x.n) := by
  obtain ⟨a, cap, e, h1, h2, h3⟩ := h
  refine ⟨a, cap, e, h1, by simpa [maxLen] using h2, fun i x hx => ?_⟩
  obtain ⟨b, o, cs, ea, hb, hbs, hc, hr⟩ := h3 i x hx
  have hr : cs = x.cells := hr
  subst hr
  exact ⟨b, o, ea, hb, hc 0 _ rfl, hc 1 _ rfl, hc 2 _ rfl⟩

def opdEq (x y : Opd) : Bool := decide (x = y)
theorem opdEq_iff {x y : Opd} : opdEq x y = true ↔ x = y := by simp [opdEq]
theorem opdEq_no {x y : Opd} : opdEq x y = false ↔ x ≠ y := by simp [opdEq]
/-- '==' and '!=' on two operands. -/
theorem run_eqOpd (a b c d e f : Int) (w : World) : (binOp .eql 47 (.agg #[.int .i64 a, .int .i64 b, .int .i64 c]) (.agg #[.int .i64 d, .int .i64 e, .int .i64 f])).run Tryd.prog w = .ok (.bool (opdEq ⟨a, b, c⟩ ⟨d, e, f⟩)) w := by
  have hS : Tryd.prog.underlying 47 = some (.struct (Tryd.prog.fieldsOf 47)) := by kernel_rfl
  have hp : Tryd.prog.stoodInHeld 47 = false := by kernel_rfl
  rw [run_eql_struct, show (10000 : Nat) = 9999 + 1 from rfl, run_equalIn_agg w 9999 47 _ _ hS hp]
  simp only [Program.fieldsOf, Tryd.underlying47]
  go_simp
  by_cases h1 : a = d <;> by_cases h2 : b = e <;> by_cases h3 : c = f <;> simp [h1, h2, h3, opdEq]
theorem run_neqOpd (a b c d e f : Int) (w : World) : (binOp .neq 47 (.agg #[.int .i64 a, .int .i64 b, .int .i64 c]) (.agg #[.int .i64 d, .int .i64 e, .int .i64 f])).run Tryd.prog w = .ok (.bool (!opdEq ⟨a, b, c⟩ ⟨d, e, f⟩)) w := by
  have hS : Tryd.prog.underlying 47 = some (.struct (Tryd.prog.fieldsOf 47)) := by kernel_rfl
  have hp : Tryd.prog.stoodInHeld 47 = false := by kernel_rfl
  rw [run_neq_struct, show (10000 : Nat) = 9999 + 1 from rfl, run_equalIn_agg w 9999 47 _ _ hS hp]
  simp only [Program.fieldsOf, Tryd.underlying47]
  go_simp
  by_cases h1 : a = d <;> by_cases h2 : b = e <;> by_cases h3 : c = f <;> simp [h1, h2, h3, opdEq]

theorem take_succ_eq {α : Type} {l1 l2 : List α} {k : Nat} (h1 : k < l1.length) (h2 : k < l2.length) (ht : l1.take k = l2.take k) (he : l1[k] = l2[k]) : l1.take (k + 1) = l2.take (k + 1) := by
  rw [List.take_succ_eq_append_getElem h1, List.take_succ_eq_append_getElem h2, ht, he]

set_option maxHeartbeats 400000 in
theorem EqualOpd_any (p q : Blocks) (v1 v2 : Value) (l1 l2 : List Opd) (w : World) (h1 : SlR opdR w p v1 l1) (h2 : SlR opdR w q v2 l2) :
    Calls Tryd.prog 74 #[v1, v2] w fun e w' => e = .returned (.bool (decide (l1 = l2))) ∧ ∃ n, w' = w.drewN n := by
  obtain ⟨a1, c1, rfl, hc1, hm1, g1⟩ := h1.opd
  obtain ⟨a2, c2, rfl, hc2, hm2, g2⟩ := h2.opd
  clear h1 h2
  have hop := run_neqOpd
  by_cases hl : l1.length = l2.length
  · have HL := Lib.hid hl
    rw [← hl] at hc2 ⊢
    clear hl
    go_enter Tryd.func74, Tryd.ntmps74
    go_wp2
    go_loopw [5, 13] (fun _ i wr => ∃ k n : Nat, k ≤ l1.length ∧ i = .int .i64 k ∧ wr = w.drewN n ∧ l1.take k = l2.take k) (fun _ i _ => l1.length - (intOf i).toNat)
    case atStart => exact ⟨0, 0, Nat.zero_le _, rfl, rfl, rfl⟩
    case round =>
      obtain ⟨k, n, hk, rfl, rfl, ht⟩ := hrel
      have HT := Lib.hid ht
      clear ht
      by_cases hlt : k < l1.length
      · have hlt2 : k < l2.length := by have := HL.out; omega
        obtain ⟨b1, o1, rfl, _, d1, d2, d3⟩ := g1 k l1[k] (List.getElem?_eq_getElem hlt)
        obtain ⟨b2, o2, rfl, _, e1, e2, e3⟩ := g2 k l2[k] (List.getElem?_eq_getElem hlt2)
        clear g1 g2
        have HS := Lib.hid (take_succ_eq hlt hlt2 HT.out)
        have HN : Hid (l1[k] ≠ l2[k] → l1 ≠ l2) := fun h e => h (by simp only [e])
        generalize l1[k] = x at *
        generalize l2[k] = y at *
        by_cases hxy : opdEq x y = true
        · go_wp2
          go_quiet (fail)
          go_wp2
          go_roundw
          case rel => exact ⟨k + 1, n + nq, by omega, by go_num, rfl, HS.out (opdEq_iff.1 hxy)⟩
          case measure => simp [intOf]; omega
        · have hxy : opdEq x y = false := by simpa using hxy
          go_wp2
          go_quiet (fail)
          go_wp2
          go_ret
          exact ⟨ret_bool (decide_eq_false (HN.out (opdEq_no.1 hxy))).symm, _, drewN2 _ _ _⟩
      · go_wp2
        go_ret
        exact ⟨ret_bool (decide_eq_true (by have h1 := HT.out; have h2 := HL.out; rwa [List.take_of_length_le (by omega), List.take_of_length_le (by omega)] at h1)).symm, n, rfl⟩
  · go_enter Tryd.func74, Tryd.ntmps74
    go_wp2
    go_ret
    exact ⟨by simp; intro h; exact hl (by rw [h]), 0, rfl⟩
end Go.Proofs.YtkkjoghfdmmpaaaDoor
