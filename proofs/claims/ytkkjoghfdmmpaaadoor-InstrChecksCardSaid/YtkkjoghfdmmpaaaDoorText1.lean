/-
  THE TEXT OF AN OPERAND THAT HAS NO NUMBER; instr.marked; the reference's number.
-/
import Derived.Test.YtkkjoghfdmmpaaaDoorCheck
namespace Go.Proofs.YtkkjoghfdmmpaaaDoor
open Go.RowKit

theorem plain_any (s : ByteArray) (n : Int) (w : World) : Calls Tryd.prog 159 #[.string s, .int .i64 n] w fun e w' => e = .returned (.string s) ∧ w' = w := by
  go_enter Tryd.func159, Tryd.ntmps159
  go_wp2
  go_ret
  exact ⟨rfl, rfl⟩
def paren (s : ByteArray) : ByteArray := ⟨#[40]⟩ ++ s ++ ⟨#[41]⟩
theorem find1_any (s : ByteArray) (n : Int) (w : World) (hs : s.size ≤ 1000) : Calls Tryd.prog 160 #[.string s, .int .i64 n] w fun e w' => e = .returned (.string (paren s)) ∧ w' = w := by
  go_enter Tryd.func160, Tryd.ntmps160
  go_wp2
  go_ret
  exact ⟨rfl, rfl⟩

/-- the text of an operand whose form is its register's name alone, or that name in parentheses -/
def regText (o : Opd) : ByteArray := if okOpd o then (kindD o.kind).nm o.reg.toNat else ⟨#[]⟩
def indText (o : Opd) : ByteArray := if okOpd o then paren ((kindD o.kind).nm o.reg.toNat) else ⟨#[]⟩

theorem text_no (o : Opd) (h : okOpd o = false) (w : World) : Calls Tryd.prog 102 #[.agg #[.int .i64 o.kind, .int .i64 o.reg, .int .i64 o.n]] w fun e w' => e = .returned (.string ⟨#[]⟩) ∧ Below w.heap.size w w' := by
  have HB0 : Hid (Below w.heap.size w (w.alloc (.cells #[.int .i64 o.kind, .int .i64 o.reg, .int .i64 o.n] 47))) := (Below.refl _ _).alloc (Nat.le_refl _) _
  have HO := Lib.hid (of_no o h (w.alloc (.cells #[.int .i64 o.kind, .int .i64 o.reg, .int .i64 o.n] 47)))
  simp only [kindNil] at HO
  go_enter Tryd.func102, Tryd.ntmps102
  go_wp2_with (go_at_call 122; refine HO.out.mono ?_; rintro e w1 ⟨rfl, hb⟩; have HB := Lib.hid (HB0.out.trans (hb.mono HB0.out.size)); clear hb)
  go_ret
  exact ⟨rfl, HB.out.alloc HB.out.size _⟩

set_option maxHeartbeats 1000000 in
theorem text_plain (o : Opd) (hf : (kindD o.kind).form = 159) (w : World) : Calls Tryd.prog 102 #[.agg #[.int .i64 o.kind, .int .i64 o.reg, .int .i64 o.n]] w fun e w' => e = .returned (.string (regText o)) ∧ Below w.heap.size w w' := by
  cases h : okOpd o
  · rw [show regText o = ⟨#[]⟩ by simp [regText, h]]
    exact text_no o h w
  · rw [show regText o = (kindD o.kind).nm o.reg.toNat by simp [regText, h]]
    have HB0 : Hid (Below w.heap.size w (w.alloc (.cells #[.int .i64 o.kind, .int .i64 o.reg, .int .i64 o.n] 47))) := (Below.refl _ _).alloc (Nat.le_refl _) _
    have HK : Hid (Blk (w.alloc (.cells #[.int .i64 o.kind, .int .i64 o.reg, .int .i64 o.n] 47)) w.heap.size 47 #[.int .i64 o.kind, .int .i64 o.reg, .int .i64 o.n]) := Blk.new w _ _
    have ho := of_yes o h (w.alloc (.cells #[.int .i64 o.kind, .int .i64 o.reg, .int .i64 o.n] 47))
    simp only [KindD.val] at ho
    rw [hf] at ho
    have HO := Lib.hid ho
    clear ho hf h
    go_enter Tryd.func102, Tryd.ntmps102
    go_wp2_with (first | (go_at_call 122; refine HO.out.mono ?_; rintro e w1 ⟨rfl, hb⟩; have HB := Lib.hid (HB0.out.trans (hb.mono HB0.out.size)); have c2 : w1.cell? ⟨w.heap.size, 2, none⟩ = some (.int .i64 o.n) := (hb.cell (p := ⟨w.heap.size, 2, none⟩) HK.out.lt).trans (HK.out.cell 2); have hlt : w.heap.size < w1.heap.size := Nat.lt_of_lt_of_le HK.out.lt hb.size; clear hb)
                       | (go_at_call 159; refine (plain_any _ _ _).mono ?_; rintro e w2 ⟨rfl, rfl⟩))
    go_ret
    exact ⟨rfl, HB.out.alloc HB.out.size _⟩
end Go.Proofs.YtkkjoghfdmmpaaaDoor
