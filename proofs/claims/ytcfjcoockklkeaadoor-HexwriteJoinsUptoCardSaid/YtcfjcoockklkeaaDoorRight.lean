/-
  breadboardref03.Right. Conditions: none.
-/
import Derived.Test.YtcfjcoockklkeaaDoorSum3
namespace Go.Proofs.YtcfjcoockklkeaaDoor
open Go.RowKit

def rightB (t a : Int) (n : Nat) : Bool := decide (0 ≤ t) && decide (t ≤ 255) && decide (0 ≤ a) && decide (a ≤ 65535) && decide (n ≤ 255)
set_option maxRecDepth 100000 in
set_option maxHeartbeats 4000000 in
theorem Right03_any (t a : Int) (sa : Option Addr) (n c : Nat) (w : World) :
    Calls Tryd.prog 89 #[.agg #[.int .i64 t, .int .i64 a, .slice sa n c]] w fun e w' => e = .returned (.bool (rightB t a n)) ∧ Below w.heap.size w w' := by
  have HR : Hid (rightB t a n = (decide (0 ≤ t) && decide (t ≤ 255) && decide (0 ≤ a) && decide (a ≤ 65535) && decide ((n : Int) ≤ 255))) := by
    show _ = _
    unfold rightB
    congr 1
    rw [Bool.eq_iff_iff]; simp; omega
  cases h1 : decide (0 ≤ t) <;> cases h2 : decide (t ≤ 255) <;> cases h3 : decide (0 ≤ a) <;> cases h4 : decide (a ≤ 65535) <;> cases h5 : decide ((n : Int) ≤ 255)
  all_goals
    rw [h1, h2, h3, h4, h5] at HR
    go_enter Tryd.func89, Tryd.ntmps89
    go_wp2
    go_ret
    exact ⟨ret_bool HR.out.symm, (Below.refl _ _).alloc (Nat.le_refl _) _⟩
end Go.Proofs.YtcfjcoockklkeaaDoor
