/-
  A NUMBER IN A RANGE: num.Fits with one number.
-/
import Derived.Test.YtkkjoghfdmmpaaaDoorValid3
namespace Go.Proofs.YtkkjoghfdmmpaaaDoor
open Go.RowKit

def fitsB (lo hi n : Int) : Bool := decide (lo ≤ n) && decide (n ≤ hi)
set_option maxHeartbeats 1000000 in
theorem fits_any (lo hi n : Int) (b : Nat) (w : World) (hc : w.cell? ⟨b, 0, none⟩ = some (.int .i64 n)) :
    Calls Tryd.prog 77 #[.int .i64 lo, .int .i64 hi, .slice (some ⟨b, 0, none⟩) 1 1] w fun e w' => e = .returned (.bool (fitsB lo hi n)) ∧ w' = w := by
  cases h1 : decide (n < lo)
  · cases h2 : decide (hi < n)
    · have HV := Lib.hid (show fitsB lo hi n = true by have := of_decide_eq_false h1; have := of_decide_eq_false h2; simp [fitsB]; omega)
      go_enter Tryd.func77, Tryd.ntmps77
      go_wp2
      refine wp_loop_rounds 4 ?_
      rw [rounds_succ]
      go_wp2
      rw [rounds_succ]
      go_wp2
      go_ret
      exact ⟨ret_bool HV.out.symm, rfl⟩
    · have HV := Lib.hid (show fitsB lo hi n = false by have := of_decide_eq_true h2; simp [fitsB]; omega)
      go_enter Tryd.func77, Tryd.ntmps77
      go_wp2
      refine wp_loop_rounds 4 ?_
      rw [rounds_succ]
      go_wp2
      go_ret
      exact ⟨ret_bool HV.out.symm, rfl⟩
  · have HV := Lib.hid (show fitsB lo hi n = false by have := of_decide_eq_true h1; simp [fitsB]; omega)
    go_enter Tryd.func77, Tryd.ntmps77
    go_wp2
    refine wp_loop_rounds 4 ?_
    rw [rounds_succ]
    go_wp2
    go_ret
    exact ⟨ret_bool HV.out.symm, rfl⟩
end Go.Proofs.YtkkjoghfdmmpaaaDoor
