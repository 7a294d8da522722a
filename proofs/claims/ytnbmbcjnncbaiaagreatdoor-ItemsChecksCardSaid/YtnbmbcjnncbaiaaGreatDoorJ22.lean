/-
  Law of chapter 13, ItemsChecks. Conditions: the library's table as its initialiser lays it.
-/
import Derived.Test.YtnbmbcjnncbaiaaGreatDoorJ21
import Derived.Test.YtnbmbcjnncbaiaaGreatDoorJ12
namespace Go.Proofs.YtnbmbcjnncbaiaaGreatDoor
open Go.RowKit Go.Shelf Go.Sort

set_option maxHeartbeats 8000000 in
set_option maxRecDepth 100000 in
theorem ItemsChecks_law (p : Blocks) (v : Value) (ls : List It) (o : Int) (w : World) (ho : o ≤ 9223372036854775807) (h : SlR itR w p v ls) (hT : Spc w) :
    Calls Tryz.prog 10 #[v, .int .i64 o] w fun e w' => e = .returned (.bool true) ∧ RowKit.Below w.heap.size w w' := by
  obtain ⟨a, c, rfl, _, _, _⟩ := h.it
  have HAL := Lib.hid (fun W (hb : RowKit.Below w.heap.size w W) => alive13_any W (hT.below hb))
  have HFW := Lib.hid (Few_any p _ ls w h)
  cases hfw : fewF ls
  · rw [hfw] at HFW
    clear h hT hfw
    go_enter Tryz.func10, Tryz.ntmps10
    go_wp2_with (first
      | (go_at_call 38; refine (HFW.out).mono ?_; rintro e w1 ⟨rfl, hw1⟩; subst w1)
      | (go_at_call 24; refine (HAL.out _ (Below.refl _ _)).mono ?_; rintro e w2 ⟨rfl, hb⟩; have H2 := Lib.hid hb; clear hb))
    go_ret
    exact ⟨rfl, H2.out⟩
  · rw [hfw] at HFW
    have hr := fewF_raw hfw
    have hl := (fewI_at hfw).1
    have HCV := Lib.hid (Covers_any p o _ ls w ho h (by omega) (by omega))
    have HC9 := Lib.hid (fun W (hb : RowKit.Below w.heap.size w W) => Covers13_any p o _ ls W (h.below hb) (by omega))
    have HCK := Lib.hid (fun W (hb : RowKit.Below w.heap.size w W) => Check_any p _ ls W (hT.below hb) (h.below hb) (by omega))
    have HK9 := Lib.hid (fun W (hb : RowKit.Below w.heap.size w W) => Check13_any p _ ls W (h.below hb) (by omega))
    generalize lsEq (itemsF (rawF ls)) ls = R at *
    generalize covF o ls = C at *
    clear h hT hfw hr hl
    cases hc : decide (0 ≤ C)
    all_goals
      rw [hc] at HCV
      first
        | (have hcc := of_decide_eq_true hc; have hmx : max C 0 = C := by omega)
        | (have hcc := of_decide_eq_false hc; have hmx : max C 0 = 0 := by omega)
      rw [hmx] at HCV
      clear hc
      go_enter Tryz.func10, Tryz.ntmps10
      go_wp2_with (first
        | (go_at_call 38; refine (HFW.out).mono ?_; rintro e w1 ⟨rfl, hw1⟩; subst w1)
        | (go_at_call 39; refine (HCV.out).mono ?_; rintro e w2 ⟨rfl, hb⟩; have H2 := Lib.hid hb; clear hb)
        | (go_at_call 40; refine (HC9.out _ H2.out).mono ?_; rintro e w3 ⟨rfl, hw3⟩; subst w3)
        | (go_at_call 24; refine (HAL.out _ H2.out).mono ?_; rintro e w4 ⟨rfl, hb⟩; have H4 := Lib.hid (H2.out.trans (hb.mono H2.out.size)); clear hb)
        | (go_at_call 37; refine (HCK.out _ H4.out).mono ?_; rintro e w5 ⟨rfl, hb⟩; have H5 := Lib.hid (H4.out.trans (hb.mono H4.out.size)); clear hb)
        | (go_at_call 41; refine (HK9.out _ H5.out).mono ?_; rintro e w6 ⟨rfl, hb⟩; have H6 := Lib.hid (H5.out.trans (hb.mono H5.out.size)); clear hb))
      go_ret
      first
        | exact ⟨rfl, H6.out⟩
        | exact ⟨ret_bool (a := !decide (0 ≤ C)) (by rw [decide_eq_false (show ¬ 0 ≤ C by omega)]; rfl), H6.out⟩
end Go.Proofs.YtnbmbcjnncbaiaaGreatDoor
