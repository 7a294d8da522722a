/-
  Law of chapter 12, DecodeFirst. Conditions: the library's table as its initialiser lays it.
-/
import Derived.Test.YtnbmbcjnncbaiaaGreatDoorD21
import Derived.Test.YtnbmbcjnncbaiaaGreatDoorD22
import Derived.Test.YtnbmbcjnncbaiaaGreatDoorD23
import Derived.Test.YtnbmbcjnncbaiaaGreatDoorDFa
import Derived.Test.YtnbmbcjnncbaiaaGreatDoorDFb
import Derived.Test.YtnbmbcjnncbaiaaGreatDoorDFc
namespace Go.Proofs.YtnbmbcjnncbaiaaGreatDoor
open Go.RowKit Go.Shelf Go.Sort

set_option maxHeartbeats 8000000 in
set_option maxRecDepth 100000 in
theorem DecodeFirst_law (p : Blocks) (v : Value) (l : List UInt8) (w : World) (h : SlR byteR w p v l) (hT : Spc w) :
    Calls Tryz.prog 4 #[v] w fun e w' => e = .returned (.bool true) ∧ RowKit.Below w.heap.size w w' := by
  obtain ⟨a, c, rfl⟩ : ∃ a c, v = .slice a l.length c := by obtain ⟨a, c, e, _⟩ := h; exact ⟨a, c, e⟩
  have HAL := Lib.hid (fun W (hb : RowKit.Below w.heap.size w W) => alive12_any W (hT.below hb))
  have HH := Lib.hid h
  have HT := Lib.hid hT
  clear h hT
  by_cases h1 : 1000 < l.length
  · have h1' : (1000 : Int) < (l.length : Int) := by omega
    go_enter Tryz.func4, Tryz.ntmps4
    go_wp2_with (go_at_call 15; refine (HAL.out _ (Below.refl _ _)).mono ?_; rintro e w1 ⟨rfl, hb⟩; have H1 := Lib.hid hb; clear hb)
    go_ret
    exact ⟨rfl, H1.out⟩
  have h1' : ¬ (1000 : Int) < (l.length : Int) := by omega
  by_cases h2 : l.length = 0
  · rw [h2]
    have HI := Lib.hid (fun W => InstrD_nil a c W)
    have HFI := Lib.hid (fun W => First_nil a c W)
    have HNE := Lib.hid (fun W => Need_nil a c W)
    have HSM := Lib.hid (fun W => Same12_any ⟨0, 0, [], [], false⟩ [] 0 0 (.agg itm0) (.agg itm0) W ⟨none, 0, none, 0, rfl, SlR.nil _ _ _, SlR.nil _ _ _⟩ ⟨none, 0, none, 0, rfl, SlR.nil _ _ _, SlR.nil _ _ _⟩)
    clear h1 h1'
    go_enter Tryz.func4, Tryz.ntmps4
    go_upto_region 4 with (go_at_call 19; refine (HI.out _).mono ?_; rintro e w1 ⟨rfl, hb⟩; have HF1 := Lib.hid (((Fr.start w).next hb).new' 27 #[.string ⟨#[]⟩, .slice none 0 0] (b := w1.heap.size) rfl); clear hb)
    generalize w1.alloc (.cells #[.string ⟨#[]⟩, .slice none 0 0] 27) = W1 at *
    generalize w1.heap.size = tb at *
    go_wp2_with (first
      | (go_at_call 15; refine (HAL.out _ HF1.out.below).mono ?_; rintro e w2 ⟨rfl, hb⟩; have HF2 := Lib.hid (HF1.out.next hb); clear hb)
      | (go_at_call 18; refine (HFI.out _).mono ?_; rintro e w3 ⟨rfl, hb⟩; have HF3 := Lib.hid (HF2.out.next hb); clear hb)
      | (go_at_call 20; refine (HSM.out _).mono ?_; rintro e w4 ⟨rfl, hb⟩; have HF4 := Lib.hid (HF3.out.next hb); clear hb)
      | (go_at_call 16; refine (HNE.out _).mono ?_; rintro e w5 ⟨rfl, hb⟩; have HF5 := Lib.hid (HF4.out.next hb); clear hb))
    go_ret
    exact ⟨rfl, HF5.out.below⟩
  · have h0 : 0 < l.length := by omega
    by_cases hi : (itF l).k = 1 ∧ (l.take (itF l).n).length = l.length
    · exact DF_yes p a c l w HH.out HT.out h1 h0 hi
    · by_cases hk1 : (itF l).k = 1
      · exact DF_no1 p a c l w HH.out HT.out h1 h0 hi hk1
      · exact DF_no2 p a c l w HH.out HT.out h1 h0 hi hk1
end Go.Proofs.YtnbmbcjnncbaiaaGreatDoor
