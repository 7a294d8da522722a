/-
  breadboardlaw05.HexreadEnds, whole. Conditions: the addresses fit their type; the library's table as its initialiser lays it.
-/
import Derived.Test.YtcfjcoockklkeaaDoorV24
namespace Go.Proofs.YtcfjcoockklkeaaDoor
open Go.RowKit

set_option maxHeartbeats 1000000 in
set_option maxRecDepth 100000 in
theorem Ends_few (p : Blocks) (v : Value) (R : List (Int × List UInt8)) (more : ByteArray) (w : World) (h : SlR runIR w p v R) (hT : Deb w) (hf : fewB R = false) :
    Calls Tryd.prog 9 #[v, .string more] w fun e w' => e = .returned (.bool true) ∧ Below w.heap.size w w' := by
  have HT := Lib.hid hT
  have HBU := Lib.hid (Build_no p v R w h hf)
  have HF := Lib.hid (fun (W : World) (hb : Below w.heap.size w W) => Few_any _ v R W (h.old.below hb))
  rw [hf] at HF
  clear h hT hf
  by_cases hm : (more.size : Int) ≤ 200
  · go_enter Tryd.func9, Tryd.ntmps9
    go_wp2_with (first
      | (go_at_call 12; refine HBU.out.mono ?_; rintro e w1 ⟨rfl, rfl⟩)
      | (go_at_call 31; refine (alive5_any _ HT.out).mono ?_; rintro e w2 ⟨rfl, hb⟩; have HB2 := Lib.hid hb; clear hb)
      | (go_at_call 14; refine (HF.out _ HB2.out).mono ?_; rintro e w3 ⟨rfl, rfl⟩))
    go_ret
    exact ⟨rfl, HB2.out⟩
  · have hm2 : (200 : Int) < (more.size : Int) := by omega
    clear hm
    go_enter Tryd.func9, Tryd.ntmps9
    go_wp2_with (first
      | (go_at_call 12; refine HBU.out.mono ?_; rintro e w1 ⟨rfl, rfl⟩)
      | (go_at_call 31; refine (alive5_any _ HT.out).mono ?_; rintro e w2 ⟨rfl, hb⟩; have HB2 := Lib.hid hb; clear hb))
    go_ret
    exact ⟨rfl, HB2.out⟩
set_option maxHeartbeats 1000000 in
set_option maxRecDepth 100000 in
theorem Ends_long (p : Blocks) (v : Value) (R : List (Int × List UInt8)) (more : ByteArray) (hm : ¬ more.size ≤ 200) (w : World) (h : SlR runIR w p v R) (hT : Deb w) (hA : ∀ r ∈ R, -9223372036854775808 ≤ r.1 ∧ r.1 ≤ 9223372036854775807) (hf : fewB R = true) :
    Calls Tryd.prog 9 #[v, .string more] w fun e w' => e = .returned (.bool true) ∧ Below w.heap.size w w' := by
  have HT := Lib.hid hT
  have HBU := Lib.hid (Build_yes p v R w h hT hA hf)
  have hm2 : (200 : Int) < (more.size : Int) := by omega
  clear h hT hf hm hA
  go_enter Tryd.func9, Tryd.ntmps9
  go_wp2_with (first
    | (go_at_call 12; refine HBU.out.mono ?_; rintro e w1 ⟨b, n, cv, rfl, hbo⟩; have HB1 := Lib.hid hbo.below; clear hbo)
    | (go_at_call 31; refine (alive5_any _ (HT.out.below HB1.out)).mono ?_; rintro e w2 ⟨rfl, hb⟩; have HB2 := Lib.hid (HB1.out.trans (hb.mono HB1.out.size)); clear hb))
  go_ret
  exact ⟨rfl, HB2.out⟩
theorem Ends_any (p : Blocks) (v : Value) (R : List (Int × List UInt8)) (more : ByteArray) (w : World) (h : SlR runIR w p v R) (hT : Deb w) (hA : ∀ r ∈ R, -9223372036854775808 ≤ r.1 ∧ r.1 ≤ 9223372036854775807) :
    Calls Tryd.prog 9 #[v, .string more] w fun e w' => e = .returned (.bool true) ∧ Below w.heap.size w w' := by
  by_cases hf : fewB R = true
  · by_cases hm : more.size ≤ 200
    · cases hall : more.data.toList.all is3 with
      | true => exact Ends_blank p v R more hm w h hT hA hf hall
      | false =>
        obtain ⟨y, r, hr⟩ : ∃ y r, splitNL more.data.toList = y :: r := by
          cases hs : splitNL more.data.toList with
          | nil => exact absurd hs (splitNL_ne _)
          | cons y L => exact ⟨y, L, rfl⟩
        have hone : ∀ f0 : ByteArray, [f0.data.toList] = (splitNL more.data.toList).take 1 → f0.data.toList = y := fun f0 hq => by
          rw [hr] at hq
          injection hq
        cases hb : blankL (Lib.trimRightB y 13) with
        | true =>
          by_cases hg : (readH (textOf 16 (runsOf (putF R).1 (putF R).2) ++ more.data.toList)).1.2 = 0
          · exact Ends_bg p v R more hm w h hT hA hf hall (fun f0 hq => by rw [hone f0 hq]; exact hb) hg
          · exact Ends_bb p v R more hm w h hT hA hf hall (fun f0 hq => by rw [hone f0 hq]; exact hb) hg
        | false =>
          by_cases h13 : (13 : UInt8) ∈ more.data.toList
          · by_cases hg : (readH (textOf 16 (runsOf (putF R).1 (putF R).2) ++ more.data.toList)).1.2 = 0
            · exact Ends_cg p v R more hm w h hT hA hf hall (fun f0 hq => by rw [hone f0 hq]; exact hb) h13 hg
            · exact Ends_cb p v R more hm w h hT hA hf hall (fun f0 hq => by rw [hone f0 hq]; exact hb) h13 hg
          · exact Ends_after p v R more hm w h hT hA hf hall (fun f0 hq => by rw [hone f0 hq]; exact hb) h13
    · exact Ends_long p v R more hm w h hT hA hf
  · exact Ends_few p v R more w h hT (by simpa using hf)
end Go.Proofs.YtcfjcoockklkeaaDoor
