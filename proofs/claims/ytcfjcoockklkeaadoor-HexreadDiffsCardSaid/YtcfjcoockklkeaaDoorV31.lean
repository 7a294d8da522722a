/-
  Image.Get (50 s). Conditions: none.
-/
import Derived.Test.YtcfjcoockklkeaaDoorV30
namespace Go.Proofs.YtcfjcoockklkeaaDoor
open Go.RowKit

set_option maxHeartbeats 1000000 in
set_option maxRecDepth 1000000 in
theorem imgGet_any (b n a : Nat) (d : Nat → Bool) (v : Nat → UInt8) (w : World) (h : ImgC w b d v n) (ha : a < 65536) :
    Calls Tryd.prog 81 #[.pointer (some ⟨b, 0, none⟩), .int .i64 a] w fun e w' => e = .returned (.tuple #[.int .u8 (if d a = true then ((v a).toNat : Int) else 0), .bool (d a)]) ∧ w' = w := by
  have hb := h.bytes a ha
  have hai : (0 : Int) ≤ a := by omega
  have ham : (a : Int) ≤ 100000 := by omega
  have h1 : decide ((a : Int) < 0) = false := by simp
  have h2 : decide ((65536 : Int) ≤ a) = false := by rw [decide_eq_false_iff_not]; omega
  have h3 : decide ((a : Int) < 65536) = true := by rw [decide_eq_true_iff]; omega
  have HS := Lib.hid (setHas_any b n a d v w h ha)
  clear h ha
  cases hd : d a
  · rw [hd] at HS
    clear hd h3
    go_enter Tryd.func81, Tryd.ntmps81
    go_wp2_with (go_at_call 112; refine HS.out.mono ?_; rintro e w1 ⟨rfl, rfl⟩)
    exact bodyPost_ret (v := .tuple #[.int .u8 0, .bool false]) (by simp [results, Tryd.results81, go_sem]) rfl ⟨rfl, rfl⟩
  · rw [hd] at HS
    clear hd
    go_enter Tryd.func81, Tryd.ntmps81
    go_upto_region 3 with (go_at_call 112; refine HS.out.mono ?_; rintro e w1 ⟨rfl, rfl⟩)
    have hge : ((65536 : Int) ≤ (a : Int)) = False := by rw [decide_eq_false_iff_not] at h2; exact eq_false h2
    have hx : (a : Int) < 65536 := by rw [decide_eq_true_iff] at h3; exact h3
    clear h1 h2 hge h3 ham HS
    go_wp2
    exact bodyPost_ret (v := .tuple #[.int .u8 (v a).toNat, .bool true]) (by simp [results, Tryd.results81, go_sem]) rfl ⟨rfl, rfl⟩
end Go.Proofs.YtcfjcoockklkeaaDoor
